/-
  Texts laid together (part 2): what the statement's walk and plain law need. No condition.
-/
import Derived.Laws.StructEq
import Derived.Laws.MakeOwn
import Derived.Laws.IdiomStrings
import Derived.Lib.EndianBits
import Derived.Test.YtochjihddnkhcaaZ1
namespace Go.Proofs.Ytochjihddnkhcaa.A
open Go.RowKit L
set_option linter.unusedVariables false
set_option linter.unusedSimpArgs false
/-- A number's byte. -/
def u8 (x : Int) : UInt8 := UInt8.ofNat (x % 256).toNat
theorem u8_toNat (x : Int) : ((u8 x).toNat : Int) = x % 256 := by
  have h1 := Int.emod_nonneg x (show (256 : Int) ≠ 0 by omega)
  have h2 := Int.emod_lt_of_pos x (show (0 : Int) < 256 by omega)
  rw [u8, UInt8.toNat_ofNat_of_lt' (by simp [UInt8.size]; omega)]
  omega
theorem wU8any {x : Int} : IntKind.u8.wrap x = ((u8 x).toNat : Int) := by
  rw [u8_toNat]; rfl
section
variable {Γ : Cx} {P : Program} {Q : Exit → Act → World → Prop} {E : Env} {H : List HE} {N : Nat} {o : Oper} {ops : Array Oper} {rest : List Oper}

def IsM (v : AV) (e : HE) : AV → List HE → Prop := fun r H' => r = v ∧ H' = [e]

theorem perm_idx : ∀ {H : List HE} {i : Nat} {e : HE}, H[i]? = some e → H.Perm (e :: H.eraseIdx i)
  | [], i, e, h => by simp at h
  | x :: r, 0, e, h => by simp at h; subst h; exact List.Perm.refl _
  | x :: r, i + 1, e, h => ((perm_idx (H := r) (i := i) (by simpa using h)).cons x).trans (List.Perm.swap ..)
theorem perm_set : ∀ {H : List HE} {i : Nat} {e e' : HE}, H[i]? = some e → (e' :: H.eraseIdx i).Perm (H.set i e')
  | [], i, e, e', h => by simp at h
  | x :: r, 0, e, e', h => List.Perm.refl _
  | x :: r, i + 1, e, e', h => (List.Perm.swap ..).trans ((perm_set (H := r) (i := i) (e' := e') (by simpa using h)).cons x)

theorem AO.perm {H' : List HE} {l : List Oper} (hp : H.Perm H') (h : AO Γ P ops Q l E H') : AO Γ P ops Q l E H := fun R a W hs ha => h R a W (hs.perm hp.symm) ha

/-- A call that leaves one block of the caller's changed. -/
theorem AO.callM1 {f : FuncId} {d : Nat} {xs : List Operand} {ats : Array TypeId} {args : List AV} {i : Nat} {e e' : HE} {v : AV} {H' : List HE} {fn : Func} (ho : o.op = .call { callee := .value (.func f), args := xs.toArray, argTypes := ats }) (hgd : o.guard = none) (hfn : P.funcs[f]? = some fn) (hn : (fn.name == "runtime.NumGoroutine") = false) (hb : fn.body.isNone = false)
    (hx : evs E xs = some args) (hd : o.dst = some d) (hN : Nat.ble (d + 1) Γ.N = true) (hi : H[i]? = some e) (h : Sp P f args [e] (IsM v e')) (hH : H.set i e' = H') (next : AO Γ P ops Q rest ((d, v) :: E) H') : AO Γ P ops Q (o :: rest) E H :=
  AO.callM (H0 := [e]) (H1 := H.eraseIdx i) ho hgd hfn hn hb hx hd (Nat.le_of_ble_eq_true hN) (perm_idx hi) h (by
    rintro _ _ ⟨rfl, rfl⟩
    exact AO.perm (by rw [← hH]; exact perm_set hi) next)
/-- The row reads as this while it is lent. -/
theorem row_ro {R : Nat → Prop} {W : World} {v : Value} {T sz n : Nat} {xs : List AV} (h : HE.ok R W (.row v T sz n xs)) : RelV (fun b => R b ∨ (HE.row v T sz n xs).foot b) W (.ro false n xs) v := by
  obtain ⟨us, hown, hr⟩ := h
  have hr' := hr.mono (R' := fun b => R b ∨ (HE.row v T sz n xs).foot b) (fun _ h => .inl h) (W' := W) (fun _ _ => rfl)
  rcases hown.2 with ⟨rfl, rfl⟩ | ⟨g, cap, cur, rfl, hbg, hg, h1, h2, h3, h4⟩
  · have : xs = [] := List.eq_nil_of_length_eq_zero (by rw [← hr.1, hown.1]; simp)
    subst this
    exact .emp _ _ _ (fun h => by cases h) (Nat.zero_le _)
  · refine .ro false n xs g 0 cap (fun j => us.getD j undef) (.inr rfl) (fun j hj => ?_) (fun j hj => hr'.2 j hj) h1 h2 (fun h => by cases h)
    have hj' : j < us.length := by rw [hr.1]; exact hj
    have := hown.cells (g := g) rfl j us[j] (by simp [hj'])
    rw [addr_add] at this
    rw [this]
    simp [List.getD, hj']

inductive LendL (v : Value) (y : AV) : List AV → List AV → Prop
  | nil : LendL v y [] []
  | same {a : AV} {r r' : List AV} : LendL v y r r' → LendL v y (a :: r) (a :: r')
  | lend {r r' : List AV} : LendL v y r r' → LendL v y (.val v :: r) (y :: r')
theorem LendL.rel {R R1 : Nat → Prop} {W : World} {v : Value} {y : AV} (hR : ∀ b, R b → R1 b) (hy : RelV R1 W y v) {a a' : List AV} (h : LendL v y a a') : ∀ {us : List Value}, RelL R W a us → RelL R1 W a' us := by
  induction h with
  | nil => intro us h; exact h.mono hR (fun _ _ => rfl)
  | same _ ih =>
    intro us h
    obtain ⟨u, r, rfl, h1, h2⟩ := h.uncons
    exact RelL.cons (h1.mono hR (fun _ _ => rfl)) (ih h2)
  | lend _ ih =>
    intro us h
    obtain ⟨u, r, rfl, h1, h2⟩ := h.uncons
    have := h1.val_inv
    subst this
    exact RelL.cons hy (ih h2)
/-- A call to which a row of the caller's is lent, and whose yield holds no memory. -/
theorem O.callL {f : FuncId} {xs : List Operand} {ats : Array TypeId} {args args' : List AV} {v c : Value} {T sz n : Nat} {rs : List AV} {fn : Func} (ho : o.op = .call { callee := .value (.func f), args := xs.toArray, argTypes := ats }) (hfn : P.funcs[f]? = some fn) (hn : (fn.name == "runtime.NumGoroutine") = false) (hb : fn.body.isNone = false)
    (hx : evs E xs = some args) (hm : HE.row v T sz n rs ∈ H) (h : Sp P f args' [] (Is (.val c))) (hl : LendL v (.ro false n rs) args args') : OpW P N o E H (Is (.val c)) := fun R a W h0 h2 h3 ha => by
  have hR : ∀ b, R b → R b ∨ (HE.row v T sz n rs).foot b := fun _ h => .inl h
  have hlt : ∀ b, R b ∨ (HE.row v T sz n rs).foot b → b < W.heap.size := by
    rintro b (hb | hb)
    · exact h0 b hb
    · exact HE.ok_lt (h2 _ hm) hb
  unfold Oper.wp
  rw [run_callF ho hfn hn hb, List.map_toArray]
  have hc := h W _ (xs.map a.eval) hlt (fun e he => by cases he) .nil (hl.rel hR (row_ro (h2 _ hm)) (ha.evs hx))
  refine Calls.mono hc ?_
  rintro e W' ⟨u, r, H', R', rfl, ⟨rfl, rfl⟩, hs, hv⟩
  have p := fn_post1 hs hv hlt
  exact ⟨u, .val c, [], R, rfl, ⟨rfl, rfl⟩, p.ext, fun _ h => h, fun _ h => .inl h, by rw [hv.val_inv]; exact .val _, fun _ he => (by cases he), .nil⟩
end
end Go.Proofs.Ytochjihddnkhcaa.A

namespace Go.Proofs.Ytochjihddnkhcaa.A
open Go.RowKit L
set_option linter.unusedVariables false
set_option linter.unusedSimpArgs false
section
variable {Γ : Cx} {P : Program} {Q : Exit → Act → World → Prop} {E : Env} {H : List HE} {N : Nat} {o : Oper} {ops : Array Oper} {rest : List Oper}

end
end Go.Proofs.Ytochjihddnkhcaa.A

namespace Go.Proofs.Ytochjihddnkhcaa.A
open Go.RowKit L
set_option linter.unusedVariables false
set_option linter.unusedSimpArgs false
section
variable {Γ : Cx} {P : Program} {Q : Exit → Act → World → Prop} {E : Env} {H : List HE} {N : Nat} {o : Oper} {ops : Array Oper} {rest : List Oper}

theorem O.and_ {T T' : Nat} {x y : Operand} {k : IntKind} {p q c : Int} (ho : o.op = .binOp .and T x y T') (hx : ev E x = some (.val (.int k p))) (hy : ev E y = some (.val (.int k q))) (hc : Go.bits .and k p q = c) : OpW P N o E H (Is (.val (.int k c))) :=
  O.binI ho hx hy fun W => by simp [binOp, intBits_and, hc]
theorem O.or_ {T T' : Nat} {x y : Operand} {k : IntKind} {p q c : Int} (ho : o.op = .binOp .or T x y T') (hx : ev E x = some (.val (.int k p))) (hy : ev E y = some (.val (.int k q))) (hc : Go.bits .or k p q = c) : OpW P N o E H (Is (.val (.int k c))) :=
  O.binI ho hx hy fun W => by simp [binOp, intBits_or, hc]
theorem O.xor_ {T T' : Nat} {x y : Operand} {k : IntKind} {p q c : Int} (ho : o.op = .binOp .xor T x y T') (hx : ev E x = some (.val (.int k p))) (hy : ev E y = some (.val (.int k q))) (hc : Go.bits .xor k p q = c) : OpW P N o E H (Is (.val (.int k c))) :=
  O.binI ho hx hy fun W => by simp [binOp, intBits_xor, hc]
def valsOf : List AV → Option (List Value)
  | [] => some []
  | .val v :: r => (valsOf r).map (v :: ·)
  | _ :: _ => none
end
end Go.Proofs.Ytochjihddnkhcaa.A

namespace Go.Proofs.Ytochjihddnkhcaa.A
open Go.RowKit L
set_option linter.unusedVariables false
set_option linter.unusedSimpArgs false
section
variable {Γ : Cx} {P : Program} {Q : Exit → Act → World → Prop} {E : Env} {H : List HE} {N : Nat} {o : Oper} {ops : Array Oper} {rest : List Oper}

theorem subPnil {H : List HE} : ∃ H1, H1.Sublist H ∧ ([] : List HE).Perm H1 := ⟨[], List.nil_sublist _, .nil⟩
theorem subPcons (i : Nat) {e : HE} {r H : List HE} (h : H[i]? = some e) (hr : ∃ H1, H1.Sublist (H.eraseIdx i) ∧ r.Perm H1) : ∃ H1, H1.Sublist H ∧ (e :: r).Perm H1 := by
  obtain ⟨H1, h1, h2⟩ := hr
  obtain ⟨hlt, rfl⟩ := List.getElem?_eq_some_iff.1 h
  rw [List.eraseIdx_eq_take_drop_succ, List.sublist_append_iff] at h1
  obtain ⟨A, B, rfl, hA, hB⟩ := h1
  refine ⟨A ++ H[i] :: B, ?_, ?_⟩
  · have e : H = H.take i ++ H[i] :: H.drop (i + 1) := by rw [← List.drop_eq_getElem_cons hlt, List.take_append_drop]
    have h9 : (A ++ H[i] :: B).Sublist (H.take i ++ H[i] :: H.drop (i + 1)) := hA.append (hB.cons_cons _)
    rwa [← e] at h9
  · exact (h2.cons _).trans (List.perm_middle.symm)
/-- What a loop only reads stays as it is. -/
def LoopK (K : Env) (I : Nat → Env → List HE → Prop) : Nat → Env → List HE → Prop := fun n E H => ∃ E1, I n E1 H ∧ E = E1 ++ K
theorem env_app {K E1 : Env} (h1 : ∀ p ∈ E1, look E p.1 = some p.2) (h2 : ∀ p ∈ K, look E p.1 = some p.2) : ∀ p ∈ E1 ++ K, look E p.1 = some p.2 := fun p hp => by
  rcases List.mem_append.1 hp with hp | hp
  · exact h1 p hp
  · exact h2 p hp
theorem AW.loopK {c : Code} (K : Env) (I : Nat → Env → List HE → Prop) (n : Nat) {E0 : Env} {H0 : List HE} (hI : I n E0 H0) (hK : ∀ p ∈ K, look E p.1 = some p.2) (hE : ∀ p ∈ E0, look E p.1 = some p.2) (hH : ∃ H1, H1.Sublist H ∧ H0.Perm H1)
    (round : ∀ n E1 H, I n E1 H → AW Γ P (LoopQ (LoopK K I) n Γ Q) c (E1 ++ K) H) : AW Γ P Q (.loop c) E H :=
  AW.loop (LoopK K I) n (E0 := E0 ++ K) (H0 := H0) ⟨E0, hI, rfl⟩ (env_app hE hK) hH (by
    rintro n _ H ⟨E1, h, rfl⟩
    exact round n E1 H h)
theorem AQ.loopKN {K : Env} {I : Nat → Env → List HE → Prop} {n : Nat} (m : Nat) (E1 : Env) (H0 : List HE) (hm : m < n) (hI : I m E1 H0) (hK : ∀ p ∈ K, look E p.1 = some p.2) (hE : ∀ p ∈ E1, look E p.1 = some p.2) (hH : ∃ H1, H1.Sublist H ∧ H0.Perm H1) :
    AQ Γ (LoopQ (LoopK K I) n Γ Q) .normal E H := AQ.loopN m (E1 ++ K) H0 hm ⟨E1, hI, rfl⟩ (env_app hE hK) hH

end
end Go.Proofs.Ytochjihddnkhcaa.A

namespace Go.Proofs.Ytochjihddnkhcaa.A
open Go.RowKit L
set_option linter.unusedVariables false
set_option linter.unusedSimpArgs false

section
variable {P : Program} {ops : Array Oper} {N : Nat}

/-- What an operation leaves, its temporary told apart. -/
theorem Oper.wp_put {o : Oper} {a : Act} {w : World} {K : Act → World → Prop} {Q : Exit → Act → World → Prop} (h : o.wp P a w K Q) : o.wp P a w (fun A' W' => K A' W' ∧ ((∃ u, A' = a.put o.dst u) ∨ A'.defers ≠ [])) Q := by
  unfold Oper.wp at h ⊢
  cases hr : (execOp a.eval o).run P w with
  | ok n w' =>
    rw [hr] at h
    cases n with
    | value v => exact ⟨h, .inl ⟨v, rfl⟩⟩
    | skip => exact ⟨h, .inl ⟨_, rfl⟩⟩
    | defer d => exact ⟨h, .inr (by simp [Act.put]; split <;> simp)⟩
    | enter f args =>
      refine Calls.mono h ?_
      intro e w'' he
      cases e with
      | returned v => exact ⟨he, .inl ⟨v, rfl⟩⟩
      | _ => exact he
    | row r args =>
      refine Rows.mono h ?_
      intro v w'' he
      exact ⟨he, .inl ⟨v, rfl⟩⟩
    | _ => exact h
  | halt x w' =>
    rw [hr] at h
    cases x <;> exact h

theorem rst_skip {E : Env} {d : Nat} {v : AV} : ∀ {ts : List Nat}, d ∉ ts → rst ((d, v) :: E) ts = rst E ts
  | [], _ => rfl
  | t :: r, h => by
    simp only [List.mem_cons, not_or] at h
    have hb : Nat.beq d t = false := by
      cases hb : Nat.beq d t with
      | false => rfl
      | true => exact absurd (Nat.eq_of_beq_eq_true hb) h.1
    have hl : look ((d, v) :: E) t = look E t := by simp only [look, hb]; rfl
    rw [rst, rst, hl, rst_skip h.2]
theorem look_skip {E : Env} {d t : Nat} {v : AV} (h : d ≠ t) : look ((d, v) :: E) t = look E t := by
  have hb : Nat.beq d t = false := by
    cases hb : Nat.beq d t with
    | false => rfl
    | true => exact absurd (Nat.eq_of_beq_eq_true hb) h
  simp only [look, hb]; rfl
theorem look_here {E : Env} {d : Nat} {v : AV} : look ((d, v) :: E) d = some v := by simp [look]

/-- What a writing operation leaves. -/
def QS (Γ : Cx) (d : Option Nat) (S : AV → List HE → Prop) : Exit → Act → World → Prop := fun x a W =>
  match x with
  | .normal => a.defers = [] ∧ ∃ v H' R', S v H' ∧ RelS Γ R' H' W ∧ ∀ t, d = some t → RelV R' W v (a.eval (.tmp t))
  | _ => False
def putE : Option Nat → AV → Env → Env
  | some d, v, E => (d, v) :: E
  | none, _, E => E

/-- Operations in this order: true those that write, false those that read. -/
def AM (P : Program) (N : Nat) (ops : Array Oper) (Hs : List HE) (K : Env → List HE → Prop) : List (Nat × Bool) → Env → List HE → Prop
  | [], E, H => K E H
  | (i, true) :: r, E, H => ∃ o, ops[i]? = some o ∧ ∀ w0 R0, AO ⟨w0, footOf H, R0, N⟩ P ops (QS ⟨w0, footOf H, R0, N⟩ o.dst (fun v H' => AM P N ops Hs K r (putE o.dst v E) H')) [o] (rst E (o.looksAt ops)) H
  | (i, false) :: r, E, H => ∃ o d v, ops[i]? = some o ∧ o.dst = some d ∧ d < N ∧ OpF P N ops o (rst E (o.looksAt ops)) Hs (Is v) ∧ AM P N ops Hs K r ((d, v) :: E) H

/-- One operation ahead of another. -/
def ordPair (ops : Array Oper) (an : List (List Nat)) (i : Nat) (b : Bool) (j : Nat) (c : Bool) : Bool :=
  match ops[i]?, ops[j]? with
  | some oi, some oj =>
    let waits := oj.after.any fun e => Region.binds .any e && e.on == i
    let anc := (an.getD j []).contains i
    (i != j) && (!b || anc) &&
    (match oj.dst with
      | some d => if c then (!((oi.looksAt ops).contains d || oi.dst == some d)) || anc else !(oi.looksAt ops).contains d && oi.dst != some d
      | none => c) &&
    (match oi.dst with
      | some d => !(oj.looksAt ops).contains d || waits
      | none => true)
  | _, _ => false
def ordPairs (ops : Array Oper) (an : List (List Nat)) : List (Nat × Bool) → Bool
  | [] => true
  | (i, b) :: r => (b || (match ops[i]? with | some o => (match o.dst with | some d => !(o.looksAt ops).contains d | none => false) | none => false)) && r.all (fun q => ordPair ops an i b q.1 q.2) && ordPairs ops an r
def ordOk (ops : Array Oper) (ord : List (Nat × Bool)) : Bool :=
  ((List.range ops.size).all fun i => (ord.map Prod.fst).contains i) && (ord.all fun q => decide (q.1 < ops.size)) &&
  ((List.range ops.size).all fun i => (ops[i]?).all fun o => o.after.all fun e => !Region.binds .any e || decide (e.on < i)) && ordPairs ops (ancs ops.toList []) ord

theorem ordPairs_app {an : List (List Nat)} : ∀ {pre r : List (Nat × Bool)}, ordPairs ops an (pre ++ r) = true → ordPairs ops an r = true ∧ ∀ q ∈ pre, ∀ s ∈ r, ordPair ops an q.1 q.2 s.1 s.2 = true
  | [], r, h => ⟨h, fun q hq => by cases hq⟩
  | (i, b) :: pre, r, h => by
    rw [List.cons_append, ordPairs] at h
    simp only [Bool.and_eq_true, List.all_eq_true] at h
    obtain ⟨h1, h2⟩ := ordPairs_app h.2
    refine ⟨h1, fun q hq s hs => ?_⟩
    rcases List.mem_cons.1 hq with rfl | hq
    · exact h.1.2 s (List.mem_append_right _ hs)
    · exact h2 q hq s hs

structure PairOk (ops : Array Oper) (an : List (List Nat)) (i : Nat) (b : Bool) (oi : Oper) (j : Nat) (c : Bool) (oj : Oper) : Prop where
  ne : i ≠ j
  main : b = true → i ∈ an.getD j []
  flt : c = false → ∃ d, oj.dst = some d ∧ d ∉ oi.looksAt ops ∧ oi.dst ≠ some d
  mn : c = true → ∀ d, oj.dst = some d → (d ∈ oi.looksAt ops ∨ oi.dst = some d) → i ∈ an.getD j []
  reads : ∀ d, oi.dst = some d → d ∈ oj.looksAt ops → ∃ e ∈ oj.after, Region.binds .any e = true ∧ e.on = i
theorem pairOk {an : List (List Nat)} {i j : Nat} {b c : Bool} {oi oj : Oper} (h : ordPair ops an i b j c = true) (hi : ops[i]? = some oi) (hj : ops[j]? = some oj) : PairOk ops an i b oi j c oj := by
  unfold ordPair at h
  rw [hi, hj] at h
  simp only [Bool.and_eq_true, bne_iff_ne, ne_eq] at h
  obtain ⟨⟨⟨h1, h2⟩, h3⟩, h4⟩ := h
  refine ⟨h1, fun hb => ?_, fun hc => ?_, fun hc d hd hm => ?_, fun d hd hm => ?_⟩
  · subst hb; simpa using h2
  · subst hc
    cases hd : oj.dst with
    | none => rw [hd] at h3; cases h3
    | some d =>
      rw [hd] at h3
      simp at h3
      exact ⟨d, rfl, h3.1, h3.2⟩
  · subst hc
    rw [hd] at h3
    simp at h3
    rcases h3 with h3 | h3
    · rcases hm with hm | hm
      · exact absurd hm h3.1
      · exact absurd hm h3.2
    · exact h3
  · rw [hd] at h4
    simp only [Bool.or_eq_true, Bool.not_eq_true', List.contains_eq_mem, decide_eq_false_iff_not] at h4
    rcases h4 with h4 | h4
    · exact absurd hm h4
    · obtain ⟨x, hx, hx2⟩ := any_mem h4
      simp only [Bool.and_eq_true, beq_iff_eq] at hx2
      exact ⟨x, hx, hx2.1, hx2.2⟩

/-- Two steps, the first over all, the second over what it may write. -/
theorem RelS.part {Γ : Cx} {R R' : Nat → Prop} {Hm Hs H' : List HE} {W W' : World} (hs0 : RelS Γ R (Hm ++ Hs) W) (hs' : RelS ⟨W, footOf Hm, R, N⟩ R' H' W') : RelS Γ R' (H' ++ Hs) W' ∧ ∀ b, R b → W'.heap[b]? = W.heap[b]? := by
  have hS0 : ∀ b, footOf Hm b → Γ.w0.heap.size ≤ b ∨ Γ.S b := fun b ⟨e, he, hb⟩ => (hs0.own e (List.mem_append_left _ he) b hb).1
  have hnR : ∀ b, footOf Hm b → ¬ R b := fun b ⟨e, he, hb⟩ => (hs0.own e (List.mem_append_left _ he) b hb).2
  have h1lt : ∀ e ∈ Hs, ∀ b, e.foot b → b < W.heap.size := fun e he b hb => HE.ok_lt (hs0.ok e (List.mem_append_right _ he)) hb
  have h10 : ∀ e ∈ Hs, ∀ b, e.foot b → ¬ footOf Hm b := fun e he b hb ⟨f, hf, hb'⟩ => (List.pairwise_append.1 hs0.disj).2.2 f hf e he b hb' hb
  have hR : ∀ b, R b → W'.heap[b]? = W.heap[b]? := fun b hb => hs'.mods.block b (hs0.rlt b hb) fun hh => hnR b hh hb
  refine ⟨⟨Mods.then hs0.mods hs'.mods fun b hb hh => ?_, hs'.rlt, fun b hb => hs'.rsub b (hs0.rsub b hb), fun b hb => ?_, ?_, ?_, ?_⟩, hR⟩
  · rcases hS0 b hh with h | h
    · omega
    · exact h
  · rcases hs'.rnew b hb with h | h | h
    · exact hs0.rnew b h
    · exact .inr (.inl (Nat.le_trans hs0.mods.size h))
    · exact .inr (hS0 b h)
  · intro e he
    rcases List.mem_append.1 he with he | he
    · exact hs'.ok e he
    · exact HE.ok_mono hs'.rsub hR hs'.mods.size (fun b hb => hs'.mods.block b (h1lt e he b hb) (h10 e he b hb)) (hs0.ok e (List.mem_append_right _ he))
  · intro e he b hb
    rcases List.mem_append.1 he with he | he
    · obtain ⟨h2, h3⟩ := hs'.own e he b hb
      refine ⟨?_, h3⟩
      rcases h2 with h2 | h2
      · exact .inl (Nat.le_trans hs0.mods.size h2)
      · exact hS0 b h2
    · refine ⟨(hs0.own e (List.mem_append_right _ he) b hb).1, fun hr => ?_⟩
      rcases hs'.rnew b hr with h | h | h
      · exact (hs0.own e (List.mem_append_right _ he) b hb).2 h
      · have h5 := h1lt e he b hb
        exact absurd h (by simpa using h5)
      · exact h10 e he b hb h
  · rw [List.pairwise_append]
    refine ⟨hs'.disj, (List.pairwise_append.1 hs0.disj).2.1, fun e he f hf b hb hb' => ?_⟩
    rcases (hs'.own e he b hb).1 with h | h
    · have h5 := h1lt f hf b hb'
      exact absurd h (by simpa using h5)
    · exact h10 f hf b hb' h

/-- The state on the way. -/
structure MI (P : Program) (Γ : Cx) (ops : Array Oper) (Hs : List HE) (K : Env → List HE → Prop) (ord : List (Nat × Bool)) (listed : Array Bool) (A : Act) (W : World) (pre ms : List (Nat × Bool)) (Pd : List Nat) (E : Env) (H : List HE) (R : Nat → Prop) : Prop where
  size : listed.size = ops.size
  closed : Closed ops listed
  part : ∀ i, i < ops.size → (listed.getD i false = false ↔ i ∈ Pd ∨ i ∈ ms.map Prod.fst)
  ord : ord = pre ++ ms
  pdp : ∀ i ∈ Pd, (i, false) ∈ pre
  am : AM P Γ.N ops Hs K ms E H
  pend : ∀ i ∈ Pd, ∃ o d v, ops[i]? = some o ∧ o.dst = some d ∧ d < Γ.N ∧ look E d = some v ∧ OpF P Γ.N ops o (rst E (o.looksAt ops)) Hs (Is v)
  rels : RelS Γ R (H ++ Hs) W
  defers : A.defers = []
  tmps : A.tmps.size = Γ.N
  act : ∀ t v, look E t = some v → (∀ i ∈ Pd, ∀ o, ops[i]? = some o → o.dst ≠ some t) → RelV R W v (A.eval (.tmp t))

variable {Γ : Cx} {Hs : List HE} {K : Env → List HE → Prop} {ord : List (Nat × Bool)}

/-- What reads is pending as soon as it may run. -/
theorem MI.absorb {listed : Array Bool} {A : Act} {W : World} {R : Nat → Prop} (hok : ordPairs ops (ancs ops.toList []) ord = true) : ∀ (ms pre : List (Nat × Bool)) (Pd : List Nat) (E : Env) (H : List HE), MI P Γ ops Hs K ord listed A W pre ms Pd E H R →
    ∃ pre' ms' Pd' E', MI P Γ ops Hs K ord listed A W pre' ms' Pd' E' H R ∧ (ms' = [] ∨ ∃ m r, ms' = (m, true) :: r)
  | [], pre, Pd, E, H, h => ⟨pre, [], Pd, E, h, .inl rfl⟩
  | (m, true) :: r, pre, Pd, E, H, h => ⟨pre, _, Pd, E, h, .inr ⟨m, r, rfl⟩⟩
  | (j, false) :: r, pre, Pd, E, H, h => by
    obtain ⟨o, d, v, ho, hd, hN, hop, ham⟩ := h.am
    have hord := h.ord
    have hq := ordPairs_app (pre := pre) (r := (j, false) :: r) (by rw [← hord]; exact hok)
    have hself : d ∉ o.looksAt ops := by
      have := hq.1
      rw [ordPairs] at this
      simp only [Bool.and_eq_true, ho, hd, Bool.false_or] at this
      simpa using this.1.1
    have hp : ∀ i ∈ Pd, ∀ oi, ops[i]? = some oi → d ∉ oi.looksAt ops ∧ oi.dst ≠ some d := fun i hi oi hoi => by
      have := pairOk (hq.2 _ (h.pdp i hi) (j, false) (List.mem_cons_self ..)) hoi ho
      obtain ⟨d', h1, h2, h3⟩ := this.flt rfl
      rw [hd] at h1
      cases h1
      exact ⟨h2, h3⟩
    refine MI.absorb hok r (pre ++ [(j, false)]) (j :: Pd) ((d, v) :: E) H ⟨h.size, h.closed, fun i hi => ?_, by rw [hord]; simp, fun i hi => ?_, ham, fun i hi => ?_, h.rels, h.defers, h.tmps, fun t x ht hpd => ?_⟩
    · rw [h.part i hi]
      simp only [List.map_cons, List.mem_cons]
      constructor
      · rintro (h | h | h)
        · exact .inl (.inr h)
        · exact .inl (.inl h)
        · exact .inr h
      · rintro ((h | h) | h)
        · exact .inr (.inl h)
        · exact .inl h
        · exact .inr (.inr h)
    · rcases List.mem_cons.1 hi with rfl | hi
      · simp
      · exact List.mem_append_left _ (h.pdp i hi)
    · rcases List.mem_cons.1 hi with rfl | hi
      · exact ⟨o, d, v, ho, hd, hN, look_here, by rw [rst_skip hself]; exact hop⟩
      · obtain ⟨oi, di, vi, h1, h2, h3, h4, h5⟩ := h.pend i hi
        obtain ⟨h6, h7⟩ := hp i hi oi h1
        refine ⟨oi, di, vi, h1, h2, h3, ?_, by rw [rst_skip h6]; exact h5⟩
        rw [look_skip (fun e => h7 (by rw [h2, e]))]; exact h4
    · have hne : d ≠ t := fun e => hpd j (List.mem_cons_self ..) o ho (by rw [hd, e])
      rw [look_skip hne] at ht
      exact h.act t x ht fun i hi => hpd i (List.mem_cons_of_mem _ hi)

theorem MI.reads {listed : Array Bool} {A : Act} {W : World} {R : Nat → Prop} {pre ms : List (Nat × Bool)} {Pd : List Nat} {E : Env} {H : List HE} (hok : ordPairs ops (ancs ops.toList []) ord = true) (h : MI P Γ ops Hs K ord listed A W pre ms Pd E H R)
    {i : Nat} {b : Bool} {o : Oper} (ho : ops[i]? = some o) (hdeps : ∀ e ∈ o.after, Region.binds .any e = true → listed.getD e.on false = true) (hi : (i, b) ∈ pre ∧ i ∈ Pd ∧ b = false ∨ ∃ r, ms = (i, b) :: r) : RelA Γ.N R W (rst E (o.looksAt ops)) A := by
  refine ⟨h.defers, h.tmps, fun t v ht => ?_⟩
  obtain ⟨htl, ht⟩ := look_rst ht
  refine h.act t v ht fun k hk ok hok' hdk => ?_
  have hkp := h.pdp k hk
  have hkf : listed.getD k false = false := (h.part k (Array.getElem?_eq_some_iff.1 hok').1).2 (.inl hk)
  have direct : ordPair ops (ancs ops.toList []) k false i b = true → False := fun hp => by
    obtain ⟨e, he, hb, hon⟩ := (pairOk hp hok' ho).reads t hdk htl
    have := hdeps e he hb
    rw [hon, hkf] at this; cases this
  rcases hi with ⟨hip, hiP, rfl⟩ | ⟨r, hms⟩
  · -- both ahead
    obtain ⟨p1, p2, hp12⟩ := List.append_of_mem hkp
    have hord := h.ord
    rw [hp12, List.append_assoc] at hord
    rw [hp12] at hip
    rcases List.mem_append.1 hip with hip | hip
    · -- i ahead of k
      have hq := ordPairs_app (pre := p1) (by rw [← hord]; exact hok)
      have := pairOk (hq.2 _ hip (k, false) (List.mem_cons_self ..)) ho hok'
      obtain ⟨d', h1, h2, -⟩ := this.flt rfl
      rw [hdk] at h1; cases h1
      exact h2 htl
    · rcases List.mem_cons.1 hip with he | hip
      · cases he
        -- itself
        have hq := (ordPairs_app (pre := p1) (by rw [← hord]; exact hok)).1
        rw [List.cons_append, ordPairs] at hq
        simp only [Bool.and_eq_true] at hq
        obtain rfl : o = ok := by rw [ho] at hok'; exact Option.some.inj hok'
        have := hq.1.1
        rw [ho] at this
        simp only [hdk, Bool.false_or] at this
        simp at this
        exact this htl
      · rw [show p1 ++ ((k, false) :: p2 ++ ms) = (p1 ++ [(k, false)]) ++ (p2 ++ ms) by simp] at hord
        have hq := ordPairs_app (pre := p1 ++ [(k, false)]) (by rw [← hord]; exact hok)
        exact direct (hq.2 (k, false) (by simp) (i, false) (List.mem_append_left _ hip))
  · have hq := ordPairs_app (pre := pre) (r := ms) (by rw [← h.ord]; exact hok)
    exact direct (hq.2 _ hkp (i, b) (by rw [hms]; exact List.mem_cons_self ..))

/-- What the region may write, and what not. -/
def SplitH (E : Env) (H Hm Hs : List HE) : Prop := H.Perm (Hm ++ Hs)
theorem splitNil {E : Env} {H : List HE} : SplitH E H [] H := List.Perm.refl _
/-! One operation. -/
theorem AM.op {i d : Nat} {r : List (Nat × Bool)} {E : Env} {H : List HE} {o : Oper} {v : AV} (ho : ops[i]? = some o) (h : OpW P N o (rst E (o.looksAt ops)) Hs (Is v)) (hw : wantedIs ops (rst E (o.looksAt ops)) o = some true) (hd : o.dst = some d) (hN : Nat.ble (d + 1) N = true) (k : AM P N ops Hs K r ((d, v) :: E) H) :
    AM P N ops Hs K ((i, false) :: r) E H := ⟨o, d, v, ho, hd, Nat.le_of_ble_eq_true hN, .run hw h, k⟩
theorem AM.opG {i d : Nat} {r : List (Nat × Bool)} {E : Env} {H : List HE} {o : Oper} {c : Bool} {v : AV} (ho : ops[i]? = some o) (hw : guardIs ops (rst E (o.looksAt ops)) o = some c) (hd : o.dst = some d) (hN : Nat.ble (d + 1) N = true) (h : c = true → OpW P N o (rst E (o.looksAt ops)) Hs (Is v)) (k : AM P N ops Hs K r ((d, .opt c v) :: E) H) :
    AM P N ops Hs K ((i, false) :: r) E H := ⟨o, d, _, ho, hd, Nat.le_of_ble_eq_true hN, .opt hw h, k⟩
theorem AM.no {i d : Nat} {r : List (Nat × Bool)} {E : Env} {H : List HE} {o : Oper} (ho : ops[i]? = some o) (hw : wantedIs ops (rst E (o.looksAt ops)) o = some false) (hd : o.dst = some d) (hN : Nat.ble (d + 1) N = true) (k : AM P N ops Hs K r ((d, .val undef) :: E) H) :
    AM P N ops Hs K ((i, false) :: r) E H := ⟨o, d, _, ho, hd, Nat.le_of_ble_eq_true hN, .no hw, k⟩
theorem AM.main {i : Nat} {r : List (Nat × Bool)} {E : Env} {H : List HE} (o : Oper) (ho : ops[i]? = some o) (h : ∀ w0 R0, AO ⟨w0, footOf H, R0, N⟩ P ops (QS ⟨w0, footOf H, R0, N⟩ o.dst (fun v H' => AM P N ops Hs K r (putE o.dst v E) H')) [o] (rst E (o.looksAt ops)) H) :
    AM P N ops Hs K ((i, true) :: r) E H := ⟨o, ho, h⟩
theorem AM.ok {w0 : World} {S0 R0 : Nat → Prop} {d : Nat} {v : AV} {S : AV → List HE → Prop} {E1 : Env} {H' : List HE} (h : S v H') : AO ⟨w0, S0, R0, N⟩ P ops (QS ⟨w0, S0, R0, N⟩ (some d) S) [] ((d, v) :: E1) H' := fun R a W hs ha =>
  ⟨ha.defers, v, H', R, h, hs, fun t ht => by cases ht; exact ha.slots d v look_here⟩
theorem AM.okN {w0 : World} {S0 R0 : Nat → Prop} {S : AV → List HE → Prop} {E1 : Env} {H' : List HE} (h : S (.val undef) H') : AO ⟨w0, S0, R0, N⟩ P ops (QS ⟨w0, S0, R0, N⟩ none S) [] E1 H' := fun R a W hs ha =>
  ⟨ha.defers, _, H', R, h, hs, fun t ht => by cases ht⟩
theorem AM.nil {E : Env} {H : List HE} (h : K E H) : AM P N ops Hs K [] E H := h
end
end Go.Proofs.Ytochjihddnkhcaa.A

namespace Go.Proofs.Ytochjihddnkhcaa.A
open Go.RowKit L
set_option linter.unusedVariables false
set_option linter.unusedSimpArgs false
section
variable {x y q m : Int}
theorem andU64 (i : Nat) (hi : i ≤ 64) (hq : q = 2 ^ i - 1) (hm : m = 2 ^ i) (h : 0 ≤ x ∧ x ≤ 18446744073709551615) : Go.bits .and .u64 x q = x % m := by
  subst hq; subst hm; exact bits_mask .u64 64 (by decide) wraps_u64 i hi x h.1 (by omega)
theorem xorU8 {a b : UInt8} : Go.bits .xor .u8 (a.toNat : Int) (b.toNat : Int) = ((a ^^^ b).toNat : Int) := by
  have h : (a.toNat ^^^ b.toNat) < 2 ^ 8 := Nat.xor_lt_two_pow a.toNat_lt b.toNat_lt
  have e : (BitVec.ofInt 8 (a.toNat : Int) ^^^ BitVec.ofInt 8 (b.toNat : Int)).toNat = (a ^^^ b).toNat := by
    rw [BitVec.toNat_xor, BitVec.ofInt_natCast, BitVec.ofInt_natCast, BitVec.toNat_ofNat, BitVec.toNat_ofNat, Nat.mod_eq_of_lt a.toNat_lt, Nat.mod_eq_of_lt b.toNat_lt, UInt8.toNat_xor]
  show IntKind.u8.wrap ((BitVec.ofInt 8 (a.toNat : Int) ^^^ BitVec.ofInt 8 (b.toNat : Int)).toNat : Int) = _
  rw [e]
  have := (a ^^^ b).toNat_lt
  exact wraps_u8 _ (by omega) (by omega)
end
section
variable {Γ : Cx} {P : Program} {E : Env} {H : List HE} {N : Nat} {o : Oper}
theorem O.shrK (j : Nat) (m : Int) {T T' : Nat} {x y : Operand} {k k' : IntKind} {p q : Int} (ho : o.op = .binOp .shr T x y T') (hx : ev E x = some (.val (.int k p))) (hy : ev E y = some (.val (.int k' q))) (hq : q = (j : Int)) (hm : (2 : Int) ^ (min j k.bits) = m) :
    OpW P N o E H (Is (.val (.int k (p / m)))) := O.shr ho hx hy (by omega) (by
      subst hq; subst hm
      rw [Int.toNat_natCast, Int.fdiv_eq_ediv_of_nonneg]
      exact Int.le_of_lt (Int.pow_pos (by decide)))
theorem O.shlK (j : Nat) (m : Int) {T T' : Nat} {x y : Operand} {k k' : IntKind} {p q c : Int} (ho : o.op = .binOp .shl T x y T') (hx : ev E x = some (.val (.int k p))) (hy : ev E y = some (.val (.int k' q))) (hq : q = (j : Int)) (hm : (2 : Int) ^ (min j k.bits) = m) (hc : k.wrap (p * m) = c) :
    OpW P N o E H (Is (.val (.int k c))) := O.shl ho hx hy (by omega) (by
      subst hq; subst hm
      rw [Int.toNat_natCast]; exact hc)
end
end Go.Proofs.Ytochjihddnkhcaa.A

namespace Go.Proofs.Ytochjihddnkhcaa.A
open Go.RowKit L
set_option linter.unusedVariables false
set_option linter.unusedSimpArgs false
section
variable {Γ : Cx} {P : Program} {Q : Exit → Act → World → Prop} {E : Env} {H : List HE}
/-- Where the two ways meet. -/
def Mid (Γ : Cx) (Q : Exit → Act → World → Prop) (φ : Prop) (E1 : Env) (H1 : List HE) : Exit → Act → World → Prop := Exit.then (fun a W => φ ∧ ∃ R, RelS Γ R H1 W ∧ RelA Γ.N R W E1 a) Q
theorem wp_mid {c : Code} {a : Act} {W : World} {φ : Prop} {E1 : Env} {H1 : List HE} (h : c.wp P (Mid Γ Q φ E1 H1) a W) (k : φ → AQ Γ Q .normal E1 H1) : c.wp P Q a W := by
  refine wp_mono h ?_
  intro x a W hx
  cases x with
  | normal => obtain ⟨hφ, R, h1, h2⟩ := hx; exact k hφ R a W h1 h2
  | _ => exact hx
theorem AW.joinK {t : Nat} {b : Bool} {x y : Code} (φ : Prop) (K E1 : Env) (H1 : List HE) (ht : look E t = some (.val (.bool b))) (hK : ∀ p ∈ K, look E p.1 = some p.2) (h1 : b = true → AW Γ P (Mid Γ Q φ (E1 ++ K) H1) x E H) (h2 : b = false → AW Γ P (Mid Γ Q φ (E1 ++ K) H1) y E H) (k : φ → AQ Γ Q .normal (E1 ++ K) H1) :
    AW Γ P Q (.cond (.tmp t) x y) E H := AW.cond b ht (fun hb R a W hs ha => wp_mid (h1 hb R a W hs ha) k) (fun hb R a W hs ha => wp_mid (h2 hb R a W hs ha) k)
theorem AQ.midK {φ : Prop} {K E1 : Env} {H1 : List HE} (hφ : φ) (hK : ∀ p ∈ K, look E p.1 = some p.2) (hE : ∀ p ∈ E1, look E p.1 = some p.2) (hH : ∃ H2, H2.Sublist H ∧ H1.Perm H2) : AQ Γ (Mid Γ Q φ (E1 ++ K) H1) .normal E H := fun R a W hs ha => by
  obtain ⟨H2, h1, h2⟩ := hH
  have hmem : ∀ {E : Env} {t : Nat} {v : AV}, look E t = some v → (t, v) ∈ E := by
    intro E
    induction E with
    | nil => intro t v h; cases h
    | cons p r ih =>
      intro t v h
      unfold look at h
      cases hb : Nat.beq p.1 t with
      | true => rw [hb] at h; simp at h; subst h; have := Nat.eq_of_beq_eq_true hb; subst this; exact List.mem_cons_self ..
      | false => rw [hb] at h; exact List.mem_cons_of_mem _ (ih h)
  exact ⟨hφ, R, (hs.sub h1).perm h2, ha.defers, ha.size, fun t v ht => ha.slots t v (env_app hE hK _ (hmem ht))⟩
theorem AQ.midK0 {φ : Prop} {E1 : Env} {H1 : List HE} (hφ : φ) (hE : ∀ p ∈ E1, look E p.1 = some p.2) (hH : ∃ H2, H2.Sublist H ∧ H1.Perm H2) : AQ Γ (Mid Γ Q φ E1 H1) .normal E H :=
  AQ.midK (K := E1) (E1 := []) hφ hE (fun p hp => absurd hp (by simp)) hH
/-- Where the two ways meet, told by a relation. -/
def MidI (Γ : Cx) (Q : Exit → Act → World → Prop) (K : Env) (I : Env → List HE → Prop) : Exit → Act → World → Prop := Exit.then (fun a W => ∃ E1 H1 R, I E1 H1 ∧ RelS Γ R H1 W ∧ RelA Γ.N R W (E1 ++ K) a) Q
/-- Results out of a box, in other words: nil reads as nothing. -/
theorem FnQ.coe {Γ : Cx} {P : Program} {fn : Func} {Post : AV → List HE → Prop} {E : Env} {H : List HE} {r r' : AV} {H' : List HE} (h : AQ Γ (FnQ Γ P fn (fun q K => q = r ∧ K = H')) .ret E H) (hc : Coe r r') (hp : Post r' H') : AQ Γ (FnQ Γ P fn Post) .ret E H := fun R a W hs ha => by
  have := h R a W hs ha
  unfold FnQ at this ⊢
  obtain ⟨hd, v, hv, u, q, K, R', he, ⟨rfl, rfl⟩, h1, h2⟩ := this
  exact ⟨hd, v, hv, u, _, _, R', he, hp, h1, hc R' W u h2⟩
theorem Coe.tup {x y : List AV} (h : CoeL x y) : Coe (.tup x) (.tup y) := fun R W u hu => by
  obtain ⟨us, rfl, h1⟩ := hu.tup_inv
  exact (h R W us h1).toTup
end
end Go.Proofs.Ytochjihddnkhcaa.A

namespace Go.Proofs.Ytochjihddnkhcaa.Dk
open Go.RowKit L A
set_option linter.unusedVariables false
set_option linter.unusedSimpArgs false
attribute [local irreducible] AW AQ AO

theorem mod_fn (v n : Int) (h1 : 0 < n) (h2 : n ≤ 4611686018427387904) : Sp Try.prog 15 [.val (.int .i64 v), .val (.int .i64 n)] [] (Is (.val (.int .i64 (v % n)))) := by
  have hf := tmod_fix2 v n h1
  have hlt : v.tmod n < n := Int.tmod_lt_of_pos v h1
  have hge : -n < v.tmod n := by
    rcases Int.le_total 0 v with hv | hv
    · have := Int.tmod_nonneg n hv; omega
    · have := Int.lt_tmod_of_pos v h1; omega
  refine Sp.enter Try.func15 rfl _ Try.ntmps15 rfl (fun w0 R0 => ?_)
  refine AW.seq ?_
  refine AW.region ?_
  refine AO.op (O.assign rfl rfl) rfl rfl rfl ?_
  refine AO.nil ?_
  refine AQ.thenN ?_
  refine AW.seq ?_
  refine AW.region ?_
  refine AO.op (O.move rfl rfl) rfl rfl rfl ?_
  refine AO.op (O.move rfl rfl) rfl rfl rfl ?_
  refine AO.op (O.rem rfl rfl rfl (by omega) rfl) rfl rfl rfl ?_
  refine AO.op (O.assign rfl rfl) rfl rfl rfl ?_
  refine AO.nil ?_
  refine AQ.thenN ?_
  refine AW.seq ?_
  refine AW.seq ?_
  refine AW.region ?_
  refine AO.op (O.move rfl rfl) rfl rfl rfl ?_
  refine AO.op (O.lss rfl rfl rfl (by first | exact bTrue (by omega) | exact bFalse (by omega) | assumption | rfl)) rfl rfl rfl ?_
  refine AO.nil ?_
  refine AQ.thenN ?_
  refine AW.split rfl (fun h => ?_) (fun h => ?_)
  · skip
    have h : v.tmod n < 0 := of_decide_eq_true h
    rw [if_pos h] at hf
    refine AW.region ?_
    refine AO.op (O.move rfl rfl) rfl rfl rfl ?_
    refine AO.op (O.move rfl rfl) rfl rfl rfl ?_
    refine AO.op (O.add rfl rfl rfl (by first | exact wI64 (by omega) | rfl)) rfl rfl rfl ?_
    refine AO.op (O.assign rfl rfl) rfl rfl rfl ?_
    refine AO.nil ?_
    refine AQ.thenN ?_
    refine AW.seq ?_
    refine AW.region ?_
    refine AO.op (O.move rfl rfl) rfl rfl rfl ?_
    refine AO.op (O.assign rfl rfl) rfl rfl rfl ?_
    refine AO.nil ?_
    refine AQ.thenN ?_
    refine AW.ret ?_
    refine AQ.ret1 rfl rfl ⟨_, List.nil_sublist _, .nil⟩ (⟨by rw [hf], rfl⟩)
  · skip
    have h : ¬ v.tmod n < 0 := of_decide_eq_false h
    rw [if_neg h] at hf
    refine AW.skip ?_
    refine AQ.thenN ?_
    refine AW.seq ?_
    refine AW.region ?_
    refine AO.op (O.move rfl rfl) rfl rfl rfl ?_
    refine AO.op (O.assign rfl rfl) rfl rfl rfl ?_
    refine AO.nil ?_
    refine AQ.thenN ?_
    refine AW.ret ?_
    refine AQ.ret1 rfl rfl ⟨_, List.nil_sublist _, .nil⟩ (⟨by rw [hf], rfl⟩)

/-- A deck: its numbers, and how many are taken. -/
abbrev ptr (b : Nat) : AV := .val (.pointer (some ⟨b, 0, none⟩))
def nxt (l : List Int) (k : Nat) (n : Int) : Int := if k < l.length then l.getD k 0 % n else 0
def adv (l : List Int) (k : Nat) : Nat := if k < l.length then k + 1 else k
end Go.Proofs.Ytochjihddnkhcaa.Dk

namespace Go.Proofs.Ytochjihddnkhcaa.By
open Go.RowKit L A
set_option linter.unusedVariables false
set_option linter.unusedSimpArgs false
attribute [local irreducible] AW AQ AO

section
variable {α : Type} {f : α → List AV} {k : Nat}
theorem flat_len (hf : ∀ a, (f a).length = k) : ∀ l : List α, (l.flatMap f).length = l.length * k
  | [] => by simp
  | a :: l => by rw [List.flatMap_cons, List.length_append, hf, flat_len hf l, List.length_cons, Nat.add_mul]; omega
end

/-! ### Bytes -/
abbrev bt (l : List UInt8) (k : Nat) : UInt8 := l.getD k 0
theorem roB_of {n : Nat} {xs : List AV} {l : List UInt8} (h1 : n = l.length) (h2 : xs = bytesA l) : AV.ro false n xs = roB l := by subst h1; subst h2; rfl
theorem bytesA_take (l : List UInt8) (n : Nat) : (bytesA l).take (n * 1) = bytesA (l.take n) := by simp [bytesA, List.map_take]
@[simp] theorem take_bytesA (l : List UInt8) (n : Nat) : (bytesA l).take n = bytesA (l.take n) := by simp [bytesA, List.map_take]
@[simp] theorem drop_bytesA (l : List UInt8) (n : Nat) : (bytesA l).drop n = bytesA (l.drop n) := by simp [bytesA, List.map_drop]
section
variable {P : Program} {E : Env} {H : List HE} {N : Nat} {o : Oper}
theorem _root_.Go.Proofs.Ytochjihddnkhcaa.A.O.sliceToB {T : Nat} {x y : Operand} {k : Nat} {kk : IntKind} {z : Int} {l : List UInt8} {U bs : Nat} {zz : Value} [hs : TyS P T U 1 bs zz] (ho : o.op = .slice T x none (some y) none) (hx : ev E x = some (roB l)) (hy : ev E y = some (.val (.int kk z))) (hz : z = (k : Int)) (hk : k ≤ l.length) : OpW P N o E H (Is (roB (l.take k))) := by
  have := O.sliceTo (P := P) (k := k) (H := H) (N := N) ho hx hy hz hk (bytesA_take l k)
  rwa [roB_of (by simp; omega) rfl] at this
end

/-! ### Messages -/
structure Opt where
  num : Int
  val : List UInt8
  deriving DecidableEq
structure Msg where
  ty : Int
  code : Int
  id : Int
  tok : List UInt8
  opts : List Opt
  pay : List UInt8
  deriving DecidableEq
def Opt.none : Opt := ⟨0, []⟩
def Msg.none : Msg := ⟨0, 0, 0, [], [], []⟩
def cellsO (o : Opt) : List AV := [.val (.int .i64 o.num), roB o.val]
theorem cellsO_len (o : Opt) : (cellsO o).length = 2 := rfl
def optsA (os : List Opt) : List AV := os.flatMap cellsO
def roO (os : List Opt) : AV := .ro false os.length (optsA os)
def cellsM (m : Msg) : List AV := [.val (.int .i64 m.ty), .val (.int .i64 m.code), .val (.int .i64 m.id), roB m.tok, roO m.opts, roB m.pay]
abbrev aggM (m : Msg) : AV := .agg [.val (.int .i64 m.ty), .val (.int .i64 m.code), .val (.int .i64 m.id), roB m.tok, roO m.opts, roB m.pay]
abbrev aggO (o : Opt) : AV := .agg [.val (.int .i64 o.num), roB o.val]
theorem roB_cells (l : List UInt8) : (roB l).cells = [roB l] := rfl
theorem roI_cells (l : List Int) : (roI l).cells = [roI l] := rfl
theorem roO_cells (l : List Opt) : (roO l).cells = [roO l] := rfl
abbrev oat (os : List Opt) (k : Nat) : Opt := os.getD k Opt.none
@[simp] theorem optsA_len (os : List Opt) : (optsA os).length = os.length * 2 := flat_len cellsO_len os
end Go.Proofs.Ytochjihddnkhcaa.By

namespace Go.Proofs.Ytochjihddnkhcaa.By
open Go.RowKit L A
set_option linter.unusedVariables false
set_option linter.unusedSimpArgs false
attribute [local irreducible] AW AQ AO

def cmpB : List UInt8 → List UInt8 → Int
  | x :: a, y :: b => if x = y then cmpB a b else if x.toNat < y.toNat then -1 else 1
  | [], [] => 0
  | [], _ => -1
  | _, [] => 1
/-- A number's bytes, the first not 0 unless it is the only one. -/
def beGo (n : Nat) (out : List UInt8) : List UInt8 := if h : n = 0 then out else beGo (n / 256) (u8 (n : Int) :: out)
termination_by n
decreasing_by omega
def pivB (n : Int) : List UInt8 := if n < 0 ∨ 1099511627775 < n then [] else beGo (n.toNat / 256) [u8 n]
/-- The same from the front: what is there behind the bytes of number 4, 3 .. -/
def rStep (n : Int) (s : Nat) (out : List UInt8) : List UInt8 := if 0 < out.length ∨ (u8 (n / 256 ^ s) ≠ 0) ∨ s = 0 then out ++ [u8 (n / 256 ^ s)] else out
def rGo (n : Int) : Nat → List UInt8
  | 0 => []
  | k + 1 => rStep n (4 - k) (rGo n k)
end Go.Proofs.Ytochjihddnkhcaa.By

namespace Go.Proofs.Ytochjihddnkhcaa.By
open Go.RowKit L A Dk
set_option linter.unusedVariables false
set_option linter.unusedSimpArgs false
attribute [local irreducible] AW AQ AO

/-- Something, and a deck of which more or fewer numbers are taken. -/
def IsNum (n : Int) (r : AV) : Prop := ∃ z : Int, 0 ≤ z ∧ z < n ∧ r = .val (.int .i64 z)
def IsBytes (n : Nat) (r : AV) : Prop := ∃ x : List UInt8, x.length ≤ n ∧ r = roB x
def Some1 (Φ : AV → Prop) : AV → List HE → Prop := fun r H' => Φ r ∧ H' = []
end Go.Proofs.Ytochjihddnkhcaa.By

namespace Go.Proofs.Ytochjihddnkhcaa.A
open Go.RowKit L
set_option linter.unusedVariables false
set_option linter.unusedSimpArgs false
section
variable {Γ : Cx} {P : Program} {Q : Exit → Act → World → Prop} {E : Env} {H : List HE}
end
end Go.Proofs.Ytochjihddnkhcaa.A

namespace Go.Proofs.Ytochjihddnkhcaa.A
open Go.RowKit L
set_option linter.unusedVariables false
set_option linter.unusedSimpArgs false

section
variable {P : Program} {ops : Array Oper} {N : Nat}

/-- The state on the way. -/
structure MJ (P : Program) (Γ : Cx) (ops : Array Oper) (Hs : List HE) (K : Env → List HE → Prop) (ord : List (Nat × Bool)) (late : List Nat) (listed : Array Bool) (A : Act) (W : World) (pre ms : List (Nat × Bool)) (Pd : List Nat) (E : Env) (H : List HE) (R : Nat → Prop) : Prop where
  size : listed.size = ops.size
  closed : Closed ops listed
  part : ∀ i, i < ops.size → (listed.getD i false = false ↔ i ∈ Pd ∨ i ∈ ms.map Prod.fst ∨ i ∈ late)
  ord : ord = pre ++ ms
  pdp : ∀ i ∈ Pd, (i, false) ∈ pre
  am : AM P Γ.N ops Hs K ms E H
  pend : ∀ i ∈ Pd, ∃ o d v, ops[i]? = some o ∧ o.dst = some d ∧ d < Γ.N ∧ look E d = some v ∧ OpF P Γ.N ops o (rst E (o.looksAt ops)) Hs (Is v)
  rels : RelS Γ R (H ++ Hs) W
  defers : A.defers = []
  tmps : A.tmps.size = Γ.N
  act : ∀ t v, look E t = some v → (∀ i ∈ Pd, ∀ o, ops[i]? = some o → o.dst ≠ some t) → RelV R W v (A.eval (.tmp t))

variable {Γ : Cx} {Hs : List HE} {K : Env → List HE → Prop} {ord : List (Nat × Bool)} {late : List Nat}

/-- What reads is pending as soon as it may run. -/
theorem MJ.absorb {listed : Array Bool} {A : Act} {W : World} {R : Nat → Prop} (hok : ordPairs ops (ancs ops.toList []) ord = true) : ∀ (ms pre : List (Nat × Bool)) (Pd : List Nat) (E : Env) (H : List HE), MJ P Γ ops Hs K ord late listed A W pre ms Pd E H R →
    ∃ pre' ms' Pd' E', MJ P Γ ops Hs K ord late listed A W pre' ms' Pd' E' H R ∧ (ms' = [] ∨ ∃ m r, ms' = (m, true) :: r)
  | [], pre, Pd, E, H, h => ⟨pre, [], Pd, E, h, .inl rfl⟩
  | (m, true) :: r, pre, Pd, E, H, h => ⟨pre, _, Pd, E, h, .inr ⟨m, r, rfl⟩⟩
  | (j, false) :: r, pre, Pd, E, H, h => by
    obtain ⟨o, d, v, ho, hd, hN, hop, ham⟩ := h.am
    have hord := h.ord
    have hq := ordPairs_app (pre := pre) (r := (j, false) :: r) (by rw [← hord]; exact hok)
    have hself : d ∉ o.looksAt ops := by
      have := hq.1
      rw [ordPairs] at this
      simp only [Bool.and_eq_true, ho, hd, Bool.false_or] at this
      simpa using this.1.1
    have hp : ∀ i ∈ Pd, ∀ oi, ops[i]? = some oi → d ∉ oi.looksAt ops ∧ oi.dst ≠ some d := fun i hi oi hoi => by
      have := pairOk (hq.2 _ (h.pdp i hi) (j, false) (List.mem_cons_self ..)) hoi ho
      obtain ⟨d', h1, h2, h3⟩ := this.flt rfl
      rw [hd] at h1
      cases h1
      exact ⟨h2, h3⟩
    refine MJ.absorb hok r (pre ++ [(j, false)]) (j :: Pd) ((d, v) :: E) H ⟨h.size, h.closed, fun i hi => ?_, by rw [hord]; simp, fun i hi => ?_, ham, fun i hi => ?_, h.rels, h.defers, h.tmps, fun t x ht hpd => ?_⟩
    · rw [h.part i hi]
      simp only [List.map_cons, List.mem_cons]
      constructor
      · rintro (h | (h | h) | h)
        · exact .inl (.inr h)
        · exact .inl (.inl h)
        · exact .inr (.inl h)
        · exact .inr (.inr h)
      · rintro ((h | h) | h | h)
        · exact .inr (.inl (.inl h))
        · exact .inl h
        · exact .inr (.inl (.inr h))
        · exact .inr (.inr h)
    · rcases List.mem_cons.1 hi with rfl | hi
      · simp
      · exact List.mem_append_left _ (h.pdp i hi)
    · rcases List.mem_cons.1 hi with rfl | hi
      · exact ⟨o, d, v, ho, hd, hN, look_here, by rw [rst_skip hself]; exact hop⟩
      · obtain ⟨oi, di, vi, h1, h2, h3, h4, h5⟩ := h.pend i hi
        obtain ⟨h6, h7⟩ := hp i hi oi h1
        refine ⟨oi, di, vi, h1, h2, h3, ?_, by rw [rst_skip h6]; exact h5⟩
        rw [look_skip (fun e => h7 (by rw [h2, e]))]; exact h4
    · have hne : d ≠ t := fun e => hpd j (List.mem_cons_self ..) o ho (by rw [hd, e])
      rw [look_skip hne] at ht
      exact h.act t x ht fun i hi => hpd i (List.mem_cons_of_mem _ hi)

theorem MJ.reads {listed : Array Bool} {A : Act} {W : World} {R : Nat → Prop} {pre ms : List (Nat × Bool)} {Pd : List Nat} {E : Env} {H : List HE} (hok : ordPairs ops (ancs ops.toList []) ord = true) (h : MJ P Γ ops Hs K ord late listed A W pre ms Pd E H R)
    {i : Nat} {b : Bool} {o : Oper} (ho : ops[i]? = some o) (hdeps : ∀ e ∈ o.after, Region.binds .any e = true → listed.getD e.on false = true) (hi : (i, b) ∈ pre ∧ i ∈ Pd ∧ b = false ∨ ∃ r, ms = (i, b) :: r) : RelA Γ.N R W (rst E (o.looksAt ops)) A := by
  refine ⟨h.defers, h.tmps, fun t v ht => ?_⟩
  obtain ⟨htl, ht⟩ := look_rst ht
  refine h.act t v ht fun k hk ok hok' hdk => ?_
  have hkp := h.pdp k hk
  have hkf : listed.getD k false = false := (h.part k (Array.getElem?_eq_some_iff.1 hok').1).2 (.inl hk)
  have direct : ordPair ops (ancs ops.toList []) k false i b = true → False := fun hp => by
    obtain ⟨e, he, hb, hon⟩ := (pairOk hp hok' ho).reads t hdk htl
    have := hdeps e he hb
    rw [hon, hkf] at this; cases this
  rcases hi with ⟨hip, hiP, rfl⟩ | ⟨r, hms⟩
  · -- both ahead
    obtain ⟨p1, p2, hp12⟩ := List.append_of_mem hkp
    have hord := h.ord
    rw [hp12, List.append_assoc] at hord
    rw [hp12] at hip
    rcases List.mem_append.1 hip with hip | hip
    · -- i ahead of k
      have hq := ordPairs_app (pre := p1) (by rw [← hord]; exact hok)
      have := pairOk (hq.2 _ hip (k, false) (List.mem_cons_self ..)) ho hok'
      obtain ⟨d', h1, h2, -⟩ := this.flt rfl
      rw [hdk] at h1; cases h1
      exact h2 htl
    · rcases List.mem_cons.1 hip with he | hip
      · cases he
        -- itself
        have hq := (ordPairs_app (pre := p1) (by rw [← hord]; exact hok)).1
        rw [List.cons_append, ordPairs] at hq
        simp only [Bool.and_eq_true] at hq
        obtain rfl : o = ok := by rw [ho] at hok'; exact Option.some.inj hok'
        have := hq.1.1
        rw [ho] at this
        simp only [hdk, Bool.false_or] at this
        simp at this
        exact this htl
      · rw [show p1 ++ ((k, false) :: p2 ++ ms) = (p1 ++ [(k, false)]) ++ (p2 ++ ms) by simp] at hord
        have hq := ordPairs_app (pre := p1 ++ [(k, false)]) (by rw [← hord]; exact hok)
        exact direct (hq.2 (k, false) (by simp) (i, false) (List.mem_append_left _ hip))
  · have hq := ordPairs_app (pre := pre) (r := ms) (by rw [← h.ord]; exact hok)
    exact direct (hq.2 _ hkp (i, b) (by rw [hms]; exact List.mem_cons_self ..))

/-- One stage. -/
theorem MJ.stage {Q : Exit → Act → World → Prop} (hback : ∀ i o, ops[i]? = some o → ∀ e ∈ o.after, Region.binds .any e = true → e.on < i) (hpairs : ordPairs ops (ancs ops.toList []) ord = true) (hlt : ∀ q ∈ ord, q.1 < ops.size)
    (hlate : ∀ j ∈ late, ∀ q ∈ ord, q.1 ∈ (ancs ops.toList []).getD j [])
    (hfin : ∀ (listed : Array Bool) (A : Act) (W : World) (E : Env) (H : List HE) (R : Nat → Prop), listed.size = ops.size → Closed ops listed → (∀ i, i < ops.size → (listed.getD i false = false ↔ i ∈ late)) → RelS Γ R (H ++ Hs) W → RelA Γ.N R W E A → K E H → wpAny P .any ops Q (listed.toList.count false) listed A W) :
    ∀ (fuel : Nat) (listed : Array Bool) (A : Act) (W : World) (pre ms : List (Nat × Bool)) (Pd : List Nat) (E : Env) (H : List HE) (R : Nat → Prop), fuel = listed.toList.count false →
      MJ P Γ ops Hs K ord late listed A W pre ms Pd E H R → (ms = [] ∨ ∃ m r, ms = (m, true) :: r) → wpAny P .any ops Q fuel listed A W := by
  intro fuel
  induction fuel with
  | zero =>
    intro listed A W pre ms Pd E H R hc hI hhd
    have hlist : ∀ i, i < ops.size → listed.getD i false = true := by
      intro i hi
      have hi' : i < listed.size := by rw [hI.size]; exact hi
      cases hb : listed.getD i false with
      | true => rfl
      | false =>
        exfalso
        have hm : false ∈ listed.toList := by
          rw [← hb]; simp [Array.getD, hi']
        have := List.count_pos_iff.2 hm
        omega
    have hms : ms = [] := by
      rcases hhd with h | ⟨m, r, h⟩
      · exact h
      · have h1 := hlt (m, true) (by rw [hI.ord, h]; simp)
        have := (hI.part m h1).2 (.inr (.inl (by rw [h]; simp)))
        rw [hlist m h1] at this; cases this
    have hPd : Pd = [] := by
      rw [List.eq_nil_iff_forall_not_mem]
      intro i hi
      have h1 := hlt (i, false) (by rw [hI.ord]; exact List.mem_append_left _ (hI.pdp i hi))
      have := (hI.part i h1).2 (.inl hi)
      rw [hlist i h1] at this; cases this
    subst hms
    subst hPd
    rw [hc]
    exact hfin listed A W E H R hI.size hI.closed (fun i hi => by rw [hI.part i hi]; simp) hI.rels ⟨hI.defers, hI.tmps, fun t v ht => hI.act t v ht fun i hi => (by cases hi)⟩ hI.am
  | succ fuel ih =>
    intro listed A W pre ms Pd E H R hc hI hhd
    by_cases hemp : ms = [] ∧ Pd = []
    · obtain ⟨rfl, rfl⟩ := hemp
      rw [hc]
      exact hfin listed A W E H R hI.size hI.closed (fun i hi => by rw [hI.part i hi]; simp) hI.rels ⟨hI.defers, hI.tmps, fun t v ht => hI.act t v ht fun i hi => (by cases hi)⟩ hI.am
    have hun : ∃ q ∈ ord, listed.getD q.1 false = false := by
      rcases hhd with h | ⟨m, r, h⟩
      · cases Pd with
        | nil => exact absurd ⟨h, rfl⟩ hemp
        | cons p Pd =>
          have h1 : (p, false) ∈ ord := by rw [hI.ord]; exact List.mem_append_left _ (hI.pdp p (List.mem_cons_self ..))
          exact ⟨_, h1, (hI.part p (hlt _ h1)).2 (.inl (List.mem_cons_self ..))⟩
      · have h1 : (m, true) ∈ ord := by rw [hI.ord, h]; simp
        exact ⟨_, h1, (hI.part m (hlt _ h1)).2 (.inr (.inl (by rw [h]; simp)))⟩
    have hne : ∃ i, i ∈ Region.ready .any ops listed := by
      have hex : ∃ i, i < ops.size ∧ listed.getD i false = false := by
        have hpos : 0 < listed.toList.count false := by omega
        obtain ⟨i, hi, hf⟩ := List.getElem_of_mem (List.count_pos_iff.1 hpos)
        have hi' : i < listed.size := by simpa using hi
        exact ⟨i, by rw [← hI.size]; exact hi', by simpa [Array.getD, hi'] using hf⟩
      obtain ⟨i, ⟨hi, hf⟩, hmin⟩ : ∃ i, (i < ops.size ∧ listed.getD i false = false) ∧ ∀ j, j < i → ¬ (j < ops.size ∧ listed.getD j false = false) := by
        obtain ⟨i, h⟩ := hex
        exact least ⟨i, h⟩
      have hio : ops[i]? = some ops[i] := by simp [hi]
      refine ⟨i, mem_ready.2 ⟨by rw [getD_tf (by rw [hI.size]; exact hi)]; exact hf, _, hio, fun e he hb => ?_⟩⟩
      have := hback i _ hio e he hb
      cases hb2 : listed.getD e.on false with
      | true => rfl
      | false => exact absurd ⟨by omega, hb2⟩ (hmin e.on this)
    refine ⟨fun e => (by obtain ⟨i, hi⟩ := hne; rw [e] at hi; cases hi), fun i hi => ?_⟩
    obtain ⟨h0, o, ho, hdeps⟩ := mem_ready.1 hi
    have hio : i < ops.size := (Array.getElem?_eq_some_iff.1 ho).1
    have hf : listed.getD i false = false := by rw [← getD_tf (by rw [hI.size]; exact hio)]; exact h0
    have hil : i < listed.size := by rw [hI.size]; exact hio
    have hanc : ∀ j, j ∈ (ancs ops.toList []).getD i [] → listed.getD j false = true := fun j hj => anc_listed hI.closed hback i o ho hdeps j hj
    have hcl := closed_set hI.closed ho hil hdeps
    have hcnt : fuel = (listed.setIfInBounds i true).toList.count false := by
      have hcs := count_set_true listed.toList i (by simpa using hil) (by simpa [Array.getD, hil] using hf)
      simp only [Array.toList_setIfInBounds]
      omega
    have hgd : ∀ k, k ≠ i → (listed.setIfInBounds i true).getD k false = listed.getD k false := fun k hk => getD_set_ne false (Ne.symm hk)
    have hgi : (listed.setIfInBounds i true).getD i false = true := by simp [Array.getD, hil]
    have hsz : (listed.setIfInBounds i true).size = ops.size := by simpa using hI.size
    have hnl : i ∉ late := fun h => by
      obtain ⟨q, hq, hqf⟩ := hun
      have := hanc q.1 (hlate i h q hq)
      rw [hqf] at this; cases this
    rcases (hI.part i hio).1 hf with hPd | hms | hlt'
    · -- one that reads
      obtain ⟨o', d, v, ho', hd, hN, hlk, hop⟩ := hI.pend i hPd
      obtain rfl : o = o' := by rw [ho] at ho'; exact Option.some.inj ho'
      have hA := hI.reads hpairs ho hdeps (b := false) (.inl ⟨hI.pdp i hPd, hPd, rfl⟩)
      have hs := hop R A W hI.rels.rlt (fun e he => hI.rels.ok e (List.mem_append_right _ he)) (fun e he b hb => (hI.rels.own e (List.mem_append_right _ he) b hb).2) hA
      have hnext : ∀ u W', (∃ v' Hn R', Is v v' Hn ∧ Post1 R W v' Hn u W' R') → wpAny P .any ops Q fuel (listed.setIfInBounds i true) (A.put o.dst u) W' := by
        rintro u W' ⟨v', Hn, R', ⟨rfl, rfl⟩, hp⟩
        have hnm : i ∉ ms.map Prod.fst := fun hm => by
          obtain ⟨⟨j, c⟩, hq, hji⟩ := List.mem_map.1 hm
          have hq2 := (ordPairs_app (pre := pre) (r := ms) (by rw [← hI.ord]; exact hpairs)).2 _ (hI.pdp i hPd) _ hq
          simp only at hji
          subst hji
          exact (pairOk hq2 ho ho).ne rfl
        refine ih _ _ _ pre ms (Pd.filter (· ≠ i)) E H R' hcnt ⟨hsz, hcl, fun k hk => ?_, hI.ord, fun k hk => hI.pdp k (List.mem_filter.1 hk).1, hI.am, fun k hk => hI.pend k (List.mem_filter.1 hk).1, by simpa using hI.rels.step hp, ?_, ?_, fun t x ht hpd => ?_⟩ hhd
        · by_cases hki : k = i
          · subst hki
            rw [hgi]
            simp [hnm, hnl]
          · rw [hgd k hki, hI.part k hk]
            simp [hki]
        · rw [hd]; exact hI.defers
        · rw [hd]; simp [Act.put, hI.tmps]
        · rw [hd]
          by_cases hdt : d = t
          · subst hdt
            rw [hlk] at ht
            cases ht
            rw [eval_put_same (by rw [hI.tmps]; exact hN)]; exact hp.val
          · rw [eval_put_other hdt]
            refine (hI.act t x ht fun k hk ok hok hdk => ?_).mono hp.sub (extSame hp.ext hI.rels.rlt)
            by_cases hki : k = i
            · subst hki
              rw [ho] at hok
              cases hok
              rw [hd] at hdk
              cases hdk
              exact hdt rfl
            · exact hpd k (List.mem_filter.2 ⟨hk, by simpa using hki⟩) ok hok hdk
      unfold wpOp
      rw [ho]
      unfold FStep at hs
      show if Region.wanted o (yielded ops A.tmps) = true then _ else _
      split
      · rename_i hw
        rw [if_pos hw] at hs
        refine .inl (Oper.wp_mono ?_ (wp_of_noQ hs))
        rintro A' W' ⟨u, rfl, hp⟩
        exact hnext u W' hp
      · rename_i hw
        rw [if_neg hw] at hs
        exact hnext _ _ hs
    · -- the next that writes
      rcases hhd with rfl | ⟨m, r, rfl⟩
      · cases hms
      have hmlt : m < ops.size := by have := hlt (m, true) (by rw [hI.ord]; simp); exact this
      have hmf : listed.getD m false = false := (hI.part m hmlt).2 (.inr (.inl (by simp)))
      have him : i = m := by
        rcases List.mem_cons.1 hms with h | h
        · exact h
        · exfalso
          obtain ⟨⟨j, c⟩, hq, hji⟩ := List.mem_map.1 h
          simp only at hji
          subst hji
          have h9 := (ordPairs_app (pre := pre ++ [(m, true)]) (r := r) (by have := hI.ord; rw [List.append_assoc, List.singleton_append, ← this]; exact hpairs)).2 (m, true) (by simp) _ hq
          have hom : ops[m]? = some ops[m] := by simp [hmlt]
          have := hanc m ((pairOk h9 hom ho).main rfl)
          rw [hmf] at this; cases this
      subst him
      obtain ⟨o', ho', hAO⟩ := hI.am
      obtain rfl : o = o' := by rw [ho] at ho'; exact Option.some.inj ho'
      have hA := hI.reads hpairs ho hdeps (b := true) (.inr ⟨r, rfl⟩)
      have hs := hAO W R R A W ⟨Mods.refl _ _, hI.rels.rlt, fun _ h => h, fun _ h => .inl h, fun e he => hI.rels.ok e (List.mem_append_left _ he), fun e he b hb => ⟨.inr ⟨e, he, hb⟩, (hI.rels.own e (List.mem_append_left _ he) b hb).2⟩, (List.pairwise_append.1 hI.rels.disj).1⟩ hA
      have hnext : ∀ u W', QS ⟨W, footOf H, R, Γ.N⟩ o.dst (fun v H' => AM P Γ.N ops Hs K r (putE o.dst v E) H') .normal (A.put o.dst u) W' → wpAny P .any ops Q fuel (listed.setIfInBounds i true) (A.put o.dst u) W' := by
        rintro u W' ⟨hdf, v, H', R', ham, hsr, hvr⟩
        obtain ⟨hrel, hRW⟩ := RelS.part hI.rels hsr
        have hpd : ∀ k ∈ Pd, ∀ ok, ops[k]? = some ok → ∀ d, o.dst = some d → d ∉ ok.looksAt ops ∧ ok.dst ≠ some d := fun k hk ok hok d hd => by
          have h9 := (ordPairs_app (pre := pre) (r := (i, true) :: r) (by rw [← hI.ord]; exact hpairs)).2 _ (hI.pdp k hk) (i, true) (List.mem_cons_self ..)
          have hkf : listed.getD k false = false := (hI.part k (Array.getElem?_eq_some_iff.1 hok).1).2 (.inl hk)
          have hno : k ∉ (ancs ops.toList []).getD i [] := fun hm => by
            have := hanc k hm
            rw [hkf] at this; cases this
          exact ⟨fun hm => hno ((pairOk h9 hok ho).mn rfl d hd (.inl hm)), fun he => hno ((pairOk h9 hok ho).mn rfl d hd (.inr he))⟩
        have hnr : i ∉ r.map Prod.fst := fun hm => by
          obtain ⟨⟨j, c⟩, hq, hji⟩ := List.mem_map.1 hm
          have h9 := (ordPairs_app (pre := pre ++ [(i, true)]) (r := r) (by have := hI.ord; rw [List.append_assoc, List.singleton_append, ← this]; exact hpairs)).2 (i, true) (by simp) _ hq
          simp only at hji
          subst hji
          exact (pairOk h9 ho ho).ne rfl
        have hnp : i ∉ Pd := fun hk => by
          have h9 := (ordPairs_app (pre := pre) (r := (i, true) :: r) (by rw [← hI.ord]; exact hpairs)).2 _ (hI.pdp i hk) (i, true) (List.mem_cons_self ..)
          exact (pairOk h9 ho ho).ne rfl
        have hI' : MJ P Γ ops Hs K ord late (listed.setIfInBounds i true) (A.put o.dst u) W' (pre ++ [(i, true)]) r Pd (putE o.dst v E) H' R' := by
          refine ⟨hsz, hcl, fun k hk => ?_, by rw [hI.ord]; simp, fun k hk => List.mem_append_left _ (hI.pdp k hk), ham, fun k hk => ?_, hrel, hdf, ?_, fun t x ht hp => ?_⟩
          · by_cases hki : k = i
            · subst hki
              rw [hgi]
              simp [hnr, hnp, hnl]
            · rw [hgd k hki, hI.part k hk]
              simp [hki]
          · obtain ⟨ok, dk, vk, h1, h2, h3, h4, h5⟩ := hI.pend k hk
            refine ⟨ok, dk, vk, h1, h2, h3, ?_, ?_⟩
            · cases hd : o.dst with
              | none => exact h4
              | some d => rw [putE, look_skip (fun e => (hpd k hk ok h1 d hd).2 (by rw [h2, e]))]; exact h4
            · cases hd : o.dst with
              | none => exact h5
              | some d => rw [putE, rst_skip (hpd k hk ok h1 d hd).1]; exact h5
          · cases hd : o.dst <;> simp [Act.put, hI.tmps]
          · cases hd : o.dst with
            | none =>
              rw [hd] at ht
              exact (hI.act t x ht hp).mono hsr.rsub hRW
            | some d =>
              rw [hd, putE] at ht
              by_cases hdt : d = t
              · subst hdt
                rw [look_here] at ht
                cases ht
                have := hvr d hd
                rwa [hd] at this
              · rw [look_skip hdt] at ht
                rw [eval_put_other hdt]
                exact (hI.act t x ht hp).mono hsr.rsub hRW
        obtain ⟨pre', ms', Pd', E', hI2, hh2⟩ := hI'.absorb hpairs
        exact ih _ _ _ pre' ms' Pd' E' H' R' hcnt hI2 hh2
      unfold wpOp
      rw [ho]
      unfold wpList at hs
      show if Region.wanted o (yielded ops A.tmps) = true then _ else _
      split
      · rename_i hw
        rw [if_pos hw] at hs
        refine .inl ?_
        rcases hs with hs | ⟨-, a', w', hl⟩
        · have hs2 : o.wp P A W (wpList P ops (QS ⟨W, footOf H, R, Γ.N⟩ o.dst (fun v H' => AM P Γ.N ops Hs K r (putE o.dst v E) H')) []) NoQ := by
            unfold Oper.wp at hs ⊢
            revert hs
            cases (execOp A.eval o).run P W with
            | ok n w' =>
              cases n with
              | enter f args =>
                intro hs
                refine Calls.mono hs ?_
                intro e w'' he
                cases e with
                | returned v => exact he
                | outgrown => obtain ⟨a', w', hl⟩ := he; exact hl.elim
                | _ => exact he.elim
              | _ => exact fun h => h
            | halt x w' => cases x <;> exact fun h => h
          refine Oper.wp_mono ?_ (wp_of_noQ (Oper.wp_put hs2))
          rintro A' W' ⟨hq, hA'⟩
          have hq' : QS ⟨W, footOf H, R, Γ.N⟩ o.dst (fun v H' => AM P Γ.N ops Hs K r (putE o.dst v E) H') .normal A' W' := hq
          rcases hA' with ⟨u, rfl⟩ | hnd
          · exact hnext u W' hq'
          · exact absurd hq'.1 hnd
        · exact hl.elim
      · rename_i hw
        rw [if_neg hw] at hs
        exact hnext _ _ hs
    · exact absurd hlt' hnl

/-- Operations in stages. -/
def AMS (P : Program) (N : Nat) (ops : Array Oper) (K : Env → List HE → Prop) : List (List (Nat × Bool)) → Env → List HE → Prop
  | [], E, H => K E H
  | ord :: r, E, H => ∃ Hm Hs, SplitH E H Hm Hs ∧ AM P N ops Hs (fun E' H' => AMS P N ops K r E' (H' ++ Hs)) ord E Hm
theorem AMS.nil {E : Env} {H : List HE} (h : K E H) : AMS P N ops K [] E H := h
def stagesOk (ops : Array Oper) (an : List (List Nat)) : List (List (Nat × Bool)) → Bool
  | [] => true
  | ord :: r => ordPairs ops an ord && (ord.all fun q => decide (q.1 < ops.size)) && (r.all fun s => s.all fun j => ord.all fun q => (an.getD j.1 []).contains q.1) && stagesOk ops an r
def stagesAll (ops : Array Oper) (os : List (List (Nat × Bool))) : Bool :=
  ((List.range ops.size).all fun i => os.any fun ord => ord.any fun q => q.1 == i) &&
  ((List.range ops.size).all fun i => (ops[i]?).all fun o => o.after.all fun e => !Region.binds .any e || decide (e.on < i)) && stagesOk ops (ancs ops.toList []) os
theorem AMS.run {Q : Exit → Act → World → Prop} (hback : ∀ i o, ops[i]? = some o → ∀ e ∈ o.after, Region.binds .any e = true → e.on < i) : ∀ (os : List (List (Nat × Bool))), stagesOk ops (ancs ops.toList []) os = true →
    ∀ (listed : Array Bool) (A : Act) (W : World) (E : Env) (H : List HE) (R : Nat → Prop), listed.size = ops.size → Closed ops listed → (∀ i, i < ops.size → (listed.getD i false = false ↔ i ∈ (os.flatten).map Prod.fst)) → RelS Γ R H W → RelA Γ.N R W E A →
      AMS P Γ.N ops (fun E' H' => AQ Γ Q .normal E' H') os E H → wpAny P .any ops Q (listed.toList.count false) listed A W
  | [], _, listed, A, W, E, H, R, hsz, hcl, hpt, hs, ha, h => by
    have hlist : ∀ i, i < ops.size → listed.getD i false = true := by
      intro i hi
      cases hb : listed.getD i false with
      | true => rfl
      | false => have := (hpt i hi).1 hb; cases this
    have h0 : listed.toList.count false = 0 := by
      rw [List.count_eq_zero]
      intro hm
      obtain ⟨i, hi, hf⟩ := List.getElem_of_mem hm
      have hi' : i < listed.size := by simpa using hi
      have := hlist i (by rw [← hsz]; exact hi')
      rw [show listed.getD i false = listed[i] by simp [Array.getD, hi']] at this
      rw [show listed.toList[i] = listed[i] by simp, this] at hf
      cases hf
    rw [h0]
    refine ⟨?_, h R A W hs ha⟩
    rw [List.eq_nil_iff_forall_not_mem]
    intro i hi
    obtain ⟨h0, o, ho, _⟩ := mem_ready.1 hi
    have hi' : i < ops.size := (Array.getElem?_eq_some_iff.1 ho).1
    have := hlist i hi'
    rw [← getD_tf (by rw [hsz]; exact hi')] at this
    rw [this] at h0; cases h0
  | ord :: os, hok, listed, A, W, E, H, R, hsz, hcl, hpt, hs, ha, h => by
    rw [stagesOk] at hok
    simp only [Bool.and_eq_true, List.all_eq_true, decide_eq_true_eq, List.contains_eq_mem] at hok
    obtain ⟨⟨⟨hp, hlt⟩, hlate⟩, hrest⟩ := hok
    obtain ⟨Hm, Hs, hH, hAM⟩ := h
    have hI : MJ P Γ ops Hs (fun E' H' => AMS P Γ.N ops (fun E' H' => AQ Γ Q .normal E' H') os E' (H' ++ Hs)) ord (os.flatten.map Prod.fst) listed A W [] ord [] E Hm R := by
      refine ⟨hsz, hcl, fun i hi => ?_, rfl, fun i hi => (by cases hi), hAM, fun i hi => (by cases hi), hs.perm hH.symm, ha.defers, ha.size, fun t v ht _ => ha.slots t v ht⟩
      rw [hpt i hi]
      simp
    obtain ⟨pre', ms', Pd', E', hI2, hh2⟩ := hI.absorb hp
    refine MJ.stage hback hp hlt (fun j hj q hq => ?_) (fun listed A W E H R h1 h2 h3 h4 h5 h6 => AMS.run hback os hrest listed A W E _ R h1 h2 h3 h4 h5 h6) _ listed A W pre' ms' Pd' E' Hm R rfl hI2 hh2
    obtain ⟨x, hx, rfl⟩ := List.mem_map.1 hj
    obtain ⟨s, hs1, hs2⟩ := List.mem_flatten.1 hx
    exact hlate s hs1 x hs2 q hq
end
end Go.Proofs.Ytochjihddnkhcaa.A

namespace Go.Proofs.Ytochjihddnkhcaa.A
open Go.RowKit L
set_option linter.unusedVariables false
set_option linter.unusedSimpArgs false
section
variable {Γ : Cx} {P : Program} {ops : Array Oper} {Q : Exit → Act → World → Prop} {E : Env} {H : List HE} {o : Oper} {rest : List Oper}
end
end Go.Proofs.Ytochjihddnkhcaa.A

namespace Go.Proofs.Ytochjihddnkhcaa.A
open Go.RowKit L
set_option linter.unusedVariables false
set_option linter.unusedSimpArgs false
section
variable {P : Program} {E : Env} {H : List HE} {N : Nat} {o : Oper}
end
end Go.Proofs.Ytochjihddnkhcaa.A

namespace Go.Proofs.Ytochjihddnkhcaa.A
open Go.RowKit L
set_option linter.unusedVariables false
set_option linter.unusedSimpArgs false
section
variable {Γ : Cx} {P : Program} {Q : Exit → Act → World → Prop} {E : Env} {H : List HE} {N : Nat} {o : Oper} {ops : Array Oper} {rest : List Oper}
theorem CoeL.app {a b x y : List AV} (h : CoeL a b) (k : CoeL x y) : CoeL (a ++ x) (b ++ y) := fun R W us hu => by
  induction a generalizing b us with
  | nil =>
    have hb : b = [] := by
      have := (h R W [] RelL.nil).1
      exact List.eq_nil_of_length_eq_zero this.symm
    subst hb
    exact k R W us hu
  | cons u a ih =>
    have h1 : us.take (a.length + 1) ++ us.drop (a.length + 1) = us := List.take_append_drop ..
    have h2 := hu.take (a.length + 1)
    have h3 := hu.drop (a.length + 1)
    rw [show ((u :: a) ++ x).take (a.length + 1) = u :: a by simp] at h2
    rw [show ((u :: a) ++ x).drop (a.length + 1) = x by simp] at h3
    rw [← h1]
    exact RelL.app (h R W _ h2) (k R W _ h3)
theorem Coe.ro {full : Bool} {n : Nat} {xs ys : List AV} (h : CoeL xs ys) : Coe (.ro full n xs) (.ro full n ys) := fun R W u hu => by
  cases hu with
  | emp _ a cap h1 h2 =>
    have hy : ys = [] := List.eq_nil_of_length_eq_zero (h R W [] RelL.nil).1.symm
    subst hy
    exact .emp _ a cap h1 h2
  | ro _ _ _ b off cap us hb hc hr h1 h2 h3 =>
    have hl : RelL R W xs ((List.range xs.length).map us) := ⟨by simp, fun j hj => by simpa [hj] using hr j hj⟩
    have hk := h R W _ hl
    have he : ys.length = xs.length := by have := hk.1; simpa using this.symm
    refine .ro _ _ _ b off cap us hb (fun j hj => hc j (by omega)) (fun j hj => ?_) h1 h2 h3
    have := hk.2 j hj
    rw [he] at hj
    simpa [hj] using this
/-- A literal whose elements are all given, in order. -/
def seqA (k : Nat) : Nat → List (Nat × AV) → Option (List AV)
  | _, [] => some []
  | i, (j, v) :: r => bif Nat.beq j i && Nat.beq v.cells.length k then (match seqA k (i + 1) r with | some ys => some (v.cells ++ ys) | none => none) else none
/-! ### Several results, each in a temporary or in a box -/
def resOne (tmps : Array Value) : ResultVar → Sem Value
  | .tmp t => pure (tmps.getD t undef)
  | .cell a t => do loadVar t (← asAddr (tmps.getD a undef))
theorem results_eq (fn : Func) (tmps : Array Value) : results fn tmps = (do
    let vs ← fn.results.mapM (resOne tmps)
    pure (if h : vs.size = 1 then vs[0] else .tuple vs)) := by
  unfold results
  congr 1
def ResAt (Γ : Cx) (P : Program) (E : Env) (H : List HE) (x : ResultVar) (q : AV) : Prop :=
  ∀ R a W, RelS Γ R H W → RelA Γ.N R W E a → ∃ u, (resOne a.tmps x).run P W = .ok u W ∧ RelV R W q u
theorem ResAt.tmp {t : Nat} {q : AV} (h : look E t = some q) : ResAt Γ P E H (.tmp t) q := fun R a W hs ha => ⟨a.eval (.tmp t), rfl, ha.slots t q h⟩
theorem ResAt.cell {t T k b T' room : Nat} {xs ys : List AV} [hg : TyG P T true k] (ht : look E t = some (.val (.pointer (some ⟨b, 0, none⟩)))) (hm : HE.blk b T' room xs ∈ H) (hv : xs.take k = ys) (hk : ys.length = k) : ResAt Γ P E H (.cell t T) (.agg ys) := fun R a W hs ha => by
  obtain ⟨us, cs, hb, hsz, hts, hrl⟩ := hs.ok _ hm
  have hrl := hrl.take k
  rw [hv] at hrl
  have hl := run_loadVarK hg W b 0 (us.take k) (by rw [hrl.1, hk]) (fun i u hi => by
    rw [cell_of_row W b (0 + i) cs T' (0, 0) hb]
    rw [List.getElem?_take] at hi
    split at hi
    · rw [← hts, List.getElem?_take] at hi
      split at hi
      · simpa using hi
      · cases hi
    · cases hi)
  have hv' := (ha.slots t _ ht).val_inv
  refine ⟨.agg (us.take k).toArray, ?_, hrl.toAgg⟩
  have : a.tmps.getD t undef = .pointer (some ⟨b, 0, none⟩) := hv'
  simp [resOne, this, asAddr, hl]
end
end Go.Proofs.Ytochjihddnkhcaa.A

namespace Go.Proofs.Ytochjihddnkhcaa.A
open Go.RowKit L
set_option linter.unusedVariables false
set_option linter.unusedSimpArgs false

section
variable {P : Program} {ops : Array Oper} {N : Nat}
/-- Operations in this order: true those that write, false those that read. -/
structure Al where
  (i d T room : Nat) (xs : List AV)
def Al.ok (P : Program) (N : Nat) (ops : Array Oper) (al : Al) : Prop :=
  ∃ o, ops[al.i]? = some o ∧ o.dst = some al.d ∧ al.d < N ∧ o.guard = none ∧ OpW P N o [] [] (NewBlk (fun b => .val (.pointer (some ⟨b, 0, none⟩))) al.T al.room al.xs)
def Al.he (al : Al) (b : Nat) : HE := .blk b al.T al.room al.xs
def Al.hs (al : Al) : Option Nat → List HE
  | none => []
  | some b => [al.he b]
def AN (P : Program) (N : Nat) (ops : Array Oper) (al : Al) (Hs : List HE) (K : Env → List HE → Prop) : List (Nat × Bool) → Env → List HE → Prop
  | [], E, H => K E H
  | (i, true) :: r, E, H => if i = al.i then (∀ b, AN P N ops al Hs K r ((al.d, .val (.pointer (some ⟨b, 0, none⟩))) :: E) (al.he b :: H)) else ∃ o, ops[i]? = some o ∧ ∀ w0 R0, AO ⟨w0, footOf H, R0, N⟩ P ops (QS ⟨w0, footOf H, R0, N⟩ o.dst (fun v H' => AN P N ops al Hs K r (putE o.dst v E) H')) [o] (rst E (o.looksAt ops)) H
  | (i, false) :: r, E, H => ∃ o d v, ops[i]? = some o ∧ o.dst = some d ∧ d < N ∧ OpF P N ops o (rst E (o.looksAt ops)) Hs (Is v) ∧ AN P N ops al Hs K r ((d, v) :: E) H

/-- One operation ahead of another. -/
def ordPairA (ops : Array Oper) (ia : Nat) (an : List (List Nat)) (i : Nat) (b : Bool) (j : Nat) (c : Bool) : Bool :=
  match ops[i]?, ops[j]? with
  | some oi, some oj =>
    let waits := oj.after.any fun e => Region.binds .any e && e.on == i
    let anc := (an.getD j []).contains i
    (i != j) && (!b || anc || j == ia) &&
    (match oj.dst with
      | some d => bif c && j != ia then (!((oi.looksAt ops).contains d || oi.dst == some d)) || anc else !(oi.looksAt ops).contains d && oi.dst != some d
      | none => c && j != ia) &&
    (match oi.dst with
      | some d => !(oj.looksAt ops).contains d || waits
      | none => true)
  | _, _ => false
def ordPairsA (ops : Array Oper) (ia : Nat) (an : List (List Nat)) : List (Nat × Bool) → Bool
  | [] => true
  | (i, b) :: r => (b || (match ops[i]? with | some o => (match o.dst with | some d => !(o.looksAt ops).contains d | none => false) | none => false)) && r.all (fun q => ordPairA ops ia an i b q.1 q.2) && ordPairsA ops ia an r
def ordOkA (ops : Array Oper) (ia : Nat) (ord : List (Nat × Bool)) : Bool :=
  ((List.range ops.size).all fun i => (ord.map Prod.fst).contains i) && (ord.all fun q => decide (q.1 < ops.size)) &&
  ((List.range ops.size).all fun i => (ops[i]?).all fun o => o.after.all fun e => !Region.binds .any e || decide (e.on < i)) && (ord.all fun q => q.1 != ia || q.2) && ordPairsA ops ia (ancs ops.toList []) ord

theorem ordPairsA_app {ia : Nat} {an : List (List Nat)} : ∀ {pre r : List (Nat × Bool)}, ordPairsA ops ia an (pre ++ r) = true → ordPairsA ops ia an r = true ∧ ∀ q ∈ pre, ∀ s ∈ r, ordPairA ops ia an q.1 q.2 s.1 s.2 = true
  | [], r, h => ⟨h, fun q hq => by cases hq⟩
  | (i, b) :: pre, r, h => by
    rw [List.cons_append, ordPairsA] at h
    simp only [Bool.and_eq_true, List.all_eq_true] at h
    obtain ⟨h1, h2⟩ := ordPairsA_app h.2
    refine ⟨h1, fun q hq s hs => ?_⟩
    rcases List.mem_cons.1 hq with rfl | hq
    · exact h.1.2 s (List.mem_append_right _ hs)
    · exact h2 q hq s hs

structure PairOkA (ops : Array Oper) (ia : Nat) (an : List (List Nat)) (i : Nat) (b : Bool) (oi : Oper) (j : Nat) (c : Bool) (oj : Oper) : Prop where
  ne : i ≠ j
  main : b = true → j ≠ ia → i ∈ an.getD j []
  flt : c = false ∨ j = ia → ∃ d, oj.dst = some d ∧ d ∉ oi.looksAt ops ∧ oi.dst ≠ some d
  mn : c = true → j ≠ ia → ∀ d, oj.dst = some d → (d ∈ oi.looksAt ops ∨ oi.dst = some d) → i ∈ an.getD j []
  reads : ∀ d, oi.dst = some d → d ∈ oj.looksAt ops → ∃ e ∈ oj.after, Region.binds .any e = true ∧ e.on = i
theorem pairOkA {ia : Nat} {an : List (List Nat)} {i j : Nat} {b c : Bool} {oi oj : Oper} (h : ordPairA ops ia an i b j c = true) (hi : ops[i]? = some oi) (hj : ops[j]? = some oj) : PairOkA ops ia an i b oi j c oj := by
  unfold ordPairA at h
  rw [hi, hj] at h
  simp only [Bool.and_eq_true, bne_iff_ne, ne_eq] at h
  obtain ⟨⟨⟨h1, h2⟩, h3⟩, h4⟩ := h
  refine ⟨h1, fun hb hj => ?_, fun hc => ?_, fun hc hj d hd hm => ?_, fun d hd hm => ?_⟩
  · subst hb; simpa [hj] using h2
  · have hcj : (c && j != ia) = false := by rcases hc with hc | hc <;> simp [hc]
    cases hd : oj.dst with
    | none => rw [hd] at h3; simp only [hcj] at h3; cases h3
    | some d =>
      rw [hd] at h3
      simp only [hcj, cond_false] at h3
      simp at h3
      exact ⟨d, rfl, h3.1, h3.2⟩
  · subst hc
    have hcj : (true && j != ia) = true := by simp [hj]
    rw [hd] at h3
    simp only [hcj, cond_true] at h3
    simp at h3
    rcases h3 with h3 | h3
    · rcases hm with hm | hm
      · exact absurd hm h3.1
      · exact absurd hm h3.2
    · exact h3
  · rw [hd] at h4
    simp only [Bool.or_eq_true, Bool.not_eq_true', List.contains_eq_mem, decide_eq_false_iff_not] at h4
    rcases h4 with h4 | h4
    · exact absurd hm h4
    · obtain ⟨x, hx, hx2⟩ := any_mem h4
      simp only [Bool.and_eq_true, beq_iff_eq] at hx2
      exact ⟨x, hx, hx2.1, hx2.2⟩

/-- The state on the way. -/
structure NI (P : Program) (Γ : Cx) (ops : Array Oper) (al : Al) (Hs : List HE) (K : Env → List HE → Prop) (ord : List (Nat × Bool)) (listed : Array Bool) (A : Act) (W : World) (pre ms : List (Nat × Bool)) (Pd : List Nat) (ea : Option Nat) (E : Env) (H : List HE) (R : Nat → Prop) : Prop where
  size : listed.size = ops.size
  closed : Closed ops listed
  part : ∀ i, i < ops.size → (listed.getD i false = false ↔ (i ∈ Pd ∨ i ∈ ms.map Prod.fst) ∧ (ea ≠ none → i ≠ al.i))
  ord : ord = pre ++ ms
  pdp : ∀ i ∈ Pd, (i, false) ∈ pre
  am : AN P Γ.N ops al Hs K ms E H
  pend : ∀ i ∈ Pd, ∃ o d v, ops[i]? = some o ∧ o.dst = some d ∧ d < Γ.N ∧ look E d = some v ∧ OpF P Γ.N ops o (rst E (o.looksAt ops)) Hs (Is v)
  rels : RelS Γ R (H ++ (al.hs ea ++ Hs)) W
  eal : ∀ b, ea = some b → (al.i, true) ∈ ms ∧ A.eval (.tmp al.d) = .pointer (some ⟨b, 0, none⟩)
  defers : A.defers = []
  tmps : A.tmps.size = Γ.N
  act : ∀ t v, look E t = some v → (∀ i ∈ Pd, ∀ o, ops[i]? = some o → o.dst ≠ some t) → (ea ≠ none → t ≠ al.d) → RelV R W v (A.eval (.tmp t))

variable {Γ : Cx} {al : Al} {Hs : List HE} {K : Env → List HE → Prop} {ord : List (Nat × Bool)}

/-- What reads is pending as soon as it may run. -/
theorem NI.absorb {listed : Array Bool} {A : Act} {W : World} {R : Nat → Prop} (hok : ordPairsA ops al.i (ancs ops.toList []) ord = true) (hal : al.ok P Γ.N ops) : ∀ (ms pre : List (Nat × Bool)) (Pd : List Nat) (ea : Option Nat) (E : Env) (H : List HE), NI P Γ ops al Hs K ord listed A W pre ms Pd ea E H R →
    ∃ pre' ms' Pd' ea' E' H', NI P Γ ops al Hs K ord listed A W pre' ms' Pd' ea' E' H' R ∧ (ms' = [] ∨ ∃ m r, ms' = (m, true) :: r ∧ (m = al.i → ea' = none))
  | [], pre, Pd, ea, E, H, h => ⟨pre, [], Pd, ea, E, H, h, .inl rfl⟩
  | (m, true) :: r, pre, Pd, ea, E, H, h => by
    by_cases hm : m = al.i
    · subst hm
      cases hea : ea with
      | none => subst hea; exact ⟨pre, _, Pd, none, E, H, h, .inr ⟨_, r, rfl, fun _ => rfl⟩⟩
      | some b =>
        subst hea
        obtain ⟨oa, ho, hd, hN, hg, hop⟩ := hal
        have ham := h.am
        rw [AN, if_pos rfl] at ham
        have hord := h.ord
        have hq := ordPairsA_app (pre := pre) (r := (al.i, true) :: r) (by rw [← hord]; exact hok)
        have hself : ∀ i ∈ Pd, i ≠ al.i := fun i hi e => by
          have := pairOkA (hq.2 _ (h.pdp i hi) (al.i, true) (List.mem_cons_self ..)) (by rw [e]; exact ho) ho
          exact this.ne e
        have hp : ∀ i ∈ Pd, ∀ oi, ops[i]? = some oi → al.d ∉ oi.looksAt ops ∧ oi.dst ≠ some al.d := fun i hi oi hoi => by
          have := pairOkA (hq.2 _ (h.pdp i hi) (al.i, true) (List.mem_cons_self ..)) hoi ho
          obtain ⟨d', h1, h2, h3⟩ := this.flt (.inr rfl)
          rw [hd] at h1
          cases h1
          exact ⟨h2, h3⟩
        have hnr : al.i ∉ r.map Prod.fst := fun hm => by
          obtain ⟨⟨j, c⟩, hq3, hji⟩ := List.mem_map.1 hm
          have h9 := (ordPairsA_app (pre := pre ++ [(al.i, true)]) (r := r) (by rw [List.append_assoc, List.singleton_append, ← hord]; exact hok)).2 (al.i, true) (by simp) _ hq3
          simp only at hji
          subst hji
          exact (pairOkA h9 ho ho).ne rfl
        refine NI.absorb hok ⟨oa, ho, hd, hN, hg, hop⟩ r (pre ++ [(al.i, true)]) Pd none ((al.d, .val (.pointer (some ⟨b, 0, none⟩))) :: E) (al.he b :: H) ⟨h.size, h.closed, fun i hi => ?_, by rw [hord]; simp, fun i hi => List.mem_append_left _ (h.pdp i hi), ham b, fun i hi => ?_, ?_, fun _ h => (by cases h), h.defers, h.tmps, fun t x ht hpd _ => ?_⟩
        · rw [h.part i hi]
          simp only [List.map_cons, List.mem_cons, ne_eq, not_false_eq_true, forall_const, not_true_eq_false, false_implies, and_true, reduceCtorEq]
          constructor
          · rintro ⟨h1 | h1 | h1, h2⟩
            · exact .inl h1
            · exact absurd h1 h2
            · exact .inr h1
          · rintro (h1 | h1)
            · exact ⟨.inl h1, hself i h1⟩
            · exact ⟨.inr (.inr h1), fun e => hnr (e ▸ h1)⟩
        · obtain ⟨oi, di, vi, h1, h2, h3, h4, h5⟩ := h.pend i hi
          obtain ⟨h6, h7⟩ := hp i hi oi h1
          refine ⟨oi, di, vi, h1, h2, h3, ?_, by rw [rst_skip h6]; exact h5⟩
          rw [look_skip (fun e => h7 (by rw [h2, e]))]; exact h4
        · refine h.rels.perm ?_
          show (al.he b :: (H ++ ([] ++ Hs))).Perm (H ++ ([al.he b] ++ Hs))
          exact (List.perm_middle (a := al.he b) (l₁ := H) (l₂ := Hs)).symm
        · by_cases hdt : al.d = t
          · subst hdt
            rw [look_here] at ht
            cases ht
            rw [(h.eal b rfl).2]; exact .val _
          · rw [look_skip hdt] at ht
            exact h.act t x ht hpd fun _ e => hdt e.symm
    · exact ⟨pre, _, Pd, ea, E, H, h, .inr ⟨m, r, rfl, fun e => absurd e hm⟩⟩
  | (j, false) :: r, pre, Pd, ea, E, H, h => by
    obtain ⟨o, d, v, ho, hd, hN, hop, ham⟩ := h.am
    have hord := h.ord
    have hq := ordPairsA_app (pre := pre) (r := (j, false) :: r) (by rw [← hord]; exact hok)
    have hself : d ∉ o.looksAt ops := by
      have := hq.1
      rw [ordPairsA] at this
      simp only [Bool.and_eq_true, ho, hd, Bool.false_or] at this
      simpa using this.1.1
    have hp : ∀ i ∈ Pd, ∀ oi, ops[i]? = some oi → d ∉ oi.looksAt ops ∧ oi.dst ≠ some d := fun i hi oi hoi => by
      have := pairOkA (hq.2 _ (h.pdp i hi) (j, false) (List.mem_cons_self ..)) hoi ho
      obtain ⟨d', h1, h2, h3⟩ := this.flt (.inl rfl)
      rw [hd] at h1
      cases h1
      exact ⟨h2, h3⟩
    refine NI.absorb hok hal r (pre ++ [(j, false)]) (j :: Pd) ea ((d, v) :: E) H ⟨h.size, h.closed, fun i hi => ?_, by rw [hord]; simp, fun i hi => ?_, ham, fun i hi => ?_, h.rels, fun b hb => ?_, h.defers, h.tmps, fun t x ht hpd hea => ?_⟩
    · rw [h.part i hi]
      simp only [List.map_cons, List.mem_cons]
      refine and_congr_left fun _ => ?_
      constructor
      · rintro (h | h | h)
        · exact .inl (.inr h)
        · exact .inl (.inl h)
        · exact .inr h
      · rintro ((h | h) | h)
        · exact .inr (.inl h)
        · exact .inl h
        · exact .inr (.inr h)
    · rcases List.mem_cons.1 hi with rfl | hi
      · simp
      · exact List.mem_append_left _ (h.pdp i hi)
    · rcases List.mem_cons.1 hi with rfl | hi
      · exact ⟨o, d, v, ho, hd, hN, look_here, by rw [rst_skip hself]; exact hop⟩
      · obtain ⟨oi, di, vi, h1, h2, h3, h4, h5⟩ := h.pend i hi
        obtain ⟨h6, h7⟩ := hp i hi oi h1
        refine ⟨oi, di, vi, h1, h2, h3, ?_, by rw [rst_skip h6]; exact h5⟩
        rw [look_skip (fun e => h7 (by rw [h2, e]))]; exact h4
    · obtain ⟨h1, h2⟩ := h.eal b hb
      rcases List.mem_cons.1 h1 with h1 | h1
      · cases h1
      · exact ⟨h1, h2⟩
    · have hne : d ≠ t := fun e => hpd j (List.mem_cons_self ..) o ho (by rw [hd, e])
      rw [look_skip hne] at ht
      exact h.act t x ht (fun i hi => hpd i (List.mem_cons_of_mem _ hi)) hea

theorem NI.reads {listed : Array Bool} {A : Act} {W : World} {R : Nat → Prop} {pre ms : List (Nat × Bool)} {Pd : List Nat} {ea : Option Nat} {E : Env} {H : List HE} (hok : ordPairsA ops al.i (ancs ops.toList []) ord = true) (hal : al.ok P Γ.N ops) (h : NI P Γ ops al Hs K ord listed A W pre ms Pd ea E H R)
    {i : Nat} {b : Bool} {o : Oper} (ho : ops[i]? = some o) (hdeps : ∀ e ∈ o.after, Region.binds .any e = true → listed.getD e.on false = true) (hi : (i, b) ∈ pre ∧ i ∈ Pd ∧ b = false ∨ ∃ r, ms = (i, b) :: r ∧ i ≠ al.i) : RelA Γ.N R W (rst E (o.looksAt ops)) A := by
  refine ⟨h.defers, h.tmps, fun t v ht => ?_⟩
  obtain ⟨htl, ht⟩ := look_rst ht
  obtain ⟨oa, hoa, hda, -⟩ := hal
  have hnal : ea ≠ none → t ≠ al.d := fun hea e => by
    obtain ⟨b', hb'⟩ := Option.ne_none_iff_exists'.1 hea
    have hmem := (h.eal b' hb').1
    have key : ordPairA ops al.i (ancs ops.toList []) i b al.i true = true → False := fun hp => by
      obtain ⟨d', h1, h2, -⟩ := (pairOkA hp ho hoa).flt (.inr rfl)
      rw [hda] at h1; cases h1
      exact h2 (e ▸ htl)
    rcases hi with ⟨hip, -, -⟩ | ⟨r, hms, hne⟩
    · exact key ((ordPairsA_app (pre := pre) (r := ms) (by rw [← h.ord]; exact hok)).2 _ hip _ hmem)
    · rw [hms] at hmem
      rcases List.mem_cons.1 hmem with h9 | h9
      · cases h9; exact hne rfl
      · exact key ((ordPairsA_app (pre := pre ++ [(i, b)]) (r := r) (by have := h.ord; rw [List.append_assoc, List.singleton_append, ← hms, ← this]; exact hok)).2 (i, b) (by simp) _ h9)
  refine h.act t v ht (fun k hk ok hok' hdk => ?_) hnal
  have hkp := h.pdp k hk
  have hkn : ea ≠ none → k ≠ al.i := fun hea e => by
    obtain ⟨b', hb'⟩ := Option.ne_none_iff_exists'.1 hea
    have hmem := (h.eal b' hb').1
    exact (pairOkA ((ordPairsA_app (pre := pre) (r := ms) (by rw [← h.ord]; exact hok)).2 _ hkp _ hmem) hok' hoa).ne e
  have hkf : listed.getD k false = false := (h.part k (Array.getElem?_eq_some_iff.1 hok').1).2 ⟨.inl hk, hkn⟩
  have direct : ordPairA ops al.i (ancs ops.toList []) k false i b = true → False := fun hp => by
    obtain ⟨e, he, hb, hon⟩ := (pairOkA hp hok' ho).reads t hdk htl
    have := hdeps e he hb
    rw [hon, hkf] at this; cases this
  rcases hi with ⟨hip, hiP, rfl⟩ | ⟨r, hms, -⟩
  · -- both ahead
    obtain ⟨p1, p2, hp12⟩ := List.append_of_mem hkp
    have hord := h.ord
    rw [hp12, List.append_assoc] at hord
    rw [hp12] at hip
    rcases List.mem_append.1 hip with hip | hip
    · -- i ahead of k
      have hq := ordPairsA_app (pre := p1) (by rw [← hord]; exact hok)
      have := pairOkA (hq.2 _ hip (k, false) (List.mem_cons_self ..)) ho hok'
      obtain ⟨d', h1, h2, -⟩ := this.flt (.inl rfl)
      rw [hdk] at h1; cases h1
      exact h2 htl
    · rcases List.mem_cons.1 hip with he | hip
      · cases he
        -- itself
        have hq := (ordPairsA_app (pre := p1) (by rw [← hord]; exact hok)).1
        rw [List.cons_append, ordPairsA] at hq
        simp only [Bool.and_eq_true] at hq
        obtain rfl : o = ok := by rw [ho] at hok'; exact Option.some.inj hok'
        have := hq.1.1
        rw [ho] at this
        simp only [hdk, Bool.false_or] at this
        simp at this
        exact this htl
      · rw [show p1 ++ ((k, false) :: p2 ++ ms) = (p1 ++ [(k, false)]) ++ (p2 ++ ms) by simp] at hord
        have hq := ordPairsA_app (pre := p1 ++ [(k, false)]) (by rw [← hord]; exact hok)
        exact direct (hq.2 (k, false) (by simp) (i, false) (List.mem_append_left _ hip))
  · have hq := ordPairsA_app (pre := pre) (r := ms) (by rw [← h.ord]; exact hok)
    exact direct (hq.2 _ hkp (i, b) (by rw [hms]; exact List.mem_cons_self ..))

theorem AW.regionA {Q : Exit → Act → World → Prop} {E : Env} {H : List HE} {id : Nat} {l : List Oper} (al : Al) (hal0 : al.ok P Γ.N l.toArray) (ord : List (Nat × Bool)) {Hm Hs : List HE} (hm : P.follows .mixedOrders = true) (hok : ordOkA l.toArray al.i ord = true) (hH : SplitH E H Hm Hs)
    (h : AN P Γ.N l.toArray al Hs (fun E' H' => AQ Γ Q .normal E' (H' ++ Hs)) ord E Hm) : AW Γ P Q (.region id l.toArray true) E H := fun R a W hs0 ha0 => by
  obtain ⟨ops, hops⟩ : ∃ ops, ops = l.toArray := ⟨_, rfl⟩
  rw [← hops] at h hok hal0
  have hal := hal0
  obtain ⟨oa, hoa, hda, hNa, hga, hopa⟩ := hal0
  simp only [ordOkA, Bool.and_eq_true, List.all_eq_true, List.mem_range] at hok
  obtain ⟨⟨⟨⟨hall, hlt⟩, hbk⟩, hkind⟩, hpairs⟩ := hok
  have hkd : ∀ i b, (i, b) ∈ ord → i = al.i → b = true := fun i b hib e => by have := hkind _ hib; simpa [e] using this
  have hback : ∀ i o, ops[i]? = some o → ∀ e ∈ o.after, Region.binds .any e = true → e.on < i := fun i o ho e he hb => by
    have hi : i < ops.size := (Array.getElem?_eq_some_iff.1 ho).1
    have := hbk i hi
    rw [ho] at this
    simp only [Option.all_some] at this
    have := Array.all_eq_true_iff_forall_mem.1 this e he
    simpa [hb] using this
  have main : ∀ (fuel : Nat) (listed : Array Bool) (A : Act) (W : World) (pre ms : List (Nat × Bool)) (Pd : List Nat) (ea : Option Nat) (E : Env) (H : List HE) (R : Nat → Prop), fuel = listed.toList.count false →
      NI P Γ ops al Hs (fun E' H' => AQ Γ Q .normal E' (H' ++ Hs)) ord listed A W pre ms Pd ea E H R → (ms = [] ∨ ∃ m r, ms = (m, true) :: r ∧ (m = al.i → ea = none)) → wpAny P .any ops Q fuel listed A W := by
    intro fuel
    induction fuel with
    | zero =>
      intro listed A W pre ms Pd ea E H R hc hI hhd
      have hlist : ∀ i, i < ops.size → listed.getD i false = true := by
        intro i hi
        have hi' : i < listed.size := by rw [hI.size]; exact hi
        cases hb : listed.getD i false with
        | true => rfl
        | false =>
          exfalso
          have hm : false ∈ listed.toList := by
            rw [← hb]; simp [Array.getD, hi']
          have := List.count_pos_iff.2 hm
          omega
      have hin : ∀ i b, (i, b) ∈ ord → i < ops.size := fun i b hib => by have := hlt _ hib; simpa using this
      have hms : ms = [] := by
        rcases hhd with h | ⟨m, r, h, hm0⟩
        · exact h
        · have h1 := hin m true (by rw [hI.ord, h]; simp)
          have := (hI.part m h1).2 ⟨.inr (by rw [h]; simp), fun hne e => hne (hm0 e)⟩
          rw [hlist m h1] at this; cases this
      have hea : ea = none := by
        cases hea : ea with
        | none => rfl
        | some b => have := (hI.eal b hea).1; rw [hms] at this; cases this
      subst hea
      have hPd : Pd = [] := by
        rw [List.eq_nil_iff_forall_not_mem]
        intro i hi
        have h1 := hin i false (by rw [hI.ord]; exact List.mem_append_left _ (hI.pdp i hi))
        have := (hI.part i h1).2 ⟨.inl hi, fun hne => absurd rfl hne⟩
        rw [hlist i h1] at this; cases this
      subst hms
      subst hPd
      refine ⟨?_, hI.am R A W (by simpa [Al.hs] using hI.rels) ⟨hI.defers, hI.tmps, fun t v ht => hI.act t v ht (fun i hi => (by cases hi)) fun hne => absurd rfl hne⟩⟩
      rw [List.eq_nil_iff_forall_not_mem]
      intro i hi
      obtain ⟨h0, o, ho, _⟩ := mem_ready.1 hi
      have hi' : i < ops.size := (Array.getElem?_eq_some_iff.1 ho).1
      have := hlist i hi'
      rw [← getD_tf (by rw [hI.size]; exact hi')] at this
      rw [this] at h0; cases h0
    | succ fuel ih =>
      intro listed A W pre ms Pd ea E H R hc hI hhd
      have hne : ∃ i, i ∈ Region.ready .any ops listed := by
        have hex : ∃ i, i < ops.size ∧ listed.getD i false = false := by
          have hpos : 0 < listed.toList.count false := by omega
          obtain ⟨i, hi, hf⟩ := List.getElem_of_mem (List.count_pos_iff.1 hpos)
          have hi' : i < listed.size := by simpa using hi
          exact ⟨i, by rw [← hI.size]; exact hi', by simpa [Array.getD, hi'] using hf⟩
        obtain ⟨i, ⟨hi, hf⟩, hmin⟩ : ∃ i, (i < ops.size ∧ listed.getD i false = false) ∧ ∀ j, j < i → ¬ (j < ops.size ∧ listed.getD j false = false) := by
          obtain ⟨i, h⟩ := hex
          exact least ⟨i, h⟩
        have hio : ops[i]? = some ops[i] := by simp [hi]
        refine ⟨i, mem_ready.2 ⟨by rw [getD_tf (by rw [hI.size]; exact hi)]; exact hf, _, hio, fun e he hb => ?_⟩⟩
        have := hback i _ hio e he hb
        cases hb2 : listed.getD e.on false with
        | true => rfl
        | false => exact absurd ⟨by omega, hb2⟩ (hmin e.on this)
      refine ⟨fun e => (by obtain ⟨i, hi⟩ := hne; rw [e] at hi; cases hi), fun i hi => ?_⟩
      obtain ⟨h0, o, ho, hdeps⟩ := mem_ready.1 hi
      have hio : i < ops.size := (Array.getElem?_eq_some_iff.1 ho).1
      have hf : listed.getD i false = false := by rw [← getD_tf (by rw [hI.size]; exact hio)]; exact h0
      have hil : i < listed.size := by rw [hI.size]; exact hio
      have hanc : ∀ j, j ∈ (ancs ops.toList []).getD i [] → listed.getD j false = true := fun j hj => anc_listed hI.closed hback i o ho hdeps j hj
      have hcl := closed_set hI.closed ho hil hdeps
      have hcnt : fuel = (listed.setIfInBounds i true).toList.count false := by
        have hcs := count_set_true listed.toList i (by simpa using hil) (by simpa [Array.getD, hil] using hf)
        simp only [Array.toList_setIfInBounds]
        omega
      have hgd : ∀ k, k ≠ i → (listed.setIfInBounds i true).getD k false = listed.getD k false := fun k hk => getD_set_ne false (Ne.symm hk)
      have hgi : (listed.setIfInBounds i true).getD i false = true := by simp [Array.getD, hil]
      have hsz : (listed.setIfInBounds i true).size = ops.size := by simpa using hI.size
      obtain ⟨hPm, hni⟩ := (hI.part i hio).1 hf
      by_cases hia : i = al.i
      · -- the box
        have hea : ea = none := Classical.byContradiction fun hne => hni hne hia
        subst hea
        obtain rfl : o = oa := by rw [hia, hoa] at ho; exact (Option.some.inj ho).symm
        have hnP : al.i ∉ Pd := fun hp => by
          have := hkd _ _ (by rw [hI.ord]; exact List.mem_append_left _ (hI.pdp _ hp)) rfl
          cases this
        have hmm : (al.i, true) ∈ ms := by
          rcases hPm with h1 | h1
          · exact absurd (hia ▸ h1) hnP
          · obtain ⟨⟨j, c⟩, hq, hji⟩ := List.mem_map.1 h1
            simp only at hji
            have hji' : j = al.i := hji.trans hia
            have := hkd j c (by rw [hI.ord]; exact List.mem_append_right _ hq) hji'
            rw [← hji', ← this]; exact hq
        have hs := hopa R A W hI.rels.rlt (fun e he => (by cases he)) (fun e he => (by cases he)) ⟨hI.defers, hI.tmps, fun t v ht => (by cases ht)⟩
        have hnext : ∀ u W', (∃ v' Hn R', NewBlk (fun b => .val (.pointer (some ⟨b, 0, none⟩))) al.T al.room al.xs v' Hn ∧ Post1 R W v' Hn u W' R') → wpAny P .any ops Q fuel (listed.setIfInBounds i true) (A.put o.dst u) W' := by
          rintro u W' ⟨v', Hn, R', ⟨b, rfl, rfl⟩, hp⟩
          have hu := hp.val.val_inv
          subst hu
          have hrel : RelS Γ R' (H ++ (al.hs (some b) ++ Hs)) W' := by
            refine (hI.rels.step hp).perm ?_
            show (H ++ ([al.he b] ++ Hs)).Perm ([al.he b] ++ (H ++ ([] ++ Hs)))
            exact (List.perm_middle (a := al.he b) (l₁ := H) (l₂ := Hs))
          have hI' : NI P Γ ops al Hs (fun E' H' => AQ Γ Q .normal E' (H' ++ Hs)) ord (listed.setIfInBounds i true) (A.put o.dst (.pointer (some ⟨b, 0, none⟩))) W' pre ms Pd (some b) E H R' := by
            refine ⟨hsz, hcl, fun k hk => ?_, hI.ord, hI.pdp, hI.am, hI.pend, hrel, fun b' hb' => ?_, ?_, ?_, fun t x ht hpd hne => ?_⟩
            · by_cases hki : k = i
              · subst hki
                rw [hgi]
                simp [hia]
              · rw [hgd k hki, hI.part k hk]
                have hka : k ≠ al.i := fun e => hki (e.trans hia.symm)
                simp [hka]
            · cases hb'
              refine ⟨hmm, ?_⟩
              rw [hda, eval_put_same (by rw [hI.tmps]; exact hNa)]
            · rw [hda]; exact hI.defers
            · rw [hda]; simp [Act.put, hI.tmps]
            · have hdt : al.d ≠ t := fun e => hne (by simp) e.symm
              rw [hda, eval_put_other hdt]
              exact (hI.act t x ht hpd fun h => absurd rfl h).mono hp.sub (extSame hp.ext hI.rels.rlt)
          obtain ⟨pre', ms', Pd', ea', E', H', hI2, hh2⟩ := hI'.absorb hpairs hal
          exact ih _ _ _ pre' ms' Pd' ea' E' H' R' hcnt hI2 hh2
        unfold wpOp
        rw [ho]
        show if Region.wanted o (yielded ops A.tmps) = true then _ else _
        rw [if_pos (by unfold Region.wanted; rw [hga])]
        refine .inl (Oper.wp_mono ?_ (wp_of_noQ hs))
        rintro A' W' ⟨u, v', Hn, R', rfl, hn, hp⟩
        exact hnext u W' ⟨v', Hn, R', hn, hp⟩
      rcases hPm with hPd | hms
      · -- one that reads
        obtain ⟨o', d, v, ho', hd, hN, hlk, hop⟩ := hI.pend i hPd
        obtain rfl : o = o' := by rw [ho] at ho'; exact Option.some.inj ho'
        have hA := hI.reads hpairs hal ho hdeps (b := false) (.inl ⟨hI.pdp i hPd, hPd, rfl⟩)
        have hs := hop R A W hI.rels.rlt (fun e he => hI.rels.ok e (List.mem_append_right _ (List.mem_append_right _ he))) (fun e he b hb => (hI.rels.own e (List.mem_append_right _ (List.mem_append_right _ he)) b hb).2) hA
        have hnext : ∀ u W', (∃ v' Hn R', Is v v' Hn ∧ Post1 R W v' Hn u W' R') → wpAny P .any ops Q fuel (listed.setIfInBounds i true) (A.put o.dst u) W' := by
          rintro u W' ⟨v', Hn, R', ⟨rfl, rfl⟩, hp⟩
          have hnm : i ∉ ms.map Prod.fst := fun hm => by
            obtain ⟨⟨j, c⟩, hq, hji⟩ := List.mem_map.1 hm
            have hq2 := (ordPairsA_app (pre := pre) (r := ms) (by rw [← hI.ord]; exact hpairs)).2 _ (hI.pdp i hPd) _ hq
            simp only at hji
            subst hji
            exact (pairOkA hq2 ho ho).ne rfl
          have hdne : ea ≠ none → d ≠ al.d := fun hne e => by
            obtain ⟨b', hb'⟩ := Option.ne_none_iff_exists'.1 hne
            have hq2 := (ordPairsA_app (pre := pre) (r := ms) (by rw [← hI.ord]; exact hpairs)).2 _ (hI.pdp i hPd) _ (hI.eal b' hb').1
            obtain ⟨d', h1, h2, h3⟩ := (pairOkA hq2 ho hoa).flt (.inr rfl)
            rw [hda] at h1; cases h1
            exact h3 (by rw [hd, e])
          refine ih _ _ _ pre ms (Pd.filter (· ≠ i)) ea E H R' hcnt ⟨hsz, hcl, fun k hk => ?_, hI.ord, fun k hk => hI.pdp k (List.mem_filter.1 hk).1, hI.am, fun k hk => hI.pend k (List.mem_filter.1 hk).1, by simpa using hI.rels.step hp, fun b' hb' => ?_, ?_, ?_, fun t x ht hpd hne => ?_⟩ hhd
          · by_cases hki : k = i
            · subst hki
              rw [hgi]
              simp [hnm]
            · rw [hgd k hki, hI.part k hk]
              simp [hki]
          · obtain ⟨h1, h2⟩ := hI.eal b' hb'
            refine ⟨h1, ?_⟩
            rw [hd, eval_put_other (hdne (by rw [hb']; simp))]; exact h2
          · rw [hd]; exact hI.defers
          · rw [hd]; simp [Act.put, hI.tmps]
          · rw [hd]
            by_cases hdt : d = t
            · subst hdt
              rw [hlk] at ht
              cases ht
              rw [eval_put_same (by rw [hI.tmps]; exact hN)]; exact hp.val
            · rw [eval_put_other hdt]
              refine (hI.act t x ht (fun k hk ok hok hdk => ?_) ?_).mono hp.sub (extSame hp.ext hI.rels.rlt)
              by_cases hki : k = i
              · subst hki
                rw [ho] at hok
                cases hok
                rw [hd] at hdk
                cases hdk
                exact hdt rfl
              · exact hpd k (List.mem_filter.2 ⟨hk, by simpa using hki⟩) ok hok hdk
              · exact hne
        unfold wpOp
        rw [ho]
        unfold FStep at hs
        show if Region.wanted o (yielded ops A.tmps) = true then _ else _
        split
        · rename_i hw
          rw [if_pos hw] at hs
          refine .inl (Oper.wp_mono ?_ (wp_of_noQ hs))
          rintro A' W' ⟨u, rfl, hp⟩
          exact hnext u W' hp
        · rename_i hw
          rw [if_neg hw] at hs
          exact hnext _ _ hs
      · -- the next that writes
        rcases hhd with rfl | ⟨m, r, rfl, hm0⟩
        · cases hms
        have hmlt : m < ops.size := by have := hlt (m, true) (by rw [hI.ord]; simp); simpa using this
        have hmf : listed.getD m false = false := (hI.part m hmlt).2 ⟨.inr (by simp), fun hne e => hne (hm0 e)⟩
        have him : i = m := by
          rcases List.mem_cons.1 hms with h | h
          · exact h
          · exfalso
            obtain ⟨⟨j, c⟩, hq, hji⟩ := List.mem_map.1 h
            simp only at hji
            subst hji
            have h9 := (ordPairsA_app (pre := pre ++ [(m, true)]) (r := r) (by have := hI.ord; rw [List.append_assoc, List.singleton_append, ← this]; exact hpairs)).2 (m, true) (by simp) _ hq
            have hom : ops[m]? = some ops[m] := by simp [hmlt]
            have := hanc m ((pairOkA h9 hom ho).main rfl hia)
            rw [hmf] at this; cases this
        subst him
        have ham0 := hI.am
        rw [AN, if_neg hia] at ham0
        obtain ⟨o', ho', hAO⟩ := ham0
        obtain rfl : o = o' := by rw [ho] at ho'; exact Option.some.inj ho'
        have hA := hI.reads hpairs hal ho hdeps (b := true) (.inr ⟨r, rfl, hia⟩)
        have hs := hAO W R R A W ⟨Mods.refl _ _, hI.rels.rlt, fun _ h => h, fun _ h => .inl h, fun e he => hI.rels.ok e (List.mem_append_left _ he), fun e he b hb => ⟨.inr ⟨e, he, hb⟩, (hI.rels.own e (List.mem_append_left _ he) b hb).2⟩, (List.pairwise_append.1 hI.rels.disj).1⟩ hA
        have hnext : ∀ u W', QS ⟨W, footOf H, R, Γ.N⟩ o.dst (fun v H' => AN P Γ.N ops al Hs (fun E' H' => AQ Γ Q .normal E' (H' ++ Hs)) r (putE o.dst v E) H') .normal (A.put o.dst u) W' → wpAny P .any ops Q fuel (listed.setIfInBounds i true) (A.put o.dst u) W' := by
          rintro u W' ⟨hdf, v, H', R', ham, hsr, hvr⟩
          obtain ⟨hrel, hRW⟩ := RelS.part hI.rels hsr
          have hpd : ∀ k ∈ Pd, ∀ ok, ops[k]? = some ok → ∀ d, o.dst = some d → d ∉ ok.looksAt ops ∧ ok.dst ≠ some d := fun k hk ok hok d hd => by
            have h9 := (ordPairsA_app (pre := pre) (r := (i, true) :: r) (by rw [← hI.ord]; exact hpairs)).2 _ (hI.pdp k hk) (i, true) (List.mem_cons_self ..)
            have hkf : listed.getD k false = false := (hI.part k (Array.getElem?_eq_some_iff.1 hok).1).2 ⟨.inl hk, fun _ e => (by have := hkd _ _ (by rw [hI.ord]; exact List.mem_append_left _ (hI.pdp k hk)) e; cases this)⟩
            have hno : k ∉ (ancs ops.toList []).getD i [] := fun hm => by
              have := hanc k hm
              rw [hkf] at this; cases this
            exact ⟨fun hm => hno ((pairOkA h9 hok ho).mn rfl hia d hd (.inl hm)), fun he => hno ((pairOkA h9 hok ho).mn rfl hia d hd (.inr he))⟩
          have hnr : i ∉ r.map Prod.fst := fun hm => by
            obtain ⟨⟨j, c⟩, hq, hji⟩ := List.mem_map.1 hm
            have h9 := (ordPairsA_app (pre := pre ++ [(i, true)]) (r := r) (by have := hI.ord; rw [List.append_assoc, List.singleton_append, ← this]; exact hpairs)).2 (i, true) (by simp) _ hq
            simp only at hji
            subst hji
            exact (pairOkA h9 ho ho).ne rfl
          have hnp : i ∉ Pd := fun hk => by
            have h9 := (ordPairsA_app (pre := pre) (r := (i, true) :: r) (by rw [← hI.ord]; exact hpairs)).2 _ (hI.pdp i hk) (i, true) (List.mem_cons_self ..)
            exact (pairOkA h9 ho ho).ne rfl
          have hdne : ea ≠ none → o.dst ≠ some al.d := fun hne => by
            obtain ⟨b', hb'⟩ := Option.ne_none_iff_exists'.1 hne
            rcases List.mem_cons.1 (hI.eal b' hb').1 with h1 | h1
            · cases h1; exact absurd rfl hia
            · have h9 := (ordPairsA_app (pre := pre ++ [(i, true)]) (r := r) (by have := hI.ord; rw [List.append_assoc, List.singleton_append, ← this]; exact hpairs)).2 (i, true) (by simp) _ h1
              obtain ⟨d', h1, h2, h3⟩ := (pairOkA h9 ho hoa).flt (.inr rfl)
              rw [hda] at h1; cases h1
              exact h3
          have hI' : NI P Γ ops al Hs (fun E' H' => AQ Γ Q .normal E' (H' ++ Hs)) ord (listed.setIfInBounds i true) (A.put o.dst u) W' (pre ++ [(i, true)]) r Pd ea (putE o.dst v E) H' R' := by
            refine ⟨hsz, hcl, fun k hk => ?_, by rw [hI.ord]; simp, fun k hk => List.mem_append_left _ (hI.pdp k hk), ham, fun k hk => ?_, hrel, fun b' hb' => ?_, hdf, ?_, fun t x ht hp hne => ?_⟩
            · by_cases hki : k = i
              · subst hki
                rw [hgi]
                simp [hnr, hnp]
              · rw [hgd k hki, hI.part k hk]
                simp [hki]
            · obtain ⟨ok, dk, vk, h1, h2, h3, h4, h5⟩ := hI.pend k hk
              refine ⟨ok, dk, vk, h1, h2, h3, ?_, ?_⟩
              · cases hd : o.dst with
                | none => exact h4
                | some d => rw [putE, look_skip (fun e => (hpd k hk ok h1 d hd).2 (by rw [h2, e]))]; exact h4
              · cases hd : o.dst with
                | none => exact h5
                | some d => rw [putE, rst_skip (hpd k hk ok h1 d hd).1]; exact h5
            · obtain ⟨h1, h2⟩ := hI.eal b' hb'
              refine ⟨(List.mem_cons.1 h1).resolve_left fun e => (by cases e; exact hia rfl), ?_⟩
              cases hd : o.dst with
              | none => exact h2
              | some d => rw [eval_put_other (fun e => hdne (by rw [hb']; simp) (by rw [hd, e]))]; exact h2
            · cases hd : o.dst <;> simp [Act.put, hI.tmps]
            · cases hd : o.dst with
              | none =>
                rw [hd] at ht
                exact (hI.act t x ht hp hne).mono hsr.rsub hRW
              | some d =>
                rw [hd, putE] at ht
                by_cases hdt : d = t
                · subst hdt
                  rw [look_here] at ht
                  cases ht
                  have := hvr d hd
                  rwa [hd] at this
                · rw [look_skip hdt] at ht
                  rw [eval_put_other hdt]
                  exact (hI.act t x ht hp hne).mono hsr.rsub hRW
          obtain ⟨pre', ms', Pd', ea', E', H'', hI2, hh2⟩ := hI'.absorb hpairs hal
          exact ih _ _ _ pre' ms' Pd' ea' E' H'' R' hcnt hI2 hh2
        unfold wpOp
        rw [ho]
        unfold wpList at hs
        show if Region.wanted o (yielded ops A.tmps) = true then _ else _
        split
        · rename_i hw
          rw [if_pos hw] at hs
          refine .inl ?_
          rcases hs with hs | ⟨-, a', w', hl⟩
          · have hs2 : o.wp P A W (wpList P ops (QS ⟨W, footOf H, R, Γ.N⟩ o.dst (fun v H' => AN P Γ.N ops al Hs (fun E' H' => AQ Γ Q .normal E' (H' ++ Hs)) r (putE o.dst v E) H')) []) NoQ := by
              unfold Oper.wp at hs ⊢
              revert hs
              cases (execOp A.eval o).run P W with
              | ok n w' =>
                cases n with
                | enter f args =>
                  intro hs
                  refine Calls.mono hs ?_
                  intro e w'' he
                  cases e with
                  | returned v => exact he
                  | outgrown => obtain ⟨a', w', hl⟩ := he; exact hl.elim
                  | _ => exact he.elim
                | _ => exact fun h => h
              | halt x w' => cases x <;> exact fun h => h
            refine Oper.wp_mono ?_ (wp_of_noQ (Oper.wp_put hs2))
            rintro A' W' ⟨hq, hA'⟩
            have hq' : QS ⟨W, footOf H, R, Γ.N⟩ o.dst (fun v H' => AN P Γ.N ops al Hs (fun E' H' => AQ Γ Q .normal E' (H' ++ Hs)) r (putE o.dst v E) H') .normal A' W' := hq
            rcases hA' with ⟨u, rfl⟩ | hnd
            · exact hnext u W' hq'
            · exact absurd hq'.1 hnd
          · exact hl.elim
        · rename_i hw
          rw [if_neg hw] at hs
          exact hnext _ _ hs
  have hs : RelS Γ R (Hm ++ Hs) W.drew := (RelS.perm ⟨hs0.mods.drew, hs0.rlt, hs0.rsub, hs0.rnew, fun e he => HE.ok_mono (W := W) (W' := W.drew) (fun _ h => h) (fun _ _ => rfl) (Nat.le_refl _) (fun _ _ => rfl) (hs0.ok e he), hs0.own, hs0.disj⟩ hH.symm)
  have ha : RelA Γ.N R W.drew E a := ha0.mono (fun _ h => h) (fun _ _ => rfl)
  refine wp_region_any hm ?_
  rw [← hops]
  have hI : NI P Γ ops al Hs (fun E' H' => AQ Γ Q .normal E' (H' ++ Hs)) ord (Array.replicate ops.size false) a W.drew [] ord [] none E Hm R := by
    refine ⟨by simp, fun i o hl => ?_, fun i hi => ?_, rfl, fun i hi => (by cases hi), h, fun i hi => (by cases hi), by simpa [Al.hs] using hs, fun _ h => (by cases h), ha.defers, ha.size, fun t v ht _ _ => ha.slots t v ht⟩
    · exfalso
      by_cases h : i < ops.size <;> simp [Array.getD, h] at hl
    · have := hall i hi
      simp only [List.contains_eq_mem, decide_eq_true_eq] at this
      simp [Array.getD, hi, this]
  obtain ⟨pre', ms', Pd', ea', E', H'', hI2, hh2⟩ := hI.absorb hpairs hal
  exact main _ _ _ _ pre' ms' Pd' ea' E' H'' R (by simp) hI2 hh2

/-! One operation. -/
theorem AN.op {i d : Nat} {r : List (Nat × Bool)} {E : Env} {H : List HE} {o : Oper} {v : AV} (ho : ops[i]? = some o) (h : OpW P N o (rst E (o.looksAt ops)) Hs (Is v)) (hw : wantedIs ops (rst E (o.looksAt ops)) o = some true) (hd : o.dst = some d) (hN : Nat.ble (d + 1) N = true) (k : AN P N ops al Hs K r ((d, v) :: E) H) :
    AN P N ops al Hs K ((i, false) :: r) E H := ⟨o, d, v, ho, hd, Nat.le_of_ble_eq_true hN, .run hw h, k⟩
theorem AN.opG {i d : Nat} {r : List (Nat × Bool)} {E : Env} {H : List HE} {o : Oper} {c : Bool} {v : AV} (ho : ops[i]? = some o) (hw : guardIs ops (rst E (o.looksAt ops)) o = some c) (hd : o.dst = some d) (hN : Nat.ble (d + 1) N = true) (h : c = true → OpW P N o (rst E (o.looksAt ops)) Hs (Is v)) (k : AN P N ops al Hs K r ((d, .opt c v) :: E) H) :
    AN P N ops al Hs K ((i, false) :: r) E H := ⟨o, d, _, ho, hd, Nat.le_of_ble_eq_true hN, .opt hw h, k⟩
theorem AN.no {i d : Nat} {r : List (Nat × Bool)} {E : Env} {H : List HE} {o : Oper} (ho : ops[i]? = some o) (hw : wantedIs ops (rst E (o.looksAt ops)) o = some false) (hd : o.dst = some d) (hN : Nat.ble (d + 1) N = true) (k : AN P N ops al Hs K r ((d, .val undef) :: E) H) :
    AN P N ops al Hs K ((i, false) :: r) E H := ⟨o, d, _, ho, hd, Nat.le_of_ble_eq_true hN, .no hw, k⟩
theorem AN.main {i : Nat} {r : List (Nat × Bool)} {E : Env} {H : List HE} (o : Oper) (ho : ops[i]? = some o) (hne : Nat.beq i al.i = false) (h : ∀ w0 R0, AO ⟨w0, footOf H, R0, N⟩ P ops (QS ⟨w0, footOf H, R0, N⟩ o.dst (fun v H' => AN P N ops al Hs K r (putE o.dst v E) H')) [o] (rst E (o.looksAt ops)) H) :
    AN P N ops al Hs K ((i, true) :: r) E H := by rw [AN, if_neg (Nat.ne_of_beq_eq_false hne)]; exact ⟨o, ho, h⟩
theorem AN.box {i : Nat} {r : List (Nat × Bool)} {E : Env} {H : List HE} (he : i = al.i) (k : ∀ b, AN P N ops al Hs K r ((al.d, .val (.pointer (some ⟨b, 0, none⟩))) :: E) (al.he b :: H)) : AN P N ops al Hs K ((i, true) :: r) E H := by rw [AN, if_pos he]; exact k
theorem Al.mk' {ops : Array Oper} {i d T room : Nat} {xs : List AV} {bs : Nat} {z : Value} (o : Oper) (ho : ops[i]? = some o) (hd : o.dst = some d) (hN : Nat.ble (d + 1) N = true) (hg : o.guard = none) [hn : TyN P T room bs z] (hop : o.op = .alloc T) (hx : z.cells.toList.map AV.val = xs) (hk : z.cells.size = room) : Al.ok P N ops ⟨i, d, T, room, xs⟩ :=
  ⟨o, ho, hd, Nat.le_of_ble_eq_true hN, hg, O.alloc hop hx hk⟩
theorem AN.nil {E : Env} {H : List HE} (h : K E H) : AN P N ops al Hs K [] E H := h
end
end Go.Proofs.Ytochjihddnkhcaa.A

namespace Go.Proofs.Ytochjihddnkhcaa.A
open Go.RowKit L
set_option linter.unusedVariables false
set_option linter.unusedSimpArgs false
section
variable {Γ : Cx} {P : Program} {Q : Exit → Act → World → Prop} {E : Env} {H : List HE} {N : Nat} {o : Oper} {ops : Array Oper} {rest : List Oper}
end
end Go.Proofs.Ytochjihddnkhcaa.A

namespace Go.Proofs.Ytochjihddnkhcaa.A
open Go.RowKit L
set_option linter.unusedVariables false
set_option linter.unusedSimpArgs false
section
variable {Γ : Cx} {P : Program} {Q : Exit → Act → World → Prop} {E : Env} {H : List HE} {N : Nat} {o : Oper} {ops : Array Oper} {rest : List Oper}

theorem run_boundsArr {R : Nat → Prop} {W : World} {a : Act} {low high : Option Operand} {n cap : Nat} {l h : Int} (ha : RelA N R W E a) (hl : bndV E low 0 = some l) (hh : bndV E high n = some h) (h0 : 0 ≤ l ∧ l ≤ h ∧ h ≤ cap) :
    (Instr.sliceBounds false n cap (low.map a.eval) (high.map a.eval) none).run P W = .ok (l.toNat, h.toNat, cap) W := by
  obtain ⟨h1, h2, hhc⟩ := h0
  cases high with
  | none =>
    obtain rfl : (n : Int) = h := by simpa [bndV] using hh
    cases low with
    | none =>
      obtain rfl : (0 : Int) = l := by simpa [bndV] using hl
      simp [Instr.sliceBounds]
    | some x =>
      obtain ⟨k, hk⟩ := bnd_ev ha hl
      simp [Instr.sliceBounds, Instr.sliceBound, hk, asIntOf, h1, h2]
  | some y =>
    obtain ⟨k', hk'⟩ := bnd_ev ha hh
    have h4 : 0 ≤ h := by omega
    cases low with
    | none =>
      obtain rfl : (0 : Int) = l := by simpa [bndV] using hl
      simp [Instr.sliceBounds, Instr.sliceBound, hk', asIntOf, h4, hhc]
    | some x =>
      obtain ⟨k, hk⟩ := bnd_ev ha hl
      have h5 : l ≤ max h 0 := by omega
      simp [Instr.sliceBounds, Instr.sliceBound, hk, hk', asIntOf, h1, h4, hhc]
      omega

/-- x[l:h] of an array of the walk's own. -/
theorem O.sliceArr {T : Nat} {x : Operand} {low high : Option Operand} {b off n : Nat} {l h : Int} {sz : Nat} [hs : TyL P T n sz] (ho : o.op = .slice T x low high none) (hx : ev E x = some (.val (.pointer (some ⟨b, off, none⟩)))) (hl : bndV E low 0 = some l) (hh : bndV E high n = some h) (h0 : 0 ≤ l ∧ l ≤ h ∧ h ≤ n)
    (hc : l < n) : OpW P N o E H (Is (.val (.slice (some ⟨b, off + l.toNat * sz, none⟩) (h.toNat - l.toNat) (n - l.toNat)))) := .of_run fun R a W h1 h2 ha => by
  obtain ⟨U, i, hu, hi, hi2⟩ := hs.ax
  have hb := run_boundsArr (P := P) (W := W) ha hl hh h0
  refine ⟨_, ?_, .val _⟩
  have hne : ¬ n = l.toNat := by omega
  simp only [execOp, ho, (ha.ev hx).val_inv, Instr.sliceAt, Instr.sureAddr, run_underlying hu, Sem.run_bind, Result.andThen_ok, hb, sizeOf, typeInfo, hi, hi2, run_program, Sem.run_pure, Option.map_none]
  simp [hne, addr_add]
theorem O.sliceArrK {p q : Nat} {T : Nat} {x : Operand} {low high : Option Operand} {b off n : Nat} {l h : Int} {sz : Nat} [hs : TyL P T n sz] (ho : o.op = .slice T x low high none) (hx : ev E x = some (.val (.pointer (some ⟨b, off, none⟩)))) (hl : bndV E low 0 = some l) (hh : bndV E high n = some h) (e1 : l = (p : Int)) (e2 : h = (q : Int)) (h0 : p ≤ q ∧ q ≤ n)
    (hc : p < n) : OpW P N o E H (Is (.val (.slice (some ⟨b, off + p * sz, none⟩) (q - p) (n - p)))) := by
  subst e1; subst e2
  have := O.sliceArr (P := P) (N := N) (H := H) ho hx hl hh ⟨by omega, by omega, by omega⟩ (by omega)
  simpa using this
/-- A slice that is read only as a pointer to an array. -/
theorem O.toArr {T : Nat} {x : Operand} {full : Bool} {n k sz : Nat} {xs : List AV} [hs : TyL P T k sz] (ho : o.op = .sliceToArrayPointer T x) (hx : ev E x = some (.ro full n xs)) (hk : k ≤ n) (hk0 : 0 < k) : OpW P N o E H (Is (.rp xs 0)) := .of_run fun R a W h1 h2 ha => by
  obtain ⟨U, i, hu, hi, hi2⟩ := hs.ax
  have hv := ha.ev hx
  generalize hux : a.eval x = u at *
  cases hv with
  | emp _ ad cap h3 h4 => omega
  | ro _ _ _ b off cap us hb' hcs hr h3 h4 h5 =>
    refine ⟨.pointer (some ⟨b, off, none⟩), ?_, ?_⟩
    · simp [execOp, ho, hux, Instr.arrayAt, run_underlying hu, Nat.not_lt.2 hk]
    · exact .rp xs 0 b off us hb' hcs hr

theorem all_take {p : AV → Bool} : ∀ {xs : List AV} (n : Nat), xs.all p = true → (xs.take n).all p = true := fun {xs} n h => by
  rw [List.all_eq_true] at h ⊢
  exact fun x hx => h x (List.mem_of_mem_take hx)

/-- copy of read-only bytes (elements of one cell) into an own block. -/
theorem AO.copyIn {Td Ts : Nat} {x y : Operand} {b off n c m i T' room U bs : Nat} {full : Bool} {ys xs zs : List AV} {zz : Value} {H' : List HE} {d : Option Tmp} [hs : TyS P Td U 1 bs zz] (ho : o.op = .call { callee := .builtin .copy, args := #[x, y], argTypes := #[Td, Ts] }) (hgd : o.guard = none)
    (hx : ev E x = some (.val (.slice (some ⟨b, off, none⟩) n c))) (hy : ev E y = some (.ro full m ys)) (hlen : ys.length = m) (hone : ys.all AV.one = true) (hi : H[i]? = some (.blk b T' room xs)) (hfit : off + min m n ≤ xs.length) (hz : splice xs off (ys.take (min m n)) = zs) (hH : H.set i (.blk b T' room zs) = H')
    (hd : o.dst = d) (hN : ∀ q, d = some q → q < Γ.N) (next : ∀ E', (E' = match d with | some q => (q, .val (.int .i64 (min m n : Nat))) :: E | none => E) → AO Γ P ops Q rest E' H') : AO Γ P ops Q (o :: rest) E H := fun R a W hs' ha => by
  have hmem := List.mem_of_getElem? hi
  obtain ⟨us, cs, hb, hsz, ht, hr⟩ := hs'.ok _ hmem
  have hxs : xs.length ≤ cs.size := by
    have := hr.1
    have h5 : cs.toList.length = cs.size := Array.length_toList
    rw [← ht, List.length_take] at this; omega
  obtain ⟨vs, hvl, hvr, hrun⟩ : ∃ vs : List Value, vs.length = min m n ∧ RelL R W (ys.take (min m n)) vs ∧ (Builtin.copy_ #[Td, Ts] o.type #[a.eval x, a.eval y]).run P W = .ok (goInt ((min m n : Nat) : Int)) (if min m n = 0 then W else W.setRow b (cs.toList.take off ++ vs ++ cs.toList.drop (off + min m n)).toArray) := by
    obtain ⟨inf, hi1, hi2, -⟩ := hs.el
    have hsz1 : (P.info? U).map (·.size) = some 1 := by rw [hi1]; simp [hi2]
    have hvx := (ha.ev hx).val_inv
    have hvy := ha.ev hy
    rw [hvx]
    generalize hux : a.eval y = u at *
    cases hvy with
    | emp _ ad cap h3 h4 =>
      refine ⟨[], by simp, ⟨by simp, by simp⟩, ?_⟩
      have := run_copy_none (P := P) W Td Ts o.type U (some ⟨b, off, none⟩) ad n c 0 cap hs.ty hsz1 (by simp)
      rw [this]; simp [Nat.min_eq_left (Nat.zero_le n)]
    | ro _ _ _ b2 off2 cap us2 hb' hcs hr2 h3 h4 h5 =>
      by_cases h0 : min m n = 0
      · refine ⟨[], by simp [h0], by rw [h0]; exact ⟨by simp, by simp⟩, ?_⟩
        have := run_copy_none (P := P) W Td Ts o.type U (some ⟨b, off, none⟩) (some ⟨b2, off2, none⟩) n c m cap hs.ty hsz1 h0
        rw [this, if_pos h0, h0]; rfl
      · let vs := (List.range (min m n)).map us2
        have hvs : ∀ q (hq : q < min m n), vs[q]? = some (us2 q) := fun q hq => by simp [vs, hq]
        have hvsl : vs.length = min m n := by simp [vs]
        refine ⟨vs, hvsl, ⟨by rw [List.length_take, hvsl, hlen]; omega, fun q hq => ?_⟩, ?_⟩
        · rw [List.length_take, hlen] at hq
          have hq' : q < min m n := by omega
          have := hr2 q (by rw [hlen]; omega)
          simp only [List.getElem_take]
          rw [List.getD, hvs q hq']
          exact this
        · have h1 : ∀ v ∈ vs, v.oneCell' = true := fun v hv => by
            obtain ⟨q, hq, rfl⟩ := List.mem_map.1 hv
            have hq := List.mem_range.1 hq
            have hql : q < ys.length := by rw [hlen]; omega
            exact (hr2 q hql).one (by rw [List.all_eq_true] at hone; exact hone _ (List.getElem_mem hql))
          have := run_copy_row (P := P) W Td Ts o.type U b off n c ⟨b2, off2, none⟩ m cap cs T' vs hs.ty hsz1 hb (by rw [hvsl]) (fun q v hq => by
            have hql : q < min m n := by have := (List.getElem?_eq_some_iff.1 hq).1; omega
            rw [hvs q hql] at hq
            cases hq
            rw [addr_add]
            exact hcs q (by rw [hlen]; omega)) (by rw [hvsl]; omega) h1
          rw [this, if_neg h0, hvsl]
  have hone' : ∀ v ∈ vs, v.oneCell' = true := fun v hv => by
    obtain ⟨q, hq, rfl⟩ := List.getElem_of_mem hv
    have hql : q < (ys.take (min m n)).length := by rw [← hvr.1]; exact hq
    have h6 := hvr.2 q hql
    have h7 := all_take (min m n) hone
    rw [List.all_eq_true] at h7
    have := h6.one (h7 _ (List.getElem_mem hql))
    simpa [List.getD, hq] using this
  have hylen : (ys.take (min m n)).length = min m n := by rw [← hvr.1, hvl]
  unfold wpList
  rw [if_pos (by unfold Region.wanted; rw [hgd])]
  refine .inl ?_
  unfold Oper.wp
  have hex : (execOp a.eval o).run P W = .ok (.value (.int .i64 (min m n : Nat))) (if min m n = 0 then W else W.setRow b (cs.toList.take off ++ vs ++ cs.toList.drop (off + min m n)).toArray) := by
    simp [execOp, ho, resolve, invoke, builtin, hrun, Result.andThen, goInt]
  rw [hex]
  show wpList P ops Q rest (a.put o.dst _) _
  rw [hd]
  subst hH
  by_cases h0 : min m n = 0
  · rw [if_pos h0]
    have hzx : zs = xs := by
      rw [← hz]
      have : ys.take (min m n) = [] := by rw [h0]; rfl
      rw [this]; rfl
    have hset : H.set i (.blk b T' room zs) = H := by
      rw [hzx]
      obtain ⟨hil, he⟩ := List.getElem?_eq_some_iff.1 hi
      rw [← he]; exact List.set_getElem_self hil
    refine next _ rfl R _ W (by rw [hset]; exact hs') ?_
    cases d with
    | none => exact ha.none _
    | some q => exact ha.put (hN q rfl) (.val _)
  · rw [if_neg h0]
    have hm : Mods (fun c => (HE.blk b T' room xs).foot c) W (W.setRow b (cs.toList.take off ++ vs ++ cs.toList.drop (off + min m n)).toArray) := Mods.setRow (S := fun c => (HE.blk b T' room xs).foot c) (Mods.refl _ _) (fun _ => rfl) _
    have hR : ∀ c, R c → (W.setRow b (cs.toList.take off ++ vs ++ cs.toList.drop (off + min m n)).toArray).heap[c]? = W.heap[c]? := fun c hc => hm.block c (hs'.rlt c hc) fun hh => (hs'.own _ hmem c hh).2 hc
    have hok : (HE.blk b T' room zs).ok R (W.setRow b (cs.toList.take off ++ vs ++ cs.toList.drop (off + min m n)).toArray) := by
      refine ⟨_, _, setRow_heap W b cs _ T' _ hb, ?_, rfl, ?_⟩
      · rw [List.size_toArray, List.length_append, List.length_append, List.length_take, List.length_drop, Array.length_toList, hvl]; omega
      · rw [← hz, splice_eq _ _ _ (by rw [hylen]; omega), hylen]
        have e : (cs.toList.take off ++ vs ++ cs.toList.drop (off + min m n)).take (xs.take off ++ ys.take (min m n) ++ xs.drop (off + min m n)).length = us.take off ++ vs ++ us.drop (off + min m n) := by
          have hul : us.length = xs.length := hr.1
          generalize hzz : ys.take (min m n) = zz at *
          generalize min m n = k at *
          apply List.ext_getElem?
          intro q
          subst ht
          simp only [List.getElem?_take, List.getElem?_append, List.length_append, List.length_take, List.length_drop, hvl, hylen, Array.length_toList, List.getElem?_drop]
          by_cases q1 : q < off
          · simp [q1, show q < xs.length by omega, show q < min off xs.length + k + (xs.length - (off + k)) by omega, show q < min off cs.size + k by omega, show q < min off cs.size by omega, show q < min off (min xs.length cs.size) + k by omega, show q < min off (min xs.length cs.size) by omega]
          · by_cases q2 : q < off + k
            · simp [show min off xs.length = off by omega, show min off cs.size = off by omega, show min xs.length cs.size = xs.length by omega, q1, q2, show q < off + k + (xs.length - (off + k)) by omega]
            · by_cases q3 : q < xs.length
              · simp [show min off xs.length = off by omega, show min off cs.size = off by omega, show min xs.length cs.size = xs.length by omega, q1, q2, show q < off + k + (xs.length - (off + k)) by omega, show off + k + (q - (off + k)) < xs.length by omega]
              · simp [show min off xs.length = off by omega, show min off cs.size = off by omega, show min xs.length cs.size = xs.length by omega, q1, q2, show ¬ q < off + k + (xs.length - (off + k)) by omega, show ¬ off + k + (q - (off + k)) < xs.length by omega]
        show RelL R _ _ (List.take _ (cs.toList.take off ++ vs ++ cs.toList.drop (off + min m n)))
        rw [e]
        exact (((hr.take off).app hvr).app (hr.drop (off + min m n))).mono (fun _ h => h) hR
    have hs2 := hs'.setEntry (e' := .blk b T' room zs) hi hm (fun c hc => .inl hc) hok
    refine next _ rfl R _ _ hs2 ?_
    cases d with
    | none => exact (ha.keep hR).none _
    | some q => exact (ha.keep hR).put (hN q rfl) (.val _)

/-- Values that hold no memory. -/
def Plain (v : AV) : Prop := (∃ c, v = .val c) ∨ ∃ xs, v = .agg xs ∧ ∀ x ∈ xs, ∃ c, x = .val c
theorem Plain.val {c : Value} : Plain (.val c) := .inl ⟨c, rfl⟩
theorem Plain.rel {v : AV} (h : Plain v) {R R' : Nat → Prop} {W W' : World} {u : Value} (hv : RelV R W v u) : RelV R' W' v u := by
  rcases h with ⟨c, rfl⟩ | ⟨xs, rfl, hx⟩
  · rw [hv.val_inv]; exact .val _
  · cases hv with
    | agg _ cs hs hr =>
      refine .agg _ cs hs fun j hj => ?_
      obtain ⟨c, hc⟩ := hx xs[j] (List.getElem_mem hj)
      have := hr j hj
      rw [hc] at this ⊢
      rw [this.val_inv]; exact .val _

inductive LendB (b : Nat) (ys : List AV) : List AV → List AV → Prop
  | nil : LendB b ys [] []
  | same {a : AV} {r r' : List AV} : LendB b ys r r' → LendB b ys (a :: r) (a :: r')
  | lend {j : Nat} {r r' : List AV} : LendB b ys r r' → LendB b ys (.val (.pointer (some ⟨b, j, none⟩)) :: r) (.rp ys j :: r')
theorem blk_rp {R : Nat → Prop} {W : World} {b T room j : Nat} {xs : List AV} (h : HE.ok R W (.blk b T room xs)) : RelV (fun c => R c ∨ c = b) W (.rp xs j) (.pointer (some ⟨b, j, none⟩)) := by
  have := RelV.rp (R := fun c => R c ∨ c = b) (W := W) xs j b 0 (fun q => (W.cell? ⟨b, 0 + q, none⟩).getD undef) (.inr rfl) (fun q hq => by
    obtain ⟨u, hu, _⟩ := blk_cell h (j := q) (v := xs[q]) (by simp [hq])
    rw [Nat.zero_add, hu]; rfl) (fun q hq => by
    obtain ⟨u, hu, hr⟩ := blk_cell h (j := q) (v := xs[q]) (by simp [hq])
    rw [Nat.zero_add, hu]
    exact hr.mono (fun _ h => .inl h) (fun _ _ => rfl))
  simpa using this
theorem LendB.rel {R : Nat → Prop} {W : World} {b T room : Nat} {xs : List AV} (h : HE.ok R W (.blk b T room xs)) {a a' : List AV} (hl : LendB b xs a a') : ∀ {us : List Value}, RelL R W a us → RelL (fun c => R c ∨ c = b) W a' us := by
  induction hl with
  | nil => intro us h; exact h.mono (fun _ h => .inl h) (fun _ _ => rfl)
  | same _ ih =>
    intro us h
    obtain ⟨u, r, rfl, h1, h2⟩ := h.uncons
    exact RelL.cons (h1.mono (fun _ h => .inl h) (fun _ _ => rfl)) (ih h2)
  | lend _ ih =>
    intro us h'
    obtain ⟨u, r, rfl, h1, h2⟩ := h'.uncons
    rw [h1.val_inv]
    exact RelL.cons (blk_rp h) (ih h2)
/-- A call to which an own block is lent for reading, and whose yield holds no memory. -/
theorem O.callLB {f : FuncId} {xs : List Operand} {ats : Array TypeId} {args args' : List AV} {v : AV} {b T room : Nat} {ys : List AV} {fn : Func} (ho : o.op = .call { callee := .value (.func f), args := xs.toArray, argTypes := ats }) (hfn : P.funcs[f]? = some fn) (hn : (fn.name == "runtime.NumGoroutine") = false) (hb : fn.body.isNone = false)
    (hx : evs E xs = some args) (hm : HE.blk b T room ys ∈ H) (h : Sp P f args' [] (Is v)) (hp : Plain v) (hl : LendB b ys args args') : OpW P N o E H (Is v) := fun R a W h0 h2 h3 ha => by
  have hlt : ∀ c, R c ∨ c = b → c < W.heap.size := by
    rintro c (hb | rfl)
    · exact h0 c hb
    · exact HE.ok_lt (h2 _ hm) rfl
  unfold Oper.wp
  rw [run_callF ho hfn hn hb, List.map_toArray]
  have hc := h W _ (xs.map a.eval) hlt (fun e he => by cases he) .nil (hl.rel (h2 _ hm) (ha.evs hx))
  refine Calls.mono hc ?_
  rintro e W' ⟨u, r, H', R', rfl, ⟨rfl, rfl⟩, hs, hv⟩
  have p := fn_post1 hs hv hlt
  exact ⟨u, r, [], R, rfl, ⟨rfl, rfl⟩, p.ext, fun _ h => h, fun _ h => .inl h, hp.rel hv, fun _ he => (by cases he), .nil⟩
end

theorem tmodE {a b : Int} (h : 0 ≤ a) : a.tmod b = a % b := Int.tmod_eq_emod_of_nonneg h
theorem quoE {a b : Int} (h : 0 ≤ a ∧ a ≤ 9223372036854775807) (hb : 0 < b) : IntKind.i64.wrap (a.tdiv b) = a / b := by
  rw [Int.tdiv_eq_ediv_of_nonneg h.1]
  have h1 : 0 ≤ a / b := Int.ediv_nonneg h.1 (by omega)
  have h2 : a / b ≤ a := Int.ediv_le_self b h.1
  exact wI64 ⟨by omega, by omega⟩
/-! Bytes told by a function of their place. -/
def fnB (n : Nat) (f : Nat → UInt8) : List UInt8 := (List.range n).map f
def arB (n : Nat) (f : Nat → UInt8) : List AV := bytesA (fnB n f)
theorem fnB_len (n : Nat) (f : Nat → UInt8) : (fnB n f).length = n := by simp [fnB]
theorem arB_len (n : Nat) (f : Nat → UInt8) : (arB n f).length = n := by simp [arB, bytesA, fnB]
theorem arB_eq (n : Nat) (f : Nat → UInt8) : arB n f = (List.range n).map fun q => AV.val (.int .u8 ((f q).toNat : Int)) := by simp [arB, bytesA, fnB, Function.comp_def]
theorem arB_get {n : Nat} {f : Nat → UInt8} {k : Nat} (h : k < n) {j : Nat} (hj : j = k) : (arB n f)[j]? = some (.val (.int .u8 ((f k).toNat : Int))) := by subst hj; rw [arB_eq]; simp [h]
theorem fnB_congr {n : Nat} {f g : Nat → UInt8} (h : ∀ q, q < n → f q = g q) : fnB n f = fnB n g := List.map_congr_left fun q hq => h q (List.mem_range.1 hq)
theorem arB_congr {n : Nat} {f g : Nat → UInt8} (h : ∀ q, q < n → f q = g q) : arB n f = arB n g := congrArg bytesA (fnB_congr h)
theorem fnB_dt {n : Nat} {f : Nat → UInt8} {j k : Nat} (h : j + k ≤ n) : ((fnB n f).drop j).take k = fnB k fun q => f (j + q) := by
  apply List.ext_getElem?
  intro q
  by_cases hq : q < k
  · simp [fnB, hq, List.getElem?_take, show j + q < n by omega]
  · simp [fnB, hq, List.getElem?_take]
theorem arB_dt {n : Nat} {f : Nat → UInt8} {j k : Nat} (h : j + k ≤ n) : ((arB n f).drop j).take k = arB k fun q => f (j + q) := by
  rw [arB, bytesA, ← List.map_drop, ← List.map_take, fnB_dt h]; rfl
theorem arB_one (n : Nat) (f : Nat → UInt8) : (arB n f).all AV.one = true := by
  rw [List.all_eq_true, arB_eq]
  intro x hx
  obtain ⟨q, _, rfl⟩ := List.mem_map.1 hx
  rfl
theorem plain_arB (n : Nat) (f : Nat → UInt8) : Plain (.agg (arB n f)) := .inr ⟨_, rfl, fun x hx => by
  rw [arB_eq] at hx
  obtain ⟨q, _, rfl⟩ := List.mem_map.1 hx
  exact ⟨_, rfl⟩⟩
/-- One byte written. -/
theorem arB_set {n : Nat} {f : Nat → UInt8} {k : Nat} (h : k < n) (v : UInt8) {j : Nat} (hj : j = k) : splice (arB n f) j [.val (.int .u8 (v.toNat : Int))] = arB n (fun q => if q = k then v else f q) := by
  subst hj
  show (arB n f).set j _ = _
  apply List.ext_getElem?
  intro q
  rw [List.getElem?_set, arB_eq, arB_eq]
  by_cases hq : q < n
  · by_cases e : j = q
    · subst e; simp [h]
    · simp [hq, e, show ¬ q = j from fun e' => e e'.symm]
  · by_cases e : j = q
    · subst e; omega
    · simp [hq, e]
/-- Several. -/
theorem arB_splice {n : Nat} {f g : Nat → UInt8} {j k : Nat} (h : j + k ≤ n) : splice (arB n f) j (arB k g) = arB n (fun q => if j ≤ q ∧ q < j + k then g (q - j) else f q) := by
  rw [splice_eq _ _ _ (by rw [arB_len, arB_len]; omega), arB_len]
  apply List.ext_getElem?
  intro q
  simp only [List.getElem?_append, List.length_append, List.length_take, arB_len, List.getElem?_take, List.getElem?_drop]
  rw [arB_eq, arB_eq, arB_eq]
  by_cases q1 : q < j
  · simp [q1, show q < n by omega, show q < min j n + k by omega, show q < min j n by omega, show ¬ j ≤ q by omega]
  · by_cases q2 : q < j + k
    · simp [q1, q2, show min j n = j by omega, show j ≤ q by omega, show q - j < k by omega, show q < n by omega]
    · by_cases q3 : q < n
      · simp [q1, q2, q3, show min j n = j by omega, show j + k + (q - (j + k)) = q by omega]
      · simp [q1, q2, q3, show min j n = j by omega, show n ≤ j + k + (q - (j + k)) by omega]
theorem splice_full {xs cs : List AV} (h : xs.length = cs.length) : splice xs 0 cs = cs := by
  rw [splice_eq _ _ _ (by omega)]
  simp [h]
theorem splice_arB {xs : List AV} {n : Nat} {f : Nat → UInt8} (h : xs.length = n) : splice xs 0 (arB n f) = arB n f := splice_full (by rw [h, arB_len])
theorem roB_fnB (n : Nat) (f : Nat → UInt8) : roB (fnB n f) = .ro false n (arB n f) := by unfold roB; rw [fnB_len]; rfl
end Go.Proofs.Ytochjihddnkhcaa.A

namespace Go.Proofs.Ytochjihddnkhcaa.By
open Go.RowKit L A
set_option linter.unusedVariables false
set_option linter.unusedSimpArgs false
attribute [local irreducible] AW AQ AO
abbrev by8 (a : UInt8) : AV := .val (.int .u8 (a.toNat : Int))
theorem all256 {p : UInt8 → Prop} (h : ∀ n : Nat, n < 256 → p (UInt8.ofNat n)) (a : UInt8) : p a := by
  have := h a.toNat a.toNat_lt
  rwa [UInt8.ofNat_toNat] at this
def dbl (a : UInt8) : UInt8 := if a &&& 128 = 0 then a <<< 1 else (a <<< 1) ^^^ 27
theorem dbl_x (a : UInt8) : Go.bits .xor .u8 (IntKind.u8.wrap ((a.toNat : Int) * 2)) 27 = (((a <<< 1) ^^^ 27).toNat : Int) := all256 (p := fun a => Go.bits .xor .u8 (IntKind.u8.wrap ((a.toNat : Int) * 2)) 27 = (((a <<< 1) ^^^ 27).toNat : Int)) (by decide +kernel) a
theorem dbl_s (a : UInt8) : IntKind.u8.wrap ((a.toNat : Int) * 2) = ((a <<< 1).toNat : Int) := all256 (p := fun a => IntKind.u8.wrap ((a.toNat : Int) * 2) = ((a <<< 1).toNat : Int)) (by decide +kernel) a
theorem dbl_a (a : UInt8) : Go.bits .and .u8 (a.toNat : Int) 128 = ((a &&& 128).toNat : Int) := all256 (p := fun a => Go.bits .and .u8 (a.toNat : Int) 128 = ((a &&& 128).toNat : Int)) (by decide +kernel) a
theorem and1 (a : UInt8) : Go.bits .and .u8 (a.toNat : Int) 1 = ((a &&& 1).toNat : Int) := all256 (p := fun a => Go.bits .and .u8 (a.toNat : Int) 1 = ((a &&& 1).toNat : Int)) (by decide +kernel) a
theorem toNat0 {a : UInt8} : (a.toNat : Int) = 0 ↔ a = 0 := ⟨fun h => UInt8.toNat_inj.1 (by simpa using h), fun h => by subst h; rfl⟩
theorem toNat1 {a : UInt8} : (a.toNat : Int) = 1 ↔ a = 1 := ⟨fun h => UInt8.toNat_inj.1 (by simp; omega), fun h => by subst h; rfl⟩
theorem dbl_fn (a : UInt8) : Sp Try.prog 52 [by8 a] [] (Is (by8 (dbl a))) := by
  refine Sp.enter Try.func52 rfl _ Try.ntmps52 rfl (fun w0 R0 => ?_)
  refine AW.seq ?_
  refine AW.region ?_
  refine AO.op (O.assign rfl rfl) rfl rfl rfl ?_
  refine AO.nil ?_
  refine AQ.thenN ?_
  refine AW.seq ?_
  refine AW.seq ?_
  refine AW.region ?_
  refine AO.op (O.move rfl rfl) rfl rfl rfl ?_
  refine AO.op (O.and_ rfl rfl rfl (dbl_a a)) rfl rfl rfl ?_
  refine AO.op (O.neq rfl rfl rfl (by first | exact bne_iff_ne.2 (by omega) | exact bne_eq_false_iff_eq.2 (by omega) | assumption | rfl)) rfl rfl rfl ?_
  refine AO.nil ?_
  refine AQ.thenN ?_
  refine AW.split rfl (fun h => ?_) (fun h => ?_) <;> (try simp only [decide_eq_true_eq, decide_eq_false_iff_not, beq_iff_eq, beq_eq_false_iff_ne, bne_iff_ne, bne_eq_false_iff_eq, Bool.not_eq_true', Bool.not_eq_false', Bool.not_eq_true, Bool.not_eq_false, ne_eq, Int.not_lt, Int.not_le, Bool.and_eq_true, Bool.or_eq_true, Bool.or_eq_false_iff, Bool.and_eq_false_imp, strOf_toList, Decidable.not_not] at h)
  · skip
    rw [toNat0] at h
    refine AW.seq ?_
    refine AW.region ?_
    refine AO.op (O.move rfl rfl) rfl rfl rfl ?_
    refine AO.op (O.shlK 1 2 rfl rfl rfl rfl (by rfl) (by first | exact wU8 (by omega) | rfl)) rfl rfl rfl ?_
    refine AO.op (O.xor_ rfl rfl rfl (dbl_x a)) rfl rfl rfl ?_
    refine AO.op (O.assign rfl rfl) rfl rfl rfl ?_
    refine AO.nil ?_
    refine AQ.thenN ?_
    refine AW.ret ?_
    refine AQ.thenR ?_
    refine AQ.ret1 rfl rfl ⟨_, List.nil_sublist _, .nil⟩ (⟨by rw [dbl, if_neg h], rfl⟩)
  · skip
    rw [toNat0] at h
    refine AW.skip ?_
    refine AQ.thenN ?_
    refine AW.seq ?_
    refine AW.region ?_
    refine AO.op (O.move rfl rfl) rfl rfl rfl ?_
    refine AO.op (O.shlK 1 2 rfl rfl rfl rfl (by rfl) (by first | exact wU8 (by omega) | rfl)) rfl rfl rfl ?_
    refine AO.op (O.assign rfl rfl) rfl rfl rfl ?_
    refine AO.nil ?_
    refine AQ.thenN ?_
    refine AW.ret ?_
    refine AQ.ret1 rfl rfl ⟨_, List.nil_sublist _, .nil⟩ (⟨by rw [dbl, if_pos h, dbl_s], rfl⟩)
def rotB (a : UInt8) (k : Nat) : UInt8 := u8 (Go.bits .or .u8 (IntKind.u8.wrap ((a.toNat : Int) * 2 ^ min ((k : Int) % 8).toNat IntKind.u8.bits)) (((a.toNat : Int)).fdiv (2 ^ min (8 - (k : Int) % 8).toNat IntKind.u8.bits)))
theorem rotB_eq (a : UInt8) {k : Nat} (hk : k < 8) : Go.bits .or .u8 (IntKind.u8.wrap ((a.toNat : Int) * 2 ^ min ((k : Int) % 8).toNat IntKind.u8.bits)) (((a.toNat : Int)).fdiv (2 ^ min (8 - (k : Int) % 8).toNat IntKind.u8.bits)) = ((rotB a k).toNat : Int) :=
  all256 (p := fun a => ∀ k : Nat, k < 8 → Go.bits .or .u8 (IntKind.u8.wrap ((a.toNat : Int) * 2 ^ min ((k : Int) % 8).toNat IntKind.u8.bits)) (((a.toNat : Int)).fdiv (2 ^ min (8 - (k : Int) % 8).toNat IntKind.u8.bits)) = ((rotB a k).toNat : Int)) (by decide +kernel) a k hk
theorem rot8_fn (a : UInt8) (k : Nat) (hk : k < 8) : Sp Try.prog 53 [by8 a, .val (.int .i64 (k : Int))] [] (Is (by8 (rotB a k))) := by
  refine Sp.enter Try.func53 rfl _ Try.ntmps53 rfl (fun w0 R0 => ?_)
  refine AW.seq ?_
  refine AW.region ?_
  refine AO.op (O.assign rfl rfl) rfl rfl rfl ?_
  refine AO.nil ?_
  refine AQ.thenN ?_
  refine AW.seq ?_
  refine AW.region ?_
  refine AO.op (O.move rfl rfl) rfl rfl rfl ?_
  refine AO.op (O.conv rfl rfl (by first | exact wU64 (by omega) | rfl)) rfl rfl rfl ?_
  first | (refine AO.op (O.and_ rfl rfl rfl (andU64 3 (by decide) (by decide) (m := 8) (by decide) (by omega))) rfl rfl rfl ?_) | (refine AO.op (O.and_ rfl rfl rfl rfl) rfl rfl rfl ?_)
  refine AO.op (O.assign rfl rfl) rfl rfl rfl ?_
  refine AO.nil ?_
  refine AQ.thenN ?_
  refine AW.seq ?_
  refine AW.region ?_
  refine AO.op (O.move rfl rfl) rfl rfl rfl ?_
  refine AO.op (O.move rfl rfl) rfl rfl rfl ?_
  refine AO.op (O.shl rfl rfl rfl (by omega) rfl) rfl rfl rfl ?_
  refine AO.op (O.move rfl rfl) rfl rfl rfl ?_
  refine AO.op (O.move rfl rfl) rfl rfl rfl ?_
  refine AO.op (O.sub rfl rfl rfl (by first | exact wU64 (by omega) | rfl)) rfl rfl rfl ?_
  refine AO.op (O.shr rfl rfl rfl (by omega) rfl) rfl rfl rfl ?_
  refine AO.op (O.or_ rfl rfl rfl rfl) rfl rfl rfl ?_
  refine AO.op (O.assign rfl rfl) rfl rfl rfl ?_
  refine AO.nil ?_
  refine AQ.thenN ?_
  refine AW.ret ?_
  refine AQ.ret1 rfl rfl ⟨_, List.nil_sublist _, .nil⟩ (⟨by rw [rotB_eq a hk], rfl⟩)
/-- Products of polynomials. -/
def prodN : Nat → UInt8 → UInt8 → UInt8 → UInt8
  | 0, _, _, p => p
  | n + 1, a, b, p => prodN n (dbl a) (b >>> 1) (if b &&& 1 = 1 then p ^^^ a else p)
def prod (a b : UInt8) : UInt8 := prodN 8 a b 0
theorem prodN_zero : ∀ n a p, prodN n a 0 p = p
  | 0, _, _ => rfl
  | n + 1, a, p => by
    show prodN n (dbl a) ((0 : UInt8) >>> 1) (if (0 : UInt8) &&& 1 = 1 then p ^^^ a else p) = p
    rw [show (0 : UInt8) >>> 1 = 0 from rfl, if_neg (by decide)]
    exact prodN_zero n _ p
theorem shr1 (b : UInt8) : ((b >>> 1).toNat : Int) = (b.toNat : Int) / 2 := all256 (p := fun b => ((b >>> 1).toNat : Int) = (b.toNat : Int) / 2) (by decide +kernel) b
set_option maxHeartbeats 1000000 in
theorem product_fn (a b : UInt8) : Sp Try.prog 57 [by8 a, by8 b] [] (Is (by8 (prod a b))) := by
  refine Sp.enter Try.func57 rfl _ Try.ntmps57 rfl (fun w0 R0 => ?_)
  refine AW.seq ?_
  refine AW.region ?_
  refine AO.op (O.assign rfl rfl) rfl rfl rfl ?_
  refine AO.nil ?_
  refine AQ.thenN ?_
  refine AW.seq ?_
  refine AW.region ?_
  refine AO.op (O.assign rfl rfl) rfl rfl rfl ?_
  refine AO.nil ?_
  refine AQ.thenN ?_
  refine AW.seq ?_
  refine AW.block ?_
  refine AW.loopK [] (fun nn E H => ∃ (x : UInt8) (y : UInt8) (p : UInt8) (m : Nat), (prodN m x y p = prod a b) ∧ (y.toNat < 2 ^ m) ∧ nn = y.toNat ∧ E = [(0, by8 x), (1, by8 y), (5, by8 p)] ∧ H = []) _ (⟨a, b, 0, 8, rfl, b.toNat_lt, rfl, rfl, rfl⟩) (by repeat (first | exact envNil | refine envCons rfl ?_)) (by repeat (first | exact envNil | refine envCons rfl ?_)) (by repeat (first | exact subPnil | refine subPcons 0 rfl ?_ | refine subPcons 1 rfl ?_ | refine subPcons 2 rfl ?_ | refine subPcons 3 rfl ?_ | refine subPcons 4 rfl ?_ | refine subPcons 5 rfl ?_ | refine subPcons 6 rfl ?_ | refine subPcons 7 rfl ?_)) ?_
  rintro nn E H ⟨x, y, p, m, hp, hm, rfl, rfl, rfl⟩
  dsimp only [List.cons_append, List.nil_append]
  refine AW.seq ?_
  refine AW.seq ?_
  refine AW.region ?_
  refine AO.op (O.move rfl rfl) rfl rfl rfl ?_
  refine AO.op (O.neq rfl rfl rfl (by first | exact bne_iff_ne.2 (by omega) | exact bne_eq_false_iff_eq.2 (by omega) | assumption | rfl)) rfl rfl rfl ?_
  refine AO.nil ?_
  refine AQ.thenN ?_
  refine AW.split rfl (fun h => ?_) (fun h => ?_) <;> (try simp only [decide_eq_true_eq, decide_eq_false_iff_not, beq_iff_eq, beq_eq_false_iff_ne, bne_iff_ne, bne_eq_false_iff_eq, Bool.not_eq_true', Bool.not_eq_false', Bool.not_eq_true, Bool.not_eq_false, ne_eq, Int.not_lt, Int.not_le, Bool.and_eq_true, Bool.or_eq_true, Bool.or_eq_false_iff, Bool.and_eq_false_imp, strOf_toList, Decidable.not_not] at h)
  · skip
    rw [toNat0] at h
    obtain ⟨m, rfl⟩ : ∃ m', m = m' + 1 := by
      cases m with
      | zero => exact absurd (UInt8.toNat_inj.1 (by simpa using hm)) h
      | succ m => exact ⟨m, rfl⟩
    have hpos : 0 < y.toNat := by
      rcases Nat.eq_zero_or_pos y.toNat with h0 | h0
      · exact absurd (UInt8.toNat_inj.1 h0) h
      · exact h0
    have hsh := shr1 y
    have hm2 : (y >>> 1).toNat < 2 ^ m := by rw [Nat.pow_succ] at hm; omega
    refine AW.skip ?_
    refine AQ.thenN ?_
    refine AW.seq ?_
    refine AW.block ?_
    refine AW.seq ?_
    refine AW.seq ?_
    refine AW.region ?_
    refine AO.op (O.move rfl rfl) rfl rfl rfl ?_
    refine AO.op (O.and_ rfl rfl rfl (and1 _)) rfl rfl rfl ?_
    refine AO.op (O.eql rfl rfl rfl (by first | exact beq_iff_eq.2 (by omega) | exact beq_eq_false_iff_ne.2 (by omega) | assumption | rfl)) rfl rfl rfl ?_
    refine AO.nil ?_
    refine AQ.thenN ?_
    refine AW.split rfl (fun h1 => ?_) (fun h1 => ?_) <;> (try simp only [decide_eq_true_eq, decide_eq_false_iff_not, beq_iff_eq, beq_eq_false_iff_ne, bne_iff_ne, bne_eq_false_iff_eq, Bool.not_eq_true', Bool.not_eq_false', Bool.not_eq_true, Bool.not_eq_false, ne_eq, Int.not_lt, Int.not_le, Bool.and_eq_true, Bool.or_eq_true, Bool.or_eq_false_iff, Bool.and_eq_false_imp, strOf_toList, Decidable.not_not] at h1)
    · skip
      rw [toNat1] at h1
      refine AW.region ?_
      refine AO.op (O.move rfl rfl) rfl rfl rfl ?_
      refine AO.op (O.move rfl rfl) rfl rfl rfl ?_
      refine AO.op (O.xor_ rfl rfl rfl xorU8) rfl rfl rfl ?_
      refine AO.op (O.assign rfl rfl) rfl rfl rfl ?_
      refine AO.nil ?_
      refine AQ.thenN ?_
      refine AW.region ?_
      refine AO.op (O.move rfl rfl) rfl rfl rfl ?_
      first | (refine AO.op (O.call rfl Try.func52 rfl rfl rfl (dbl_fn _)) rfl rfl rfl ?_) | (refine AO.op (O.callC rfl Try.func52 rfl rfl rfl (dbl_fn _) (by (repeat (first | exact CoeL.nil | refine CoeL.cons Coe.rfl ?_ | refine CoeL.cons Coe.nil ?_ | refine CoeL.cons Coe.unfull ?_ | refine CoeL.cons (Coe.agg ?_) ?_ | refine CoeL.cons (Coe.tup ?_) ?_ | refine CoeL.cons (Coe.ro ?_) ?_)); first | done | fail)) rfl rfl rfl ?_) | (refine AO.op (O.callL rfl Try.func52 rfl rfl rfl (by repeat (first | exact List.Mem.head _ | refine List.Mem.tail _ ?_)) (dbl_fn _) (by (repeat (first | exact LendL.nil | refine LendL.same ?_ | refine LendL.lend ?_)); first | done | fail)) rfl rfl rfl ?_)
      refine AO.op (O.assign rfl rfl) rfl rfl rfl ?_
      refine AO.nil ?_
      refine AQ.blockN ?_
      refine AQ.thenN ?_
      refine AW.region ?_
      refine AO.op (O.move rfl rfl) rfl rfl rfl ?_
      refine AO.op (O.shrK 1 2 rfl rfl rfl rfl (by rfl)) rfl rfl rfl ?_
      refine AO.op (O.assign rfl rfl) rfl rfl rfl ?_
      refine AO.nil ?_
      rw [← hsh]
      refine AQ.loopKN _ _ _ (by omega) (⟨dbl x, y >>> 1, p ^^^ x, m, by rw [← hp, prodN, if_pos h1], hm2, rfl, rfl, rfl⟩) (by repeat (first | exact envNil | refine envCons rfl ?_)) (by repeat (first | exact envNil | refine envCons rfl ?_)) (by repeat (first | exact subPnil | refine subPcons 0 rfl ?_ | refine subPcons 1 rfl ?_ | refine subPcons 2 rfl ?_ | refine subPcons 3 rfl ?_ | refine subPcons 4 rfl ?_ | refine subPcons 5 rfl ?_ | refine subPcons 6 rfl ?_ | refine subPcons 7 rfl ?_))
    · skip
      rw [toNat1] at h1
      refine AW.skip ?_
      refine AQ.thenN ?_
      refine AW.region ?_
      refine AO.op (O.move rfl rfl) rfl rfl rfl ?_
      first | (refine AO.op (O.call rfl Try.func52 rfl rfl rfl (dbl_fn _)) rfl rfl rfl ?_) | (refine AO.op (O.callC rfl Try.func52 rfl rfl rfl (dbl_fn _) (by (repeat (first | exact CoeL.nil | refine CoeL.cons Coe.rfl ?_ | refine CoeL.cons Coe.nil ?_ | refine CoeL.cons Coe.unfull ?_ | refine CoeL.cons (Coe.agg ?_) ?_ | refine CoeL.cons (Coe.tup ?_) ?_ | refine CoeL.cons (Coe.ro ?_) ?_)); first | done | fail)) rfl rfl rfl ?_) | (refine AO.op (O.callL rfl Try.func52 rfl rfl rfl (by repeat (first | exact List.Mem.head _ | refine List.Mem.tail _ ?_)) (dbl_fn _) (by (repeat (first | exact LendL.nil | refine LendL.same ?_ | refine LendL.lend ?_)); first | done | fail)) rfl rfl rfl ?_)
      refine AO.op (O.assign rfl rfl) rfl rfl rfl ?_
      refine AO.nil ?_
      refine AQ.blockN ?_
      refine AQ.thenN ?_
      refine AW.region ?_
      refine AO.op (O.move rfl rfl) rfl rfl rfl ?_
      refine AO.op (O.shrK 1 2 rfl rfl rfl rfl (by rfl)) rfl rfl rfl ?_
      refine AO.op (O.assign rfl rfl) rfl rfl rfl ?_
      refine AO.nil ?_
      rw [← hsh]
      refine AQ.loopKN _ _ _ (by omega) (⟨dbl x, y >>> 1, p, m, by rw [← hp, prodN, if_neg h1], hm2, rfl, rfl, rfl⟩) (by repeat (first | exact envNil | refine envCons rfl ?_)) (by repeat (first | exact envNil | refine envCons rfl ?_)) (by repeat (first | exact subPnil | refine subPcons 0 rfl ?_ | refine subPcons 1 rfl ?_ | refine subPcons 2 rfl ?_ | refine subPcons 3 rfl ?_ | refine subPcons 4 rfl ?_ | refine subPcons 5 rfl ?_ | refine subPcons 6 rfl ?_ | refine subPcons 7 rfl ?_))
  · skip
    rw [toNat0] at h
    subst h
    rw [prodN_zero] at hp
    subst hp
    refine AW.exit ?_
    refine AQ.thenX ?_
    refine AQ.loopX ?_
    refine AQ.blockX rfl ?_
    refine AQ.thenN ?_
    refine AW.seq ?_
    refine AW.region ?_
    refine AO.op (O.move rfl rfl) rfl rfl rfl ?_
    refine AO.op (O.assign rfl rfl) rfl rfl rfl ?_
    refine AO.nil ?_
    refine AQ.thenN ?_
    refine AW.ret ?_
    refine AQ.ret1 rfl rfl ⟨_, List.nil_sublist _, .nil⟩ (⟨rfl, rfl⟩)
/-! the reference's -/
def mulN : Nat → UInt8 → UInt8 → UInt8 → UInt8
  | 0, _, _, p => p
  | n + 1, a, b, p => mulN n (dbl a) (b >>> 1) (if b &&& 1 = 1 then p ^^^ a else p)
def rotR (a : UInt8) (k : Nat) : UInt8 := u8 (Go.bits .or .u8 (IntKind.u8.wrap ((a.toNat : Int) * 2 ^ min ((k : Int)).toNat IntKind.u8.bits)) (((a.toNat : Int)).fdiv (2 ^ min (8 - (k : Int)).toNat IntKind.u8.bits)))
end Go.Proofs.Ytochjihddnkhcaa.By

namespace Go.Proofs.Ytochjihddnkhcaa.By
open Go.RowKit L A
set_option linter.unusedVariables false
set_option linter.unusedSimpArgs false
attribute [local irreducible] AW AQ AO
abbrev pt (b : Nat) : AV := .val (.pointer (some ⟨b, 0, none⟩))
abbrev stB (b : Nat) (f : Nat → UInt8) : HE := .blk b 56 16 (arB 16 f)
theorem stB_eq {b : Nat} {f g : Nat → UInt8} (h : ∀ q, q < 16 → f q = g q) : [stB b f] = [stB b g] := congrArg (fun x => [HE.blk b 56 16 x]) (arB_congr h)
theorem stB_eq1 {b : Nat} {f g : Nat → UInt8} (h : ∀ q, q < 16 → f q = g q) : stB b f = stB b g := congrArg (fun x => HE.blk b 56 16 x) (arB_congr h)
set_option maxHeartbeats 1000000 in
theorem sxor_fn (b : Nat) (f k : Nat → UInt8) : Sp Try.prog 44 [pt b, .agg (arB 16 k)] [stB b f] (IsM (.val (.tuple #[])) (stB b fun q => f q ^^^ k q)) := by
  refine Sp.enter Try.func44 rfl _ Try.ntmps44 rfl (fun w0 R0 => ?_)
  refine AW.seq ?_
  refine AW.region ?_
  refine AO.opB (O.box rfl rfl rfl rfl rfl) rfl rfl rfl ?_
  intro B1
  refine AO.nil ?_
  refine AQ.thenN ?_
  refine AW.seq ?_
  refine AW.region ?_
  refine AO.op (O.move rfl rfl) rfl rfl rfl ?_
  refine AO.nil ?_
  refine AQ.thenN ?_
  refine AW.block ?_
  refine AW.loopK [(0, _), (3, _)] (fun nn E H => ∃ (i : Nat), (i ≤ 16) ∧ nn = 16 - i ∧ E = [(5, .val (.int .i64 (i : Int)))] ∧ H = [.blk B1 56 16 (arB 16 k), stB b (fun q => if q < i then f q ^^^ k q else f q)]) _ (⟨0, by omega, rfl, rfl, rfl⟩) (by repeat (first | exact envNil | refine envCons rfl ?_)) (by repeat (first | exact envNil | refine envCons rfl ?_)) (by repeat (first | exact subPnil | refine subPcons 0 rfl ?_)) ?_
  rintro nn E H ⟨i, hi, rfl, rfl, rfl⟩
  dsimp only [List.cons_append, List.nil_append]
  refine AW.seq ?_
  refine AW.region ?_
  refine AO.op (O.lss rfl rfl rfl (by rfl)) rfl rfl rfl ?_
  refine AO.nil ?_
  refine AQ.thenN ?_
  refine AW.seq ?_
  refine AW.split rfl (fun h => ?_) (fun h => ?_) <;> (try simp only [decide_eq_true_eq, decide_eq_false_iff_not, beq_iff_eq, beq_eq_false_iff_ne, bne_iff_ne, bne_eq_false_iff_eq, Bool.not_eq_true', Bool.not_eq_false', Bool.not_eq_true, Bool.not_eq_false, ne_eq, Int.not_lt, Int.not_le, Bool.and_eq_true, Bool.or_eq_true, Bool.or_eq_false_iff, Bool.and_eq_false_imp, strOf_toList, Decidable.not_not] at h)
  · skip
    refine AW.skip ?_
    refine AQ.thenN ?_
    refine AW.seq ?_
    refine AW.block ?_
    refine AW.seq ?_
    refine AW.region ?_
    refine AO.op (O.move rfl rfl) rfl rfl rfl ?_
    refine AO.op (O.assign rfl rfl) rfl rfl rfl ?_
    refine AO.nil ?_
    refine AQ.thenN ?_
    refine AW.regionD 11 (by kernel_rfl) (by kernel_rfl) ?_
    simp only [List.take_succ_cons, List.take_zero, List.drop_succ_cons, List.drop_zero]
    refine FA.op (O.move rfl rfl) rfl rfl rfl rfl ?_
    refine FA.op (O.move rfl rfl) rfl rfl rfl rfl ?_
    refine FA.op (O.nilCheck rfl rfl) rfl rfl rfl rfl ?_
    refine FA.op (O.idxL rfl rfl rfl ⟨(by omega), (by omega)⟩) rfl rfl rfl rfl ?_
    refine FA.op (O.load rfl rfl (by repeat (first | exact List.Mem.head _ | refine List.Mem.tail _ ?_)) (by exact arB_get (k := i) (by omega) (by omega))) rfl rfl rfl rfl ?_
    refine FA.op (O.move rfl rfl) rfl rfl rfl rfl ?_
    refine FA.op (O.idxL rfl rfl rfl ⟨(by omega), (by omega)⟩) rfl rfl rfl rfl ?_
    refine FA.op (O.load rfl rfl (by repeat (exact List.Mem.head _)) (by exact arB_get (k := i) (by omega) (by omega))) rfl rfl rfl rfl ?_
    refine FA.op (O.xor_ rfl rfl rfl xorU8) rfl rfl rfl rfl ?_
    refine FA.op (O.nilCheck rfl rfl) rfl rfl rfl rfl ?_
    refine FA.op (O.idxL rfl rfl rfl ⟨(by omega), (by omega)⟩) rfl rfl rfl rfl ?_
    refine FA.nil ?_
    simp only [chosen, List.nil_append, List.cons_append, List.append_nil]
    (refine AO.store (i := 1) rfl rfl rfl rfl rfl rfl (by rfl) (by rfl) (by exact Nat.ble_eq_true_of_le (by rw [arB_len]; omega)) (by exact arB_set (k := i) (by omega) _ (by omega)) (by (dsimp only [List.set, List.append, List.cons_append, List.nil_append, splice, ofConst, AV.cells, List.map, List.map_cons, List.map_nil, List.take, List.drop, Nat.zero_add, Nat.add_zero, Nat.reduceAdd, Nat.reduceMul, Nat.zero_mul, Value.cells, List.toList_toArray, zerosA, List.replicate, List.flatten, List.append_nil]; done)) ?_)
    refine AO.nil ?_
    refine AQ.blockN ?_
    refine AQ.thenN ?_
    refine AW.region ?_
    refine AO.op (O.add rfl rfl rfl (by exact wI64 (by omega))) rfl rfl rfl ?_
    refine AO.op (O.move rfl rfl) rfl rfl rfl ?_
    refine AO.nil ?_
    have e : stB b (fun q => if q = i then (if i < i then f i ^^^ k i else f i) ^^^ k i else if q < i then f q ^^^ k q else f q) = stB b (fun q => if q < i + 1 then f q ^^^ k q else f q) := stB_eq1 fun q _ => by
      rcases Nat.lt_trichotomy q i with h1 | rfl | h1
      · rw [if_neg (by omega), if_pos h1, if_pos (by omega)]
      · rw [if_pos rfl, if_neg (by omega), if_pos (by omega)]
      · rw [if_neg (by omega), if_neg (by omega), if_neg (by omega)]
    refine AQ.loopKN _ _ _ (by omega) (⟨i + 1, by omega, rfl, rfl, congrArg (fun x => [HE.blk B1 56 16 (arB 16 k), x]) e⟩) (by repeat (first | exact envNil | refine envCons rfl ?_)) (by repeat (first | exact envNil | refine envCons rfl ?_)) (by repeat (first | exact subPnil | refine subPcons 0 rfl ?_))
  · skip
    obtain rfl : i = 16 := by omega
    refine AW.exit ?_
    refine AQ.thenX ?_
    refine AQ.loopX ?_
    refine AQ.blockX rfl ?_
    have e : [stB b (fun q => if q < 16 then f q ^^^ k q else f q)] = [stB b (fun q => f q ^^^ k q)] := stB_eq fun q hq => if_pos hq
    refine AQ.retN (AQ.ret0 rfl ⟨_, by repeat (first | exact List.Sublist.slnil | refine List.Sublist.cons_cons _ ?_ | refine List.Sublist.cons _ ?_), List.Perm.refl _⟩ (⟨rfl, e⟩))
theorem u8ix (v : UInt8) : 0 ≤ (v.toNat : Int) ∧ (v.toNat : Int) < ((256 : Nat) : Int) := by have := v.toNat_lt; omega
/-- A box: the substitute of each byte. -/
def BoxOf (xs : List AV) (o : Nat) (S : UInt8 → UInt8) : Prop := ∀ v : UInt8, xs[o + v.toNat]? = some (by8 (S v))
def shF (S : UInt8 → UInt8) (d : Nat) (f : Nat → UInt8) (i : Nat) : UInt8 := S (f (i % 4 + 4 * ((i / 4 + d * (i % 4)) % 4)))
theorem shF_at1 {i : Nat} (hi : i < 16) (f : Nat → UInt8) : (arB 16 f)[0 + ((i : Int) % 4 + 4 * (((i : Int) / 4 + 1 * ((i : Int) % 4)) % 4)).toNat * 1]? = some (by8 (f (i % 4 + 4 * ((i / 4 + 1 * (i % 4)) % 4)))) :=
  arB_get (by omega) (by
    have : ((i : Int) % 4 + 4 * (((i : Int) / 4 + 1 * ((i : Int) % 4)) % 4)) = ((i % 4 + 4 * ((i / 4 + 1 * (i % 4)) % 4) : Nat) : Int) := by push_cast; rfl
    rw [this, Int.toNat_natCast]; omega)
theorem box_at1 {xs : List AV} {o : Nat} {S : UInt8 → UInt8} (h : BoxOf xs o S) (v : UInt8) : xs[o + (v.toNat : Int).toNat * 1]? = some (by8 (S v)) := by rw [Int.toNat_natCast, Nat.mul_one]; exact h v
set_option maxHeartbeats 2000000 in
theorem shift1_fn (b : Nat) (f : Nat → UInt8) (xs : List AV) (o : Nat) (S : UInt8 → UInt8) (hS : BoxOf xs o S) : Sp Try.prog 46 [pt b, .rp xs o, .val (.int .i64 1)] [stB b f] (IsM (.val (.tuple #[])) (stB b (shF S 1 f))) := by
  refine Sp.enter Try.func46 rfl _ Try.ntmps46 rfl (fun w0 R0 => ?_)
  refine AW.seq ?_
  refine AW.region ?_
  refine AO.op (O.move rfl rfl) rfl rfl rfl ?_
  refine AO.op (O.nilCheck rfl rfl) rfl rfl rfl ?_
  (refine AO.op (O.loadK rfl rfl (by repeat (exact List.Mem.head _)) (by (dsimp only [List.set, List.append, List.cons_append, List.nil_append, splice, ofConst, AV.cells, List.map, List.map_cons, List.map_nil, List.take, List.drop, Nat.zero_add, Nat.add_zero, Nat.reduceAdd, Nat.reduceMul, Nat.zero_mul, Value.cells, List.toList_toArray, zerosA, List.replicate, List.flatten, List.append_nil]; done)) (by rfl)) rfl rfl rfl ?_)
  refine AO.opB (O.alloc rfl (by (dsimp only [List.set, List.append, List.cons_append, List.nil_append, splice, ofConst, AV.cells, List.map, List.map_cons, List.map_nil, List.take, List.drop, Nat.zero_add, Nat.add_zero, Nat.reduceAdd, Nat.reduceMul, Nat.zero_mul, Value.cells, List.toList_toArray, zerosA, List.replicate, List.flatten, List.append_nil]; done)) (by rfl)) rfl rfl rfl ?_
  intro B1
  (refine AO.store (i := 0) rfl rfl rfl rfl rfl rfl (by rfl) (by rfl) (by rfl) (by exact splice_arB rfl) (by (dsimp only [List.set, List.append, List.cons_append, List.nil_append, splice, ofConst, AV.cells, List.map, List.map_cons, List.map_nil, List.take, List.drop, Nat.zero_add, Nat.add_zero, Nat.reduceAdd, Nat.reduceMul, Nat.zero_mul, Value.cells, List.toList_toArray, zerosA, List.replicate, List.flatten, List.append_nil]; done)) ?_)
  refine AO.nil ?_
  refine AQ.thenN ?_
  refine AW.seq ?_
  refine AW.region ?_
  refine AO.op (O.move rfl rfl) rfl rfl rfl ?_
  refine AO.nil ?_
  refine AQ.thenN ?_
  refine AW.block ?_
  refine AW.loopK [(0, _), (1, _), (2, _), (6, _)] (fun nn E H => ∃ (i : Nat), (i ≤ 16) ∧ nn = 16 - i ∧ E = [(13, .val (.int .i64 (i : Int)))] ∧ H = [.blk B1 56 16 (arB 16 f), stB b (fun q => if q < i then shF S 1 f q else f q)]) _ (⟨0, by omega, rfl, rfl, rfl⟩) (by repeat (first | exact envNil | refine envCons rfl ?_)) (by repeat (first | exact envNil | refine envCons rfl ?_)) (by repeat (first | exact subPnil | refine subPcons 0 rfl ?_)) ?_
  rintro nn E H ⟨i, hi, rfl, rfl, rfl⟩
  dsimp only [List.cons_append, List.nil_append]
  refine AW.seq ?_
  refine AW.region ?_
  refine AO.op (O.lss rfl rfl rfl (by rfl)) rfl rfl rfl ?_
  refine AO.nil ?_
  refine AQ.thenN ?_
  refine AW.seq ?_
  refine AW.split rfl (fun h => ?_) (fun h => ?_) <;> (try simp only [decide_eq_true_eq, decide_eq_false_iff_not, beq_iff_eq, beq_eq_false_iff_ne, bne_iff_ne, bne_eq_false_iff_eq, Bool.not_eq_true', Bool.not_eq_false', Bool.not_eq_true, Bool.not_eq_false, ne_eq, Int.not_lt, Int.not_le, Bool.and_eq_true, Bool.or_eq_true, Bool.or_eq_false_iff, Bool.and_eq_false_imp, strOf_toList, Decidable.not_not] at h)
  · skip
    have hi' : i < 16 := by omega
    refine AW.skip ?_
    refine AQ.thenN ?_
    refine AW.seq ?_
    refine AW.block ?_
    refine AW.seq ?_
    refine AW.region ?_
    refine AO.op (O.move rfl rfl) rfl rfl rfl ?_
    refine AO.op (O.assign rfl rfl) rfl rfl rfl ?_
    refine AO.nil ?_
    refine AQ.thenN ?_
    refine AW.seq ?_
    refine AW.region ?_
    refine AO.op (O.move rfl rfl) rfl rfl rfl ?_
    refine AO.op (O.rem rfl rfl rfl (by omega) (tmodE (by omega))) rfl rfl rfl ?_
    refine AO.op (O.move rfl rfl) rfl rfl rfl ?_
    refine AO.op (O.quo rfl rfl rfl (by omega) (quoE ⟨by omega, by omega⟩ (by omega))) rfl rfl rfl ?_
    refine AO.op (O.assign rfl rfl) rfl rfl rfl ?_
    refine AO.op (O.assign rfl rfl) rfl rfl rfl ?_
    refine AO.nil ?_
    refine AQ.thenN ?_
    refine AW.regionD 19 (by kernel_rfl) (by kernel_rfl) ?_
    simp only [List.take_succ_cons, List.take_zero, List.drop_succ_cons, List.drop_zero]
    refine FA.op (O.move rfl rfl) rfl rfl rfl rfl ?_
    refine FA.op (O.move rfl rfl) rfl rfl rfl rfl ?_
    refine FA.op (O.move rfl rfl) rfl rfl rfl rfl ?_
    refine FA.op (O.move rfl rfl) rfl rfl rfl rfl ?_
    refine FA.op (O.move rfl rfl) rfl rfl rfl rfl ?_
    refine FA.op (O.move rfl rfl) rfl rfl rfl rfl ?_
    refine FA.op (O.move rfl rfl) rfl rfl rfl rfl ?_
    refine FA.op (O.mul rfl rfl rfl (by exact wI64 (by omega))) rfl rfl rfl rfl ?_
    refine FA.op (O.add rfl rfl rfl (by exact wI64 (by omega))) rfl rfl rfl rfl ?_
    refine FA.op (O.rem rfl rfl rfl (by omega) (tmodE (by omega))) rfl rfl rfl rfl ?_
    refine FA.op (O.mul rfl rfl rfl (by exact wI64 (by omega))) rfl rfl rfl rfl ?_
    refine FA.op (O.add rfl rfl rfl (by exact wI64 (by omega))) rfl rfl rfl rfl ?_
    refine FA.op (O.idxL rfl rfl rfl (by exact ⟨by omega, by omega⟩)) rfl rfl rfl rfl ?_
    refine FA.op (O.load rfl rfl (by repeat (exact List.Mem.head _)) (by exact shF_at1 hi' f)) rfl rfl rfl rfl ?_
    refine FA.op (O.nilCheckR rfl rfl) rfl rfl rfl rfl ?_
    refine FA.op (O.idxLR rfl rfl rfl (by exact u8ix _)) rfl rfl rfl rfl ?_
    refine FA.op (O.loadR rfl rfl (by exact box_at1 hS _)) rfl rfl rfl rfl ?_
    refine FA.op (O.nilCheck rfl rfl) rfl rfl rfl rfl ?_
    refine FA.op (O.idxL rfl rfl rfl (by exact ⟨by omega, by omega⟩)) rfl rfl rfl rfl ?_
    refine FA.nil ?_
    simp only [chosen, List.nil_append, List.cons_append, List.append_nil]
    (refine AO.store (i := 1) rfl rfl rfl rfl rfl rfl (by rfl) (by rfl) (by exact Nat.ble_eq_true_of_le (by rw [arB_len]; omega)) (by exact arB_set (k := i) (by omega) _ (by omega)) (by (dsimp only [List.set, List.append, List.cons_append, List.nil_append, splice, ofConst, AV.cells, List.map, List.map_cons, List.map_nil, List.take, List.drop, Nat.zero_add, Nat.add_zero, Nat.reduceAdd, Nat.reduceMul, Nat.zero_mul, Value.cells, List.toList_toArray, zerosA, List.replicate, List.flatten, List.append_nil]; done)) ?_)
    refine AO.nil ?_
    refine AQ.blockN ?_
    refine AQ.thenN ?_
    refine AW.region ?_
    refine AO.op (O.add rfl rfl rfl (by exact wI64 (by omega))) rfl rfl rfl ?_
    refine AO.op (O.move rfl rfl) rfl rfl rfl ?_
    refine AO.nil ?_
    have e : stB b (fun q => if q = i then shF S 1 f i else if q < i then shF S 1 f q else f q) = stB b (fun q => if q < i + 1 then shF S 1 f q else f q) := stB_eq1 fun q _ => by
      rcases Nat.lt_trichotomy q i with h1 | rfl | h1
      · rw [if_neg (by omega), if_pos h1, if_pos (by omega)]
      · rw [if_pos rfl, if_pos (by omega)]
      · rw [if_neg (by omega), if_neg (by omega), if_neg (by omega)]
    refine AQ.loopKN _ _ _ (by omega) (⟨i + 1, by omega, rfl, rfl, congrArg (fun x => [HE.blk B1 56 16 (arB 16 f), x]) e⟩) (by repeat (first | exact envNil | refine envCons rfl ?_)) (by repeat (first | exact envNil | refine envCons rfl ?_)) (by repeat (first | exact subPnil | refine subPcons 0 rfl ?_))
  · skip
    obtain rfl : i = 16 := by omega
    refine AW.exit ?_
    refine AQ.thenX ?_
    refine AQ.loopX ?_
    refine AQ.blockX rfl ?_
    have e : [stB b (fun q => if q < 16 then shF S 1 f q else f q)] = [stB b (shF S 1 f)] := stB_eq fun q hq => if_pos hq
    refine AQ.retN (AQ.ret0 rfl ⟨_, by repeat (first | exact List.Sublist.slnil | refine List.Sublist.cons_cons _ ?_ | refine List.Sublist.cons _ ?_), List.Perm.refl _⟩ (⟨rfl, e⟩))
/-! mix -/
def mixK (f m : Nat → UInt8) (i : Nat) : Nat → UInt8
  | 0 => 0
  | k + 1 => mixK f m i k ^^^ prod (f (4 * (i / 4) + (i % 4 + k) % 4)) (m k)
def mixF (f m : Nat → UInt8) (i : Nat) : UInt8 := mixK f m i 4
theorem mix_at {i k : Nat} (hi : i < 16) (f : Nat → UInt8) : (arB 16 f)[0 + (4 * ((i : Int) / 4) + ((i : Int) % 4 + (k : Int)) % 4).toNat * 1]? = some (by8 (f (4 * (i / 4) + (i % 4 + k) % 4))) :=
  arB_get (by omega) (by
    have : (4 * ((i : Int) / 4) + ((i : Int) % 4 + (k : Int)) % 4) = ((4 * (i / 4) + (i % 4 + k) % 4 : Nat) : Int) := by push_cast; rfl
    rw [this, Int.toNat_natCast]; omega)
def mixU (f m : Nat → UInt8) (i k q : Nat) : UInt8 := if q = i then mixK f m i k else if q < i then mixF f m q else f q
set_option maxHeartbeats 2000000 in
theorem mix_fn (b : Nat) (f m : Nat → UInt8) : Sp Try.prog 45 [pt b, .agg (arB 4 m)] [stB b f] (IsM (.val (.tuple #[])) (stB b (mixF f m))) := by
  refine Sp.enter Try.func45 rfl _ Try.ntmps45 rfl (fun w0 R0 => ?_)
  refine AW.seq ?_
  refine AW.region ?_
  refine AO.opB (O.box rfl rfl rfl rfl rfl) rfl rfl rfl ?_
  intro B1
  refine AO.nil ?_
  refine AQ.thenN ?_
  refine AW.seq ?_
  refine AW.region ?_
  refine AO.op (O.move rfl rfl) rfl rfl rfl ?_
  refine AO.op (O.nilCheck rfl rfl) rfl rfl rfl ?_
  (refine AO.op (O.loadK rfl rfl (by repeat (first | exact List.Mem.head _ | refine List.Mem.tail _ ?_)) (by (dsimp only [List.set, List.append, List.cons_append, List.nil_append, splice, ofConst, AV.cells, List.map, List.map_cons, List.map_nil, List.take, List.drop, Nat.zero_add, Nat.add_zero, Nat.reduceAdd, Nat.reduceMul, Nat.zero_mul, Value.cells, List.toList_toArray, zerosA, List.replicate, List.flatten, List.append_nil]; done)) (by rfl)) rfl rfl rfl ?_)
  refine AO.opB (O.alloc rfl (by (dsimp only [List.set, List.append, List.cons_append, List.nil_append, splice, ofConst, AV.cells, List.map, List.map_cons, List.map_nil, List.take, List.drop, Nat.zero_add, Nat.add_zero, Nat.reduceAdd, Nat.reduceMul, Nat.zero_mul, Value.cells, List.toList_toArray, zerosA, List.replicate, List.flatten, List.append_nil]; done)) (by rfl)) rfl rfl rfl ?_
  intro B2
  (refine AO.store (i := 0) rfl rfl rfl rfl rfl rfl (by rfl) (by rfl) (by rfl) (by exact splice_arB rfl) (by (dsimp only [List.set, List.append, List.cons_append, List.nil_append, splice, ofConst, AV.cells, List.map, List.map_cons, List.map_nil, List.take, List.drop, Nat.zero_add, Nat.add_zero, Nat.reduceAdd, Nat.reduceMul, Nat.zero_mul, Value.cells, List.toList_toArray, zerosA, List.replicate, List.flatten, List.append_nil]; done)) ?_)
  refine AO.nil ?_
  refine AQ.thenN ?_
  refine AW.seq ?_
  refine AW.region ?_
  refine AO.op (O.move rfl rfl) rfl rfl rfl ?_
  refine AO.nil ?_
  refine AQ.thenN ?_
  refine AW.block ?_
  refine AW.loopK [(0, _), (3, _), (4, _)] (fun nn E H => ∃ (i : Nat), (i ≤ 16) ∧ nn = 16 - i ∧ E = [(12, .val (.int .i64 (i : Int)))] ∧ H = [.blk B1 66 4 (arB 4 m), .blk B2 56 16 (arB 16 f), stB b (fun q => if q < i then mixF f m q else f q)]) _ (⟨0, by omega, rfl, rfl, rfl⟩) (by repeat (first | exact envNil | refine envCons rfl ?_)) (by repeat (first | exact envNil | refine envCons rfl ?_)) (by repeat (first | exact subPnil | refine subPcons 0 rfl ?_ | refine subPcons 1 rfl ?_)) ?_
  rintro nn E H ⟨i, hi, rfl, rfl, rfl⟩
  dsimp only [List.cons_append, List.nil_append]
  refine AW.seq ?_
  refine AW.region ?_
  refine AO.op (O.lss rfl rfl rfl (by rfl)) rfl rfl rfl ?_
  refine AO.nil ?_
  refine AQ.thenN ?_
  refine AW.seq ?_
  refine AW.split rfl (fun h => ?_) (fun h => ?_) <;> (try simp only [decide_eq_true_eq, decide_eq_false_iff_not, beq_iff_eq, beq_eq_false_iff_ne, bne_iff_ne, bne_eq_false_iff_eq, Bool.not_eq_true', Bool.not_eq_false', Bool.not_eq_true, Bool.not_eq_false, ne_eq, Int.not_lt, Int.not_le, Bool.and_eq_true, Bool.or_eq_true, Bool.or_eq_false_iff, Bool.and_eq_false_imp, strOf_toList, Decidable.not_not] at h)
  · skip
    have hi' : i < 16 := by omega
    refine AW.skip ?_
    refine AQ.thenN ?_
    refine AW.seq ?_
    refine AW.block ?_
    refine AW.seq ?_
    refine AW.region ?_
    refine AO.op (O.move rfl rfl) rfl rfl rfl ?_
    refine AO.op (O.assign rfl rfl) rfl rfl rfl ?_
    refine AO.nil ?_
    refine AQ.thenN ?_
    refine AW.seq ?_
    refine AW.region ?_
    refine AO.op (O.move rfl rfl) rfl rfl rfl ?_
    refine AO.op (O.rem rfl rfl rfl (by omega) (tmodE (by omega))) rfl rfl rfl ?_
    refine AO.op (O.move rfl rfl) rfl rfl rfl ?_
    refine AO.op (O.quo rfl rfl rfl (by omega) (quoE ⟨by omega, by omega⟩ (by omega))) rfl rfl rfl ?_
    refine AO.op (O.assign rfl rfl) rfl rfl rfl ?_
    refine AO.op (O.assign rfl rfl) rfl rfl rfl ?_
    refine AO.nil ?_
    refine AQ.thenN ?_
    refine AW.seq ?_
    refine AW.region ?_
    refine AO.op (O.move rfl rfl) rfl rfl rfl ?_
    refine AO.op (O.move rfl rfl) rfl rfl rfl ?_
    refine AO.op (O.nilCheck rfl rfl) rfl rfl rfl ?_
    refine AO.op (O.idxL rfl rfl rfl (by exact ⟨by omega, by omega⟩)) rfl rfl rfl ?_
    (refine AO.store (i := 2) rfl rfl rfl rfl rfl rfl (by rfl) (by rfl) (by exact Nat.ble_eq_true_of_le (by rw [arB_len]; omega)) (by exact arB_set (k := i) (by omega) 0 (by omega)) (by (dsimp only [List.set, List.append, List.cons_append, List.nil_append, splice, ofConst, AV.cells, List.map, List.map_cons, List.map_nil, List.take, List.drop, Nat.zero_add, Nat.add_zero, Nat.reduceAdd, Nat.reduceMul, Nat.zero_mul, Value.cells, List.toList_toArray, zerosA, List.replicate, List.flatten, List.append_nil]; done)) ?_)
    refine AO.nil ?_
    refine AQ.thenN ?_
    refine AW.seq ?_
    refine AW.region ?_
    refine AO.op (O.move rfl rfl) rfl rfl rfl ?_
    refine AO.nil ?_
    refine AQ.thenN ?_
    refine AW.block ?_
    have e0 : stB b (fun q => if q = i then 0 else if q < i then mixF f m q else f q) = stB b (mixU f m i 0) := rfl
    refine AW.loopK [(0, _), (3, _), (4, _), (5, _), (6, _), (7, _), (12, _)] (fun nn E H => ∃ (k : Nat), (k ≤ 4) ∧ nn = 4 - k ∧ E = [(23, .val (.int .i64 (k : Int)))] ∧ H = [.blk B1 66 4 (arB 4 m), .blk B2 56 16 (arB 16 f), stB b (mixU f m i k)]) _ (⟨0, by omega, rfl, rfl, rfl⟩) (by repeat (first | exact envNil | refine envCons rfl ?_)) (by repeat (first | exact envNil | refine envCons rfl ?_)) (by repeat (first | exact subPnil | refine subPcons 0 rfl ?_)) ?_
    rintro nn E H ⟨k, hk, rfl, rfl, rfl⟩
    dsimp only [List.cons_append, List.nil_append]
    refine AW.seq ?_
    refine AW.region ?_
    refine AO.op (O.lss rfl rfl rfl (by rfl)) rfl rfl rfl ?_
    refine AO.nil ?_
    refine AQ.thenN ?_
    refine AW.seq ?_
    refine AW.split rfl (fun h2 => ?_) (fun h2 => ?_) <;> (try simp only [decide_eq_true_eq, decide_eq_false_iff_not, beq_iff_eq, beq_eq_false_iff_ne, bne_iff_ne, bne_eq_false_iff_eq, Bool.not_eq_true', Bool.not_eq_false', Bool.not_eq_true, Bool.not_eq_false, ne_eq, Int.not_lt, Int.not_le, Bool.and_eq_true, Bool.or_eq_true, Bool.or_eq_false_iff, Bool.and_eq_false_imp, strOf_toList, Decidable.not_not] at h2)
    · skip
      have hk' : k < 4 := by omega
      refine AW.skip ?_
      refine AQ.thenN ?_
      refine AW.seq ?_
      refine AW.block ?_
      refine AW.seq ?_
      refine AW.region ?_
      refine AO.op (O.move rfl rfl) rfl rfl rfl ?_
      refine AO.op (O.assign rfl rfl) rfl rfl rfl ?_
      refine AO.nil ?_
      refine AQ.thenN ?_
      refine AW.regionD 21 (by kernel_rfl) (by kernel_rfl) ?_
      simp only [List.take_succ_cons, List.take_zero, List.drop_succ_cons, List.drop_zero]
      refine FA.op (O.move rfl rfl) rfl rfl rfl rfl ?_
      refine FA.op (O.move rfl rfl) rfl rfl rfl rfl ?_
      refine FA.op (O.nilCheck rfl rfl) rfl rfl rfl rfl ?_
      refine FA.op (O.idxL rfl rfl rfl (by exact ⟨by omega, by omega⟩)) rfl rfl rfl rfl ?_
      refine FA.op (O.load rfl rfl (by repeat (first | exact List.Mem.head _ | refine List.Mem.tail _ ?_)) (by exact arB_get (k := i) (by omega) (by omega))) rfl rfl rfl rfl ?_
      refine FA.op (O.move rfl rfl) rfl rfl rfl rfl ?_
      refine FA.op (O.mul rfl rfl rfl (by exact wI64 (by omega))) rfl rfl rfl rfl ?_
      refine FA.op (O.move rfl rfl) rfl rfl rfl rfl ?_
      refine FA.op (O.move rfl rfl) rfl rfl rfl rfl ?_
      refine FA.op (O.add rfl rfl rfl (by exact wI64 (by omega))) rfl rfl rfl rfl ?_
      refine FA.op (O.rem rfl rfl rfl (by omega) (tmodE (by omega))) rfl rfl rfl rfl ?_
      refine FA.op (O.add rfl rfl rfl (by exact wI64 (by omega))) rfl rfl rfl rfl ?_
      refine FA.op (O.idxL rfl rfl rfl (by exact ⟨by omega, by omega⟩)) rfl rfl rfl rfl ?_
      refine FA.op (O.load rfl rfl (by repeat (first | exact List.Mem.head _ | refine List.Mem.tail _ ?_)) (by exact mix_at hi' f)) rfl rfl rfl rfl ?_
      refine FA.op (O.move rfl rfl) rfl rfl rfl rfl ?_
      refine FA.op (O.idxL rfl rfl rfl (by exact ⟨by omega, by omega⟩)) rfl rfl rfl rfl ?_
      refine FA.op (O.load rfl rfl (by repeat (exact List.Mem.head _)) (by exact arB_get (k := k) (by omega) (by omega))) rfl rfl rfl rfl ?_
      refine FA.op (O.call rfl Try.func57 rfl rfl rfl (product_fn _ _)) rfl rfl rfl rfl ?_
      refine FA.op (O.xor_ rfl rfl rfl xorU8) rfl rfl rfl rfl ?_
      refine FA.op (O.nilCheck rfl rfl) rfl rfl rfl rfl ?_
      refine FA.op (O.idxL rfl rfl rfl (by exact ⟨by omega, by omega⟩)) rfl rfl rfl rfl ?_
      refine FA.nil ?_
      simp only [chosen, List.nil_append, List.cons_append, List.append_nil]
      (refine AO.store (i := 2) rfl rfl rfl rfl rfl rfl (by rfl) (by rfl) (by exact Nat.ble_eq_true_of_le (by rw [arB_len]; omega)) (by exact arB_set (k := i) (by omega) _ (by omega)) (by (dsimp only [List.set, List.append, List.cons_append, List.nil_append, splice, ofConst, AV.cells, List.map, List.map_cons, List.map_nil, List.take, List.drop, Nat.zero_add, Nat.add_zero, Nat.reduceAdd, Nat.reduceMul, Nat.zero_mul, Value.cells, List.toList_toArray, zerosA, List.replicate, List.flatten, List.append_nil]; done)) ?_)
      refine AO.nil ?_
      refine AQ.blockN ?_
      refine AQ.thenN ?_
      refine AW.region ?_
      refine AO.op (O.add rfl rfl rfl (by exact wI64 (by omega))) rfl rfl rfl ?_
      refine AO.op (O.move rfl rfl) rfl rfl rfl ?_
      refine AO.nil ?_
      have e : stB b (fun q => if q = i then mixU f m i k i ^^^ prod (f (4 * (i / 4) + (i % 4 + k) % 4)) (m k) else mixU f m i k q) = stB b (mixU f m i (k + 1)) := stB_eq1 fun q _ => by
        unfold mixU
        by_cases h1 : q = i
        · rw [if_pos h1, if_pos h1, if_pos rfl]; rfl
        · rw [if_neg h1, if_neg h1, if_neg h1]
      refine AQ.loopKN _ _ _ (by omega) (⟨k + 1, by omega, rfl, rfl, congrArg (fun x => [HE.blk B1 66 4 (arB 4 m), HE.blk B2 56 16 (arB 16 f), x]) e⟩) (by repeat (first | exact envNil | refine envCons rfl ?_)) (by repeat (first | exact envNil | refine envCons rfl ?_)) (by repeat (first | exact subPnil | refine subPcons 0 rfl ?_))
    · skip
      obtain rfl : k = 4 := by omega
      refine AW.exit ?_
      refine AQ.thenX ?_
      refine AQ.loopX ?_
      refine AQ.blockX rfl ?_
      refine AQ.blockN ?_
      refine AQ.thenN ?_
      refine AW.region ?_
      refine AO.op (O.add rfl rfl rfl (by exact wI64 (by omega))) rfl rfl rfl ?_
      refine AO.op (O.move rfl rfl) rfl rfl rfl ?_
      refine AO.nil ?_
      have e : stB b (mixU f m i 4) = stB b (fun q => if q < i + 1 then mixF f m q else f q) := stB_eq1 fun q _ => by
        unfold mixU
        rcases Nat.lt_trichotomy q i with h1 | rfl | h1
        · rw [if_neg (by omega), if_pos h1, if_pos (by omega)]
        · rw [if_pos rfl, if_pos (by omega)]; rfl
        · rw [if_neg (by omega), if_neg (by omega), if_neg (by omega)]
      refine AQ.loopKN _ _ _ (by omega) (⟨i + 1, by omega, rfl, rfl, congrArg (fun x => [HE.blk B1 66 4 (arB 4 m), HE.blk B2 56 16 (arB 16 f), x]) e⟩) (by repeat (first | exact envNil | refine envCons rfl ?_)) (by repeat (first | exact envNil | refine envCons rfl ?_)) (by repeat (first | exact subPnil | refine subPcons 0 rfl ?_))
  · skip
    obtain rfl : i = 16 := by omega
    refine AW.exit ?_
    refine AQ.thenX ?_
    refine AQ.loopX ?_
    refine AQ.blockX rfl ?_
    have e : [stB b (fun q => if q < 16 then mixF f m q else f q)] = [stB b (mixF f m)] := stB_eq fun q hq => if_pos hq
    refine AQ.retN (AQ.ret0 rfl ⟨_, by repeat (first | exact List.Sublist.slnil | refine List.Sublist.cons_cons _ ?_ | refine List.Sublist.cons _ ?_), List.Perm.refl _⟩ (⟨rfl, e⟩))
end Go.Proofs.Ytochjihddnkhcaa.By

namespace Go.Proofs.Ytochjihddnkhcaa.By
open Go.RowKit L A
set_option linter.unusedVariables false
set_option linter.unusedSimpArgs false
attribute [local irreducible] AW AQ AO
set_option maxRecDepth 20000
def PW : List UInt8 := [1, 3, 5, 15, 17, 51, 85, 255, 26, 46, 114, 150, 161, 248, 19, 53, 95, 225, 56, 72, 216, 115, 149, 164, 247, 2, 6, 10, 30, 34, 102, 170, 229, 52, 92, 228, 55, 89, 235, 38, 106, 190, 217, 112, 144, 171, 230, 49, 83, 245, 4, 12, 20, 60, 68, 204, 79, 209, 104, 184, 211, 110, 178, 205, 76, 212, 103, 169, 224, 59, 77, 215, 98, 166, 241, 8, 24, 40, 120, 136, 131, 158, 185, 208, 107, 189, 220, 127, 129, 152, 179, 206, 73, 219, 118, 154, 181, 196, 87, 249, 16, 48, 80, 240, 11, 29, 39, 105, 187, 214, 97, 163, 254, 25, 43, 125, 135, 146, 173, 236, 47, 113, 147, 174, 233, 32, 96, 160, 251, 22, 58, 78, 210, 109, 183, 194, 93, 231, 50, 86, 250, 21, 63, 65, 195, 94, 226, 61, 71, 201, 64, 192, 91, 237, 44, 116, 156, 191, 218, 117, 159, 186, 213, 100, 172, 239, 42, 126, 130, 157, 188, 223, 122, 142, 137, 128, 155, 182, 193, 88, 232, 35, 101, 175, 234, 37, 111, 177, 200, 67, 197, 84, 252, 31, 33, 99, 165, 244, 7, 9, 27, 45, 119, 153, 176, 203, 70, 202, 69, 207, 74, 222, 121, 139, 134, 145, 168, 227, 62, 66, 198, 81, 243, 14, 18, 54, 90, 238, 41, 123, 141, 140, 143, 138, 133, 148, 167, 242, 13, 23, 57, 75, 221, 124, 132, 151, 162, 253, 28, 36, 108, 180, 199, 82, 246, 1]
def SB : List UInt8 := [99, 124, 119, 123, 242, 107, 111, 197, 48, 1, 103, 43, 254, 215, 171, 118, 202, 130, 201, 125, 250, 89, 71, 240, 173, 212, 162, 175, 156, 164, 114, 192, 183, 253, 147, 38, 54, 63, 247, 204, 52, 165, 229, 241, 113, 216, 49, 21, 4, 199, 35, 195, 24, 150, 5, 154, 7, 18, 128, 226, 235, 39, 178, 117, 9, 131, 44, 26, 27, 110, 90, 160, 82, 59, 214, 179, 41, 227, 47, 132, 83, 209, 0, 237, 32, 252, 177, 91, 106, 203, 190, 57, 74, 76, 88, 207, 208, 239, 170, 251, 67, 77, 51, 133, 69, 249, 2, 127, 80, 60, 159, 168, 81, 163, 64, 143, 146, 157, 56, 245, 188, 182, 218, 33, 16, 255, 243, 210, 205, 12, 19, 236, 95, 151, 68, 23, 196, 167, 126, 61, 100, 93, 25, 115, 96, 129, 79, 220, 34, 42, 144, 136, 70, 238, 184, 20, 222, 94, 11, 219, 224, 50, 58, 10, 73, 6, 36, 92, 194, 211, 172, 98, 145, 149, 228, 121, 231, 200, 55, 109, 141, 213, 78, 169, 108, 86, 244, 234, 101, 122, 174, 8, 186, 120, 37, 46, 28, 166, 180, 198, 232, 221, 116, 31, 75, 189, 139, 138, 112, 62, 181, 102, 72, 3, 246, 14, 97, 53, 87, 185, 134, 193, 29, 158, 225, 248, 152, 17, 105, 217, 142, 148, 155, 30, 135, 233, 206, 85, 40, 223, 140, 161, 137, 13, 191, 230, 66, 104, 65, 153, 45, 15, 176, 84, 187, 22]
def IV : List UInt8 := [82, 9, 106, 213, 48, 54, 165, 56, 191, 64, 163, 158, 129, 243, 215, 251, 124, 227, 57, 130, 155, 47, 255, 135, 52, 142, 67, 68, 196, 222, 233, 203, 84, 123, 148, 50, 166, 194, 35, 61, 238, 76, 149, 11, 66, 250, 195, 78, 8, 46, 161, 102, 40, 217, 36, 178, 118, 91, 162, 73, 109, 139, 209, 37, 114, 248, 246, 100, 134, 104, 152, 22, 212, 164, 92, 204, 93, 101, 182, 146, 108, 112, 72, 80, 253, 237, 185, 218, 94, 21, 70, 87, 167, 141, 157, 132, 144, 216, 171, 0, 140, 188, 211, 10, 247, 228, 88, 5, 184, 179, 69, 6, 208, 44, 30, 143, 202, 63, 15, 2, 193, 175, 189, 3, 1, 19, 138, 107, 58, 145, 17, 65, 79, 103, 220, 234, 151, 242, 207, 206, 240, 180, 230, 115, 150, 172, 116, 34, 231, 173, 53, 133, 226, 249, 55, 232, 28, 117, 223, 110, 71, 241, 26, 113, 29, 41, 197, 137, 111, 183, 98, 14, 170, 24, 190, 27, 252, 86, 62, 75, 198, 210, 121, 32, 154, 219, 192, 254, 120, 205, 90, 244, 31, 221, 168, 51, 136, 7, 199, 49, 177, 18, 16, 89, 39, 128, 236, 95, 96, 81, 127, 169, 25, 181, 74, 13, 45, 229, 122, 159, 147, 201, 156, 239, 160, 224, 59, 77, 174, 42, 245, 176, 200, 235, 187, 60, 131, 83, 153, 97, 23, 43, 4, 126, 186, 119, 214, 38, 225, 105, 20, 99, 85, 33, 12, 125]
def LG : List Nat := [255, 0, 25, 1, 50, 2, 26, 198, 75, 199, 27, 104, 51, 238, 223, 3, 100, 4, 224, 14, 52, 141, 129, 239, 76, 113, 8, 200, 248, 105, 28, 193, 125, 194, 29, 181, 249, 185, 39, 106, 77, 228, 166, 114, 154, 201, 9, 120, 101, 47, 138, 5, 33, 15, 225, 36, 18, 240, 130, 69, 53, 147, 218, 142, 150, 143, 219, 189, 54, 208, 206, 148, 19, 92, 210, 241, 64, 70, 131, 56, 102, 221, 253, 48, 191, 6, 139, 98, 179, 37, 226, 152, 34, 136, 145, 16, 126, 110, 72, 195, 163, 182, 30, 66, 58, 107, 40, 84, 250, 133, 61, 186, 43, 121, 10, 21, 155, 159, 94, 202, 78, 212, 172, 229, 243, 115, 167, 87, 175, 88, 168, 80, 244, 234, 214, 116, 79, 174, 233, 213, 231, 230, 173, 232, 44, 215, 117, 122, 235, 22, 11, 245, 89, 203, 95, 176, 156, 169, 81, 160, 127, 12, 246, 111, 23, 196, 73, 236, 216, 67, 31, 45, 164, 118, 123, 183, 204, 187, 62, 90, 251, 96, 177, 134, 59, 82, 161, 108, 170, 85, 41, 157, 151, 178, 135, 144, 97, 190, 220, 252, 188, 149, 207, 205, 55, 63, 91, 209, 83, 57, 132, 60, 65, 162, 109, 71, 20, 42, 158, 93, 86, 242, 211, 171, 68, 17, 146, 217, 35, 32, 46, 137, 180, 124, 184, 38, 119, 153, 227, 165, 103, 74, 237, 222, 197, 49, 254, 24, 13, 99, 140, 128, 192, 247, 112, 7]
def pw (i : Nat) : UInt8 := PW.getD i 0
def sb (v : UInt8) : UInt8 := SB.getD v.toNat 0
def iv (v : UInt8) : UInt8 := IV.getD v.toNat 0
def lg (v : UInt8) : Nat := LG.getD v.toNat 0
def tA (i : Nat) : UInt8 := if i < 255 then pw i else 0
def tB (i : Nat) : UInt8 := if i < 255 then pw ((255 - i) % 255) else 0
def tC (i k : Nat) : UInt8 := match k with
  | 0 => tB i ^^^ 99
  | k + 1 => tC i k ^^^ rotB (tB i) (k + 1)
theorem pw_step : ∀ i, i < 255 → pw (i + 1) = pw i ^^^ dbl (pw i) := by decide +kernel
theorem tab_a : ∀ i, i < 256 → lg (tA i) = i ∧ sb (tA i) = tC i 4 ∧ iv (tC i 4) = tA i := by decide +kernel
theorem tab_l : ∀ n, n < 256 → tA (lg (UInt8.ofNat n)) = UInt8.ofNat n ∧ lg (UInt8.ofNat n) < 256 := by decide +kernel
theorem iv_sb : ∀ n, n < 256 → iv (sb (UInt8.ofNat n)) = UInt8.ofNat n ∧ sb (iv (UInt8.ofNat n)) = UInt8.ofNat n := by decide +kernel
end Go.Proofs.Ytochjihddnkhcaa.By

namespace Go.Proofs.Ytochjihddnkhcaa.By
open Go.RowKit L A
set_option linter.unusedVariables false
set_option linter.unusedSimpArgs false
attribute [local irreducible] AW AQ AO
instance : TyN Try.prog 53 512 512 (.agg ⟨List.replicate 512 (.int .u8 0)⟩) := ⟨Try.t53, Try.type53, rfl, rfl, by kernel_rfl⟩
theorem zeros_arB (n : Nat) : List.map AV.val (List.replicate n (.int .u8 0)) = arB n (fun _ => 0) := by
  rw [arB_eq, List.map_replicate]
  apply List.ext_getElem?
  intro q
  by_cases h : q < n <;> simp [h]
theorem ofNat_eq {q : Nat} (hq : q < 256) {v : UInt8} : UInt8.ofNat q = v ↔ q = v.toNat := by
  constructor
  · rintro rfl; rw [UInt8.toNat_ofNat_of_lt' (by simpa [UInt8.size] using hq)]
  · rintro rfl; exact UInt8.ofNat_toNat
theorem tA_lg (v : UInt8) : tA (lg v) = v := by have := (tab_l v.toNat v.toNat_lt).1; rwa [UInt8.ofNat_toNat] at this
theorem lg_lt (v : UInt8) : lg v < 256 := by have := (tab_l v.toNat v.toNat_lt).2; rwa [UInt8.ofNat_toNat] at this
theorem sb_iv (v : UInt8) : sb (iv v) = v := by have := (iv_sb v.toNat v.toNat_lt).2; rwa [UInt8.ofNat_toNat] at this
theorem ivsb (v : UInt8) : iv (sb v) = v := by have := (iv_sb v.toNat v.toNat_lt).1; rwa [UInt8.ofNat_toNat] at this
theorem lg_iff {i : Nat} (hi : i < 256) {v : UInt8} : lg v = i ↔ v = tA i := by
  constructor
  · intro h; rw [← h]; exact (tA_lg v).symm
  · rintro rfl; exact (tab_a i hi).1
def tT (i q : Nat) : UInt8 := if q < 256 then (if lg (UInt8.ofNat q) < i then sb (UInt8.ofNat q) else 0) else (if lg (iv (UInt8.ofNat (q - 256))) < i then iv (UInt8.ofNat (q - 256)) else 0)
def TB (q : Nat) : UInt8 := if q < 256 then sb (UInt8.ofNat q) else iv (UInt8.ofNat (q - 256))
theorem tT_step {i : Nat} (hi : i < 256) (q : Nat) (hq : q < 512) : (if q = 256 + (tC i 4).toNat then tA i else if q = (tA i).toNat then tC i 4 else tT i q) = tT (i + 1) q := by
  obtain ⟨h1, h2, h3⟩ := tab_a i hi
  have ha := (tA i).toNat_lt
  unfold tT
  by_cases hq2 : q < 256
  · rw [if_neg (by omega), if_pos hq2, if_pos hq2]
    by_cases e : q = (tA i).toNat
    · rw [if_pos e]
      have : UInt8.ofNat q = tA i := (ofNat_eq hq2).2 e
      rw [this, h1, if_pos (by omega), h2]
    · rw [if_neg e]
      have : lg (UInt8.ofNat q) ≠ i := fun hh => e ((ofNat_eq hq2).1 ((lg_iff hi).1 hh))
      by_cases hl : lg (UInt8.ofNat q) < i
      · rw [if_pos hl, if_pos (by omega)]
      · rw [if_neg hl, if_neg (by omega)]
  · rw [if_neg hq2, if_neg hq2]
    by_cases e : q = 256 + (tC i 4).toNat
    · rw [if_pos e]
      have : UInt8.ofNat (q - 256) = tC i 4 := (ofNat_eq (by omega)).2 (by omega)
      rw [this, h3, h1, if_pos (by omega)]
    · rw [if_neg e, if_neg (by omega)]
      have : lg (iv (UInt8.ofNat (q - 256))) ≠ i := fun hh => e (by
        have h4 := (lg_iff hi).1 hh
        have h5 := sb_iv (UInt8.ofNat (q - 256))
        rw [h4, h2] at h5
        have := (ofNat_eq (q := q - 256) (by omega)).1 h5.symm
        omega)
      by_cases hl : lg (iv (UInt8.ofNat (q - 256))) < i
      · rw [if_pos hl, if_pos (by omega)]
      · rw [if_neg hl, if_neg (by omega)]
theorem tT_all (q : Nat) : tT 256 q = TB q := by
  unfold tT TB
  rw [if_pos (lg_lt _), if_pos (lg_lt _)]
theorem box_to : BoxOf (arB 512 TB) 0 sb := fun v => by
  have := v.toNat_lt
  rw [arB_get (k := v.toNat) (by omega) (by omega), TB, if_pos (by omega), UInt8.ofNat_toNat]
theorem xor99 (a : UInt8) : Go.bits .xor .u8 (a.toNat : Int) 99 = ((a ^^^ 99).toNat : Int) := all256 (p := fun a => Go.bits .xor .u8 (a.toNat : Int) 99 = ((a ^^^ 99).toNat : Int)) (by decide +kernel) a
set_option maxRecDepth 20000 in
set_option maxHeartbeats 4000000 in
theorem subs_fn : Sp Try.prog 36 [] [] (Is (.agg (arB 512 TB))) := by
  refine Sp.enter Try.func36 rfl _ Try.ntmps36 rfl (fun w0 R0 => ?_)
  refine AW.seq ?_
  refine AW.region ?_
  refine AO.opB (O.alloc rfl (by exact zeros_arB _) (by exact List.length_replicate)) rfl rfl rfl ?_
  intro B1
  refine AO.nil ?_
  refine AQ.thenN ?_
  refine AW.seq ?_
  refine AW.region ?_
  refine AO.opB (O.alloc rfl (by exact zeros_arB _) (by exact List.length_replicate)) rfl rfl rfl ?_
  intro B2
  refine AO.nil ?_
  refine AQ.thenN ?_
  refine AW.seq ?_
  refine AW.region ?_
  refine AO.op (O.assign rfl rfl) rfl rfl rfl ?_
  refine AO.nil ?_
  refine AQ.thenN ?_
  refine AW.seq ?_
  refine AW.seq ?_
  refine AW.region ?_
  refine AO.op (O.move rfl rfl) rfl rfl rfl ?_
  refine AO.nil ?_
  refine AQ.thenN ?_
  refine AW.block ?_
  have e0 : arB 256 (fun _ => 0) = arB 256 (fun q => if q < 0 then pw q else 0) := arB_congr fun q _ => (if_neg (by omega)).symm
  rw [e0]
  refine AW.loopK [(0, _), (1, _)] (fun nn E H => ∃ (i : Nat), (i ≤ 255) ∧ nn = 255 - i ∧ E = [(2, by8 (pw i)), (10, .val (.int .i64 (i : Int)))] ∧ H = [.blk B2 51 256 (arB 256 (fun q => if q < i then pw q else 0)), .blk B1 53 512 (arB 512 fun _ => 0)]) _ (⟨0, by omega, rfl, rfl, rfl⟩) (by repeat (first | exact envNil | refine envCons rfl ?_)) (by repeat (first | exact envNil | refine envCons rfl ?_)) (by repeat (first | exact subPnil | refine subPcons 0 rfl ?_)) ?_
  rintro nn E H ⟨i, hi, rfl, rfl, rfl⟩
  dsimp only [List.cons_append, List.nil_append]
  refine AW.seq ?_
  refine AW.region ?_
  refine AO.op (O.lss rfl rfl rfl (by rfl)) rfl rfl rfl ?_
  refine AO.nil ?_
  refine AQ.thenN ?_
  refine AW.seq ?_
  refine AW.split rfl (fun h => ?_) (fun h => ?_) <;> (try simp only [decide_eq_true_eq, decide_eq_false_iff_not, beq_iff_eq, beq_eq_false_iff_ne, bne_iff_ne, bne_eq_false_iff_eq, Bool.not_eq_true', Bool.not_eq_false', Bool.not_eq_true, Bool.not_eq_false, ne_eq, Int.not_lt, Int.not_le, Bool.and_eq_true, Bool.or_eq_true, Bool.or_eq_false_iff, Bool.and_eq_false_imp, strOf_toList, Decidable.not_not] at h)
  · skip
    refine AW.skip ?_
    refine AQ.thenN ?_
    refine AW.seq ?_
    refine AW.block ?_
    refine AW.seq ?_
    refine AW.region ?_
    refine AO.op (O.move rfl rfl) rfl rfl rfl ?_
    refine AO.op (O.assign rfl rfl) rfl rfl rfl ?_
    refine AO.nil ?_
    refine AQ.thenN ?_
    refine AW.seq ?_
    refine AW.region ?_
    refine AO.op (O.move rfl rfl) rfl rfl rfl ?_
    refine AO.op (O.move rfl rfl) rfl rfl rfl ?_
    refine AO.op (O.idxL rfl rfl rfl (by exact ⟨by omega, by omega⟩)) rfl rfl rfl ?_
    (refine AO.store (i := 0) rfl rfl rfl rfl rfl rfl (by rfl) (by rfl) (by exact Nat.ble_eq_true_of_le (by rw [arB_len]; omega)) (by exact arB_set (k := i) (by omega) _ (by omega)) (by (dsimp only [List.set, List.append, List.cons_append, List.nil_append, splice, ofConst, AV.cells, List.map, List.map_cons, List.map_nil, List.take, List.drop, Nat.zero_add, Nat.add_zero, Nat.reduceAdd, Nat.reduceMul, Nat.zero_mul, Value.cells, List.toList_toArray, zerosA, List.replicate, List.flatten, List.append_nil]; done)) ?_)
    refine AO.nil ?_
    refine AQ.thenN ?_
    refine AW.region ?_
    refine AO.op (O.move rfl rfl) rfl rfl rfl ?_
    refine AO.op (O.move rfl rfl) rfl rfl rfl ?_
    refine AO.op (O.call rfl Try.func52 rfl rfl rfl (dbl_fn _)) rfl rfl rfl ?_
    refine AO.op (O.xor_ rfl rfl rfl xorU8) rfl rfl rfl ?_
    refine AO.op (O.assign rfl rfl) rfl rfl rfl ?_
    refine AO.nil ?_
    refine AQ.blockN ?_
    refine AQ.thenN ?_
    refine AW.region ?_
    refine AO.op (O.add rfl rfl rfl (by exact wI64 (by omega))) rfl rfl rfl ?_
    refine AO.op (O.move rfl rfl) rfl rfl rfl ?_
    refine AO.nil ?_
    have e1 : arB 256 (fun q => if q = i then pw i else if q < i then pw q else 0) = arB 256 (fun q => if q < i + 1 then pw q else 0) := arB_congr fun q _ => by
      rcases Nat.lt_trichotomy q i with h1 | rfl | h1
      · rw [if_neg (by omega), if_pos h1, if_pos (by omega)]
      · rw [if_pos rfl, if_pos (by omega)]
      · rw [if_neg (by omega), if_neg (by omega), if_neg (by omega)]
    rw [← pw_step i (by omega), e1]
    refine AQ.loopKN _ _ _ (by omega) (⟨i + 1, by omega, rfl, rfl, rfl⟩) (by repeat (first | exact envNil | refine envCons rfl ?_)) (by repeat (first | exact envNil | refine envCons rfl ?_)) (by repeat (first | exact subPnil | refine subPcons 0 rfl ?_))
  · skip
    obtain rfl : i = 255 := by omega
    refine AW.exit ?_
    refine AQ.thenX ?_
    refine AQ.loopX ?_
    refine AQ.blockX rfl ?_
    refine AQ.thenN ?_
    refine AW.seq ?_
    refine AW.region ?_
    refine AO.opB (O.alloc rfl (by exact zeros_arB _) (by exact List.length_replicate)) rfl rfl rfl ?_
    intro B3
    refine AO.nil ?_
    refine AQ.thenN ?_
    refine AW.seq ?_
    refine AW.seq ?_
    refine AW.region ?_
    refine AO.op (O.move rfl rfl) rfl rfl rfl ?_
    refine AO.nil ?_
    refine AQ.thenN ?_
    refine AW.block ?_
    obtain ⟨PB, hPB⟩ : ∃ PB, PB = arB 256 (fun q => if q < 255 then pw q else 0) := ⟨_, rfl⟩
    have hpg : ∀ k, k < 255 → PB[k]? = some (by8 (pw k)) := fun k hk => by rw [hPB, arB_get (k := k) (by omega) rfl, if_pos hk]
    rw [← hPB]
    have e2 : arB 512 (fun _ => 0) = arB 512 (tT 0) := arB_congr fun q _ => by unfold tT; simp
    rw [e2]
    refine AW.loopK [(0, _), (1, _), (4, _)] (fun nn E H => ∃ (i : Nat), (i ≤ 256) ∧ nn = 256 - i ∧ E = [(21, .val (.int .i64 (i : Int)))] ∧ H = [.blk B3 53 512 (arB 512 (tT i)), .blk B2 51 256 PB, .blk B1 53 512 (arB 512 (tT 0))]) _ (⟨0, by omega, rfl, rfl, rfl⟩) (by repeat (first | exact envNil | refine envCons rfl ?_)) (by repeat (first | exact envNil | refine envCons rfl ?_)) (by repeat (first | exact subPnil | refine subPcons 0 rfl ?_)) ?_
    rintro nn E H ⟨i, hi2, rfl, rfl, rfl⟩
    dsimp only [List.cons_append, List.nil_append]
    refine AW.seq ?_
    refine AW.region ?_
    refine AO.op (O.lss rfl rfl rfl (by rfl)) rfl rfl rfl ?_
    refine AO.nil ?_
    refine AQ.thenN ?_
    refine AW.seq ?_
    refine AW.split rfl (fun h2 => ?_) (fun h2 => ?_) <;> (try simp only [decide_eq_true_eq, decide_eq_false_iff_not, beq_iff_eq, beq_eq_false_iff_ne, bne_iff_ne, bne_eq_false_iff_eq, Bool.not_eq_true', Bool.not_eq_false', Bool.not_eq_true, Bool.not_eq_false, ne_eq, Int.not_lt, Int.not_le, Bool.and_eq_true, Bool.or_eq_true, Bool.or_eq_false_iff, Bool.and_eq_false_imp, strOf_toList, Decidable.not_not] at h2)
    · skip
      have hAl := (tA i).toNat_lt
      have hCl := (tC i 4).toNat_lt
      refine AW.skip ?_
      refine AQ.thenN ?_
      refine AW.seq ?_
      refine AW.block ?_
      refine AW.seq ?_
      refine AW.region ?_
      refine AO.op (O.move rfl rfl) rfl rfl rfl ?_
      refine AO.op (O.assign rfl rfl) rfl rfl rfl ?_
      refine AO.nil ?_
      refine AQ.thenN ?_
      refine AW.seq ?_
      refine AW.region ?_
      refine AO.op (O.assign rfl rfl) rfl rfl rfl ?_
      refine AO.op (O.assign rfl rfl) rfl rfl rfl ?_
      refine AO.nil ?_
      refine AQ.thenN ?_
      refine AW.seq ?_
      refine AW.seq ?_
      refine AW.region ?_
      refine AO.op (O.move rfl rfl) rfl rfl rfl ?_
      refine AO.op (O.lss rfl rfl rfl (by rfl)) rfl rfl rfl ?_
      refine AO.nil ?_
      refine AQ.thenN ?_
      refine AW.joinK (True) [(0, _), (1, _), (4, _), (21, _)] [(6, by8 (tA i)), (7, by8 (tB i))] [.blk B3 53 512 (arB 512 (tT i)), .blk B2 51 256 PB, .blk B1 53 512 (arB 512 (tT 0))] rfl (by repeat (first | exact envNil | refine envCons rfl ?_)) (fun h24 => ?_) (fun h24 => ?_) (fun hj => ?_) <;> try (try simp only [decide_eq_true_eq, decide_eq_false_iff_not, beq_iff_eq, beq_eq_false_iff_ne, bne_iff_ne, bne_eq_false_iff_eq, Bool.not_eq_true', Bool.not_eq_false', Bool.not_eq_true, Bool.not_eq_false, ne_eq, Int.not_lt, Int.not_le, Bool.and_eq_true, Bool.or_eq_true, Bool.or_eq_false_iff, Bool.and_eq_false_imp, strOf_toList, Decidable.not_not] at h24)
      · skip
        have hg1 : PB[0 + (i : Int).toNat * 1]? = some (by8 (tA i)) := by
          rw [show 0 + (i : Int).toNat * 1 = i by omega, hpg i (by omega), tA, if_pos (by omega)]
        have hg2 : PB[0 + ((255 - (i : Int)) % 255).toNat * 1]? = some (by8 (tB i)) := by
          rw [show 0 + ((255 - (i : Int)) % 255).toNat * 1 = (255 - i) % 255 by omega, hpg _ (by omega), tB, if_pos (by omega)]
        refine AW.regionD 10 (by kernel_rfl) (by kernel_rfl) ?_
        simp only [List.take_succ_cons, List.take_zero, List.drop_succ_cons, List.drop_zero]
        refine FA.op (O.move rfl rfl) rfl rfl rfl rfl ?_
        refine FA.op (O.idxL rfl rfl rfl (by exact ⟨by omega, by omega⟩)) rfl rfl rfl rfl ?_
        refine FA.op (O.load rfl rfl (by repeat (first | exact List.Mem.head _ | refine List.Mem.tail _ ?_)) (by assumption)) rfl rfl rfl rfl ?_
        refine FA.op (O.move rfl rfl) rfl rfl rfl rfl ?_
        refine FA.op (O.sub rfl rfl rfl (by exact wI64 (by omega))) rfl rfl rfl rfl ?_
        refine FA.op (O.rem rfl rfl rfl (by omega) (tmodE (by omega))) rfl rfl rfl rfl ?_
        refine FA.op (O.idxL rfl rfl rfl (by exact ⟨by omega, by omega⟩)) rfl rfl rfl rfl ?_
        refine FA.op (O.load rfl rfl (by repeat (first | exact List.Mem.head _ | refine List.Mem.tail _ ?_)) (by assumption)) rfl rfl rfl rfl ?_
        refine FA.op (O.assign rfl rfl) rfl rfl rfl rfl ?_
        refine FA.op (O.assign rfl rfl) rfl rfl rfl rfl ?_
        refine FA.nil ?_
        simp only [chosen, List.nil_append, List.cons_append, List.append_nil]
        refine AO.nil ?_
        refine AQ.midK0 (trivial) (by repeat (first | exact envNil | refine envCons rfl ?_)) (by repeat (first | exact subPnil | refine subPcons 0 rfl ?_))
      · skip
        have hA : ofConst (.int .u8 0) = by8 (tA i) := by rw [tA, if_neg (by omega)]; rfl
        have hB : ofConst (.int .u8 0) = by8 (tB i) := by rw [tB, if_neg (by omega)]; rfl
        refine AW.skip ?_
        refine AQ.g ?_
        refine G.re 6 (by8 (tA i)) (congrArg some hA) ?_
        refine AQ.u ?_
        refine AQ.g ?_
        refine G.re 7 (by8 (tB i)) (congrArg some hB) ?_
        refine AQ.u ?_
        refine AQ.midK (trivial) (by repeat (first | exact envNil | refine envCons rfl ?_)) (by repeat (first | exact envNil | refine envCons rfl ?_)) (by repeat (first | exact subPnil | refine subPcons 0 rfl ?_))
      · dsimp only [List.cons_append, List.nil_append]
        refine AQ.thenN ?_
        refine AW.seq ?_
        refine AW.region ?_
        refine AO.op (O.move rfl rfl) rfl rfl rfl ?_
        refine AO.op (O.xor_ rfl rfl rfl (xor99 _)) rfl rfl rfl ?_
        refine AO.op (O.assign rfl rfl) rfl rfl rfl ?_
        refine AO.nil ?_
        refine AQ.thenN ?_
        refine AW.seq ?_
        refine AW.seq ?_
        refine AW.region ?_
        refine AO.op (O.assign rfl rfl) rfl rfl rfl ?_
        refine AO.nil ?_
        refine AQ.thenN ?_
        refine AW.block ?_
        refine AW.loopK [(0, _), (1, _), (4, _), (6, _), (7, _), (21, _)] (fun nn E H => ∃ (k : Nat), (k ≤ 4) ∧ nn = 4 - k ∧ E = [(8, by8 (tC i k)), (9, .val (.int .i64 ((k + 1 : Nat) : Int)))] ∧ H = [.blk B3 53 512 (arB 512 (tT i)), .blk B2 51 256 PB, .blk B1 53 512 (arB 512 (tT 0))]) _ (⟨0, by omega, rfl, rfl, rfl⟩) (by repeat (first | exact envNil | refine envCons rfl ?_)) (by repeat (first | exact envNil | refine envCons rfl ?_)) (by repeat (first | exact subPnil | refine subPcons 0 rfl ?_)) ?_
        rintro nn E H ⟨k, hk, rfl, rfl, rfl⟩
        dsimp only [List.cons_append, List.nil_append]
        refine AW.seq ?_
        refine AW.seq ?_
        refine AW.region ?_
        refine AO.op (O.move rfl rfl) rfl rfl rfl ?_
        refine AO.op (O.leq rfl rfl rfl (by rfl)) rfl rfl rfl ?_
        refine AO.nil ?_
        refine AQ.thenN ?_
        refine AW.split rfl (fun h4 => ?_) (fun h4 => ?_) <;> (try simp only [decide_eq_true_eq, decide_eq_false_iff_not, beq_iff_eq, beq_eq_false_iff_ne, bne_iff_ne, bne_eq_false_iff_eq, Bool.not_eq_true', Bool.not_eq_false', Bool.not_eq_true, Bool.not_eq_false, ne_eq, Int.not_lt, Int.not_le, Bool.and_eq_true, Bool.or_eq_true, Bool.or_eq_false_iff, Bool.and_eq_false_imp, strOf_toList, Decidable.not_not] at h4)
        · skip
          refine AW.skip ?_
          refine AQ.thenN ?_
          refine AW.seq ?_
          refine AW.block ?_
          refine AW.region ?_
          refine AO.op (O.move rfl rfl) rfl rfl rfl ?_
          refine AO.op (O.move rfl rfl) rfl rfl rfl ?_
          refine AO.op (O.move rfl rfl) rfl rfl rfl ?_
          refine AO.op (O.call rfl Try.func53 rfl rfl rfl (rot8_fn _ (k + 1) (by omega))) rfl rfl rfl ?_
          refine AO.op (O.xor_ rfl rfl rfl xorU8) rfl rfl rfl ?_
          refine AO.op (O.assign rfl rfl) rfl rfl rfl ?_
          refine AO.nil ?_
          refine AQ.blockN ?_
          refine AQ.thenN ?_
          refine AW.region ?_
          refine AO.op (O.move rfl rfl) rfl rfl rfl ?_
          refine AO.op (O.add rfl rfl rfl (by exact wI64 (by omega))) rfl rfl rfl ?_
          refine AO.op (O.assign rfl rfl) rfl rfl rfl ?_
          refine AO.nil ?_
          refine AQ.loopKN _ _ _ (by omega) (⟨k + 1, by omega, rfl, rfl, rfl⟩) (by repeat (first | exact envNil | refine envCons rfl ?_)) (by repeat (first | exact envNil | refine envCons rfl ?_)) (by repeat (first | exact subPnil | refine subPcons 0 rfl ?_))
        · skip
          obtain rfl : k = 4 := by omega
          refine AW.exit ?_
          refine AQ.thenX ?_
          refine AQ.loopX ?_
          refine AQ.blockX rfl ?_
          refine AQ.thenN ?_
          refine AW.region ?_
          refine AO.op (O.move rfl rfl) rfl rfl rfl ?_
          refine AO.op (O.move rfl rfl) rfl rfl rfl ?_
          refine AO.op (O.move rfl rfl) rfl rfl rfl ?_
          refine AO.op (O.move rfl rfl) rfl rfl rfl ?_
          refine AO.op (O.fieldAddr rfl rfl) rfl rfl rfl ?_
          refine AO.op (O.idxL rfl rfl rfl (by exact ⟨by omega, by omega⟩)) rfl rfl rfl ?_
          (refine AO.store (i := 0) rfl rfl rfl rfl rfl rfl (by rfl) (by rfl) (by exact Nat.ble_eq_true_of_le (by rw [arB_len]; omega)) (by exact arB_set (k := (tA i).toNat) (by omega) _ (by omega)) (by (dsimp only [List.set, List.append, List.cons_append, List.nil_append, splice, ofConst, AV.cells, List.map, List.map_cons, List.map_nil, List.take, List.drop, Nat.zero_add, Nat.add_zero, Nat.reduceAdd, Nat.reduceMul, Nat.zero_mul, Value.cells, List.toList_toArray, zerosA, List.replicate, List.flatten, List.append_nil]; done)) ?_)
          refine AO.op (O.fieldAddr rfl rfl) rfl rfl rfl ?_
          refine AO.op (O.idxL rfl rfl rfl (by exact ⟨by omega, by omega⟩)) rfl rfl rfl ?_
          (refine AO.store (i := 0) rfl rfl rfl rfl rfl rfl (by rfl) (by rfl) (by exact Nat.ble_eq_true_of_le (by rw [arB_len]; omega)) (by exact arB_set (k := 256 + (tC i 4).toNat) (by omega) _ (by omega)) (by (dsimp only [List.set, List.append, List.cons_append, List.nil_append, splice, ofConst, AV.cells, List.map, List.map_cons, List.map_nil, List.take, List.drop, Nat.zero_add, Nat.add_zero, Nat.reduceAdd, Nat.reduceMul, Nat.zero_mul, Value.cells, List.toList_toArray, zerosA, List.replicate, List.flatten, List.append_nil]; done)) ?_)
          refine AO.nil ?_
          refine AQ.blockN ?_
          refine AQ.thenN ?_
          refine AW.region ?_
          refine AO.op (O.add rfl rfl rfl (by exact wI64 (by omega))) rfl rfl rfl ?_
          refine AO.op (O.move rfl rfl) rfl rfl rfl ?_
          refine AO.nil ?_
          have e4 : arB 512 (fun q => if q = 256 + (tC i 4).toNat then tA i else if q = (tA i).toNat then tC i 4 else tT i q) = arB 512 (tT (i + 1)) := arB_congr fun q hq => tT_step (by omega) q hq
          rw [e4]
          refine AQ.loopKN _ _ _ (by omega) (⟨i + 1, by omega, rfl, rfl, rfl⟩) (by repeat (first | exact envNil | refine envCons rfl ?_)) (by repeat (first | exact envNil | refine envCons rfl ?_)) (by repeat (first | exact subPnil | refine subPcons 0 rfl ?_))
    · skip
      obtain rfl : i = 256 := by omega
      have e5 : arB 512 (tT 256) = arB 512 TB := arB_congr fun q _ => tT_all q
      rw [e5]
      refine AW.exit ?_
      refine AQ.thenX ?_
      refine AQ.loopX ?_
      refine AQ.blockX rfl ?_
      refine AQ.thenN ?_
      refine AW.seq ?_
      refine AW.region ?_
      refine AO.op (O.loadK rfl rfl (by repeat (exact List.Mem.head _)) (by exact List.take_of_length_le (Nat.le_of_eq (arB_len _ _))) (by exact arB_len _ _)) rfl rfl rfl ?_
      (refine AO.store (i := 2) rfl rfl rfl rfl rfl rfl (by exact arB_one _ _) (by exact arB_len _ _) (by exact Nat.ble_eq_true_of_le (Nat.le_of_eq (arB_len _ _).symm)) (by exact splice_arB (arB_len _ _)) (by (dsimp only [List.set, List.append, List.cons_append, List.nil_append, splice, ofConst, AV.cells, List.map, List.map_cons, List.map_nil, List.take, List.drop, Nat.zero_add, Nat.add_zero, Nat.reduceAdd, Nat.reduceMul, Nat.zero_mul, Value.cells, List.toList_toArray, zerosA, List.replicate, List.flatten, List.append_nil]; done)) ?_)
      refine AO.nil ?_
      refine AQ.thenN ?_
      refine AW.ret ?_
      refine AQ.retCell (ys := arB 512 TB) rfl rfl (by repeat (first | exact List.Mem.head _ | refine List.Mem.tail _ ?_)) (List.take_of_length_le (Nat.le_of_eq (arB_len _ _))) (arB_len _ _) ⟨_, List.nil_sublist _, .nil⟩ ⟨rfl, rfl⟩
/-! the reference's -/
def rT (i q : Nat) : UInt8 := if q = 0 then 99 else if lg (UInt8.ofNat q) < i then sb (UInt8.ofNat q) else 0
def RB (q : Nat) : UInt8 := sb (UInt8.ofNat q)
end Go.Proofs.Ytochjihddnkhcaa.By

namespace Go.Proofs.Ytochjihddnkhcaa.By
open Go.RowKit L A
set_option linter.unusedVariables false
set_option linter.unusedSimpArgs false
attribute [local irreducible] AW AQ AO
def rcF : Nat → UInt8
  | 0 => 1
  | k + 1 => dbl (rcF k)
def wS (key : Nat → UInt8) (q : Nat) : UInt8 :=
  if h : q < 16 then key q else
    (if q % 16 < 4 then sb (wS key (q - q % 16 - 4 + (q % 16 + 1) % 4)) ^^^ (if q % 16 = 0 then rcF (q / 16 - 1) else 0) else wS key (q - 4)) ^^^ wS key (q - 16)
termination_by q
decreasing_by all_goals omega
theorem wS_key {key : Nat → UInt8} {q : Nat} (h : q < 16) : wS key q = key q := by rw [wS, dif_pos h]
theorem wS_ge {key : Nat → UInt8} {q : Nat} (h : ¬ q < 16) : wS key q = (if q % 16 < 4 then sb (wS key (q - q % 16 - 4 + (q % 16 + 1) % 4)) ^^^ (if q % 16 = 0 then rcF (q / 16 - 1) else 0) else wS key (q - 4)) ^^^ wS key (q - 16) := by
  rw [wS, dif_neg h]
/-- What is xored to the byte m of a round's key. -/
def zS (key : Nat → UInt8) (i m : Nat) : UInt8 := if m < 4 then sb (wS key (16 * i - 4 + (m + 1) % 4)) ^^^ (if m = 0 then rcF (i - 1) else 0) else wS key (16 * i + m - 4)
theorem wS_eq (key : Nat → UInt8) {i m : Nat} (hi : 1 ≤ i) (hm : m < 16) : wS key (16 * i + m) = zS key i m ^^^ wS key (16 * (i - 1) + m) := by
  rw [wS, dif_neg (by omega)]
  have h1 : (16 * i + m) % 16 = m := by omega
  have h2 : (16 * i + m) / 16 = i := by omega
  rw [h1, h2, show 16 * i + m - 16 = 16 * (i - 1) + m by omega, show 16 * i + m - m - 4 = 16 * i - 4 by omega, zS]
def cut (key : Nat → UInt8) (n q : Nat) : UInt8 := if q < n then wS key q else 0
theorem cut_get {key : Nat → UInt8} {n k j : Nat} (h : k < n) (h2 : n ≤ 176) (hj : j = k) : (arB 176 (cut key n))[j]? = some (by8 (wS key k)) := by
  rw [arB_get (k := k) (by omega) hj, cut, if_pos h]
def tz (key : Nat → UInt8) (i k j : Nat) : UInt8 := zS key i (k + (j + 4 - k % 4) % 4)
theorem tz_at (key : Nat → UInt8) (i k : Nat) : tz key i k (k % 4) = zS key i k := by
  unfold tz; congr 1; omega
theorem tz_get {key : Nat → UInt8} {i k j : Nat} (hj : j = k % 4) : (arB 4 (tz key i k))[j]? = some (by8 (zS key i k)) := by
  rw [arB_get (k := k % 4) (by omega) hj, tz_at]
theorem tz_step {key : Nat → UInt8} {i k : Nat} (q : Nat) (hq : q < 4) : (if q = k % 4 then wS key (16 * i + k) else tz key i k q) = tz key i (k + 1) q := by
  unfold tz
  by_cases h : q = k % 4
  · rw [if_pos h, zS, if_neg (by omega)]
    congr 1; omega
  · rw [if_neg h]; congr 1; omega
theorem xor0 (a : UInt8) : a ^^^ 0 = a := UInt8.xor_zero
theorem copyKey (key : Nat → UInt8) : splice (arB 176 fun _ => 0) 0 ((arB 16 key).take 16) = arB 176 (cut key 16) := by
  rw [List.take_of_length_le (Nat.le_of_eq (arB_len _ _)), arB_splice (by omega)]
  refine arB_congr fun q hq => ?_
  unfold cut
  by_cases h : q < 16
  · rw [if_pos (by omega), if_pos h, wS_key h]; rfl
  · rw [if_neg (by omega), if_neg h]
set_option maxRecDepth 20000 in
set_option maxHeartbeats 4000000 in
theorem sched_fn (key : Nat → UInt8) (xs : List AV) (hx : BoxOf xs 0 sb) : Sp Try.prog 37 [.rp xs 0, .ro false 16 (arB 16 key)] [] (Is (.agg (arB 176 (wS key)))) := by
  refine Sp.enter Try.func37 rfl _ Try.ntmps37 rfl (fun w0 R0 => ?_)
  refine AW.seq ?_
  refine AW.region ?_
  refine AO.opB (O.alloc rfl (by exact zeros_arB _) (by exact List.length_replicate)) rfl rfl rfl ?_
  intro B1
  refine AO.nil ?_
  refine AQ.thenN ?_
  refine AW.seq ?_
  refine AW.region ?_
  refine AO.op (O.idxL rfl rfl rfl (by exact ⟨by omega, by omega⟩)) rfl rfl rfl ?_
  refine AO.op (O.sliceArrK (p := 0) rfl rfl rfl rfl (by rfl) (by rfl) ⟨by omega, by omega⟩ (by omega)) rfl rfl rfl ?_
  refine AO.op (O.move rfl rfl) rfl rfl rfl ?_
  (refine AO.copyIn (i := 0) rfl rfl rfl rfl (by exact arB_len _ _) (by exact arB_one _ _) rfl (by rw [arB_len]; omega) (by exact copyKey key) rfl rfl (fun q h => by cases h; exact Nat.le_of_ble_eq_true rfl) ?_)
  rintro _ rfl
  dsimp only [List.set]
  refine AO.nil ?_
  refine AQ.thenN ?_
  refine AW.seq ?_
  refine AW.region ?_
  refine AO.op (O.assign rfl rfl) rfl rfl rfl ?_
  refine AO.nil ?_
  refine AQ.thenN ?_
  refine AW.seq ?_
  refine AW.seq ?_
  refine AW.region ?_
  refine AO.op (O.assign rfl rfl) rfl rfl rfl ?_
  refine AO.nil ?_
  refine AQ.thenN ?_
  refine AW.block ?_
  refine AW.loopK [(0, _), (4, _)] (fun nn E H => ∃ (i : Nat), (1 ≤ i ∧ i ≤ 11) ∧ nn = 11 - i ∧ E = [(5, by8 (rcF (i - 1))), (6, .val (.int .i64 (i : Int)))] ∧ H = [.blk B1 57 176 (arB 176 (cut key (16 * i)))]) _ (⟨1, by omega, rfl, rfl, rfl⟩) (by repeat (first | exact envNil | refine envCons rfl ?_)) (by repeat (first | exact envNil | refine envCons rfl ?_)) (by repeat (first | exact subPnil | refine subPcons 0 rfl ?_)) ?_
  rintro nn E H ⟨i, hi, rfl, rfl, rfl⟩
  dsimp only [List.cons_append, List.nil_append]
  refine AW.seq ?_
  refine AW.seq ?_
  refine AW.region ?_
  refine AO.op (O.move rfl rfl) rfl rfl rfl ?_
  refine AO.op (O.lss rfl rfl rfl (by rfl)) rfl rfl rfl ?_
  refine AO.nil ?_
  refine AQ.thenN ?_
  refine AW.split rfl (fun h => ?_) (fun h => ?_) <;> (try simp only [decide_eq_true_eq, decide_eq_false_iff_not, beq_iff_eq, beq_eq_false_iff_ne, bne_iff_ne, bne_eq_false_iff_eq, Bool.not_eq_true', Bool.not_eq_false', Bool.not_eq_true, Bool.not_eq_false, ne_eq, Int.not_lt, Int.not_le, Bool.and_eq_true, Bool.or_eq_true, Bool.or_eq_false_iff, Bool.and_eq_false_imp, strOf_toList, Decidable.not_not] at h)
  · skip
    have hi' : i < 11 := by omega
    have hlast : ∀ j : Nat, j < 4 → (arB 176 (cut key (16 * i)))[0 + ((i : Int) - 1).toNat * 16 + 12 * 1 + j * 1]? = some (by8 (wS key (16 * i - 4 + j))) := fun j hj => cut_get (by omega) (by omega) (by omega)
    have hl0 := hlast 0 (by omega)
    have hl1 := hlast 1 (by omega)
    have hl2 := hlast 2 (by omega)
    have hl3 := hlast 3 (by omega)
    refine AW.skip ?_
    refine AQ.thenN ?_
    refine AW.seq ?_
    refine AW.block ?_
    refine AW.seq ?_
    refine AW.region ?_
    refine AO.op (O.move rfl rfl) rfl rfl rfl ?_
    refine AO.op (O.sub rfl rfl rfl (by exact wI64 (by omega))) rfl rfl rfl ?_
    refine AO.op (O.idxL rfl rfl rfl (by exact ⟨by omega, by omega⟩)) rfl rfl rfl ?_
    refine AO.op (O.sliceArrK (p := 12) rfl rfl rfl rfl (by rfl) (by rfl) ⟨by omega, by omega⟩ (by omega)) rfl rfl rfl ?_
    refine AO.op (O.assign rfl rfl) rfl rfl rfl ?_
    refine AO.nil ?_
    refine AQ.thenN ?_
    refine AW.seq ?_
    refine AW.regionD 36 (by kernel_rfl) (by kernel_rfl) ?_
    simp only [List.take_succ_cons, List.take_zero, List.drop_succ_cons, List.drop_zero]
    refine FA.op (O.move rfl rfl) rfl rfl rfl rfl ?_
    refine FA.op (O.move rfl rfl) rfl rfl rfl rfl ?_
    refine FA.op (O.idxV rfl rfl rfl (by exact ⟨by omega, by omega⟩)) rfl rfl rfl rfl ?_
    refine FA.op (O.load rfl rfl (by repeat (exact List.Mem.head _)) (by exact hl1)) rfl rfl rfl rfl ?_
    refine FA.op (O.nilCheckR rfl rfl) rfl rfl rfl rfl ?_
    refine FA.op (O.fieldAddrR rfl rfl) rfl rfl rfl rfl ?_
    refine FA.op (O.idxLR rfl rfl rfl (by exact u8ix _)) rfl rfl rfl rfl ?_
    refine FA.op (O.loadR rfl rfl (by exact box_at1 hx _)) rfl rfl rfl rfl ?_
    refine FA.op (O.move rfl rfl) rfl rfl rfl rfl ?_
    refine FA.op (O.xor_ rfl rfl rfl xorU8) rfl rfl rfl rfl ?_
    refine FA.op (O.move rfl rfl) rfl rfl rfl rfl ?_
    refine FA.op (O.move rfl rfl) rfl rfl rfl rfl ?_
    refine FA.op (O.idxV rfl rfl rfl (by exact ⟨by omega, by omega⟩)) rfl rfl rfl rfl ?_
    refine FA.op (O.load rfl rfl (by repeat (exact List.Mem.head _)) (by exact hl2)) rfl rfl rfl rfl ?_
    refine FA.op (O.nilCheckR rfl rfl) rfl rfl rfl rfl ?_
    refine FA.op (O.fieldAddrR rfl rfl) rfl rfl rfl rfl ?_
    refine FA.op (O.idxLR rfl rfl rfl (by exact u8ix _)) rfl rfl rfl rfl ?_
    refine FA.op (O.loadR rfl rfl (by exact box_at1 hx _)) rfl rfl rfl rfl ?_
    refine FA.op (O.move rfl rfl) rfl rfl rfl rfl ?_
    refine FA.op (O.move rfl rfl) rfl rfl rfl rfl ?_
    refine FA.op (O.idxV rfl rfl rfl (by exact ⟨by omega, by omega⟩)) rfl rfl rfl rfl ?_
    refine FA.op (O.load rfl rfl (by repeat (exact List.Mem.head _)) (by exact hl3)) rfl rfl rfl rfl ?_
    refine FA.op (O.nilCheckR rfl rfl) rfl rfl rfl rfl ?_
    refine FA.op (O.fieldAddrR rfl rfl) rfl rfl rfl rfl ?_
    refine FA.op (O.idxLR rfl rfl rfl (by exact u8ix _)) rfl rfl rfl rfl ?_
    refine FA.op (O.loadR rfl rfl (by exact box_at1 hx _)) rfl rfl rfl rfl ?_
    refine FA.op (O.move rfl rfl) rfl rfl rfl rfl ?_
    refine FA.op (O.move rfl rfl) rfl rfl rfl rfl ?_
    refine FA.op (O.idxV rfl rfl rfl (by exact ⟨by omega, by omega⟩)) rfl rfl rfl rfl ?_
    refine FA.op (O.load rfl rfl (by repeat (exact List.Mem.head _)) (by exact hl0)) rfl rfl rfl rfl ?_
    refine FA.op (O.nilCheckR rfl rfl) rfl rfl rfl rfl ?_
    refine FA.op (O.fieldAddrR rfl rfl) rfl rfl rfl rfl ?_
    refine FA.op (O.idxLR rfl rfl rfl (by exact u8ix _)) rfl rfl rfl rfl ?_
    refine FA.op (O.loadR rfl rfl (by exact box_at1 hx _)) rfl rfl rfl rfl ?_
    refine FA.op (O.build rfl rfl rfl (by rfl)) rfl rfl rfl rfl ?_
    (refine FA.opN (O.alloc rfl (by (dsimp only [List.set, List.append, List.cons_append, List.nil_append, splice, ofConst, AV.cells, List.map, List.map_cons, List.map_nil, List.take, List.drop, Nat.zero_add, Nat.add_zero, Nat.reduceAdd, Nat.reduceMul, Nat.zero_mul, Value.cells, List.toList_toArray, zerosA, List.replicate, List.flatten, List.append_nil]; done)) (by rfl)) rfl rfl rfl rfl ?_)
    refine FA.nil ?_
    simp only [chosen, List.nil_append, List.cons_append, List.append_nil]
    rintro _ _ ⟨B2, rfl, rfl⟩
    simp only [List.cons_append, List.nil_append]
    (refine AO.store (i := 0) rfl rfl rfl rfl rfl rfl (by rfl) (by rfl) (by rfl) (by (dsimp only [List.set, List.append, List.cons_append, List.nil_append, splice, ofConst, AV.cells, List.map, List.map_cons, List.map_nil, List.take, List.drop, Nat.zero_add, Nat.add_zero, Nat.reduceAdd, Nat.reduceMul, Nat.zero_mul, Value.cells, List.toList_toArray, zerosA, List.replicate, List.flatten, List.append_nil]; done)) (by (dsimp only [List.set, List.append, List.cons_append, List.nil_append, splice, ofConst, AV.cells, List.map, List.map_cons, List.map_nil, List.take, List.drop, Nat.zero_add, Nat.add_zero, Nat.reduceAdd, Nat.reduceMul, Nat.zero_mul, Value.cells, List.toList_toArray, zerosA, List.replicate, List.flatten, List.append_nil]; done)) ?_)
    refine AO.nil ?_
    refine AQ.thenN ?_
    refine AW.seq ?_
    refine AW.region ?_
    refine AO.op (O.move rfl rfl) rfl rfl rfl ?_
    refine AO.op (O.call rfl Try.func52 rfl rfl rfl (dbl_fn _)) rfl rfl rfl ?_
    refine AO.op (O.assign rfl rfl) rfl rfl rfl ?_
    refine AO.nil ?_
    refine AQ.thenN ?_
    refine AW.seq ?_
    refine AW.region ?_
    refine AO.op (O.move rfl rfl) rfl rfl rfl ?_
    refine AO.nil ?_
    refine AQ.thenN ?_
    refine AW.block ?_
    have hz : [AV.val (.int .u8 ((sb (wS key (16 * i - 4 + 1)) ^^^ rcF (i - 1)).toNat : Int)), by8 (sb (wS key (16 * i - 4 + 2))), by8 (sb (wS key (16 * i - 4 + 3))), by8 (sb (wS key (16 * i - 4)))] = arB 4 (tz key i 0) := by
      show _ = [by8 (zS key i 0), by8 (zS key i 1), by8 (zS key i 2), by8 (zS key i 3)]
      have z0 : zS key i 0 = sb (wS key (16 * i - 4 + 1)) ^^^ rcF (i - 1) := rfl
      have z1 : zS key i 1 = sb (wS key (16 * i - 4 + 2)) := xor0 _
      have z2 : zS key i 2 = sb (wS key (16 * i - 4 + 3)) := xor0 _
      have z3 : zS key i 3 = sb (wS key (16 * i - 4)) := xor0 _
      rw [z0, z1, z2, z3]
    rw [hz]
    have hrc : dbl (rcF (i - 1)) = rcF (i + 1 - 1) := by
      rw [show i + 1 - 1 = (i - 1) + 1 by omega, rcF]
    rw [hrc]
    refine AW.loopK [(0, _), (4, _), (5, _), (6, _), (8, _)] (fun nn E H => ∃ (k : Nat), (k ≤ 16) ∧ nn = 16 - k ∧ E = [(59, .val (.int .i64 (k : Int)))] ∧ H = [.blk B2 66 4 (arB 4 (tz key i k)), .blk B1 57 176 (arB 176 (cut key (16 * i + k)))]) _ (⟨0, by omega, rfl, rfl, rfl⟩) (by repeat (first | exact envNil | refine envCons rfl ?_)) (by repeat (first | exact envNil | refine envCons rfl ?_)) (by repeat (first | exact subPnil | refine subPcons 0 rfl ?_)) ?_
    rintro nn E H ⟨k, hk, rfl, rfl, rfl⟩
    dsimp only [List.cons_append, List.nil_append]
    refine AW.seq ?_
    refine AW.region ?_
    refine AO.op (O.lss rfl rfl rfl (by rfl)) rfl rfl rfl ?_
    refine AO.nil ?_
    refine AQ.thenN ?_
    refine AW.seq ?_
    refine AW.split rfl (fun h2 => ?_) (fun h2 => ?_) <;> (try simp only [decide_eq_true_eq, decide_eq_false_iff_not, beq_iff_eq, beq_eq_false_iff_ne, bne_iff_ne, bne_eq_false_iff_eq, Bool.not_eq_true', Bool.not_eq_false', Bool.not_eq_true, Bool.not_eq_false, ne_eq, Int.not_lt, Int.not_le, Bool.and_eq_true, Bool.or_eq_true, Bool.or_eq_false_iff, Bool.and_eq_false_imp, strOf_toList, Decidable.not_not] at h2)
    · skip
      have hk' : k < 16 := by omega
      refine AW.skip ?_
      refine AQ.thenN ?_
      refine AW.seq ?_
      refine AW.block ?_
      refine AW.seq ?_
      refine AW.region ?_
      refine AO.op (O.move rfl rfl) rfl rfl rfl ?_
      refine AO.op (O.assign rfl rfl) rfl rfl rfl ?_
      refine AO.nil ?_
      refine AQ.thenN ?_
      refine AW.seq ?_
      refine AW.regionD 12 (by kernel_rfl) (by kernel_rfl) ?_
      simp only [List.take_succ_cons, List.take_zero, List.drop_succ_cons, List.drop_zero]
      refine FA.op (O.move rfl rfl) rfl rfl rfl rfl ?_
      refine FA.op (O.rem rfl rfl rfl (by omega) (tmodE (by omega))) rfl rfl rfl rfl ?_
      refine FA.op (O.idxL rfl rfl rfl (by exact ⟨by omega, by omega⟩)) rfl rfl rfl rfl ?_
      refine FA.op (O.load rfl rfl (by repeat (exact List.Mem.head _)) (by exact tz_get (k := k) (by omega))) rfl rfl rfl rfl ?_
      refine FA.op (O.move rfl rfl) rfl rfl rfl rfl ?_
      refine FA.op (O.sub rfl rfl rfl (by exact wI64 (by omega))) rfl rfl rfl rfl ?_
      refine FA.op (O.move rfl rfl) rfl rfl rfl rfl ?_
      refine FA.op (O.idxL rfl rfl rfl (by exact ⟨by omega, by omega⟩)) rfl rfl rfl rfl ?_
      refine FA.op (O.idxL rfl rfl rfl (by exact ⟨by omega, by omega⟩)) rfl rfl rfl rfl ?_
      refine FA.op (O.load rfl rfl (by repeat (first | exact List.Mem.head _ | refine List.Mem.tail _ ?_)) (by exact cut_get (k := 16 * (i - 1) + k) (by omega) (by omega) (by omega))) rfl rfl rfl rfl ?_
      refine FA.op (O.xor_ rfl rfl rfl xorU8) rfl rfl rfl rfl ?_
      refine FA.op (O.idxL rfl rfl rfl (by exact ⟨by omega, by omega⟩)) rfl rfl rfl rfl ?_
      refine FA.nil ?_
      simp only [chosen, List.nil_append, List.cons_append, List.append_nil]
      (refine AO.store (i := 0) rfl rfl rfl rfl rfl rfl (by rfl) (by rfl) (by exact Nat.ble_eq_true_of_le (by rw [arB_len]; omega)) (by exact arB_set (k := k % 4) (by omega) _ (by omega)) (by (dsimp only [List.set, List.append, List.cons_append, List.nil_append, splice, ofConst, AV.cells, List.map, List.map_cons, List.map_nil, List.take, List.drop, Nat.zero_add, Nat.add_zero, Nat.reduceAdd, Nat.reduceMul, Nat.zero_mul, Value.cells, List.toList_toArray, zerosA, List.replicate, List.flatten, List.append_nil]; done)) ?_)
      refine AO.nil ?_
      refine AQ.thenN ?_
      refine AW.regionD 8 (by kernel_rfl) (by kernel_rfl) ?_
      simp only [List.take_succ_cons, List.take_zero, List.drop_succ_cons, List.drop_zero]
      refine FA.op (O.move rfl rfl) rfl rfl rfl rfl ?_
      refine FA.op (O.move rfl rfl) rfl rfl rfl rfl ?_
      refine FA.op (O.move rfl rfl) rfl rfl rfl rfl ?_
      refine FA.op (O.rem rfl rfl rfl (by omega) (tmodE (by omega))) rfl rfl rfl rfl ?_
      refine FA.op (O.idxL rfl rfl rfl (by exact ⟨by omega, by omega⟩)) rfl rfl rfl rfl ?_
      refine FA.op (O.load rfl rfl (by repeat (exact List.Mem.head _)) (by exact arB_get (k := k % 4) (by omega) (by omega))) rfl rfl rfl rfl ?_
      refine FA.op (O.idxL rfl rfl rfl (by exact ⟨by omega, by omega⟩)) rfl rfl rfl rfl ?_
      refine FA.op (O.idxL rfl rfl rfl (by exact ⟨by omega, by omega⟩)) rfl rfl rfl rfl ?_
      refine FA.nil ?_
      simp only [chosen, List.nil_append, List.cons_append, List.append_nil]
      (refine AO.store (i := 1) rfl rfl rfl rfl rfl rfl (by rfl) (by rfl) (by exact Nat.ble_eq_true_of_le (by rw [arB_len]; omega)) (by exact arB_set (k := 16 * i + k) (by omega) _ (by omega)) (by (dsimp only [List.set, List.append, List.cons_append, List.nil_append, splice, ofConst, AV.cells, List.map, List.map_cons, List.map_nil, List.take, List.drop, Nat.zero_add, Nat.add_zero, Nat.reduceAdd, Nat.reduceMul, Nat.zero_mul, Value.cells, List.toList_toArray, zerosA, List.replicate, List.flatten, List.append_nil]; done)) ?_)
      refine AO.nil ?_
      refine AQ.blockN ?_
      refine AQ.thenN ?_
      refine AW.region ?_
      refine AO.op (O.add rfl rfl rfl (by exact wI64 (by omega))) rfl rfl rfl ?_
      refine AO.op (O.move rfl rfl) rfl rfl rfl ?_
      refine AO.nil ?_
      have hw := wS_eq key hi.1 hk'
      have e1 : arB 4 (fun q => if q = k % 4 then zS key i k ^^^ wS key (16 * (i - 1) + k) else tz key i k q) = arB 4 (tz key i (k + 1)) := arB_congr fun q hq => by
        rw [← hw]; exact tz_step q hq
      have e2 : arB 176 (fun q => if q = 16 * i + k then (if True then zS key i k ^^^ wS key (16 * (i - 1) + k) else tz key i k (k % 4)) else cut key (16 * i + k) q) = arB 176 (cut key (16 * i + (k + 1))) := arB_congr fun q hq => by
        rw [if_pos trivial, ← hw]
        unfold cut
        rcases Nat.lt_trichotomy q (16 * i + k) with h1 | h1 | h1
        · rw [if_neg (by omega), if_pos h1, if_pos (by omega)]
        · rw [if_pos h1, if_pos (by omega), h1]
        · rw [if_neg (by omega), if_neg (by omega), if_neg (by omega)]
      rw [e1, e2]
      refine AQ.loopKN _ _ _ (by omega) (⟨k + 1, by omega, rfl, rfl, rfl⟩) (by repeat (first | exact envNil | refine envCons rfl ?_)) (by repeat (first | exact envNil | refine envCons rfl ?_)) (by repeat (first | exact subPnil | refine subPcons 0 rfl ?_))
    · skip
      obtain rfl : k = 16 := by omega
      refine AW.exit ?_
      refine AQ.thenX ?_
      refine AQ.loopX ?_
      refine AQ.blockX rfl ?_
      refine AQ.blockN ?_
      refine AQ.thenN ?_
      refine AW.region ?_
      refine AO.op (O.move rfl rfl) rfl rfl rfl ?_
      refine AO.op (O.add rfl rfl rfl (by exact wI64 (by omega))) rfl rfl rfl ?_
      refine AO.op (O.assign rfl rfl) rfl rfl rfl ?_
      refine AO.nil ?_
      refine AQ.loopKN _ _ _ (by omega) (⟨i + 1, by omega, rfl, rfl, rfl⟩) (by repeat (first | exact envNil | refine envCons rfl ?_)) (by repeat (first | exact envNil | refine envCons rfl ?_)) (by repeat (first | exact subPnil | refine subPcons 1 rfl ?_))
  · skip
    obtain rfl : i = 11 := by omega
    have e : arB 176 (cut key (16 * 11)) = arB 176 (wS key) := arB_congr fun q hq => if_pos hq
    rw [e]
    refine AW.exit ?_
    refine AQ.thenX ?_
    refine AQ.loopX ?_
    refine AQ.blockX rfl ?_
    refine AQ.thenN ?_
    refine AW.seq ?_
    refine AW.region ?_
    refine AO.op (O.loadK rfl rfl (by repeat (exact List.Mem.head _)) (by exact List.take_of_length_le (Nat.le_of_eq (arB_len _ _))) (by exact arB_len _ _)) rfl rfl rfl ?_
    (refine AO.store (i := 0) rfl rfl rfl rfl rfl rfl (by exact arB_one _ _) (by exact arB_len _ _) (by exact Nat.ble_eq_true_of_le (Nat.le_of_eq (arB_len _ _).symm)) (by exact splice_arB (arB_len _ _)) (by (dsimp only [List.set, List.append, List.cons_append, List.nil_append, splice, ofConst, AV.cells, List.map, List.map_cons, List.map_nil, List.take, List.drop, Nat.zero_add, Nat.add_zero, Nat.reduceAdd, Nat.reduceMul, Nat.zero_mul, Value.cells, List.toList_toArray, zerosA, List.replicate, List.flatten, List.append_nil]; done)) ?_)
    refine AO.nil ?_
    refine AQ.thenN ?_
    refine AW.ret ?_
    refine AQ.retCell (ys := arB 176 (wS key)) rfl rfl (by repeat (exact List.Mem.head _)) (List.take_of_length_le (Nat.le_of_eq (arB_len _ _))) (arB_len _ _) ⟨_, List.nil_sublist _, .nil⟩ ⟨rfl, rfl⟩
end Go.Proofs.Ytochjihddnkhcaa.By

namespace Go.Proofs.Ytochjihddnkhcaa.By
open Go.RowKit L A
set_option linter.unusedVariables false
set_option linter.unusedSimpArgs false
attribute [local irreducible] AW AQ AO
def tq (key : Nat → UInt8) (i j : Nat) : UInt8 := if i % 4 = 0 then sb (wS key (4 * i - 4 + (j + 1) % 4)) ^^^ (if j = 0 then rcF (i / 4 - 1) else 0) else wS key (4 * i - 4 + j)
theorem arB_snoc {n : Nat} {f : Nat → UInt8} {v : UInt8} (h : v = f n) : arB n f ++ [by8 v] = arB (n + 1) f := by
  subst h; rw [arB_eq, arB_eq, List.range_succ, List.map_append]; rfl
end Go.Proofs.Ytochjihddnkhcaa.By

namespace Go.Proofs.Ytochjihddnkhcaa.A
open Go.RowKit L
set_option linter.unusedVariables false
set_option linter.unusedSimpArgs false
section
variable {Γ : Cx} {P : Program} {Q : Exit → Act → World → Prop} {E : Env} {H : List HE} {N : Nat} {o : Oper} {ops : Array Oper} {rest : List Oper}
/-- a[i] of an array value, the element several cells. -/
theorem O.indexK {T U : Nat} {x y : Operand} {n k : Nat} {kk : IntKind} {z : Int} {xs ys : List AV} [hd : TyD P T (.array n U)] [hg : TyG P U true k] (ho : o.op = .index T x y) (hx : ev E x = some (.agg xs)) (hy : ev E y = some (.val (.int kk z))) (hz : 0 ≤ z ∧ z < n) (hv : (xs.drop (z.toNat * k)).take k = ys) (hk : ys.length = k) :
    OpW P N o E H (Is (.agg ys)) := .of_run fun R a W h1 h2 ha => by
  obtain ⟨d, inf, hd1, hi1, hk1, hg1⟩ := hg.ax
  obtain ⟨us, hu, hr⟩ := (ha.ev hx).agg_inv
  have hr' := (hr.drop (z.toNat * k)).take k
  rw [hv] at hr'
  refine ⟨_, ?_, hr'.toAgg⟩
  have hfit : z.toNat * k + k ≤ us.length ∨ k = 0 := by
    have := hr'.1; rw [hk, List.length_take, List.length_drop] at this; omega
  simp only [execOp, ho, hu, (ha.ev hy).val_inv, Instr.index, asIntOf, run_underlying hd.ax, Sem.run_bind, Sem.run_pure, Result.andThen_ok, sizeOf, typeInfo, run_program, hi1, hk1]
  rw [if_pos hz]
  have e : us.toArray.extract (z.toNat * k) (z.toNat * k + k) = ((us.drop (z.toNat * k)).take k).toArray := by
    simp
  cases d <;> first | (cases hg1; done) | (simp [part, isAgg, run_underlying hd1, sizeOf, typeInfo, hi1, hk1, e])
end
theorem arB_app {n m : Nat} {f g : Nat → UInt8} : arB n f ++ arB m g = arB (n + m) (fun q => if q < n then f q else g (q - n)) := by
  apply List.ext_getElem?
  intro q
  rw [List.getElem?_append, arB_len]
  by_cases h : q < n
  · rw [if_pos h, arB_get h rfl, arB_get (k := q) (by omega) rfl, if_pos h]
  · rw [if_neg h]
    by_cases h2 : q < n + m
    · rw [arB_get (k := q - n) (by omega) rfl, arB_get (k := q) h2 rfl, if_neg h]
    · rw [List.getElem?_eq_none (by rw [arB_len]; omega), List.getElem?_eq_none (by rw [arB_len]; omega)]
end Go.Proofs.Ytochjihddnkhcaa.A

namespace Go.Proofs.Ytochjihddnkhcaa.By
open Go.RowKit L A
set_option linter.unusedVariables false
set_option linter.unusedSimpArgs false
attribute [local irreducible] AW AQ AO
def m2311 (q : Nat) : UInt8 := [2, 3, 1, 1].getD q 0
def mEBD9 (q : Nat) : UInt8 := [14, 11, 13, 9].getD q 0
def encS (w f : Nat → UInt8) : Nat → Nat → UInt8
  | 0 => fun q => f q ^^^ w (0 * 16 + q)
  | i + 1 => fun q => (if i + 1 < 10 then mixF (shF sb 1 (encS w f i)) m2311 else shF sb 1 (encS w f i)) q ^^^ w ((i + 1) * 16 + q)
def enc (w f : Nat → UInt8) : Nat → UInt8 := encS w f 10
def RkOf (ys : List AV) (o : Nat) (w : Nat → UInt8) : Prop := ∀ i, i < 11 → (ys.drop (o + i * 16)).take 16 = arB 16 fun q => w (i * 16 + q)
set_option maxRecDepth 20000 in
set_option maxHeartbeats 4000000 in
theorem encrypt_fn (b : Nat) (f w : Nat → UInt8) (xs ys : List AV) (o oy : Nat) (hx : BoxOf xs o sb) (hw : RkOf ys oy w) : Sp Try.prog 56 [.rp xs o, .rp ys oy, pt b] [stB b f] (IsM (.val (.tuple #[])) (stB b (enc w f))) := by
  refine Sp.enter Try.func56 rfl _ Try.ntmps56 rfl (fun w0 R0 => ?_)
  refine AW.seq ?_
  refine AW.region ?_
  refine AO.op (O.move rfl rfl) rfl rfl rfl ?_
  refine AO.op (O.move rfl rfl) rfl rfl rfl ?_
  refine AO.op (O.nilCheckR rfl rfl) rfl rfl rfl ?_
  refine AO.op (O.idxLR rfl rfl rfl ⟨(by omega), (by omega)⟩) rfl rfl rfl ?_
  refine AO.op (O.loadRK rfl rfl (by exact hw 0 (by omega)) (by exact arB_len _ _)) rfl rfl rfl ?_
  (refine AO.callM1 (i := 0) rfl rfl Try.func44 rfl rfl rfl rfl rfl rfl (sxor_fn _ _ _) (by (dsimp only [List.set, List.append, List.cons_append, List.nil_append, splice, ofConst, AV.cells, List.map, List.map_cons, List.map_nil, List.take, List.drop, Nat.zero_add, Nat.add_zero, Nat.reduceAdd, Nat.reduceMul, Nat.zero_mul, Value.cells, List.toList_toArray, zerosA, List.replicate, List.flatten, List.append_nil]; done)) ?_)
  refine AO.nil ?_
  refine AQ.thenN ?_
  refine AW.seq ?_
  refine AW.region ?_
  refine AO.op (O.assign rfl rfl) rfl rfl rfl ?_
  refine AO.nil ?_
  refine AQ.thenN ?_
  refine AW.block ?_
  refine AW.loopK [(0, _), (1, _), (2, _)] (fun nn E H => ∃ (j : Nat), (j ≤ 10) ∧ nn = 10 - j ∧ E = [(6, .val (.int .i64 ((j + 1 : Nat) : Int)))] ∧ H = [stB b (encS w f j)]) _ (⟨0, by omega, rfl, rfl, rfl⟩) (by repeat (first | exact envNil | refine envCons rfl ?_)) (by repeat (first | exact envNil | refine envCons rfl ?_)) (by repeat (first | exact subPnil | refine subPcons 0 rfl ?_)) ?_
  rintro nn E H ⟨j, hj, rfl, rfl, rfl⟩
  dsimp only [List.cons_append, List.nil_append]
  refine AW.seq ?_
  refine AW.seq ?_
  refine AW.region ?_
  refine AO.op (O.move rfl rfl) rfl rfl rfl ?_
  refine AO.op (O.lss rfl rfl rfl (by rfl)) rfl rfl rfl ?_
  refine AO.nil ?_
  refine AQ.thenN ?_
  refine AW.split rfl (fun h => ?_) (fun h => ?_) <;> (try simp only [decide_eq_true_eq, decide_eq_false_iff_not, beq_iff_eq, beq_eq_false_iff_ne, bne_iff_ne, bne_eq_false_iff_eq, Bool.not_eq_true', Bool.not_eq_false', Bool.not_eq_true, Bool.not_eq_false, ne_eq, Int.not_lt, Int.not_le, Bool.and_eq_true, Bool.or_eq_true, Bool.or_eq_false_iff, Bool.and_eq_false_imp, strOf_toList, Decidable.not_not] at h)
  · skip
    refine AW.skip ?_
    refine AQ.thenN ?_
    refine AW.seq ?_
    refine AW.block ?_
    refine AW.seq ?_
    refine AW.region ?_
    refine AO.op (O.move rfl rfl) rfl rfl rfl ?_
    refine AO.op (O.move rfl rfl) rfl rfl rfl ?_
    refine AO.op (O.nilCheckR rfl rfl) rfl rfl rfl ?_
    refine AO.op (O.fieldAddrR rfl rfl) rfl rfl rfl ?_
    (refine AO.callM1 (i := 0) rfl rfl Try.func46 rfl rfl rfl rfl rfl rfl (shift1_fn _ _ _ _ _ hx) (by (dsimp only [List.set, List.append, List.cons_append, List.nil_append, splice, ofConst, AV.cells, List.map, List.map_cons, List.map_nil, List.take, List.drop, Nat.zero_add, Nat.add_zero, Nat.reduceAdd, Nat.reduceMul, Nat.zero_mul, Value.cells, List.toList_toArray, zerosA, List.replicate, List.flatten, List.append_nil]; done)) ?_)
    refine AO.nil ?_
    refine AQ.thenN ?_
    refine AW.seq ?_
    refine AW.seq ?_
    refine AW.region ?_
    refine AO.op (O.move rfl rfl) rfl rfl rfl ?_
    refine AO.op (O.lss rfl rfl rfl (by rfl)) rfl rfl rfl ?_
    refine AO.nil ?_
    refine AQ.thenN ?_
    refine AW.split rfl (fun h23 => ?_) (fun h23 => ?_) <;> (try simp only [decide_eq_true_eq, decide_eq_false_iff_not, beq_iff_eq, beq_eq_false_iff_ne, bne_iff_ne, bne_eq_false_iff_eq, Bool.not_eq_true', Bool.not_eq_false', Bool.not_eq_true, Bool.not_eq_false, ne_eq, Int.not_lt, Int.not_le, Bool.and_eq_true, Bool.or_eq_true, Bool.or_eq_false_iff, Bool.and_eq_false_imp, strOf_toList, Decidable.not_not] at h23)
    · skip
      have e : (fun q => mixF (shF sb 1 (encS w f j)) m2311 q ^^^ w ((j + 1) * 16 + q)) = encS w f (j + 1) := by rw [encS, if_pos (by omega)]
      refine AW.region ?_
      refine AO.op (O.move rfl rfl) rfl rfl rfl ?_
      refine AO.op (O.build rfl rfl rfl (by rfl)) rfl rfl rfl ?_
      (refine AO.callM1 (i := 0) rfl rfl Try.func45 rfl rfl rfl rfl rfl rfl (mix_fn _ _ m2311) (by (dsimp only [List.set, List.append, List.cons_append, List.nil_append, splice, ofConst, AV.cells, List.map, List.map_cons, List.map_nil, List.take, List.drop, Nat.zero_add, Nat.add_zero, Nat.reduceAdd, Nat.reduceMul, Nat.zero_mul, Value.cells, List.toList_toArray, zerosA, List.replicate, List.flatten, List.append_nil]; done)) ?_)
      refine AO.nil ?_
      refine AQ.thenN ?_
      refine AW.region ?_
      refine AO.op (O.move rfl rfl) rfl rfl rfl ?_
      refine AO.op (O.move rfl rfl) rfl rfl rfl ?_
      refine AO.op (O.move rfl rfl) rfl rfl rfl ?_
      refine AO.op (O.nilCheckR rfl rfl) rfl rfl rfl ?_
      refine AO.op (O.idxLR rfl rfl rfl ⟨(by omega), (by omega)⟩) rfl rfl rfl ?_
      refine AO.op (O.loadRK rfl rfl (by exact hw (j + 1) (by omega)) (by exact arB_len _ _)) rfl rfl rfl ?_
      (refine AO.callM1 (i := 0) rfl rfl Try.func44 rfl rfl rfl rfl rfl rfl (sxor_fn _ _ _) (by (dsimp only [List.set, List.append, List.cons_append, List.nil_append, splice, ofConst, AV.cells, List.map, List.map_cons, List.map_nil, List.take, List.drop, Nat.zero_add, Nat.add_zero, Nat.reduceAdd, Nat.reduceMul, Nat.zero_mul, Value.cells, List.toList_toArray, zerosA, List.replicate, List.flatten, List.append_nil]; done)) ?_)
      refine AO.nil ?_
      refine AQ.blockN ?_
      refine AQ.thenN ?_
      refine AW.region ?_
      refine AO.op (O.move rfl rfl) rfl rfl rfl ?_
      refine AO.op (O.add rfl rfl rfl (by exact wI64 (by omega))) rfl rfl rfl ?_
      refine AO.op (O.assign rfl rfl) rfl rfl rfl ?_
      refine AO.nil ?_
      rw [e]
      refine AQ.loopKN _ _ _ (by omega) (⟨j + 1, by omega, rfl, rfl, rfl⟩) (by repeat (first | exact envNil | refine envCons rfl ?_)) (by repeat (first | exact envNil | refine envCons rfl ?_)) (by repeat (first | exact subPnil | refine subPcons 0 rfl ?_))
    · skip
      have e : (fun q => shF sb 1 (encS w f j) q ^^^ w ((j + 1) * 16 + q)) = encS w f (j + 1) := by rw [encS, if_neg (by omega)]
      refine AW.skip ?_
      refine AQ.thenN ?_
      refine AW.region ?_
      refine AO.op (O.move rfl rfl) rfl rfl rfl ?_
      refine AO.op (O.move rfl rfl) rfl rfl rfl ?_
      refine AO.op (O.move rfl rfl) rfl rfl rfl ?_
      refine AO.op (O.nilCheckR rfl rfl) rfl rfl rfl ?_
      refine AO.op (O.idxLR rfl rfl rfl ⟨(by omega), (by omega)⟩) rfl rfl rfl ?_
      refine AO.op (O.loadRK rfl rfl (by exact hw (j + 1) (by omega)) (by exact arB_len _ _)) rfl rfl rfl ?_
      (refine AO.callM1 (i := 0) rfl rfl Try.func44 rfl rfl rfl rfl rfl rfl (sxor_fn _ _ _) (by (dsimp only [List.set, List.append, List.cons_append, List.nil_append, splice, ofConst, AV.cells, List.map, List.map_cons, List.map_nil, List.take, List.drop, Nat.zero_add, Nat.add_zero, Nat.reduceAdd, Nat.reduceMul, Nat.zero_mul, Value.cells, List.toList_toArray, zerosA, List.replicate, List.flatten, List.append_nil]; done)) ?_)
      refine AO.nil ?_
      refine AQ.blockN ?_
      refine AQ.thenN ?_
      refine AW.region ?_
      refine AO.op (O.move rfl rfl) rfl rfl rfl ?_
      refine AO.op (O.add rfl rfl rfl (by exact wI64 (by omega))) rfl rfl rfl ?_
      refine AO.op (O.assign rfl rfl) rfl rfl rfl ?_
      refine AO.nil ?_
      rw [e]
      refine AQ.loopKN _ _ _ (by omega) (⟨j + 1, by omega, rfl, rfl, rfl⟩) (by repeat (first | exact envNil | refine envCons rfl ?_)) (by repeat (first | exact envNil | refine envCons rfl ?_)) (by repeat (first | exact subPnil | refine subPcons 0 rfl ?_))
  · skip
    obtain rfl : j = 10 := by omega
    refine AW.exit ?_
    refine AQ.thenX ?_
    refine AQ.loopX ?_
    refine AQ.blockX rfl ?_
    refine AQ.retN (AQ.ret0 rfl ⟨_, by repeat (first | exact List.Sublist.slnil | refine List.Sublist.cons_cons _ ?_), List.Perm.refl _⟩ (⟨rfl, rfl⟩))
/-! the cipher -/
def cipA (w : Nat → UInt8) : List AV := arB 512 TB ++ arB 176 w
theorem cip_to (w : Nat → UInt8) : BoxOf (cipA w) 0 sb := fun v => by
  have h := box_to v
  have := v.toNat_lt
  unfold cipA
  rw [List.getElem?_append_left (by rw [arB_len]; omega)]; exact h
theorem cip_rk (w : Nat → UInt8) : RkOf (cipA w) 512 w := fun i hi => by
  unfold cipA
  rw [List.drop_append, List.drop_eq_nil_of_le (by rw [arB_len]; omega), List.nil_append, arB_len, Nat.add_sub_cancel_left]
  exact arB_dt (by omega)
theorem cip_zero : cipA (fun _ => 0) = arB 688 (fun q => if 0 ≤ q ∧ q < 0 + 512 then TB (q - 0) else 0) := by
  unfold cipA
  rw [arB_app]
  refine arB_congr fun q hq => ?_
  by_cases h : q < 512
  · rw [if_pos h, if_pos (by omega)]; rfl
  · rw [if_neg h, if_neg (by omega)]
theorem cip_set (w : Nat → UInt8) {j : Nat} (hj : j = 512) : splice (cipA fun _ => 0) j (arB 176 w) = cipA w := by
  subst hj
  unfold cipA
  rw [splice_eq _ _ _ (by rw [List.length_append, arB_len, arB_len, arB_len]; omega), arB_len, List.take_left' (arB_len _ _), List.drop_eq_nil_of_le (by rw [List.length_append, arB_len, arB_len]; omega), List.append_nil]
theorem cip_len (w : Nat → UInt8) : (cipA w).length = 688 := by unfold cipA; rw [List.length_append, arB_len, arB_len]
instance (priority := 2000) cip83 : TyB Try.prog 83 [(0, 512), (512, 176)] (.agg ⟨List.replicate 688 (.int .u8 0)⟩) := ⟨Try.t83, Try.type83, by kernel_rfl, .inl ⟨_, Try.underlying83, rfl⟩⟩
set_option maxRecDepth 20000 in
theorem fill83 : fillA ([(0, 512), (512, 176)][·]?) ((Value.agg ⟨List.replicate 688 (.int .u8 0)⟩).cells.toList.map AV.val) [(0, .agg (arB 512 TB))] = some (cipA fun _ => 0) := by
  have hz : ((Value.agg ⟨List.replicate 688 (.int .u8 0)⟩).cells.toList.map AV.val) = arB 688 (fun _ => 0) := zeros_arB 688
  rw [hz]
  unfold fillA
  have h1 : (AV.agg (arB 512 TB)).cells.length = 512 := arB_len _ _
  have h2 : (arB 688 fun _ => 0).length = 688 := arB_len _ _
  simp only [List.getElem?_cons_zero, h1, h2]
  rw [show (Nat.beq 512 512 && Nat.ble (0 + 512) 688) = true from by decide]
  simp only [cond_true, fillA]
  refine congrArg some ?_
  show splice (arB 688 fun _ => 0) 0 (arB 512 TB) = _
  rw [arB_splice (by omega), ← cip_zero]
def kf (l : List UInt8) : Nat → UInt8 := fun q => l.getD q 0
theorem fnB_kf {l : List UInt8} {n : Nat} (h : l.length = n) : fnB n (kf l) = l := by
  subst h
  apply List.ext_getElem?
  intro q
  by_cases hq : q < l.length
  · simp [fnB, kf, hq]
  · simp [fnB, hq]
theorem roB_kf {l : List UInt8} {n : Nat} (h : l.length = n) : roB l = .ro false n (arB n (kf l)) := by
  rw [← roB_fnB, fnB_kf h]
set_option maxRecDepth 20000 in
set_option maxHeartbeats 4000000 in
theorem aesnew_fn (key : Nat → UInt8) : Sp Try.prog 40 [.ro false 16 (arB 16 key)] [] (NewBlk pt 83 688 (cipA (wS key))) := by
  refine Sp.enter Try.func40 rfl _ Try.ntmps40 rfl (fun w0 R0 => ?_)
  refine AW.seq ?_
  refine AW.region ?_
  refine AO.op (O.assign rfl rfl) rfl rfl rfl ?_
  refine AO.nil ?_
  refine AQ.thenN ?_
  refine AW.seq ?_
  refine AW.region ?_
  refine AO.op (O.call rfl Try.func36 rfl rfl rfl (subs_fn)) rfl rfl rfl ?_
  refine AO.op (O.build rfl rfl rfl (by exact fill83)) rfl rfl rfl ?_
  refine AO.opB (O.box rfl rfl rfl rfl rfl) rfl rfl rfl ?_
  intro B1
  refine AO.op (O.assign rfl rfl) rfl rfl rfl ?_
  refine AO.nil ?_
  refine AQ.thenN ?_
  refine AW.seq ?_
  refine AW.region ?_
  refine AO.op (O.move rfl rfl) rfl rfl rfl ?_
  refine AO.op (O.move rfl rfl) rfl rfl rfl ?_
  refine AO.op (O.nilCheck rfl rfl) rfl rfl rfl ?_
  refine AO.op (O.fieldAddr rfl rfl) rfl rfl rfl ?_
  refine AO.op (O.move rfl rfl) rfl rfl rfl ?_
  (refine AO.op (O.callLB rfl Try.func37 rfl rfl rfl (by repeat (exact List.Mem.head _)) (sched_fn _ _ (cip_to _)) (plain_arB _ _) (by (repeat (first | exact LendB.nil | refine LendB.lend ?_ | refine LendB.same ?_)); done)) rfl rfl rfl ?_)
  refine AO.op (O.nilCheck rfl rfl) rfl rfl rfl ?_
  refine AO.op (O.fieldAddr rfl rfl) rfl rfl rfl ?_
  (refine AO.store (i := 0) rfl rfl rfl rfl rfl rfl (by exact arB_one _ _) (by exact arB_len _ _) (by exact Nat.ble_eq_true_of_le (Nat.le_of_eq (cip_len _).symm)) (by exact cip_set _ rfl) (by (dsimp only [List.set, List.append, List.cons_append, List.nil_append, splice, ofConst, AV.cells, List.map, List.map_cons, List.map_nil, List.take, List.drop, Nat.zero_add, Nat.add_zero, Nat.reduceAdd, Nat.reduceMul, Nat.zero_mul, Value.cells, List.toList_toArray, zerosA, List.replicate, List.flatten, List.append_nil]; done)) ?_)
  refine AO.nil ?_
  refine AQ.thenN ?_
  refine AW.seq ?_
  refine AW.region ?_
  refine AO.op (O.move rfl rfl) rfl rfl rfl ?_
  refine AO.op (O.assign rfl rfl) rfl rfl rfl ?_
  refine AO.nil ?_
  refine AQ.thenN ?_
  refine AW.ret ?_
  rw [cip_len]
  refine AQ.ret1 rfl rfl ⟨_, by repeat (first | exact List.Sublist.slnil | refine List.Sublist.cons_cons _ ?_), List.Perm.refl _⟩ (⟨B1, rfl, rfl⟩)
end Go.Proofs.Ytochjihddnkhcaa.By
