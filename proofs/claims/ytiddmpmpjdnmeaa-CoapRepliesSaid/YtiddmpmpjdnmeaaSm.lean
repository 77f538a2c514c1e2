/-
  Calls that write one block of the caller's; calls to which a row of the caller's is lent.
-/
import Derived.Test.YtiddmpmpjdnmeaaSk
namespace Go.Proofs.Ytiddmpmpjdnmeaa.A
open Go.RowKit L
set_option linter.unusedVariables false
set_option linter.unusedSimpArgs false
/-- A number's byte. -/
def u8 (x : Int) : UInt8 := UInt8.ofNat (x % 256).toNat
theorem u8_toNat (x : Int) : ((u8 x).toNat : Int) = x % 256 := by
  have h1 := Int.emod_nonneg x (show (256 : Int) ≠ 0 by omega)
  have h2 := Int.emod_lt_of_pos x (show (0 : Int) < 256 by omega)
  rw [u8, UInt8.toNat_ofNat_of_lt' (by simp [UInt8.size]; omega)]
  omega
theorem wU8any {x : Int} : IntKind.u8.wrap x = ((u8 x).toNat : Int) := by
  rw [u8_toNat]; rfl
section
variable {Γ : Cx} {P : Program} {Q : Exit → Act → World → Prop} {E : Env} {H : List HE} {N : Nat} {o : Oper} {ops : Array Oper} {rest : List Oper}

def IsM (v : AV) (e : HE) : AV → List HE → Prop := fun r H' => r = v ∧ H' = [e]

theorem perm_idx : ∀ {H : List HE} {i : Nat} {e : HE}, H[i]? = some e → H.Perm (e :: H.eraseIdx i)
  | [], i, e, h => by simp at h
  | x :: r, 0, e, h => by simp at h; subst h; exact List.Perm.refl _
  | x :: r, i + 1, e, h => ((perm_idx (H := r) (i := i) (by simpa using h)).cons x).trans (List.Perm.swap ..)
theorem perm_set : ∀ {H : List HE} {i : Nat} {e e' : HE}, H[i]? = some e → (e' :: H.eraseIdx i).Perm (H.set i e')
  | [], i, e, e', h => by simp at h
  | x :: r, 0, e, e', h => List.Perm.refl _
  | x :: r, i + 1, e, e', h => (List.Perm.swap ..).trans ((perm_set (H := r) (i := i) (e' := e') (by simpa using h)).cons x)

theorem AO.perm {H' : List HE} {l : List Oper} (hp : H.Perm H') (h : AO Γ P ops Q l E H') : AO Γ P ops Q l E H := fun R a W hs ha => h R a W (hs.perm hp.symm) ha

/-- A call that leaves one block of the caller's changed. -/
theorem AO.callM1 {f : FuncId} {d : Nat} {xs : List Operand} {ats : Array TypeId} {args : List AV} {i : Nat} {e e' : HE} {v : AV} {H' : List HE} {fn : Func} (ho : o.op = .call { callee := .value (.func f), args := xs.toArray, argTypes := ats }) (hgd : o.guard = none) (hfn : P.funcs[f]? = some fn) (hn : (fn.name == "runtime.NumGoroutine") = false) (hb : fn.body.isNone = false)
    (hx : evs E xs = some args) (hd : o.dst = some d) (hN : Nat.ble (d + 1) Γ.N = true) (hi : H[i]? = some e) (h : Sp P f args [e] (IsM v e')) (hH : H.set i e' = H') (next : AO Γ P ops Q rest ((d, v) :: E) H') : AO Γ P ops Q (o :: rest) E H :=
  AO.callM (H0 := [e]) (H1 := H.eraseIdx i) ho hgd hfn hn hb hx hd (Nat.le_of_ble_eq_true hN) (perm_idx hi) h (by
    rintro _ _ ⟨rfl, rfl⟩
    exact AO.perm (by rw [← hH]; exact perm_set hi) next)
/-- .. and whatever else. -/
theorem AO.callMG {f : FuncId} {d : Nat} {xs : List Operand} {ats : Array TypeId} {args : List AV} (i : Nat) {e : HE} {Post : AV → List HE → Prop} {fn : Func} (ho : o.op = .call { callee := .value (.func f), args := xs.toArray, argTypes := ats }) (hgd : o.guard = none) (hfn : P.funcs[f]? = some fn) (hn : (fn.name == "runtime.NumGoroutine") = false) (hb : fn.body.isNone = false)
    (hx : evs E xs = some args) (hd : o.dst = some d) (hN : Nat.ble (d + 1) Γ.N = true) (hi : H[i]? = some e) (h : Sp P f args [e] Post) (next : ∀ r H', Post r H' → AO Γ P ops Q rest ((d, r) :: E) (H' ++ H.eraseIdx i)) : AO Γ P ops Q (o :: rest) E H :=
  AO.callM (H0 := [e]) (H1 := H.eraseIdx i) ho hgd hfn hn hb hx hd (Nat.le_of_ble_eq_true hN) (perm_idx hi) h next

/-- The row reads as this while it is lent. -/
theorem row_ro {R : Nat → Prop} {W : World} {v : Value} {T sz n : Nat} {xs : List AV} (h : HE.ok R W (.row v T sz n xs)) : RelV (fun b => R b ∨ (HE.row v T sz n xs).foot b) W (.ro false n xs) v := by
  obtain ⟨us, hown, hr⟩ := h
  have hr' := hr.mono (R' := fun b => R b ∨ (HE.row v T sz n xs).foot b) (fun _ h => .inl h) (W' := W) (fun _ _ => rfl)
  rcases hown.2 with ⟨rfl, rfl⟩ | ⟨g, cap, cur, rfl, hbg, hg, h1, h2, h3, h4⟩
  · have : xs = [] := List.eq_nil_of_length_eq_zero (by rw [← hr.1, hown.1]; simp)
    subst this
    exact .emp _ _ _ (fun h => by cases h) (Nat.zero_le _)
  · refine .ro false n xs g 0 cap (fun j => us.getD j undef) (.inr rfl) (fun j hj => ?_) (fun j hj => hr'.2 j hj) h1 h2 (fun h => by cases h)
    have hj' : j < us.length := by rw [hr.1]; exact hj
    have := hown.cells (g := g) rfl j us[j] (by simp [hj'])
    rw [addr_add] at this
    rw [this]
    simp [List.getD, hj']

inductive LendL (v : Value) (y : AV) : List AV → List AV → Prop
  | nil : LendL v y [] []
  | same {a : AV} {r r' : List AV} : LendL v y r r' → LendL v y (a :: r) (a :: r')
  | lend {r r' : List AV} : LendL v y r r' → LendL v y (.val v :: r) (y :: r')
theorem LendL.rel {R R1 : Nat → Prop} {W : World} {v : Value} {y : AV} (hR : ∀ b, R b → R1 b) (hy : RelV R1 W y v) {a a' : List AV} (h : LendL v y a a') : ∀ {us : List Value}, RelL R W a us → RelL R1 W a' us := by
  induction h with
  | nil => intro us h; exact h.mono hR (fun _ _ => rfl)
  | same _ ih =>
    intro us h
    obtain ⟨u, r, rfl, h1, h2⟩ := h.uncons
    exact RelL.cons (h1.mono hR (fun _ _ => rfl)) (ih h2)
  | lend _ ih =>
    intro us h
    obtain ⟨u, r, rfl, h1, h2⟩ := h.uncons
    have := h1.val_inv
    subst this
    exact RelL.cons hy (ih h2)
/-- A call to which a row of the caller's is lent, and whose yield holds no memory. -/
theorem O.callL {f : FuncId} {xs : List Operand} {ats : Array TypeId} {args args' : List AV} {v c : Value} {T sz n : Nat} {rs : List AV} {fn : Func} (ho : o.op = .call { callee := .value (.func f), args := xs.toArray, argTypes := ats }) (hfn : P.funcs[f]? = some fn) (hn : (fn.name == "runtime.NumGoroutine") = false) (hb : fn.body.isNone = false)
    (hx : evs E xs = some args) (hm : HE.row v T sz n rs ∈ H) (h : Sp P f args' [] (Is (.val c))) (hl : LendL v (.ro false n rs) args args') : OpW P N o E H (Is (.val c)) := fun R a W h0 h2 h3 ha => by
  have hR : ∀ b, R b → R b ∨ (HE.row v T sz n rs).foot b := fun _ h => .inl h
  have hlt : ∀ b, R b ∨ (HE.row v T sz n rs).foot b → b < W.heap.size := by
    rintro b (hb | hb)
    · exact h0 b hb
    · exact HE.ok_lt (h2 _ hm) hb
  unfold Oper.wp
  rw [run_callF ho hfn hn hb, List.map_toArray]
  have hc := h W _ (xs.map a.eval) hlt (fun e he => by cases he) .nil (hl.rel hR (row_ro (h2 _ hm)) (ha.evs hx))
  refine Calls.mono hc ?_
  rintro e W' ⟨u, r, H', R', rfl, ⟨rfl, rfl⟩, hs, hv⟩
  have p := fn_post1 hs hv hlt
  exact ⟨u, .val c, [], R, rfl, ⟨rfl, rfl⟩, p.ext, fun _ h => h, fun _ h => .inl h, by rw [hv.val_inv]; exact .val _, fun _ he => (by cases he), .nil⟩
/-- A literal that nobody writes is read only from the start. -/
theorem OpW.frz {n U room : Nat} {ys : List AV} (h : OpW P N o E H (NewBlk (fun b => .val (.slice (some ⟨b, 0, none⟩) n n)) U room ys)) (hn : n ≤ maxLen) : OpW P N o E H (Is (.ro false n ys)) := fun R a W h1 h2 h3 h4 => by
  refine Oper.wp_mono ?_ (h R a W h1 h2 h3 h4)
  rintro A' W' ⟨u, v, Hn, R', rfl, ⟨b, rfl, rfl⟩, p⟩
  obtain ⟨hok, hfo⟩ := p.ok _ (List.mem_cons_self ..)
  have hu := p.val.val_inv
  subst hu
  refine ⟨_, .ro false n ys, [], fun c => R' c ∨ c = b, rfl, ⟨rfl, rfl⟩, p.ext, fun c hc => .inl (p.sub c hc), fun c hc => ?_, ?_, fun _ he => (by cases he), .nil⟩
  · rcases hc with hc | rfl
    · exact p.new c hc
    · exact .inr ⟨(hfo _ rfl).1, HE.ok_lt hok rfl⟩
  · refine .ro false n ys b 0 n (fun j => (W'.cell? ⟨b, 0 + j, none⟩).getD undef) (.inr rfl) (fun j hj => ?_) (fun j hj => ?_) (Nat.le_refl _) hn (fun h => by cases h)
    · obtain ⟨u, hu, _⟩ := blk_cell hok (j := j) (v := ys[j]) (by simp [hj])
      rw [Nat.zero_add, hu]; rfl
    · obtain ⟨u, hu, hr⟩ := blk_cell hok (j := j) (v := ys[j]) (by simp [hj])
      rw [Nat.zero_add, hu]
      exact hr.mono (fun _ h => .inl h) (fun _ _ => rfl)
end
end Go.Proofs.Ytiddmpmpjdnmeaa.A
