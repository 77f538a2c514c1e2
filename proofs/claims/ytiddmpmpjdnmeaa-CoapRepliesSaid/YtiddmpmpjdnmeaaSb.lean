/-
  The walk over a symbolic state: code, operations one after the other, calls.
-/
import Derived.Test.YtiddmpmpjdnmeaaSa
namespace Go.Proofs.Ytiddmpmpjdnmeaa.A
open Go.RowKit L
set_option linter.unusedVariables false
set_option linter.unusedSimpArgs false

abbrev G (Γ : Cx) (E : Env) (H : List HE) (X : Act → World → Prop) : Prop := ∀ R a W, RelS Γ R H W → RelA Γ.N R W E a → X a W
def AW (Γ : Cx) (P : Program) (Q : Exit → Act → World → Prop) (c : Code) (E : Env) (H : List HE) : Prop := G Γ E H (c.wp P Q)
def AQ (Γ : Cx) (Q : Exit → Act → World → Prop) (x : Exit) (E : Env) (H : List HE) : Prop := G Γ E H (Q x)
def AO (Γ : Cx) (P : Program) (ops : Array Oper) (Q : Exit → Act → World → Prop) (l : List Oper) (E : Env) (H : List HE) : Prop := G Γ E H (wpList P ops Q l)

theorem AW.g {Γ : Cx} {P : Program} {Q : Exit → Act → World → Prop} {c : Code} {E : Env} {H : List HE} (h : G Γ E H (c.wp P Q)) : AW Γ P Q c E H := h
theorem AQ.g {Γ : Cx} {Q : Exit → Act → World → Prop} {x : Exit} {E : Env} {H : List HE} (h : G Γ E H (Q x)) : AQ Γ Q x E H := h
theorem AO.g {Γ : Cx} {P : Program} {ops : Array Oper} {Q : Exit → Act → World → Prop} {l : List Oper} {E : Env} {H : List HE} (h : G Γ E H (wpList P ops Q l)) : AO Γ P ops Q l E H := h
theorem AW.u {Γ : Cx} {P : Program} {Q : Exit → Act → World → Prop} {c : Code} {E : Env} {H : List HE} (h : AW Γ P Q c E H) : G Γ E H (c.wp P Q) := h
theorem AQ.u {Γ : Cx} {Q : Exit → Act → World → Prop} {x : Exit} {E : Env} {H : List HE} (h : AQ Γ Q x E H) : G Γ E H (Q x) := h
theorem AO.u {Γ : Cx} {P : Program} {ops : Array Oper} {Q : Exit → Act → World → Prop} {l : List Oper} {E : Env} {H : List HE} (h : AO Γ P ops Q l E H) : G Γ E H (wpList P ops Q l) := h

section
variable {Γ : Cx} {P : Program} {Q : Exit → Act → World → Prop} {E : Env} {H : List HE}

/-- What stands behind a piece of code, where it ends well. -/
def Then (P : Program) (c : Code) (Q : Exit → Act → World → Prop) : Exit → Act → World → Prop := Exit.then (fun a w => c.wp P Q a w) Q

theorem AW.seq {x y : Code} (h : AW Γ P (Then P y Q) x E H) : AW Γ P Q (.seq x y) E H := fun R a W hs ha => wp_seq (h R a W hs ha)
theorem AW.skip (h : AQ Γ Q .normal E H) : AW Γ P Q .skip E H := fun R a W hs ha => wp_skip (h R a W hs ha)
theorem AW.exit {i : Nat} (h : AQ Γ Q (.exit i) E H) : AW Γ P Q (.exit i) E H := fun R a W hs ha => wp_exit (h R a W hs ha)
theorem AW.ret (h : AQ Γ Q .ret E H) : AW Γ P Q .ret E H := fun R a W hs ha => wp_ret (h R a W hs ha)
theorem AW.block {i : Nat} {c : Code} (h : AW Γ P (Exit.inBlock i Q) c E H) : AW Γ P Q (.block i c) E H := fun R a W hs ha => wp_block (h R a W hs ha)
theorem AW.condT {c : Operand} {x y : Code} (hc : ev E c = some (.val (.bool true))) (h : AW Γ P Q x E H) : AW Γ P Q (.cond c x y) E H := fun R a W hs ha => wp_cond_true (ha.ev hc).val_inv (h R a W hs ha)
theorem AW.condF {c : Operand} {x y : Code} (hc : ev E c = some (.val (.bool false))) (h : AW Γ P Q y E H) : AW Γ P Q (.cond c x y) E H := fun R a W hs ha => wp_cond_false (ha.ev hc).val_inv (h R a W hs ha)
theorem AW.cond {c : Operand} {x y : Code} (b : Bool) (hc : ev E c = some (.val (.bool b))) (h1 : b = true → AW Γ P Q x E H) (h2 : b = false → AW Γ P Q y E H) : AW Γ P Q (.cond c x y) E H := fun R a W hs ha =>
  wp_cond_split (ha.ev hc).val_inv (fun hb => h1 hb R a W hs ha) (fun hb => h2 hb R a W hs ha)

theorem AQ.thenN {c : Code} (h : AW Γ P Q c E H) : AQ Γ (Then P c Q) .normal E H := h
theorem AQ.thenX {c : Code} {i : Nat} (h : AQ Γ Q (.exit i) E H) : AQ Γ (Then P c Q) (.exit i) E H := h
theorem AQ.thenR {c : Code} (h : AQ Γ Q .ret E H) : AQ Γ (Then P c Q) .ret E H := h
theorem AQ.blockN {i : Nat} (h : AQ Γ Q .normal E H) : AQ Γ (Exit.inBlock i Q) .normal E H := h
theorem AQ.blockR {i : Nat} (h : AQ Γ Q .ret E H) : AQ Γ (Exit.inBlock i Q) .ret E H := h
theorem AQ.blockX {i j : Nat} (hij : Nat.beq i j = true) (h : AQ Γ Q .normal E H) : AQ Γ (Exit.inBlock i Q) (.exit j) E H := fun R a W hs ha => by
  have := Nat.eq_of_beq_eq_true hij
  subst this
  show (if i = i then Q .normal a W else Q (.exit i) a W)
  rw [if_pos rfl]; exact h R a W hs ha
theorem AQ.blockY {i j : Nat} (hij : Nat.beq i j = false) (h : AQ Γ Q (.exit j) E H) : AQ Γ (Exit.inBlock i Q) (.exit j) E H := fun R a W hs ha => by
  have : ¬ j = i := fun e => by subst e; simp at hij
  show (if j = i then Q .normal a W else Q (.exit j) a W)
  rw [if_neg this]; exact h R a W hs ha

/-- A loop: a relation of the state, with a number that every round lowers. -/
def LoopQ (I : Nat → Env → List HE → Prop) (n : Nat) (Γ : Cx) (Q : Exit → Act → World → Prop) : Exit → Act → World → Prop :=
  Exit.then (fun a W => ∃ m E H R, m < n ∧ I m E H ∧ RelS Γ R H W ∧ RelA Γ.N R W E a) Q
theorem AW.loop {c : Code} (I : Nat → Env → List HE → Prop) (n : Nat) {E0 : Env} {H0 : List HE} (hI : I n E0 H0) (hE : ∀ p ∈ E0, look E p.1 = some p.2) (hH : ∃ H1, H1.Sublist H ∧ H0.Perm H1)
    (round : ∀ n E H, I n E H → AW Γ P (LoopQ I n Γ Q) c E H) : AW Γ P Q (.loop c) E H := fun R a W hs ha => by
  have hmem : ∀ {E : Env} {t : Nat} {v : AV}, look E t = some v → (t, v) ∈ E := by
    intro E
    induction E with
    | nil => intro t v h; cases h
    | cons p r ih =>
      intro t v h
      unfold look at h
      cases hb : Nat.beq p.1 t with
      | true => rw [hb] at h; simp at h; subst h; have := Nat.eq_of_beq_eq_true hb; subst this; exact List.mem_cons_self ..
      | false => rw [hb] at h; exact List.mem_cons_of_mem _ (ih h)
  obtain ⟨H1, h1, h2⟩ := hH
  refine wp_loop_ghost (fun n a W => ∃ E H R, I n E H ∧ RelS Γ R H W ∧ RelA Γ.N R W E a) n ⟨E0, H0, R, hI, (hs.sub h1).perm h2, ⟨ha.defers, ha.size, fun t v ht => ha.slots t v (hE _ (hmem ht))⟩⟩ ?_
  rintro n a W ⟨E, H, R, hI, hs, ha⟩
  refine wp_mono (round n E H hI R a W hs ha) ?_
  intro e a w h
  cases e with
  | normal => obtain ⟨m, E', H', R', h1, h2, h3, h4⟩ := h; exact ⟨m, h1, E', H', R', h2, h3, h4⟩
  | _ => exact h
theorem AQ.loopN {I : Nat → Env → List HE → Prop} {n : Nat} (m : Nat) (E0 : Env) (H0 : List HE) (hm : m < n) (hI : I m E0 H0) (hE : ∀ p ∈ E0, look E p.1 = some p.2) (hH : ∃ H1, H1.Sublist H ∧ H0.Perm H1) : AQ Γ (LoopQ I n Γ Q) .normal E H := fun R a W hs ha => by
  have hmem : ∀ {E : Env} {t : Nat} {v : AV}, look E t = some v → (t, v) ∈ E := by
    intro E
    induction E with
    | nil => intro t v h; cases h
    | cons p r ih =>
      intro t v h
      unfold look at h
      cases hb : Nat.beq p.1 t with
      | true => rw [hb] at h; simp at h; subst h; have := Nat.eq_of_beq_eq_true hb; subst this; exact List.mem_cons_self ..
      | false => rw [hb] at h; exact List.mem_cons_of_mem _ (ih h)
  obtain ⟨H1, h1, h2⟩ := hH
  exact ⟨m, E0, H0, R, hm, hI, (hs.sub h1).perm h2, ⟨ha.defers, ha.size, fun t v ht => ha.slots t v (hE _ (hmem ht))⟩⟩
theorem AQ.loopX {I : Nat → Env → List HE → Prop} {n i : Nat} (h : AQ Γ Q (.exit i) E H) : AQ Γ (LoopQ I n Γ Q) (.exit i) E H := h
theorem AQ.loopR {I : Nat → Env → List HE → Prop} {n : Nat} (h : AQ Γ Q .ret E H) : AQ Γ (LoopQ I n Γ Q) .ret E H := h

/-- A plain fact that follows of the state. -/
theorem G.fact {X : Act → World → Prop} (φ : Prop) (h : ∀ R a W, RelS Γ R H W → RelA Γ.N R W E a → φ) (k : φ → G Γ E H X) : G Γ E H X := fun R a W hs ha => k (h R a W hs ha) R a W hs ha

/-- Fewer facts. -/
theorem G.weak {X : Act → World → Prop} (E0 : Env) (H0 : List HE) (hE : ∀ t v, look E0 t = some v → look E t = some v) (hH : ∃ H1, H1.Sublist H ∧ H0.Perm H1) (k : G Γ E0 H0 X) : G Γ E H X := fun R a W hs ha =>
  let ⟨H1, h1, h2⟩ := hH
  k R a W ((hs.sub h1).perm h2) ⟨ha.defers, ha.size, fun t v ht => ha.slots t v (hE t v ht)⟩

/-! ### Operations -/

def Is (v : AV) : AV → List HE → Prop := fun v' Hn => v' = v ∧ Hn = []

/-- One operation, in whatever world: what it yields, and what it makes. -/
def OpW (P : Program) (N : Nat) (o : Oper) (E : Env) (H : List HE) (Φ : AV → List HE → Prop) : Prop :=
  ∀ R a W, (∀ b, R b → b < W.heap.size) → (∀ e ∈ H, e.ok R W) → (∀ e ∈ H, ∀ b, e.foot b → ¬ R b) → RelA N R W E a →
    o.wp P a W (fun A' W' => ∃ u v Hn R', A' = a.put o.dst u ∧ Φ v Hn ∧ Post1 R W v Hn u W' R') NoQ

def wantedIs (ops : Array Oper) (E : Env) (o : Oper) : Option Bool :=
  match o.guard with
  | none => some true
  | some (g, want) => match (ops[g]?).bind (·.dst) with
    | some t => match look E t with
      | some (.val (.bool c)) => some (c == want)
      | _ => none
    | none => none

theorem wanted_is {ops : Array Oper} {N : Nat} {R : Nat → Prop} {W : World} {a : Act} {o : Oper} {c : Bool} (ha : RelA N R W E a) (h : wantedIs ops E o = some c) : Region.wanted o (yielded ops a.tmps) = c := by
  unfold wantedIs at h
  unfold Region.wanted
  cases hg : o.guard with
  | none => rw [hg] at h; simpa using h
  | some gw =>
    obtain ⟨g, want⟩ := gw
    rw [hg] at h
    simp only at h ⊢
    cases ht : (ops[g]?).bind (·.dst) with
    | none => rw [ht] at h; cases h
    | some t =>
      rw [ht] at h
      simp only at h
      split at h
      · rename_i b hl
        have hv := (ha.slots t _ hl).val_inv
        have hy : yielded ops a.tmps g = some b := by
          unfold yielded
          rw [ht]
          have : a.tmps[t]? = some (.bool b) := by
            simp only [Act.eval, Array.getD] at hv
            split at hv
            · rename_i h; simp [h]; exact hv
            · cases hv
          simp [this]
        rw [hy]
        cases h
        cases b <;> cases want <;> rfl
      · cases h

variable {ops : Array Oper} {rest : List Oper} {o : Oper} {N : Nat}

theorem AO.nil (h : AQ Γ Q .normal E H) : AO Γ P ops Q [] E H := h

/-- One operation, run or left out. -/
def OpF (P : Program) (N : Nat) (ops : Array Oper) (o : Oper) (E : Env) (H : List HE) (Φ : AV → List HE → Prop) : Prop :=
  ∀ R a W, (∀ b, R b → b < W.heap.size) → (∀ e ∈ H, e.ok R W) → (∀ e ∈ H, ∀ b, e.foot b → ¬ R b) → RelA N R W E a →
    FStep P ops o a W (fun u W' => ∃ v Hn R', Φ v Hn ∧ Post1 R W v Hn u W' R')

theorem OpF.run {Φ : AV → List HE → Prop} (hw : wantedIs ops E o = some true) (h : OpW P N o E H Φ) : OpF P N ops o E H Φ := fun R a W h1 h2 h3 h4 => by
  unfold FStep
  rw [if_pos (wanted_is h4 hw)]
  refine Oper.wp_mono ?_ (h R a W h1 h2 h3 h4)
  rintro A' W' ⟨u, v, Hn, R', rfl, h5, h6⟩
  exact ⟨u, rfl, v, Hn, R', h5, h6⟩
theorem Post1.undef {R : Nat → Prop} {W : World} {v : AV} (hv : RelV R W v undef) : Post1 R W v [] undef W R :=
  ⟨Mods.refl _ _, fun _ h => h, fun _ h => .inl h, hv, fun _ he => (by cases he), .nil⟩
theorem OpF.no (hw : wantedIs ops E o = some false) : OpF P N ops o E H (Is (.val undef)) := fun R a W h1 h2 h3 h4 => by
  unfold FStep
  rw [if_neg (by rw [wanted_is h4 hw]; simp)]
  exact ⟨_, [], R, ⟨rfl, rfl⟩, Post1.undef (.val _)⟩

/-- When a guarded operation runs. -/
def guardIs (ops : Array Oper) (E : Env) (o : Oper) : Option Bool :=
  match o.guard with
  | none => none
  | some (g, want) => match (ops[g]?).bind (·.dst) with
    | some t => match look E t with
      | some (.val (.bool p)) => some (bif want then p else !p)
      | some (.opt q (.val (.bool p))) => some (q && (bif want then p else !p))
      | _ => none
    | none => none
theorem guard_is {R : Nat → Prop} {W : World} {a : Act} {c : Bool} (ha : RelA N R W E a) (h : guardIs ops E o = some c) : Region.wanted o (yielded ops a.tmps) = c := by
  unfold guardIs at h
  unfold Region.wanted
  cases hg : o.guard with
  | none => rw [hg] at h; cases h
  | some gw =>
    obtain ⟨g, want⟩ := gw
    rw [hg] at h
    simp only at h ⊢
    cases ht : (ops[g]?).bind (·.dst) with
    | none => rw [ht] at h; cases h
    | some t =>
      rw [ht] at h
      simp only at h
      have hy : ∀ b, a.eval (.tmp t) = .bool b → yielded ops a.tmps g = some b := fun b hv => by
        unfold yielded
        rw [ht]
        have : a.tmps[t]? = some (.bool b) := by
          simp only [Act.eval, Array.getD] at hv
          split at hv
          · rename_i h; simp [h]; exact hv
          · cases hv
        simp [this]
      have hn : a.eval (.tmp t) = undef → yielded ops a.tmps g = none := fun hv => by
        unfold yielded
        rw [ht]
        simp only [Act.eval, Array.getD] at hv
        split at hv
        · rename_i h
          have : a.tmps[t]? = some undef := by simp [h]; exact hv
          simp [this, undef]
        · rename_i h
          have : a.tmps[t]? = none := by simp; omega
          simp [this]
      split at h
      · rename_i b hl
        rw [hy b (ha.slots t _ hl).val_inv]
        cases h
        cases b <;> cases want <;> rfl
      · rename_i q b hl
        obtain ⟨h1, h2⟩ := (ha.slots t _ hl).opt_inv
        cases q
        · rw [hn (h2 rfl)]
          cases h
          rfl
        · rw [hy b (h1 rfl).val_inv]
          cases h
          cases b <;> cases want <;> rfl
      · cases h
theorem OpF.opt {c : Bool} {v : AV} (hw : guardIs ops E o = some c) (h : c = true → OpW P N o E H (Is v)) : OpF P N ops o E H (Is (.opt c v)) := fun R a W h1 h2 h3 h4 => by
  unfold FStep
  rw [guard_is h4 hw]
  cases c
  · exact ⟨_, [], R, ⟨rfl, rfl⟩, Post1.undef (.opt _ _ _ (fun h => by cases h) (fun _ => rfl))⟩
  · refine Oper.wp_mono ?_ (h rfl R a W h1 h2 h3 h4)
    rintro A' W' ⟨u, v', Hn, R', rfl, ⟨rfl, rfl⟩, h6⟩
    exact ⟨u, rfl, _, [], R', ⟨rfl, rfl⟩, ⟨h6.ext, h6.sub, h6.new, .opt _ _ _ (fun _ => h6.val) (fun h => by cases h), h6.ok, h6.disj⟩⟩

theorem OpW.force {Φ : AV → List HE → Prop} (t : Nat) {c : Bool} {x : AV} (ht : look E t = some (.opt c x)) (hc : c = true) (h : OpW P N o ((t, x) :: E) H Φ) : OpW P N o E H Φ := fun R a W h1 h2 h3 h4 =>
  h R a W h1 h2 h3 ⟨h4.defers, h4.size, fun s v hs => by
    unfold look at hs
    cases hb : Nat.beq t s with
    | true => rw [hb] at hs; cases hs; have := Nat.eq_of_beq_eq_true hb; subst this; exact (h4.slots t _ ht).opt_inv.1 hc
    | false => rw [hb] at hs; exact h4.slots s v hs⟩

theorem AO.opF {d : Nat} {Φ : AV → List HE → Prop} (h : OpF P Γ.N ops o E H Φ) (hd : o.dst = some d) (hN : d < Γ.N) (k : ∀ v Hn, Φ v Hn → AO Γ P ops Q rest ((d, v) :: E) (Hn ++ H)) :
    AO Γ P ops Q (o :: rest) E H := fun R a W hs ha => by
  have := h R a W hs.rlt hs.ok (fun e he b hb => (hs.own e he b hb).2) ha
  unfold FStep at this
  unfold wpList
  split
  · rename_i hw
    rw [if_pos hw] at this
    refine .inl (wp_of_noQ (Oper.wp_mono ?_ this))
    rintro A' W' ⟨u, rfl, v, Hn, R', hΦ, hp⟩
    rw [hd]
    exact k v Hn hΦ R' _ W' (hs.step hp) ((ha.mono hp.sub (extSame hp.ext hs.rlt)).put hN hp.val)
  · rename_i hw
    rw [if_neg hw] at this
    obtain ⟨v, Hn, R', hΦ, hp⟩ := this
    rw [hd]
    exact k v Hn hΦ R' _ W (hs.step hp) ((ha.mono hp.sub (extSame hp.ext hs.rlt)).put hN hp.val)
theorem AO.opN {d : Nat} {Φ : AV → List HE → Prop} (h : OpW P Γ.N o E H Φ) (hw : wantedIs ops E o = some true) (hd : o.dst = some d) (hN : Nat.ble (d + 1) Γ.N = true) (k : ∀ v Hn, Φ v Hn → AO Γ P ops Q rest ((d, v) :: E) (Hn ++ H)) :
    AO Γ P ops Q (o :: rest) E H := AO.opF (.run hw h) hd (Nat.le_of_ble_eq_true hN) k
theorem AO.op {d : Nat} {v : AV} (h : OpW P Γ.N o E H (Is v)) (hw : wantedIs ops E o = some true) (hd : o.dst = some d) (hN : Nat.ble (d + 1) Γ.N = true) (k : AO Γ P ops Q rest ((d, v) :: E) H) :
    AO Γ P ops Q (o :: rest) E H := AO.opN h hw hd hN (by rintro _ _ ⟨rfl, rfl⟩; exact k)
/-- A guarded operation, whose guard is not known. -/
theorem AO.opG {d : Nat} {c : Bool} {v : AV} (hw : guardIs ops E o = some c) (hd : o.dst = some d) (hN : Nat.ble (d + 1) Γ.N = true) (h : c = true → OpW P Γ.N o E H (Is v)) (k : AO Γ P ops Q rest ((d, .opt c v) :: E) H) :
    AO Γ P ops Q (o :: rest) E H := AO.opF (.opt hw h) hd (Nat.le_of_ble_eq_true hN) (by rintro _ _ ⟨rfl, rfl⟩; exact k)
/-- An operation whose yield nobody keeps. -/
theorem AO.opU {Φ : AV → List HE → Prop} (h : OpW P Γ.N o E H Φ) (hw : wantedIs ops E o = some true) (hd : o.dst = none) (k : ∀ v Hn, Φ v Hn → AO Γ P ops Q rest E (Hn ++ H)) :
    AO Γ P ops Q (o :: rest) E H := fun R a W hs ha => by
  unfold wpList
  rw [if_pos (wanted_is ha hw)]
  refine .inl (wp_of_noQ (Oper.wp_mono ?_ (h R a W hs.rlt hs.ok (fun e he b hb => (hs.own e he b hb).2) ha)))
  rintro A' W' ⟨u, v, Hn, R', rfl, hΦ, hp⟩
  rw [hd]
  exact k v Hn hΦ R' _ W' (hs.step hp) (ha.mono hp.sub (extSame hp.ext hs.rlt))
theorem AO.no {d : Nat} (hw : wantedIs ops E o = some false) (hd : o.dst = some d) (hN : Nat.ble (d + 1) Γ.N = true) (k : AO Γ P ops Q rest ((d, .val undef) :: E) H) : AO Γ P ops Q (o :: rest) E H :=
  AO.opF (.no hw) hd (Nat.le_of_ble_eq_true hN) (by rintro _ _ ⟨rfl, rfl⟩; exact k)

theorem AW.region {id : Nat} {l : List Oper} (h : AO Γ P l.toArray Q l E H) : AW Γ P Q (.region id l.toArray false) E H := fun R a W hs ha => wp_region_lit (h R a W hs ha)

theorem Post1.same {R : Nat → Prop} {W : World} {v : AV} {u : Value} (hR : ∀ b, R b → b < W.heap.size) (h : RelV R W v u) : Post1 R W v [] u W R :=
  ⟨Mods.refl _ _, fun _ h => h, fun _ h => .inl h, h, fun _ he => (by cases he), .nil⟩

theorem OpW.of_run {v : AV} (h : ∀ R a W, (∀ b, R b → b < W.heap.size) → (∀ e ∈ H, e.ok R W) → RelA N R W E a → ∃ u, (execOp a.eval o).run P W = .ok (.value u) W ∧ RelV R W v u) : OpW P N o E H (Is v) := fun R a W h1 h2 h3 h4 => by
  obtain ⟨u, hr, hv⟩ := h R a W h1 h2 h4
  unfold Oper.wp
  rw [hr]
  exact ⟨u, v, [], R, rfl, ⟨rfl, rfl⟩, Post1.same h1 hv⟩

end
end Go.Proofs.Ytiddmpmpjdnmeaa.A
