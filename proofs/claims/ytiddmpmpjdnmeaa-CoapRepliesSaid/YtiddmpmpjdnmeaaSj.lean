/-
  Over a symbolic state: parts of slices.
-/
import Derived.Test.YtiddmpmpjdnmeaaSi
namespace Go.Proofs.Ytiddmpmpjdnmeaa.A
open Go.RowKit L
set_option linter.unusedVariables false
set_option linter.unusedSimpArgs false

def bndV (E : Env) : Option Operand → Nat → Option Int
  | none, d => some d
  | some x, _ => match ev E x with
    | some (.val (.int _ z)) => some z
    | _ => none

section
variable {Γ : Cx} {P : Program} {Q : Exit → Act → World → Prop} {E : Env} {H : List HE} {N : Nat} {o : Oper} {ops : Array Oper} {rest : List Oper}

theorem bnd_ev {R : Nat → Prop} {W : World} {a : Act} {x : Operand} {d : Nat} {z : Int} (ha : RelA N R W E a) (h : bndV E (some x) d = some z) : ∃ k, a.eval x = .int k z := by
  unfold bndV at h
  simp only at h
  split at h
  · rename_i k z' hx
    cases h
    exact ⟨k, (ha.ev hx).val_inv⟩
  · cases h

theorem run_sliceBounds2 {R : Nat → Prop} {W : World} {a : Act} {low high : Option Operand} {n cap : Nat} {l h : Int} (ha : RelA N R W E a) (hl : bndV E low 0 = some l) (hh : bndV E high n = some h) (h0 : 0 ≤ l ∧ l ≤ h ∧ h ≤ n) (hc : n ≤ cap) :
    (Instr.sliceBounds true n cap (low.map a.eval) (high.map a.eval) none).run P W = .ok (l.toNat, h.toNat, cap) W := by
  obtain ⟨h1, h2, h3⟩ := h0
  have hhc : h ≤ (cap : Int) := by omega
  cases high with
  | none =>
    obtain rfl : (n : Int) = h := by simpa [bndV] using hh
    cases low with
    | none =>
      obtain rfl : (0 : Int) = l := by simpa [bndV] using hl
      simp [Instr.sliceBounds]
    | some x =>
      obtain ⟨k, hk⟩ := bnd_ev ha hl
      simp [Instr.sliceBounds, Instr.sliceBound, hk, asIntOf, h1, h2]
  | some y =>
    obtain ⟨k', hk'⟩ := bnd_ev ha hh
    have h4 : 0 ≤ h := by omega
    cases low with
    | none =>
      obtain rfl : (0 : Int) = l := by simpa [bndV] using hl
      simp [Instr.sliceBounds, Instr.sliceBound, hk', asIntOf, h4, hhc]
    | some x =>
      obtain ⟨k, hk⟩ := bnd_ev ha hl
      have h5 : l ≤ max h 0 := by omega
      simp [Instr.sliceBounds, Instr.sliceBound, hk, hk', asIntOf, h1, h4, hhc]
      omega

/-- A box that is written no more. -/
theorem G.freezePtr {X : Act → World → Prop} (i t : Nat) {b T room : Nat} {xs : List AV} (hi : H[i]? = some (.blk b T room xs)) (ht : look E t = some (.val (.pointer (some ⟨b, 0, none⟩)))) (k : G Γ ((t, .rp xs 0) :: E) (H.eraseIdx i) X) : G Γ E H X :=
  G.freezeBlk i hi [(t, .rp xs 0)] (fun p hp => by
    obtain rfl : p = (t, .rp xs 0) := by simpa using hp
    exact .inl ⟨0, ht, rfl⟩) k
/-- A slice from a block's head that is written no more. -/
theorem G.freezeSl {X : Act → World → Prop} (i t : Nat) {b T room n cap : Nat} {xs : List AV} (hi : H[i]? = some (.blk b T room xs)) (ht : look E t = some (.val (.slice (some ⟨b, 0, none⟩) n cap))) (hc : n ≤ cap ∧ cap ≤ maxLen) (k : G Γ ((t, .ro (Nat.beq n cap) n xs) :: E) (H.eraseIdx i) X) : G Γ E H X :=
  G.freezeBlk i hi [(t, .ro (Nat.beq n cap) n xs)] (fun p hp => by
    obtain rfl : p = (t, .ro (Nat.beq n cap) n xs) := by simpa using hp
    exact .inr ⟨n, cap, ht, rfl, hc.1, hc.2⟩) k
theorem frNil {v : AV} : ∀ t ∈ ([] : List Nat), look E t = some v := fun _ h => by cases h
theorem frCons {t : Nat} {r : List Nat} {v : AV} (h : look E t = some v) (hr : ∀ t ∈ r, look E t = some v) : ∀ s ∈ t :: r, look E s = some v := fun s hs => by
  rcases List.mem_cons.1 hs with rfl | hs
  · exact h
  · exact hr s hs
/-- x[l:h] of a slice that is read only. -/
theorem O.sliceR {T : Nat} {x : Operand} {low high : Option Operand} {full : Bool} {n : Nat} {xs ys : List AV} {l h : Int} {U sz bs m : Nat} {zz : Value} [hs : TyS P T U sz bs zz] (ho : o.op = .slice T x low high none) (hx : ev E x = some (.ro full n xs)) (hl : bndV E low 0 = some l) (hh : bndV E high n = some h) (h0 : 0 ≤ l ∧ l ≤ h ∧ h ≤ n)
    (hm : h.toNat - l.toNat = m) (hy : (xs.drop (l.toNat * sz)).take (m * sz) = ys) (hys : m = 0 → ys = []) : OpW P N o E H (Is (.ro false m ys)) := .of_run fun R a W h1 h2 ha => by
  obtain ⟨i, hi, hi2, -⟩ := hs.el
  have hv := ha.ev hx
  generalize hu : a.eval x = u at *
  cases hv with
  | emp _ ad cap h3 h4 =>
    have hb := run_sliceBounds2 (P := P) (W := W) (cap := cap) ha hl hh h0 (Nat.zero_le _)
    obtain ⟨g1, g2, g3⟩ := h0
    simp at g3
    obtain rfl : l = 0 := by omega
    obtain rfl : h = 0 := by omega
    simp at hm
    subst hm
    rw [hys rfl]
    refine ⟨.slice (if cap = 0 then ad else ad.map (·.add (0 * sz))) 0 (cap - 0), ?_, .emp _ _ _ (fun h => by cases h) (by omega)⟩
    simp [execOp, ho, hu, Instr.sliceAt, Instr.slice, run_underlying hs.ty, hb, sizeOf, typeInfo, hi, hi2]
  | ro _ _ _ b off cap us hb' hc hr h3 h4 h5 =>
    have hb := run_sliceBounds2 (P := P) (W := W) (cap := cap) ha hl hh h0 h3
    obtain ⟨g1, g2, g3⟩ := h0
    have hlen : l.toNat ≤ h.toNat := by omega
    have hhn : h.toNat ≤ n := by omega
    refine ⟨.slice (if cap = l.toNat then some ⟨b, off, none⟩ else some ⟨b, off + l.toNat * sz, none⟩) (h.toNat - l.toNat) (cap - l.toNat), ?_, ?_⟩
    · simp only [execOp, ho, hu, Instr.sliceAt, Instr.slice, run_underlying hs.ty, Sem.run_bind, Result.andThen_ok, hb, sizeOf, typeInfo, hi, hi2, run_program, Sem.run_pure, Option.map_none]
      split <;> simp [addr_add]
    · rw [hm]
      by_cases hz : cap = l.toNat
      · rw [if_pos hz]
        have : m = 0 := by omega
        subst this
        rw [hys rfl]
        exact .emp _ _ _ (fun h => by cases h) (by omega)
      · rw [if_neg hz]
        subst hy
        refine .ro _ _ _ b (off + l.toNat * sz) _ (fun j => us (l.toNat * sz + j)) hb' (fun j hj => ?_) (fun j hj => ?_) (by omega) (by omega) (fun h => by cases h)
        · simp at hj
          rw [Nat.add_assoc]
          exact hc _ (by omega)
        · simp only [List.getElem_take, List.getElem_drop]
          simp at hj
          exact hr _ (by omega)
theorem allLt {p : Nat → Prop} {j : Nat} (h : ∀ i, i < j → p i) (hj : p j) : ∀ i, i < j + 1 → p i := fun i hi => by
  rcases Nat.lt_or_eq_of_le (Nat.le_of_lt_succ hi) with h' | rfl
  · exact h i h'
  · exact hj
/-- x[:k], x[k:] -/
theorem O.sliceTo {T : Nat} {x y : Operand} {full : Bool} {n k : Nat} {kk : IntKind} {z : Int} {xs ys : List AV} {U sz bs : Nat} {zz : Value} [hs : TyS P T U sz bs zz] (ho : o.op = .slice T x none (some y) none) (hx : ev E x = some (.ro full n xs)) (hy : ev E y = some (.val (.int kk z))) (hz : z = (k : Int)) (hk : k ≤ n) (hys : xs.take (k * sz) = ys) :
    OpW P N o E H (Is (.ro false k ys)) := by
  subst hz
  refine O.sliceR (l := 0) (h := (k : Int)) ho hx rfl (by simp [bndV, hy]) ⟨by omega, by omega, by omega⟩ (by simp) (by simpa using hys) (fun h => ?_)
  subst h; rw [← hys]; simp
theorem O.sliceFrom {T : Nat} {x y : Operand} {full : Bool} {n k : Nat} {kk : IntKind} {z : Int} {xs ys : List AV} {U sz bs : Nat} {zz : Value} [hs : TyS P T U sz bs zz] (ho : o.op = .slice T x (some y) none none) (hx : ev E x = some (.ro full n xs)) (hy : ev E y = some (.val (.int kk z))) (hz : z = (k : Int)) (hk : k ≤ n) (hl : xs.length = n * sz) (hys : xs.drop (k * sz) = ys) :
    OpW P N o E H (Is (.ro false (n - k) ys)) := by
  subst hz
  have hlen : (xs.drop (k * sz)).length = (n - k) * sz := by rw [List.length_drop, hl, Nat.sub_mul]
  refine O.sliceR (l := (k : Int)) (h := (n : Int)) (m := n - k) ho hx (by simp [bndV, hy]) rfl ⟨by omega, by omega, by omega⟩ (by simp) ?_ (fun h => ?_)
  · simp only [Int.toNat_natCast]
    rw [List.take_of_length_le (by rw [hlen]; exact Nat.le_refl _), hys]
  · rw [← hys]; exact List.eq_nil_of_length_eq_zero (by rw [hlen, h, Nat.zero_mul])
end
end Go.Proofs.Ytiddmpmpjdnmeaa.A
