/-
  Layer 15, plainly: the encoding of messages, which are valid; the extension of a number, both.
-/
import Derived.Test.YtiddmpmpjdnmeaaMs
namespace Go.Proofs.Ytiddmpmpjdnmeaa.By
open Go.RowKit L A
set_option linter.unusedVariables false
set_option linter.unusedSimpArgs false
attribute [local irreducible] AW AQ AO

/-- The four bits and the extension of a number. -/
def ext (n : Int) : Int × List UInt8 := if n < 13 then (n, []) else if n < 269 then (13, [u8 (n - 13)]) else (14, [u8 ((n - 269) / 256), u8 (n - 269)])
theorem ext_le (n : Int) (h : 0 ≤ n) : 0 ≤ (ext n).1 ∧ (ext n).1 ≤ 14 := by unfold ext; (repeat' split) <;> simp <;> omega
theorem ext_len (n : Int) : (ext n).2.length ≤ 2 := by unfold ext; (repeat' split) <;> simp
def hdr (d n : Int) : List UInt8 := u8 (16 * (ext d).1 + (ext n).1) :: ((ext d).2 ++ (ext n).2)
theorem hdr_len (d n : Int) : (hdr d n).length ≤ 5 := by
  have := ext_len d
  have := ext_len n
  simp only [hdr, List.length_cons, List.length_append]; omega
def rawO : Int → List Opt → List UInt8
  | _, [] => []
  | l, o :: os => hdr (o.num - l) o.val.length ++ o.val ++ rawO o.num os
def lastO : Int → List Opt → Int
  | l, [] => l
  | _, o :: os => lastO o.num os
theorem rawO_snoc (o : Opt) : ∀ (l : Int) (os : List Opt), rawO l (os ++ [o]) = rawO l os ++ (hdr (o.num - lastO l os) o.val.length ++ o.val)
  | l, [] => by simp [rawO, lastO]
  | l, p :: os => by simp [rawO, lastO, rawO_snoc o p.num os]
theorem lastO_snoc (o : Opt) : ∀ (l : Int) (os : List Opt), lastO l (os ++ [o]) = o.num
  | l, [] => rfl
  | l, p :: os => lastO_snoc o p.num os
def AscO : Int → List Opt → Prop
  | _, [] => True
  | l, o :: os => l ≤ o.num ∧ o.num ≤ 65535 ∧ (o.val.length : Int) ≤ 1034 ∧ AscO o.num os
instance AscO.dec : ∀ (l : Int) (os : List Opt), Decidable (AscO l os)
  | _, [] => isTrue trivial
  | l, o :: os => by
    unfold AscO
    have := AscO.dec o.num os
    infer_instance
theorem AscO_snoc (o : Opt) : ∀ (l : Int) (os : List Opt), AscO l (os ++ [o]) ↔ AscO l os ∧ lastO l os ≤ o.num ∧ o.num ≤ 65535 ∧ (o.val.length : Int) ≤ 1034
  | l, [] => by simp [AscO, lastO]
  | l, p :: os => by simp only [List.cons_append, AscO, lastO, AscO_snoc o p.num os]; constructor <;> (rintro h; simp_all)
theorem AscO_app : ∀ {l : Int} {os ps : List Opt}, AscO l (os ++ ps) → AscO l os
  | l, [], ps, h => trivial
  | l, o :: os, ps, h => ⟨h.1, h.2.1, h.2.2.1, AscO_app h.2.2.2⟩
theorem AscO_take {l : Int} {os : List Opt} (h : AscO l os) (k : Nat) : AscO l (os.take k) := AscO_app (ps := os.drop k) (by rw [List.take_append_drop]; exact h)
theorem AscO_at {l : Int} {os : List Opt} (h : AscO l os) {k : Nat} (hk : k < os.length) : lastO l (os.take k) ≤ (oat os k).num ∧ (oat os k).num ≤ 65535 ∧ ((oat os k).val.length : Int) ≤ 1034 := by
  have := AscO_take h (k + 1)
  rw [take_snoc Opt.none hk, AscO_snoc] at this
  exact this.2
theorem lastO_ge : ∀ {l : Int} {os : List Opt}, AscO l os → l ≤ lastO l os ∧ (os ≠ [] → lastO l os ≤ 65535)
  | l, [], h => ⟨Int.le_refl _, fun h => absurd rfl h⟩
  | l, o :: os, h => by
    have := lastO_ge h.2.2.2
    refine ⟨Int.le_trans h.1 this.1, fun _ => ?_⟩
    cases os with
    | nil => exact h.2.1
    | cons p os => exact this.2 (by simp)
theorem lastO_le {l : Int} {os : List Opt} (h : AscO l os) (hl : l ≤ 65535) : l ≤ lastO l os ∧ lastO l os ≤ 65535 := by
  refine ⟨(lastO_ge h).1, ?_⟩
  cases os with
  | nil => exact hl
  | cons p os => exact (lastO_ge h).2 (by simp)
theorem rawO_len : ∀ {l : Int} {os : List Opt}, AscO l os → (rawO l os).length ≤ os.length * 1039
  | l, [], _ => by simp [rawO]
  | l, o :: os, h => by
    have h1 := rawO_len h.2.2.2
    have h2 := hdr_len (o.num - l) o.val.length
    have h3 := h.2.2.1
    simp only [rawO, List.length_append, List.length_cons]; omega

def headM (m : Msg) : List UInt8 := [u8 (64 + 16 * m.ty + m.tok.length), u8 m.code, u8 (m.id / 256), u8 m.id]
def raw (m : Msg) : List UInt8 := headM m ++ m.tok ++ rawO 0 m.opts ++ (if m.pay = [] then [] else 255 :: m.pay)
def ClsOk (c : Int) : Prop := c / 32 = 0 ∨ c / 32 = 2 ∨ c / 32 = 4 ∨ c / 32 = 5
/-- The fields of a message are valid. -/
def OkM (m : Msg) : Prop := (0 ≤ m.ty ∧ m.ty ≤ 3 ∧ 0 ≤ m.code ∧ m.code ≤ 255 ∧ ClsOk m.code) ∧ (0 ≤ m.id ∧ m.id ≤ 65535 ∧ (m.tok.length : Int) ≤ 8 ∧ (m.opts.length : Int) ≤ 32) ∧ AscO 0 m.opts ∧
  (m.code = 0 → (m.tok.length : Int) + m.opts.length + m.pay.length ≤ 0) ∧ (m.ty = 3 → m.code = 0) ∧ (m.pay.length : Int) ≤ 4096
instance (c : Int) : Decidable (ClsOk c) := by unfold ClsOk; infer_instance
instance (m : Msg) : Decidable (OkM m) := by unfold OkM; infer_instance
def ValM (m : Msg) : Prop := OkM m ∧ ((raw m).length : Int) ≤ 4096
instance (m : Msg) : Decidable (ValM m) := by unfold ValM; infer_instance
theorem raw_len {m : Msg} (h : OkM m) : (raw m).length ≤ 100000 := by
  have h1 := rawO_len h.2.2.1
  have h2 := h.2.1.2.2.1
  have h3 := h.2.1.2.2.2
  have h4 := h.2.2.2.2.2
  have h5 : (if m.pay = [] then [] else (255 : UInt8) :: m.pay).length ≤ m.pay.length + 1 := by split <;> simp
  simp only [raw, headM, List.length_append, List.length_cons, List.length_nil] at h5 ⊢
  omega

theorem extended_fn (n : Int) (hn : -1152921504606846976 ≤ n ∧ n ≤ 1152921504606846976) : Sp Try.prog 35 [.val (.int .i64 n)] [] (Is (.tup [.val (.int .i64 (ext n).1), roB (ext n).2])) := by
  refine Sp.enter Try.func35 rfl _ Try.ntmps35 rfl (fun w0 R0 => ?_)
  refine AW.seq ?_
  refine AW.region ?_
  refine AO.op (O.assign rfl rfl) rfl rfl rfl ?_
  refine AO.op (O.assign rfl rfl) rfl rfl rfl ?_
  refine AO.nil ?_
  refine AQ.thenN ?_
  refine AW.seq ?_
  refine AW.block ?_
  refine AW.seq ?_
  refine AW.region ?_
  refine AO.op (O.move rfl rfl) rfl rfl rfl ?_
  refine AO.op (O.lss rfl rfl rfl (by first | exact bTrue (by omega) | exact bFalse (by omega) | assumption | rfl)) rfl rfl rfl ?_
  refine AO.op (O.assign rfl rfl) rfl rfl rfl ?_
  refine AO.nil ?_
  refine AQ.thenN ?_
  refine AW.split rfl (fun h => ?_) (fun h => ?_) <;> (try simp only [decide_eq_true_eq, decide_eq_false_iff_not, beq_iff_eq, beq_eq_false_iff_ne, bne_iff_ne, bne_eq_false_iff_eq, Bool.not_eq_true', Bool.not_eq_false', Bool.not_eq_true, Bool.not_eq_false, ne_eq, Int.not_lt, Int.not_le, Bool.and_eq_true, Bool.or_eq_true, Bool.or_eq_false_iff, Bool.and_eq_false_imp, strOf_toList, Decidable.not_not] at h)
  · skip
    have e : ext n = (n, []) := by unfold ext; rw [if_pos h]
    refine AW.seq ?_
    refine AW.region ?_
    refine AO.op (O.move rfl rfl) rfl rfl rfl ?_
    refine AO.op (O.assign rfl rfl) rfl rfl rfl ?_
    refine AO.op (O.assign rfl rfl) rfl rfl rfl ?_
    refine AO.nil ?_
    refine AQ.thenN ?_
    refine AW.ret ?_
    refine AQ.blockR ?_
    refine AQ.thenR ?_
    refine AQ.g ?_
    first | (refine G.unfull 3 rfl ?_) | (refine G.nilRo 3 rfl ?_) | (refine G.freezeRow 0 rfl [3] (by repeat (first | exact frNil | refine frCons rfl ?_)) ?_) | (refine G.freezeRow 1 rfl [3] (by repeat (first | exact frNil | refine frCons rfl ?_)) ?_) | (refine G.freezeRow 2 rfl [3] (by repeat (first | exact frNil | refine frCons rfl ?_)) ?_) | (refine G.freezeRow 3 rfl [3] (by repeat (first | exact frNil | refine frCons rfl ?_)) ?_) | (refine G.freezeRow 4 rfl [3] (by repeat (first | exact frNil | refine frCons rfl ?_)) ?_) | (refine G.freezeRow 5 rfl [3] (by repeat (first | exact frNil | refine frCons rfl ?_)) ?_) | (refine G.freezeRow 6 rfl [3] (by repeat (first | exact frNil | refine frCons rfl ?_)) ?_) | (refine G.freezeRow 7 rfl [3] (by repeat (first | exact frNil | refine frCons rfl ?_)) ?_) | (refine G.freezeSl 0 3 rfl rfl ⟨Nat.le_refl _, by unfold maxLen; omega⟩ ?_; refine G.unfull 3 rfl ?_) | (refine G.freezeSl 1 3 rfl rfl ⟨Nat.le_refl _, by unfold maxLen; omega⟩ ?_; refine G.unfull 3 rfl ?_) | (refine G.freezeSl 2 3 rfl rfl ⟨Nat.le_refl _, by unfold maxLen; omega⟩ ?_; refine G.unfull 3 rfl ?_) | (refine G.freezeSl 3 3 rfl rfl ⟨Nat.le_refl _, by unfold maxLen; omega⟩ ?_; refine G.unfull 3 rfl ?_) | (refine G.freezeSl 4 3 rfl rfl ⟨Nat.le_refl _, by unfold maxLen; omega⟩ ?_; refine G.unfull 3 rfl ?_) | (refine G.freezeSl 5 3 rfl rfl ⟨Nat.le_refl _, by unfold maxLen; omega⟩ ?_; refine G.unfull 3 rfl ?_) | (refine G.freezeSl 6 3 rfl rfl ⟨Nat.le_refl _, by unfold maxLen; omega⟩ ?_; refine G.unfull 3 rfl ?_) | (refine G.freezeSl 7 3 rfl rfl ⟨Nat.le_refl _, by unfold maxLen; omega⟩ ?_; refine G.unfull 3 rfl ?_)
    refine AQ.u ?_
    try dsimp only [List.map, List.eraseIdx, List.cons_append, List.nil_append]
    refine AQ.ret2 rfl rfl rfl ⟨_, List.nil_sublist _, .nil⟩ (⟨by rw [e]; rfl, rfl⟩)
  · skip
    refine AW.seq ?_
    refine AW.region ?_
    refine AO.op (O.move rfl rfl) rfl rfl rfl ?_
    refine AO.op (O.lss rfl rfl rfl (by first | exact bTrue (by omega) | exact bFalse (by omega) | assumption | rfl)) rfl rfl rfl ?_
    refine AO.op (O.assign rfl rfl) rfl rfl rfl ?_
    refine AO.nil ?_
    refine AQ.thenN ?_
    refine AW.split rfl (fun h2 => ?_) (fun h2 => ?_) <;> (try simp only [decide_eq_true_eq, decide_eq_false_iff_not, beq_iff_eq, beq_eq_false_iff_ne, bne_iff_ne, bne_eq_false_iff_eq, Bool.not_eq_true', Bool.not_eq_false', Bool.not_eq_true, Bool.not_eq_false, ne_eq, Int.not_lt, Int.not_le, Bool.and_eq_true, Bool.or_eq_true, Bool.or_eq_false_iff, Bool.and_eq_false_imp, strOf_toList, Decidable.not_not] at h2)
    · skip
      have e : ext n = (13, [u8 (n - 13)]) := by unfold ext; rw [if_neg (by omega), if_pos h2]
      refine AW.seq ?_
      refine AW.region ?_
      refine AO.op (O.move rfl rfl) rfl rfl rfl ?_
      refine AO.op (O.sub rfl rfl rfl (by first | exact wI64 (by omega) | rfl)) rfl rfl rfl ?_
      refine AO.op (O.conv rfl rfl wU8any) rfl rfl rfl ?_
      refine AO.opB (O.buildSlice rfl rfl rfl (by rfl) (by rfl) (by rfl) (by rfl)) rfl rfl rfl ?_
      intro B1
      refine AO.op (O.assign rfl rfl) rfl rfl rfl ?_
      refine AO.op (O.assign rfl rfl) rfl rfl rfl ?_
      refine AO.nil ?_
      refine AQ.thenN ?_
      refine AW.ret ?_
      refine AQ.blockR ?_
      refine AQ.thenR ?_
      refine AQ.g ?_
      first | (refine G.unfull 3 rfl ?_) | (refine G.nilRo 3 rfl ?_) | (refine G.freezeRow 0 rfl [3] (by repeat (first | exact frNil | refine frCons rfl ?_)) ?_) | (refine G.freezeRow 1 rfl [3] (by repeat (first | exact frNil | refine frCons rfl ?_)) ?_) | (refine G.freezeRow 2 rfl [3] (by repeat (first | exact frNil | refine frCons rfl ?_)) ?_) | (refine G.freezeRow 3 rfl [3] (by repeat (first | exact frNil | refine frCons rfl ?_)) ?_) | (refine G.freezeRow 4 rfl [3] (by repeat (first | exact frNil | refine frCons rfl ?_)) ?_) | (refine G.freezeRow 5 rfl [3] (by repeat (first | exact frNil | refine frCons rfl ?_)) ?_) | (refine G.freezeRow 6 rfl [3] (by repeat (first | exact frNil | refine frCons rfl ?_)) ?_) | (refine G.freezeRow 7 rfl [3] (by repeat (first | exact frNil | refine frCons rfl ?_)) ?_) | (refine G.freezeSl 0 3 rfl rfl ⟨Nat.le_refl _, by unfold maxLen; omega⟩ ?_; refine G.unfull 3 rfl ?_) | (refine G.freezeSl 1 3 rfl rfl ⟨Nat.le_refl _, by unfold maxLen; omega⟩ ?_; refine G.unfull 3 rfl ?_) | (refine G.freezeSl 2 3 rfl rfl ⟨Nat.le_refl _, by unfold maxLen; omega⟩ ?_; refine G.unfull 3 rfl ?_) | (refine G.freezeSl 3 3 rfl rfl ⟨Nat.le_refl _, by unfold maxLen; omega⟩ ?_; refine G.unfull 3 rfl ?_) | (refine G.freezeSl 4 3 rfl rfl ⟨Nat.le_refl _, by unfold maxLen; omega⟩ ?_; refine G.unfull 3 rfl ?_) | (refine G.freezeSl 5 3 rfl rfl ⟨Nat.le_refl _, by unfold maxLen; omega⟩ ?_; refine G.unfull 3 rfl ?_) | (refine G.freezeSl 6 3 rfl rfl ⟨Nat.le_refl _, by unfold maxLen; omega⟩ ?_; refine G.unfull 3 rfl ?_) | (refine G.freezeSl 7 3 rfl rfl ⟨Nat.le_refl _, by unfold maxLen; omega⟩ ?_; refine G.unfull 3 rfl ?_)
      refine AQ.u ?_
      try dsimp only [List.map, List.eraseIdx, List.cons_append, List.nil_append]
      refine AQ.ret2 rfl rfl rfl ⟨_, List.nil_sublist _, .nil⟩ (⟨by rw [e]; rfl, rfl⟩)
    · skip
      have e : ext n = (14, [u8 ((n - 269) / 256), u8 (n - 269)]) := by unfold ext; rw [if_neg (by omega), if_neg (by omega)]
      refine AW.skip ?_
      refine AQ.blockN ?_
      refine AQ.thenN ?_
      refine AW.seq ?_
      refine AW.region ?_
      refine AO.op (O.move rfl rfl) rfl rfl rfl ?_
      refine AO.op (O.sub rfl rfl rfl (by first | exact wI64 (by omega) | rfl)) rfl rfl rfl ?_
      refine AO.op (O.shrK 8 256 rfl rfl rfl rfl (by rfl)) rfl rfl rfl ?_
      refine AO.op (O.conv rfl rfl wU8any) rfl rfl rfl ?_
      refine AO.op (O.move rfl rfl) rfl rfl rfl ?_
      refine AO.op (O.sub rfl rfl rfl (by first | exact wI64 (by omega) | rfl)) rfl rfl rfl ?_
      refine AO.op (O.conv rfl rfl wU8any) rfl rfl rfl ?_
      refine AO.opB (O.buildSlice rfl rfl rfl (by rfl) (by rfl) (by rfl) (by rfl)) rfl rfl rfl ?_
      intro B2
      refine AO.op (O.assign rfl rfl) rfl rfl rfl ?_
      refine AO.op (O.assign rfl rfl) rfl rfl rfl ?_
      refine AO.nil ?_
      refine AQ.thenN ?_
      refine AW.ret ?_
      refine AQ.g ?_
      first | (refine G.unfull 3 rfl ?_) | (refine G.nilRo 3 rfl ?_) | (refine G.freezeRow 0 rfl [3] (by repeat (first | exact frNil | refine frCons rfl ?_)) ?_) | (refine G.freezeRow 1 rfl [3] (by repeat (first | exact frNil | refine frCons rfl ?_)) ?_) | (refine G.freezeRow 2 rfl [3] (by repeat (first | exact frNil | refine frCons rfl ?_)) ?_) | (refine G.freezeRow 3 rfl [3] (by repeat (first | exact frNil | refine frCons rfl ?_)) ?_) | (refine G.freezeRow 4 rfl [3] (by repeat (first | exact frNil | refine frCons rfl ?_)) ?_) | (refine G.freezeRow 5 rfl [3] (by repeat (first | exact frNil | refine frCons rfl ?_)) ?_) | (refine G.freezeRow 6 rfl [3] (by repeat (first | exact frNil | refine frCons rfl ?_)) ?_) | (refine G.freezeRow 7 rfl [3] (by repeat (first | exact frNil | refine frCons rfl ?_)) ?_) | (refine G.freezeSl 0 3 rfl rfl ⟨Nat.le_refl _, by unfold maxLen; omega⟩ ?_; refine G.unfull 3 rfl ?_) | (refine G.freezeSl 1 3 rfl rfl ⟨Nat.le_refl _, by unfold maxLen; omega⟩ ?_; refine G.unfull 3 rfl ?_) | (refine G.freezeSl 2 3 rfl rfl ⟨Nat.le_refl _, by unfold maxLen; omega⟩ ?_; refine G.unfull 3 rfl ?_) | (refine G.freezeSl 3 3 rfl rfl ⟨Nat.le_refl _, by unfold maxLen; omega⟩ ?_; refine G.unfull 3 rfl ?_) | (refine G.freezeSl 4 3 rfl rfl ⟨Nat.le_refl _, by unfold maxLen; omega⟩ ?_; refine G.unfull 3 rfl ?_) | (refine G.freezeSl 5 3 rfl rfl ⟨Nat.le_refl _, by unfold maxLen; omega⟩ ?_; refine G.unfull 3 rfl ?_) | (refine G.freezeSl 6 3 rfl rfl ⟨Nat.le_refl _, by unfold maxLen; omega⟩ ?_; refine G.unfull 3 rfl ?_) | (refine G.freezeSl 7 3 rfl rfl ⟨Nat.le_refl _, by unfold maxLen; omega⟩ ?_; refine G.unfull 3 rfl ?_)
      refine AQ.u ?_
      try dsimp only [List.map, List.eraseIdx, List.cons_append, List.nil_append]
      refine AQ.ret2 rfl rfl rfl ⟨_, List.nil_sublist _, .nil⟩ (⟨by rw [e]; rfl, rfl⟩)
theorem parts_fn (n : Int) (hn : -1152921504606846976 ≤ n ∧ n ≤ 1152921504606846976) : Sp Try.prog 50 [.val (.int .i64 n)] [] (Is (.tup [.val (.int .u8 ((u8 (ext n).1).toNat : Int)), roB (ext n).2])) := by
  refine Sp.enter Try.func50 rfl _ Try.ntmps50 rfl (fun w0 R0 => ?_)
  refine AW.seq ?_
  refine AW.region ?_
  refine AO.op (O.assign rfl rfl) rfl rfl rfl ?_
  refine AO.op (O.assign rfl rfl) rfl rfl rfl ?_
  refine AO.nil ?_
  refine AQ.thenN ?_
  refine AW.seq ?_
  refine AW.block ?_
  refine AW.seq ?_
  refine AW.region ?_
  refine AO.op (O.move rfl rfl) rfl rfl rfl ?_
  refine AO.op (O.lss rfl rfl rfl (by first | exact bTrue (by omega) | exact bFalse (by omega) | assumption | rfl)) rfl rfl rfl ?_
  refine AO.op (O.assign rfl rfl) rfl rfl rfl ?_
  refine AO.nil ?_
  refine AQ.thenN ?_
  refine AW.split rfl (fun h => ?_) (fun h => ?_) <;> (try simp only [decide_eq_true_eq, decide_eq_false_iff_not, beq_iff_eq, beq_eq_false_iff_ne, bne_iff_ne, bne_eq_false_iff_eq, Bool.not_eq_true', Bool.not_eq_false', Bool.not_eq_true, Bool.not_eq_false, ne_eq, Int.not_lt, Int.not_le, Bool.and_eq_true, Bool.or_eq_true, Bool.or_eq_false_iff, Bool.and_eq_false_imp, strOf_toList, Decidable.not_not] at h)
  · skip
    have e : ext n = (n, []) := by unfold ext; rw [if_pos h]
    refine AW.seq ?_
    refine AW.region ?_
    refine AO.op (O.move rfl rfl) rfl rfl rfl ?_
    refine AO.op (O.conv rfl rfl wU8any) rfl rfl rfl ?_
    refine AO.op (O.assign rfl rfl) rfl rfl rfl ?_
    refine AO.op (O.assign rfl rfl) rfl rfl rfl ?_
    refine AO.nil ?_
    refine AQ.thenN ?_
    refine AW.ret ?_
    refine AQ.blockR ?_
    refine AQ.thenR ?_
    refine AQ.g ?_
    first | (refine G.unfull 3 rfl ?_) | (refine G.nilRo 3 rfl ?_) | (refine G.freezeRow 0 rfl [3] (by repeat (first | exact frNil | refine frCons rfl ?_)) ?_) | (refine G.freezeRow 1 rfl [3] (by repeat (first | exact frNil | refine frCons rfl ?_)) ?_) | (refine G.freezeRow 2 rfl [3] (by repeat (first | exact frNil | refine frCons rfl ?_)) ?_) | (refine G.freezeRow 3 rfl [3] (by repeat (first | exact frNil | refine frCons rfl ?_)) ?_) | (refine G.freezeRow 4 rfl [3] (by repeat (first | exact frNil | refine frCons rfl ?_)) ?_) | (refine G.freezeRow 5 rfl [3] (by repeat (first | exact frNil | refine frCons rfl ?_)) ?_) | (refine G.freezeRow 6 rfl [3] (by repeat (first | exact frNil | refine frCons rfl ?_)) ?_) | (refine G.freezeRow 7 rfl [3] (by repeat (first | exact frNil | refine frCons rfl ?_)) ?_) | (refine G.freezeSl 0 3 rfl rfl ⟨Nat.le_refl _, by unfold maxLen; omega⟩ ?_; refine G.unfull 3 rfl ?_) | (refine G.freezeSl 1 3 rfl rfl ⟨Nat.le_refl _, by unfold maxLen; omega⟩ ?_; refine G.unfull 3 rfl ?_) | (refine G.freezeSl 2 3 rfl rfl ⟨Nat.le_refl _, by unfold maxLen; omega⟩ ?_; refine G.unfull 3 rfl ?_) | (refine G.freezeSl 3 3 rfl rfl ⟨Nat.le_refl _, by unfold maxLen; omega⟩ ?_; refine G.unfull 3 rfl ?_) | (refine G.freezeSl 4 3 rfl rfl ⟨Nat.le_refl _, by unfold maxLen; omega⟩ ?_; refine G.unfull 3 rfl ?_) | (refine G.freezeSl 5 3 rfl rfl ⟨Nat.le_refl _, by unfold maxLen; omega⟩ ?_; refine G.unfull 3 rfl ?_) | (refine G.freezeSl 6 3 rfl rfl ⟨Nat.le_refl _, by unfold maxLen; omega⟩ ?_; refine G.unfull 3 rfl ?_) | (refine G.freezeSl 7 3 rfl rfl ⟨Nat.le_refl _, by unfold maxLen; omega⟩ ?_; refine G.unfull 3 rfl ?_)
    refine AQ.u ?_
    try dsimp only [List.map, List.eraseIdx, List.cons_append, List.nil_append]
    refine AQ.ret2 rfl rfl rfl ⟨_, List.nil_sublist _, .nil⟩ (⟨by rw [e]; rfl, rfl⟩)
  · skip
    refine AW.seq ?_
    refine AW.region ?_
    refine AO.op (O.move rfl rfl) rfl rfl rfl ?_
    refine AO.op (O.lss rfl rfl rfl (by first | exact bTrue (by omega) | exact bFalse (by omega) | assumption | rfl)) rfl rfl rfl ?_
    refine AO.op (O.assign rfl rfl) rfl rfl rfl ?_
    refine AO.nil ?_
    refine AQ.thenN ?_
    refine AW.split rfl (fun h2 => ?_) (fun h2 => ?_) <;> (try simp only [decide_eq_true_eq, decide_eq_false_iff_not, beq_iff_eq, beq_eq_false_iff_ne, bne_iff_ne, bne_eq_false_iff_eq, Bool.not_eq_true', Bool.not_eq_false', Bool.not_eq_true, Bool.not_eq_false, ne_eq, Int.not_lt, Int.not_le, Bool.and_eq_true, Bool.or_eq_true, Bool.or_eq_false_iff, Bool.and_eq_false_imp, strOf_toList, Decidable.not_not] at h2)
    · skip
      have e : ext n = (13, [u8 (n - 13)]) := by unfold ext; rw [if_neg (by omega), if_pos h2]
      refine AW.seq ?_
      refine AW.region ?_
      refine AO.op (O.move rfl rfl) rfl rfl rfl ?_
      refine AO.op (O.sub rfl rfl rfl (by first | exact wI64 (by omega) | rfl)) rfl rfl rfl ?_
      refine AO.op (O.conv rfl rfl wU8any) rfl rfl rfl ?_
      refine AO.opB (O.buildSlice rfl rfl rfl (by rfl) (by rfl) (by rfl) (by rfl)) rfl rfl rfl ?_
      intro B1
      refine AO.op (O.assign rfl rfl) rfl rfl rfl ?_
      refine AO.op (O.assign rfl rfl) rfl rfl rfl ?_
      refine AO.nil ?_
      refine AQ.thenN ?_
      refine AW.ret ?_
      refine AQ.blockR ?_
      refine AQ.thenR ?_
      refine AQ.g ?_
      first | (refine G.unfull 3 rfl ?_) | (refine G.nilRo 3 rfl ?_) | (refine G.freezeRow 0 rfl [3] (by repeat (first | exact frNil | refine frCons rfl ?_)) ?_) | (refine G.freezeRow 1 rfl [3] (by repeat (first | exact frNil | refine frCons rfl ?_)) ?_) | (refine G.freezeRow 2 rfl [3] (by repeat (first | exact frNil | refine frCons rfl ?_)) ?_) | (refine G.freezeRow 3 rfl [3] (by repeat (first | exact frNil | refine frCons rfl ?_)) ?_) | (refine G.freezeRow 4 rfl [3] (by repeat (first | exact frNil | refine frCons rfl ?_)) ?_) | (refine G.freezeRow 5 rfl [3] (by repeat (first | exact frNil | refine frCons rfl ?_)) ?_) | (refine G.freezeRow 6 rfl [3] (by repeat (first | exact frNil | refine frCons rfl ?_)) ?_) | (refine G.freezeRow 7 rfl [3] (by repeat (first | exact frNil | refine frCons rfl ?_)) ?_) | (refine G.freezeSl 0 3 rfl rfl ⟨Nat.le_refl _, by unfold maxLen; omega⟩ ?_; refine G.unfull 3 rfl ?_) | (refine G.freezeSl 1 3 rfl rfl ⟨Nat.le_refl _, by unfold maxLen; omega⟩ ?_; refine G.unfull 3 rfl ?_) | (refine G.freezeSl 2 3 rfl rfl ⟨Nat.le_refl _, by unfold maxLen; omega⟩ ?_; refine G.unfull 3 rfl ?_) | (refine G.freezeSl 3 3 rfl rfl ⟨Nat.le_refl _, by unfold maxLen; omega⟩ ?_; refine G.unfull 3 rfl ?_) | (refine G.freezeSl 4 3 rfl rfl ⟨Nat.le_refl _, by unfold maxLen; omega⟩ ?_; refine G.unfull 3 rfl ?_) | (refine G.freezeSl 5 3 rfl rfl ⟨Nat.le_refl _, by unfold maxLen; omega⟩ ?_; refine G.unfull 3 rfl ?_) | (refine G.freezeSl 6 3 rfl rfl ⟨Nat.le_refl _, by unfold maxLen; omega⟩ ?_; refine G.unfull 3 rfl ?_) | (refine G.freezeSl 7 3 rfl rfl ⟨Nat.le_refl _, by unfold maxLen; omega⟩ ?_; refine G.unfull 3 rfl ?_)
      refine AQ.u ?_
      try dsimp only [List.map, List.eraseIdx, List.cons_append, List.nil_append]
      refine AQ.ret2 rfl rfl rfl ⟨_, List.nil_sublist _, .nil⟩ (⟨by rw [e]; rfl, rfl⟩)
    · skip
      have e : ext n = (14, [u8 ((n - 269) / 256), u8 (n - 269)]) := by unfold ext; rw [if_neg (by omega), if_neg (by omega)]
      refine AW.skip ?_
      refine AQ.blockN ?_
      refine AQ.thenN ?_
      refine AW.seq ?_
      refine AW.region ?_
      refine AO.op (O.move rfl rfl) rfl rfl rfl ?_
      refine AO.op (O.sub rfl rfl rfl (by first | exact wI64 (by omega) | rfl)) rfl rfl rfl ?_
      refine AO.op (O.shrK 8 256 rfl rfl rfl rfl (by rfl)) rfl rfl rfl ?_
      refine AO.op (O.conv rfl rfl wU8any) rfl rfl rfl ?_
      refine AO.op (O.move rfl rfl) rfl rfl rfl ?_
      refine AO.op (O.sub rfl rfl rfl (by first | exact wI64 (by omega) | rfl)) rfl rfl rfl ?_
      refine AO.op (O.conv rfl rfl wU8any) rfl rfl rfl ?_
      refine AO.opB (O.buildSlice rfl rfl rfl (by rfl) (by rfl) (by rfl) (by rfl)) rfl rfl rfl ?_
      intro B2
      refine AO.op (O.assign rfl rfl) rfl rfl rfl ?_
      refine AO.op (O.assign rfl rfl) rfl rfl rfl ?_
      refine AO.nil ?_
      refine AQ.thenN ?_
      refine AW.ret ?_
      refine AQ.g ?_
      first | (refine G.unfull 3 rfl ?_) | (refine G.nilRo 3 rfl ?_) | (refine G.freezeRow 0 rfl [3] (by repeat (first | exact frNil | refine frCons rfl ?_)) ?_) | (refine G.freezeRow 1 rfl [3] (by repeat (first | exact frNil | refine frCons rfl ?_)) ?_) | (refine G.freezeRow 2 rfl [3] (by repeat (first | exact frNil | refine frCons rfl ?_)) ?_) | (refine G.freezeRow 3 rfl [3] (by repeat (first | exact frNil | refine frCons rfl ?_)) ?_) | (refine G.freezeRow 4 rfl [3] (by repeat (first | exact frNil | refine frCons rfl ?_)) ?_) | (refine G.freezeRow 5 rfl [3] (by repeat (first | exact frNil | refine frCons rfl ?_)) ?_) | (refine G.freezeRow 6 rfl [3] (by repeat (first | exact frNil | refine frCons rfl ?_)) ?_) | (refine G.freezeRow 7 rfl [3] (by repeat (first | exact frNil | refine frCons rfl ?_)) ?_) | (refine G.freezeSl 0 3 rfl rfl ⟨Nat.le_refl _, by unfold maxLen; omega⟩ ?_; refine G.unfull 3 rfl ?_) | (refine G.freezeSl 1 3 rfl rfl ⟨Nat.le_refl _, by unfold maxLen; omega⟩ ?_; refine G.unfull 3 rfl ?_) | (refine G.freezeSl 2 3 rfl rfl ⟨Nat.le_refl _, by unfold maxLen; omega⟩ ?_; refine G.unfull 3 rfl ?_) | (refine G.freezeSl 3 3 rfl rfl ⟨Nat.le_refl _, by unfold maxLen; omega⟩ ?_; refine G.unfull 3 rfl ?_) | (refine G.freezeSl 4 3 rfl rfl ⟨Nat.le_refl _, by unfold maxLen; omega⟩ ?_; refine G.unfull 3 rfl ?_) | (refine G.freezeSl 5 3 rfl rfl ⟨Nat.le_refl _, by unfold maxLen; omega⟩ ?_; refine G.unfull 3 rfl ?_) | (refine G.freezeSl 6 3 rfl rfl ⟨Nat.le_refl _, by unfold maxLen; omega⟩ ?_; refine G.unfull 3 rfl ?_) | (refine G.freezeSl 7 3 rfl rfl ⟨Nat.le_refl _, by unfold maxLen; omega⟩ ?_; refine G.unfull 3 rfl ?_)
      refine AQ.u ?_
      try dsimp only [List.map, List.eraseIdx, List.cons_append, List.nil_append]
      refine AQ.ret2 rfl rfl rfl ⟨_, List.nil_sublist _, .nil⟩ (⟨by rw [e]; rfl, rfl⟩)
end Go.Proofs.Ytiddmpmpjdnmeaa.By
