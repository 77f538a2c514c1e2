/-
  CompressEncodes, the statement: for every input the law returns true, and its arguments read as before. No condition.
-/
import Derived.Test.YtbkclbbhdeohfaaCm
import Derived.Test.YtbkclbbhdeohfaaArg
namespace Go.Proofs.Ytbkclbbhdeohfaa.Cn
open Go.ChangeShapes Go.WideShapes Go.ChangeAt Go.RowKit L A By
set_option linter.unusedVariables false

theorem i64_in {z : Int} (h : (Lit.int .i64 z).wf = true) : -9223372036854775808 ≤ z ∧ z ≤ 9223372036854775807 := by
  simpa [Lit.wf, IntKind.min, IntKind.max, IntKind.signed, IntKind.bits] using h
theorem rdCmp : RdC Try.prog 30 cellsC (fun _ => True) :=
  (RdC.struct Try.underlying30 (by kernel_rfl)
    (.cons (k := 1) (RdC.int Try.underlying3 (by kernel_rfl)) rfl (by kernel_rfl)
    (.cons (k := 1) (RdC.bool Try.underlying4 (by kernel_rfl)) rfl (by kernel_rfl)
    (.cons (k := 1) (RdC.bytes Try.underlying22 Try.underlying5 (by kernel_rfl) (by kernel_rfl)) rfl (by kernel_rfl)
    (.cons (k := 1) (RdC.bool Try.underlying4 (by kernel_rfl)) rfl (by kernel_rfl)
    (.cons (k := 1) (RdC.bytes Try.underlying22 Try.underlying5 (by kernel_rfl) (by kernel_rfl)) rfl (by kernel_rfl)
    (.cons (k := 1) (RdC.bool Try.underlying4 (by kernel_rfl)) rfl (by kernel_rfl) .nil))))))).map
    (fun p => ⟨p.1, p.2.1, p.2.2.1, p.2.2.2.1, p.2.2.2.2.1, p.2.2.2.2.2.1⟩) (fun p h => ⟨trivial, rfl⟩) (fun _ => by show 6 = _; kernel_rfl)
theorem contract (H : Type) (enc : TypeId × Value → H) (W : World) (base : Nat) (args : Array Value) (ds gs : List (DataW H)) (before : List MemPlace)
    (hval : ∀ (j : Nat) t v, Try.f4.params[j]? = some t → args[j]? = some v → Value.okWide Try.prog W .any base t v)
    (hW : DataW.Whole enc Try.prog Try.f4.params.toList Rows.compressEncodesSpec.vars false W args.toList ds gs before) :
    Calls Try.prog 4 args W fun e W' => ∃ v, e = .returned v ∧ Rows.compressEncodesSpec.post enc Try.prog Try.f4 false true false false W args v W' := by
  have hW' := hW
  obtain ⟨p, q, hA0, hV, rfl, hfz, hnd⟩ := hW
  have hA : DataW.TrodAll enc Try.prog W 0 (fun _ => true) true Try.f4.params.toList args.toList ds p := hA0
  rw [Try.params4] at hA
  obtain ⟨v0, vs0, d0, ds0, p0, q0, ha0, rfl, hp0, h0, r0⟩ := trodAll_cons hA
  obtain ⟨v1, vs1, d1, ds1, p1, q1, ha1, rfl, hp1, h1, r1⟩ := trodAll_cons r0
  obtain ⟨-, rfl, -⟩ := trodAll_nil r1
  obtain ⟨rfl, rfl⟩ := trodVars_none hV
  refine law_contract enc (ts := [30, 23]) (by rw [Try.params4]) (ReadsL.cons (RdC.readsAgg (rdCmp) (fun W b v h => by unfold Value.okWide at h; rw [Try.underlying30] at h; obtain ⟨cs, h, _⟩ := h; exact ⟨cs, h⟩)) (ReadsL.cons (Reads.ints Try.underlying23 Try.underlying3 (by kernel_rfl) (by kernel_rfl)) (ReadsL.nil))) (φs := [_, _]) ?_ hval hW' (fun W' hE => lawPost hW' rfl rfl rfl Try.underlying4 (by rw [Try.params4]; decide) hE)
  rintro _ ⟨x0, h0, rfl⟩ _ ⟨x1, h1, rfl⟩
  exact lawEncodes_fn x0 x1 h1.2

set_option maxRecDepth 100000 in
theorem lifted (os : Os) (started : os.Started) (H : Type) (enc : TypeId × Value → H) :
    ReturnsInHanded {} Try.checked os 4 .any (Rows.compressEncodesSpec.pre6 enc Try.prog Try.f4 Rows.compressEncodesRow.domain false) (Rows.compressEncodesSpec.post enc Try.prog Try.f4 false true false false) := by
  refine returnsInHanded_of_change (C := Try.checked) own started (by kernel_rfl) Try.func4
    (ChangeSpec.witness6 (enc := enc) (C := Try.checked) false ⟨#[], #[.agg #[.int .i64 0, .bool false, .slice none 0 0, .bool false, .slice none 0 0, .bool false], .slice none 0 0], []⟩ 8 (by kernel_rfl) (by kernel_rfl) (by kernel_rfl) (by kernel_rfl)) ?_
  intro W base args ds gs before hval hW _ _
  exact contract H enc W base args ds gs before hval hW

theorem over : Rows.compressEncodesRow.holds Try.pinned (OpenSpec.ofChange Rows.compressEncodesSpec) :=
  OpenClaim.holds_of_wide 4 Try.f4 rfl rfl rfl rfl rfl rfl rfl ⟨rfl, rfl, rfl, rfl, rfl⟩ rfl rfl rfl rfl rfl (by kernel_rfl) Try.func4 (by kernel_rfl)
    (of_decide_eq_true (by kernel_rfl)) (by unfold Func.isWrapper; first | (rw [if_pos (by decide +kernel)]; kernel_rfl) | (rw [if_neg (by decide +kernel)]; exact ⟨rfl, rfl⟩))
    (fun os started H enc _ => lifted os started H enc)
theorem compressEncodes : Rows.CompressEncodesSaid := over
end Go.Proofs.Ytbkclbbhdeohfaa.Cn
