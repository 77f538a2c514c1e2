/-
  ReliableOnce, the statement: for every input the law returns true, and its arguments read as before. No condition.
-/
import Derived.Test.YtdnmilmcdbgppaaZ4
namespace Go.Proofs.Ytdnmilmcdbgppaa.LwQ
open Go.ChangeShapes Go.WideShapes Go.ChangeAt Go.RowKit Go.Deep L A By
set_option linter.unusedVariables false
set_option maxRecDepth 20000

theorem contract (H : Type) (enc : TypeId × Value → H) (W : World) (base : Nat) (args : Array Value) (ds gs : List (DataW H)) (before : List MemPlace)
    (hval : ∀ (j : Nat) t v, Try.f9.params[j]? = some t → args[j]? = some v → Value.okWide Try.prog W .any base t v)
    (hW : DataW.Whole enc Try.prog Try.f9.params.toList Rows.reliableOnceSpec.vars false W args.toList ds gs before) :
    Calls Try.prog 9 args W fun e W' => ∃ v, e = .returned v ∧ Rows.reliableOnceSpec.post enc Try.prog Try.f9 false true false false W args v W' := by
  have hW' := hW
  obtain ⟨p, q, hA0, hV, rfl, hfz, hnd⟩ := hW
  have hA : DataW.TrodAll enc Try.prog W 0 (fun _ => true) true Try.f9.params.toList args.toList ds p := hA0
  rw [Try.params9] at hA
  obtain ⟨v0, vs0, d0, ds0, p0, q0, ha0, rfl, hp0, h0, r0⟩ := trodAll_cons hA
  obtain ⟨-, rfl, -⟩ := trodAll_nil r0
  obtain ⟨rfl, rfl⟩ := trodVars_none hV
  refine law_contract enc (ts := [27]) (by rw [Try.params9]) (ReadsL.cons (Reads.ints Try.underlying27 Try.underlying3 (by kernel_rfl) (by kernel_rfl)) (ReadsL.nil)) (φs := [_]) ?_ hval hW' (fun W' hE => lawPost hW' rfl rfl rfl Try.underlying4 (by rw [Try.params9]; decide) hE)
  rintro _ ⟨x0, h0, rfl⟩
  exact lawOnce_fn x0 h0.2

set_option maxRecDepth 100000 in
theorem lifted (os : Os) (started : os.Started) (H : Type) (enc : TypeId × Value → H) :
    ReturnsInHanded {} Try.checked os 9 .any (Rows.reliableOnceSpec.pre6 enc Try.prog Try.f9 Rows.reliableOnceRow.domain false) (Rows.reliableOnceSpec.post enc Try.prog Try.f9 false true false false) := by
  refine returnsInHanded_of_change (C := Try.checked) own started (by kernel_rfl) Try.func9
    (ChangeSpec.witness6 (enc := enc) (C := Try.checked) false ⟨#[], #[.slice none 0 0], []⟩ 8 (by kernel_rfl) (by kernel_rfl) (by kernel_rfl) (by kernel_rfl)) ?_
  intro W base args ds gs before hval hW _ _
  exact contract H enc W base args ds gs before hval hW

theorem over : Rows.reliableOnceRow.holds Try.pinned (OpenSpec.ofChange Rows.reliableOnceSpec) :=
  OpenClaim.holds_of_wide 9 Try.f9 rfl rfl rfl rfl rfl rfl rfl ⟨rfl, rfl, rfl, rfl, rfl⟩ rfl rfl rfl rfl rfl (by kernel_rfl) Try.func9 (by kernel_rfl)
    (of_decide_eq_true (by kernel_rfl)) (by unfold Func.isWrapper; first | (rw [if_pos (by decide +kernel)]; kernel_rfl) | (rw [if_neg (by decide +kernel)]; exact ⟨rfl, rfl⟩))
    (fun os started H enc _ => lifted os started H enc)
theorem reliableOnce : Rows.ReliableOnceSaid := over
end Go.Proofs.Ytdnmilmcdbgppaa.LwQ
