/-
  ObserveNewer, the statement: for every input the law returns true, and its arguments read as before. No condition.
-/
import Derived.Test.YtlcoanbdaephiaaObH
import Derived.Test.YtlcoanbdaephiaaLaw
namespace Go.Proofs.Ytlcoanbdaephiaa.ObI
open Go.ChangeShapes Go.WideShapes Go.ChangeAt Go.RowKit L A Ob
set_option linter.unusedVariables false

theorem inI_of {z : Int} (h : (Lit.int .i64 z).wf = true) : inI z := by
  simpa [inI, Lit.wf, IntKind.min, IntKind.max, IntKind.signed, IntKind.bits] using h

theorem contract (H : Type) (enc : TypeId × Value → H) (W : World) (base : Nat) (args : Array Value) (ds gs : List (DataW H)) (before : List MemPlace)
    (hval : ∀ (j : Nat) t v, Try.f4.params[j]? = some t → args[j]? = some v → Value.okWide Try.prog W .any base t v)
    (hW : DataW.Whole enc Try.prog Try.f4.params.toList Rows.observeNewerSpec.vars false W args.toList ds gs before) :
    Calls Try.prog 4 args W fun e W' => ∃ v, e = .returned v ∧ Rows.observeNewerSpec.post enc Try.prog Try.f4 false true false false W args v W' := by
  have hW' := hW
  obtain ⟨p, q, hA0, hV, rfl, hfz, hnd⟩ := hW
  have hA : DataW.TrodAll enc Try.prog W 0 (fun _ => true) true Try.f4.params.toList args.toList ds p := hA0
  rw [Try.params4] at hA hval
  obtain ⟨v0, vs0, d0, ds0, p0, q0, hargs, rfl, rfl, h0, r0⟩ := trodAll_cons hA
  obtain ⟨v1, vs1, d1, ds1, p1, q1, rfl, rfl, rfl, h1, r1⟩ := trodAll_cons r0
  obtain ⟨v2, vs2, d2, ds2, p2, q2, rfl, rfl, rfl, h2, r2⟩ := trodAll_cons r1
  obtain ⟨v3, vs3, d3, ds3, p3, q3, rfl, rfl, rfl, h3, r3⟩ := trodAll_cons r2
  obtain ⟨rfl, rfl, rfl⟩ := trodAll_nil r3
  obtain rfl : args = #[v0, v1, v2, v3] := by cases args; simp_all
  obtain ⟨rfl, rfl⟩ := trodVars_none hV
  obtain ⟨a0, rfl, rfl, -, w0⟩ := open_int Try.underlying3 (hval 0 3 v0 rfl rfl) h0
  obtain ⟨a1, rfl, rfl, -, w1⟩ := open_int Try.underlying3 (hval 1 3 v1 rfl rfl) h1
  obtain ⟨a2, rfl, rfl, -, w2⟩ := open_int Try.underlying3 (hval 2 3 v2 rfl rfl) h2
  obtain ⟨a3, rfl, rfl, -, w3⟩ := open_int Try.underlying3 (hval 3 3 v3 rfl rfl) h3
  have hc := lawNewer_fn a0 a1 a2 a3 (inI_of w0) (inI_of w1) (inI_of w2) (inI_of w3) W (Old W) [.int .i64 a0, .int .i64 a1, .int .i64 a2, .int .i64 a3] (fun b hb => hb) (fun e he => by cases he) .nil
    (RelL.cons (.val _) (RelL.cons (.val _) (RelL.cons (.val _) (RelL.cons (.val _) RelL.nil))))
  refine hc.mono ?_
  rintro e W' ⟨u, r, H', R', rfl, ⟨rfl, rfl⟩, hs, hv⟩
  obtain rfl := hv.val_inv
  exact ⟨_, rfl, lawPost hW' rfl rfl rfl Try.underlying4 (by rw [Try.params4]; decide) (hs.mods.mono fun b _ ⟨e, he, _⟩ => by cases he)⟩

set_option maxRecDepth 100000 in
theorem lifted (os : Os) (started : os.Started) (H : Type) (enc : TypeId × Value → H) :
    ReturnsInHanded {} Try.checked os 4 .any (Rows.observeNewerSpec.pre6 enc Try.prog Try.f4 Rows.observeNewerRow.domain false) (Rows.observeNewerSpec.post enc Try.prog Try.f4 false true false false) := by
  refine returnsInHanded_of_change (C := Try.checked) own started (by kernel_rfl) Try.func4
    (ChangeSpec.witness6 (enc := enc) (C := Try.checked) false ⟨#[], #[.int .i64 0, .int .i64 0, .int .i64 0, .int .i64 0], []⟩ 8 (by kernel_rfl) (by kernel_rfl) (by kernel_rfl) (by kernel_rfl)) ?_
  intro W base args ds gs before hval hW _ _
  exact contract H enc W base args ds gs before hval hW

theorem over : Rows.observeNewerRow.holds Try.pinned (OpenSpec.ofChange Rows.observeNewerSpec) :=
  OpenClaim.holds_of_wide 4 Try.f4 rfl rfl rfl rfl rfl rfl rfl ⟨rfl, rfl, rfl, rfl, rfl⟩ rfl rfl rfl rfl rfl (by kernel_rfl) Try.func4 (by kernel_rfl)
    (of_decide_eq_true (by kernel_rfl)) (by unfold Func.isWrapper; first | (rw [if_pos (by decide +kernel)]; kernel_rfl) | (rw [if_neg (by decide +kernel)]; exact ⟨rfl, rfl⟩))
    (fun os started H enc _ => lifted os started H enc)
theorem observeNewer : Rows.ObserveNewerSaid := over
end Go.Proofs.Ytlcoanbdaephiaa.ObI
