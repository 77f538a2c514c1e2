/-
  OscoreOpens, the statement: for every input the law returns true, and its arguments read as before. No condition.
-/
import Derived.Test.YtojomcdjcpmnkaaGreatZo6
namespace Go.Proofs.YtojomcdjcpmnkaaGreat.LxO
open Go.ChangeShapes Go.WideShapes Go.ChangeAt Go.RowKit Go.Deep L A By
set_option linter.unusedVariables false
set_option maxRecDepth 20000

theorem contract (H : Type) (enc : TypeId × Value → H) (W : World) (base : Nat) (args : Array Value) (ds gs : List (DataW H)) (before : List MemPlace)
    (hval : ∀ (j : Nat) t v, Tryz.f7.params[j]? = some t → args[j]? = some v → Value.okWide Tryz.prog W .any base t v)
    (hW : DataW.Whole enc Tryz.prog Tryz.f7.params.toList Rows.oscoreOpensSpec.vars false W args.toList ds gs before) :
    Calls Tryz.prog 7 args W fun e W' => ∃ v, e = .returned v ∧ Rows.oscoreOpensSpec.post enc Tryz.prog Tryz.f7 false true false false W args v W' := by
  have hW' := hW
  obtain ⟨p, q, hA0, hV, rfl, hfz, hnd⟩ := hW
  have hA : DataW.TrodAll enc Tryz.prog W 0 (fun _ => true) true Tryz.f7.params.toList args.toList ds p := hA0
  rw [Tryz.params7] at hA
  obtain ⟨v0, vs0, d0, ds0, p0, q0, ha0, rfl, hp0, h0, r0⟩ := trodAll_cons hA
  obtain ⟨v1, vs1, d1, ds1, p1, q1, ha1, rfl, hp1, h1, r1⟩ := trodAll_cons r0
  obtain ⟨v2, vs2, d2, ds2, p2, q2, ha2, rfl, hp2, h2, r2⟩ := trodAll_cons r1
  obtain ⟨v3, vs3, d3, ds3, p3, q3, ha3, rfl, hp3, h3, r3⟩ := trodAll_cons r2
  obtain ⟨v4, vs4, d4, ds4, p4, q4, ha4, rfl, hp4, h4, r4⟩ := trodAll_cons r3
  obtain ⟨-, rfl, -⟩ := trodAll_nil r4
  obtain ⟨rfl, rfl⟩ := trodVars_none hV
  refine j0p enc (ts := [30, 29, 3, 3, 3]) (by rw [Tryz.params7]) (ReadsL.cons (Reads.ints Tryz.underlying30 Tryz.underlying3 (by kernel_rfl) (by kernel_rfl)) (ReadsL.cons (RdC.readsAgg (w0C) (fun W b v h => by unfold Value.okWide at h; rw [Tryz.underlying29] at h; obtain ⟨cs, h, _⟩ := h; exact ⟨cs, h⟩)) (ReadsL.cons (Reads.int Tryz.underlying3 (by kernel_rfl)) (ReadsL.cons (Reads.int Tryz.underlying3 (by kernel_rfl)) (ReadsL.cons (Reads.int Tryz.underlying3 (by kernel_rfl)) (ReadsL.nil)))))) (φs := [_, _, _, _, _]) ?_ hval hW' (fun W' hE => t0O hW' rfl rfl rfl Tryz.underlying4 (by rw [Tryz.params7]; decide) hE)
  rintro _ ⟨x0, h0, rfl⟩ _ ⟨x1, h1, rfl⟩ _ ⟨x2, h2, rfl⟩ _ ⟨x3, h3, rfl⟩ _ ⟨x4, h4, rfl⟩
  exact k0A x0 x1 x2 x3 x4 h0.2 h1.2.2.1.2 (i64_in h4)

set_option maxRecDepth 100000 in
theorem lifted (os : Os) (started : os.Started) (H : Type) (enc : TypeId × Value → H) :
    ReturnsInHanded {} Tryz.checked os 7 .any (Rows.oscoreOpensSpec.pre6 enc Tryz.prog Tryz.f7 Rows.oscoreOpensRow.domain false) (Rows.oscoreOpensSpec.post enc Tryz.prog Tryz.f7 false true false false) := by
  refine returnsInHanded_of_change (C := Tryz.checked) own started (by kernel_rfl) Tryz.func7
    (ChangeSpec.witness6 (enc := enc) (C := Tryz.checked) false ⟨#[], #[.slice none 0 0, .agg #[.int .i64 0, .int .i64 0, .int .i64 0, .slice none 0 0, .slice none 0 0, .slice none 0 0], .int .i64 0, .int .i64 0, .int .i64 0], []⟩ 8 (by kernel_rfl) (by kernel_rfl) (by kernel_rfl) (by kernel_rfl)) ?_
  intro W base args ds gs before hval hW _ _
  exact contract H enc W base args ds gs before hval hW

theorem over : Rows.oscoreOpensRow.holds Tryz.pinned (OpenSpec.ofChange Rows.oscoreOpensSpec) :=
  OpenClaim.holds_of_wide 7 Tryz.f7 rfl rfl rfl rfl rfl rfl rfl ⟨rfl, rfl, rfl, rfl, rfl⟩ rfl rfl rfl rfl rfl (by kernel_rfl) Tryz.func7 (by kernel_rfl)
    (of_decide_eq_true (by kernel_rfl)) (by unfold Func.isWrapper; first | (rw [if_pos (by decide +kernel)]; kernel_rfl) | (rw [if_neg (by decide +kernel)]; exact ⟨rfl, rfl⟩))
    (fun os started H enc _ => lifted os started H enc)
theorem oscoreOpens : Rows.OscoreOpensSaid := over
end Go.Proofs.YtojomcdjcpmnkaaGreat.LxO
