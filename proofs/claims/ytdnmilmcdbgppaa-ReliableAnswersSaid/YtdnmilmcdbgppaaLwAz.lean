/-
  ReliableAnswers, the statement: for every input the law returns true, and its arguments read as before. No condition.
-/
import Derived.Test.YtdnmilmcdbgppaaZ6
namespace Go.Proofs.Ytdnmilmcdbgppaa.LwA
open Go.ChangeShapes Go.WideShapes Go.ChangeAt Go.RowKit Go.Deep L A By
set_option linter.unusedVariables false
set_option maxRecDepth 20000

theorem contract (H : Type) (enc : TypeId × Value → H) (W : World) (base : Nat) (args : Array Value) (ds gs : List (DataW H)) (before : List MemPlace)
    (hval : ∀ (j : Nat) t v, Try.f8.params[j]? = some t → args[j]? = some v → Value.okWide Try.prog W .any base t v)
    (hW : DataW.Whole enc Try.prog Try.f8.params.toList Rows.reliableAnswersSpec.vars false W args.toList ds gs before)
    (hz : (DataW.weightsEach Try.prog (Try.f8.params.toList ++ Rows.reliableAnswersSpec.plain.varTypes Try.prog) (ds ++ gs)).all (· ≤ reachBytes) = true) :
    Calls Try.prog 8 args W fun e W' => ∃ v, e = .returned v ∧ Rows.reliableAnswersSpec.post enc Try.prog Try.f8 false true false false W args v W' := by
  have hW' := hW
  obtain ⟨p, q, hA0, hV, rfl, hfz, hnd⟩ := hW
  have hA : DataW.TrodAll enc Try.prog W 0 (fun _ => true) true Try.f8.params.toList args.toList ds p := hA0
  rw [Try.params8] at hA
  obtain ⟨v0, vs0, d0, ds0, p0, q0, ha0, rfl, hp0, h0, r0⟩ := trodAll_cons hA
  obtain ⟨v1, vs1, d1, ds1, p1, q1, ha1, rfl, hp1, h1, r1⟩ := trodAll_cons r0
  obtain ⟨v2, vs2, d2, ds2, p2, q2, ha2, rfl, hp2, h2, r2⟩ := trodAll_cons r1
  obtain ⟨v3, vs3, d3, ds3, p3, q3, ha3, rfl, hp3, h3, r3⟩ := trodAll_cons r2
  obtain ⟨v4, vs4, d4, ds4, p4, q4, ha4, rfl, hp4, h4, r4⟩ := trodAll_cons r3
  obtain ⟨v5, vs5, d5, ds5, p5, q5, ha5, rfl, hp5, h5, r5⟩ := trodAll_cons r4
  obtain ⟨v6, vs6, d6, ds6, p6, q6, ha6, rfl, hp6, h6, r6⟩ := trodAll_cons r5
  obtain ⟨v7, vs7, d7, ds7, p7, q7, ha7, rfl, hp7, h7, r7⟩ := trodAll_cons r6
  obtain ⟨-, rfl, -⟩ := trodAll_nil r7
  obtain ⟨rfl, rfl⟩ := trodVars_none hV
  refine law_contractZ enc (ts := [26, 27, 3, 3, 3, 3, 3, 31]) (by rw [Try.params8]) (ReadsZL.cons (RdZ.readsAgg (rdZEp) (fun W b v h => by unfold Value.okWide at h; rw [Try.underlying26] at h; obtain ⟨cs, h, _⟩ := h; exact ⟨cs, h⟩)) (ReadsZL.cons (Reads.z (Reads.ints Try.underlying27 Try.underlying3 (by kernel_rfl) (by kernel_rfl))) (ReadsZL.cons (Reads.z (Reads.int Try.underlying3 (by kernel_rfl))) (ReadsZL.cons (Reads.z (Reads.int Try.underlying3 (by kernel_rfl))) (ReadsZL.cons (Reads.z (Reads.int Try.underlying3 (by kernel_rfl))) (ReadsZL.cons (Reads.z (Reads.int Try.underlying3 (by kernel_rfl))) (ReadsZL.cons (Reads.z (Reads.int Try.underlying3 (by kernel_rfl))) (ReadsZL.cons (RdZ.readsAgg (rdZMsg) (fun W b v h => by unfold Value.okWide at h; rw [Try.underlying31] at h; obtain ⟨cs, h, _⟩ := h; exact ⟨cs, h⟩)) (ReadsZL.nil))))))))) (φs := [_, _, _, _, _, _, _, _]) ?_ hval hW' hz (fun W' hE => lawPost hW' rfl rfl rfl Try.underlying4 (by rw [Try.params8]; decide) hE)
  rintro _ ⟨x0, h0, rfl⟩ _ ⟨x1, h1, rfl⟩ _ ⟨x2, h2, rfl⟩ _ ⟨x3, h3, rfl⟩ _ ⟨x4, h4, rfl⟩ _ ⟨x5, h5, rfl⟩ _ ⟨x6, h6, rfl⟩ _ ⟨x7, h7, rfl⟩
  exact lawAnswers_fn x0 x1 x2 x3 x4 x5 x6 x7 h0 (fun h => h7.sm h) h1.2 (i64_in h3)

set_option maxRecDepth 100000 in
theorem lifted (os : Os) (started : os.Started) (H : Type) (enc : TypeId × Value → H) :
    ReturnsInHanded {} Try.checked os 8 .any (Rows.reliableAnswersSpec.pre6 enc Try.prog Try.f8 Rows.reliableAnswersRow.domain false) (Rows.reliableAnswersSpec.post enc Try.prog Try.f8 false true false false) := by
  refine returnsInHanded_of_change_sized (C := Try.checked) own started (by kernel_rfl) Try.func8
    (ChangeSpec.witness6 (enc := enc) (C := Try.checked) false ⟨#[], #[.agg #[.int .i64 0, .slice none 0 0, .slice none 0 0, .slice none 0 0], .slice none 0 0, .int .i64 0, .int .i64 0, .int .i64 0, .int .i64 0, .int .i64 0, .agg #[.int .i64 0, .int .i64 0, .int .i64 0, .slice none 0 0, .slice none 0 0, .slice none 0 0]], []⟩ 8 (by kernel_rfl) (by kernel_rfl) (by kernel_rfl) (by kernel_rfl)) ?_
  intro W base args ds gs before hval hW _ hz _
  exact contract H enc W base args ds gs before hval hW hz

theorem over : Rows.reliableAnswersRow.holds Try.pinned (OpenSpec.ofChange Rows.reliableAnswersSpec) :=
  OpenClaim.holds_of_wide 8 Try.f8 rfl rfl rfl rfl rfl rfl rfl ⟨rfl, rfl, rfl, rfl, rfl⟩ rfl rfl rfl rfl rfl (by kernel_rfl) Try.func8 (by kernel_rfl)
    (of_decide_eq_true (by kernel_rfl)) (by unfold Func.isWrapper; first | (rw [if_pos (by decide +kernel)]; kernel_rfl) | (rw [if_neg (by decide +kernel)]; exact ⟨rfl, rfl⟩))
    (fun os started H enc _ => lifted os started H enc)
theorem reliableAnswers : Rows.ReliableAnswersSaid := over
end Go.Proofs.Ytdnmilmcdbgppaa.LwA
