/-
  WindowRecovers, the statement: for every input the law returns true, and its arguments read as before. No condition.
-/
import Derived.Test.YtjmkoelmiehdjaaWu
import Derived.Test.YtjmkoelmiehdjaaArg
namespace Go.Proofs.Ytjmkoelmiehdjaa.Wv
open Go.ChangeShapes Go.WideShapes Go.ChangeAt Go.RowKit L A Wi
set_option linter.unusedVariables false

theorem i64_of {z : Int} (h : (Lit.int .i64 z).wf = true) : W.i64In z := by
  simpa [W.i64In, Lit.wf, IntKind.min, IntKind.max, IntKind.signed, IntKind.bits] using h
theorem u64_of {z : Int} (h : (Lit.int .u64 z).wf = true) : 0 ≤ z ∧ z ≤ 18446744073709551615 := by
  simpa [Lit.wf, IntKind.min, IntKind.max, IntKind.signed, IntKind.bits] using h
theorem rdWin : RdC Try.prog 24 winL Win.ok :=
  (RdC.struct Try.underlying24 (by kernel_rfl)
    (.cons (k := 1) (RdC.int Try.underlying3 (by kernel_rfl)) rfl (by kernel_rfl)
    (.cons (k := 1) (RdC.int Try.underlying3 (by kernel_rfl)) rfl (by kernel_rfl)
    (.cons (k := 1) (RdC.int Try.underlying22 (by kernel_rfl)) rfl (by kernel_rfl)
    (.cons (k := 1) (RdC.bool Try.underlying4 (by kernel_rfl)) rfl (by kernel_rfl) .nil))))).map
    (fun p => ⟨p.1, p.2.1, p.2.2.1.toNat, p.2.2.2.1⟩) (fun p h => by
      have h3 := u64_of h.2.2.1
      refine ⟨⟨i64_of h.1, i64_of h.2.1, by show p.2.2.1.toNat < 2 ^ 64; omega⟩, ?_⟩
      simp [winL, Int.toNat_of_nonneg h3.1]) (fun _ => by show 4 = _; kernel_rfl)
theorem contract (H : Type) (enc : TypeId × Value → H) (W : World) (base : Nat) (args : Array Value) (ds gs : List (DataW H)) (before : List MemPlace)
    (hval : ∀ (j : Nat) t v, Try.f3.params[j]? = some t → args[j]? = some v → Value.okWide Try.prog W .any base t v)
    (hW : DataW.Whole enc Try.prog Try.f3.params.toList Rows.windowRecoversSpec.vars false W args.toList ds gs before) :
    Calls Try.prog 3 args W fun e W' => ∃ v, e = .returned v ∧ Rows.windowRecoversSpec.post enc Try.prog Try.f3 false true false false W args v W' := by
  have hW' := hW
  obtain ⟨p, q, hA0, hV, rfl, hfz, hnd⟩ := hW
  have hA : DataW.TrodAll enc Try.prog W 0 (fun _ => true) true Try.f3.params.toList args.toList ds p := hA0
  rw [Try.params3] at hA
  obtain ⟨v0, vs0, d0, ds0, p0, q0, ha0, rfl, hp0, h0, r0⟩ := trodAll_cons hA
  obtain ⟨v1, vs1, d1, ds1, p1, q1, ha1, rfl, hp1, h1, r1⟩ := trodAll_cons r0
  obtain ⟨v2, vs2, d2, ds2, p2, q2, ha2, rfl, hp2, h2, r2⟩ := trodAll_cons r1
  obtain ⟨-, rfl, -⟩ := trodAll_nil r2
  obtain ⟨rfl, rfl⟩ := trodVars_none hV
  refine law_contract enc (ts := [24, 25, 3]) (by rw [Try.params3]) (ReadsL.cons (RdC.readsAgg (rdWin) (fun W b v h => by unfold Value.okWide at h; rw [Try.underlying24] at h; obtain ⟨cs, h, _⟩ := h; exact ⟨cs, h⟩)) (ReadsL.cons (Reads.ints Try.underlying25 Try.underlying3 (by kernel_rfl) (by kernel_rfl)) (ReadsL.cons (Reads.int Try.underlying3 (by kernel_rfl)) (ReadsL.nil)))) (φs := [_, _, _]) ?_ hval hW' (fun W' hE => lawPost hW' rfl rfl rfl Try.underlying4 (by rw [Try.params3]; decide) hE)
  rintro _ ⟨x0, h0, rfl⟩ _ ⟨x1, h1, rfl⟩ _ ⟨x2, h2, rfl⟩
  exact lawRecovers_fn x0 h0 x1 h1.2 x2 (i64_of h2)

set_option maxRecDepth 100000 in
theorem lifted (os : Os) (started : os.Started) (H : Type) (enc : TypeId × Value → H) :
    ReturnsInHanded {} Try.checked os 3 .any (Rows.windowRecoversSpec.pre6 enc Try.prog Try.f3 Rows.windowRecoversRow.domain false) (Rows.windowRecoversSpec.post enc Try.prog Try.f3 false true false false) := by
  refine returnsInHanded_of_change (C := Try.checked) own started (by kernel_rfl) Try.func3
    (ChangeSpec.witness6 (enc := enc) (C := Try.checked) false ⟨#[], #[.agg #[.int .i64 0, .int .i64 0, .int .u64 0, .bool false], .slice none 0 0, .int .i64 0], []⟩ 8 (by kernel_rfl) (by kernel_rfl) (by kernel_rfl) (by kernel_rfl)) ?_
  intro W base args ds gs before hval hW _ _
  exact contract H enc W base args ds gs before hval hW

theorem over : Rows.windowRecoversRow.holds Try.pinned (OpenSpec.ofChange Rows.windowRecoversSpec) :=
  OpenClaim.holds_of_wide 3 Try.f3 rfl rfl rfl rfl rfl rfl rfl ⟨rfl, rfl, rfl, rfl, rfl⟩ rfl rfl rfl rfl rfl (by kernel_rfl) Try.func3 (by kernel_rfl)
    (of_decide_eq_true (by kernel_rfl)) (by unfold Func.isWrapper; first | (rw [if_pos (by decide +kernel)]; kernel_rfl) | (rw [if_neg (by decide +kernel)]; exact ⟨rfl, rfl⟩))
    (fun os started H enc _ => lifted os started H enc)
theorem windowRecovers : Rows.WindowRecoversSaid := over
end Go.Proofs.Ytjmkoelmiehdjaa.Wv
