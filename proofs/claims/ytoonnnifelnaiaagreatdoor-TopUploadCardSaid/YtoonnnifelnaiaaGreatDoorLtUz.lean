/-
  TopUpload, the statement: for every input the law returns true, and its arguments read as before. No condition.
-/
import Derived.Test.YtoonnnifelnaiaaGreatDoorCards
import Derived.Test.YtoonnnifelnaiaaGreatDoorTie
import Derived.Test.YtoonnnifelnaiaaGreatDoorZ6
namespace Go.Proofs.YtoonnnifelnaiaaGreatDoor.LtU
open Go.ChangeShapes Go.WideShapes Go.ChangeAt Go.RowKit Go.Deep L A By
set_option linter.unusedVariables false
set_option maxRecDepth 20000

theorem contract (H : Type) (enc : TypeId × Value → H) (W : World) (base : Nat) (args : Array Value) (ds gs : List (DataW H)) (before : List MemPlace)
    (hval : ∀ (j : Nat) t v, Tryz.f5.params[j]? = some t → args[j]? = some v → Value.okWide Tryz.prog W .any base t v) (hL : laidMetH Tryz.prog Rows.topUploadRow.laid W)
    (hW : DataW.Whole enc Tryz.prog Tryz.f5.params.toList Rows.topUploadSpec.vars false W args.toList ds gs before) :
    Calls Tryz.prog 5 args W fun e W' => ∃ v, e = .returned v ∧ Rows.topUploadSpec.post enc Tryz.prog Tryz.f5 false true false false W args v W' := by
  have hW' := hW
  obtain ⟨p, q, hA0, hV, rfl, hfz, hnd⟩ := hW
  have hA : DataW.TrodAll enc Tryz.prog W 0 (fun _ => true) true Tryz.f5.params.toList args.toList ds p := hA0
  rw [Tryz.params5] at hA
  obtain ⟨v0, vs0, d0, ds0, p0, q0, ha0, rfl, hp0, h0, r0⟩ := trodAll_cons hA
  obtain ⟨v1, vs1, d1, ds1, p1, q1, ha1, rfl, hp1, h1, r1⟩ := trodAll_cons r0
  obtain ⟨v2, vs2, d2, ds2, p2, q2, ha2, rfl, hp2, h2, r2⟩ := trodAll_cons r1
  obtain ⟨-, rfl, -⟩ := trodAll_nil r2
  obtain ⟨rfl, rfl⟩ := trodVars_none hV
  rw [MakeChecks.laidMetH_plain _ _ _ (by kernel_rfl)] at hL
  have hK : GN W := reads_strs (n := "coresec/diag.names") (ss := [[102, 97, 108, 115, 101], [116, 114, 117, 101], [110, 117, 108, 108], [117, 110, 100, 101, 102, 105, 110, 101, 100]]) hL (k := 4) (by decide) (by repeat (first | exact List.Mem.head _ | refine List.Mem.tail _ ?_)) (by kernel_rfl) (by kernel_rfl) Tryz.underlying166 rfl Tryz.underlying9 (by kernel_rfl) (by kernel_rfl)
  refine law_contractK enc (ts := [31, 22, 3]) (by rw [Tryz.params5]) (ReadsL.cons (Reads.bytes Tryz.underlying31 Tryz.underlying5 (by kernel_rfl) (by kernel_rfl)) (ReadsL.cons (Reads.ints Tryz.underlying22 Tryz.underlying3 (by kernel_rfl) (by kernel_rfl)) (ReadsL.cons (Reads.int Tryz.underlying3 (by kernel_rfl)) (ReadsL.nil)))) (φs := [_, _, _]) ?_ hK hval hW' (fun W' hE => lawPost hW' rfl rfl rfl Tryz.underlying4 (by rw [Tryz.params5]; decide) hE)
  rintro _ ⟨x0, h0, rfl⟩ _ ⟨x1, h1, rfl⟩ _ ⟨x2, h2, rfl⟩
  exact topUpload_fn x0 x1 x2 h0 h1.2

set_option maxRecDepth 100000 in
theorem lifted (os : Os) (started : os.Started) (H : Type) (enc : TypeId × Value → H) :
    ReturnsInHanded {} Tryz.checked os 5 .any (fun w args => (Rows.topUploadSpec.pre enc Tryz.prog Tryz.f5 [] false w args ∧ laidMetH Tryz.prog Rows.topUploadRow.laid w) ∧ sizedMet enc Tryz.prog Tryz.f5 (OpenSpec.ofChange Rows.topUploadSpec) false w args) (Rows.topUploadSpec.post enc Tryz.prog Tryz.f5 false true false false) := by
  refine returnsInHanded_of_change_and (C := Tryz.checked) (X := fun w _ => laidMetH Tryz.prog Rows.topUploadRow.laid w) (fun _ _ _ hh h => h.of_heap hh) own started (by kernel_rfl) Tryz.func5
    (ChangeSpec.witness_shaped (enc := enc) (C := Tryz.checked) (os := os) (X := fun w _ => laidMetH Tryz.prog Rows.topUploadRow.laid w) false (World.laidAll Tryz.prog os Rows.topUploadRow.laid) #[.slice none 0 0, .slice none 0 0, .int .i64 0] 8 (World.laidAll_os _ _ _)
      (World.shaped_of_ZipB (by kernel_rfl) (by kernel_rfl)) (by kernel_rfl) (by kernel_rfl) (by kernel_rfl)
      (by rw [MakeChecks.laidMetH_plain _ _ _ (by kernel_rfl)]; exact laidMet_laidAll _ (by kernel_rfl) (by kernel_rfl))) ?_
  intro W base args ds gs before hval hW _ _ hL _
  exact contract H enc W base args ds gs before hval hL hW

theorem over : Rows.topUploadRow.holds Tryz.pinned (OpenSpec.ofChange Rows.topUploadSpec) :=
  OpenClaim.holds_of_wide 5 Tryz.f5 rfl rfl rfl rfl rfl rfl rfl ⟨rfl, rfl, rfl, rfl, rfl⟩ rfl rfl rfl rfl rfl (by kernel_rfl) Tryz.func5 (by kernel_rfl)
    (of_decide_eq_true (by kernel_rfl)) (by unfold Func.isWrapper; first | (rw [if_pos (by decide +kernel)]; kernel_rfl) | (rw [if_neg (by decide +kernel)]; exact ⟨rfl, rfl⟩))
    (fun os started H enc _ => lifted os started H enc)
theorem topUpload : Rows.TopUploadCardSaid :=
  Claim7.holds_tied_plain_at .later [] [.data, .data, .data, .data, .sentinel, .sentinel, .data, .pinned] true (true, "a47f9faa874ef813eac69332f184341619ec43dd2574129a6dc25b7699d922f5") true over (fun _ h => by cases h) (by kernel_rfl) (fun _ h => by cases h) topUpload_row_tie rfl ⟨rfl, rfl⟩ (by kernel_rfl) rfl
    (fun f fn hf hfn => by
      obtain rfl : f = 5 := Option.some.inj ((show Tryz.prog.funcNamed "coresec/coresectop.TopUpload" = some 5 by kernel_rfl).symm.trans hf) |>.symm
      obtain rfl : fn = Tryz.f5 := (Option.some.inj (Tryz.func5.symm.trans hfn)).symm
      exact ⟨by kernel_rfl, fun j t ht => by
        rw [Tryz.params5] at ht
        have hm : t ∈ [31, 22, 3] := by simpa using Array.mem_of_getElem? ht
        have hall : ([31, 22, 3].all fun u => !Tryz.prog.wantsStandIn u) = true := by kernel_rfl
        exact (show Tryz.prog.wantsStandIn t = false by simpa using List.all_eq_true.1 hall t hm)⟩)
    (by kernel_rfl)
end Go.Proofs.YtoonnnifelnaiaaGreatDoor.LtU
