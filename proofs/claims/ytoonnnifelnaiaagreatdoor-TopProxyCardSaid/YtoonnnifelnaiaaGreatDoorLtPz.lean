/-
  TopProxy, the statement: for every input the law returns true, and its arguments read as before. No condition.
-/
import Derived.Test.YtoonnnifelnaiaaGreatDoorCards
import Derived.Test.YtoonnnifelnaiaaGreatDoorTie
import Derived.Test.YtoonnnifelnaiaaGreatDoorZ5
namespace Go.Proofs.YtoonnnifelnaiaaGreatDoor.LtP
open Go.ChangeShapes Go.WideShapes Go.ChangeAt Go.RowKit Go.Deep L A By
set_option linter.unusedVariables false
set_option maxRecDepth 20000

theorem contract (H : Type) (enc : TypeId × Value → H) (W : World) (base : Nat) (args : Array Value) (ds gs : List (DataW H)) (before : List MemPlace)
    (hval : ∀ (j : Nat) t v, Tryz.f6.params[j]? = some t → args[j]? = some v → Value.okWide Tryz.prog W .any base t v) (hL : laidMetH Tryz.prog Rows.topProxyRow.laid W)
    (hW : DataW.Whole enc Tryz.prog Tryz.f6.params.toList Rows.topProxySpec.vars false W args.toList ds gs before) :
    Calls Tryz.prog 6 args W fun e W' => ∃ v, e = .returned v ∧ Rows.topProxySpec.post enc Tryz.prog Tryz.f6 false true false false W args v W' := by
  have hW' := hW
  obtain ⟨p, q, hA0, hV, rfl, hfz, hnd⟩ := hW
  have hA : DataW.TrodAll enc Tryz.prog W 0 (fun _ => true) true Tryz.f6.params.toList args.toList ds p := hA0
  rw [Tryz.params6] at hA
  obtain ⟨v0, vs0, d0, ds0, p0, q0, ha0, rfl, hp0, h0, r0⟩ := trodAll_cons hA
  obtain ⟨-, rfl, -⟩ := trodAll_nil r0
  obtain ⟨rfl, rfl⟩ := trodVars_none hV
  rw [MakeChecks.laidMetH_plain _ _ _ (by kernel_rfl)] at hL
  have hK : GN W := reads_strs (n := "coresec/diag.names") (ss := [[102, 97, 108, 115, 101], [116, 114, 117, 101], [110, 117, 108, 108], [117, 110, 100, 101, 102, 105, 110, 101, 100]]) hL (k := 4) (by decide) (by repeat (first | exact List.Mem.head _ | refine List.Mem.tail _ ?_)) (by kernel_rfl) (by kernel_rfl) Tryz.underlying166 rfl Tryz.underlying9 (by kernel_rfl) (by kernel_rfl)
  refine law_contractK enc (ts := [22]) (by rw [Tryz.params6]) (ReadsL.cons (Reads.ints Tryz.underlying22 Tryz.underlying3 (by kernel_rfl) (by kernel_rfl)) (ReadsL.nil)) (φs := [_]) ?_ hK hval hW' (fun W' hE => lawPost hW' rfl rfl rfl Tryz.underlying4 (by rw [Tryz.params6]; decide) hE)
  rintro _ ⟨x0, h0, rfl⟩
  exact topProxy_fn x0 h0.2

set_option maxRecDepth 100000 in
theorem lifted (os : Os) (started : os.Started) (H : Type) (enc : TypeId × Value → H) :
    ReturnsInHanded {} Tryz.checked os 6 .any (fun w args => (Rows.topProxySpec.pre enc Tryz.prog Tryz.f6 [] false w args ∧ laidMetH Tryz.prog Rows.topProxyRow.laid w) ∧ sizedMet enc Tryz.prog Tryz.f6 (OpenSpec.ofChange Rows.topProxySpec) false w args) (Rows.topProxySpec.post enc Tryz.prog Tryz.f6 false true false false) := by
  refine returnsInHanded_of_change_and (C := Tryz.checked) (X := fun w _ => laidMetH Tryz.prog Rows.topProxyRow.laid w) (fun _ _ _ hh h => h.of_heap hh) own started (by kernel_rfl) Tryz.func6
    (ChangeSpec.witness_shaped (enc := enc) (C := Tryz.checked) (os := os) (X := fun w _ => laidMetH Tryz.prog Rows.topProxyRow.laid w) false (World.laidAll Tryz.prog os Rows.topProxyRow.laid) #[.slice none 0 0] 8 (World.laidAll_os _ _ _)
      (World.shaped_of_ZipB (by kernel_rfl) (by kernel_rfl)) (by kernel_rfl) (by kernel_rfl) (by kernel_rfl)
      (by rw [MakeChecks.laidMetH_plain _ _ _ (by kernel_rfl)]; exact laidMet_laidAll _ (by kernel_rfl) (by kernel_rfl))) ?_
  intro W base args ds gs before hval hW _ _ hL _
  exact contract H enc W base args ds gs before hval hL hW

theorem over : Rows.topProxyRow.holds Tryz.pinned (OpenSpec.ofChange Rows.topProxySpec) :=
  OpenClaim.holds_of_wide 6 Tryz.f6 rfl rfl rfl rfl rfl rfl rfl ⟨rfl, rfl, rfl, rfl, rfl⟩ rfl rfl rfl rfl rfl (by kernel_rfl) Tryz.func6 (by kernel_rfl)
    (of_decide_eq_true (by kernel_rfl)) (by unfold Func.isWrapper; first | (rw [if_pos (by decide +kernel)]; kernel_rfl) | (rw [if_neg (by decide +kernel)]; exact ⟨rfl, rfl⟩))
    (fun os started H enc _ => lifted os started H enc)
theorem topProxy : Rows.TopProxyCardSaid :=
  Claim7.holds_tied_plain_at .later [] [.data, .data, .data, .data, .sentinel, .sentinel, .data, .pinned] true (true, "a47f9faa874ef813eac69332f184341619ec43dd2574129a6dc25b7699d922f5") true over (fun _ h => by cases h) (by kernel_rfl) (fun _ h => by cases h) topProxy_row_tie rfl ⟨rfl, rfl⟩ (by kernel_rfl) rfl
    (fun f fn hf hfn => by
      obtain rfl : f = 6 := Option.some.inj ((show Tryz.prog.funcNamed "coresec/coresectop.TopProxy" = some 6 by kernel_rfl).symm.trans hf) |>.symm
      obtain rfl : fn = Tryz.f6 := (Option.some.inj (Tryz.func6.symm.trans hfn)).symm
      exact ⟨by kernel_rfl, fun j t ht => by
        rw [Tryz.params6] at ht
        have hm : t ∈ [22] := by simpa using Array.mem_of_getElem? ht
        have hall : ([22].all fun u => !Tryz.prog.wantsStandIn u) = true := by kernel_rfl
        exact (show Tryz.prog.wantsStandIn t = false by simpa using List.all_eq_true.1 hall t hm)⟩)
    (by kernel_rfl)
end Go.Proofs.YtoonnnifelnaiaaGreatDoor.LtP
