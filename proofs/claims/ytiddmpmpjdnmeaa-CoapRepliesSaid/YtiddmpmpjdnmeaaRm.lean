/-
  Messages and options as arguments.
-/
import Derived.Test.YtiddmpmpjdnmeaaArg
import Derived.Test.YtiddmpmpjdnmeaaMs
namespace Go.Proofs.Ytiddmpmpjdnmeaa.By
open Go.RowKit L A
set_option linter.unusedVariables false
theorem i64_in {z : Int} (h : (Lit.int .i64 z).wf = true) : -9223372036854775808 ≤ z ∧ z ≤ 9223372036854775807 := by
  simpa [Lit.wf, IntKind.min, IntKind.max, IntKind.signed, IntKind.bits] using h
def GoodO (o : Opt) : Prop := (Lit.int .i64 o.num).wf = true ∧ o.val.length ≤ maxLen
def GoodM (m : Msg) : Prop := ((Lit.int .i64 m.ty).wf = true ∧ (Lit.int .i64 m.code).wf = true ∧ (Lit.int .i64 m.id).wf = true) ∧ m.tok.length ≤ maxLen ∧ ((∀ o ∈ m.opts, GoodO o) ∧ m.opts.length ≤ maxLen) ∧ m.pay.length ≤ maxLen
theorem rdOpt : RdC Try.prog 43 cellsO GoodO :=
  (RdC.struct Try.underlying43 (by kernel_rfl)
    (.cons (k := 1) (RdC.int Try.underlying3 (by kernel_rfl)) rfl (by kernel_rfl)
    (.cons (k := 1) (RdC.bytes Try.underlying22 Try.underlying5 (by kernel_rfl) (by kernel_rfl)) rfl (by kernel_rfl) .nil))).map
    (fun p => ⟨p.1, p.2.1⟩) (fun p h => ⟨⟨h.1, h.2.1⟩, rfl⟩) (fun _ => by show 2 = _; kernel_rfl)
theorem rdMsg : RdC Try.prog 31 cellsM GoodM :=
  (RdC.struct Try.underlying31 (by kernel_rfl)
    (.cons (k := 1) (RdC.int Try.underlying3 (by kernel_rfl)) rfl (by kernel_rfl)
    (.cons (k := 1) (RdC.int Try.underlying3 (by kernel_rfl)) rfl (by kernel_rfl)
    (.cons (k := 1) (RdC.int Try.underlying3 (by kernel_rfl)) rfl (by kernel_rfl)
    (.cons (k := 1) (RdC.bytes Try.underlying22 Try.underlying5 (by kernel_rfl) (by kernel_rfl)) rfl (by kernel_rfl)
    (.cons (k := 1) (RdC.slice Try.underlying29 (by kernel_rfl) (of_decide_eq_true (by kernel_rfl)) rdOpt) rfl (by kernel_rfl)
    (.cons (k := 1) (RdC.bytes Try.underlying22 Try.underlying5 (by kernel_rfl) (by kernel_rfl)) rfl (by kernel_rfl) .nil))))))).map
    (fun p => ⟨p.1, p.2.1, p.2.2.1, p.2.2.2.1, p.2.2.2.2.1, p.2.2.2.2.2.1⟩) (fun p h => ⟨⟨⟨h.1, h.2.1, h.2.2.1⟩, h.2.2.2.1, h.2.2.2.2.1, h.2.2.2.2.2.1⟩, rfl⟩) (fun _ => by show 6 = _; kernel_rfl)
end Go.Proofs.Ytiddmpmpjdnmeaa.By
