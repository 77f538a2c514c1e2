/-
  No cell of these rows narrows 'for every input' (looked for: loops, veiled, ifaces, maps, wideKeys, modest, calm, conditions, laid).
  DERIVED. THE GIVEN ROWS OF THIS SEAT. 3 by the template 'for every input the law returns true; each argument reads behind the call as it read before'; 0 by the template 'total and deterministic' (their statements: YtbkclbbhdeohfaaTotals.lean).
  GIVEN WITH THE SEED: the statements are not yours to turn. If you find one false, say at which input.
  Laid BY PROGRAM, IN A SANDBOX (cutbox-rows.mjs): the forced cells as the released guide's own fill.sh prints them over the translation 0ccebe4e1191c26f… (all of the seat's roots in one cut). By AI agents, Wed Nov 11 2026. No macro, syntax, notation, axiom, sorry.
-/
import Derived.Test.YtbkclbbhdeohfaaChecked
import GoSem.Claim
import GoSem.ClaimJoined
import GoSem.ClaimMapViews
import Derived.JoinedTies
import Derived.KernelRfl
namespace Go.Proofs.Ytbkclbbhdeohfaa
/- THE CELL 'sum', in the pinned program and in every row, IS THE sha256 OF THE DUMP (.gsa) THAT YtbkclbbhdeohfaaProg.lean LOADS. Nothing in Lean hashes anything: it is a label: what it is worth is what the hold of that sum in a sandbox is worth. -/
noncomputable def Try.pinned : Pinned := { name := "ytbkclbbhdeohfaa", sum := "0ccebe4e1191c26ff962fab2bce041bf65a4fbc92a304312c5854e1efe6a40d4", checked := Try.checked }
namespace Rows
def none {H : Type} : Left H := { results := [], args := [] }

/-- 'coreseclaw27.CompressDecodes': WHATEVER THE INPUT: true; the input reads as it did. -/
def compressDecodesSpec : ChangeSpec := { name := "compressDecodes", fn := fun _ => fun
  | [d1, d2, d3, d4] => { results := [.lit (.bool true)], args := [d1, d2, d3, d4] }
  | _ => none }
def compressDecodesRow : OpenClaim := { program := "ytbkclbbhdeohfaa", sum := "0ccebe4e1191c26ff962fab2bce041bf65a4fbc92a304312c5854e1efe6a40d4", func := "coresec/coreseclaw27.CompressDecodes", spec := "compressDecodes", apart := false }
def CompressDecodesSaid : Prop := compressDecodesRow.holds Try.pinned (OpenSpec.ofChange compressDecodesSpec)

/-- ITS FALSE NEIGHBOUR: 'it returns false'. Refute it at one input. -/
def compressDecodesWrong : ChangeSpec := { name := "compressDecodes", fn := fun _ => fun
  | [d1, d2, d3, d4] => { results := [.lit (.bool false)], args := [d1, d2, d3, d4] }
  | _ => none }
def CompressDecodesWrongFalsely : Prop := compressDecodesRow.holds Try.pinned (OpenSpec.ofChange compressDecodesWrong)

/-- 'coreseclaw27.CompressEncodes': WHATEVER THE INPUT: true; the input reads as it did. -/
def compressEncodesSpec : ChangeSpec := { name := "compressEncodes", fn := fun _ => fun
  | [d1, d2] => { results := [.lit (.bool true)], args := [d1, d2] }
  | _ => none }
def compressEncodesRow : OpenClaim := { program := "ytbkclbbhdeohfaa", sum := "0ccebe4e1191c26ff962fab2bce041bf65a4fbc92a304312c5854e1efe6a40d4", func := "coresec/coreseclaw27.CompressEncodes", spec := "compressEncodes", apart := false }
def CompressEncodesSaid : Prop := compressEncodesRow.holds Try.pinned (OpenSpec.ofChange compressEncodesSpec)

/-- ITS FALSE NEIGHBOUR: 'it returns false'. Refute it at one input. -/
def compressEncodesWrong : ChangeSpec := { name := "compressEncodes", fn := fun _ => fun
  | [d1, d2] => { results := [.lit (.bool false)], args := [d1, d2] }
  | _ => none }
def CompressEncodesWrongFalsely : Prop := compressEncodesRow.holds Try.pinned (OpenSpec.ofChange compressEncodesWrong)

/-- 'coreseclaw27.CompressBack': WHATEVER THE INPUT: true; the input reads as it did. -/
def compressBackSpec : ChangeSpec := { name := "compressBack", fn := fun _ => fun
  | [d1, d2, d3, d4] => { results := [.lit (.bool true)], args := [d1, d2, d3, d4] }
  | _ => none }
def compressBackRow : OpenClaim := { program := "ytbkclbbhdeohfaa", sum := "0ccebe4e1191c26ff962fab2bce041bf65a4fbc92a304312c5854e1efe6a40d4", func := "coresec/coreseclaw27.CompressBack", spec := "compressBack", apart := false }
def CompressBackSaid : Prop := compressBackRow.holds Try.pinned (OpenSpec.ofChange compressBackSpec)

/-- ITS FALSE NEIGHBOUR: 'it returns false'. Refute it at one input. -/
def compressBackWrong : ChangeSpec := { name := "compressBack", fn := fun _ => fun
  | [d1, d2, d3, d4] => { results := [.lit (.bool false)], args := [d1, d2, d3, d4] }
  | _ => none }
def CompressBackWrongFalsely : Prop := compressBackRow.holds Try.pinned (OpenSpec.ofChange compressBackWrong)

/- THE SECOND FORM. 'bulk': how many values and letters a reading holds, each counted each time it is reached (what is shared counts as often as it is met; a slice's spare places count too). A statement '..UptoSaid' is the law's where the arguments, and the package variables that the reading takes, are together of bulk at most 1048576: NARROWER than '..Said'. Prove '..Said' where nothing that the law and all that it calls make is longer than what came in: it says more and counts as full. Else prove '..UptoSaid'. A law counts once. -/
mutual
def uptoBulk {H : Type} : DataW H → Nat
  | .lit (.string bytes) => bytes.length + 1
  | .lit _ => 1
  | .nil => 1
  | .ptr d => uptoBulk d + 1
  | .slice elems spare => uptoBulkAll elems + uptoBulkAll spare + 1
  | .agg parts => uptoBulkAll parts + 1
  | .iface _ d => uptoBulk d + 1
  | .map entries => uptoBulkEntries entries + 1
  | .held _ => 1
def uptoBulkAll {H : Type} : List (DataW H) → Nat
  | [] => 0
  | d :: r => uptoBulk d + uptoBulkAll r
def uptoBulkEntries {H : Type} : List (Lit × DataW H) → Nat
  | [] => 0
  | x :: r => uptoBulkEntry x + uptoBulkEntries r
def uptoBulkEntry {H : Type} : Lit × DataW H → Nat
  | (.string bytes, d) => bytes.length + uptoBulk d + 1
  | (_, d) => uptoBulk d + 1
 end
def uptoSmall : (H : Type) → List (DataW H) → Bool := fun _ ds => decide (uptoBulkAll ds ≤ 1048576)
def OpenSpec.upto (s : _root_.Go.ChangeSpec) : _root_.Go.OpenSpec := { _root_.Go.OpenSpec.ofChange s with cond := some uptoSmall }

/-- 'coreseclaw27.CompressDecodes', WHERE WHAT IT READS IS OF BULK AT MOST 1048576: true; the input reads as it did. -/
def compressDecodesUptoRow : OpenClaim := { program := "ytbkclbbhdeohfaa", sum := "0ccebe4e1191c26ff962fab2bce041bf65a4fbc92a304312c5854e1efe6a40d4", func := "coresec/coreseclaw27.CompressDecodes", spec := "compressDecodes", apart := false, narrowed := true }
def CompressDecodesUptoSaid : Prop := compressDecodesUptoRow.holds Try.pinned (OpenSpec.upto compressDecodesSpec)

/-- 'coreseclaw27.CompressEncodes', WHERE WHAT IT READS IS OF BULK AT MOST 1048576: true; the input reads as it did. -/
def compressEncodesUptoRow : OpenClaim := { program := "ytbkclbbhdeohfaa", sum := "0ccebe4e1191c26ff962fab2bce041bf65a4fbc92a304312c5854e1efe6a40d4", func := "coresec/coreseclaw27.CompressEncodes", spec := "compressEncodes", apart := false, narrowed := true }
def CompressEncodesUptoSaid : Prop := compressEncodesUptoRow.holds Try.pinned (OpenSpec.upto compressEncodesSpec)

/-- 'coreseclaw27.CompressBack', WHERE WHAT IT READS IS OF BULK AT MOST 1048576: true; the input reads as it did. -/
def compressBackUptoRow : OpenClaim := { program := "ytbkclbbhdeohfaa", sum := "0ccebe4e1191c26ff962fab2bce041bf65a4fbc92a304312c5854e1efe6a40d4", func := "coresec/coreseclaw27.CompressBack", spec := "compressBack", apart := false, narrowed := true }
def CompressBackUptoSaid : Prop := compressBackUptoRow.holds Try.pinned (OpenSpec.upto compressBackSpec)

end Rows
end Go.Proofs.Ytbkclbbhdeohfaa
