/-
  No cell of these rows narrows 'for every input' (looked for: loops, veiled, ifaces, maps, wideKeys, modest, calm, conditions, laid).
  DERIVED. THE GIVEN ROWS OF THIS SEAT. 6 by the template 'for every input the law returns true; each argument reads behind the call as it read before'; 0 by the template 'total and deterministic' (their statements: YtiddmpmpjdnmeaaTotals.lean).
  GIVEN WITH THE SEED: the statements are not yours to turn. If you find one false, say at which input.
  Laid BY PROGRAM, IN A SANDBOX (cutbox-rows.mjs): the forced cells as the released guide's own fill.sh prints them over the translation 39f372acd8bc1056… (all of the seat's roots in one cut). By AI agents, Wed Nov 11 2026. No macro, syntax, notation, axiom, sorry.
-/
import Derived.Test.YtiddmpmpjdnmeaaChecked
import GoSem.Claim
import GoSem.ClaimJoined
import GoSem.ClaimMapViews
import Derived.JoinedTies
import Derived.KernelRfl
namespace Go.Proofs.Ytiddmpmpjdnmeaa
/- THE CELL 'sum', in the pinned program and in every row, IS THE sha256 OF THE DUMP (.gsa) THAT YtiddmpmpjdnmeaaProg.lean LOADS. Nothing in Lean hashes anything: it is a label: what it is worth is what the hold of that sum in a sandbox is worth. -/
noncomputable def Try.pinned : Pinned := { name := "ytiddmpmpjdnmeaa", sum := "39f372acd8bc1056bf165d7f480d3f997d2375da3857cd64e70bbc213ff32ae2", checked := Try.checked }
namespace Rows
def none {H : Type} : Left H := { results := [], args := [] }

/-- 'coreseclaw15.CoapDecodes': WHATEVER THE INPUT: true; the input reads as it did. -/
def coapDecodesSpec : ChangeSpec := { name := "coapDecodes", fn := fun _ => fun
  | [d1, d2, d3, d4] => { results := [.lit (.bool true)], args := [d1, d2, d3, d4] }
  | _ => none }
def coapDecodesRow : OpenClaim := { program := "ytiddmpmpjdnmeaa", sum := "39f372acd8bc1056bf165d7f480d3f997d2375da3857cd64e70bbc213ff32ae2", func := "coresec/coreseclaw15.CoapDecodes", spec := "coapDecodes", apart := false }
def CoapDecodesSaid : Prop := coapDecodesRow.holds Try.pinned (OpenSpec.ofChange coapDecodesSpec)

/-- ITS FALSE NEIGHBOUR: 'it returns false'. Refute it at one input. -/
def coapDecodesWrong : ChangeSpec := { name := "coapDecodes", fn := fun _ => fun
  | [d1, d2, d3, d4] => { results := [.lit (.bool false)], args := [d1, d2, d3, d4] }
  | _ => none }
def CoapDecodesWrongFalsely : Prop := coapDecodesRow.holds Try.pinned (OpenSpec.ofChange coapDecodesWrong)

/-- 'coreseclaw15.CoapEdges': WHATEVER THE INPUT: true; the input reads as it did. -/
def coapEdgesSpec : ChangeSpec := { name := "coapEdges", fn := fun _ => fun
  | [d1, d2, d3, d4] => { results := [.lit (.bool true)], args := [d1, d2, d3, d4] }
  | _ => none }
def coapEdgesRow : OpenClaim := { program := "ytiddmpmpjdnmeaa", sum := "39f372acd8bc1056bf165d7f480d3f997d2375da3857cd64e70bbc213ff32ae2", func := "coresec/coreseclaw15.CoapEdges", spec := "coapEdges", apart := false }
def CoapEdgesSaid : Prop := coapEdgesRow.holds Try.pinned (OpenSpec.ofChange coapEdgesSpec)

/-- ITS FALSE NEIGHBOUR: 'it returns false'. Refute it at one input. -/
def coapEdgesWrong : ChangeSpec := { name := "coapEdges", fn := fun _ => fun
  | [d1, d2, d3, d4] => { results := [.lit (.bool false)], args := [d1, d2, d3, d4] }
  | _ => none }
def CoapEdgesWrongFalsely : Prop := coapEdgesRow.holds Try.pinned (OpenSpec.ofChange coapEdgesWrong)

/-- 'coreseclaw15.CoapOne': WHATEVER THE INPUT: true; the input reads as it did. -/
def coapOneSpec : ChangeSpec := { name := "coapOne", fn := fun _ => fun
  | [d1, d2, d3, d4] => { results := [.lit (.bool true)], args := [d1, d2, d3, d4] }
  | _ => none }
def coapOneRow : OpenClaim := { program := "ytiddmpmpjdnmeaa", sum := "39f372acd8bc1056bf165d7f480d3f997d2375da3857cd64e70bbc213ff32ae2", func := "coresec/coreseclaw15.CoapOne", spec := "coapOne", apart := false }
def CoapOneSaid : Prop := coapOneRow.holds Try.pinned (OpenSpec.ofChange coapOneSpec)

/-- ITS FALSE NEIGHBOUR: 'it returns false'. Refute it at one input. -/
def coapOneWrong : ChangeSpec := { name := "coapOne", fn := fun _ => fun
  | [d1, d2, d3, d4] => { results := [.lit (.bool false)], args := [d1, d2, d3, d4] }
  | _ => none }
def CoapOneWrongFalsely : Prop := coapOneRow.holds Try.pinned (OpenSpec.ofChange coapOneWrong)

/-- 'coreseclaw15.CoapBack': WHATEVER THE INPUT: true; the input reads as it did. -/
def coapBackSpec : ChangeSpec := { name := "coapBack", fn := fun _ => fun
  | [d1, d2] => { results := [.lit (.bool true)], args := [d1, d2] }
  | _ => none }
def coapBackRow : OpenClaim := { program := "ytiddmpmpjdnmeaa", sum := "39f372acd8bc1056bf165d7f480d3f997d2375da3857cd64e70bbc213ff32ae2", func := "coresec/coreseclaw15.CoapBack", spec := "coapBack", apart := false }
def CoapBackSaid : Prop := coapBackRow.holds Try.pinned (OpenSpec.ofChange coapBackSpec)

/-- ITS FALSE NEIGHBOUR: 'it returns false'. Refute it at one input. -/
def coapBackWrong : ChangeSpec := { name := "coapBack", fn := fun _ => fun
  | [d1, d2] => { results := [.lit (.bool false)], args := [d1, d2] }
  | _ => none }
def CoapBackWrongFalsely : Prop := coapBackRow.holds Try.pinned (OpenSpec.ofChange coapBackWrong)

/-- 'coreseclaw15.CoapValid': WHATEVER THE INPUT: true; the input reads as it did. -/
def coapValidSpec : ChangeSpec := { name := "coapValid", fn := fun _ => fun
  | [d1, d2, d3, d4] => { results := [.lit (.bool true)], args := [d1, d2, d3, d4] }
  | _ => none }
def coapValidRow : OpenClaim := { program := "ytiddmpmpjdnmeaa", sum := "39f372acd8bc1056bf165d7f480d3f997d2375da3857cd64e70bbc213ff32ae2", func := "coresec/coreseclaw15.CoapValid", spec := "coapValid", apart := false }
def CoapValidSaid : Prop := coapValidRow.holds Try.pinned (OpenSpec.ofChange coapValidSpec)

/-- ITS FALSE NEIGHBOUR: 'it returns false'. Refute it at one input. -/
def coapValidWrong : ChangeSpec := { name := "coapValid", fn := fun _ => fun
  | [d1, d2, d3, d4] => { results := [.lit (.bool false)], args := [d1, d2, d3, d4] }
  | _ => none }
def CoapValidWrongFalsely : Prop := coapValidRow.holds Try.pinned (OpenSpec.ofChange coapValidWrong)

/-- 'coreseclaw15.CoapReplies': WHATEVER THE INPUT: true; the input reads as it did. -/
def coapRepliesSpec : ChangeSpec := { name := "coapReplies", fn := fun _ => fun
  | [d1, d2, d3, d4, d5, d6, d7] => { results := [.lit (.bool true)], args := [d1, d2, d3, d4, d5, d6, d7] }
  | _ => none }
def coapRepliesRow : OpenClaim := { program := "ytiddmpmpjdnmeaa", sum := "39f372acd8bc1056bf165d7f480d3f997d2375da3857cd64e70bbc213ff32ae2", func := "coresec/coreseclaw15.CoapReplies", spec := "coapReplies", apart := false }
def CoapRepliesSaid : Prop := coapRepliesRow.holds Try.pinned (OpenSpec.ofChange coapRepliesSpec)

/-- ITS FALSE NEIGHBOUR: 'it returns false'. Refute it at one input. -/
def coapRepliesWrong : ChangeSpec := { name := "coapReplies", fn := fun _ => fun
  | [d1, d2, d3, d4, d5, d6, d7] => { results := [.lit (.bool false)], args := [d1, d2, d3, d4, d5, d6, d7] }
  | _ => none }
def CoapRepliesWrongFalsely : Prop := coapRepliesRow.holds Try.pinned (OpenSpec.ofChange coapRepliesWrong)

/- THE SECOND FORM. 'bulk': how many values and letters a reading holds, each counted each time it is reached (what is shared counts as often as it is met; a slice's spare places count too). A statement '..UptoSaid' is the law's where the arguments, and the package variables that the reading takes, are together of bulk at most 1048576: NARROWER than '..Said'. Prove '..Said' where nothing that the law and all that it calls make is longer than what came in: it says more and counts as full. Else prove '..UptoSaid'. A law counts once. -/
mutual
def uptoBulk {H : Type} : DataW H → Nat
  | .lit (.string bytes) => bytes.length + 1
  | .lit _ => 1
  | .nil => 1
  | .ptr d => uptoBulk d + 1
  | .slice elems spare => uptoBulkAll elems + uptoBulkAll spare + 1
  | .agg parts => uptoBulkAll parts + 1
  | .iface _ d => uptoBulk d + 1
  | .map entries => uptoBulkEntries entries + 1
  | .held _ => 1
def uptoBulkAll {H : Type} : List (DataW H) → Nat
  | [] => 0
  | d :: r => uptoBulk d + uptoBulkAll r
def uptoBulkEntries {H : Type} : List (Lit × DataW H) → Nat
  | [] => 0
  | x :: r => uptoBulkEntry x + uptoBulkEntries r
def uptoBulkEntry {H : Type} : Lit × DataW H → Nat
  | (.string bytes, d) => bytes.length + uptoBulk d + 1
  | (_, d) => uptoBulk d + 1
 end
def uptoSmall : (H : Type) → List (DataW H) → Bool := fun _ ds => decide (uptoBulkAll ds ≤ 1048576)
def OpenSpec.upto (s : _root_.Go.ChangeSpec) : _root_.Go.OpenSpec := { _root_.Go.OpenSpec.ofChange s with cond := some uptoSmall }

/-- 'coreseclaw15.CoapDecodes', WHERE WHAT IT READS IS OF BULK AT MOST 1048576: true; the input reads as it did. -/
def coapDecodesUptoRow : OpenClaim := { program := "ytiddmpmpjdnmeaa", sum := "39f372acd8bc1056bf165d7f480d3f997d2375da3857cd64e70bbc213ff32ae2", func := "coresec/coreseclaw15.CoapDecodes", spec := "coapDecodes", apart := false, narrowed := true }
def CoapDecodesUptoSaid : Prop := coapDecodesUptoRow.holds Try.pinned (OpenSpec.upto coapDecodesSpec)

/-- 'coreseclaw15.CoapEdges', WHERE WHAT IT READS IS OF BULK AT MOST 1048576: true; the input reads as it did. -/
def coapEdgesUptoRow : OpenClaim := { program := "ytiddmpmpjdnmeaa", sum := "39f372acd8bc1056bf165d7f480d3f997d2375da3857cd64e70bbc213ff32ae2", func := "coresec/coreseclaw15.CoapEdges", spec := "coapEdges", apart := false, narrowed := true }
def CoapEdgesUptoSaid : Prop := coapEdgesUptoRow.holds Try.pinned (OpenSpec.upto coapEdgesSpec)

/-- 'coreseclaw15.CoapOne', WHERE WHAT IT READS IS OF BULK AT MOST 1048576: true; the input reads as it did. -/
def coapOneUptoRow : OpenClaim := { program := "ytiddmpmpjdnmeaa", sum := "39f372acd8bc1056bf165d7f480d3f997d2375da3857cd64e70bbc213ff32ae2", func := "coresec/coreseclaw15.CoapOne", spec := "coapOne", apart := false, narrowed := true }
def CoapOneUptoSaid : Prop := coapOneUptoRow.holds Try.pinned (OpenSpec.upto coapOneSpec)

/-- 'coreseclaw15.CoapBack', WHERE WHAT IT READS IS OF BULK AT MOST 1048576: true; the input reads as it did. -/
def coapBackUptoRow : OpenClaim := { program := "ytiddmpmpjdnmeaa", sum := "39f372acd8bc1056bf165d7f480d3f997d2375da3857cd64e70bbc213ff32ae2", func := "coresec/coreseclaw15.CoapBack", spec := "coapBack", apart := false, narrowed := true }
def CoapBackUptoSaid : Prop := coapBackUptoRow.holds Try.pinned (OpenSpec.upto coapBackSpec)

/-- 'coreseclaw15.CoapValid', WHERE WHAT IT READS IS OF BULK AT MOST 1048576: true; the input reads as it did. -/
def coapValidUptoRow : OpenClaim := { program := "ytiddmpmpjdnmeaa", sum := "39f372acd8bc1056bf165d7f480d3f997d2375da3857cd64e70bbc213ff32ae2", func := "coresec/coreseclaw15.CoapValid", spec := "coapValid", apart := false, narrowed := true }
def CoapValidUptoSaid : Prop := coapValidUptoRow.holds Try.pinned (OpenSpec.upto coapValidSpec)

/-- 'coreseclaw15.CoapReplies', WHERE WHAT IT READS IS OF BULK AT MOST 1048576: true; the input reads as it did. -/
def coapRepliesUptoRow : OpenClaim := { program := "ytiddmpmpjdnmeaa", sum := "39f372acd8bc1056bf165d7f480d3f997d2375da3857cd64e70bbc213ff32ae2", func := "coresec/coreseclaw15.CoapReplies", spec := "coapReplies", apart := false, narrowed := true }
def CoapRepliesUptoSaid : Prop := coapRepliesUptoRow.holds Try.pinned (OpenSpec.upto coapRepliesSpec)

end Rows
end Go.Proofs.Ytiddmpmpjdnmeaa
