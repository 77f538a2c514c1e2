/-
  No cell of these rows narrows 'for every input' (looked for: loops, veiled, ifaces, maps, wideKeys, modest, calm, conditions, laid).
  DERIVED. THE GIVEN ROWS OF THIS SEAT. 5 by the template 'for every input the law returns true; each argument reads behind the call as it read before'; 0 by the template 'total and deterministic' (their statements: YtojomcdjcpmnkaaGreatTotals.lean).
  GIVEN WITH THE SEED: the statements are not yours to turn. If you find one false, say at which input.
  Laid BY PROGRAM, IN A SANDBOX (cutbox-rows.mjs): the forced cells as the released guide's own fill.sh prints them over the translation c2b5ae60423a8735… (all of the seat's roots in one cut). By AI agents, Wed Nov 11 2026. No macro, syntax, notation, axiom, sorry.
-/
import Derived.Test.YtojomcdjcpmnkaaGreatChecked
import GoSem.Claim
import GoSem.ClaimJoined
import GoSem.ClaimMapViews
import Derived.JoinedTies
import Derived.KernelRfl
namespace Go.Proofs.YtojomcdjcpmnkaaGreat
/- THE CELL 'sum', in the pinned program and in every row, IS THE sha256 OF THE DUMP (.gsa) THAT YtojomcdjcpmnkaaGreatProg.lean LOADS. Nothing in Lean hashes anything: it is a label: what it is worth is what the hold of that sum in a sandbox is worth. -/
noncomputable def Tryz.pinned : Pinned := { name := "ytojomcdjcpmnkaagreat", sum := "c2b5ae60423a873506886e58cf0d0c9599a0e51e3d9e5895ed4193f58bdb6ea8", checked := Tryz.checked }
namespace Rows
def none {H : Type} : Left H := { results := [], args := [] }

/-- 'coreseclaw31.OscoreRequests': WHATEVER THE INPUT: true; the input reads as it did. -/
def oscoreRequestsSpec : ChangeSpec := { name := "oscoreRequests", fn := fun _ => fun
  | [d1, d2, d3, d4] => { results := [.lit (.bool true)], args := [d1, d2, d3, d4] }
  | _ => none }
def oscoreRequestsRow : OpenClaim := { program := "ytojomcdjcpmnkaagreat", sum := "c2b5ae60423a873506886e58cf0d0c9599a0e51e3d9e5895ed4193f58bdb6ea8", func := "coresec/coreseclaw31.OscoreRequests", spec := "oscoreRequests", unfollowed := true, recurses := true, apart := false }
def OscoreRequestsSaid : Prop := oscoreRequestsRow.holds Tryz.pinned (OpenSpec.ofChange oscoreRequestsSpec)

/-- ITS FALSE NEIGHBOUR: 'it returns false'. Refute it at one input. -/
def oscoreRequestsWrong : ChangeSpec := { name := "oscoreRequests", fn := fun _ => fun
  | [d1, d2, d3, d4] => { results := [.lit (.bool false)], args := [d1, d2, d3, d4] }
  | _ => none }
def OscoreRequestsWrongFalsely : Prop := oscoreRequestsRow.holds Tryz.pinned (OpenSpec.ofChange oscoreRequestsWrong)

/-- 'coreseclaw31.OscoreReads': WHATEVER THE INPUT: true; the input reads as it did. -/
def oscoreReadsSpec : ChangeSpec := { name := "oscoreReads", fn := fun _ => fun
  | [d1, d2, d3, d4, d5] => { results := [.lit (.bool true)], args := [d1, d2, d3, d4, d5] }
  | _ => none }
def oscoreReadsRow : OpenClaim := { program := "ytojomcdjcpmnkaagreat", sum := "c2b5ae60423a873506886e58cf0d0c9599a0e51e3d9e5895ed4193f58bdb6ea8", func := "coresec/coreseclaw31.OscoreReads", spec := "oscoreReads", unfollowed := true, recurses := true, apart := false }
def OscoreReadsSaid : Prop := oscoreReadsRow.holds Tryz.pinned (OpenSpec.ofChange oscoreReadsSpec)

/-- ITS FALSE NEIGHBOUR: 'it returns false'. Refute it at one input. -/
def oscoreReadsWrong : ChangeSpec := { name := "oscoreReads", fn := fun _ => fun
  | [d1, d2, d3, d4, d5] => { results := [.lit (.bool false)], args := [d1, d2, d3, d4, d5] }
  | _ => none }
def OscoreReadsWrongFalsely : Prop := oscoreReadsRow.holds Tryz.pinned (OpenSpec.ofChange oscoreReadsWrong)

/-- 'coreseclaw32.NotifyReceives': WHATEVER THE INPUT: true; the input reads as it did. -/
def notifyReceivesSpec : ChangeSpec := { name := "notifyReceives", fn := fun _ => fun
  | [d1, d2, d3, d4, d5, d6] => { results := [.lit (.bool true)], args := [d1, d2, d3, d4, d5, d6] }
  | _ => none }
def notifyReceivesRow : OpenClaim := { program := "ytojomcdjcpmnkaagreat", sum := "c2b5ae60423a873506886e58cf0d0c9599a0e51e3d9e5895ed4193f58bdb6ea8", func := "coresec/coreseclaw32.NotifyReceives", spec := "notifyReceives", unfollowed := true, recurses := true, apart := false }
def NotifyReceivesSaid : Prop := notifyReceivesRow.holds Tryz.pinned (OpenSpec.ofChange notifyReceivesSpec)

/-- ITS FALSE NEIGHBOUR: 'it returns false'. Refute it at one input. -/
def notifyReceivesWrong : ChangeSpec := { name := "notifyReceives", fn := fun _ => fun
  | [d1, d2, d3, d4, d5, d6] => { results := [.lit (.bool false)], args := [d1, d2, d3, d4, d5, d6] }
  | _ => none }
def NotifyReceivesWrongFalsely : Prop := notifyReceivesRow.holds Tryz.pinned (OpenSpec.ofChange notifyReceivesWrong)

/-- 'coreseclaw31.OscoreResponses': WHATEVER THE INPUT: true; the input reads as it did. -/
def oscoreResponsesSpec : ChangeSpec := { name := "oscoreResponses", fn := fun _ => fun
  | [d1, d2, d3, d4, d5, d6, d7] => { results := [.lit (.bool true)], args := [d1, d2, d3, d4, d5, d6, d7] }
  | _ => none }
def oscoreResponsesRow : OpenClaim := { program := "ytojomcdjcpmnkaagreat", sum := "c2b5ae60423a873506886e58cf0d0c9599a0e51e3d9e5895ed4193f58bdb6ea8", func := "coresec/coreseclaw31.OscoreResponses", spec := "oscoreResponses", unfollowed := true, recurses := true, apart := false }
def OscoreResponsesSaid : Prop := oscoreResponsesRow.holds Tryz.pinned (OpenSpec.ofChange oscoreResponsesSpec)

/-- ITS FALSE NEIGHBOUR: 'it returns false'. Refute it at one input. -/
def oscoreResponsesWrong : ChangeSpec := { name := "oscoreResponses", fn := fun _ => fun
  | [d1, d2, d3, d4, d5, d6, d7] => { results := [.lit (.bool false)], args := [d1, d2, d3, d4, d5, d6, d7] }
  | _ => none }
def OscoreResponsesWrongFalsely : Prop := oscoreResponsesRow.holds Tryz.pinned (OpenSpec.ofChange oscoreResponsesWrong)

/-- 'coreseclaw31.OscoreOpens': WHATEVER THE INPUT: true; the input reads as it did. -/
def oscoreOpensSpec : ChangeSpec := { name := "oscoreOpens", fn := fun _ => fun
  | [d1, d2, d3, d4, d5] => { results := [.lit (.bool true)], args := [d1, d2, d3, d4, d5] }
  | _ => none }
def oscoreOpensRow : OpenClaim := { program := "ytojomcdjcpmnkaagreat", sum := "c2b5ae60423a873506886e58cf0d0c9599a0e51e3d9e5895ed4193f58bdb6ea8", func := "coresec/coreseclaw31.OscoreOpens", spec := "oscoreOpens", unfollowed := true, recurses := true, apart := false }
def OscoreOpensSaid : Prop := oscoreOpensRow.holds Tryz.pinned (OpenSpec.ofChange oscoreOpensSpec)

/-- ITS FALSE NEIGHBOUR: 'it returns false'. Refute it at one input. -/
def oscoreOpensWrong : ChangeSpec := { name := "oscoreOpens", fn := fun _ => fun
  | [d1, d2, d3, d4, d5] => { results := [.lit (.bool false)], args := [d1, d2, d3, d4, d5] }
  | _ => none }
def OscoreOpensWrongFalsely : Prop := oscoreOpensRow.holds Tryz.pinned (OpenSpec.ofChange oscoreOpensWrong)

/- THE SECOND FORM. 'bulk': how many values and letters a reading holds, each counted each time it is reached (what is shared counts as often as it is met; a slice's spare places count too). A statement '..UptoSaid' is the law's where the arguments, and the package variables that the reading takes, are together of bulk at most 1048576: NARROWER than '..Said'. Prove '..Said' where nothing that the law and all that it calls make is longer than what came in: it says more and counts as full. Else prove '..UptoSaid'. A law counts once. -/
mutual
def uptoBulk {H : Type} : DataW H → Nat
  | .lit (.string bytes) => bytes.length + 1
  | .lit _ => 1
  | .nil => 1
  | .ptr d => uptoBulk d + 1
  | .slice elems spare => uptoBulkAll elems + uptoBulkAll spare + 1
  | .agg parts => uptoBulkAll parts + 1
  | .iface _ d => uptoBulk d + 1
  | .map entries => uptoBulkEntries entries + 1
  | .held _ => 1
def uptoBulkAll {H : Type} : List (DataW H) → Nat
  | [] => 0
  | d :: r => uptoBulk d + uptoBulkAll r
def uptoBulkEntries {H : Type} : List (Lit × DataW H) → Nat
  | [] => 0
  | x :: r => uptoBulkEntry x + uptoBulkEntries r
def uptoBulkEntry {H : Type} : Lit × DataW H → Nat
  | (.string bytes, d) => bytes.length + uptoBulk d + 1
  | (_, d) => uptoBulk d + 1
 end
def uptoSmall : (H : Type) → List (DataW H) → Bool := fun _ ds => decide (uptoBulkAll ds ≤ 1048576)
def OpenSpec.upto (s : _root_.Go.ChangeSpec) : _root_.Go.OpenSpec := { _root_.Go.OpenSpec.ofChange s with cond := some uptoSmall }

/-- 'coreseclaw31.OscoreRequests', WHERE WHAT IT READS IS OF BULK AT MOST 1048576: true; the input reads as it did. -/
def oscoreRequestsUptoRow : OpenClaim := { program := "ytojomcdjcpmnkaagreat", sum := "c2b5ae60423a873506886e58cf0d0c9599a0e51e3d9e5895ed4193f58bdb6ea8", func := "coresec/coreseclaw31.OscoreRequests", spec := "oscoreRequests", unfollowed := true, recurses := true, apart := false, narrowed := true }
def OscoreRequestsUptoSaid : Prop := oscoreRequestsUptoRow.holds Tryz.pinned (OpenSpec.upto oscoreRequestsSpec)

/-- 'coreseclaw31.OscoreReads', WHERE WHAT IT READS IS OF BULK AT MOST 1048576: true; the input reads as it did. -/
def oscoreReadsUptoRow : OpenClaim := { program := "ytojomcdjcpmnkaagreat", sum := "c2b5ae60423a873506886e58cf0d0c9599a0e51e3d9e5895ed4193f58bdb6ea8", func := "coresec/coreseclaw31.OscoreReads", spec := "oscoreReads", unfollowed := true, recurses := true, apart := false, narrowed := true }
def OscoreReadsUptoSaid : Prop := oscoreReadsUptoRow.holds Tryz.pinned (OpenSpec.upto oscoreReadsSpec)

/-- 'coreseclaw32.NotifyReceives', WHERE WHAT IT READS IS OF BULK AT MOST 1048576: true; the input reads as it did. -/
def notifyReceivesUptoRow : OpenClaim := { program := "ytojomcdjcpmnkaagreat", sum := "c2b5ae60423a873506886e58cf0d0c9599a0e51e3d9e5895ed4193f58bdb6ea8", func := "coresec/coreseclaw32.NotifyReceives", spec := "notifyReceives", unfollowed := true, recurses := true, apart := false, narrowed := true }
def NotifyReceivesUptoSaid : Prop := notifyReceivesUptoRow.holds Tryz.pinned (OpenSpec.upto notifyReceivesSpec)

/-- 'coreseclaw31.OscoreResponses', WHERE WHAT IT READS IS OF BULK AT MOST 1048576: true; the input reads as it did. -/
def oscoreResponsesUptoRow : OpenClaim := { program := "ytojomcdjcpmnkaagreat", sum := "c2b5ae60423a873506886e58cf0d0c9599a0e51e3d9e5895ed4193f58bdb6ea8", func := "coresec/coreseclaw31.OscoreResponses", spec := "oscoreResponses", unfollowed := true, recurses := true, apart := false, narrowed := true }
def OscoreResponsesUptoSaid : Prop := oscoreResponsesUptoRow.holds Tryz.pinned (OpenSpec.upto oscoreResponsesSpec)

/-- 'coreseclaw31.OscoreOpens', WHERE WHAT IT READS IS OF BULK AT MOST 1048576: true; the input reads as it did. -/
def oscoreOpensUptoRow : OpenClaim := { program := "ytojomcdjcpmnkaagreat", sum := "c2b5ae60423a873506886e58cf0d0c9599a0e51e3d9e5895ed4193f58bdb6ea8", func := "coresec/coreseclaw31.OscoreOpens", spec := "oscoreOpens", unfollowed := true, recurses := true, apart := false, narrowed := true }
def OscoreOpensUptoSaid : Prop := oscoreOpensUptoRow.holds Tryz.pinned (OpenSpec.upto oscoreOpensSpec)

end Rows
end Go.Proofs.YtojomcdjcpmnkaaGreat
