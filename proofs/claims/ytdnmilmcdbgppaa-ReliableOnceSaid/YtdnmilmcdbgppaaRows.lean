/-
  No cell of these rows narrows 'for every input' (looked for: loops, veiled, ifaces, maps, wideKeys, modest, calm, conditions, laid).
  DERIVED. THE GIVEN ROWS OF THIS SEAT. 7 by the template 'for every input the law returns true; each argument reads behind the call as it read before'; 0 by the template 'total and deterministic' (their statements: YtdnmilmcdbgppaaTotals.lean).
  GIVEN WITH THE SEED: the statements are not yours to turn. If you find one false, say at which input.
  Laid BY PROGRAM, IN A SANDBOX (cutbox-rows.mjs): the forced cells as the released guide's own fill.sh prints them over the translation 4571c9db98bf75ac… (all of the seat's roots in one cut). By AI agents, Wed Nov 11 2026. No macro, syntax, notation, axiom, sorry.
-/
import Derived.Test.YtdnmilmcdbgppaaChecked
import GoSem.Claim
import GoSem.ClaimJoined
import GoSem.ClaimMapViews
import Derived.JoinedTies
import Derived.KernelRfl
namespace Go.Proofs.Ytdnmilmcdbgppaa
/- THE CELL 'sum', in the pinned program and in every row, IS THE sha256 OF THE DUMP (.gsa) THAT YtdnmilmcdbgppaaProg.lean LOADS. Nothing in Lean hashes anything: it is a label: what it is worth is what the hold of that sum in a sandbox is worth. -/
noncomputable def Try.pinned : Pinned := { name := "ytdnmilmcdbgppaa", sum := "4571c9db98bf75ace7153166e79f6bfadf9917dcebc8226e574ffd55a55e735c", checked := Try.checked }
namespace Rows
def none {H : Type} : Left H := { results := [], args := [] }

/-- 'coreseclaw17.ReliableSends': WHATEVER THE INPUT: true; the input reads as it did. -/
def reliableSendsSpec : ChangeSpec := { name := "reliableSends", fn := fun _ => fun
  | [d1, d2, d3, d4, d5, d6, d7] => { results := [.lit (.bool true)], args := [d1, d2, d3, d4, d5, d6, d7] }
  | _ => none }
def reliableSendsRow : OpenClaim := { program := "ytdnmilmcdbgppaa", sum := "4571c9db98bf75ace7153166e79f6bfadf9917dcebc8226e574ffd55a55e735c", func := "coresec/coreseclaw17.ReliableSends", spec := "reliableSends", plainKeys := false, apart := false }
def ReliableSendsSaid : Prop := reliableSendsRow.holds Try.pinned (OpenSpec.ofChange reliableSendsSpec)

/-- ITS FALSE NEIGHBOUR: 'it returns false'. Refute it at one input. -/
def reliableSendsWrong : ChangeSpec := { name := "reliableSends", fn := fun _ => fun
  | [d1, d2, d3, d4, d5, d6, d7] => { results := [.lit (.bool false)], args := [d1, d2, d3, d4, d5, d6, d7] }
  | _ => none }
def ReliableSendsWrongFalsely : Prop := reliableSendsRow.holds Try.pinned (OpenSpec.ofChange reliableSendsWrong)

/-- 'coreseclaw17.ReliableTicks': WHATEVER THE INPUT: true; the input reads as it did. -/
def reliableTicksSpec : ChangeSpec := { name := "reliableTicks", fn := fun _ => fun
  | [d1, d2, d3, d4, d5] => { results := [.lit (.bool true)], args := [d1, d2, d3, d4, d5] }
  | _ => none }
def reliableTicksRow : OpenClaim := { program := "ytdnmilmcdbgppaa", sum := "4571c9db98bf75ace7153166e79f6bfadf9917dcebc8226e574ffd55a55e735c", func := "coresec/coreseclaw17.ReliableTicks", spec := "reliableTicks", plainKeys := false, apart := false }
def ReliableTicksSaid : Prop := reliableTicksRow.holds Try.pinned (OpenSpec.ofChange reliableTicksSpec)

/-- ITS FALSE NEIGHBOUR: 'it returns false'. Refute it at one input. -/
def reliableTicksWrong : ChangeSpec := { name := "reliableTicks", fn := fun _ => fun
  | [d1, d2, d3, d4, d5] => { results := [.lit (.bool false)], args := [d1, d2, d3, d4, d5] }
  | _ => none }
def ReliableTicksWrongFalsely : Prop := reliableTicksRow.holds Try.pinned (OpenSpec.ofChange reliableTicksWrong)

/-- 'coreseclaw17.ReliableReceives': WHATEVER THE INPUT: true; the input reads as it did. -/
def reliableReceivesSpec : ChangeSpec := { name := "reliableReceives", fn := fun _ => fun
  | [d1, d2, d3, d4, d5, d6, d7, d8] => { results := [.lit (.bool true)], args := [d1, d2, d3, d4, d5, d6, d7, d8] }
  | _ => none }
def reliableReceivesRow : OpenClaim := { program := "ytdnmilmcdbgppaa", sum := "4571c9db98bf75ace7153166e79f6bfadf9917dcebc8226e574ffd55a55e735c", func := "coresec/coreseclaw17.ReliableReceives", spec := "reliableReceives", plainKeys := false, apart := false }
def ReliableReceivesSaid : Prop := reliableReceivesRow.holds Try.pinned (OpenSpec.ofChange reliableReceivesSpec)

/-- ITS FALSE NEIGHBOUR: 'it returns false'. Refute it at one input. -/
def reliableReceivesWrong : ChangeSpec := { name := "reliableReceives", fn := fun _ => fun
  | [d1, d2, d3, d4, d5, d6, d7, d8] => { results := [.lit (.bool false)], args := [d1, d2, d3, d4, d5, d6, d7, d8] }
  | _ => none }
def ReliableReceivesWrongFalsely : Prop := reliableReceivesRow.holds Try.pinned (OpenSpec.ofChange reliableReceivesWrong)

/-- 'coreseclaw17.ReliableEnds': WHATEVER THE INPUT: true; the input reads as it did. -/
def reliableEndsSpec : ChangeSpec := { name := "reliableEnds", fn := fun _ => fun
  | [d1, d2, d3] => { results := [.lit (.bool true)], args := [d1, d2, d3] }
  | _ => none }
def reliableEndsRow : OpenClaim := { program := "ytdnmilmcdbgppaa", sum := "4571c9db98bf75ace7153166e79f6bfadf9917dcebc8226e574ffd55a55e735c", func := "coresec/coreseclaw17.ReliableEnds", spec := "reliableEnds", plainKeys := false, apart := false }
def ReliableEndsSaid : Prop := reliableEndsRow.holds Try.pinned (OpenSpec.ofChange reliableEndsSpec)

/-- ITS FALSE NEIGHBOUR: 'it returns false'. Refute it at one input. -/
def reliableEndsWrong : ChangeSpec := { name := "reliableEnds", fn := fun _ => fun
  | [d1, d2, d3] => { results := [.lit (.bool false)], args := [d1, d2, d3] }
  | _ => none }
def ReliableEndsWrongFalsely : Prop := reliableEndsRow.holds Try.pinned (OpenSpec.ofChange reliableEndsWrong)

/-- 'coreseclaw17.ReliableApart': WHATEVER THE INPUT: true; the input reads as it did. -/
def reliableApartSpec : ChangeSpec := { name := "reliableApart", fn := fun _ => fun
  | [d1, d2] => { results := [.lit (.bool true)], args := [d1, d2] }
  | _ => none }
def reliableApartRow : OpenClaim := { program := "ytdnmilmcdbgppaa", sum := "4571c9db98bf75ace7153166e79f6bfadf9917dcebc8226e574ffd55a55e735c", func := "coresec/coreseclaw17.ReliableApart", spec := "reliableApart", plainKeys := false, apart := false }
def ReliableApartSaid : Prop := reliableApartRow.holds Try.pinned (OpenSpec.ofChange reliableApartSpec)

/-- ITS FALSE NEIGHBOUR: 'it returns false'. Refute it at one input. -/
def reliableApartWrong : ChangeSpec := { name := "reliableApart", fn := fun _ => fun
  | [d1, d2] => { results := [.lit (.bool false)], args := [d1, d2] }
  | _ => none }
def ReliableApartWrongFalsely : Prop := reliableApartRow.holds Try.pinned (OpenSpec.ofChange reliableApartWrong)

/-- 'coreseclaw17.ReliableAnswers': WHATEVER THE INPUT: true; the input reads as it did. -/
def reliableAnswersSpec : ChangeSpec := { name := "reliableAnswers", fn := fun _ => fun
  | [d1, d2, d3, d4, d5, d6, d7, d8] => { results := [.lit (.bool true)], args := [d1, d2, d3, d4, d5, d6, d7, d8] }
  | _ => none }
def reliableAnswersRow : OpenClaim := { program := "ytdnmilmcdbgppaa", sum := "4571c9db98bf75ace7153166e79f6bfadf9917dcebc8226e574ffd55a55e735c", func := "coresec/coreseclaw17.ReliableAnswers", spec := "reliableAnswers", plainKeys := false, apart := false }
def ReliableAnswersSaid : Prop := reliableAnswersRow.holds Try.pinned (OpenSpec.ofChange reliableAnswersSpec)

/-- ITS FALSE NEIGHBOUR: 'it returns false'. Refute it at one input. -/
def reliableAnswersWrong : ChangeSpec := { name := "reliableAnswers", fn := fun _ => fun
  | [d1, d2, d3, d4, d5, d6, d7, d8] => { results := [.lit (.bool false)], args := [d1, d2, d3, d4, d5, d6, d7, d8] }
  | _ => none }
def ReliableAnswersWrongFalsely : Prop := reliableAnswersRow.holds Try.pinned (OpenSpec.ofChange reliableAnswersWrong)

/-- 'coreseclaw17.ReliableOnce': WHATEVER THE INPUT: true; the input reads as it did. -/
def reliableOnceSpec : ChangeSpec := { name := "reliableOnce", fn := fun _ => fun
  | [d] => { results := [.lit (.bool true)], args := [d] }
  | _ => none }
def reliableOnceRow : OpenClaim := { program := "ytdnmilmcdbgppaa", sum := "4571c9db98bf75ace7153166e79f6bfadf9917dcebc8226e574ffd55a55e735c", func := "coresec/coreseclaw17.ReliableOnce", spec := "reliableOnce", plainKeys := false, apart := false }
def ReliableOnceSaid : Prop := reliableOnceRow.holds Try.pinned (OpenSpec.ofChange reliableOnceSpec)

/-- ITS FALSE NEIGHBOUR: 'it returns false'. Refute it at one input. -/
def reliableOnceWrong : ChangeSpec := { name := "reliableOnce", fn := fun _ => fun
  | [d] => { results := [.lit (.bool false)], args := [d] }
  | _ => none }
def ReliableOnceWrongFalsely : Prop := reliableOnceRow.holds Try.pinned (OpenSpec.ofChange reliableOnceWrong)

/- THE SECOND FORM. 'bulk': how many values and letters a reading holds, each counted each time it is reached (what is shared counts as often as it is met; a slice's spare places count too). A statement '..UptoSaid' is the law's where the arguments, and the package variables that the reading takes, are together of bulk at most 1048576: NARROWER than '..Said'. Prove '..Said' where nothing that the law and all that it calls make is longer than what came in: it says more and counts as full. Else prove '..UptoSaid'. A law counts once. -/
mutual
def uptoBulk {H : Type} : DataW H → Nat
  | .lit (.string bytes) => bytes.length + 1
  | .lit _ => 1
  | .nil => 1
  | .ptr d => uptoBulk d + 1
  | .slice elems spare => uptoBulkAll elems + uptoBulkAll spare + 1
  | .agg parts => uptoBulkAll parts + 1
  | .iface _ d => uptoBulk d + 1
  | .map entries => uptoBulkEntries entries + 1
  | .held _ => 1
def uptoBulkAll {H : Type} : List (DataW H) → Nat
  | [] => 0
  | d :: r => uptoBulk d + uptoBulkAll r
def uptoBulkEntries {H : Type} : List (Lit × DataW H) → Nat
  | [] => 0
  | x :: r => uptoBulkEntry x + uptoBulkEntries r
def uptoBulkEntry {H : Type} : Lit × DataW H → Nat
  | (.string bytes, d) => bytes.length + uptoBulk d + 1
  | (_, d) => uptoBulk d + 1
 end
def uptoSmall : (H : Type) → List (DataW H) → Bool := fun _ ds => decide (uptoBulkAll ds ≤ 1048576)
def OpenSpec.upto (s : _root_.Go.ChangeSpec) : _root_.Go.OpenSpec := { _root_.Go.OpenSpec.ofChange s with cond := some uptoSmall }

/-- 'coreseclaw17.ReliableSends', WHERE WHAT IT READS IS OF BULK AT MOST 1048576: true; the input reads as it did. -/
def reliableSendsUptoRow : OpenClaim := { program := "ytdnmilmcdbgppaa", sum := "4571c9db98bf75ace7153166e79f6bfadf9917dcebc8226e574ffd55a55e735c", func := "coresec/coreseclaw17.ReliableSends", spec := "reliableSends", plainKeys := false, apart := false, narrowed := true }
def ReliableSendsUptoSaid : Prop := reliableSendsUptoRow.holds Try.pinned (OpenSpec.upto reliableSendsSpec)

/-- 'coreseclaw17.ReliableTicks', WHERE WHAT IT READS IS OF BULK AT MOST 1048576: true; the input reads as it did. -/
def reliableTicksUptoRow : OpenClaim := { program := "ytdnmilmcdbgppaa", sum := "4571c9db98bf75ace7153166e79f6bfadf9917dcebc8226e574ffd55a55e735c", func := "coresec/coreseclaw17.ReliableTicks", spec := "reliableTicks", plainKeys := false, apart := false, narrowed := true }
def ReliableTicksUptoSaid : Prop := reliableTicksUptoRow.holds Try.pinned (OpenSpec.upto reliableTicksSpec)

/-- 'coreseclaw17.ReliableReceives', WHERE WHAT IT READS IS OF BULK AT MOST 1048576: true; the input reads as it did. -/
def reliableReceivesUptoRow : OpenClaim := { program := "ytdnmilmcdbgppaa", sum := "4571c9db98bf75ace7153166e79f6bfadf9917dcebc8226e574ffd55a55e735c", func := "coresec/coreseclaw17.ReliableReceives", spec := "reliableReceives", plainKeys := false, apart := false, narrowed := true }
def ReliableReceivesUptoSaid : Prop := reliableReceivesUptoRow.holds Try.pinned (OpenSpec.upto reliableReceivesSpec)

/-- 'coreseclaw17.ReliableEnds', WHERE WHAT IT READS IS OF BULK AT MOST 1048576: true; the input reads as it did. -/
def reliableEndsUptoRow : OpenClaim := { program := "ytdnmilmcdbgppaa", sum := "4571c9db98bf75ace7153166e79f6bfadf9917dcebc8226e574ffd55a55e735c", func := "coresec/coreseclaw17.ReliableEnds", spec := "reliableEnds", plainKeys := false, apart := false, narrowed := true }
def ReliableEndsUptoSaid : Prop := reliableEndsUptoRow.holds Try.pinned (OpenSpec.upto reliableEndsSpec)

/-- 'coreseclaw17.ReliableApart', WHERE WHAT IT READS IS OF BULK AT MOST 1048576: true; the input reads as it did. -/
def reliableApartUptoRow : OpenClaim := { program := "ytdnmilmcdbgppaa", sum := "4571c9db98bf75ace7153166e79f6bfadf9917dcebc8226e574ffd55a55e735c", func := "coresec/coreseclaw17.ReliableApart", spec := "reliableApart", plainKeys := false, apart := false, narrowed := true }
def ReliableApartUptoSaid : Prop := reliableApartUptoRow.holds Try.pinned (OpenSpec.upto reliableApartSpec)

/-- 'coreseclaw17.ReliableAnswers', WHERE WHAT IT READS IS OF BULK AT MOST 1048576: true; the input reads as it did. -/
def reliableAnswersUptoRow : OpenClaim := { program := "ytdnmilmcdbgppaa", sum := "4571c9db98bf75ace7153166e79f6bfadf9917dcebc8226e574ffd55a55e735c", func := "coresec/coreseclaw17.ReliableAnswers", spec := "reliableAnswers", plainKeys := false, apart := false, narrowed := true }
def ReliableAnswersUptoSaid : Prop := reliableAnswersUptoRow.holds Try.pinned (OpenSpec.upto reliableAnswersSpec)

/-- 'coreseclaw17.ReliableOnce', WHERE WHAT IT READS IS OF BULK AT MOST 1048576: true; the input reads as it did. -/
def reliableOnceUptoRow : OpenClaim := { program := "ytdnmilmcdbgppaa", sum := "4571c9db98bf75ace7153166e79f6bfadf9917dcebc8226e574ffd55a55e735c", func := "coresec/coreseclaw17.ReliableOnce", spec := "reliableOnce", plainKeys := false, apart := false, narrowed := true }
def ReliableOnceUptoSaid : Prop := reliableOnceUptoRow.holds Try.pinned (OpenSpec.upto reliableOnceSpec)

end Rows
end Go.Proofs.Ytdnmilmcdbgppaa
