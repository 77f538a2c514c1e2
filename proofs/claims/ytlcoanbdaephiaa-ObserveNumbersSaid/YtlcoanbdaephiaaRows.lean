/-
  No cell of these rows narrows 'for every input' (looked for: loops, veiled, ifaces, maps, wideKeys, modest, calm, conditions, laid).
  DERIVED. THE GIVEN ROWS OF THIS SEAT. 6 by the template 'for every input the law returns true; each argument reads behind the call as it read before'; 0 by the template 'total and deterministic' (their statements: YtlcoanbdaephiaaTotals.lean).
  GIVEN WITH THE SEED: the statements are not yours to turn. If you find one false, say at which input.
  Laid BY PROGRAM, IN A SANDBOX (cutbox-rows.mjs): the forced cells as the released guide's own fill.sh prints them over the translation dd5a9ea52a9e5ab0… (all of the seat's roots in one cut). By AI agents, Wed Nov 11 2026. No macro, syntax, notation, axiom, sorry.
-/
import Derived.Test.YtlcoanbdaephiaaChecked
import GoSem.Claim
import GoSem.ClaimJoined
import GoSem.ClaimMapViews
import Derived.JoinedTies
import Derived.KernelRfl
namespace Go.Proofs.Ytlcoanbdaephiaa
/- THE CELL 'sum', in the pinned program and in every row, IS THE sha256 OF THE DUMP (.gsa) THAT YtlcoanbdaephiaaProg.lean LOADS. Nothing in Lean hashes anything: it is a label: what it is worth is what the hold of that sum in a sandbox is worth. -/
noncomputable def Try.pinned : Pinned := { name := "ytlcoanbdaephiaa", sum := "dd5a9ea52a9e5ab08325d6b60326058960a584e0fa4636d340540ad906605236", checked := Try.checked }
namespace Rows
def none {H : Type} : Left H := { results := [], args := [] }

/-- 'coreseclaw19.ObserveRegisters': WHATEVER THE INPUT: true; the input reads as it did. -/
def observeRegistersSpec : ChangeSpec := { name := "observeRegisters", fn := fun _ => fun
  | [d1, d2, d3, d4, d5, d6] => { results := [.lit (.bool true)], args := [d1, d2, d3, d4, d5, d6] }
  | _ => none }
def observeRegistersRow : OpenClaim := { program := "ytlcoanbdaephiaa", sum := "dd5a9ea52a9e5ab08325d6b60326058960a584e0fa4636d340540ad906605236", func := "coresec/coreseclaw19.ObserveRegisters", spec := "observeRegisters", unfollowed := true, recurses := true, plainKeys := false, apart := false }
def ObserveRegistersSaid : Prop := observeRegistersRow.holds Try.pinned (OpenSpec.ofChange observeRegistersSpec)

/-- ITS FALSE NEIGHBOUR: 'it returns false'. Refute it at one input. -/
def observeRegistersWrong : ChangeSpec := { name := "observeRegisters", fn := fun _ => fun
  | [d1, d2, d3, d4, d5, d6] => { results := [.lit (.bool false)], args := [d1, d2, d3, d4, d5, d6] }
  | _ => none }
def ObserveRegistersWrongFalsely : Prop := observeRegistersRow.holds Try.pinned (OpenSpec.ofChange observeRegistersWrong)

/-- 'coreseclaw19.ObserveNewer': WHATEVER THE INPUT: true; the input reads as it did. -/
def observeNewerSpec : ChangeSpec := { name := "observeNewer", fn := fun _ => fun
  | [d1, d2, d3, d4] => { results := [.lit (.bool true)], args := [d1, d2, d3, d4] }
  | _ => none }
def observeNewerRow : OpenClaim := { program := "ytlcoanbdaephiaa", sum := "dd5a9ea52a9e5ab08325d6b60326058960a584e0fa4636d340540ad906605236", func := "coresec/coreseclaw19.ObserveNewer", spec := "observeNewer", unfollowed := true, recurses := true, plainKeys := false, apart := false }
def ObserveNewerSaid : Prop := observeNewerRow.holds Try.pinned (OpenSpec.ofChange observeNewerSpec)

/-- ITS FALSE NEIGHBOUR: 'it returns false'. Refute it at one input. -/
def observeNewerWrong : ChangeSpec := { name := "observeNewer", fn := fun _ => fun
  | [d1, d2, d3, d4] => { results := [.lit (.bool false)], args := [d1, d2, d3, d4] }
  | _ => none }
def ObserveNewerWrongFalsely : Prop := observeNewerRow.holds Try.pinned (OpenSpec.ofChange observeNewerWrong)

/-- 'coreseclaw19.ObserveLatest': WHATEVER THE INPUT: true; the input reads as it did. -/
def observeLatestSpec : ChangeSpec := { name := "observeLatest", fn := fun _ => fun
  | [d1, d2] => { results := [.lit (.bool true)], args := [d1, d2] }
  | _ => none }
def observeLatestRow : OpenClaim := { program := "ytlcoanbdaephiaa", sum := "dd5a9ea52a9e5ab08325d6b60326058960a584e0fa4636d340540ad906605236", func := "coresec/coreseclaw19.ObserveLatest", spec := "observeLatest", unfollowed := true, recurses := true, plainKeys := false, apart := false }
def ObserveLatestSaid : Prop := observeLatestRow.holds Try.pinned (OpenSpec.ofChange observeLatestSpec)

/-- ITS FALSE NEIGHBOUR: 'it returns false'. Refute it at one input. -/
def observeLatestWrong : ChangeSpec := { name := "observeLatest", fn := fun _ => fun
  | [d1, d2] => { results := [.lit (.bool false)], args := [d1, d2] }
  | _ => none }
def ObserveLatestWrongFalsely : Prop := observeLatestRow.holds Try.pinned (OpenSpec.ofChange observeLatestWrong)

/-- 'coreseclaw19.ObserveOrder': WHATEVER THE INPUT: true; the input reads as it did. -/
def observeOrderSpec : ChangeSpec := { name := "observeOrder", fn := fun _ => fun
  | [d1, d2, d3] => { results := [.lit (.bool true)], args := [d1, d2, d3] }
  | _ => none }
def observeOrderRow : OpenClaim := { program := "ytlcoanbdaephiaa", sum := "dd5a9ea52a9e5ab08325d6b60326058960a584e0fa4636d340540ad906605236", func := "coresec/coreseclaw19.ObserveOrder", spec := "observeOrder", unfollowed := true, recurses := true, plainKeys := false, apart := false }
def ObserveOrderSaid : Prop := observeOrderRow.holds Try.pinned (OpenSpec.ofChange observeOrderSpec)

/-- ITS FALSE NEIGHBOUR: 'it returns false'. Refute it at one input. -/
def observeOrderWrong : ChangeSpec := { name := "observeOrder", fn := fun _ => fun
  | [d1, d2, d3] => { results := [.lit (.bool false)], args := [d1, d2, d3] }
  | _ => none }
def ObserveOrderWrongFalsely : Prop := observeOrderRow.holds Try.pinned (OpenSpec.ofChange observeOrderWrong)

/-- 'coreseclaw19.ObserveEnds': WHATEVER THE INPUT: true; the input reads as it did. -/
def observeEndsSpec : ChangeSpec := { name := "observeEnds", fn := fun _ => fun
  | [d1, d2, d3, d4] => { results := [.lit (.bool true)], args := [d1, d2, d3, d4] }
  | _ => none }
def observeEndsRow : OpenClaim := { program := "ytlcoanbdaephiaa", sum := "dd5a9ea52a9e5ab08325d6b60326058960a584e0fa4636d340540ad906605236", func := "coresec/coreseclaw19.ObserveEnds", spec := "observeEnds", unfollowed := true, recurses := true, plainKeys := false, apart := false }
def ObserveEndsSaid : Prop := observeEndsRow.holds Try.pinned (OpenSpec.ofChange observeEndsSpec)

/-- ITS FALSE NEIGHBOUR: 'it returns false'. Refute it at one input. -/
def observeEndsWrong : ChangeSpec := { name := "observeEnds", fn := fun _ => fun
  | [d1, d2, d3, d4] => { results := [.lit (.bool false)], args := [d1, d2, d3, d4] }
  | _ => none }
def ObserveEndsWrongFalsely : Prop := observeEndsRow.holds Try.pinned (OpenSpec.ofChange observeEndsWrong)

/-- 'coreseclaw19.ObserveNumbers': WHATEVER THE INPUT: true; the input reads as it did. -/
def observeNumbersSpec : ChangeSpec := { name := "observeNumbers", fn := fun _ => fun
  | [d1, d2] => { results := [.lit (.bool true)], args := [d1, d2] }
  | _ => none }
def observeNumbersRow : OpenClaim := { program := "ytlcoanbdaephiaa", sum := "dd5a9ea52a9e5ab08325d6b60326058960a584e0fa4636d340540ad906605236", func := "coresec/coreseclaw19.ObserveNumbers", spec := "observeNumbers", unfollowed := true, recurses := true, plainKeys := false, apart := false }
def ObserveNumbersSaid : Prop := observeNumbersRow.holds Try.pinned (OpenSpec.ofChange observeNumbersSpec)

/-- ITS FALSE NEIGHBOUR: 'it returns false'. Refute it at one input. -/
def observeNumbersWrong : ChangeSpec := { name := "observeNumbers", fn := fun _ => fun
  | [d1, d2] => { results := [.lit (.bool false)], args := [d1, d2] }
  | _ => none }
def ObserveNumbersWrongFalsely : Prop := observeNumbersRow.holds Try.pinned (OpenSpec.ofChange observeNumbersWrong)

/- THE SECOND FORM. 'bulk': how many values and letters a reading holds, each counted each time it is reached (what is shared counts as often as it is met; a slice's spare places count too). A statement '..UptoSaid' is the law's where the arguments, and the package variables that the reading takes, are together of bulk at most 1048576: NARROWER than '..Said'. Prove '..Said' where nothing that the law and all that it calls make is longer than what came in: it says more and counts as full. Else prove '..UptoSaid'. A law counts once. -/
mutual
def uptoBulk {H : Type} : DataW H → Nat
  | .lit (.string bytes) => bytes.length + 1
  | .lit _ => 1
  | .nil => 1
  | .ptr d => uptoBulk d + 1
  | .slice elems spare => uptoBulkAll elems + uptoBulkAll spare + 1
  | .agg parts => uptoBulkAll parts + 1
  | .iface _ d => uptoBulk d + 1
  | .map entries => uptoBulkEntries entries + 1
  | .held _ => 1
def uptoBulkAll {H : Type} : List (DataW H) → Nat
  | [] => 0
  | d :: r => uptoBulk d + uptoBulkAll r
def uptoBulkEntries {H : Type} : List (Lit × DataW H) → Nat
  | [] => 0
  | x :: r => uptoBulkEntry x + uptoBulkEntries r
def uptoBulkEntry {H : Type} : Lit × DataW H → Nat
  | (.string bytes, d) => bytes.length + uptoBulk d + 1
  | (_, d) => uptoBulk d + 1
 end
def uptoSmall : (H : Type) → List (DataW H) → Bool := fun _ ds => decide (uptoBulkAll ds ≤ 1048576)
def OpenSpec.upto (s : _root_.Go.ChangeSpec) : _root_.Go.OpenSpec := { _root_.Go.OpenSpec.ofChange s with cond := some uptoSmall }

/-- 'coreseclaw19.ObserveRegisters', WHERE WHAT IT READS IS OF BULK AT MOST 1048576: true; the input reads as it did. -/
def observeRegistersUptoRow : OpenClaim := { program := "ytlcoanbdaephiaa", sum := "dd5a9ea52a9e5ab08325d6b60326058960a584e0fa4636d340540ad906605236", func := "coresec/coreseclaw19.ObserveRegisters", spec := "observeRegisters", unfollowed := true, recurses := true, plainKeys := false, apart := false, narrowed := true }
def ObserveRegistersUptoSaid : Prop := observeRegistersUptoRow.holds Try.pinned (OpenSpec.upto observeRegistersSpec)

/-- 'coreseclaw19.ObserveNewer', WHERE WHAT IT READS IS OF BULK AT MOST 1048576: true; the input reads as it did. -/
def observeNewerUptoRow : OpenClaim := { program := "ytlcoanbdaephiaa", sum := "dd5a9ea52a9e5ab08325d6b60326058960a584e0fa4636d340540ad906605236", func := "coresec/coreseclaw19.ObserveNewer", spec := "observeNewer", unfollowed := true, recurses := true, plainKeys := false, apart := false, narrowed := true }
def ObserveNewerUptoSaid : Prop := observeNewerUptoRow.holds Try.pinned (OpenSpec.upto observeNewerSpec)

/-- 'coreseclaw19.ObserveLatest', WHERE WHAT IT READS IS OF BULK AT MOST 1048576: true; the input reads as it did. -/
def observeLatestUptoRow : OpenClaim := { program := "ytlcoanbdaephiaa", sum := "dd5a9ea52a9e5ab08325d6b60326058960a584e0fa4636d340540ad906605236", func := "coresec/coreseclaw19.ObserveLatest", spec := "observeLatest", unfollowed := true, recurses := true, plainKeys := false, apart := false, narrowed := true }
def ObserveLatestUptoSaid : Prop := observeLatestUptoRow.holds Try.pinned (OpenSpec.upto observeLatestSpec)

/-- 'coreseclaw19.ObserveOrder', WHERE WHAT IT READS IS OF BULK AT MOST 1048576: true; the input reads as it did. -/
def observeOrderUptoRow : OpenClaim := { program := "ytlcoanbdaephiaa", sum := "dd5a9ea52a9e5ab08325d6b60326058960a584e0fa4636d340540ad906605236", func := "coresec/coreseclaw19.ObserveOrder", spec := "observeOrder", unfollowed := true, recurses := true, plainKeys := false, apart := false, narrowed := true }
def ObserveOrderUptoSaid : Prop := observeOrderUptoRow.holds Try.pinned (OpenSpec.upto observeOrderSpec)

/-- 'coreseclaw19.ObserveEnds', WHERE WHAT IT READS IS OF BULK AT MOST 1048576: true; the input reads as it did. -/
def observeEndsUptoRow : OpenClaim := { program := "ytlcoanbdaephiaa", sum := "dd5a9ea52a9e5ab08325d6b60326058960a584e0fa4636d340540ad906605236", func := "coresec/coreseclaw19.ObserveEnds", spec := "observeEnds", unfollowed := true, recurses := true, plainKeys := false, apart := false, narrowed := true }
def ObserveEndsUptoSaid : Prop := observeEndsUptoRow.holds Try.pinned (OpenSpec.upto observeEndsSpec)

/-- 'coreseclaw19.ObserveNumbers', WHERE WHAT IT READS IS OF BULK AT MOST 1048576: true; the input reads as it did. -/
def observeNumbersUptoRow : OpenClaim := { program := "ytlcoanbdaephiaa", sum := "dd5a9ea52a9e5ab08325d6b60326058960a584e0fa4636d340540ad906605236", func := "coresec/coreseclaw19.ObserveNumbers", spec := "observeNumbers", unfollowed := true, recurses := true, plainKeys := false, apart := false, narrowed := true }
def ObserveNumbersUptoSaid : Prop := observeNumbersUptoRow.holds Try.pinned (OpenSpec.upto observeNumbersSpec)

end Rows
end Go.Proofs.Ytlcoanbdaephiaa
