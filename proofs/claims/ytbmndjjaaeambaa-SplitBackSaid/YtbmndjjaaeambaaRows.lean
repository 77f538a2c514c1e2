/-
  No cell of these rows narrows 'for every input' (looked for: loops, veiled, ifaces, maps, wideKeys, modest, calm, conditions, laid).
  DERIVED. THE GIVEN ROWS OF THIS SEAT. 6 by the template 'for every input the law returns true; each argument reads behind the call as it read before'; 0 by the template 'total and deterministic' (their statements: YtbmndjjaaeambaaTotals.lean).
  GIVEN WITH THE SEED: the statements are not yours to turn. If you find one false, say at which input.
  Laid BY PROGRAM, IN A SANDBOX (cutbox-rows.mjs): the forced cells as the released guide's own fill.sh prints them over the translation 0754464693a604ef… (all of the seat's roots in one cut). By AI agents, Wed Nov 11 2026. No macro, syntax, notation, axiom, sorry.
-/
import Derived.Test.YtbmndjjaaeambaaChecked
import GoSem.Claim
import GoSem.ClaimJoined
import GoSem.ClaimMapViews
import Derived.JoinedTies
import Derived.KernelRfl
namespace Go.Proofs.Ytbmndjjaaeambaa
/- THE CELL 'sum', in the pinned program and in every row, IS THE sha256 OF THE DUMP (.gsa) THAT YtbmndjjaaeambaaProg.lean LOADS. Nothing in Lean hashes anything: it is a label: what it is worth is what the hold of that sum in a sandbox is worth. -/
noncomputable def Try.pinned : Pinned := { name := "ytbmndjjaaeambaa", sum := "0754464693a604efb78788f55680e047a04ffe237feca62358fe08eba292b01b", checked := Try.checked }
namespace Rows
def none {H : Type} : Left H := { results := [], args := [] }

/-- 'coreseclaw30.SplitClasses': WHATEVER THE INPUT: true; the input reads as it did. -/
def splitClassesSpec : ChangeSpec := { name := "splitClasses", fn := fun _ => fun
  | [d] => { results := [.lit (.bool true)], args := [d] }
  | _ => none }
def splitClassesRow : OpenClaim := { program := "ytbmndjjaaeambaa", sum := "0754464693a604efb78788f55680e047a04ffe237feca62358fe08eba292b01b", func := "coresec/coreseclaw30.SplitClasses", spec := "splitClasses", apart := false }
def SplitClassesSaid : Prop := splitClassesRow.holds Try.pinned (OpenSpec.ofChange splitClassesSpec)

/-- ITS FALSE NEIGHBOUR: 'it returns false'. Refute it at one input. -/
def splitClassesWrong : ChangeSpec := { name := "splitClasses", fn := fun _ => fun
  | [d] => { results := [.lit (.bool false)], args := [d] }
  | _ => none }
def SplitClassesWrongFalsely : Prop := splitClassesRow.holds Try.pinned (OpenSpec.ofChange splitClassesWrong)

/-- 'coreseclaw30.SplitParts': WHATEVER THE INPUT: true; the input reads as it did. -/
def splitPartsSpec : ChangeSpec := { name := "splitParts", fn := fun _ => fun
  | [d1, d2, d3] => { results := [.lit (.bool true)], args := [d1, d2, d3] }
  | _ => none }
def splitPartsRow : OpenClaim := { program := "ytbmndjjaaeambaa", sum := "0754464693a604efb78788f55680e047a04ffe237feca62358fe08eba292b01b", func := "coresec/coreseclaw30.SplitParts", spec := "splitParts", apart := false }
def SplitPartsSaid : Prop := splitPartsRow.holds Try.pinned (OpenSpec.ofChange splitPartsSpec)

/-- ITS FALSE NEIGHBOUR: 'it returns false'. Refute it at one input. -/
def splitPartsWrong : ChangeSpec := { name := "splitParts", fn := fun _ => fun
  | [d1, d2, d3] => { results := [.lit (.bool false)], args := [d1, d2, d3] }
  | _ => none }
def SplitPartsWrongFalsely : Prop := splitPartsRow.holds Try.pinned (OpenSpec.ofChange splitPartsWrong)

/-- 'coreseclaw30.SplitHides': WHATEVER THE INPUT: true; the input reads as it did. -/
def splitHidesSpec : ChangeSpec := { name := "splitHides", fn := fun _ => fun
  | [d1, d2] => { results := [.lit (.bool true)], args := [d1, d2] }
  | _ => none }
def splitHidesRow : OpenClaim := { program := "ytbmndjjaaeambaa", sum := "0754464693a604efb78788f55680e047a04ffe237feca62358fe08eba292b01b", func := "coresec/coreseclaw30.SplitHides", spec := "splitHides", apart := false }
def SplitHidesSaid : Prop := splitHidesRow.holds Try.pinned (OpenSpec.ofChange splitHidesSpec)

/-- ITS FALSE NEIGHBOUR: 'it returns false'. Refute it at one input. -/
def splitHidesWrong : ChangeSpec := { name := "splitHides", fn := fun _ => fun
  | [d1, d2] => { results := [.lit (.bool false)], args := [d1, d2] }
  | _ => none }
def SplitHidesWrongFalsely : Prop := splitHidesRow.holds Try.pinned (OpenSpec.ofChange splitHidesWrong)

/-- 'coreseclaw30.SplitJoins': WHATEVER THE INPUT: true; the input reads as it did. -/
def splitJoinsSpec : ChangeSpec := { name := "splitJoins", fn := fun _ => fun
  | [d1, d2, d3] => { results := [.lit (.bool true)], args := [d1, d2, d3] }
  | _ => none }
def splitJoinsRow : OpenClaim := { program := "ytbmndjjaaeambaa", sum := "0754464693a604efb78788f55680e047a04ffe237feca62358fe08eba292b01b", func := "coresec/coreseclaw30.SplitJoins", spec := "splitJoins", apart := false }
def SplitJoinsSaid : Prop := splitJoinsRow.holds Try.pinned (OpenSpec.ofChange splitJoinsSpec)

/-- ITS FALSE NEIGHBOUR: 'it returns false'. Refute it at one input. -/
def splitJoinsWrong : ChangeSpec := { name := "splitJoins", fn := fun _ => fun
  | [d1, d2, d3] => { results := [.lit (.bool false)], args := [d1, d2, d3] }
  | _ => none }
def SplitJoinsWrongFalsely : Prop := splitJoinsRow.holds Try.pinned (OpenSpec.ofChange splitJoinsWrong)

/-- 'coreseclaw30.SplitPacks': WHATEVER THE INPUT: true; the input reads as it did. -/
def splitPacksSpec : ChangeSpec := { name := "splitPacks", fn := fun _ => fun
  | [d1, d2, d3, d4, d5] => { results := [.lit (.bool true)], args := [d1, d2, d3, d4, d5] }
  | _ => none }
def splitPacksRow : OpenClaim := { program := "ytbmndjjaaeambaa", sum := "0754464693a604efb78788f55680e047a04ffe237feca62358fe08eba292b01b", func := "coresec/coreseclaw30.SplitPacks", spec := "splitPacks", apart := false }
def SplitPacksSaid : Prop := splitPacksRow.holds Try.pinned (OpenSpec.ofChange splitPacksSpec)

/-- ITS FALSE NEIGHBOUR: 'it returns false'. Refute it at one input. -/
def splitPacksWrong : ChangeSpec := { name := "splitPacks", fn := fun _ => fun
  | [d1, d2, d3, d4, d5] => { results := [.lit (.bool false)], args := [d1, d2, d3, d4, d5] }
  | _ => none }
def SplitPacksWrongFalsely : Prop := splitPacksRow.holds Try.pinned (OpenSpec.ofChange splitPacksWrong)

/-- 'coreseclaw30.SplitBack': WHATEVER THE INPUT: true; the input reads as it did. -/
def splitBackSpec : ChangeSpec := { name := "splitBack", fn := fun _ => fun
  | [d1, d2, d3, d4] => { results := [.lit (.bool true)], args := [d1, d2, d3, d4] }
  | _ => none }
def splitBackRow : OpenClaim := { program := "ytbmndjjaaeambaa", sum := "0754464693a604efb78788f55680e047a04ffe237feca62358fe08eba292b01b", func := "coresec/coreseclaw30.SplitBack", spec := "splitBack", apart := false }
def SplitBackSaid : Prop := splitBackRow.holds Try.pinned (OpenSpec.ofChange splitBackSpec)

/-- ITS FALSE NEIGHBOUR: 'it returns false'. Refute it at one input. -/
def splitBackWrong : ChangeSpec := { name := "splitBack", fn := fun _ => fun
  | [d1, d2, d3, d4] => { results := [.lit (.bool false)], args := [d1, d2, d3, d4] }
  | _ => none }
def SplitBackWrongFalsely : Prop := splitBackRow.holds Try.pinned (OpenSpec.ofChange splitBackWrong)

/- THE SECOND FORM. 'bulk': how many values and letters a reading holds, each counted each time it is reached (what is shared counts as often as it is met; a slice's spare places count too). A statement '..UptoSaid' is the law's where the arguments, and the package variables that the reading takes, are together of bulk at most 1048576: NARROWER than '..Said'. Prove '..Said' where nothing that the law and all that it calls make is longer than what came in: it says more and counts as full. Else prove '..UptoSaid'. A law counts once. -/
mutual
def uptoBulk {H : Type} : DataW H → Nat
  | .lit (.string bytes) => bytes.length + 1
  | .lit _ => 1
  | .nil => 1
  | .ptr d => uptoBulk d + 1
  | .slice elems spare => uptoBulkAll elems + uptoBulkAll spare + 1
  | .agg parts => uptoBulkAll parts + 1
  | .iface _ d => uptoBulk d + 1
  | .map entries => uptoBulkEntries entries + 1
  | .held _ => 1
def uptoBulkAll {H : Type} : List (DataW H) → Nat
  | [] => 0
  | d :: r => uptoBulk d + uptoBulkAll r
def uptoBulkEntries {H : Type} : List (Lit × DataW H) → Nat
  | [] => 0
  | x :: r => uptoBulkEntry x + uptoBulkEntries r
def uptoBulkEntry {H : Type} : Lit × DataW H → Nat
  | (.string bytes, d) => bytes.length + uptoBulk d + 1
  | (_, d) => uptoBulk d + 1
 end
def uptoSmall : (H : Type) → List (DataW H) → Bool := fun _ ds => decide (uptoBulkAll ds ≤ 1048576)
def OpenSpec.upto (s : _root_.Go.ChangeSpec) : _root_.Go.OpenSpec := { _root_.Go.OpenSpec.ofChange s with cond := some uptoSmall }

/-- 'coreseclaw30.SplitClasses', WHERE WHAT IT READS IS OF BULK AT MOST 1048576: true; the input reads as it did. -/
def splitClassesUptoRow : OpenClaim := { program := "ytbmndjjaaeambaa", sum := "0754464693a604efb78788f55680e047a04ffe237feca62358fe08eba292b01b", func := "coresec/coreseclaw30.SplitClasses", spec := "splitClasses", apart := false, narrowed := true }
def SplitClassesUptoSaid : Prop := splitClassesUptoRow.holds Try.pinned (OpenSpec.upto splitClassesSpec)

/-- 'coreseclaw30.SplitParts', WHERE WHAT IT READS IS OF BULK AT MOST 1048576: true; the input reads as it did. -/
def splitPartsUptoRow : OpenClaim := { program := "ytbmndjjaaeambaa", sum := "0754464693a604efb78788f55680e047a04ffe237feca62358fe08eba292b01b", func := "coresec/coreseclaw30.SplitParts", spec := "splitParts", apart := false, narrowed := true }
def SplitPartsUptoSaid : Prop := splitPartsUptoRow.holds Try.pinned (OpenSpec.upto splitPartsSpec)

/-- 'coreseclaw30.SplitHides', WHERE WHAT IT READS IS OF BULK AT MOST 1048576: true; the input reads as it did. -/
def splitHidesUptoRow : OpenClaim := { program := "ytbmndjjaaeambaa", sum := "0754464693a604efb78788f55680e047a04ffe237feca62358fe08eba292b01b", func := "coresec/coreseclaw30.SplitHides", spec := "splitHides", apart := false, narrowed := true }
def SplitHidesUptoSaid : Prop := splitHidesUptoRow.holds Try.pinned (OpenSpec.upto splitHidesSpec)

/-- 'coreseclaw30.SplitJoins', WHERE WHAT IT READS IS OF BULK AT MOST 1048576: true; the input reads as it did. -/
def splitJoinsUptoRow : OpenClaim := { program := "ytbmndjjaaeambaa", sum := "0754464693a604efb78788f55680e047a04ffe237feca62358fe08eba292b01b", func := "coresec/coreseclaw30.SplitJoins", spec := "splitJoins", apart := false, narrowed := true }
def SplitJoinsUptoSaid : Prop := splitJoinsUptoRow.holds Try.pinned (OpenSpec.upto splitJoinsSpec)

/-- 'coreseclaw30.SplitPacks', WHERE WHAT IT READS IS OF BULK AT MOST 1048576: true; the input reads as it did. -/
def splitPacksUptoRow : OpenClaim := { program := "ytbmndjjaaeambaa", sum := "0754464693a604efb78788f55680e047a04ffe237feca62358fe08eba292b01b", func := "coresec/coreseclaw30.SplitPacks", spec := "splitPacks", apart := false, narrowed := true }
def SplitPacksUptoSaid : Prop := splitPacksUptoRow.holds Try.pinned (OpenSpec.upto splitPacksSpec)

/-- 'coreseclaw30.SplitBack', WHERE WHAT IT READS IS OF BULK AT MOST 1048576: true; the input reads as it did. -/
def splitBackUptoRow : OpenClaim := { program := "ytbmndjjaaeambaa", sum := "0754464693a604efb78788f55680e047a04ffe237feca62358fe08eba292b01b", func := "coresec/coreseclaw30.SplitBack", spec := "splitBack", apart := false, narrowed := true }
def SplitBackUptoSaid : Prop := splitBackUptoRow.holds Try.pinned (OpenSpec.upto splitBackSpec)

end Rows
end Go.Proofs.Ytbmndjjaaeambaa
