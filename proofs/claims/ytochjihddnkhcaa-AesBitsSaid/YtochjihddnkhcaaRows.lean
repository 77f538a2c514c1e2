/-
  No cell of these rows narrows 'for every input' (looked for: loops, veiled, ifaces, maps, wideKeys, modest, calm, conditions, laid).
  DERIVED. THE GIVEN ROWS OF THIS SEAT. 11 by the template 'for every input the law returns true; each argument reads behind the call as it read before'; 0 by the template 'total and deterministic' (their statements: YtochjihddnkhcaaTotals.lean).
  GIVEN WITH THE SEED: the statements are not yours to turn. If you find one false, say at which input.
  Laid BY PROGRAM, IN A SANDBOX (cutbox-rows.mjs): the forced cells as the released guide's own fill.sh prints them over the translation 5a38a441a7577513… (all of the seat's roots in one cut). By AI agents, Wed Nov 11 2026. No macro, syntax, notation, axiom, sorry.
-/
import Derived.Test.YtochjihddnkhcaaChecked
import GoSem.Claim
import GoSem.ClaimJoined
import GoSem.ClaimMapViews
import Derived.JoinedTies
import Derived.KernelRfl
namespace Go.Proofs.Ytochjihddnkhcaa
/- THE CELL 'sum', in the pinned program and in every row, IS THE sha256 OF THE DUMP (.gsa) THAT YtochjihddnkhcaaProg.lean LOADS. Nothing in Lean hashes anything: it is a label: what it is worth is what the hold of that sum in a sandbox is worth. -/
noncomputable def Try.pinned : Pinned := { name := "ytochjihddnkhcaa", sum := "5a38a441a7577513f2b76987f4f2aa861311bfd102beddf2c0bb2fd2bafccbf7", checked := Try.checked }
namespace Rows
def none {H : Type} : Left H := { results := [], args := [] }

/-- 'coreseclaw06.AesExpands': WHATEVER THE INPUT: true; the input reads as it did. -/
def aesExpandsSpec : ChangeSpec := { name := "aesExpands", fn := fun _ => fun
  | [d1, d2] => { results := [.lit (.bool true)], args := [d1, d2] }
  | _ => none }
def aesExpandsRow : OpenClaim := { program := "ytochjihddnkhcaa", sum := "5a38a441a7577513f2b76987f4f2aa861311bfd102beddf2c0bb2fd2bafccbf7", func := "coresec/coreseclaw06.AesExpands", spec := "aesExpands", apart := false }
def AesExpandsSaid : Prop := aesExpandsRow.holds Try.pinned (OpenSpec.ofChange aesExpandsSpec)

/-- ITS FALSE NEIGHBOUR: 'it returns false'. Refute it at one input. -/
def aesExpandsWrong : ChangeSpec := { name := "aesExpands", fn := fun _ => fun
  | [d1, d2] => { results := [.lit (.bool false)], args := [d1, d2] }
  | _ => none }
def AesExpandsWrongFalsely : Prop := aesExpandsRow.holds Try.pinned (OpenSpec.ofChange aesExpandsWrong)

/-- 'coreseclaw06.AesBits': WHATEVER THE INPUT: true; the input reads as it did. -/
def aesBitsSpec : ChangeSpec := { name := "aesBits", fn := fun _ => fun
  | [d1, d2, d3] => { results := [.lit (.bool true)], args := [d1, d2, d3] }
  | _ => none }
def aesBitsRow : OpenClaim := { program := "ytochjihddnkhcaa", sum := "5a38a441a7577513f2b76987f4f2aa861311bfd102beddf2c0bb2fd2bafccbf7", func := "coresec/coreseclaw06.AesBits", spec := "aesBits", apart := false }
def AesBitsSaid : Prop := aesBitsRow.holds Try.pinned (OpenSpec.ofChange aesBitsSpec)

/-- ITS FALSE NEIGHBOUR: 'it returns false'. Refute it at one input. -/
def aesBitsWrong : ChangeSpec := { name := "aesBits", fn := fun _ => fun
  | [d1, d2, d3] => { results := [.lit (.bool false)], args := [d1, d2, d3] }
  | _ => none }
def AesBitsWrongFalsely : Prop := aesBitsRow.holds Try.pinned (OpenSpec.ofChange aesBitsWrong)

/-- 'coreseclaw06.AesEncrypts': WHATEVER THE INPUT: true; the input reads as it did. -/
def aesEncryptsSpec : ChangeSpec := { name := "aesEncrypts", fn := fun _ => fun
  | [d1, d2, d3, d4] => { results := [.lit (.bool true)], args := [d1, d2, d3, d4] }
  | _ => none }
def aesEncryptsRow : OpenClaim := { program := "ytochjihddnkhcaa", sum := "5a38a441a7577513f2b76987f4f2aa861311bfd102beddf2c0bb2fd2bafccbf7", func := "coresec/coreseclaw06.AesEncrypts", spec := "aesEncrypts", apart := false }
def AesEncryptsSaid : Prop := aesEncryptsRow.holds Try.pinned (OpenSpec.ofChange aesEncryptsSpec)

/-- ITS FALSE NEIGHBOUR: 'it returns false'. Refute it at one input. -/
def aesEncryptsWrong : ChangeSpec := { name := "aesEncrypts", fn := fun _ => fun
  | [d1, d2, d3, d4] => { results := [.lit (.bool false)], args := [d1, d2, d3, d4] }
  | _ => none }
def AesEncryptsWrongFalsely : Prop := aesEncryptsRow.holds Try.pinned (OpenSpec.ofChange aesEncryptsWrong)

/-- 'coreseclaw06.AesUndoes': WHATEVER THE INPUT: true; the input reads as it did. -/
def aesUndoesSpec : ChangeSpec := { name := "aesUndoes", fn := fun _ => fun
  | [d1, d2, d3] => { results := [.lit (.bool true)], args := [d1, d2, d3] }
  | _ => none }
def aesUndoesRow : OpenClaim := { program := "ytochjihddnkhcaa", sum := "5a38a441a7577513f2b76987f4f2aa861311bfd102beddf2c0bb2fd2bafccbf7", func := "coresec/coreseclaw06.AesUndoes", spec := "aesUndoes", apart := false }
def AesUndoesSaid : Prop := aesUndoesRow.holds Try.pinned (OpenSpec.ofChange aesUndoesSpec)

/-- ITS FALSE NEIGHBOUR: 'it returns false'. Refute it at one input. -/
def aesUndoesWrong : ChangeSpec := { name := "aesUndoes", fn := fun _ => fun
  | [d1, d2, d3] => { results := [.lit (.bool false)], args := [d1, d2, d3] }
  | _ => none }
def AesUndoesWrongFalsely : Prop := aesUndoesRow.holds Try.pinned (OpenSpec.ofChange aesUndoesWrong)

/-- 'coreseclaw07.CcmValid': WHATEVER THE INPUT: true; the input reads as it did. -/
def ccmValidSpec : ChangeSpec := { name := "ccmValid", fn := fun _ => fun
  | [d1, d2, d3, d4, d5, d6] => { results := [.lit (.bool true)], args := [d1, d2, d3, d4, d5, d6] }
  | _ => none }
def ccmValidRow : OpenClaim := { program := "ytochjihddnkhcaa", sum := "5a38a441a7577513f2b76987f4f2aa861311bfd102beddf2c0bb2fd2bafccbf7", func := "coresec/coreseclaw07.CcmValid", spec := "ccmValid", unfollowed := true, recurses := true, apart := false }
def CcmValidSaid : Prop := ccmValidRow.holds Try.pinned (OpenSpec.ofChange ccmValidSpec)

/-- ITS FALSE NEIGHBOUR: 'it returns false'. Refute it at one input. -/
def ccmValidWrong : ChangeSpec := { name := "ccmValid", fn := fun _ => fun
  | [d1, d2, d3, d4, d5, d6] => { results := [.lit (.bool false)], args := [d1, d2, d3, d4, d5, d6] }
  | _ => none }
def CcmValidWrongFalsely : Prop := ccmValidRow.holds Try.pinned (OpenSpec.ofChange ccmValidWrong)

/-- 'coreseclaw07.CcmSeals': WHATEVER THE INPUT: true; the input reads as it did. -/
def ccmSealsSpec : ChangeSpec := { name := "ccmSeals", fn := fun _ => fun
  | [d1, d2, d3, d4, d5, d6] => { results := [.lit (.bool true)], args := [d1, d2, d3, d4, d5, d6] }
  | _ => none }
def ccmSealsRow : OpenClaim := { program := "ytochjihddnkhcaa", sum := "5a38a441a7577513f2b76987f4f2aa861311bfd102beddf2c0bb2fd2bafccbf7", func := "coresec/coreseclaw07.CcmSeals", spec := "ccmSeals", unfollowed := true, recurses := true, apart := false }
def CcmSealsSaid : Prop := ccmSealsRow.holds Try.pinned (OpenSpec.ofChange ccmSealsSpec)

/-- ITS FALSE NEIGHBOUR: 'it returns false'. Refute it at one input. -/
def ccmSealsWrong : ChangeSpec := { name := "ccmSeals", fn := fun _ => fun
  | [d1, d2, d3, d4, d5, d6] => { results := [.lit (.bool false)], args := [d1, d2, d3, d4, d5, d6] }
  | _ => none }
def CcmSealsWrongFalsely : Prop := ccmSealsRow.holds Try.pinned (OpenSpec.ofChange ccmSealsWrong)

/-- 'coreseclaw07.CcmEdges': WHATEVER THE INPUT: true; the input reads as it did. -/
def ccmEdgesSpec : ChangeSpec := { name := "ccmEdges", fn := fun _ => fun
  | [d1, d2, d3] => { results := [.lit (.bool true)], args := [d1, d2, d3] }
  | _ => none }
def ccmEdgesRow : OpenClaim := { program := "ytochjihddnkhcaa", sum := "5a38a441a7577513f2b76987f4f2aa861311bfd102beddf2c0bb2fd2bafccbf7", func := "coresec/coreseclaw07.CcmEdges", spec := "ccmEdges", unfollowed := true, recurses := true, apart := false }
def CcmEdgesSaid : Prop := ccmEdgesRow.holds Try.pinned (OpenSpec.ofChange ccmEdgesSpec)

/-- ITS FALSE NEIGHBOUR: 'it returns false'. Refute it at one input. -/
def ccmEdgesWrong : ChangeSpec := { name := "ccmEdges", fn := fun _ => fun
  | [d1, d2, d3] => { results := [.lit (.bool false)], args := [d1, d2, d3] }
  | _ => none }
def CcmEdgesWrongFalsely : Prop := ccmEdgesRow.holds Try.pinned (OpenSpec.ofChange ccmEdgesWrong)

/-- 'coreseclaw07.CcmStream': WHATEVER THE INPUT: true; the input reads as it did. -/
def ccmStreamSpec : ChangeSpec := { name := "ccmStream", fn := fun _ => fun
  | [d1, d2, d3] => { results := [.lit (.bool true)], args := [d1, d2, d3] }
  | _ => none }
def ccmStreamRow : OpenClaim := { program := "ytochjihddnkhcaa", sum := "5a38a441a7577513f2b76987f4f2aa861311bfd102beddf2c0bb2fd2bafccbf7", func := "coresec/coreseclaw07.CcmStream", spec := "ccmStream", unfollowed := true, recurses := true, apart := false }
def CcmStreamSaid : Prop := ccmStreamRow.holds Try.pinned (OpenSpec.ofChange ccmStreamSpec)

/-- ITS FALSE NEIGHBOUR: 'it returns false'. Refute it at one input. -/
def ccmStreamWrong : ChangeSpec := { name := "ccmStream", fn := fun _ => fun
  | [d1, d2, d3] => { results := [.lit (.bool false)], args := [d1, d2, d3] }
  | _ => none }
def CcmStreamWrongFalsely : Prop := ccmStreamRow.holds Try.pinned (OpenSpec.ofChange ccmStreamWrong)

/-- 'coreseclaw07.CcmOpens': WHATEVER THE INPUT: true; the input reads as it did. -/
def ccmOpensSpec : ChangeSpec := { name := "ccmOpens", fn := fun _ => fun
  | [d1, d2, d3, d4, d5, d6, d7, d8] => { results := [.lit (.bool true)], args := [d1, d2, d3, d4, d5, d6, d7, d8] }
  | _ => none }
def ccmOpensRow : OpenClaim := { program := "ytochjihddnkhcaa", sum := "5a38a441a7577513f2b76987f4f2aa861311bfd102beddf2c0bb2fd2bafccbf7", func := "coresec/coreseclaw07.CcmOpens", spec := "ccmOpens", unfollowed := true, recurses := true, apart := false }
def CcmOpensSaid : Prop := ccmOpensRow.holds Try.pinned (OpenSpec.ofChange ccmOpensSpec)

/-- ITS FALSE NEIGHBOUR: 'it returns false'. Refute it at one input. -/
def ccmOpensWrong : ChangeSpec := { name := "ccmOpens", fn := fun _ => fun
  | [d1, d2, d3, d4, d5, d6, d7, d8] => { results := [.lit (.bool false)], args := [d1, d2, d3, d4, d5, d6, d7, d8] }
  | _ => none }
def CcmOpensWrongFalsely : Prop := ccmOpensRow.holds Try.pinned (OpenSpec.ofChange ccmOpensWrong)

/-- 'coreseclaw07.CcmBack': WHATEVER THE INPUT: true; the input reads as it did. -/
def ccmBackSpec : ChangeSpec := { name := "ccmBack", fn := fun _ => fun
  | [d1, d2, d3, d4] => { results := [.lit (.bool true)], args := [d1, d2, d3, d4] }
  | _ => none }
def ccmBackRow : OpenClaim := { program := "ytochjihddnkhcaa", sum := "5a38a441a7577513f2b76987f4f2aa861311bfd102beddf2c0bb2fd2bafccbf7", func := "coresec/coreseclaw07.CcmBack", spec := "ccmBack", unfollowed := true, recurses := true, apart := false }
def CcmBackSaid : Prop := ccmBackRow.holds Try.pinned (OpenSpec.ofChange ccmBackSpec)

/-- ITS FALSE NEIGHBOUR: 'it returns false'. Refute it at one input. -/
def ccmBackWrong : ChangeSpec := { name := "ccmBack", fn := fun _ => fun
  | [d1, d2, d3, d4] => { results := [.lit (.bool false)], args := [d1, d2, d3, d4] }
  | _ => none }
def CcmBackWrongFalsely : Prop := ccmBackRow.holds Try.pinned (OpenSpec.ofChange ccmBackWrong)

/-- 'coreseclaw07.CcmRefuses': WHATEVER THE INPUT: true; the input reads as it did. -/
def ccmRefusesSpec : ChangeSpec := { name := "ccmRefuses", fn := fun _ => fun
  | [d1, d2, d3] => { results := [.lit (.bool true)], args := [d1, d2, d3] }
  | _ => none }
def ccmRefusesRow : OpenClaim := { program := "ytochjihddnkhcaa", sum := "5a38a441a7577513f2b76987f4f2aa861311bfd102beddf2c0bb2fd2bafccbf7", func := "coresec/coreseclaw07.CcmRefuses", spec := "ccmRefuses", unfollowed := true, recurses := true, apart := false }
def CcmRefusesSaid : Prop := ccmRefusesRow.holds Try.pinned (OpenSpec.ofChange ccmRefusesSpec)

/-- ITS FALSE NEIGHBOUR: 'it returns false'. Refute it at one input. -/
def ccmRefusesWrong : ChangeSpec := { name := "ccmRefuses", fn := fun _ => fun
  | [d1, d2, d3] => { results := [.lit (.bool false)], args := [d1, d2, d3] }
  | _ => none }
def CcmRefusesWrongFalsely : Prop := ccmRefusesRow.holds Try.pinned (OpenSpec.ofChange ccmRefusesWrong)

/- THE SECOND FORM. 'bulk': how many values and letters a reading holds, each counted each time it is reached (what is shared counts as often as it is met; a slice's spare places count too). A statement '..UptoSaid' is the law's where the arguments, and the package variables that the reading takes, are together of bulk at most 1048576: NARROWER than '..Said'. Prove '..Said' where nothing that the law and all that it calls make is longer than what came in: it says more and counts as full. Else prove '..UptoSaid'. A law counts once. -/
mutual
def uptoBulk {H : Type} : DataW H → Nat
  | .lit (.string bytes) => bytes.length + 1
  | .lit _ => 1
  | .nil => 1
  | .ptr d => uptoBulk d + 1
  | .slice elems spare => uptoBulkAll elems + uptoBulkAll spare + 1
  | .agg parts => uptoBulkAll parts + 1
  | .iface _ d => uptoBulk d + 1
  | .map entries => uptoBulkEntries entries + 1
  | .held _ => 1
def uptoBulkAll {H : Type} : List (DataW H) → Nat
  | [] => 0
  | d :: r => uptoBulk d + uptoBulkAll r
def uptoBulkEntries {H : Type} : List (Lit × DataW H) → Nat
  | [] => 0
  | x :: r => uptoBulkEntry x + uptoBulkEntries r
def uptoBulkEntry {H : Type} : Lit × DataW H → Nat
  | (.string bytes, d) => bytes.length + uptoBulk d + 1
  | (_, d) => uptoBulk d + 1
 end
def uptoSmall : (H : Type) → List (DataW H) → Bool := fun _ ds => decide (uptoBulkAll ds ≤ 1048576)
def OpenSpec.upto (s : _root_.Go.ChangeSpec) : _root_.Go.OpenSpec := { _root_.Go.OpenSpec.ofChange s with cond := some uptoSmall }

/-- 'coreseclaw06.AesExpands', WHERE WHAT IT READS IS OF BULK AT MOST 1048576: true; the input reads as it did. -/
def aesExpandsUptoRow : OpenClaim := { program := "ytochjihddnkhcaa", sum := "5a38a441a7577513f2b76987f4f2aa861311bfd102beddf2c0bb2fd2bafccbf7", func := "coresec/coreseclaw06.AesExpands", spec := "aesExpands", apart := false, narrowed := true }
def AesExpandsUptoSaid : Prop := aesExpandsUptoRow.holds Try.pinned (OpenSpec.upto aesExpandsSpec)

/-- 'coreseclaw06.AesBits', WHERE WHAT IT READS IS OF BULK AT MOST 1048576: true; the input reads as it did. -/
def aesBitsUptoRow : OpenClaim := { program := "ytochjihddnkhcaa", sum := "5a38a441a7577513f2b76987f4f2aa861311bfd102beddf2c0bb2fd2bafccbf7", func := "coresec/coreseclaw06.AesBits", spec := "aesBits", apart := false, narrowed := true }
def AesBitsUptoSaid : Prop := aesBitsUptoRow.holds Try.pinned (OpenSpec.upto aesBitsSpec)

/-- 'coreseclaw06.AesEncrypts', WHERE WHAT IT READS IS OF BULK AT MOST 1048576: true; the input reads as it did. -/
def aesEncryptsUptoRow : OpenClaim := { program := "ytochjihddnkhcaa", sum := "5a38a441a7577513f2b76987f4f2aa861311bfd102beddf2c0bb2fd2bafccbf7", func := "coresec/coreseclaw06.AesEncrypts", spec := "aesEncrypts", apart := false, narrowed := true }
def AesEncryptsUptoSaid : Prop := aesEncryptsUptoRow.holds Try.pinned (OpenSpec.upto aesEncryptsSpec)

/-- 'coreseclaw06.AesUndoes', WHERE WHAT IT READS IS OF BULK AT MOST 1048576: true; the input reads as it did. -/
def aesUndoesUptoRow : OpenClaim := { program := "ytochjihddnkhcaa", sum := "5a38a441a7577513f2b76987f4f2aa861311bfd102beddf2c0bb2fd2bafccbf7", func := "coresec/coreseclaw06.AesUndoes", spec := "aesUndoes", apart := false, narrowed := true }
def AesUndoesUptoSaid : Prop := aesUndoesUptoRow.holds Try.pinned (OpenSpec.upto aesUndoesSpec)

/-- 'coreseclaw07.CcmValid', WHERE WHAT IT READS IS OF BULK AT MOST 1048576: true; the input reads as it did. -/
def ccmValidUptoRow : OpenClaim := { program := "ytochjihddnkhcaa", sum := "5a38a441a7577513f2b76987f4f2aa861311bfd102beddf2c0bb2fd2bafccbf7", func := "coresec/coreseclaw07.CcmValid", spec := "ccmValid", unfollowed := true, recurses := true, apart := false, narrowed := true }
def CcmValidUptoSaid : Prop := ccmValidUptoRow.holds Try.pinned (OpenSpec.upto ccmValidSpec)

/-- 'coreseclaw07.CcmSeals', WHERE WHAT IT READS IS OF BULK AT MOST 1048576: true; the input reads as it did. -/
def ccmSealsUptoRow : OpenClaim := { program := "ytochjihddnkhcaa", sum := "5a38a441a7577513f2b76987f4f2aa861311bfd102beddf2c0bb2fd2bafccbf7", func := "coresec/coreseclaw07.CcmSeals", spec := "ccmSeals", unfollowed := true, recurses := true, apart := false, narrowed := true }
def CcmSealsUptoSaid : Prop := ccmSealsUptoRow.holds Try.pinned (OpenSpec.upto ccmSealsSpec)

/-- 'coreseclaw07.CcmEdges', WHERE WHAT IT READS IS OF BULK AT MOST 1048576: true; the input reads as it did. -/
def ccmEdgesUptoRow : OpenClaim := { program := "ytochjihddnkhcaa", sum := "5a38a441a7577513f2b76987f4f2aa861311bfd102beddf2c0bb2fd2bafccbf7", func := "coresec/coreseclaw07.CcmEdges", spec := "ccmEdges", unfollowed := true, recurses := true, apart := false, narrowed := true }
def CcmEdgesUptoSaid : Prop := ccmEdgesUptoRow.holds Try.pinned (OpenSpec.upto ccmEdgesSpec)

/-- 'coreseclaw07.CcmStream', WHERE WHAT IT READS IS OF BULK AT MOST 1048576: true; the input reads as it did. -/
def ccmStreamUptoRow : OpenClaim := { program := "ytochjihddnkhcaa", sum := "5a38a441a7577513f2b76987f4f2aa861311bfd102beddf2c0bb2fd2bafccbf7", func := "coresec/coreseclaw07.CcmStream", spec := "ccmStream", unfollowed := true, recurses := true, apart := false, narrowed := true }
def CcmStreamUptoSaid : Prop := ccmStreamUptoRow.holds Try.pinned (OpenSpec.upto ccmStreamSpec)

/-- 'coreseclaw07.CcmOpens', WHERE WHAT IT READS IS OF BULK AT MOST 1048576: true; the input reads as it did. -/
def ccmOpensUptoRow : OpenClaim := { program := "ytochjihddnkhcaa", sum := "5a38a441a7577513f2b76987f4f2aa861311bfd102beddf2c0bb2fd2bafccbf7", func := "coresec/coreseclaw07.CcmOpens", spec := "ccmOpens", unfollowed := true, recurses := true, apart := false, narrowed := true }
def CcmOpensUptoSaid : Prop := ccmOpensUptoRow.holds Try.pinned (OpenSpec.upto ccmOpensSpec)

/-- 'coreseclaw07.CcmBack', WHERE WHAT IT READS IS OF BULK AT MOST 1048576: true; the input reads as it did. -/
def ccmBackUptoRow : OpenClaim := { program := "ytochjihddnkhcaa", sum := "5a38a441a7577513f2b76987f4f2aa861311bfd102beddf2c0bb2fd2bafccbf7", func := "coresec/coreseclaw07.CcmBack", spec := "ccmBack", unfollowed := true, recurses := true, apart := false, narrowed := true }
def CcmBackUptoSaid : Prop := ccmBackUptoRow.holds Try.pinned (OpenSpec.upto ccmBackSpec)

/-- 'coreseclaw07.CcmRefuses', WHERE WHAT IT READS IS OF BULK AT MOST 1048576: true; the input reads as it did. -/
def ccmRefusesUptoRow : OpenClaim := { program := "ytochjihddnkhcaa", sum := "5a38a441a7577513f2b76987f4f2aa861311bfd102beddf2c0bb2fd2bafccbf7", func := "coresec/coreseclaw07.CcmRefuses", spec := "ccmRefuses", unfollowed := true, recurses := true, apart := false, narrowed := true }
def CcmRefusesUptoSaid : Prop := ccmRefusesUptoRow.holds Try.pinned (OpenSpec.upto ccmRefusesSpec)

end Rows
end Go.Proofs.Ytochjihddnkhcaa
