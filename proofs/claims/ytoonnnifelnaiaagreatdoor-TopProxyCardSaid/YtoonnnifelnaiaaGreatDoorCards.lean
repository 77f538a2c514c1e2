/-
  DERIVED. GIVEN WITH THE SEED: THE CARDS: each row of YtoonnnifelnaiaaGreatDoorRows.lean that lists a variable, with what it lists TIED to the program's text (the seventh form; the later family's looks); each row that meets fmt, with fmt's text TOLD by the authors' own Lean function (tested against real Go, not proved from fmt's source: count such statements apart). THE CARD IS WHAT COUNTS. Prove the row's statement (the work); the ties are given (YtoonnnifelnaiaaGreatDoorTie.lean); close each card by the builder's one call (the guide's Derived/Test/ToyasCard.lean, 'card_holds'). Laid BY PROGRAM, IN A SANDBOX (cutbox-door.mjs). By AI agents, Wed Nov 11 2026. No macro, syntax, notation, axiom, sorry.
-/
import Derived.Test.YtoonnnifelnaiaaGreatDoorRows
import GoSem.ClaimSeven
namespace Go.Proofs.YtoonnnifelnaiaaGreatDoor
namespace Rows

/-- THE TIED CARD OF 'coresectop.TopObserve'. -/
def topObserveCard : Claim7 := { stood := { row := topObserveRow, standIns := [], harness := (true, "a47f9faa874ef813eac69332f184341619ec43dd2574129a6dc25b7699d922f5"), looks := true }, kinds := [], alts := [], laidByText := true, laidKinds := [.data, .data, .data, .data, .sentinel, .sentinel, .data, .pinned], laidTests := true, laidLooks := .later }
def TopObserveCardSaid : Prop := Claim7.holds Tryz.pinned (.plain (OpenSpec.ofChange topObserveSpec)) topObserveCard

/-- THE TIED CARD OF 'coresectop.TopOnce'. -/
def topOnceCard : Claim7 := { stood := { row := topOnceRow, standIns := [], harness := (true, "a47f9faa874ef813eac69332f184341619ec43dd2574129a6dc25b7699d922f5"), looks := true }, kinds := [], alts := [], laidByText := true, laidKinds := [.data, .data, .data, .data, .sentinel, .sentinel, .data, .pinned], laidTests := true, laidLooks := .later }
def TopOnceCardSaid : Prop := Claim7.holds Tryz.pinned (.plain (OpenSpec.ofChange topOnceSpec)) topOnceCard

/-- THE TIED CARD OF 'coresectop.TopUpload'. -/
def topUploadCard : Claim7 := { stood := { row := topUploadRow, standIns := [], harness := (true, "a47f9faa874ef813eac69332f184341619ec43dd2574129a6dc25b7699d922f5"), looks := true }, kinds := [], alts := [], laidByText := true, laidKinds := [.data, .data, .data, .data, .sentinel, .sentinel, .data, .pinned], laidTests := true, laidLooks := .later }
def TopUploadCardSaid : Prop := Claim7.holds Tryz.pinned (.plain (OpenSpec.ofChange topUploadSpec)) topUploadCard

/-- THE TIED CARD OF 'coresectop.TopProxy'. -/
def topProxyCard : Claim7 := { stood := { row := topProxyRow, standIns := [], harness := (true, "a47f9faa874ef813eac69332f184341619ec43dd2574129a6dc25b7699d922f5"), looks := true }, kinds := [], alts := [], laidByText := true, laidKinds := [.data, .data, .data, .data, .sentinel, .sentinel, .data, .pinned], laidTests := true, laidLooks := .later }
def TopProxyCardSaid : Prop := Claim7.holds Tryz.pinned (.plain (OpenSpec.ofChange topProxySpec)) topProxyCard

/-- THE SECOND FORM's CARD OF 'coresectop.TopObserve'. -/
def topObserveUptoCard : Claim7 := { stood := { row := topObserveUptoRow, standIns := [], harness := (true, "a47f9faa874ef813eac69332f184341619ec43dd2574129a6dc25b7699d922f5"), looks := true }, kinds := [], alts := [], laidByText := true, laidKinds := [.data, .data, .data, .data, .sentinel, .sentinel, .data, .pinned], laidTests := true, laidLooks := .later }
def TopObserveUptoCardSaid : Prop := Claim7.holds Tryz.pinned (.plain (OpenSpec.upto topObserveSpec)) topObserveUptoCard

/-- THE SECOND FORM's CARD OF 'coresectop.TopOnce'. -/
def topOnceUptoCard : Claim7 := { stood := { row := topOnceUptoRow, standIns := [], harness := (true, "a47f9faa874ef813eac69332f184341619ec43dd2574129a6dc25b7699d922f5"), looks := true }, kinds := [], alts := [], laidByText := true, laidKinds := [.data, .data, .data, .data, .sentinel, .sentinel, .data, .pinned], laidTests := true, laidLooks := .later }
def TopOnceUptoCardSaid : Prop := Claim7.holds Tryz.pinned (.plain (OpenSpec.upto topOnceSpec)) topOnceUptoCard

/-- THE SECOND FORM's CARD OF 'coresectop.TopUpload'. -/
def topUploadUptoCard : Claim7 := { stood := { row := topUploadUptoRow, standIns := [], harness := (true, "a47f9faa874ef813eac69332f184341619ec43dd2574129a6dc25b7699d922f5"), looks := true }, kinds := [], alts := [], laidByText := true, laidKinds := [.data, .data, .data, .data, .sentinel, .sentinel, .data, .pinned], laidTests := true, laidLooks := .later }
def TopUploadUptoCardSaid : Prop := Claim7.holds Tryz.pinned (.plain (OpenSpec.upto topUploadSpec)) topUploadUptoCard

/-- THE SECOND FORM's CARD OF 'coresectop.TopProxy'. -/
def topProxyUptoCard : Claim7 := { stood := { row := topProxyUptoRow, standIns := [], harness := (true, "a47f9faa874ef813eac69332f184341619ec43dd2574129a6dc25b7699d922f5"), looks := true }, kinds := [], alts := [], laidByText := true, laidKinds := [.data, .data, .data, .data, .sentinel, .sentinel, .data, .pinned], laidTests := true, laidLooks := .later }
def TopProxyUptoCardSaid : Prop := Claim7.holds Tryz.pinned (.plain (OpenSpec.upto topProxySpec)) topProxyUptoCard
end Rows
end Go.Proofs.YtoonnnifelnaiaaGreatDoor
