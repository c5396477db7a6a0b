/-
  DERIVED. GIVEN WITH THE SEED: THE CARDS: each row of YtcfmnogghcjdaaaGreatDoorRows.lean that lists a variable, with what it lists TIED to the program's text (the seventh form; the later family's looks); each row that meets fmt, with fmt's text TOLD by the authors' own Lean function (tested against real Go, not proved from fmt's source: count such statements apart). THE CARD IS WHAT COUNTS. Prove the row's statement (the work); the ties are given (YtcfmnogghcjdaaaGreatDoorTie.lean); close each card by the builder's one call (the guide's Derived/Test/ToyasCard.lean, 'card_holds'). Laid BY PROGRAM, IN A SANDBOX (cutbox-door.mjs). By AI agents, Wed Nov 11 2026. No macro, syntax, notation, axiom, sorry.
-/
import Derived.Test.YtcfmnogghcjdaaaGreatDoorRows
import GoSem.ClaimSeven
namespace Go.Proofs.YtcfmnogghcjdaaaGreatDoor
namespace Rows

/-- THE TIED CARD OF 'redundancylaw45.TextNear'. -/
def textNearCard : Claim7 := { stood := { row := textNearRow, standIns := [], harness := (true, "2b630306b9ee1e76c23a401f5cef19c3a90174641bc7218e0dc83c5928b88c89"), looks := true }, kinds := [], alts := [], laidByText := true, laidKinds := [.data, .data, .data, .data, .sentinel, .sentinel, .pinned], laidTests := true, laidLooks := .later }
def TextNearCardSaid : Prop := Claim7.holds Tryz.pinned (.plain (OpenSpec.ofChange textNearSpec)) textNearCard

/-- THE TIED CARD OF 'redundancylaw45.TextLines'. -/
def textLinesCard : Claim7 := { stood := { row := textLinesRow, standIns := [], harness := (true, "2b630306b9ee1e76c23a401f5cef19c3a90174641bc7218e0dc83c5928b88c89"), looks := true }, kinds := [], alts := [], laidByText := true, laidKinds := [.data, .data, .data, .data, .sentinel, .sentinel, .pinned], laidTests := true, laidLooks := .later }
def TextLinesCardSaid : Prop := Claim7.holds Tryz.pinned (.plain (OpenSpec.ofChange textLinesSpec)) textLinesCard

/-- THE SECOND FORM's CARD OF 'redundancylaw45.TextNear'. -/
def textNearUptoCard : Claim7 := { stood := { row := textNearUptoRow, standIns := [], harness := (true, "2b630306b9ee1e76c23a401f5cef19c3a90174641bc7218e0dc83c5928b88c89"), looks := true }, kinds := [], alts := [], laidByText := true, laidKinds := [.data, .data, .data, .data, .sentinel, .sentinel, .pinned], laidTests := true, laidLooks := .later }
def TextNearUptoCardSaid : Prop := Claim7.holds Tryz.pinned (.plain (OpenSpec.upto textNearSpec)) textNearUptoCard

/-- THE SECOND FORM's CARD OF 'redundancylaw45.TextLines'. -/
def textLinesUptoCard : Claim7 := { stood := { row := textLinesUptoRow, standIns := [], harness := (true, "2b630306b9ee1e76c23a401f5cef19c3a90174641bc7218e0dc83c5928b88c89"), looks := true }, kinds := [], alts := [], laidByText := true, laidKinds := [.data, .data, .data, .data, .sentinel, .sentinel, .pinned], laidTests := true, laidLooks := .later }
def TextLinesUptoCardSaid : Prop := Claim7.holds Tryz.pinned (.plain (OpenSpec.upto textLinesSpec)) textLinesUptoCard
end Rows
end Go.Proofs.YtcfmnogghcjdaaaGreatDoor
