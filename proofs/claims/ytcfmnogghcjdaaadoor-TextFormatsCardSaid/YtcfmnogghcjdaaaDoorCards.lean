/-
  DERIVED. GIVEN WITH THE SEED: THE CARDS: each row of YtcfmnogghcjdaaaDoorRows.lean that lists a variable, with what it lists TIED to the program's text (the seventh form; the later family's looks); each row that meets fmt, with fmt's text TOLD by the authors' own Lean function (tested against real Go, not proved from fmt's source: count such statements apart). THE CARD IS WHAT COUNTS. Prove the row's statement (the work); the ties are given (YtcfmnogghcjdaaaDoorTie.lean); close each card by the builder's one call (the guide's Derived/Test/ToyasCard.lean, 'card_holds'). Laid BY PROGRAM, IN A SANDBOX (cutbox-door.mjs). By AI agents, Wed Nov 11 2026. No macro, syntax, notation, axiom, sorry.
-/
import Derived.Test.YtcfmnogghcjdaaaDoorRows
import GoSem.ClaimSeven
namespace Go.Proofs.YtcfmnogghcjdaaaDoor
namespace Rows

/-- THE TIED CARD OF 'redundancylaw45.TextRaw'. -/
def textRawCard : Claim7 := { stood := { row := textRawRow, standIns := [], harness := (true, "47218a2b464af77d7fd1d50bf967aac450ab15a3e5e98c344e2f849ebf7d68ca"), looks := true }, kinds := [], alts := [], laidByText := true, laidKinds := [.data, .data, .data, .data, .sentinel, .sentinel, .pinned], laidTests := true, laidLooks := .later }
def TextRawCardSaid : Prop := Claim7.holds Tryd.pinned (.plain (OpenSpec.ofChange textRawSpec)) textRawCard

/-- THE TIED CARD OF 'redundancylaw45.TextFormats'. -/
def textFormatsCard : Claim7 := { stood := { row := textFormatsRow, standIns := [], harness := (true, "47218a2b464af77d7fd1d50bf967aac450ab15a3e5e98c344e2f849ebf7d68ca"), looks := true }, kinds := [], alts := [], laidByText := true, laidKinds := [.data, .data, .data, .data, .sentinel, .sentinel, .pinned], laidTests := true, laidLooks := .later }
def TextFormatsCardSaid : Prop := Claim7.holds Tryd.pinned (.plain (OpenSpec.ofChange textFormatsSpec)) textFormatsCard

/-- THE TIED CARD OF 'redundancylaw45.TextEvents'. -/
def textEventsCard : Claim7 := { stood := { row := textEventsRow, standIns := [], harness := (true, "47218a2b464af77d7fd1d50bf967aac450ab15a3e5e98c344e2f849ebf7d68ca"), looks := true }, kinds := [], alts := [], laidByText := true, laidKinds := [.data, .data, .data, .data, .sentinel, .sentinel, .pinned], laidTests := true, laidLooks := .later }
def TextEventsCardSaid : Prop := Claim7.holds Tryd.pinned (.plain (OpenSpec.ofChange textEventsSpec)) textEventsCard

/-- THE SECOND FORM's CARD OF 'redundancylaw45.TextRaw'. -/
def textRawUptoCard : Claim7 := { stood := { row := textRawUptoRow, standIns := [], harness := (true, "47218a2b464af77d7fd1d50bf967aac450ab15a3e5e98c344e2f849ebf7d68ca"), looks := true }, kinds := [], alts := [], laidByText := true, laidKinds := [.data, .data, .data, .data, .sentinel, .sentinel, .pinned], laidTests := true, laidLooks := .later }
def TextRawUptoCardSaid : Prop := Claim7.holds Tryd.pinned (.plain (OpenSpec.upto textRawSpec)) textRawUptoCard

/-- THE SECOND FORM's CARD OF 'redundancylaw45.TextFormats'. -/
def textFormatsUptoCard : Claim7 := { stood := { row := textFormatsUptoRow, standIns := [], harness := (true, "47218a2b464af77d7fd1d50bf967aac450ab15a3e5e98c344e2f849ebf7d68ca"), looks := true }, kinds := [], alts := [], laidByText := true, laidKinds := [.data, .data, .data, .data, .sentinel, .sentinel, .pinned], laidTests := true, laidLooks := .later }
def TextFormatsUptoCardSaid : Prop := Claim7.holds Tryd.pinned (.plain (OpenSpec.upto textFormatsSpec)) textFormatsUptoCard

/-- THE SECOND FORM's CARD OF 'redundancylaw45.TextEvents'. -/
def textEventsUptoCard : Claim7 := { stood := { row := textEventsUptoRow, standIns := [], harness := (true, "47218a2b464af77d7fd1d50bf967aac450ab15a3e5e98c344e2f849ebf7d68ca"), looks := true }, kinds := [], alts := [], laidByText := true, laidKinds := [.data, .data, .data, .data, .sentinel, .sentinel, .pinned], laidTests := true, laidLooks := .later }
def TextEventsUptoCardSaid : Prop := Claim7.holds Tryd.pinned (.plain (OpenSpec.upto textEventsSpec)) textEventsUptoCard
end Rows
end Go.Proofs.YtcfmnogghcjdaaaDoor
