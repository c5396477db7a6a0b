/-
  No cell of these rows narrows 'for every input' (looked for: loops, veiled, ifaces, maps, wideKeys, modest, calm, conditions, laid).
  DERIVED. THE GIVEN ROWS OF THIS SEAT. 15 by the template 'for every input the law returns true; each argument reads behind the call as it read before'; 0 by the template 'total and deterministic' (their statements: YtdngefmliibcgaaGreatTotals.lean).
  GIVEN WITH THE SEED: the statements are not yours to turn. If you find one false, say at which input.
  Laid BY PROGRAM, IN A SANDBOX (cutbox-rows.mjs): the forced cells as the released guide's own fill.sh prints them over the translation 7f245cb8025d3b4c… (all of the seat's roots in one cut). By AI agents, Wed Nov 11 2026. No macro, syntax, notation, axiom, sorry.
-/
import Derived.Test.YtdngefmliibcgaaGreatChecked
import GoSem.Claim
import GoSem.ClaimJoined
import GoSem.ClaimMapViews
import Derived.JoinedTies
import Derived.KernelRfl
namespace Go.Proofs.YtdngefmliibcgaaGreat
/- THE CELL 'sum', in the pinned program and in every row, IS THE sha256 OF THE DUMP (.gsa) THAT YtdngefmliibcgaaGreatProg.lean LOADS. Nothing in Lean hashes anything: it is a label: what it is worth is what the hold of that sum in a sandbox is worth. -/
noncomputable def Tryz.pinned : Pinned := { name := "ytdngefmliibcgaagreat", sum := "7f245cb8025d3b4cf626dc70b378c55f3e2cd6f0db6e4dca8103659d19134bbf", checked := Tryz.checked }
namespace Rows
def none {H : Type} : Left H := { results := [], args := [] }

/-- 'redundancylaw22.ReplayGoes': WHATEVER THE INPUT: true; the input reads as it did. -/
def replayGoesSpec : ChangeSpec := { name := "replayGoes", fn := fun _ => fun
  | [d] => { results := [.lit (.bool true)], args := [d] }
  | _ => none }
def replayGoesRow : OpenClaim := { program := "ytdngefmliibcgaagreat", sum := "7f245cb8025d3b4cf626dc70b378c55f3e2cd6f0db6e4dca8103659d19134bbf", func := "redundancy/redundancylaw22.ReplayGoes", spec := "replayGoes", unfollowed := true, recurses := true, apart := false }
def ReplayGoesSaid : Prop := replayGoesRow.holds Tryz.pinned (OpenSpec.ofChange replayGoesSpec)

/-- ITS FALSE NEIGHBOUR: 'it returns false'. Refute it at one input. -/
def replayGoesWrong : ChangeSpec := { name := "replayGoes", fn := fun _ => fun
  | [d] => { results := [.lit (.bool false)], args := [d] }
  | _ => none }
def ReplayGoesWrongFalsely : Prop := replayGoesRow.holds Tryz.pinned (OpenSpec.ofChange replayGoesWrong)

/-- 'redundancylaw22.ReplayPrograms': WHATEVER THE INPUT: true; the input reads as it did. -/
def replayProgramsSpec : ChangeSpec := { name := "replayPrograms", fn := fun _ => fun
  | [d1, d2, d3] => { results := [.lit (.bool true)], args := [d1, d2, d3] }
  | _ => none }
def replayProgramsRow : OpenClaim := { program := "ytdngefmliibcgaagreat", sum := "7f245cb8025d3b4cf626dc70b378c55f3e2cd6f0db6e4dca8103659d19134bbf", func := "redundancy/redundancylaw22.ReplayPrograms", spec := "replayPrograms", unfollowed := true, recurses := true, apart := false }
def ReplayProgramsSaid : Prop := replayProgramsRow.holds Tryz.pinned (OpenSpec.ofChange replayProgramsSpec)

/-- ITS FALSE NEIGHBOUR: 'it returns false'. Refute it at one input. -/
def replayProgramsWrong : ChangeSpec := { name := "replayPrograms", fn := fun _ => fun
  | [d1, d2, d3] => { results := [.lit (.bool false)], args := [d1, d2, d3] }
  | _ => none }
def ReplayProgramsWrongFalsely : Prop := replayProgramsRow.holds Tryz.pinned (OpenSpec.ofChange replayProgramsWrong)

/-- 'redundancylaw22.ReplayFollows': WHATEVER THE INPUT: true; the input reads as it did. -/
def replayFollowsSpec : ChangeSpec := { name := "replayFollows", fn := fun _ => fun
  | [d1, d2, d3, d4] => { results := [.lit (.bool true)], args := [d1, d2, d3, d4] }
  | _ => none }
def replayFollowsRow : OpenClaim := { program := "ytdngefmliibcgaagreat", sum := "7f245cb8025d3b4cf626dc70b378c55f3e2cd6f0db6e4dca8103659d19134bbf", func := "redundancy/redundancylaw22.ReplayFollows", spec := "replayFollows", unfollowed := true, recurses := true, apart := false }
def ReplayFollowsSaid : Prop := replayFollowsRow.holds Tryz.pinned (OpenSpec.ofChange replayFollowsSpec)

/-- ITS FALSE NEIGHBOUR: 'it returns false'. Refute it at one input. -/
def replayFollowsWrong : ChangeSpec := { name := "replayFollows", fn := fun _ => fun
  | [d1, d2, d3, d4] => { results := [.lit (.bool false)], args := [d1, d2, d3, d4] }
  | _ => none }
def ReplayFollowsWrongFalsely : Prop := replayFollowsRow.holds Tryz.pinned (OpenSpec.ofChange replayFollowsWrong)

/-- 'redundancylaw22.ReplaySame': WHATEVER THE INPUT: true; the input reads as it did. -/
def replaySameSpec : ChangeSpec := { name := "replaySame", fn := fun _ => fun
  | [d1, d2, d3] => { results := [.lit (.bool true)], args := [d1, d2, d3] }
  | _ => none }
def replaySameRow : OpenClaim := { program := "ytdngefmliibcgaagreat", sum := "7f245cb8025d3b4cf626dc70b378c55f3e2cd6f0db6e4dca8103659d19134bbf", func := "redundancy/redundancylaw22.ReplaySame", spec := "replaySame", unfollowed := true, recurses := true, apart := false }
def ReplaySameSaid : Prop := replaySameRow.holds Tryz.pinned (OpenSpec.ofChange replaySameSpec)

/-- ITS FALSE NEIGHBOUR: 'it returns false'. Refute it at one input. -/
def replaySameWrong : ChangeSpec := { name := "replaySame", fn := fun _ => fun
  | [d1, d2, d3] => { results := [.lit (.bool false)], args := [d1, d2, d3] }
  | _ => none }
def ReplaySameWrongFalsely : Prop := replaySameRow.holds Tryz.pinned (OpenSpec.ofChange replaySameWrong)

/-- 'redundancylaw22.ReplayDiffers': WHATEVER THE INPUT: true; the input reads as it did. -/
def replayDiffersSpec : ChangeSpec := { name := "replayDiffers", fn := fun _ => fun
  | [d1, d2, d3] => { results := [.lit (.bool true)], args := [d1, d2, d3] }
  | _ => none }
def replayDiffersRow : OpenClaim := { program := "ytdngefmliibcgaagreat", sum := "7f245cb8025d3b4cf626dc70b378c55f3e2cd6f0db6e4dca8103659d19134bbf", func := "redundancy/redundancylaw22.ReplayDiffers", spec := "replayDiffers", unfollowed := true, recurses := true, apart := false }
def ReplayDiffersSaid : Prop := replayDiffersRow.holds Tryz.pinned (OpenSpec.ofChange replayDiffersSpec)

/-- ITS FALSE NEIGHBOUR: 'it returns false'. Refute it at one input. -/
def replayDiffersWrong : ChangeSpec := { name := "replayDiffers", fn := fun _ => fun
  | [d1, d2, d3] => { results := [.lit (.bool false)], args := [d1, d2, d3] }
  | _ => none }
def ReplayDiffersWrongFalsely : Prop := replayDiffersRow.holds Tryz.pinned (OpenSpec.ofChange replayDiffersWrong)

/-- 'redundancylaw22.ReplayParts': WHATEVER THE INPUT: true; the input reads as it did. -/
def replayPartsSpec : ChangeSpec := { name := "replayParts", fn := fun _ => fun
  | [d1, d2] => { results := [.lit (.bool true)], args := [d1, d2] }
  | _ => none }
def replayPartsRow : OpenClaim := { program := "ytdngefmliibcgaagreat", sum := "7f245cb8025d3b4cf626dc70b378c55f3e2cd6f0db6e4dca8103659d19134bbf", func := "redundancy/redundancylaw22.ReplayParts", spec := "replayParts", unfollowed := true, recurses := true, apart := false }
def ReplayPartsSaid : Prop := replayPartsRow.holds Tryz.pinned (OpenSpec.ofChange replayPartsSpec)

/-- ITS FALSE NEIGHBOUR: 'it returns false'. Refute it at one input. -/
def replayPartsWrong : ChangeSpec := { name := "replayParts", fn := fun _ => fun
  | [d1, d2] => { results := [.lit (.bool false)], args := [d1, d2] }
  | _ => none }
def ReplayPartsWrongFalsely : Prop := replayPartsRow.holds Tryz.pinned (OpenSpec.ofChange replayPartsWrong)

/-- 'redundancylaw23.FaultApplies': WHATEVER THE INPUT: true; the input reads as it did. -/
def faultAppliesSpec : ChangeSpec := { name := "faultApplies", fn := fun _ => fun
  | [d1, d2, d3, d4] => { results := [.lit (.bool true)], args := [d1, d2, d3, d4] }
  | _ => none }
def faultAppliesRow : OpenClaim := { program := "ytdngefmliibcgaagreat", sum := "7f245cb8025d3b4cf626dc70b378c55f3e2cd6f0db6e4dca8103659d19134bbf", func := "redundancy/redundancylaw23.FaultApplies", spec := "faultApplies", unfollowed := true, recurses := true, apart := false }
def FaultAppliesSaid : Prop := faultAppliesRow.holds Tryz.pinned (OpenSpec.ofChange faultAppliesSpec)

/-- ITS FALSE NEIGHBOUR: 'it returns false'. Refute it at one input. -/
def faultAppliesWrong : ChangeSpec := { name := "faultApplies", fn := fun _ => fun
  | [d1, d2, d3, d4] => { results := [.lit (.bool false)], args := [d1, d2, d3, d4] }
  | _ => none }
def FaultAppliesWrongFalsely : Prop := faultAppliesRow.holds Tryz.pinned (OpenSpec.ofChange faultAppliesWrong)

/-- 'redundancylaw23.FaultOnce': WHATEVER THE INPUT: true; the input reads as it did. -/
def faultOnceSpec : ChangeSpec := { name := "faultOnce", fn := fun _ => fun
  | [d] => { results := [.lit (.bool true)], args := [d] }
  | _ => none }
def faultOnceRow : OpenClaim := { program := "ytdngefmliibcgaagreat", sum := "7f245cb8025d3b4cf626dc70b378c55f3e2cd6f0db6e4dca8103659d19134bbf", func := "redundancy/redundancylaw23.FaultOnce", spec := "faultOnce", unfollowed := true, recurses := true, apart := false }
def FaultOnceSaid : Prop := faultOnceRow.holds Tryz.pinned (OpenSpec.ofChange faultOnceSpec)

/-- ITS FALSE NEIGHBOUR: 'it returns false'. Refute it at one input. -/
def faultOnceWrong : ChangeSpec := { name := "faultOnce", fn := fun _ => fun
  | [d] => { results := [.lit (.bool false)], args := [d] }
  | _ => none }
def FaultOnceWrongFalsely : Prop := faultOnceRow.holds Tryz.pinned (OpenSpec.ofChange faultOnceWrong)

/-- 'redundancylaw23.FaultCommutes': WHATEVER THE INPUT: true; the input reads as it did. -/
def faultCommutesSpec : ChangeSpec := { name := "faultCommutes", fn := fun _ => fun
  | [d] => { results := [.lit (.bool true)], args := [d] }
  | _ => none }
def faultCommutesRow : OpenClaim := { program := "ytdngefmliibcgaagreat", sum := "7f245cb8025d3b4cf626dc70b378c55f3e2cd6f0db6e4dca8103659d19134bbf", func := "redundancy/redundancylaw23.FaultCommutes", spec := "faultCommutes", unfollowed := true, recurses := true, apart := false }
def FaultCommutesSaid : Prop := faultCommutesRow.holds Tryz.pinned (OpenSpec.ofChange faultCommutesSpec)

/-- ITS FALSE NEIGHBOUR: 'it returns false'. Refute it at one input. -/
def faultCommutesWrong : ChangeSpec := { name := "faultCommutes", fn := fun _ => fun
  | [d] => { results := [.lit (.bool false)], args := [d] }
  | _ => none }
def FaultCommutesWrongFalsely : Prop := faultCommutesRow.holds Tryz.pinned (OpenSpec.ofChange faultCommutesWrong)

/-- 'redundancylaw23.FaultBends': WHATEVER THE INPUT: true; the input reads as it did. -/
def faultBendsSpec : ChangeSpec := { name := "faultBends", fn := fun _ => fun
  | [d1, d2, d3] => { results := [.lit (.bool true)], args := [d1, d2, d3] }
  | _ => none }
def faultBendsRow : OpenClaim := { program := "ytdngefmliibcgaagreat", sum := "7f245cb8025d3b4cf626dc70b378c55f3e2cd6f0db6e4dca8103659d19134bbf", func := "redundancy/redundancylaw23.FaultBends", spec := "faultBends", unfollowed := true, recurses := true, apart := false }
def FaultBendsSaid : Prop := faultBendsRow.holds Tryz.pinned (OpenSpec.ofChange faultBendsSpec)

/-- ITS FALSE NEIGHBOUR: 'it returns false'. Refute it at one input. -/
def faultBendsWrong : ChangeSpec := { name := "faultBends", fn := fun _ => fun
  | [d1, d2, d3] => { results := [.lit (.bool false)], args := [d1, d2, d3] }
  | _ => none }
def FaultBendsWrongFalsely : Prop := faultBendsRow.holds Tryz.pinned (OpenSpec.ofChange faultBendsWrong)

/-- 'redundancylaw23.FaultLater': WHATEVER THE INPUT: true; the input reads as it did. -/
def faultLaterSpec : ChangeSpec := { name := "faultLater", fn := fun _ => fun
  | [d] => { results := [.lit (.bool true)], args := [d] }
  | _ => none }
def faultLaterRow : OpenClaim := { program := "ytdngefmliibcgaagreat", sum := "7f245cb8025d3b4cf626dc70b378c55f3e2cd6f0db6e4dca8103659d19134bbf", func := "redundancy/redundancylaw23.FaultLater", spec := "faultLater", unfollowed := true, recurses := true, apart := false }
def FaultLaterSaid : Prop := faultLaterRow.holds Tryz.pinned (OpenSpec.ofChange faultLaterSpec)

/-- ITS FALSE NEIGHBOUR: 'it returns false'. Refute it at one input. -/
def faultLaterWrong : ChangeSpec := { name := "faultLater", fn := fun _ => fun
  | [d] => { results := [.lit (.bool false)], args := [d] }
  | _ => none }
def FaultLaterWrongFalsely : Prop := faultLaterRow.holds Tryz.pinned (OpenSpec.ofChange faultLaterWrong)

/-- 'redundancylaw23.FaultSpread': WHATEVER THE INPUT: true; the input reads as it did. -/
def faultSpreadSpec : ChangeSpec := { name := "faultSpread", fn := fun _ => fun
  | [d1, d2, d3, d4] => { results := [.lit (.bool true)], args := [d1, d2, d3, d4] }
  | _ => none }
def faultSpreadRow : OpenClaim := { program := "ytdngefmliibcgaagreat", sum := "7f245cb8025d3b4cf626dc70b378c55f3e2cd6f0db6e4dca8103659d19134bbf", func := "redundancy/redundancylaw23.FaultSpread", spec := "faultSpread", unfollowed := true, recurses := true, apart := false }
def FaultSpreadSaid : Prop := faultSpreadRow.holds Tryz.pinned (OpenSpec.ofChange faultSpreadSpec)

/-- ITS FALSE NEIGHBOUR: 'it returns false'. Refute it at one input. -/
def faultSpreadWrong : ChangeSpec := { name := "faultSpread", fn := fun _ => fun
  | [d1, d2, d3, d4] => { results := [.lit (.bool false)], args := [d1, d2, d3, d4] }
  | _ => none }
def FaultSpreadWrongFalsely : Prop := faultSpreadRow.holds Tryz.pinned (OpenSpec.ofChange faultSpreadWrong)

/-- 'redundancylaw23.FaultQuiet': WHATEVER THE INPUT: true; the input reads as it did. -/
def faultQuietSpec : ChangeSpec := { name := "faultQuiet", fn := fun _ => fun
  | [d] => { results := [.lit (.bool true)], args := [d] }
  | _ => none }
def faultQuietRow : OpenClaim := { program := "ytdngefmliibcgaagreat", sum := "7f245cb8025d3b4cf626dc70b378c55f3e2cd6f0db6e4dca8103659d19134bbf", func := "redundancy/redundancylaw23.FaultQuiet", spec := "faultQuiet", unfollowed := true, recurses := true, apart := false }
def FaultQuietSaid : Prop := faultQuietRow.holds Tryz.pinned (OpenSpec.ofChange faultQuietSpec)

/-- ITS FALSE NEIGHBOUR: 'it returns false'. Refute it at one input. -/
def faultQuietWrong : ChangeSpec := { name := "faultQuiet", fn := fun _ => fun
  | [d] => { results := [.lit (.bool false)], args := [d] }
  | _ => none }
def FaultQuietWrongFalsely : Prop := faultQuietRow.holds Tryz.pinned (OpenSpec.ofChange faultQuietWrong)

/-- 'redundancylaw23.FaultHeals': WHATEVER THE INPUT: true; the input reads as it did. -/
def faultHealsSpec : ChangeSpec := { name := "faultHeals", fn := fun _ => fun
  | [d] => { results := [.lit (.bool true)], args := [d] }
  | _ => none }
def faultHealsRow : OpenClaim := { program := "ytdngefmliibcgaagreat", sum := "7f245cb8025d3b4cf626dc70b378c55f3e2cd6f0db6e4dca8103659d19134bbf", func := "redundancy/redundancylaw23.FaultHeals", spec := "faultHeals", unfollowed := true, recurses := true, apart := false }
def FaultHealsSaid : Prop := faultHealsRow.holds Tryz.pinned (OpenSpec.ofChange faultHealsSpec)

/-- ITS FALSE NEIGHBOUR: 'it returns false'. Refute it at one input. -/
def faultHealsWrong : ChangeSpec := { name := "faultHeals", fn := fun _ => fun
  | [d] => { results := [.lit (.bool false)], args := [d] }
  | _ => none }
def FaultHealsWrongFalsely : Prop := faultHealsRow.holds Tryz.pinned (OpenSpec.ofChange faultHealsWrong)

/-- 'redundancylaw23.FaultRuns': WHATEVER THE INPUT: true; the input reads as it did. -/
def faultRunsSpec : ChangeSpec := { name := "faultRuns", fn := fun _ => fun
  | [d1, d2] => { results := [.lit (.bool true)], args := [d1, d2] }
  | _ => none }
def faultRunsRow : OpenClaim := { program := "ytdngefmliibcgaagreat", sum := "7f245cb8025d3b4cf626dc70b378c55f3e2cd6f0db6e4dca8103659d19134bbf", func := "redundancy/redundancylaw23.FaultRuns", spec := "faultRuns", unfollowed := true, recurses := true, apart := false }
def FaultRunsSaid : Prop := faultRunsRow.holds Tryz.pinned (OpenSpec.ofChange faultRunsSpec)

/-- ITS FALSE NEIGHBOUR: 'it returns false'. Refute it at one input. -/
def faultRunsWrong : ChangeSpec := { name := "faultRuns", fn := fun _ => fun
  | [d1, d2] => { results := [.lit (.bool false)], args := [d1, d2] }
  | _ => none }
def FaultRunsWrongFalsely : Prop := faultRunsRow.holds Tryz.pinned (OpenSpec.ofChange faultRunsWrong)

/- THE SECOND FORM. 'bulk': how many values and letters a reading holds, each counted each time it is reached (what is shared counts as often as it is met; a slice's spare places count too). A statement '..UptoSaid' is the law's where the arguments, and the package variables that the reading takes, are together of bulk at most 1048576: NARROWER than '..Said'. Prove '..Said' where nothing that the law and all that it calls make is longer than what came in: it says more and counts as full. Else prove '..UptoSaid'. A law counts once. -/
mutual
def uptoBulk {H : Type} : DataW H → Nat
  | .lit (.string bytes) => bytes.length + 1
  | .lit _ => 1
  | .nil => 1
  | .ptr d => uptoBulk d + 1
  | .slice elems spare => uptoBulkAll elems + uptoBulkAll spare + 1
  | .agg parts => uptoBulkAll parts + 1
  | .iface _ d => uptoBulk d + 1
  | .map entries => uptoBulkEntries entries + 1
  | .held _ => 1
def uptoBulkAll {H : Type} : List (DataW H) → Nat
  | [] => 0
  | d :: r => uptoBulk d + uptoBulkAll r
def uptoBulkEntries {H : Type} : List (Lit × DataW H) → Nat
  | [] => 0
  | x :: r => uptoBulkEntry x + uptoBulkEntries r
def uptoBulkEntry {H : Type} : Lit × DataW H → Nat
  | (.string bytes, d) => bytes.length + uptoBulk d + 1
  | (_, d) => uptoBulk d + 1
 end
def uptoSmall : (H : Type) → List (DataW H) → Bool := fun _ ds => decide (uptoBulkAll ds ≤ 1048576)
def OpenSpec.upto (s : _root_.Go.ChangeSpec) : _root_.Go.OpenSpec := { _root_.Go.OpenSpec.ofChange s with cond := some uptoSmall }

/-- 'redundancylaw22.ReplayGoes', WHERE WHAT IT READS IS OF BULK AT MOST 1048576: true; the input reads as it did. -/
def replayGoesUptoRow : OpenClaim := { program := "ytdngefmliibcgaagreat", sum := "7f245cb8025d3b4cf626dc70b378c55f3e2cd6f0db6e4dca8103659d19134bbf", func := "redundancy/redundancylaw22.ReplayGoes", spec := "replayGoes", unfollowed := true, recurses := true, apart := false, narrowed := true }
def ReplayGoesUptoSaid : Prop := replayGoesUptoRow.holds Tryz.pinned (OpenSpec.upto replayGoesSpec)

/-- 'redundancylaw22.ReplayPrograms', WHERE WHAT IT READS IS OF BULK AT MOST 1048576: true; the input reads as it did. -/
def replayProgramsUptoRow : OpenClaim := { program := "ytdngefmliibcgaagreat", sum := "7f245cb8025d3b4cf626dc70b378c55f3e2cd6f0db6e4dca8103659d19134bbf", func := "redundancy/redundancylaw22.ReplayPrograms", spec := "replayPrograms", unfollowed := true, recurses := true, apart := false, narrowed := true }
def ReplayProgramsUptoSaid : Prop := replayProgramsUptoRow.holds Tryz.pinned (OpenSpec.upto replayProgramsSpec)

/-- 'redundancylaw22.ReplayFollows', WHERE WHAT IT READS IS OF BULK AT MOST 1048576: true; the input reads as it did. -/
def replayFollowsUptoRow : OpenClaim := { program := "ytdngefmliibcgaagreat", sum := "7f245cb8025d3b4cf626dc70b378c55f3e2cd6f0db6e4dca8103659d19134bbf", func := "redundancy/redundancylaw22.ReplayFollows", spec := "replayFollows", unfollowed := true, recurses := true, apart := false, narrowed := true }
def ReplayFollowsUptoSaid : Prop := replayFollowsUptoRow.holds Tryz.pinned (OpenSpec.upto replayFollowsSpec)

/-- 'redundancylaw22.ReplaySame', WHERE WHAT IT READS IS OF BULK AT MOST 1048576: true; the input reads as it did. -/
def replaySameUptoRow : OpenClaim := { program := "ytdngefmliibcgaagreat", sum := "7f245cb8025d3b4cf626dc70b378c55f3e2cd6f0db6e4dca8103659d19134bbf", func := "redundancy/redundancylaw22.ReplaySame", spec := "replaySame", unfollowed := true, recurses := true, apart := false, narrowed := true }
def ReplaySameUptoSaid : Prop := replaySameUptoRow.holds Tryz.pinned (OpenSpec.upto replaySameSpec)

/-- 'redundancylaw22.ReplayDiffers', WHERE WHAT IT READS IS OF BULK AT MOST 1048576: true; the input reads as it did. -/
def replayDiffersUptoRow : OpenClaim := { program := "ytdngefmliibcgaagreat", sum := "7f245cb8025d3b4cf626dc70b378c55f3e2cd6f0db6e4dca8103659d19134bbf", func := "redundancy/redundancylaw22.ReplayDiffers", spec := "replayDiffers", unfollowed := true, recurses := true, apart := false, narrowed := true }
def ReplayDiffersUptoSaid : Prop := replayDiffersUptoRow.holds Tryz.pinned (OpenSpec.upto replayDiffersSpec)

/-- 'redundancylaw22.ReplayParts', WHERE WHAT IT READS IS OF BULK AT MOST 1048576: true; the input reads as it did. -/
def replayPartsUptoRow : OpenClaim := { program := "ytdngefmliibcgaagreat", sum := "7f245cb8025d3b4cf626dc70b378c55f3e2cd6f0db6e4dca8103659d19134bbf", func := "redundancy/redundancylaw22.ReplayParts", spec := "replayParts", unfollowed := true, recurses := true, apart := false, narrowed := true }
def ReplayPartsUptoSaid : Prop := replayPartsUptoRow.holds Tryz.pinned (OpenSpec.upto replayPartsSpec)

/-- 'redundancylaw23.FaultApplies', WHERE WHAT IT READS IS OF BULK AT MOST 1048576: true; the input reads as it did. -/
def faultAppliesUptoRow : OpenClaim := { program := "ytdngefmliibcgaagreat", sum := "7f245cb8025d3b4cf626dc70b378c55f3e2cd6f0db6e4dca8103659d19134bbf", func := "redundancy/redundancylaw23.FaultApplies", spec := "faultApplies", unfollowed := true, recurses := true, apart := false, narrowed := true }
def FaultAppliesUptoSaid : Prop := faultAppliesUptoRow.holds Tryz.pinned (OpenSpec.upto faultAppliesSpec)

/-- 'redundancylaw23.FaultOnce', WHERE WHAT IT READS IS OF BULK AT MOST 1048576: true; the input reads as it did. -/
def faultOnceUptoRow : OpenClaim := { program := "ytdngefmliibcgaagreat", sum := "7f245cb8025d3b4cf626dc70b378c55f3e2cd6f0db6e4dca8103659d19134bbf", func := "redundancy/redundancylaw23.FaultOnce", spec := "faultOnce", unfollowed := true, recurses := true, apart := false, narrowed := true }
def FaultOnceUptoSaid : Prop := faultOnceUptoRow.holds Tryz.pinned (OpenSpec.upto faultOnceSpec)

/-- 'redundancylaw23.FaultCommutes', WHERE WHAT IT READS IS OF BULK AT MOST 1048576: true; the input reads as it did. -/
def faultCommutesUptoRow : OpenClaim := { program := "ytdngefmliibcgaagreat", sum := "7f245cb8025d3b4cf626dc70b378c55f3e2cd6f0db6e4dca8103659d19134bbf", func := "redundancy/redundancylaw23.FaultCommutes", spec := "faultCommutes", unfollowed := true, recurses := true, apart := false, narrowed := true }
def FaultCommutesUptoSaid : Prop := faultCommutesUptoRow.holds Tryz.pinned (OpenSpec.upto faultCommutesSpec)

/-- 'redundancylaw23.FaultBends', WHERE WHAT IT READS IS OF BULK AT MOST 1048576: true; the input reads as it did. -/
def faultBendsUptoRow : OpenClaim := { program := "ytdngefmliibcgaagreat", sum := "7f245cb8025d3b4cf626dc70b378c55f3e2cd6f0db6e4dca8103659d19134bbf", func := "redundancy/redundancylaw23.FaultBends", spec := "faultBends", unfollowed := true, recurses := true, apart := false, narrowed := true }
def FaultBendsUptoSaid : Prop := faultBendsUptoRow.holds Tryz.pinned (OpenSpec.upto faultBendsSpec)

/-- 'redundancylaw23.FaultLater', WHERE WHAT IT READS IS OF BULK AT MOST 1048576: true; the input reads as it did. -/
def faultLaterUptoRow : OpenClaim := { program := "ytdngefmliibcgaagreat", sum := "7f245cb8025d3b4cf626dc70b378c55f3e2cd6f0db6e4dca8103659d19134bbf", func := "redundancy/redundancylaw23.FaultLater", spec := "faultLater", unfollowed := true, recurses := true, apart := false, narrowed := true }
def FaultLaterUptoSaid : Prop := faultLaterUptoRow.holds Tryz.pinned (OpenSpec.upto faultLaterSpec)

/-- 'redundancylaw23.FaultSpread', WHERE WHAT IT READS IS OF BULK AT MOST 1048576: true; the input reads as it did. -/
def faultSpreadUptoRow : OpenClaim := { program := "ytdngefmliibcgaagreat", sum := "7f245cb8025d3b4cf626dc70b378c55f3e2cd6f0db6e4dca8103659d19134bbf", func := "redundancy/redundancylaw23.FaultSpread", spec := "faultSpread", unfollowed := true, recurses := true, apart := false, narrowed := true }
def FaultSpreadUptoSaid : Prop := faultSpreadUptoRow.holds Tryz.pinned (OpenSpec.upto faultSpreadSpec)

/-- 'redundancylaw23.FaultQuiet', WHERE WHAT IT READS IS OF BULK AT MOST 1048576: true; the input reads as it did. -/
def faultQuietUptoRow : OpenClaim := { program := "ytdngefmliibcgaagreat", sum := "7f245cb8025d3b4cf626dc70b378c55f3e2cd6f0db6e4dca8103659d19134bbf", func := "redundancy/redundancylaw23.FaultQuiet", spec := "faultQuiet", unfollowed := true, recurses := true, apart := false, narrowed := true }
def FaultQuietUptoSaid : Prop := faultQuietUptoRow.holds Tryz.pinned (OpenSpec.upto faultQuietSpec)

/-- 'redundancylaw23.FaultHeals', WHERE WHAT IT READS IS OF BULK AT MOST 1048576: true; the input reads as it did. -/
def faultHealsUptoRow : OpenClaim := { program := "ytdngefmliibcgaagreat", sum := "7f245cb8025d3b4cf626dc70b378c55f3e2cd6f0db6e4dca8103659d19134bbf", func := "redundancy/redundancylaw23.FaultHeals", spec := "faultHeals", unfollowed := true, recurses := true, apart := false, narrowed := true }
def FaultHealsUptoSaid : Prop := faultHealsUptoRow.holds Tryz.pinned (OpenSpec.upto faultHealsSpec)

/-- 'redundancylaw23.FaultRuns', WHERE WHAT IT READS IS OF BULK AT MOST 1048576: true; the input reads as it did. -/
def faultRunsUptoRow : OpenClaim := { program := "ytdngefmliibcgaagreat", sum := "7f245cb8025d3b4cf626dc70b378c55f3e2cd6f0db6e4dca8103659d19134bbf", func := "redundancy/redundancylaw23.FaultRuns", spec := "faultRuns", unfollowed := true, recurses := true, apart := false, narrowed := true }
def FaultRunsUptoSaid : Prop := faultRunsUptoRow.holds Tryz.pinned (OpenSpec.upto faultRunsSpec)

end Rows
end Go.Proofs.YtdngefmliibcgaaGreat
