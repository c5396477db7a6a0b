/-
  No cell of these rows narrows 'for every input' (looked for: loops, veiled, ifaces, maps, wideKeys, modest, calm, conditions, laid).
  DERIVED. THE GIVEN ROWS OF THIS SEAT. 14 by the template 'for every input the law returns true; each argument reads behind the call as it read before'; 0 by the template 'total and deterministic' (their statements: YtejohpnpnaljdaaGreatTotals.lean).
  GIVEN WITH THE SEED: the statements are not yours to turn. If you find one false, say at which input.
  Laid BY PROGRAM, IN A SANDBOX (cutbox-rows.mjs): the forced cells as the released guide's own fill.sh prints them over the translation b4070610bb0d5e2d… (all of the seat's roots in one cut). By AI agents, Wed Nov 11 2026. No macro, syntax, notation, axiom, sorry.
-/
import Derived.Test.YtejohpnpnaljdaaGreatChecked
import GoSem.Claim
import GoSem.ClaimJoined
import GoSem.ClaimMapViews
import Derived.JoinedTies
import Derived.KernelRfl
namespace Go.Proofs.YtejohpnpnaljdaaGreat
/- THE CELL 'sum', in the pinned program and in every row, IS THE sha256 OF THE DUMP (.gsa) THAT YtejohpnpnaljdaaGreatProg.lean LOADS. Nothing in Lean hashes anything: it is a label: what it is worth is what the hold of that sum in a sandbox is worth. -/
noncomputable def Tryz.pinned : Pinned := { name := "ytejohpnpnaljdaagreat", sum := "b4070610bb0d5e2d465946979162d400d3f021d30b8cff3dd456491efd7c5084", checked := Tryz.checked }
namespace Rows
def none {H : Type} : Left H := { results := [], args := [] }

/-- 'redundancylaw11.StepSlices': WHATEVER THE INPUT: true; the input reads as it did. -/
def stepSlicesSpec : ChangeSpec := { name := "stepSlices", fn := fun _ => fun
  | [d1, d2, d3, d4] => { results := [.lit (.bool true)], args := [d1, d2, d3, d4] }
  | _ => none }
def stepSlicesRow : OpenClaim := { program := "ytejohpnpnaljdaagreat", sum := "b4070610bb0d5e2d465946979162d400d3f021d30b8cff3dd456491efd7c5084", func := "redundancy/redundancylaw11.StepSlices", spec := "stepSlices", unfollowed := true, recurses := true, apart := false }
def StepSlicesSaid : Prop := stepSlicesRow.holds Tryz.pinned (OpenSpec.ofChange stepSlicesSpec)

/-- ITS FALSE NEIGHBOUR: 'it returns false'. Refute it at one input. -/
def stepSlicesWrong : ChangeSpec := { name := "stepSlices", fn := fun _ => fun
  | [d1, d2, d3, d4] => { results := [.lit (.bool false)], args := [d1, d2, d3, d4] }
  | _ => none }
def StepSlicesWrongFalsely : Prop := stepSlicesRow.holds Tryz.pinned (OpenSpec.ofChange stepSlicesWrong)

/-- 'redundancylaw11.StepJoins': WHATEVER THE INPUT: true; the input reads as it did. -/
def stepJoinsSpec : ChangeSpec := { name := "stepJoins", fn := fun _ => fun
  | [d1, d2, d3] => { results := [.lit (.bool true)], args := [d1, d2, d3] }
  | _ => none }
def stepJoinsRow : OpenClaim := { program := "ytejohpnpnaljdaagreat", sum := "b4070610bb0d5e2d465946979162d400d3f021d30b8cff3dd456491efd7c5084", func := "redundancy/redundancylaw11.StepJoins", spec := "stepJoins", unfollowed := true, recurses := true, apart := false }
def StepJoinsSaid : Prop := stepJoinsRow.holds Tryz.pinned (OpenSpec.ofChange stepJoinsSpec)

/-- ITS FALSE NEIGHBOUR: 'it returns false'. Refute it at one input. -/
def stepJoinsWrong : ChangeSpec := { name := "stepJoins", fn := fun _ => fun
  | [d1, d2, d3] => { results := [.lit (.bool false)], args := [d1, d2, d3] }
  | _ => none }
def StepJoinsWrongFalsely : Prop := stepJoinsRow.holds Tryz.pinned (OpenSpec.ofChange stepJoinsWrong)

/-- 'redundancylaw11.StepApart': WHATEVER THE INPUT: true; the input reads as it did. -/
def stepApartSpec : ChangeSpec := { name := "stepApart", fn := fun _ => fun
  | [d1, d2] => { results := [.lit (.bool true)], args := [d1, d2] }
  | _ => none }
def stepApartRow : OpenClaim := { program := "ytejohpnpnaljdaagreat", sum := "b4070610bb0d5e2d465946979162d400d3f021d30b8cff3dd456491efd7c5084", func := "redundancy/redundancylaw11.StepApart", spec := "stepApart", unfollowed := true, recurses := true, apart := false }
def StepApartSaid : Prop := stepApartRow.holds Tryz.pinned (OpenSpec.ofChange stepApartSpec)

/-- ITS FALSE NEIGHBOUR: 'it returns false'. Refute it at one input. -/
def stepApartWrong : ChangeSpec := { name := "stepApart", fn := fun _ => fun
  | [d1, d2] => { results := [.lit (.bool false)], args := [d1, d2] }
  | _ => none }
def StepApartWrongFalsely : Prop := stepApartRow.holds Tryz.pinned (OpenSpec.ofChange stepApartWrong)

/-- 'redundancylaw11.StepLayouts': WHATEVER THE INPUT: true; the input reads as it did. -/
def stepLayoutsSpec : ChangeSpec := { name := "stepLayouts", fn := fun _ => fun
  | [d1, d2, d3] => { results := [.lit (.bool true)], args := [d1, d2, d3] }
  | _ => none }
def stepLayoutsRow : OpenClaim := { program := "ytejohpnpnaljdaagreat", sum := "b4070610bb0d5e2d465946979162d400d3f021d30b8cff3dd456491efd7c5084", func := "redundancy/redundancylaw11.StepLayouts", spec := "stepLayouts", unfollowed := true, recurses := true, apart := false }
def StepLayoutsSaid : Prop := stepLayoutsRow.holds Tryz.pinned (OpenSpec.ofChange stepLayoutsSpec)

/-- ITS FALSE NEIGHBOUR: 'it returns false'. Refute it at one input. -/
def stepLayoutsWrong : ChangeSpec := { name := "stepLayouts", fn := fun _ => fun
  | [d1, d2, d3] => { results := [.lit (.bool false)], args := [d1, d2, d3] }
  | _ => none }
def StepLayoutsWrongFalsely : Prop := stepLayoutsRow.holds Tryz.pinned (OpenSpec.ofChange stepLayoutsWrong)

/-- 'redundancylaw11.StepOne': WHATEVER THE INPUT: true; the input reads as it did. -/
def stepOneSpec : ChangeSpec := { name := "stepOne", fn := fun _ => fun
  | [d1, d2, d3] => { results := [.lit (.bool true)], args := [d1, d2, d3] }
  | _ => none }
def stepOneRow : OpenClaim := { program := "ytejohpnpnaljdaagreat", sum := "b4070610bb0d5e2d465946979162d400d3f021d30b8cff3dd456491efd7c5084", func := "redundancy/redundancylaw11.StepOne", spec := "stepOne", unfollowed := true, recurses := true, apart := false }
def StepOneSaid : Prop := stepOneRow.holds Tryz.pinned (OpenSpec.ofChange stepOneSpec)

/-- ITS FALSE NEIGHBOUR: 'it returns false'. Refute it at one input. -/
def stepOneWrong : ChangeSpec := { name := "stepOne", fn := fun _ => fun
  | [d1, d2, d3] => { results := [.lit (.bool false)], args := [d1, d2, d3] }
  | _ => none }
def StepOneWrongFalsely : Prop := stepOneRow.holds Tryz.pinned (OpenSpec.ofChange stepOneWrong)

/-- 'redundancylaw11.StepKinds': WHATEVER THE INPUT: true; the input reads as it did. -/
def stepKindsSpec : ChangeSpec := { name := "stepKinds", fn := fun _ => fun
  | [d1, d2] => { results := [.lit (.bool true)], args := [d1, d2] }
  | _ => none }
def stepKindsRow : OpenClaim := { program := "ytejohpnpnaljdaagreat", sum := "b4070610bb0d5e2d465946979162d400d3f021d30b8cff3dd456491efd7c5084", func := "redundancy/redundancylaw11.StepKinds", spec := "stepKinds", unfollowed := true, recurses := true, apart := false }
def StepKindsSaid : Prop := stepKindsRow.holds Tryz.pinned (OpenSpec.ofChange stepKindsSpec)

/-- ITS FALSE NEIGHBOUR: 'it returns false'. Refute it at one input. -/
def stepKindsWrong : ChangeSpec := { name := "stepKinds", fn := fun _ => fun
  | [d1, d2] => { results := [.lit (.bool false)], args := [d1, d2] }
  | _ => none }
def StepKindsWrongFalsely : Prop := stepKindsRow.holds Tryz.pinned (OpenSpec.ofChange stepKindsWrong)

/-- 'redundancylaw11.StepOnes': WHATEVER THE INPUT: true; the input reads as it did. -/
def stepOnesSpec : ChangeSpec := { name := "stepOnes", fn := fun _ => fun
  | [d1, d2] => { results := [.lit (.bool true)], args := [d1, d2] }
  | _ => none }
def stepOnesRow : OpenClaim := { program := "ytejohpnpnaljdaagreat", sum := "b4070610bb0d5e2d465946979162d400d3f021d30b8cff3dd456491efd7c5084", func := "redundancy/redundancylaw11.StepOnes", spec := "stepOnes", unfollowed := true, recurses := true, apart := false }
def StepOnesSaid : Prop := stepOnesRow.holds Tryz.pinned (OpenSpec.ofChange stepOnesSpec)

/-- ITS FALSE NEIGHBOUR: 'it returns false'. Refute it at one input. -/
def stepOnesWrong : ChangeSpec := { name := "stepOnes", fn := fun _ => fun
  | [d1, d2] => { results := [.lit (.bool false)], args := [d1, d2] }
  | _ => none }
def StepOnesWrongFalsely : Prop := stepOnesRow.holds Tryz.pinned (OpenSpec.ofChange stepOnesWrong)

/-- 'redundancylaw11.StepCounts': WHATEVER THE INPUT: true; the input reads as it did. -/
def stepCountsSpec : ChangeSpec := { name := "stepCounts", fn := fun _ => fun
  | [d] => { results := [.lit (.bool true)], args := [d] }
  | _ => none }
def stepCountsRow : OpenClaim := { program := "ytejohpnpnaljdaagreat", sum := "b4070610bb0d5e2d465946979162d400d3f021d30b8cff3dd456491efd7c5084", func := "redundancy/redundancylaw11.StepCounts", spec := "stepCounts", unfollowed := true, recurses := true, apart := false }
def StepCountsSaid : Prop := stepCountsRow.holds Tryz.pinned (OpenSpec.ofChange stepCountsSpec)

/-- ITS FALSE NEIGHBOUR: 'it returns false'. Refute it at one input. -/
def stepCountsWrong : ChangeSpec := { name := "stepCounts", fn := fun _ => fun
  | [d] => { results := [.lit (.bool false)], args := [d] }
  | _ => none }
def StepCountsWrongFalsely : Prop := stepCountsRow.holds Tryz.pinned (OpenSpec.ofChange stepCountsWrong)

/-- 'redundancylaw11.StepStores': WHATEVER THE INPUT: true; the input reads as it did. -/
def stepStoresSpec : ChangeSpec := { name := "stepStores", fn := fun _ => fun
  | [d1, d2] => { results := [.lit (.bool true)], args := [d1, d2] }
  | _ => none }
def stepStoresRow : OpenClaim := { program := "ytejohpnpnaljdaagreat", sum := "b4070610bb0d5e2d465946979162d400d3f021d30b8cff3dd456491efd7c5084", func := "redundancy/redundancylaw11.StepStores", spec := "stepStores", unfollowed := true, recurses := true, apart := false }
def StepStoresSaid : Prop := stepStoresRow.holds Tryz.pinned (OpenSpec.ofChange stepStoresSpec)

/-- ITS FALSE NEIGHBOUR: 'it returns false'. Refute it at one input. -/
def stepStoresWrong : ChangeSpec := { name := "stepStores", fn := fun _ => fun
  | [d1, d2] => { results := [.lit (.bool false)], args := [d1, d2] }
  | _ => none }
def StepStoresWrongFalsely : Prop := stepStoresRow.holds Tryz.pinned (OpenSpec.ofChange stepStoresWrong)

/-- 'redundancylaw12.RequestTakes': WHATEVER THE INPUT: true; the input reads as it did. -/
def requestTakesSpec : ChangeSpec := { name := "requestTakes", fn := fun _ => fun
  | [d1, d2, d3, d4] => { results := [.lit (.bool true)], args := [d1, d2, d3, d4] }
  | _ => none }
def requestTakesRow : OpenClaim := { program := "ytejohpnpnaljdaagreat", sum := "b4070610bb0d5e2d465946979162d400d3f021d30b8cff3dd456491efd7c5084", func := "redundancy/redundancylaw12.RequestTakes", spec := "requestTakes", unfollowed := true, recurses := true, apart := false }
def RequestTakesSaid : Prop := requestTakesRow.holds Tryz.pinned (OpenSpec.ofChange requestTakesSpec)

/-- ITS FALSE NEIGHBOUR: 'it returns false'. Refute it at one input. -/
def requestTakesWrong : ChangeSpec := { name := "requestTakes", fn := fun _ => fun
  | [d1, d2, d3, d4] => { results := [.lit (.bool false)], args := [d1, d2, d3, d4] }
  | _ => none }
def RequestTakesWrongFalsely : Prop := requestTakesRow.holds Tryz.pinned (OpenSpec.ofChange requestTakesWrong)

/-- 'redundancylaw12.RequestFits': WHATEVER THE INPUT: true; the input reads as it did. -/
def requestFitsSpec : ChangeSpec := { name := "requestFits", fn := fun _ => fun
  | [d] => { results := [.lit (.bool true)], args := [d] }
  | _ => none }
def requestFitsRow : OpenClaim := { program := "ytejohpnpnaljdaagreat", sum := "b4070610bb0d5e2d465946979162d400d3f021d30b8cff3dd456491efd7c5084", func := "redundancy/redundancylaw12.RequestFits", spec := "requestFits", unfollowed := true, recurses := true, apart := false }
def RequestFitsSaid : Prop := requestFitsRow.holds Tryz.pinned (OpenSpec.ofChange requestFitsSpec)

/-- ITS FALSE NEIGHBOUR: 'it returns false'. Refute it at one input. -/
def requestFitsWrong : ChangeSpec := { name := "requestFits", fn := fun _ => fun
  | [d] => { results := [.lit (.bool false)], args := [d] }
  | _ => none }
def RequestFitsWrongFalsely : Prop := requestFitsRow.holds Tryz.pinned (OpenSpec.ofChange requestFitsWrong)

/-- 'redundancylaw12.RequestLayouts': WHATEVER THE INPUT: true; the input reads as it did. -/
def requestLayoutsSpec : ChangeSpec := { name := "requestLayouts", fn := fun _ => fun
  | [d1, d2, d3] => { results := [.lit (.bool true)], args := [d1, d2, d3] }
  | _ => none }
def requestLayoutsRow : OpenClaim := { program := "ytejohpnpnaljdaagreat", sum := "b4070610bb0d5e2d465946979162d400d3f021d30b8cff3dd456491efd7c5084", func := "redundancy/redundancylaw12.RequestLayouts", spec := "requestLayouts", unfollowed := true, recurses := true, apart := false }
def RequestLayoutsSaid : Prop := requestLayoutsRow.holds Tryz.pinned (OpenSpec.ofChange requestLayoutsSpec)

/-- ITS FALSE NEIGHBOUR: 'it returns false'. Refute it at one input. -/
def requestLayoutsWrong : ChangeSpec := { name := "requestLayouts", fn := fun _ => fun
  | [d1, d2, d3] => { results := [.lit (.bool false)], args := [d1, d2, d3] }
  | _ => none }
def RequestLayoutsWrongFalsely : Prop := requestLayoutsRow.holds Tryz.pinned (OpenSpec.ofChange requestLayoutsWrong)

/-- 'redundancylaw12.RequestCalls': WHATEVER THE INPUT: true; the input reads as it did. -/
def requestCallsSpec : ChangeSpec := { name := "requestCalls", fn := fun _ => fun
  | [d] => { results := [.lit (.bool true)], args := [d] }
  | _ => none }
def requestCallsRow : OpenClaim := { program := "ytejohpnpnaljdaagreat", sum := "b4070610bb0d5e2d465946979162d400d3f021d30b8cff3dd456491efd7c5084", func := "redundancy/redundancylaw12.RequestCalls", spec := "requestCalls", unfollowed := true, recurses := true, apart := false }
def RequestCallsSaid : Prop := requestCallsRow.holds Tryz.pinned (OpenSpec.ofChange requestCallsSpec)

/-- ITS FALSE NEIGHBOUR: 'it returns false'. Refute it at one input. -/
def requestCallsWrong : ChangeSpec := { name := "requestCalls", fn := fun _ => fun
  | [d] => { results := [.lit (.bool false)], args := [d] }
  | _ => none }
def RequestCallsWrongFalsely : Prop := requestCallsRow.holds Tryz.pinned (OpenSpec.ofChange requestCallsWrong)

/-- 'redundancylaw12.RequestChecks': WHATEVER THE INPUT: true; the input reads as it did. -/
def requestChecksSpec : ChangeSpec := { name := "requestChecks", fn := fun _ => fun
  | [d1, d2, d3, d4, d5] => { results := [.lit (.bool true)], args := [d1, d2, d3, d4, d5] }
  | _ => none }
def requestChecksRow : OpenClaim := { program := "ytejohpnpnaljdaagreat", sum := "b4070610bb0d5e2d465946979162d400d3f021d30b8cff3dd456491efd7c5084", func := "redundancy/redundancylaw12.RequestChecks", spec := "requestChecks", unfollowed := true, recurses := true, apart := false }
def RequestChecksSaid : Prop := requestChecksRow.holds Tryz.pinned (OpenSpec.ofChange requestChecksSpec)

/-- ITS FALSE NEIGHBOUR: 'it returns false'. Refute it at one input. -/
def requestChecksWrong : ChangeSpec := { name := "requestChecks", fn := fun _ => fun
  | [d1, d2, d3, d4, d5] => { results := [.lit (.bool false)], args := [d1, d2, d3, d4, d5] }
  | _ => none }
def RequestChecksWrongFalsely : Prop := requestChecksRow.holds Tryz.pinned (OpenSpec.ofChange requestChecksWrong)

/- THE SECOND FORM. 'bulk': how many values and letters a reading holds, each counted each time it is reached (what is shared counts as often as it is met; a slice's spare places count too). A statement '..UptoSaid' is the law's where the arguments, and the package variables that the reading takes, are together of bulk at most 1048576: NARROWER than '..Said'. Prove '..Said' where nothing that the law and all that it calls make is longer than what came in: it says more and counts as full. Else prove '..UptoSaid'. A law counts once. -/
mutual
def uptoBulk {H : Type} : DataW H → Nat
  | .lit (.string bytes) => bytes.length + 1
  | .lit _ => 1
  | .nil => 1
  | .ptr d => uptoBulk d + 1
  | .slice elems spare => uptoBulkAll elems + uptoBulkAll spare + 1
  | .agg parts => uptoBulkAll parts + 1
  | .iface _ d => uptoBulk d + 1
  | .map entries => uptoBulkEntries entries + 1
  | .held _ => 1
def uptoBulkAll {H : Type} : List (DataW H) → Nat
  | [] => 0
  | d :: r => uptoBulk d + uptoBulkAll r
def uptoBulkEntries {H : Type} : List (Lit × DataW H) → Nat
  | [] => 0
  | x :: r => uptoBulkEntry x + uptoBulkEntries r
def uptoBulkEntry {H : Type} : Lit × DataW H → Nat
  | (.string bytes, d) => bytes.length + uptoBulk d + 1
  | (_, d) => uptoBulk d + 1
 end
def uptoSmall : (H : Type) → List (DataW H) → Bool := fun _ ds => decide (uptoBulkAll ds ≤ 1048576)
def OpenSpec.upto (s : _root_.Go.ChangeSpec) : _root_.Go.OpenSpec := { _root_.Go.OpenSpec.ofChange s with cond := some uptoSmall }

/-- 'redundancylaw11.StepSlices', WHERE WHAT IT READS IS OF BULK AT MOST 1048576: true; the input reads as it did. -/
def stepSlicesUptoRow : OpenClaim := { program := "ytejohpnpnaljdaagreat", sum := "b4070610bb0d5e2d465946979162d400d3f021d30b8cff3dd456491efd7c5084", func := "redundancy/redundancylaw11.StepSlices", spec := "stepSlices", unfollowed := true, recurses := true, apart := false, narrowed := true }
def StepSlicesUptoSaid : Prop := stepSlicesUptoRow.holds Tryz.pinned (OpenSpec.upto stepSlicesSpec)

/-- 'redundancylaw11.StepJoins', WHERE WHAT IT READS IS OF BULK AT MOST 1048576: true; the input reads as it did. -/
def stepJoinsUptoRow : OpenClaim := { program := "ytejohpnpnaljdaagreat", sum := "b4070610bb0d5e2d465946979162d400d3f021d30b8cff3dd456491efd7c5084", func := "redundancy/redundancylaw11.StepJoins", spec := "stepJoins", unfollowed := true, recurses := true, apart := false, narrowed := true }
def StepJoinsUptoSaid : Prop := stepJoinsUptoRow.holds Tryz.pinned (OpenSpec.upto stepJoinsSpec)

/-- 'redundancylaw11.StepApart', WHERE WHAT IT READS IS OF BULK AT MOST 1048576: true; the input reads as it did. -/
def stepApartUptoRow : OpenClaim := { program := "ytejohpnpnaljdaagreat", sum := "b4070610bb0d5e2d465946979162d400d3f021d30b8cff3dd456491efd7c5084", func := "redundancy/redundancylaw11.StepApart", spec := "stepApart", unfollowed := true, recurses := true, apart := false, narrowed := true }
def StepApartUptoSaid : Prop := stepApartUptoRow.holds Tryz.pinned (OpenSpec.upto stepApartSpec)

/-- 'redundancylaw11.StepLayouts', WHERE WHAT IT READS IS OF BULK AT MOST 1048576: true; the input reads as it did. -/
def stepLayoutsUptoRow : OpenClaim := { program := "ytejohpnpnaljdaagreat", sum := "b4070610bb0d5e2d465946979162d400d3f021d30b8cff3dd456491efd7c5084", func := "redundancy/redundancylaw11.StepLayouts", spec := "stepLayouts", unfollowed := true, recurses := true, apart := false, narrowed := true }
def StepLayoutsUptoSaid : Prop := stepLayoutsUptoRow.holds Tryz.pinned (OpenSpec.upto stepLayoutsSpec)

/-- 'redundancylaw11.StepOne', WHERE WHAT IT READS IS OF BULK AT MOST 1048576: true; the input reads as it did. -/
def stepOneUptoRow : OpenClaim := { program := "ytejohpnpnaljdaagreat", sum := "b4070610bb0d5e2d465946979162d400d3f021d30b8cff3dd456491efd7c5084", func := "redundancy/redundancylaw11.StepOne", spec := "stepOne", unfollowed := true, recurses := true, apart := false, narrowed := true }
def StepOneUptoSaid : Prop := stepOneUptoRow.holds Tryz.pinned (OpenSpec.upto stepOneSpec)

/-- 'redundancylaw11.StepKinds', WHERE WHAT IT READS IS OF BULK AT MOST 1048576: true; the input reads as it did. -/
def stepKindsUptoRow : OpenClaim := { program := "ytejohpnpnaljdaagreat", sum := "b4070610bb0d5e2d465946979162d400d3f021d30b8cff3dd456491efd7c5084", func := "redundancy/redundancylaw11.StepKinds", spec := "stepKinds", unfollowed := true, recurses := true, apart := false, narrowed := true }
def StepKindsUptoSaid : Prop := stepKindsUptoRow.holds Tryz.pinned (OpenSpec.upto stepKindsSpec)

/-- 'redundancylaw11.StepOnes', WHERE WHAT IT READS IS OF BULK AT MOST 1048576: true; the input reads as it did. -/
def stepOnesUptoRow : OpenClaim := { program := "ytejohpnpnaljdaagreat", sum := "b4070610bb0d5e2d465946979162d400d3f021d30b8cff3dd456491efd7c5084", func := "redundancy/redundancylaw11.StepOnes", spec := "stepOnes", unfollowed := true, recurses := true, apart := false, narrowed := true }
def StepOnesUptoSaid : Prop := stepOnesUptoRow.holds Tryz.pinned (OpenSpec.upto stepOnesSpec)

/-- 'redundancylaw11.StepCounts', WHERE WHAT IT READS IS OF BULK AT MOST 1048576: true; the input reads as it did. -/
def stepCountsUptoRow : OpenClaim := { program := "ytejohpnpnaljdaagreat", sum := "b4070610bb0d5e2d465946979162d400d3f021d30b8cff3dd456491efd7c5084", func := "redundancy/redundancylaw11.StepCounts", spec := "stepCounts", unfollowed := true, recurses := true, apart := false, narrowed := true }
def StepCountsUptoSaid : Prop := stepCountsUptoRow.holds Tryz.pinned (OpenSpec.upto stepCountsSpec)

/-- 'redundancylaw11.StepStores', WHERE WHAT IT READS IS OF BULK AT MOST 1048576: true; the input reads as it did. -/
def stepStoresUptoRow : OpenClaim := { program := "ytejohpnpnaljdaagreat", sum := "b4070610bb0d5e2d465946979162d400d3f021d30b8cff3dd456491efd7c5084", func := "redundancy/redundancylaw11.StepStores", spec := "stepStores", unfollowed := true, recurses := true, apart := false, narrowed := true }
def StepStoresUptoSaid : Prop := stepStoresUptoRow.holds Tryz.pinned (OpenSpec.upto stepStoresSpec)

/-- 'redundancylaw12.RequestTakes', WHERE WHAT IT READS IS OF BULK AT MOST 1048576: true; the input reads as it did. -/
def requestTakesUptoRow : OpenClaim := { program := "ytejohpnpnaljdaagreat", sum := "b4070610bb0d5e2d465946979162d400d3f021d30b8cff3dd456491efd7c5084", func := "redundancy/redundancylaw12.RequestTakes", spec := "requestTakes", unfollowed := true, recurses := true, apart := false, narrowed := true }
def RequestTakesUptoSaid : Prop := requestTakesUptoRow.holds Tryz.pinned (OpenSpec.upto requestTakesSpec)

/-- 'redundancylaw12.RequestFits', WHERE WHAT IT READS IS OF BULK AT MOST 1048576: true; the input reads as it did. -/
def requestFitsUptoRow : OpenClaim := { program := "ytejohpnpnaljdaagreat", sum := "b4070610bb0d5e2d465946979162d400d3f021d30b8cff3dd456491efd7c5084", func := "redundancy/redundancylaw12.RequestFits", spec := "requestFits", unfollowed := true, recurses := true, apart := false, narrowed := true }
def RequestFitsUptoSaid : Prop := requestFitsUptoRow.holds Tryz.pinned (OpenSpec.upto requestFitsSpec)

/-- 'redundancylaw12.RequestLayouts', WHERE WHAT IT READS IS OF BULK AT MOST 1048576: true; the input reads as it did. -/
def requestLayoutsUptoRow : OpenClaim := { program := "ytejohpnpnaljdaagreat", sum := "b4070610bb0d5e2d465946979162d400d3f021d30b8cff3dd456491efd7c5084", func := "redundancy/redundancylaw12.RequestLayouts", spec := "requestLayouts", unfollowed := true, recurses := true, apart := false, narrowed := true }
def RequestLayoutsUptoSaid : Prop := requestLayoutsUptoRow.holds Tryz.pinned (OpenSpec.upto requestLayoutsSpec)

/-- 'redundancylaw12.RequestCalls', WHERE WHAT IT READS IS OF BULK AT MOST 1048576: true; the input reads as it did. -/
def requestCallsUptoRow : OpenClaim := { program := "ytejohpnpnaljdaagreat", sum := "b4070610bb0d5e2d465946979162d400d3f021d30b8cff3dd456491efd7c5084", func := "redundancy/redundancylaw12.RequestCalls", spec := "requestCalls", unfollowed := true, recurses := true, apart := false, narrowed := true }
def RequestCallsUptoSaid : Prop := requestCallsUptoRow.holds Tryz.pinned (OpenSpec.upto requestCallsSpec)

/-- 'redundancylaw12.RequestChecks', WHERE WHAT IT READS IS OF BULK AT MOST 1048576: true; the input reads as it did. -/
def requestChecksUptoRow : OpenClaim := { program := "ytejohpnpnaljdaagreat", sum := "b4070610bb0d5e2d465946979162d400d3f021d30b8cff3dd456491efd7c5084", func := "redundancy/redundancylaw12.RequestChecks", spec := "requestChecks", unfollowed := true, recurses := true, apart := false, narrowed := true }
def RequestChecksUptoSaid : Prop := requestChecksUptoRow.holds Tryz.pinned (OpenSpec.upto requestChecksSpec)

end Rows
end Go.Proofs.YtejohpnpnaljdaaGreat
