/-
  No cell of these rows narrows 'for every input' (looked for: loops, veiled, ifaces, maps, wideKeys, modest, calm, conditions, laid).
  DERIVED. THE GIVEN ROWS OF THIS SEAT. 18 by the template 'for every input the law returns true; each argument reads behind the call as it read before'; 0 by the template 'total and deterministic' (their statements: YtkjbepikhdejjaaTotals.lean).
  GIVEN WITH THE SEED: the statements are not yours to turn. If you find one false, say at which input.
  Laid BY PROGRAM, IN A SANDBOX (cutbox-rows.mjs): the forced cells as the released guide's own fill.sh prints them over the translation e71b907dcecaaeee… (all of the seat's roots in one cut). By AI agents, Wed Nov 11 2026. No macro, syntax, notation, axiom, sorry.
-/
import Derived.Test.YtkjbepikhdejjaaChecked
import GoSem.Claim
import GoSem.ClaimJoined
import GoSem.ClaimMapViews
import Derived.JoinedTies
import Derived.KernelRfl
namespace Go.Proofs.Ytkjbepikhdejjaa
/- THE CELL 'sum', in the pinned program and in every row, IS THE sha256 OF THE DUMP (.gsa) THAT YtkjbepikhdejjaaProg.lean LOADS. Nothing in Lean hashes anything: it is a label: what it is worth is what the hold of that sum in a sandbox is worth. -/
noncomputable def Try.pinned : Pinned := { name := "ytkjbepikhdejjaa", sum := "e71b907dcecaaeee1a8b81f2930309ccb4d5c1bf7e3a19f986aa35c02104922d", checked := Try.checked }
namespace Rows
def none {H : Type} : Left H := { results := [], args := [] }

/-- 'substationlaw06.TopologyFeeds': WHATEVER THE INPUT: true; the input reads as it did. -/
def topologyFeedsSpec : ChangeSpec := { name := "topologyFeeds", fn := fun _ => fun
  | [d1, d2, d3] => { results := [.lit (.bool true)], args := [d1, d2, d3] }
  | _ => none }
def topologyFeedsRow : OpenClaim := { program := "ytkjbepikhdejjaa", sum := "e71b907dcecaaeee1a8b81f2930309ccb4d5c1bf7e3a19f986aa35c02104922d", func := "substation/substationlaw06.TopologyFeeds", spec := "topologyFeeds", unfollowed := true, recurses := true, plainKeys := false, apart := false }
def TopologyFeedsSaid : Prop := topologyFeedsRow.holds Try.pinned (OpenSpec.ofChange topologyFeedsSpec)

/-- ITS FALSE NEIGHBOUR: 'it returns false'. Refute it at one input. -/
def topologyFeedsWrong : ChangeSpec := { name := "topologyFeeds", fn := fun _ => fun
  | [d1, d2, d3] => { results := [.lit (.bool false)], args := [d1, d2, d3] }
  | _ => none }
def TopologyFeedsWrongFalsely : Prop := topologyFeedsRow.holds Try.pinned (OpenSpec.ofChange topologyFeedsWrong)

/-- 'substationlaw06.TopologyUnion': WHATEVER THE INPUT: true; the input reads as it did. -/
def topologyUnionSpec : ChangeSpec := { name := "topologyUnion", fn := fun _ => fun
  | [d1, d2, d3] => { results := [.lit (.bool true)], args := [d1, d2, d3] }
  | _ => none }
def topologyUnionRow : OpenClaim := { program := "ytkjbepikhdejjaa", sum := "e71b907dcecaaeee1a8b81f2930309ccb4d5c1bf7e3a19f986aa35c02104922d", func := "substation/substationlaw06.TopologyUnion", spec := "topologyUnion", unfollowed := true, recurses := true, plainKeys := false, apart := false }
def TopologyUnionSaid : Prop := topologyUnionRow.holds Try.pinned (OpenSpec.ofChange topologyUnionSpec)

/-- ITS FALSE NEIGHBOUR: 'it returns false'. Refute it at one input. -/
def topologyUnionWrong : ChangeSpec := { name := "topologyUnion", fn := fun _ => fun
  | [d1, d2, d3] => { results := [.lit (.bool false)], args := [d1, d2, d3] }
  | _ => none }
def TopologyUnionWrongFalsely : Prop := topologyUnionRow.holds Try.pinned (OpenSpec.ofChange topologyUnionWrong)

/-- 'substationlaw32.BreakerfailureExamples': WHATEVER THE INPUT: true; the input reads as it did. -/
def breakerfailureExamplesSpec : ChangeSpec := { name := "breakerfailureExamples", fn := fun _ => fun
  | [] => { results := [.lit (.bool true)], args := [] }
  | _ => none }
def breakerfailureExamplesRow : OpenClaim := { program := "ytkjbepikhdejjaa", sum := "e71b907dcecaaeee1a8b81f2930309ccb4d5c1bf7e3a19f986aa35c02104922d", func := "substation/substationlaw32.BreakerfailureExamples", spec := "breakerfailureExamples", unfollowed := true, recurses := true, plainKeys := false, apart := false }
def BreakerfailureExamplesSaid : Prop := breakerfailureExamplesRow.holds Try.pinned (OpenSpec.ofChange breakerfailureExamplesSpec)

/-- ITS FALSE NEIGHBOUR: 'it returns false'. Refute it at one input. -/
def breakerfailureExamplesWrong : ChangeSpec := { name := "breakerfailureExamples", fn := fun _ => fun
  | [] => { results := [.lit (.bool false)], args := [] }
  | _ => none }
def BreakerfailureExamplesWrongFalsely : Prop := breakerfailureExamplesRow.holds Try.pinned (OpenSpec.ofChange breakerfailureExamplesWrong)

/-- 'substationlaw32.BreakerfailureTargets': WHATEVER THE INPUT: true; the input reads as it did. -/
def breakerfailureTargetsSpec : ChangeSpec := { name := "breakerfailureTargets", fn := fun _ => fun
  | [d1, d2, d3] => { results := [.lit (.bool true)], args := [d1, d2, d3] }
  | _ => none }
def breakerfailureTargetsRow : OpenClaim := { program := "ytkjbepikhdejjaa", sum := "e71b907dcecaaeee1a8b81f2930309ccb4d5c1bf7e3a19f986aa35c02104922d", func := "substation/substationlaw32.BreakerfailureTargets", spec := "breakerfailureTargets", unfollowed := true, recurses := true, plainKeys := false, apart := false }
def BreakerfailureTargetsSaid : Prop := breakerfailureTargetsRow.holds Try.pinned (OpenSpec.ofChange breakerfailureTargetsSpec)

/-- ITS FALSE NEIGHBOUR: 'it returns false'. Refute it at one input. -/
def breakerfailureTargetsWrong : ChangeSpec := { name := "breakerfailureTargets", fn := fun _ => fun
  | [d1, d2, d3] => { results := [.lit (.bool false)], args := [d1, d2, d3] }
  | _ => none }
def BreakerfailureTargetsWrongFalsely : Prop := breakerfailureTargetsRow.holds Try.pinned (OpenSpec.ofChange breakerfailureTargetsWrong)

/-- 'substationlaw32.BreakerfailureUnion': WHATEVER THE INPUT: true; the input reads as it did. -/
def breakerfailureUnionSpec : ChangeSpec := { name := "breakerfailureUnion", fn := fun _ => fun
  | [d1, d2, d3] => { results := [.lit (.bool true)], args := [d1, d2, d3] }
  | _ => none }
def breakerfailureUnionRow : OpenClaim := { program := "ytkjbepikhdejjaa", sum := "e71b907dcecaaeee1a8b81f2930309ccb4d5c1bf7e3a19f986aa35c02104922d", func := "substation/substationlaw32.BreakerfailureUnion", spec := "breakerfailureUnion", unfollowed := true, recurses := true, plainKeys := false, apart := false }
def BreakerfailureUnionSaid : Prop := breakerfailureUnionRow.holds Try.pinned (OpenSpec.ofChange breakerfailureUnionSpec)

/-- ITS FALSE NEIGHBOUR: 'it returns false'. Refute it at one input. -/
def breakerfailureUnionWrong : ChangeSpec := { name := "breakerfailureUnion", fn := fun _ => fun
  | [d1, d2, d3] => { results := [.lit (.bool false)], args := [d1, d2, d3] }
  | _ => none }
def BreakerfailureUnionWrongFalsely : Prop := breakerfailureUnionRow.holds Try.pinned (OpenSpec.ofChange breakerfailureUnionWrong)

/-- 'substationlaw06.TopologyLife': WHATEVER THE INPUT: true; the input reads as it did. -/
def topologyLifeSpec : ChangeSpec := { name := "topologyLife", fn := fun _ => fun
  | [d1, d2] => { results := [.lit (.bool true)], args := [d1, d2] }
  | _ => none }
def topologyLifeRow : OpenClaim := { program := "ytkjbepikhdejjaa", sum := "e71b907dcecaaeee1a8b81f2930309ccb4d5c1bf7e3a19f986aa35c02104922d", func := "substation/substationlaw06.TopologyLife", spec := "topologyLife", unfollowed := true, recurses := true, plainKeys := false, apart := false }
def TopologyLifeSaid : Prop := topologyLifeRow.holds Try.pinned (OpenSpec.ofChange topologyLifeSpec)

/-- ITS FALSE NEIGHBOUR: 'it returns false'. Refute it at one input. -/
def topologyLifeWrong : ChangeSpec := { name := "topologyLife", fn := fun _ => fun
  | [d1, d2] => { results := [.lit (.bool false)], args := [d1, d2] }
  | _ => none }
def TopologyLifeWrongFalsely : Prop := topologyLifeRow.holds Try.pinned (OpenSpec.ofChange topologyLifeWrong)

/-- 'substationlaw06.TopologyBoundaries': WHATEVER THE INPUT: true; the input reads as it did. -/
def topologyBoundariesSpec : ChangeSpec := { name := "topologyBoundaries", fn := fun _ => fun
  | [d1, d2, d3] => { results := [.lit (.bool true)], args := [d1, d2, d3] }
  | _ => none }
def topologyBoundariesRow : OpenClaim := { program := "ytkjbepikhdejjaa", sum := "e71b907dcecaaeee1a8b81f2930309ccb4d5c1bf7e3a19f986aa35c02104922d", func := "substation/substationlaw06.TopologyBoundaries", spec := "topologyBoundaries", unfollowed := true, recurses := true, plainKeys := false, apart := false }
def TopologyBoundariesSaid : Prop := topologyBoundariesRow.holds Try.pinned (OpenSpec.ofChange topologyBoundariesSpec)

/-- ITS FALSE NEIGHBOUR: 'it returns false'. Refute it at one input. -/
def topologyBoundariesWrong : ChangeSpec := { name := "topologyBoundaries", fn := fun _ => fun
  | [d1, d2, d3] => { results := [.lit (.bool false)], args := [d1, d2, d3] }
  | _ => none }
def TopologyBoundariesWrongFalsely : Prop := topologyBoundariesRow.holds Try.pinned (OpenSpec.ofChange topologyBoundariesWrong)

/-- 'substationlaw06.TopologyNeighbours': WHATEVER THE INPUT: true; the input reads as it did. -/
def topologyNeighboursSpec : ChangeSpec := { name := "topologyNeighbours", fn := fun _ => fun
  | [d1, d2] => { results := [.lit (.bool true)], args := [d1, d2] }
  | _ => none }
def topologyNeighboursRow : OpenClaim := { program := "ytkjbepikhdejjaa", sum := "e71b907dcecaaeee1a8b81f2930309ccb4d5c1bf7e3a19f986aa35c02104922d", func := "substation/substationlaw06.TopologyNeighbours", spec := "topologyNeighbours", unfollowed := true, recurses := true, plainKeys := false, apart := false }
def TopologyNeighboursSaid : Prop := topologyNeighboursRow.holds Try.pinned (OpenSpec.ofChange topologyNeighboursSpec)

/-- ITS FALSE NEIGHBOUR: 'it returns false'. Refute it at one input. -/
def topologyNeighboursWrong : ChangeSpec := { name := "topologyNeighbours", fn := fun _ => fun
  | [d1, d2] => { results := [.lit (.bool false)], args := [d1, d2] }
  | _ => none }
def TopologyNeighboursWrongFalsely : Prop := topologyNeighboursRow.holds Try.pinned (OpenSpec.ofChange topologyNeighboursWrong)

/-- 'substationlaw06.TopologyMoving': WHATEVER THE INPUT: true; the input reads as it did. -/
def topologyMovingSpec : ChangeSpec := { name := "topologyMoving", fn := fun _ => fun
  | [d1, d2] => { results := [.lit (.bool true)], args := [d1, d2] }
  | _ => none }
def topologyMovingRow : OpenClaim := { program := "ytkjbepikhdejjaa", sum := "e71b907dcecaaeee1a8b81f2930309ccb4d5c1bf7e3a19f986aa35c02104922d", func := "substation/substationlaw06.TopologyMoving", spec := "topologyMoving", unfollowed := true, recurses := true, plainKeys := false, apart := false }
def TopologyMovingSaid : Prop := topologyMovingRow.holds Try.pinned (OpenSpec.ofChange topologyMovingSpec)

/-- ITS FALSE NEIGHBOUR: 'it returns false'. Refute it at one input. -/
def topologyMovingWrong : ChangeSpec := { name := "topologyMoving", fn := fun _ => fun
  | [d1, d2] => { results := [.lit (.bool false)], args := [d1, d2] }
  | _ => none }
def TopologyMovingWrongFalsely : Prop := topologyMovingRow.holds Try.pinned (OpenSpec.ofChange topologyMovingWrong)

/-- 'substationlaw06.TopologyZones': WHATEVER THE INPUT: true; the input reads as it did. -/
def topologyZonesSpec : ChangeSpec := { name := "topologyZones", fn := fun _ => fun
  | [d1, d2, d3] => { results := [.lit (.bool true)], args := [d1, d2, d3] }
  | _ => none }
def topologyZonesRow : OpenClaim := { program := "ytkjbepikhdejjaa", sum := "e71b907dcecaaeee1a8b81f2930309ccb4d5c1bf7e3a19f986aa35c02104922d", func := "substation/substationlaw06.TopologyZones", spec := "topologyZones", unfollowed := true, recurses := true, plainKeys := false, apart := false }
def TopologyZonesSaid : Prop := topologyZonesRow.holds Try.pinned (OpenSpec.ofChange topologyZonesSpec)

/-- ITS FALSE NEIGHBOUR: 'it returns false'. Refute it at one input. -/
def topologyZonesWrong : ChangeSpec := { name := "topologyZones", fn := fun _ => fun
  | [d1, d2, d3] => { results := [.lit (.bool false)], args := [d1, d2, d3] }
  | _ => none }
def TopologyZonesWrongFalsely : Prop := topologyZonesRow.holds Try.pinned (OpenSpec.ofChange topologyZonesWrong)

/-- 'substationlaw33.BusimageSections': WHATEVER THE INPUT: true; the input reads as it did. -/
def busimageSectionsSpec : ChangeSpec := { name := "busimageSections", fn := fun _ => fun
  | [d1, d2] => { results := [.lit (.bool true)], args := [d1, d2] }
  | _ => none }
def busimageSectionsRow : OpenClaim := { program := "ytkjbepikhdejjaa", sum := "e71b907dcecaaeee1a8b81f2930309ccb4d5c1bf7e3a19f986aa35c02104922d", func := "substation/substationlaw33.BusimageSections", spec := "busimageSections", unfollowed := true, recurses := true, plainKeys := false, apart := false }
def BusimageSectionsSaid : Prop := busimageSectionsRow.holds Try.pinned (OpenSpec.ofChange busimageSectionsSpec)

/-- ITS FALSE NEIGHBOUR: 'it returns false'. Refute it at one input. -/
def busimageSectionsWrong : ChangeSpec := { name := "busimageSections", fn := fun _ => fun
  | [d1, d2] => { results := [.lit (.bool false)], args := [d1, d2] }
  | _ => none }
def BusimageSectionsWrongFalsely : Prop := busimageSectionsRow.holds Try.pinned (OpenSpec.ofChange busimageSectionsWrong)

/-- 'substationlaw33.BusimagePartition': WHATEVER THE INPUT: true; the input reads as it did. -/
def busimagePartitionSpec : ChangeSpec := { name := "busimagePartition", fn := fun _ => fun
  | [d1, d2, d3] => { results := [.lit (.bool true)], args := [d1, d2, d3] }
  | _ => none }
def busimagePartitionRow : OpenClaim := { program := "ytkjbepikhdejjaa", sum := "e71b907dcecaaeee1a8b81f2930309ccb4d5c1bf7e3a19f986aa35c02104922d", func := "substation/substationlaw33.BusimagePartition", spec := "busimagePartition", unfollowed := true, recurses := true, plainKeys := false, apart := false }
def BusimagePartitionSaid : Prop := busimagePartitionRow.holds Try.pinned (OpenSpec.ofChange busimagePartitionSpec)

/-- ITS FALSE NEIGHBOUR: 'it returns false'. Refute it at one input. -/
def busimagePartitionWrong : ChangeSpec := { name := "busimagePartition", fn := fun _ => fun
  | [d1, d2, d3] => { results := [.lit (.bool false)], args := [d1, d2, d3] }
  | _ => none }
def BusimagePartitionWrongFalsely : Prop := busimagePartitionRow.holds Try.pinned (OpenSpec.ofChange busimagePartitionWrong)

/-- 'substationlaw06.TopologyOpens': WHATEVER THE INPUT: true; the input reads as it did. -/
def topologyOpensSpec : ChangeSpec := { name := "topologyOpens", fn := fun _ => fun
  | [d1, d2, d3] => { results := [.lit (.bool true)], args := [d1, d2, d3] }
  | _ => none }
def topologyOpensRow : OpenClaim := { program := "ytkjbepikhdejjaa", sum := "e71b907dcecaaeee1a8b81f2930309ccb4d5c1bf7e3a19f986aa35c02104922d", func := "substation/substationlaw06.TopologyOpens", spec := "topologyOpens", unfollowed := true, recurses := true, plainKeys := false, apart := false }
def TopologyOpensSaid : Prop := topologyOpensRow.holds Try.pinned (OpenSpec.ofChange topologyOpensSpec)

/-- ITS FALSE NEIGHBOUR: 'it returns false'. Refute it at one input. -/
def topologyOpensWrong : ChangeSpec := { name := "topologyOpens", fn := fun _ => fun
  | [d1, d2, d3] => { results := [.lit (.bool false)], args := [d1, d2, d3] }
  | _ => none }
def TopologyOpensWrongFalsely : Prop := topologyOpensRow.holds Try.pinned (OpenSpec.ofChange topologyOpensWrong)

/-- 'substationlaw33.BusimageBalance': WHATEVER THE INPUT: true; the input reads as it did. -/
def busimageBalanceSpec : ChangeSpec := { name := "busimageBalance", fn := fun _ => fun
  | [d1, d2, d3] => { results := [.lit (.bool true)], args := [d1, d2, d3] }
  | _ => none }
def busimageBalanceRow : OpenClaim := { program := "ytkjbepikhdejjaa", sum := "e71b907dcecaaeee1a8b81f2930309ccb4d5c1bf7e3a19f986aa35c02104922d", func := "substation/substationlaw33.BusimageBalance", spec := "busimageBalance", unfollowed := true, recurses := true, plainKeys := false, apart := false }
def BusimageBalanceSaid : Prop := busimageBalanceRow.holds Try.pinned (OpenSpec.ofChange busimageBalanceSpec)

/-- ITS FALSE NEIGHBOUR: 'it returns false'. Refute it at one input. -/
def busimageBalanceWrong : ChangeSpec := { name := "busimageBalance", fn := fun _ => fun
  | [d1, d2, d3] => { results := [.lit (.bool false)], args := [d1, d2, d3] }
  | _ => none }
def BusimageBalanceWrongFalsely : Prop := busimageBalanceRow.holds Try.pinned (OpenSpec.ofChange busimageBalanceWrong)

/-- 'substationlaw33.BusimageExamples': WHATEVER THE INPUT: true; the input reads as it did. -/
def busimageExamplesSpec : ChangeSpec := { name := "busimageExamples", fn := fun _ => fun
  | [] => { results := [.lit (.bool true)], args := [] }
  | _ => none }
def busimageExamplesRow : OpenClaim := { program := "ytkjbepikhdejjaa", sum := "e71b907dcecaaeee1a8b81f2930309ccb4d5c1bf7e3a19f986aa35c02104922d", func := "substation/substationlaw33.BusimageExamples", spec := "busimageExamples", unfollowed := true, recurses := true, plainKeys := false, apart := false }
def BusimageExamplesSaid : Prop := busimageExamplesRow.holds Try.pinned (OpenSpec.ofChange busimageExamplesSpec)

/-- ITS FALSE NEIGHBOUR: 'it returns false'. Refute it at one input. -/
def busimageExamplesWrong : ChangeSpec := { name := "busimageExamples", fn := fun _ => fun
  | [] => { results := [.lit (.bool false)], args := [] }
  | _ => none }
def BusimageExamplesWrongFalsely : Prop := busimageExamplesRow.holds Try.pinned (OpenSpec.ofChange busimageExamplesWrong)

/-- 'substationlaw36.InterlockNoLoad': WHATEVER THE INPUT: true; the input reads as it did. -/
def interlockNoLoadSpec : ChangeSpec := { name := "interlockNoLoad", fn := fun _ => fun
  | [d1, d2, d3] => { results := [.lit (.bool true)], args := [d1, d2, d3] }
  | _ => none }
def interlockNoLoadRow : OpenClaim := { program := "ytkjbepikhdejjaa", sum := "e71b907dcecaaeee1a8b81f2930309ccb4d5c1bf7e3a19f986aa35c02104922d", func := "substation/substationlaw36.InterlockNoLoad", spec := "interlockNoLoad", unfollowed := true, recurses := true, plainKeys := false, apart := false }
def InterlockNoLoadSaid : Prop := interlockNoLoadRow.holds Try.pinned (OpenSpec.ofChange interlockNoLoadSpec)

/-- ITS FALSE NEIGHBOUR: 'it returns false'. Refute it at one input. -/
def interlockNoLoadWrong : ChangeSpec := { name := "interlockNoLoad", fn := fun _ => fun
  | [d1, d2, d3] => { results := [.lit (.bool false)], args := [d1, d2, d3] }
  | _ => none }
def InterlockNoLoadWrongFalsely : Prop := interlockNoLoadRow.holds Try.pinned (OpenSpec.ofChange interlockNoLoadWrong)

/-- 'substationlaw36.InterlockUndo': WHATEVER THE INPUT: true; the input reads as it did. -/
def interlockUndoSpec : ChangeSpec := { name := "interlockUndo", fn := fun _ => fun
  | [d1, d2, d3] => { results := [.lit (.bool true)], args := [d1, d2, d3] }
  | _ => none }
def interlockUndoRow : OpenClaim := { program := "ytkjbepikhdejjaa", sum := "e71b907dcecaaeee1a8b81f2930309ccb4d5c1bf7e3a19f986aa35c02104922d", func := "substation/substationlaw36.InterlockUndo", spec := "interlockUndo", unfollowed := true, recurses := true, plainKeys := false, apart := false }
def InterlockUndoSaid : Prop := interlockUndoRow.holds Try.pinned (OpenSpec.ofChange interlockUndoSpec)

/-- ITS FALSE NEIGHBOUR: 'it returns false'. Refute it at one input. -/
def interlockUndoWrong : ChangeSpec := { name := "interlockUndo", fn := fun _ => fun
  | [d1, d2, d3] => { results := [.lit (.bool false)], args := [d1, d2, d3] }
  | _ => none }
def InterlockUndoWrongFalsely : Prop := interlockUndoRow.holds Try.pinned (OpenSpec.ofChange interlockUndoWrong)

/-- 'substationlaw36.InterlockExamples': WHATEVER THE INPUT: true; the input reads as it did. -/
def interlockExamplesSpec : ChangeSpec := { name := "interlockExamples", fn := fun _ => fun
  | [] => { results := [.lit (.bool true)], args := [] }
  | _ => none }
def interlockExamplesRow : OpenClaim := { program := "ytkjbepikhdejjaa", sum := "e71b907dcecaaeee1a8b81f2930309ccb4d5c1bf7e3a19f986aa35c02104922d", func := "substation/substationlaw36.InterlockExamples", spec := "interlockExamples", unfollowed := true, recurses := true, plainKeys := false, apart := false }
def InterlockExamplesSaid : Prop := interlockExamplesRow.holds Try.pinned (OpenSpec.ofChange interlockExamplesSpec)

/-- ITS FALSE NEIGHBOUR: 'it returns false'. Refute it at one input. -/
def interlockExamplesWrong : ChangeSpec := { name := "interlockExamples", fn := fun _ => fun
  | [] => { results := [.lit (.bool false)], args := [] }
  | _ => none }
def InterlockExamplesWrongFalsely : Prop := interlockExamplesRow.holds Try.pinned (OpenSpec.ofChange interlockExamplesWrong)

/- THE SECOND FORM. 'bulk': how many values and letters a reading holds, each counted each time it is reached (what is shared counts as often as it is met; a slice's spare places count too). A statement '..UptoSaid' is the law's where the arguments, and the package variables that the reading takes, are together of bulk at most 1048576: NARROWER than '..Said'. Prove '..Said' where nothing that the law and all that it calls make is longer than what came in: it says more and counts as full. Else prove '..UptoSaid'. A law counts once. -/
mutual
def uptoBulk {H : Type} : DataW H → Nat
  | .lit (.string bytes) => bytes.length + 1
  | .lit _ => 1
  | .nil => 1
  | .ptr d => uptoBulk d + 1
  | .slice elems spare => uptoBulkAll elems + uptoBulkAll spare + 1
  | .agg parts => uptoBulkAll parts + 1
  | .iface _ d => uptoBulk d + 1
  | .map entries => uptoBulkEntries entries + 1
  | .held _ => 1
def uptoBulkAll {H : Type} : List (DataW H) → Nat
  | [] => 0
  | d :: r => uptoBulk d + uptoBulkAll r
def uptoBulkEntries {H : Type} : List (Lit × DataW H) → Nat
  | [] => 0
  | x :: r => uptoBulkEntry x + uptoBulkEntries r
def uptoBulkEntry {H : Type} : Lit × DataW H → Nat
  | (.string bytes, d) => bytes.length + uptoBulk d + 1
  | (_, d) => uptoBulk d + 1
 end
def uptoSmall : (H : Type) → List (DataW H) → Bool := fun _ ds => decide (uptoBulkAll ds ≤ 1048576)
def OpenSpec.upto (s : _root_.Go.ChangeSpec) : _root_.Go.OpenSpec := { _root_.Go.OpenSpec.ofChange s with cond := some uptoSmall }

/-- 'substationlaw06.TopologyFeeds', WHERE WHAT IT READS IS OF BULK AT MOST 1048576: true; the input reads as it did. -/
def topologyFeedsUptoRow : OpenClaim := { program := "ytkjbepikhdejjaa", sum := "e71b907dcecaaeee1a8b81f2930309ccb4d5c1bf7e3a19f986aa35c02104922d", func := "substation/substationlaw06.TopologyFeeds", spec := "topologyFeeds", unfollowed := true, recurses := true, plainKeys := false, apart := false, narrowed := true }
def TopologyFeedsUptoSaid : Prop := topologyFeedsUptoRow.holds Try.pinned (OpenSpec.upto topologyFeedsSpec)

/-- 'substationlaw06.TopologyUnion', WHERE WHAT IT READS IS OF BULK AT MOST 1048576: true; the input reads as it did. -/
def topologyUnionUptoRow : OpenClaim := { program := "ytkjbepikhdejjaa", sum := "e71b907dcecaaeee1a8b81f2930309ccb4d5c1bf7e3a19f986aa35c02104922d", func := "substation/substationlaw06.TopologyUnion", spec := "topologyUnion", unfollowed := true, recurses := true, plainKeys := false, apart := false, narrowed := true }
def TopologyUnionUptoSaid : Prop := topologyUnionUptoRow.holds Try.pinned (OpenSpec.upto topologyUnionSpec)

/-- 'substationlaw32.BreakerfailureExamples', WHERE WHAT IT READS IS OF BULK AT MOST 1048576: true; the input reads as it did. -/
def breakerfailureExamplesUptoRow : OpenClaim := { program := "ytkjbepikhdejjaa", sum := "e71b907dcecaaeee1a8b81f2930309ccb4d5c1bf7e3a19f986aa35c02104922d", func := "substation/substationlaw32.BreakerfailureExamples", spec := "breakerfailureExamples", unfollowed := true, recurses := true, plainKeys := false, apart := false, narrowed := true }
def BreakerfailureExamplesUptoSaid : Prop := breakerfailureExamplesUptoRow.holds Try.pinned (OpenSpec.upto breakerfailureExamplesSpec)

/-- 'substationlaw32.BreakerfailureTargets', WHERE WHAT IT READS IS OF BULK AT MOST 1048576: true; the input reads as it did. -/
def breakerfailureTargetsUptoRow : OpenClaim := { program := "ytkjbepikhdejjaa", sum := "e71b907dcecaaeee1a8b81f2930309ccb4d5c1bf7e3a19f986aa35c02104922d", func := "substation/substationlaw32.BreakerfailureTargets", spec := "breakerfailureTargets", unfollowed := true, recurses := true, plainKeys := false, apart := false, narrowed := true }
def BreakerfailureTargetsUptoSaid : Prop := breakerfailureTargetsUptoRow.holds Try.pinned (OpenSpec.upto breakerfailureTargetsSpec)

/-- 'substationlaw32.BreakerfailureUnion', WHERE WHAT IT READS IS OF BULK AT MOST 1048576: true; the input reads as it did. -/
def breakerfailureUnionUptoRow : OpenClaim := { program := "ytkjbepikhdejjaa", sum := "e71b907dcecaaeee1a8b81f2930309ccb4d5c1bf7e3a19f986aa35c02104922d", func := "substation/substationlaw32.BreakerfailureUnion", spec := "breakerfailureUnion", unfollowed := true, recurses := true, plainKeys := false, apart := false, narrowed := true }
def BreakerfailureUnionUptoSaid : Prop := breakerfailureUnionUptoRow.holds Try.pinned (OpenSpec.upto breakerfailureUnionSpec)

/-- 'substationlaw06.TopologyLife', WHERE WHAT IT READS IS OF BULK AT MOST 1048576: true; the input reads as it did. -/
def topologyLifeUptoRow : OpenClaim := { program := "ytkjbepikhdejjaa", sum := "e71b907dcecaaeee1a8b81f2930309ccb4d5c1bf7e3a19f986aa35c02104922d", func := "substation/substationlaw06.TopologyLife", spec := "topologyLife", unfollowed := true, recurses := true, plainKeys := false, apart := false, narrowed := true }
def TopologyLifeUptoSaid : Prop := topologyLifeUptoRow.holds Try.pinned (OpenSpec.upto topologyLifeSpec)

/-- 'substationlaw06.TopologyBoundaries', WHERE WHAT IT READS IS OF BULK AT MOST 1048576: true; the input reads as it did. -/
def topologyBoundariesUptoRow : OpenClaim := { program := "ytkjbepikhdejjaa", sum := "e71b907dcecaaeee1a8b81f2930309ccb4d5c1bf7e3a19f986aa35c02104922d", func := "substation/substationlaw06.TopologyBoundaries", spec := "topologyBoundaries", unfollowed := true, recurses := true, plainKeys := false, apart := false, narrowed := true }
def TopologyBoundariesUptoSaid : Prop := topologyBoundariesUptoRow.holds Try.pinned (OpenSpec.upto topologyBoundariesSpec)

/-- 'substationlaw06.TopologyNeighbours', WHERE WHAT IT READS IS OF BULK AT MOST 1048576: true; the input reads as it did. -/
def topologyNeighboursUptoRow : OpenClaim := { program := "ytkjbepikhdejjaa", sum := "e71b907dcecaaeee1a8b81f2930309ccb4d5c1bf7e3a19f986aa35c02104922d", func := "substation/substationlaw06.TopologyNeighbours", spec := "topologyNeighbours", unfollowed := true, recurses := true, plainKeys := false, apart := false, narrowed := true }
def TopologyNeighboursUptoSaid : Prop := topologyNeighboursUptoRow.holds Try.pinned (OpenSpec.upto topologyNeighboursSpec)

/-- 'substationlaw06.TopologyMoving', WHERE WHAT IT READS IS OF BULK AT MOST 1048576: true; the input reads as it did. -/
def topologyMovingUptoRow : OpenClaim := { program := "ytkjbepikhdejjaa", sum := "e71b907dcecaaeee1a8b81f2930309ccb4d5c1bf7e3a19f986aa35c02104922d", func := "substation/substationlaw06.TopologyMoving", spec := "topologyMoving", unfollowed := true, recurses := true, plainKeys := false, apart := false, narrowed := true }
def TopologyMovingUptoSaid : Prop := topologyMovingUptoRow.holds Try.pinned (OpenSpec.upto topologyMovingSpec)

/-- 'substationlaw06.TopologyZones', WHERE WHAT IT READS IS OF BULK AT MOST 1048576: true; the input reads as it did. -/
def topologyZonesUptoRow : OpenClaim := { program := "ytkjbepikhdejjaa", sum := "e71b907dcecaaeee1a8b81f2930309ccb4d5c1bf7e3a19f986aa35c02104922d", func := "substation/substationlaw06.TopologyZones", spec := "topologyZones", unfollowed := true, recurses := true, plainKeys := false, apart := false, narrowed := true }
def TopologyZonesUptoSaid : Prop := topologyZonesUptoRow.holds Try.pinned (OpenSpec.upto topologyZonesSpec)

/-- 'substationlaw33.BusimageSections', WHERE WHAT IT READS IS OF BULK AT MOST 1048576: true; the input reads as it did. -/
def busimageSectionsUptoRow : OpenClaim := { program := "ytkjbepikhdejjaa", sum := "e71b907dcecaaeee1a8b81f2930309ccb4d5c1bf7e3a19f986aa35c02104922d", func := "substation/substationlaw33.BusimageSections", spec := "busimageSections", unfollowed := true, recurses := true, plainKeys := false, apart := false, narrowed := true }
def BusimageSectionsUptoSaid : Prop := busimageSectionsUptoRow.holds Try.pinned (OpenSpec.upto busimageSectionsSpec)

/-- 'substationlaw33.BusimagePartition', WHERE WHAT IT READS IS OF BULK AT MOST 1048576: true; the input reads as it did. -/
def busimagePartitionUptoRow : OpenClaim := { program := "ytkjbepikhdejjaa", sum := "e71b907dcecaaeee1a8b81f2930309ccb4d5c1bf7e3a19f986aa35c02104922d", func := "substation/substationlaw33.BusimagePartition", spec := "busimagePartition", unfollowed := true, recurses := true, plainKeys := false, apart := false, narrowed := true }
def BusimagePartitionUptoSaid : Prop := busimagePartitionUptoRow.holds Try.pinned (OpenSpec.upto busimagePartitionSpec)

/-- 'substationlaw06.TopologyOpens', WHERE WHAT IT READS IS OF BULK AT MOST 1048576: true; the input reads as it did. -/
def topologyOpensUptoRow : OpenClaim := { program := "ytkjbepikhdejjaa", sum := "e71b907dcecaaeee1a8b81f2930309ccb4d5c1bf7e3a19f986aa35c02104922d", func := "substation/substationlaw06.TopologyOpens", spec := "topologyOpens", unfollowed := true, recurses := true, plainKeys := false, apart := false, narrowed := true }
def TopologyOpensUptoSaid : Prop := topologyOpensUptoRow.holds Try.pinned (OpenSpec.upto topologyOpensSpec)

/-- 'substationlaw33.BusimageBalance', WHERE WHAT IT READS IS OF BULK AT MOST 1048576: true; the input reads as it did. -/
def busimageBalanceUptoRow : OpenClaim := { program := "ytkjbepikhdejjaa", sum := "e71b907dcecaaeee1a8b81f2930309ccb4d5c1bf7e3a19f986aa35c02104922d", func := "substation/substationlaw33.BusimageBalance", spec := "busimageBalance", unfollowed := true, recurses := true, plainKeys := false, apart := false, narrowed := true }
def BusimageBalanceUptoSaid : Prop := busimageBalanceUptoRow.holds Try.pinned (OpenSpec.upto busimageBalanceSpec)

/-- 'substationlaw33.BusimageExamples', WHERE WHAT IT READS IS OF BULK AT MOST 1048576: true; the input reads as it did. -/
def busimageExamplesUptoRow : OpenClaim := { program := "ytkjbepikhdejjaa", sum := "e71b907dcecaaeee1a8b81f2930309ccb4d5c1bf7e3a19f986aa35c02104922d", func := "substation/substationlaw33.BusimageExamples", spec := "busimageExamples", unfollowed := true, recurses := true, plainKeys := false, apart := false, narrowed := true }
def BusimageExamplesUptoSaid : Prop := busimageExamplesUptoRow.holds Try.pinned (OpenSpec.upto busimageExamplesSpec)

/-- 'substationlaw36.InterlockNoLoad', WHERE WHAT IT READS IS OF BULK AT MOST 1048576: true; the input reads as it did. -/
def interlockNoLoadUptoRow : OpenClaim := { program := "ytkjbepikhdejjaa", sum := "e71b907dcecaaeee1a8b81f2930309ccb4d5c1bf7e3a19f986aa35c02104922d", func := "substation/substationlaw36.InterlockNoLoad", spec := "interlockNoLoad", unfollowed := true, recurses := true, plainKeys := false, apart := false, narrowed := true }
def InterlockNoLoadUptoSaid : Prop := interlockNoLoadUptoRow.holds Try.pinned (OpenSpec.upto interlockNoLoadSpec)

/-- 'substationlaw36.InterlockUndo', WHERE WHAT IT READS IS OF BULK AT MOST 1048576: true; the input reads as it did. -/
def interlockUndoUptoRow : OpenClaim := { program := "ytkjbepikhdejjaa", sum := "e71b907dcecaaeee1a8b81f2930309ccb4d5c1bf7e3a19f986aa35c02104922d", func := "substation/substationlaw36.InterlockUndo", spec := "interlockUndo", unfollowed := true, recurses := true, plainKeys := false, apart := false, narrowed := true }
def InterlockUndoUptoSaid : Prop := interlockUndoUptoRow.holds Try.pinned (OpenSpec.upto interlockUndoSpec)

/-- 'substationlaw36.InterlockExamples', WHERE WHAT IT READS IS OF BULK AT MOST 1048576: true; the input reads as it did. -/
def interlockExamplesUptoRow : OpenClaim := { program := "ytkjbepikhdejjaa", sum := "e71b907dcecaaeee1a8b81f2930309ccb4d5c1bf7e3a19f986aa35c02104922d", func := "substation/substationlaw36.InterlockExamples", spec := "interlockExamples", unfollowed := true, recurses := true, plainKeys := false, apart := false, narrowed := true }
def InterlockExamplesUptoSaid : Prop := interlockExamplesUptoRow.holds Try.pinned (OpenSpec.upto interlockExamplesSpec)

end Rows
end Go.Proofs.Ytkjbepikhdejjaa
