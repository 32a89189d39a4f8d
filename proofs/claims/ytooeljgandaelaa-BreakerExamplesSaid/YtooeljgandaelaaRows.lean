/-
  No cell of these rows narrows 'for every input' (looked for: loops, veiled, ifaces, maps, wideKeys, modest, calm, conditions, laid).
  DERIVED. THE GIVEN ROWS OF THIS SEAT. 11 by the template 'for every input the law returns true; each argument reads behind the call as it read before'; 0 by the template 'total and deterministic' (their statements: YtooeljgandaelaaTotals.lean).
  GIVEN WITH THE SEED: the statements are not yours to turn. If you find one false, say at which input.
  Laid BY PROGRAM, IN A SANDBOX (cutbox-rows.mjs): the forced cells as the released guide's own fill.sh prints them over the translation 32cf73ba29d41b74… (all of the seat's roots in one cut). By AI agents, Wed Nov 11 2026. No macro, syntax, notation, axiom, sorry.
-/
import Derived.Test.YtooeljgandaelaaChecked
import GoSem.Claim
import GoSem.ClaimJoined
import GoSem.ClaimMapViews
import Derived.JoinedTies
import Derived.KernelRfl
namespace Go.Proofs.Ytooeljgandaelaa
/- THE CELL 'sum', in the pinned program and in every row, IS THE sha256 OF THE DUMP (.gsa) THAT YtooeljgandaelaaProg.lean LOADS. Nothing in Lean hashes anything: it is a label: what it is worth is what the hold of that sum in a sandbox is worth. -/
noncomputable def Try.pinned : Pinned := { name := "ytooeljgandaelaa", sum := "32cf73ba29d41b74cf39ce85051343ca449435deee699f180cba80956fcb66f8", checked := Try.checked }
namespace Rows
def none {H : Type} : Left H := { results := [], args := [] }

/-- 'substationlaw32.BreakerfailureSteps': WHATEVER THE INPUT: true; the input reads as it did. -/
def breakerfailureStepsSpec : ChangeSpec := { name := "breakerfailureSteps", fn := fun _ => fun
  | [d1, d2, d3] => { results := [.lit (.bool true)], args := [d1, d2, d3] }
  | _ => none }
def breakerfailureStepsRow : OpenClaim := { program := "ytooeljgandaelaa", sum := "32cf73ba29d41b74cf39ce85051343ca449435deee699f180cba80956fcb66f8", func := "substation/substationlaw32.BreakerfailureSteps", spec := "breakerfailureSteps", apart := false }
def BreakerfailureStepsSaid : Prop := breakerfailureStepsRow.holds Try.pinned (OpenSpec.ofChange breakerfailureStepsSpec)

/-- ITS FALSE NEIGHBOUR: 'it returns false'. Refute it at one input. -/
def breakerfailureStepsWrong : ChangeSpec := { name := "breakerfailureSteps", fn := fun _ => fun
  | [d1, d2, d3] => { results := [.lit (.bool false)], args := [d1, d2, d3] }
  | _ => none }
def BreakerfailureStepsWrongFalsely : Prop := breakerfailureStepsRow.holds Try.pinned (OpenSpec.ofChange breakerfailureStepsWrong)

/-- 'substationlaw32.BreakerfailureDelays': WHATEVER THE INPUT: true; the input reads as it did. -/
def breakerfailureDelaysSpec : ChangeSpec := { name := "breakerfailureDelays", fn := fun _ => fun
  | [d1, d2, d3] => { results := [.lit (.bool true)], args := [d1, d2, d3] }
  | _ => none }
def breakerfailureDelaysRow : OpenClaim := { program := "ytooeljgandaelaa", sum := "32cf73ba29d41b74cf39ce85051343ca449435deee699f180cba80956fcb66f8", func := "substation/substationlaw32.BreakerfailureDelays", spec := "breakerfailureDelays", apart := false }
def BreakerfailureDelaysSaid : Prop := breakerfailureDelaysRow.holds Try.pinned (OpenSpec.ofChange breakerfailureDelaysSpec)

/-- ITS FALSE NEIGHBOUR: 'it returns false'. Refute it at one input. -/
def breakerfailureDelaysWrong : ChangeSpec := { name := "breakerfailureDelays", fn := fun _ => fun
  | [d1, d2, d3] => { results := [.lit (.bool false)], args := [d1, d2, d3] }
  | _ => none }
def BreakerfailureDelaysWrongFalsely : Prop := breakerfailureDelaysRow.holds Try.pinned (OpenSpec.ofChange breakerfailureDelaysWrong)

/-- 'substationlaw32.BreakerfailureHealthy': WHATEVER THE INPUT: true; the input reads as it did. -/
def breakerfailureHealthySpec : ChangeSpec := { name := "breakerfailureHealthy", fn := fun _ => fun
  | [d1, d2] => { results := [.lit (.bool true)], args := [d1, d2] }
  | _ => none }
def breakerfailureHealthyRow : OpenClaim := { program := "ytooeljgandaelaa", sum := "32cf73ba29d41b74cf39ce85051343ca449435deee699f180cba80956fcb66f8", func := "substation/substationlaw32.BreakerfailureHealthy", spec := "breakerfailureHealthy", apart := false }
def BreakerfailureHealthySaid : Prop := breakerfailureHealthyRow.holds Try.pinned (OpenSpec.ofChange breakerfailureHealthySpec)

/-- ITS FALSE NEIGHBOUR: 'it returns false'. Refute it at one input. -/
def breakerfailureHealthyWrong : ChangeSpec := { name := "breakerfailureHealthy", fn := fun _ => fun
  | [d1, d2] => { results := [.lit (.bool false)], args := [d1, d2] }
  | _ => none }
def BreakerfailureHealthyWrongFalsely : Prop := breakerfailureHealthyRow.holds Try.pinned (OpenSpec.ofChange breakerfailureHealthyWrong)

/-- 'substationlaw32.BreakerfailureStuck': WHATEVER THE INPUT: true; the input reads as it did. -/
def breakerfailureStuckSpec : ChangeSpec := { name := "breakerfailureStuck", fn := fun _ => fun
  | [d1, d2] => { results := [.lit (.bool true)], args := [d1, d2] }
  | _ => none }
def breakerfailureStuckRow : OpenClaim := { program := "ytooeljgandaelaa", sum := "32cf73ba29d41b74cf39ce85051343ca449435deee699f180cba80956fcb66f8", func := "substation/substationlaw32.BreakerfailureStuck", spec := "breakerfailureStuck", apart := false }
def BreakerfailureStuckSaid : Prop := breakerfailureStuckRow.holds Try.pinned (OpenSpec.ofChange breakerfailureStuckSpec)

/-- ITS FALSE NEIGHBOUR: 'it returns false'. Refute it at one input. -/
def breakerfailureStuckWrong : ChangeSpec := { name := "breakerfailureStuck", fn := fun _ => fun
  | [d1, d2] => { results := [.lit (.bool false)], args := [d1, d2] }
  | _ => none }
def BreakerfailureStuckWrongFalsely : Prop := breakerfailureStuckRow.holds Try.pinned (OpenSpec.ofChange breakerfailureStuckWrong)

/-- 'substationlaw29.BreakerExamples': WHATEVER THE INPUT: true; the input reads as it did. -/
def breakerExamplesSpec : ChangeSpec := { name := "breakerExamples", fn := fun _ => fun
  | [] => { results := [.lit (.bool true)], args := [] }
  | _ => none }
def breakerExamplesRow : OpenClaim := { program := "ytooeljgandaelaa", sum := "32cf73ba29d41b74cf39ce85051343ca449435deee699f180cba80956fcb66f8", func := "substation/substationlaw29.BreakerExamples", spec := "breakerExamples", apart := false }
def BreakerExamplesSaid : Prop := breakerExamplesRow.holds Try.pinned (OpenSpec.ofChange breakerExamplesSpec)

/-- ITS FALSE NEIGHBOUR: 'it returns false'. Refute it at one input. -/
def breakerExamplesWrong : ChangeSpec := { name := "breakerExamples", fn := fun _ => fun
  | [] => { results := [.lit (.bool false)], args := [] }
  | _ => none }
def BreakerExamplesWrongFalsely : Prop := breakerExamplesRow.holds Try.pinned (OpenSpec.ofChange breakerExamplesWrong)

/-- 'substationlaw29.BreakerSteps': WHATEVER THE INPUT: true; the input reads as it did. -/
def breakerStepsSpec : ChangeSpec := { name := "breakerSteps", fn := fun _ => fun
  | [d1, d2, d3] => { results := [.lit (.bool true)], args := [d1, d2, d3] }
  | _ => none }
def breakerStepsRow : OpenClaim := { program := "ytooeljgandaelaa", sum := "32cf73ba29d41b74cf39ce85051343ca449435deee699f180cba80956fcb66f8", func := "substation/substationlaw29.BreakerSteps", spec := "breakerSteps", apart := false }
def BreakerStepsSaid : Prop := breakerStepsRow.holds Try.pinned (OpenSpec.ofChange breakerStepsSpec)

/-- ITS FALSE NEIGHBOUR: 'it returns false'. Refute it at one input. -/
def breakerStepsWrong : ChangeSpec := { name := "breakerSteps", fn := fun _ => fun
  | [d1, d2, d3] => { results := [.lit (.bool false)], args := [d1, d2, d3] }
  | _ => none }
def BreakerStepsWrongFalsely : Prop := breakerStepsRow.holds Try.pinned (OpenSpec.ofChange breakerStepsWrong)

/-- 'substationlaw29.BreakerKeepsValid': WHATEVER THE INPUT: true; the input reads as it did. -/
def breakerKeepsValidSpec : ChangeSpec := { name := "breakerKeepsValid", fn := fun _ => fun
  | [d1, d2, d3] => { results := [.lit (.bool true)], args := [d1, d2, d3] }
  | _ => none }
def breakerKeepsValidRow : OpenClaim := { program := "ytooeljgandaelaa", sum := "32cf73ba29d41b74cf39ce85051343ca449435deee699f180cba80956fcb66f8", func := "substation/substationlaw29.BreakerKeepsValid", spec := "breakerKeepsValid", apart := false }
def BreakerKeepsValidSaid : Prop := breakerKeepsValidRow.holds Try.pinned (OpenSpec.ofChange breakerKeepsValidSpec)

/-- ITS FALSE NEIGHBOUR: 'it returns false'. Refute it at one input. -/
def breakerKeepsValidWrong : ChangeSpec := { name := "breakerKeepsValid", fn := fun _ => fun
  | [d1, d2, d3] => { results := [.lit (.bool false)], args := [d1, d2, d3] }
  | _ => none }
def BreakerKeepsValidWrongFalsely : Prop := breakerKeepsValidRow.holds Try.pinned (OpenSpec.ofChange breakerKeepsValidWrong)

/-- 'substationlaw29.BreakerRuns': WHATEVER THE INPUT: true; the input reads as it did. -/
def breakerRunsSpec : ChangeSpec := { name := "breakerRuns", fn := fun _ => fun
  | [d] => { results := [.lit (.bool true)], args := [d] }
  | _ => none }
def breakerRunsRow : OpenClaim := { program := "ytooeljgandaelaa", sum := "32cf73ba29d41b74cf39ce85051343ca449435deee699f180cba80956fcb66f8", func := "substation/substationlaw29.BreakerRuns", spec := "breakerRuns", apart := false }
def BreakerRunsSaid : Prop := breakerRunsRow.holds Try.pinned (OpenSpec.ofChange breakerRunsSpec)

/-- ITS FALSE NEIGHBOUR: 'it returns false'. Refute it at one input. -/
def breakerRunsWrong : ChangeSpec := { name := "breakerRuns", fn := fun _ => fun
  | [d] => { results := [.lit (.bool false)], args := [d] }
  | _ => none }
def BreakerRunsWrongFalsely : Prop := breakerRunsRow.holds Try.pinned (OpenSpec.ofChange breakerRunsWrong)

/-- 'substationlaw29.BreakerOpensInTime': WHATEVER THE INPUT: true; the input reads as it did. -/
def breakerOpensInTimeSpec : ChangeSpec := { name := "breakerOpensInTime", fn := fun _ => fun
  | [d1, d2, d3] => { results := [.lit (.bool true)], args := [d1, d2, d3] }
  | _ => none }
def breakerOpensInTimeRow : OpenClaim := { program := "ytooeljgandaelaa", sum := "32cf73ba29d41b74cf39ce85051343ca449435deee699f180cba80956fcb66f8", func := "substation/substationlaw29.BreakerOpensInTime", spec := "breakerOpensInTime", apart := false }
def BreakerOpensInTimeSaid : Prop := breakerOpensInTimeRow.holds Try.pinned (OpenSpec.ofChange breakerOpensInTimeSpec)

/-- ITS FALSE NEIGHBOUR: 'it returns false'. Refute it at one input. -/
def breakerOpensInTimeWrong : ChangeSpec := { name := "breakerOpensInTime", fn := fun _ => fun
  | [d1, d2, d3] => { results := [.lit (.bool false)], args := [d1, d2, d3] }
  | _ => none }
def BreakerOpensInTimeWrongFalsely : Prop := breakerOpensInTimeRow.holds Try.pinned (OpenSpec.ofChange breakerOpensInTimeWrong)

/-- 'substationlaw29.BreakerStuck': WHATEVER THE INPUT: true; the input reads as it did. -/
def breakerStuckSpec : ChangeSpec := { name := "breakerStuck", fn := fun _ => fun
  | [d1, d2, d3] => { results := [.lit (.bool true)], args := [d1, d2, d3] }
  | _ => none }
def breakerStuckRow : OpenClaim := { program := "ytooeljgandaelaa", sum := "32cf73ba29d41b74cf39ce85051343ca449435deee699f180cba80956fcb66f8", func := "substation/substationlaw29.BreakerStuck", spec := "breakerStuck", apart := false }
def BreakerStuckSaid : Prop := breakerStuckRow.holds Try.pinned (OpenSpec.ofChange breakerStuckSpec)

/-- ITS FALSE NEIGHBOUR: 'it returns false'. Refute it at one input. -/
def breakerStuckWrong : ChangeSpec := { name := "breakerStuck", fn := fun _ => fun
  | [d1, d2, d3] => { results := [.lit (.bool false)], args := [d1, d2, d3] }
  | _ => none }
def BreakerStuckWrongFalsely : Prop := breakerStuckRow.holds Try.pinned (OpenSpec.ofChange breakerStuckWrong)

/-- 'substationlaw29.BreakerClosesAfter': WHATEVER THE INPUT: true; the input reads as it did. -/
def breakerClosesAfterSpec : ChangeSpec := { name := "breakerClosesAfter", fn := fun _ => fun
  | [d] => { results := [.lit (.bool true)], args := [d] }
  | _ => none }
def breakerClosesAfterRow : OpenClaim := { program := "ytooeljgandaelaa", sum := "32cf73ba29d41b74cf39ce85051343ca449435deee699f180cba80956fcb66f8", func := "substation/substationlaw29.BreakerClosesAfter", spec := "breakerClosesAfter", apart := false }
def BreakerClosesAfterSaid : Prop := breakerClosesAfterRow.holds Try.pinned (OpenSpec.ofChange breakerClosesAfterSpec)

/-- ITS FALSE NEIGHBOUR: 'it returns false'. Refute it at one input. -/
def breakerClosesAfterWrong : ChangeSpec := { name := "breakerClosesAfter", fn := fun _ => fun
  | [d] => { results := [.lit (.bool false)], args := [d] }
  | _ => none }
def BreakerClosesAfterWrongFalsely : Prop := breakerClosesAfterRow.holds Try.pinned (OpenSpec.ofChange breakerClosesAfterWrong)

/- THE SECOND FORM. 'bulk': how many values and letters a reading holds, each counted each time it is reached (what is shared counts as often as it is met; a slice's spare places count too). A statement '..UptoSaid' is the law's where the arguments, and the package variables that the reading takes, are together of bulk at most 1048576: NARROWER than '..Said'. Prove '..Said' where nothing that the law and all that it calls make is longer than what came in: it says more and counts as full. Else prove '..UptoSaid'. A law counts once. -/
mutual
def uptoBulk {H : Type} : DataW H → Nat
  | .lit (.string bytes) => bytes.length + 1
  | .lit _ => 1
  | .nil => 1
  | .ptr d => uptoBulk d + 1
  | .slice elems spare => uptoBulkAll elems + uptoBulkAll spare + 1
  | .agg parts => uptoBulkAll parts + 1
  | .iface _ d => uptoBulk d + 1
  | .map entries => uptoBulkEntries entries + 1
  | .held _ => 1
def uptoBulkAll {H : Type} : List (DataW H) → Nat
  | [] => 0
  | d :: r => uptoBulk d + uptoBulkAll r
def uptoBulkEntries {H : Type} : List (Lit × DataW H) → Nat
  | [] => 0
  | x :: r => uptoBulkEntry x + uptoBulkEntries r
def uptoBulkEntry {H : Type} : Lit × DataW H → Nat
  | (.string bytes, d) => bytes.length + uptoBulk d + 1
  | (_, d) => uptoBulk d + 1
 end
def uptoSmall : (H : Type) → List (DataW H) → Bool := fun _ ds => decide (uptoBulkAll ds ≤ 1048576)
def OpenSpec.upto (s : _root_.Go.ChangeSpec) : _root_.Go.OpenSpec := { _root_.Go.OpenSpec.ofChange s with cond := some uptoSmall }

/-- 'substationlaw32.BreakerfailureSteps', WHERE WHAT IT READS IS OF BULK AT MOST 1048576: true; the input reads as it did. -/
def breakerfailureStepsUptoRow : OpenClaim := { program := "ytooeljgandaelaa", sum := "32cf73ba29d41b74cf39ce85051343ca449435deee699f180cba80956fcb66f8", func := "substation/substationlaw32.BreakerfailureSteps", spec := "breakerfailureSteps", apart := false, narrowed := true }
def BreakerfailureStepsUptoSaid : Prop := breakerfailureStepsUptoRow.holds Try.pinned (OpenSpec.upto breakerfailureStepsSpec)

/-- 'substationlaw32.BreakerfailureDelays', WHERE WHAT IT READS IS OF BULK AT MOST 1048576: true; the input reads as it did. -/
def breakerfailureDelaysUptoRow : OpenClaim := { program := "ytooeljgandaelaa", sum := "32cf73ba29d41b74cf39ce85051343ca449435deee699f180cba80956fcb66f8", func := "substation/substationlaw32.BreakerfailureDelays", spec := "breakerfailureDelays", apart := false, narrowed := true }
def BreakerfailureDelaysUptoSaid : Prop := breakerfailureDelaysUptoRow.holds Try.pinned (OpenSpec.upto breakerfailureDelaysSpec)

/-- 'substationlaw32.BreakerfailureHealthy', WHERE WHAT IT READS IS OF BULK AT MOST 1048576: true; the input reads as it did. -/
def breakerfailureHealthyUptoRow : OpenClaim := { program := "ytooeljgandaelaa", sum := "32cf73ba29d41b74cf39ce85051343ca449435deee699f180cba80956fcb66f8", func := "substation/substationlaw32.BreakerfailureHealthy", spec := "breakerfailureHealthy", apart := false, narrowed := true }
def BreakerfailureHealthyUptoSaid : Prop := breakerfailureHealthyUptoRow.holds Try.pinned (OpenSpec.upto breakerfailureHealthySpec)

/-- 'substationlaw32.BreakerfailureStuck', WHERE WHAT IT READS IS OF BULK AT MOST 1048576: true; the input reads as it did. -/
def breakerfailureStuckUptoRow : OpenClaim := { program := "ytooeljgandaelaa", sum := "32cf73ba29d41b74cf39ce85051343ca449435deee699f180cba80956fcb66f8", func := "substation/substationlaw32.BreakerfailureStuck", spec := "breakerfailureStuck", apart := false, narrowed := true }
def BreakerfailureStuckUptoSaid : Prop := breakerfailureStuckUptoRow.holds Try.pinned (OpenSpec.upto breakerfailureStuckSpec)

/-- 'substationlaw29.BreakerExamples', WHERE WHAT IT READS IS OF BULK AT MOST 1048576: true; the input reads as it did. -/
def breakerExamplesUptoRow : OpenClaim := { program := "ytooeljgandaelaa", sum := "32cf73ba29d41b74cf39ce85051343ca449435deee699f180cba80956fcb66f8", func := "substation/substationlaw29.BreakerExamples", spec := "breakerExamples", apart := false, narrowed := true }
def BreakerExamplesUptoSaid : Prop := breakerExamplesUptoRow.holds Try.pinned (OpenSpec.upto breakerExamplesSpec)

/-- 'substationlaw29.BreakerSteps', WHERE WHAT IT READS IS OF BULK AT MOST 1048576: true; the input reads as it did. -/
def breakerStepsUptoRow : OpenClaim := { program := "ytooeljgandaelaa", sum := "32cf73ba29d41b74cf39ce85051343ca449435deee699f180cba80956fcb66f8", func := "substation/substationlaw29.BreakerSteps", spec := "breakerSteps", apart := false, narrowed := true }
def BreakerStepsUptoSaid : Prop := breakerStepsUptoRow.holds Try.pinned (OpenSpec.upto breakerStepsSpec)

/-- 'substationlaw29.BreakerKeepsValid', WHERE WHAT IT READS IS OF BULK AT MOST 1048576: true; the input reads as it did. -/
def breakerKeepsValidUptoRow : OpenClaim := { program := "ytooeljgandaelaa", sum := "32cf73ba29d41b74cf39ce85051343ca449435deee699f180cba80956fcb66f8", func := "substation/substationlaw29.BreakerKeepsValid", spec := "breakerKeepsValid", apart := false, narrowed := true }
def BreakerKeepsValidUptoSaid : Prop := breakerKeepsValidUptoRow.holds Try.pinned (OpenSpec.upto breakerKeepsValidSpec)

/-- 'substationlaw29.BreakerRuns', WHERE WHAT IT READS IS OF BULK AT MOST 1048576: true; the input reads as it did. -/
def breakerRunsUptoRow : OpenClaim := { program := "ytooeljgandaelaa", sum := "32cf73ba29d41b74cf39ce85051343ca449435deee699f180cba80956fcb66f8", func := "substation/substationlaw29.BreakerRuns", spec := "breakerRuns", apart := false, narrowed := true }
def BreakerRunsUptoSaid : Prop := breakerRunsUptoRow.holds Try.pinned (OpenSpec.upto breakerRunsSpec)

/-- 'substationlaw29.BreakerOpensInTime', WHERE WHAT IT READS IS OF BULK AT MOST 1048576: true; the input reads as it did. -/
def breakerOpensInTimeUptoRow : OpenClaim := { program := "ytooeljgandaelaa", sum := "32cf73ba29d41b74cf39ce85051343ca449435deee699f180cba80956fcb66f8", func := "substation/substationlaw29.BreakerOpensInTime", spec := "breakerOpensInTime", apart := false, narrowed := true }
def BreakerOpensInTimeUptoSaid : Prop := breakerOpensInTimeUptoRow.holds Try.pinned (OpenSpec.upto breakerOpensInTimeSpec)

/-- 'substationlaw29.BreakerStuck', WHERE WHAT IT READS IS OF BULK AT MOST 1048576: true; the input reads as it did. -/
def breakerStuckUptoRow : OpenClaim := { program := "ytooeljgandaelaa", sum := "32cf73ba29d41b74cf39ce85051343ca449435deee699f180cba80956fcb66f8", func := "substation/substationlaw29.BreakerStuck", spec := "breakerStuck", apart := false, narrowed := true }
def BreakerStuckUptoSaid : Prop := breakerStuckUptoRow.holds Try.pinned (OpenSpec.upto breakerStuckSpec)

/-- 'substationlaw29.BreakerClosesAfter', WHERE WHAT IT READS IS OF BULK AT MOST 1048576: true; the input reads as it did. -/
def breakerClosesAfterUptoRow : OpenClaim := { program := "ytooeljgandaelaa", sum := "32cf73ba29d41b74cf39ce85051343ca449435deee699f180cba80956fcb66f8", func := "substation/substationlaw29.BreakerClosesAfter", spec := "breakerClosesAfter", apart := false, narrowed := true }
def BreakerClosesAfterUptoSaid : Prop := breakerClosesAfterUptoRow.holds Try.pinned (OpenSpec.upto breakerClosesAfterSpec)

end Rows
end Go.Proofs.Ytooeljgandaelaa
