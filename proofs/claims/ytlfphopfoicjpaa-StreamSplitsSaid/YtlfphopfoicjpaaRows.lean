/-
  No cell of these rows narrows 'for every input' (looked for: loops, veiled, ifaces, maps, wideKeys, modest, calm, conditions, laid).
  DERIVED. THE GIVEN ROWS OF THIS SEAT. 6 by the template 'for every input the law returns true; each argument reads behind the call as it read before'; 0 by the template 'total and deterministic' (their statements: YtlfphopfoicjpaaTotals.lean).
  GIVEN WITH THE SEED: the statements are not yours to turn. If you find one false, say at which input.
  Laid BY PROGRAM, IN A SANDBOX (cutbox-rows.mjs): the forced cells as the released guide's own fill.sh prints them over the translation 5fee44dc94937588… (all of the seat's roots in one cut). By AI agents, Wed Nov 11 2026. No macro, syntax, notation, axiom, sorry.
-/
import Derived.Test.YtlfphopfoicjpaaChecked
import GoSem.Claim
import GoSem.ClaimJoined
import GoSem.ClaimMapViews
import Derived.JoinedTies
import Derived.KernelRfl
namespace Go.Proofs.Ytlfphopfoicjpaa
/- THE CELL 'sum', in the pinned program and in every row, IS THE sha256 OF THE DUMP (.gsa) THAT YtlfphopfoicjpaaProg.lean LOADS. Nothing in Lean hashes anything: it is a label: what it is worth is what the hold of that sum in a sandbox is worth. -/
noncomputable def Try.pinned : Pinned := { name := "ytlfphopfoicjpaa", sum := "5fee44dc949375881d260ff4ee6fd8aad6ec48d51efd954d4a78d4f8bf1ca3c8", checked := Try.checked }
namespace Rows
def none {H : Type} : Left H := { results := [], args := [] }

/-- 'substationlaw15.StreamChecks': WHATEVER THE INPUT: true; the input reads as it did. -/
def streamChecksSpec : ChangeSpec := { name := "streamChecks", fn := fun _ => fun
  | [d1, d2, d3] => { results := [.lit (.bool true)], args := [d1, d2, d3] }
  | _ => none }
def streamChecksRow : OpenClaim := { program := "ytlfphopfoicjpaa", sum := "5fee44dc949375881d260ff4ee6fd8aad6ec48d51efd954d4a78d4f8bf1ca3c8", func := "substation/substationlaw15.StreamChecks", spec := "streamChecks", apart := false }
def StreamChecksSaid : Prop := streamChecksRow.holds Try.pinned (OpenSpec.ofChange streamChecksSpec)

/-- ITS FALSE NEIGHBOUR: 'it returns false'. Refute it at one input. -/
def streamChecksWrong : ChangeSpec := { name := "streamChecks", fn := fun _ => fun
  | [d1, d2, d3] => { results := [.lit (.bool false)], args := [d1, d2, d3] }
  | _ => none }
def StreamChecksWrongFalsely : Prop := streamChecksRow.holds Try.pinned (OpenSpec.ofChange streamChecksWrong)

/-- 'substationlaw15.StreamBytes': WHATEVER THE INPUT: true; the input reads as it did. -/
def streamBytesSpec : ChangeSpec := { name := "streamBytes", fn := fun _ => fun
  | [d1, d2] => { results := [.lit (.bool true)], args := [d1, d2] }
  | _ => none }
def streamBytesRow : OpenClaim := { program := "ytlfphopfoicjpaa", sum := "5fee44dc949375881d260ff4ee6fd8aad6ec48d51efd954d4a78d4f8bf1ca3c8", func := "substation/substationlaw15.StreamBytes", spec := "streamBytes", apart := false }
def StreamBytesSaid : Prop := streamBytesRow.holds Try.pinned (OpenSpec.ofChange streamBytesSpec)

/-- ITS FALSE NEIGHBOUR: 'it returns false'. Refute it at one input. -/
def streamBytesWrong : ChangeSpec := { name := "streamBytes", fn := fun _ => fun
  | [d1, d2] => { results := [.lit (.bool false)], args := [d1, d2] }
  | _ => none }
def StreamBytesWrongFalsely : Prop := streamBytesRow.holds Try.pinned (OpenSpec.ofChange streamBytesWrong)

/-- 'substationtop.SamplesMissing': WHATEVER THE INPUT: true; the input reads as it did. -/
def samplesMissingSpec : ChangeSpec := { name := "samplesMissing", fn := fun _ => fun
  | [d1, d2, d3] => { results := [.lit (.bool true)], args := [d1, d2, d3] }
  | _ => none }
def samplesMissingRow : OpenClaim := { program := "ytlfphopfoicjpaa", sum := "5fee44dc949375881d260ff4ee6fd8aad6ec48d51efd954d4a78d4f8bf1ca3c8", func := "substation/substationtop.SamplesMissing", spec := "samplesMissing", inPlace := ["slices.overlaps[substation/twin.Source]"], unfollowed := true, recurses := true, apart := false }
def SamplesMissingSaid : Prop := samplesMissingRow.holds Try.pinned (OpenSpec.ofChange samplesMissingSpec)

/-- ITS FALSE NEIGHBOUR: 'it returns false'. Refute it at one input. -/
def samplesMissingWrong : ChangeSpec := { name := "samplesMissing", fn := fun _ => fun
  | [d1, d2, d3] => { results := [.lit (.bool false)], args := [d1, d2, d3] }
  | _ => none }
def SamplesMissingWrongFalsely : Prop := samplesMissingRow.holds Try.pinned (OpenSpec.ofChange samplesMissingWrong)

/-- 'substationlaw15.StreamRoundTrip': WHATEVER THE INPUT: true; the input reads as it did. -/
def streamRoundTripSpec : ChangeSpec := { name := "streamRoundTrip", fn := fun _ => fun
  | [d1, d2] => { results := [.lit (.bool true)], args := [d1, d2] }
  | _ => none }
def streamRoundTripRow : OpenClaim := { program := "ytlfphopfoicjpaa", sum := "5fee44dc949375881d260ff4ee6fd8aad6ec48d51efd954d4a78d4f8bf1ca3c8", func := "substation/substationlaw15.StreamRoundTrip", spec := "streamRoundTrip", apart := false }
def StreamRoundTripSaid : Prop := streamRoundTripRow.holds Try.pinned (OpenSpec.ofChange streamRoundTripSpec)

/-- ITS FALSE NEIGHBOUR: 'it returns false'. Refute it at one input. -/
def streamRoundTripWrong : ChangeSpec := { name := "streamRoundTrip", fn := fun _ => fun
  | [d1, d2] => { results := [.lit (.bool false)], args := [d1, d2] }
  | _ => none }
def StreamRoundTripWrongFalsely : Prop := streamRoundTripRow.holds Try.pinned (OpenSpec.ofChange streamRoundTripWrong)

/-- 'substationlaw15.StreamSplits': WHATEVER THE INPUT: true; the input reads as it did. -/
def streamSplitsSpec : ChangeSpec := { name := "streamSplits", fn := fun _ => fun
  | [d1, d2, d3] => { results := [.lit (.bool true)], args := [d1, d2, d3] }
  | _ => none }
def streamSplitsRow : OpenClaim := { program := "ytlfphopfoicjpaa", sum := "5fee44dc949375881d260ff4ee6fd8aad6ec48d51efd954d4a78d4f8bf1ca3c8", func := "substation/substationlaw15.StreamSplits", spec := "streamSplits", unfollowed := true, recurses := true, apart := false }
def StreamSplitsSaid : Prop := streamSplitsRow.holds Try.pinned (OpenSpec.ofChange streamSplitsSpec)

/-- ITS FALSE NEIGHBOUR: 'it returns false'. Refute it at one input. -/
def streamSplitsWrong : ChangeSpec := { name := "streamSplits", fn := fun _ => fun
  | [d1, d2, d3] => { results := [.lit (.bool false)], args := [d1, d2, d3] }
  | _ => none }
def StreamSplitsWrongFalsely : Prop := streamSplitsRow.holds Try.pinned (OpenSpec.ofChange streamSplitsWrong)

/-- 'substationlaw15.StreamDelivers': WHATEVER THE INPUT: true; the input reads as it did. -/
def streamDeliversSpec : ChangeSpec := { name := "streamDelivers", fn := fun _ => fun
  | [d1, d2] => { results := [.lit (.bool true)], args := [d1, d2] }
  | _ => none }
def streamDeliversRow : OpenClaim := { program := "ytlfphopfoicjpaa", sum := "5fee44dc949375881d260ff4ee6fd8aad6ec48d51efd954d4a78d4f8bf1ca3c8", func := "substation/substationlaw15.StreamDelivers", spec := "streamDelivers", unfollowed := true, recurses := true, apart := false }
def StreamDeliversSaid : Prop := streamDeliversRow.holds Try.pinned (OpenSpec.ofChange streamDeliversSpec)

/-- ITS FALSE NEIGHBOUR: 'it returns false'. Refute it at one input. -/
def streamDeliversWrong : ChangeSpec := { name := "streamDelivers", fn := fun _ => fun
  | [d1, d2] => { results := [.lit (.bool false)], args := [d1, d2] }
  | _ => none }
def StreamDeliversWrongFalsely : Prop := streamDeliversRow.holds Try.pinned (OpenSpec.ofChange streamDeliversWrong)

/- THE SECOND FORM. 'bulk': how many values and letters a reading holds, each counted each time it is reached (what is shared counts as often as it is met; a slice's spare places count too). A statement '..UptoSaid' is the law's where the arguments, and the package variables that the reading takes, are together of bulk at most 1048576: NARROWER than '..Said'. Prove '..Said' where nothing that the law and all that it calls make is longer than what came in: it says more and counts as full. Else prove '..UptoSaid'. A law counts once. -/
mutual
def uptoBulk {H : Type} : DataW H → Nat
  | .lit (.string bytes) => bytes.length + 1
  | .lit _ => 1
  | .nil => 1
  | .ptr d => uptoBulk d + 1
  | .slice elems spare => uptoBulkAll elems + uptoBulkAll spare + 1
  | .agg parts => uptoBulkAll parts + 1
  | .iface _ d => uptoBulk d + 1
  | .map entries => uptoBulkEntries entries + 1
  | .held _ => 1
def uptoBulkAll {H : Type} : List (DataW H) → Nat
  | [] => 0
  | d :: r => uptoBulk d + uptoBulkAll r
def uptoBulkEntries {H : Type} : List (Lit × DataW H) → Nat
  | [] => 0
  | x :: r => uptoBulkEntry x + uptoBulkEntries r
def uptoBulkEntry {H : Type} : Lit × DataW H → Nat
  | (.string bytes, d) => bytes.length + uptoBulk d + 1
  | (_, d) => uptoBulk d + 1
 end
def uptoSmall : (H : Type) → List (DataW H) → Bool := fun _ ds => decide (uptoBulkAll ds ≤ 1048576)
def OpenSpec.upto (s : _root_.Go.ChangeSpec) : _root_.Go.OpenSpec := { _root_.Go.OpenSpec.ofChange s with cond := some uptoSmall }

/-- 'substationlaw15.StreamChecks', WHERE WHAT IT READS IS OF BULK AT MOST 1048576: true; the input reads as it did. -/
def streamChecksUptoRow : OpenClaim := { program := "ytlfphopfoicjpaa", sum := "5fee44dc949375881d260ff4ee6fd8aad6ec48d51efd954d4a78d4f8bf1ca3c8", func := "substation/substationlaw15.StreamChecks", spec := "streamChecks", apart := false, narrowed := true }
def StreamChecksUptoSaid : Prop := streamChecksUptoRow.holds Try.pinned (OpenSpec.upto streamChecksSpec)

/-- 'substationlaw15.StreamBytes', WHERE WHAT IT READS IS OF BULK AT MOST 1048576: true; the input reads as it did. -/
def streamBytesUptoRow : OpenClaim := { program := "ytlfphopfoicjpaa", sum := "5fee44dc949375881d260ff4ee6fd8aad6ec48d51efd954d4a78d4f8bf1ca3c8", func := "substation/substationlaw15.StreamBytes", spec := "streamBytes", apart := false, narrowed := true }
def StreamBytesUptoSaid : Prop := streamBytesUptoRow.holds Try.pinned (OpenSpec.upto streamBytesSpec)

/-- 'substationtop.SamplesMissing', WHERE WHAT IT READS IS OF BULK AT MOST 1048576: true; the input reads as it did. -/
def samplesMissingUptoRow : OpenClaim := { program := "ytlfphopfoicjpaa", sum := "5fee44dc949375881d260ff4ee6fd8aad6ec48d51efd954d4a78d4f8bf1ca3c8", func := "substation/substationtop.SamplesMissing", spec := "samplesMissing", inPlace := ["slices.overlaps[substation/twin.Source]"], unfollowed := true, recurses := true, apart := false, narrowed := true }
def SamplesMissingUptoSaid : Prop := samplesMissingUptoRow.holds Try.pinned (OpenSpec.upto samplesMissingSpec)

/-- 'substationlaw15.StreamRoundTrip', WHERE WHAT IT READS IS OF BULK AT MOST 1048576: true; the input reads as it did. -/
def streamRoundTripUptoRow : OpenClaim := { program := "ytlfphopfoicjpaa", sum := "5fee44dc949375881d260ff4ee6fd8aad6ec48d51efd954d4a78d4f8bf1ca3c8", func := "substation/substationlaw15.StreamRoundTrip", spec := "streamRoundTrip", apart := false, narrowed := true }
def StreamRoundTripUptoSaid : Prop := streamRoundTripUptoRow.holds Try.pinned (OpenSpec.upto streamRoundTripSpec)

/-- 'substationlaw15.StreamSplits', WHERE WHAT IT READS IS OF BULK AT MOST 1048576: true; the input reads as it did. -/
def streamSplitsUptoRow : OpenClaim := { program := "ytlfphopfoicjpaa", sum := "5fee44dc949375881d260ff4ee6fd8aad6ec48d51efd954d4a78d4f8bf1ca3c8", func := "substation/substationlaw15.StreamSplits", spec := "streamSplits", unfollowed := true, recurses := true, apart := false, narrowed := true }
def StreamSplitsUptoSaid : Prop := streamSplitsUptoRow.holds Try.pinned (OpenSpec.upto streamSplitsSpec)

/-- 'substationlaw15.StreamDelivers', WHERE WHAT IT READS IS OF BULK AT MOST 1048576: true; the input reads as it did. -/
def streamDeliversUptoRow : OpenClaim := { program := "ytlfphopfoicjpaa", sum := "5fee44dc949375881d260ff4ee6fd8aad6ec48d51efd954d4a78d4f8bf1ca3c8", func := "substation/substationlaw15.StreamDelivers", spec := "streamDelivers", unfollowed := true, recurses := true, apart := false, narrowed := true }
def StreamDeliversUptoSaid : Prop := streamDeliversUptoRow.holds Try.pinned (OpenSpec.upto streamDeliversSpec)

end Rows
end Go.Proofs.Ytlfphopfoicjpaa
