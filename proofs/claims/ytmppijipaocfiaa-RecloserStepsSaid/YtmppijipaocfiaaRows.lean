/-
  No cell of these rows narrows 'for every input' (looked for: loops, veiled, ifaces, maps, wideKeys, modest, calm, conditions, laid).
  DERIVED. THE GIVEN ROWS OF THIS SEAT. 7 by the template 'for every input the law returns true; each argument reads behind the call as it read before'; 0 by the template 'total and deterministic' (their statements: YtmppijipaocfiaaTotals.lean).
  GIVEN WITH THE SEED: the statements are not yours to turn. If you find one false, say at which input.
  Laid BY PROGRAM, IN A SANDBOX (cutbox-rows.mjs): the forced cells as the released guide's own fill.sh prints them over the translation 963c3eb62566a9d0… (all of the seat's roots in one cut). By AI agents, Wed Nov 11 2026. No macro, syntax, notation, axiom, sorry.
-/
import Derived.Test.YtmppijipaocfiaaChecked
import GoSem.Claim
import GoSem.ClaimJoined
import GoSem.ClaimMapViews
import Derived.JoinedTies
import Derived.KernelRfl
namespace Go.Proofs.Ytmppijipaocfiaa
/- THE CELL 'sum', in the pinned program and in every row, IS THE sha256 OF THE DUMP (.gsa) THAT YtmppijipaocfiaaProg.lean LOADS. Nothing in Lean hashes anything: it is a label: what it is worth is what the hold of that sum in a sandbox is worth. -/
noncomputable def Try.pinned : Pinned := { name := "ytmppijipaocfiaa", sum := "963c3eb62566a9d000e9319855863f17d7b2a2fbac9f9daf9291a5b31844d49e", checked := Try.checked }
namespace Rows
def none {H : Type} : Left H := { results := [], args := [] }

/-- 'substationlaw35.RecloserExamples': WHATEVER THE INPUT: true; the input reads as it did. -/
def recloserExamplesSpec : ChangeSpec := { name := "recloserExamples", fn := fun _ => fun
  | [] => { results := [.lit (.bool true)], args := [] }
  | _ => none }
def recloserExamplesRow : OpenClaim := { program := "ytmppijipaocfiaa", sum := "963c3eb62566a9d000e9319855863f17d7b2a2fbac9f9daf9291a5b31844d49e", func := "substation/substationlaw35.RecloserExamples", spec := "recloserExamples", unfollowed := true, recurses := true, apart := false }
def RecloserExamplesSaid : Prop := recloserExamplesRow.holds Try.pinned (OpenSpec.ofChange recloserExamplesSpec)

/-- ITS FALSE NEIGHBOUR: 'it returns false'. Refute it at one input. -/
def recloserExamplesWrong : ChangeSpec := { name := "recloserExamples", fn := fun _ => fun
  | [] => { results := [.lit (.bool false)], args := [] }
  | _ => none }
def RecloserExamplesWrongFalsely : Prop := recloserExamplesRow.holds Try.pinned (OpenSpec.ofChange recloserExamplesWrong)

/-- 'substationlaw35.RecloserSteps': WHATEVER THE INPUT: true; the input reads as it did. -/
def recloserStepsSpec : ChangeSpec := { name := "recloserSteps", fn := fun _ => fun
  | [d1, d2, d3] => { results := [.lit (.bool true)], args := [d1, d2, d3] }
  | _ => none }
def recloserStepsRow : OpenClaim := { program := "ytmppijipaocfiaa", sum := "963c3eb62566a9d000e9319855863f17d7b2a2fbac9f9daf9291a5b31844d49e", func := "substation/substationlaw35.RecloserSteps", spec := "recloserSteps", unfollowed := true, recurses := true, apart := false }
def RecloserStepsSaid : Prop := recloserStepsRow.holds Try.pinned (OpenSpec.ofChange recloserStepsSpec)

/-- ITS FALSE NEIGHBOUR: 'it returns false'. Refute it at one input. -/
def recloserStepsWrong : ChangeSpec := { name := "recloserSteps", fn := fun _ => fun
  | [d1, d2, d3] => { results := [.lit (.bool false)], args := [d1, d2, d3] }
  | _ => none }
def RecloserStepsWrongFalsely : Prop := recloserStepsRow.holds Try.pinned (OpenSpec.ofChange recloserStepsWrong)

/-- 'substationlaw35.RecloserShots': WHATEVER THE INPUT: true; the input reads as it did. -/
def recloserShotsSpec : ChangeSpec := { name := "recloserShots", fn := fun _ => fun
  | [d1, d2] => { results := [.lit (.bool true)], args := [d1, d2] }
  | _ => none }
def recloserShotsRow : OpenClaim := { program := "ytmppijipaocfiaa", sum := "963c3eb62566a9d000e9319855863f17d7b2a2fbac9f9daf9291a5b31844d49e", func := "substation/substationlaw35.RecloserShots", spec := "recloserShots", unfollowed := true, recurses := true, apart := false }
def RecloserShotsSaid : Prop := recloserShotsRow.holds Try.pinned (OpenSpec.ofChange recloserShotsSpec)

/-- ITS FALSE NEIGHBOUR: 'it returns false'. Refute it at one input. -/
def recloserShotsWrong : ChangeSpec := { name := "recloserShots", fn := fun _ => fun
  | [d1, d2] => { results := [.lit (.bool false)], args := [d1, d2] }
  | _ => none }
def RecloserShotsWrongFalsely : Prop := recloserShotsRow.holds Try.pinned (OpenSpec.ofChange recloserShotsWrong)

/-- 'substationlaw35.RecloserDeadTime': WHATEVER THE INPUT: true; the input reads as it did. -/
def recloserDeadTimeSpec : ChangeSpec := { name := "recloserDeadTime", fn := fun _ => fun
  | [d1, d2] => { results := [.lit (.bool true)], args := [d1, d2] }
  | _ => none }
def recloserDeadTimeRow : OpenClaim := { program := "ytmppijipaocfiaa", sum := "963c3eb62566a9d000e9319855863f17d7b2a2fbac9f9daf9291a5b31844d49e", func := "substation/substationlaw35.RecloserDeadTime", spec := "recloserDeadTime", unfollowed := true, recurses := true, apart := false }
def RecloserDeadTimeSaid : Prop := recloserDeadTimeRow.holds Try.pinned (OpenSpec.ofChange recloserDeadTimeSpec)

/-- ITS FALSE NEIGHBOUR: 'it returns false'. Refute it at one input. -/
def recloserDeadTimeWrong : ChangeSpec := { name := "recloserDeadTime", fn := fun _ => fun
  | [d1, d2] => { results := [.lit (.bool false)], args := [d1, d2] }
  | _ => none }
def RecloserDeadTimeWrongFalsely : Prop := recloserDeadTimeRow.holds Try.pinned (OpenSpec.ofChange recloserDeadTimeWrong)

/-- 'substationlaw35.RecloserLockout': WHATEVER THE INPUT: true; the input reads as it did. -/
def recloserLockoutSpec : ChangeSpec := { name := "recloserLockout", fn := fun _ => fun
  | [d1, d2, d3] => { results := [.lit (.bool true)], args := [d1, d2, d3] }
  | _ => none }
def recloserLockoutRow : OpenClaim := { program := "ytmppijipaocfiaa", sum := "963c3eb62566a9d000e9319855863f17d7b2a2fbac9f9daf9291a5b31844d49e", func := "substation/substationlaw35.RecloserLockout", spec := "recloserLockout", unfollowed := true, recurses := true, apart := false }
def RecloserLockoutSaid : Prop := recloserLockoutRow.holds Try.pinned (OpenSpec.ofChange recloserLockoutSpec)

/-- ITS FALSE NEIGHBOUR: 'it returns false'. Refute it at one input. -/
def recloserLockoutWrong : ChangeSpec := { name := "recloserLockout", fn := fun _ => fun
  | [d1, d2, d3] => { results := [.lit (.bool false)], args := [d1, d2, d3] }
  | _ => none }
def RecloserLockoutWrongFalsely : Prop := recloserLockoutRow.holds Try.pinned (OpenSpec.ofChange recloserLockoutWrong)

/-- 'substationlaw35.RecloserClosings': WHATEVER THE INPUT: true; the input reads as it did. -/
def recloserClosingsSpec : ChangeSpec := { name := "recloserClosings", fn := fun _ => fun
  | [d1, d2] => { results := [.lit (.bool true)], args := [d1, d2] }
  | _ => none }
def recloserClosingsRow : OpenClaim := { program := "ytmppijipaocfiaa", sum := "963c3eb62566a9d000e9319855863f17d7b2a2fbac9f9daf9291a5b31844d49e", func := "substation/substationlaw35.RecloserClosings", spec := "recloserClosings", unfollowed := true, recurses := true, apart := false }
def RecloserClosingsSaid : Prop := recloserClosingsRow.holds Try.pinned (OpenSpec.ofChange recloserClosingsSpec)

/-- ITS FALSE NEIGHBOUR: 'it returns false'. Refute it at one input. -/
def recloserClosingsWrong : ChangeSpec := { name := "recloserClosings", fn := fun _ => fun
  | [d1, d2] => { results := [.lit (.bool false)], args := [d1, d2] }
  | _ => none }
def RecloserClosingsWrongFalsely : Prop := recloserClosingsRow.holds Try.pinned (OpenSpec.ofChange recloserClosingsWrong)

/-- 'substationlaw35.RecloserCycle': WHATEVER THE INPUT: true; the input reads as it did. -/
def recloserCycleSpec : ChangeSpec := { name := "recloserCycle", fn := fun _ => fun
  | [d1, d2] => { results := [.lit (.bool true)], args := [d1, d2] }
  | _ => none }
def recloserCycleRow : OpenClaim := { program := "ytmppijipaocfiaa", sum := "963c3eb62566a9d000e9319855863f17d7b2a2fbac9f9daf9291a5b31844d49e", func := "substation/substationlaw35.RecloserCycle", spec := "recloserCycle", unfollowed := true, recurses := true, apart := false }
def RecloserCycleSaid : Prop := recloserCycleRow.holds Try.pinned (OpenSpec.ofChange recloserCycleSpec)

/-- ITS FALSE NEIGHBOUR: 'it returns false'. Refute it at one input. -/
def recloserCycleWrong : ChangeSpec := { name := "recloserCycle", fn := fun _ => fun
  | [d1, d2] => { results := [.lit (.bool false)], args := [d1, d2] }
  | _ => none }
def RecloserCycleWrongFalsely : Prop := recloserCycleRow.holds Try.pinned (OpenSpec.ofChange recloserCycleWrong)

/- THE SECOND FORM. 'bulk': how many values and letters a reading holds, each counted each time it is reached (what is shared counts as often as it is met; a slice's spare places count too). A statement '..UptoSaid' is the law's where the arguments, and the package variables that the reading takes, are together of bulk at most 1048576: NARROWER than '..Said'. Prove '..Said' where nothing that the law and all that it calls make is longer than what came in: it says more and counts as full. Else prove '..UptoSaid'. A law counts once. -/
mutual
def uptoBulk {H : Type} : DataW H → Nat
  | .lit (.string bytes) => bytes.length + 1
  | .lit _ => 1
  | .nil => 1
  | .ptr d => uptoBulk d + 1
  | .slice elems spare => uptoBulkAll elems + uptoBulkAll spare + 1
  | .agg parts => uptoBulkAll parts + 1
  | .iface _ d => uptoBulk d + 1
  | .map entries => uptoBulkEntries entries + 1
  | .held _ => 1
def uptoBulkAll {H : Type} : List (DataW H) → Nat
  | [] => 0
  | d :: r => uptoBulk d + uptoBulkAll r
def uptoBulkEntries {H : Type} : List (Lit × DataW H) → Nat
  | [] => 0
  | x :: r => uptoBulkEntry x + uptoBulkEntries r
def uptoBulkEntry {H : Type} : Lit × DataW H → Nat
  | (.string bytes, d) => bytes.length + uptoBulk d + 1
  | (_, d) => uptoBulk d + 1
 end
def uptoSmall : (H : Type) → List (DataW H) → Bool := fun _ ds => decide (uptoBulkAll ds ≤ 1048576)
def OpenSpec.upto (s : _root_.Go.ChangeSpec) : _root_.Go.OpenSpec := { _root_.Go.OpenSpec.ofChange s with cond := some uptoSmall }

/-- 'substationlaw35.RecloserExamples', WHERE WHAT IT READS IS OF BULK AT MOST 1048576: true; the input reads as it did. -/
def recloserExamplesUptoRow : OpenClaim := { program := "ytmppijipaocfiaa", sum := "963c3eb62566a9d000e9319855863f17d7b2a2fbac9f9daf9291a5b31844d49e", func := "substation/substationlaw35.RecloserExamples", spec := "recloserExamples", unfollowed := true, recurses := true, apart := false, narrowed := true }
def RecloserExamplesUptoSaid : Prop := recloserExamplesUptoRow.holds Try.pinned (OpenSpec.upto recloserExamplesSpec)

/-- 'substationlaw35.RecloserSteps', WHERE WHAT IT READS IS OF BULK AT MOST 1048576: true; the input reads as it did. -/
def recloserStepsUptoRow : OpenClaim := { program := "ytmppijipaocfiaa", sum := "963c3eb62566a9d000e9319855863f17d7b2a2fbac9f9daf9291a5b31844d49e", func := "substation/substationlaw35.RecloserSteps", spec := "recloserSteps", unfollowed := true, recurses := true, apart := false, narrowed := true }
def RecloserStepsUptoSaid : Prop := recloserStepsUptoRow.holds Try.pinned (OpenSpec.upto recloserStepsSpec)

/-- 'substationlaw35.RecloserShots', WHERE WHAT IT READS IS OF BULK AT MOST 1048576: true; the input reads as it did. -/
def recloserShotsUptoRow : OpenClaim := { program := "ytmppijipaocfiaa", sum := "963c3eb62566a9d000e9319855863f17d7b2a2fbac9f9daf9291a5b31844d49e", func := "substation/substationlaw35.RecloserShots", spec := "recloserShots", unfollowed := true, recurses := true, apart := false, narrowed := true }
def RecloserShotsUptoSaid : Prop := recloserShotsUptoRow.holds Try.pinned (OpenSpec.upto recloserShotsSpec)

/-- 'substationlaw35.RecloserDeadTime', WHERE WHAT IT READS IS OF BULK AT MOST 1048576: true; the input reads as it did. -/
def recloserDeadTimeUptoRow : OpenClaim := { program := "ytmppijipaocfiaa", sum := "963c3eb62566a9d000e9319855863f17d7b2a2fbac9f9daf9291a5b31844d49e", func := "substation/substationlaw35.RecloserDeadTime", spec := "recloserDeadTime", unfollowed := true, recurses := true, apart := false, narrowed := true }
def RecloserDeadTimeUptoSaid : Prop := recloserDeadTimeUptoRow.holds Try.pinned (OpenSpec.upto recloserDeadTimeSpec)

/-- 'substationlaw35.RecloserLockout', WHERE WHAT IT READS IS OF BULK AT MOST 1048576: true; the input reads as it did. -/
def recloserLockoutUptoRow : OpenClaim := { program := "ytmppijipaocfiaa", sum := "963c3eb62566a9d000e9319855863f17d7b2a2fbac9f9daf9291a5b31844d49e", func := "substation/substationlaw35.RecloserLockout", spec := "recloserLockout", unfollowed := true, recurses := true, apart := false, narrowed := true }
def RecloserLockoutUptoSaid : Prop := recloserLockoutUptoRow.holds Try.pinned (OpenSpec.upto recloserLockoutSpec)

/-- 'substationlaw35.RecloserClosings', WHERE WHAT IT READS IS OF BULK AT MOST 1048576: true; the input reads as it did. -/
def recloserClosingsUptoRow : OpenClaim := { program := "ytmppijipaocfiaa", sum := "963c3eb62566a9d000e9319855863f17d7b2a2fbac9f9daf9291a5b31844d49e", func := "substation/substationlaw35.RecloserClosings", spec := "recloserClosings", unfollowed := true, recurses := true, apart := false, narrowed := true }
def RecloserClosingsUptoSaid : Prop := recloserClosingsUptoRow.holds Try.pinned (OpenSpec.upto recloserClosingsSpec)

/-- 'substationlaw35.RecloserCycle', WHERE WHAT IT READS IS OF BULK AT MOST 1048576: true; the input reads as it did. -/
def recloserCycleUptoRow : OpenClaim := { program := "ytmppijipaocfiaa", sum := "963c3eb62566a9d000e9319855863f17d7b2a2fbac9f9daf9291a5b31844d49e", func := "substation/substationlaw35.RecloserCycle", spec := "recloserCycle", unfollowed := true, recurses := true, apart := false, narrowed := true }
def RecloserCycleUptoSaid : Prop := recloserCycleUptoRow.holds Try.pinned (OpenSpec.upto recloserCycleSpec)

end Rows
end Go.Proofs.Ytmppijipaocfiaa
