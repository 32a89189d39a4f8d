/- The plain statement of the law RecloserExamples, over numbers and lists alone. Conditions: none. -/
import Derived.Test.YtmppijipaocfiaaStmRecloserExamples
import Derived.Test.YtmppijipaocfiaaRec
namespace Go.Proofs.Ytmppijipaocfiaa.Pure
open Go.RowKit Go.Proofs.Ytmppijipaocfiaa.PAll Go.Proofs.YtmppijipaocfiaaW.PrintWords Go.Proofs.YtmppijipaocfiaaW.PrintLast
set_option linter.unusedVariables false
set_option linter.unusedSimpArgs false
theorem RecloserExamples : RecloserExamples_Pure := by
  refine ⟨20, ?_⟩
  unfold substationlaw35_RecloserExamples.f
  simp only [set_eq, recloser_Step.f, Option.bind_some, known35 20 (by decide)]
  decide

end Go.Proofs.Ytmppijipaocfiaa.Pure
