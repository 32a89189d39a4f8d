/- The plain statement of the law BreakerfailureExamples, over numbers and lists alone. Conditions: none. -/
import Derived.Test.YtkjbepikhdejjaaStmBreakerfailureExamples
namespace Go.Proofs.Ytkjbepikhdejjaa.Pure
open Go.RowKit Go.Proofs.Ytkjbepikhdejjaa.PAll Go.Proofs.YtkjbepikhdejjaaW.PrintWords Go.Proofs.YtkjbepikhdejjaaW.PrintLast
set_option linter.unusedVariables false
set_option linter.unusedSimpArgs false
theorem BreakerfailureExamples : BreakerfailureExamples_Pure := by
  unfold BreakerfailureExamples_Pure
  decide +kernel

end Go.Proofs.Ytkjbepikhdejjaa.Pure
