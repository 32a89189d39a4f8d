/- What is to be proved of the law BreakerfailureExamples in numbers and lists alone. Conditions: none beyond the bounds that its row's reading gives. -/
import Derived.Test.YtkjbepikhdejjaaBfe
namespace Go.Proofs.Ytkjbepikhdejjaa.Pure
open Go.RowKit Go.Proofs.Ytkjbepikhdejjaa.PAll Go.Proofs.YtkjbepikhdejjaaW.PrintWords Go.Proofs.YtkjbepikhdejjaaW.PrintLast
set_option linter.unusedVariables false
def BreakerfailureExamples_Pure : Prop := substationlaw32_BreakerfailureExamples.f  = some true
end Go.Proofs.Ytkjbepikhdejjaa.Pure
