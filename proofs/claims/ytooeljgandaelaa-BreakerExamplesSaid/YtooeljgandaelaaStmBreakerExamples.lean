/- What is to be proved of the law BreakerExamples in numbers and lists alone. Conditions: none beyond the bounds that its row's reading gives. -/
import Derived.Test.YtooeljgandaelaaExa
namespace Go.Proofs.Ytooeljgandaelaa.Pure
open Go.RowKit Go.Proofs.Ytooeljgandaelaa.PAll Go.Proofs.YtooeljgandaelaaW.PrintWords Go.Proofs.YtooeljgandaelaaW.PrintLast
set_option linter.unusedVariables false
def BreakerExamples_Pure : Prop := ∃ k, substationlaw29_BreakerExamples.f k  = some true
end Go.Proofs.Ytooeljgandaelaa.Pure
