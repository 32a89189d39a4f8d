/- What is to be proved of the law RecloserExamples in numbers and lists alone. Conditions: none beyond the bounds that its row's reading gives. -/
import Derived.Test.YtmppijipaocfiaaExa
namespace Go.Proofs.Ytmppijipaocfiaa.Pure
open Go.RowKit Go.Proofs.Ytmppijipaocfiaa.PAll Go.Proofs.YtmppijipaocfiaaW.PrintWords Go.Proofs.YtmppijipaocfiaaW.PrintLast
set_option linter.unusedVariables false
def RecloserExamples_Pure : Prop := ∃ k, substationlaw35_RecloserExamples.f k  = some true
end Go.Proofs.Ytmppijipaocfiaa.Pure
