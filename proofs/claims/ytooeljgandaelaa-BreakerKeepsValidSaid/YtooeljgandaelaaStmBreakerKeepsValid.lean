/- What is to be proved of the law BreakerKeepsValid in numbers and lists alone. Conditions: none beyond the bounds that its row's reading gives. -/
import Derived.Test.YtooeljgandaelaaPAllx11
namespace Go.Proofs.Ytooeljgandaelaa.Pure
open Go.RowKit Go.Proofs.Ytooeljgandaelaa.PAll Go.Proofs.YtooeljgandaelaaW.PrintWords Go.Proofs.YtooeljgandaelaaW.PrintLast
set_option linter.unusedVariables false
def BreakerKeepsValid_Pure : Prop := ∀ (a0_0 : Bool) (a0_1 : Bool) (a0_2 : Int) (a0_3 : Bool) (a1 : Int) (a2_0 : Bool) (a2_1 : Bool) (a2_2 : Bool), (Lit.int .i64 a0_2).wf = true → (Lit.int .i64 a1).wf = true → ∃ k, substationlaw29_BreakerKeepsValid.f k a0_0 a0_1 a0_2 a0_3 a1 a2_0 a2_1 a2_2 = some true
end Go.Proofs.Ytooeljgandaelaa.Pure
