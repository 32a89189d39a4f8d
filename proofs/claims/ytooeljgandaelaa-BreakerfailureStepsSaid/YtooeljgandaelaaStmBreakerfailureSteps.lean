/- What is to be proved of the law BreakerfailureSteps in numbers and lists alone. Conditions: none beyond the bounds that its row's reading gives. -/
import Derived.Test.YtooeljgandaelaaPAllx3
namespace Go.Proofs.Ytooeljgandaelaa.Pure
open Go.RowKit Go.Proofs.Ytooeljgandaelaa.PAll Go.Proofs.YtooeljgandaelaaW.PrintWords Go.Proofs.YtooeljgandaelaaW.PrintLast
set_option linter.unusedVariables false
def BreakerfailureSteps_Pure : Prop := ∀ (a0_0 : Bool) (a0_1 : Int) (a0_2 : Int) (a1 : Int) (a2_0 : Bool) (a2_1 : Bool), (Lit.int .i64 a0_1).wf = true → (Lit.int .i64 a0_2).wf = true → (Lit.int .i64 a1).wf = true → substationlaw32_BreakerfailureSteps.f a0_0 a0_1 a0_2 a1 a2_0 a2_1 = some true
end Go.Proofs.Ytooeljgandaelaa.Pure
