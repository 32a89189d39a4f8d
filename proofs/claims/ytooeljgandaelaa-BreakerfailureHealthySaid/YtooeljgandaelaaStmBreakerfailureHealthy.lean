/- What is to be proved of the law BreakerfailureHealthy in numbers and lists alone. Conditions: none beyond the bounds that its row's reading gives. -/
import Derived.Test.YtooeljgandaelaaPAllx7
namespace Go.Proofs.Ytooeljgandaelaa.Pure
open Go.RowKit Go.Proofs.Ytooeljgandaelaa.PAll Go.Proofs.YtooeljgandaelaaW.PrintWords Go.Proofs.YtooeljgandaelaaW.PrintLast
set_option linter.unusedVariables false
def BreakerfailureHealthy_Pure : Prop := ∀ (a0_0 : Int) (a0_1 : Int) (a0_2 : Int) (l1 : List (Bool)), (Lit.int .i64 a0_0).wf = true → (Lit.int .i64 a0_1).wf = true → (Lit.int .i64 a0_2).wf = true → (l1.length * 1 ≤ 140737488351232 ∧ l1.length ≤ maxLen ∧ ∀ x ∈ l1, True) → ∃ k, substationlaw32_BreakerfailureHealthy.f k a0_0 a0_1 a0_2 l1 = some true
end Go.Proofs.Ytooeljgandaelaa.Pure
