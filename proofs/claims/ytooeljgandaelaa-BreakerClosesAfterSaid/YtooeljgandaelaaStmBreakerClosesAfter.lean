/- What is to be proved of the law BreakerClosesAfter in numbers and lists alone. Conditions: none beyond the bounds that its row's reading gives. -/
import Derived.Test.YtooeljgandaelaaPAllx15
namespace Go.Proofs.Ytooeljgandaelaa.Pure
open Go.RowKit Go.Proofs.Ytooeljgandaelaa.PAll Go.Proofs.YtooeljgandaelaaW.PrintWords Go.Proofs.YtooeljgandaelaaW.PrintLast
set_option linter.unusedVariables false
def BreakerClosesAfter_Pure : Prop := ∀ (a0_0 : Bool) (a0_1 : Int) (a0_2 : Bool) (l0_3 : List (Bool)) (l0_4 : List (Bool)), (Lit.int .i64 a0_1).wf = true → (l0_3.length * 1 ≤ 140737488351232 ∧ l0_3.length ≤ maxLen ∧ ∀ x ∈ l0_3, True) → (l0_4.length * 1 ≤ 140737488351232 ∧ l0_4.length ≤ maxLen ∧ ∀ x ∈ l0_4, True) → ∃ k, substationlaw29_BreakerClosesAfter.f k a0_0 a0_1 a0_2 l0_3 l0_4 = some true
end Go.Proofs.Ytooeljgandaelaa.Pure
