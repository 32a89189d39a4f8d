/- What is to be proved of the law BreakerfailureDelays in numbers and lists alone. Conditions: none beyond the bounds that its row's reading gives. -/
import Derived.Test.YtooeljgandaelaaPAllx4
namespace Go.Proofs.Ytooeljgandaelaa.Pure
open Go.RowKit Go.Proofs.Ytooeljgandaelaa.PAll Go.Proofs.YtooeljgandaelaaW.PrintWords Go.Proofs.YtooeljgandaelaaW.PrintLast
set_option linter.unusedVariables false
def BreakerfailureDelays_Pure : Prop := ∀ (a0 : Int) (l1 : List (Bool)) (l2 : List (Bool)), (Lit.int .i64 a0).wf = true → (l1.length * 1 ≤ 140737488351232 ∧ l1.length ≤ maxLen ∧ ∀ x ∈ l1, True) → (l2.length * 1 ≤ 140737488351232 ∧ l2.length ≤ maxLen ∧ ∀ x ∈ l2, True) → ∃ k, substationlaw32_BreakerfailureDelays.f k a0 l1 l2 = some true
end Go.Proofs.Ytooeljgandaelaa.Pure
