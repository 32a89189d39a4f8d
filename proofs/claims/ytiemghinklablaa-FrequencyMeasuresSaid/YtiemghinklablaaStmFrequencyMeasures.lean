/- What is to be proved of the law FrequencyMeasures in numbers and lists alone. Conditions: none beyond the bounds that its row's reading gives. -/
import Derived.Test.YtiemghinklablaaPAllx10
namespace Go.Proofs.Ytiemghinklablaa.Pure
open Go.RowKit Go.Proofs.Ytiemghinklablaa.PAll Go.Proofs.YtiemghinklablaaW.PrintWords Go.Proofs.YtiemghinklablaaW.PrintLast
set_option linter.unusedVariables false
def FrequencyMeasures_Pure : Prop := ∀ (l0 : List (Int)) (a1 : Int), (l0.length * 8 ≤ 140737488351232 ∧ l0.length ≤ maxLen ∧ ∀ x ∈ l0, (Lit.int .i64 x).wf = true) → (Lit.int .i64 a1).wf = true → ∃ k, substationlaw25_FrequencyMeasures.f k l0 a1 = some true
end Go.Proofs.Ytiemghinklablaa.Pure
