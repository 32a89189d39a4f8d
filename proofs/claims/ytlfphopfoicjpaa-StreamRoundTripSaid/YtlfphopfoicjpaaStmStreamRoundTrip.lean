/- What is to be proved of the law StreamRoundTrip in numbers and lists alone. Conditions: none beyond the bounds that its row's reading gives. -/
import Derived.Test.YtlfphopfoicjpaaRou
namespace Go.Proofs.Ytlfphopfoicjpaa.Pure
open Go.RowKit Go.Proofs.Ytlfphopfoicjpaa.PAll Go.Proofs.YtlfphopfoicjpaaW.PrintWords Go.Proofs.YtlfphopfoicjpaaW.PrintLast
set_option linter.unusedVariables false
def StreamRoundTrip_Pure : Prop := ∀ (a0_0 : Int) (a0_1 : Int) (a0_2 : Bool) (l0_3 : List (Int)) (l0_4 : List (Int)) (l1 : List (Int)), (Lit.int .i64 a0_0).wf = true → (Lit.int .i64 a0_1).wf = true → (l0_3.length * 8 ≤ 140737488351232 ∧ l0_3.length ≤ maxLen ∧ ∀ x ∈ l0_3, (Lit.int .i64 x).wf = true) → (l0_4.length * 8 ≤ 140737488351232 ∧ l0_4.length ≤ maxLen ∧ ∀ x ∈ l0_4, (Lit.int .i64 x).wf = true) → (l1.length * 1 ≤ 140737488351232 ∧ l1.length ≤ maxLen ∧ ∀ x ∈ l1, (Lit.int .u8 x).wf = true) → ∃ k, substationlaw15_StreamRoundTrip.f k a0_0 a0_1 a0_2 l0_3 l0_4 l1 = some true
end Go.Proofs.Ytlfphopfoicjpaa.Pure
