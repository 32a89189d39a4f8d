/- What is to be proved of the law StreamSplits in numbers and lists alone. Conditions: none beyond the bounds that its row's reading gives. -/
import Derived.Test.YtlfphopfoicjpaaSpl
namespace Go.Proofs.Ytlfphopfoicjpaa.Pure
open Go.RowKit Go.Proofs.Ytlfphopfoicjpaa.PSpl Go.Proofs.YtlfphopfoicjpaaW.PrintWords Go.Proofs.YtlfphopfoicjpaaW.PrintLast
set_option linter.unusedVariables false
def StreamSplits_Pure : Prop := ∀ (a0 : Int) (a1 : Int) (l2 : List (List (Int))), (Lit.int .i64 a0).wf = true → (Lit.int .i64 a1).wf = true → (l2.length * 24 ≤ 140737488351232 ∧ l2.length ≤ maxLen ∧ ∀ x ∈ l2, (x.length * 8 ≤ 140737488351232 ∧ x.length ≤ maxLen ∧ ∀ x' ∈ x, (Lit.int .i64 x').wf = true)) → ∃ k, substationlaw15_StreamSplits.f k a0 a1 l2 = some true
end Go.Proofs.Ytlfphopfoicjpaa.Pure
