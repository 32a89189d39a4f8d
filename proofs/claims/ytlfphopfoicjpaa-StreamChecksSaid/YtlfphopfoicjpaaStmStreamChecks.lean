/- What is to be proved of the law StreamChecks in numbers and lists alone. Conditions: none beyond the bounds that its row's reading gives. -/
import Derived.Test.YtlfphopfoicjpaaChk
namespace Go.Proofs.Ytlfphopfoicjpaa.Pure
open Go.RowKit Go.Proofs.Ytlfphopfoicjpaa.PAll Go.Proofs.YtlfphopfoicjpaaW.PrintWords Go.Proofs.YtlfphopfoicjpaaW.PrintLast
set_option linter.unusedVariables false
def StreamChecks_Pure : Prop := ∀ (a0_0 : Int) (a0_1 : Int) (a0_2 : Bool) (l0_3 : List (Int)) (l0_4 : List (Int)) (a1_0 : Int) (a1_1 : Int) (a1_2 : Bool) (l1_3 : List (Int)) (l1_4 : List (Int)) (a2 : Int), (Lit.int .i64 a0_0).wf = true → (Lit.int .i64 a0_1).wf = true → (l0_3.length * 8 ≤ 140737488351232 ∧ l0_3.length ≤ maxLen ∧ ∀ x ∈ l0_3, (Lit.int .i64 x).wf = true) → (l0_4.length * 8 ≤ 140737488351232 ∧ l0_4.length ≤ maxLen ∧ ∀ x ∈ l0_4, (Lit.int .i64 x).wf = true) → (Lit.int .i64 a1_0).wf = true → (Lit.int .i64 a1_1).wf = true → (l1_3.length * 8 ≤ 140737488351232 ∧ l1_3.length ≤ maxLen ∧ ∀ x ∈ l1_3, (Lit.int .i64 x).wf = true) → (l1_4.length * 8 ≤ 140737488351232 ∧ l1_4.length ≤ maxLen ∧ ∀ x ∈ l1_4, (Lit.int .i64 x).wf = true) → (Lit.int .i64 a2).wf = true → ∃ k, substationlaw15_StreamChecks.f k a0_0 a0_1 a0_2 l0_3 l0_4 a1_0 a1_1 a1_2 l1_3 l1_4 a2 = some true
end Go.Proofs.Ytlfphopfoicjpaa.Pure
