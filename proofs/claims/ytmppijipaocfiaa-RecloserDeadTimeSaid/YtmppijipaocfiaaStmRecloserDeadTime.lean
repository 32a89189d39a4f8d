/- What is to be proved of the law RecloserDeadTime in numbers and lists alone. Conditions: none beyond the bounds that its row's reading gives. -/
import Derived.Test.YtmppijipaocfiaaPAllx7
namespace Go.Proofs.Ytmppijipaocfiaa.Pure
open Go.RowKit Go.Proofs.Ytmppijipaocfiaa.PAll Go.Proofs.YtmppijipaocfiaaW.PrintWords Go.Proofs.YtmppijipaocfiaaW.PrintLast
set_option linter.unusedVariables false
def RecloserDeadTime_Pure : Prop := ∀ (a0_0 : Int) (a0_1 : Int) (a0_2 : Int) (l1 : List (S29)), (Lit.int .i64 a0_0).wf = true → (Lit.int .i64 a0_1).wf = true → (Lit.int .i64 a0_2).wf = true → (l1.length * 4 ≤ 140737488351232 ∧ l1.length ≤ maxLen ∧ ∀ x ∈ l1, ((True) ∧ (True) ∧ (True) ∧ (True))) → ∃ k, substationlaw35_RecloserDeadTime.f k a0_0 a0_1 a0_2 l1 = some true
end Go.Proofs.Ytmppijipaocfiaa.Pure
