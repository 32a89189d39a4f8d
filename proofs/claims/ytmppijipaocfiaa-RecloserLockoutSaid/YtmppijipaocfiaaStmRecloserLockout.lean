/- What is to be proved of the law RecloserLockout in numbers and lists alone. Conditions: none beyond the bounds that its row's reading gives. -/
import Derived.Test.YtmppijipaocfiaaPAllx8
namespace Go.Proofs.Ytmppijipaocfiaa.Pure
open Go.RowKit Go.Proofs.Ytmppijipaocfiaa.PAll Go.Proofs.YtmppijipaocfiaaW.PrintWords Go.Proofs.YtmppijipaocfiaaW.PrintLast
set_option linter.unusedVariables false
def RecloserLockout_Pure : Prop := ∀ (a0_0 : Int) (a0_1 : Int) (a0_2 : Int) (a1_0 : Int) (a1_1 : Int) (a1_2 : Int) (l2 : List (S29)), (Lit.int .i64 a0_0).wf = true → (Lit.int .i64 a0_1).wf = true → (Lit.int .i64 a0_2).wf = true → (Lit.int .i64 a1_0).wf = true → (Lit.int .i64 a1_1).wf = true → (Lit.int .i64 a1_2).wf = true → (l2.length * 4 ≤ 140737488351232 ∧ l2.length ≤ maxLen ∧ ∀ x ∈ l2, ((True) ∧ (True) ∧ (True) ∧ (True))) → ∃ k, substationlaw35_RecloserLockout.f k a0_0 a0_1 a0_2 a1_0 a1_1 a1_2 l2 = some true
end Go.Proofs.Ytmppijipaocfiaa.Pure
