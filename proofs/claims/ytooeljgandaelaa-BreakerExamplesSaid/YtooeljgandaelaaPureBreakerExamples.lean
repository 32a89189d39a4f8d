/- The plain statement of the law BreakerExamples, over numbers and lists alone. Conditions: none. -/
import Derived.Test.YtooeljgandaelaaStmBreakerExamples
import Derived.Test.YtooeljgandaelaaBrk
namespace Go.Proofs.Ytooeljgandaelaa.Pure
open Go.RowKit Go.Proofs.Ytooeljgandaelaa.PAll Go.Proofs.YtooeljgandaelaaW.PrintWords Go.Proofs.YtooeljgandaelaaW.PrintLast
set_option linter.unusedVariables false
set_option linter.unusedSimpArgs false
theorem BreakerExamples : BreakerExamples_Pure := by
  refine ⟨20, ?_⟩
  unfold substationlaw29_BreakerExamples.f
  rw [run_eq false 2 false _ _ (by decide) 20 (by decide), run_eq true 1 true _ _ (by decide) 20 (by decide), run_eq true 0 false _ _ (by decide) 20 (by decide), known29_eq 20 (by decide)]
  have s1 := step_ev (k := 20) (by decide) ⟨false, false, 0, false⟩ 3 false true true
  have s2 := step_ev (k := 20) (by decide) ⟨true, false, 4, false⟩ 3 false false false
  have s3 := step_ev (k := 20) (by decide) ⟨true, false, 1, true⟩ 3 false false true
  have v1 := valid_ev (k := 20) (by decide) ⟨false, false, 0, true⟩ 2
  simp only at s1 s2 s3 v1
  rw [s1, s2, s3, v1]
  simp only [Option.bind_some, breaker_New.f]
  decide

end Go.Proofs.Ytooeljgandaelaa.Pure
