/- The plain statement of the law BreakerSteps, over numbers and lists alone. Conditions: none. -/
import Derived.Test.YtooeljgandaelaaStmBreakerSteps
import Derived.Test.YtooeljgandaelaaBrk
namespace Go.Proofs.Ytooeljgandaelaa.Pure
open Go.RowKit Go.Proofs.Ytooeljgandaelaa.PAll Go.Proofs.YtooeljgandaelaaW.PrintWords Go.Proofs.YtooeljgandaelaaW.PrintLast
set_option linter.unusedVariables false
set_option linter.unusedSimpArgs false
theorem BreakerSteps : BreakerSteps_Pure := by
  intro c g l m t st op cl _ _
  refine ⟨10, ?_⟩
  unfold substationlaw29_BreakerSteps.f
  rw [known29_eq 10 (by omega), valid_ev (by omega) ⟨c, g, l, m⟩ t, refvalid_ev (by omega) ⟨c, g, l, m⟩ t, step_ev (by omega) ⟨c, g, l, m⟩, refstep_ev (by omega) ⟨c, g, l, m⟩]
  simp

end Go.Proofs.Ytooeljgandaelaa.Pure
