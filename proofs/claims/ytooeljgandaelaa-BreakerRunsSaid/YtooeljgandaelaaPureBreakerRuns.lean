/- The plain statement of the law BreakerRuns, over numbers and lists alone. Conditions: none. -/
import Derived.Test.YtooeljgandaelaaStmBreakerRuns
import Derived.Test.YtooeljgandaelaaBrk
namespace Go.Proofs.Ytooeljgandaelaa.Pure
open Go.RowKit Go.Proofs.Ytooeljgandaelaa.PAll Go.Proofs.YtooeljgandaelaaW.PrintWords Go.Proofs.YtooeljgandaelaaW.PrintLast
set_option linter.unusedVariables false
set_option linter.unusedSimpArgs false
theorem same_loop (l : List S36) (hl : l.length ≤ 1000) (m : Nat) : ∀ (k i : Nat), i + m = l.length → m + 10 ≤ k → substationlaw29_BreakerRuns.l0 k l l (l.length : Int) (i : Int) = some true := by
  induction m with
  | zero =>
    intro k i hi hk
    obtain ⟨k, rfl⟩ : ∃ m, k = m + 1 := ⟨k - 1, by omega⟩
    simp only [substationlaw29_BreakerRuns.l0]
    rw [if_neg (by omega), known29_eq k (by omega)]; rfl
  | succ m ih =>
    intro k i hi hk
    obtain ⟨k, rfl⟩ : ∃ m, k = m + 1 := ⟨k - 1, by omega⟩
    have w1 : wrap64 ((i : Int) + 1) = ((i + 1 : Nat) : Int) := by rw [wrap_id (by omega) (by omega)]; rfl
    simp only [substationlaw29_BreakerRuns.l0]
    rw [if_pos (by omega), if_pos (by omega), if_pos (by omega), if_pos (by omega), if_neg (by simp), w1]
    exact ih k (i + 1) (by omega) (by omega)
theorem BreakerRuns : BreakerRuns_Pure := by
  intro cl t st o c _ _ _
  refine ⟨o.length + 1011, ?_⟩
  unfold substationlaw29_BreakerRuns.f
  have guard : substationlaw29_BreakerRuns.j0 (o.length + 1010 + 1) true cl t st o c = some true := by
    simp only [substationlaw29_BreakerRuns.j0]
    rw [if_pos trivial, known29_eq _ (by omega)]; rfl
  by_cases h1 : (o.length : Int) > 80
  · rw [if_pos h1]; exact guard
  · rw [if_neg h1]
    by_cases h2 : (c.length : Int) > 80
    · rw [decide_eq_true h2]; exact guard
    · rw [decide_eq_false h2]
      show substationlaw29_BreakerRuns.j0 (o.length + 1010 + 1) false cl t st o c = some true
      simp only [substationlaw29_BreakerRuns.j0]
      rw [if_neg (by decide), run_eq cl t st o c (by omega) _ (by omega), refrun_eq cl t st o c (by omega) _ (by omega)]
      simp only [Option.bind_some]
      rw [if_pos trivial]
      generalize hX : (if 1 ≤ t ∧ t ≤ 6 ∧ o.length = c.length then runB t st o c ⟨cl, false, 0, false⟩ o.length else []) = X
      have hl : X.length ≤ 80 := by
        rw [← hX]; split
        · rw [runB_length]; omega
        · simp
      exact same_loop X (by omega) X.length _ 0 (by omega) (by omega)

end Go.Proofs.Ytooeljgandaelaa.Pure
