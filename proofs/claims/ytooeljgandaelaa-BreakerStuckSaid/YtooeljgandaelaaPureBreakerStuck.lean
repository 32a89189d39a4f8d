/- The plain statement of the law BreakerStuck, over numbers and lists alone. Conditions: none. -/
import Derived.Test.YtooeljgandaelaaStmBreakerStuck
import Derived.Test.YtooeljgandaelaaBrk
namespace Go.Proofs.Ytooeljgandaelaa.Pure
open Go.RowKit Go.Proofs.Ytooeljgandaelaa.PAll Go.Proofs.YtooeljgandaelaaW.PrintWords Go.Proofs.YtooeljgandaelaaW.PrintLast
set_option linter.unusedVariables false
set_option linter.unusedSimpArgs false
def anyTo (o : List Bool) : Nat → Bool
  | 0 => false
  | i + 1 => anyTo o i || o.getD i false
theorem stuck_at (t : Int) (ht : 1 ≤ t) (ht6 : t ≤ 6) (o c : List Bool) (i : Nat) : stAt t true o c ⟨true, false, 0, false⟩ i = ⟨true, false, 0, anyTo o i⟩ := by
  induction i with
  | zero => rfl
  | succ i ih =>
    show stB _ t true _ _ = _
    rw [ih]
    have hv : ∀ m, vB ⟨true, false, 0, m⟩ t = true := by intro m; simp [vB]; omega
    unfold stB
    rw [if_pos (hv _)]
    simp only [anyTo]
    cases o.getD i false
    · simp [mvB, obB]
    · simp [mvB, obB]
theorem stuck_loop (t : Int) (ht : 1 ≤ t) (ht6 : t ≤ 6) (o c : List Bool) (hn : o.length ≤ 80) (m : Nat) : ∀ (k i : Nat), i + m = o.length → m + 10 ≤ k →
    substationlaw29_BreakerStuck.l0 k o (anyTo o i) (runB t true o c ⟨true, false, 0, false⟩ o.length) (o.length : Int) (i : Int) = some true := by
  induction m with
  | zero =>
    intro k i hi hk
    obtain ⟨k, rfl⟩ : ∃ m, k = m + 1 := ⟨k - 1, by omega⟩
    simp only [substationlaw29_BreakerStuck.l0]
    rw [if_neg (by omega), known29_eq k (by omega)]; rfl
  | succ m ih =>
    intro k i hi hk
    obtain ⟨k, rfl⟩ : ∃ m, k = m + 1 := ⟨k - 1, by omega⟩
    have w1 : wrap64 ((i : Int) + 1) = ((i + 1 : Nat) : Int) := by rw [wrap_id (by omega) (by omega)]; rfl
    have hz := ih k (i + 1) (by omega) (by omega)
    simp only [substationlaw29_BreakerStuck.l0]
    rw [if_pos (by omega), if_pos (by omega), if_pos (by rw [runB_length]; omega), runB_get _ _ _ _ _ _ _ (by omega), stuck_at t ht ht6, w1]
    have e : anyTo o (i + 1) = (anyTo o i || o.getD i false) := rfl
    have er : rdOf false o (i : Int) = o.getD i false := by simp [rdOf]
    rw [er]
    simp only
    by_cases h : anyTo o i = true
    · rw [if_pos h, if_pos trivial, if_pos trivial]
      have e1 : anyTo o (i + 1) = true := by rw [e, h]; rfl
      rw [e1] at hz ⊢
      rw [if_neg (by decide)]
      exact hz
    · rw [if_neg h, if_pos (by omega), if_pos trivial, if_pos trivial]
      have e1 : anyTo o (i + 1) = o.getD i false := by rw [e]; simp [h]
      rw [e1] at hz ⊢
      rw [if_neg (by simp)]
      exact hz
theorem BreakerStuck : BreakerStuck_Pure := by
  intro t o c _ _ _
  refine ⟨o.length + 21, ?_⟩
  unfold substationlaw29_BreakerStuck.f
  have guard : substationlaw29_BreakerStuck.j0 (o.length + 20 + 1) t o c true = some true := by
    simp only [substationlaw29_BreakerStuck.j0]
    rw [if_pos trivial, known29_eq _ (by omega)]; rfl
  by_cases h1 : t < 1
  · rw [if_pos h1]; exact guard
  by_cases h2 : t > 6
  · rw [if_neg h1, if_pos h2]; exact guard
  rw [if_neg h1, if_neg h2]
  by_cases h3 : o.length = c.length
  · rw [if_pos (by omega)]
    by_cases h4 : (o.length : Int) > 80
    · rw [decide_eq_true h4]; exact guard
    · rw [decide_eq_false h4]
      show substationlaw29_BreakerStuck.j0 (o.length + 20 + 1) t o c false = some true
      simp only [substationlaw29_BreakerStuck.j0]
      rw [if_neg (by decide), run_eq true t true o c (by omega) _ (by omega)]
      simp only [Option.bind_some]
      rw [show (if 1 ≤ t ∧ t ≤ 6 ∧ o.length = c.length then runB t true o c ⟨true, false, 0, false⟩ o.length else []) = runB t true o c ⟨true, false, 0, false⟩ o.length from if_pos ⟨by omega, by omega, h3⟩, runB_length, if_pos rfl]
      exact stuck_loop t (by omega) (by omega) o c (by omega) o.length _ 0 (by omega) (by omega)
  · rw [if_neg (by omega)]; exact guard

end Go.Proofs.Ytooeljgandaelaa.Pure
