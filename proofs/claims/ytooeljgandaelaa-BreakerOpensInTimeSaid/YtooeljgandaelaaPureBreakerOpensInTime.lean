/- The plain statement of the law BreakerOpensInTime, over numbers and lists alone. Conditions: none. -/
import Derived.Test.YtooeljgandaelaaStmBreakerOpensInTime
import Derived.Test.YtooeljgandaelaaBrk
namespace Go.Proofs.Ytooeljgandaelaa.Pure
open Go.RowKit Go.Proofs.Ytooeljgandaelaa.PAll Go.Proofs.YtooeljgandaelaaW.PrintWords Go.Proofs.YtooeljgandaelaaW.PrintLast
set_option linter.unusedVariables false
set_option linter.unusedSimpArgs false
theorem opening_step (t : Int) (ht : 1 ≤ t) (ht6 : t ≤ 6) (L : Int) (h1 : 1 ≤ L) (h2 : L ≤ t) (op cl : Bool) (hc : L = 1 → cl = false) :
    stB ⟨true, false, L, true⟩ t false op cl = (if L = 1 then ⟨false, false, 0, false⟩ else ⟨true, false, L - 1, true⟩) := by
  have hv : vB ⟨true, false, L, true⟩ t = true := by simp [vB]; omega
  have n0 : ¬ L = 0 := by omega
  unfold stB
  rw [if_pos hv]
  by_cases h : L = 1
  · rw [if_pos h, hc h]
    cases op <;> simp [mvB, obB, h]
  · have n1 : ¬ L - 1 = 0 := by omega
    rw [if_neg h]
    simp [mvB, obB, h, n0, n1]
theorem opens_loop (t : Int) (ht : 1 ≤ t) (ht6 : t ≤ 6) (o c : List Bool) (hn : o.length = c.length) (m : Nat) : ∀ (k i : Nat) (b : S36), (i : Int) + m = t → 2 * m + 9 ≤ k → b = (if (i : Int) = t then ⟨false, false, 0, false⟩ else ⟨true, false, t - i, true⟩) →
    substationlaw29_BreakerOpensInTime.l0 k t o c (i : Int) b.f0 b.f1 b.f2 b.f3 = some true := by
  induction m with
  | zero =>
    intro k i b hi hk hb
    obtain ⟨k, rfl⟩ : ∃ m, k = m + 1 := ⟨k - 1, by omega⟩
    rw [if_pos (by omega)] at hb
    subst hb
    simp only [substationlaw29_BreakerOpensInTime.l0]
    rw [if_neg (by omega), known29_eq k (by omega)]
    rfl
  | succ m ih =>
    intro k i b hi hk hb
    obtain ⟨k, rfl⟩ : ∃ m, k = m + 2 := ⟨k - 2, by omega⟩
    rw [if_neg (by omega)] at hb
    have w1 : wrap64 ((i : Int) + 1) = ((i + 1 : Nat) : Int) := by rw [wrap_id (by omega) (by omega)]; rfl
    have w2 : wrap64 (t - (i : Int)) = t - i := wrap_id (by omega) (by omega)
    have w3 : wrap64 (t - 1) = t - 1 := wrap_id (by omega) (by omega)
    have hs : ∀ (op cl : Bool), ((i : Int) = t - 1 → cl = false) → stB b t false op cl = (if ((i + 1 : Nat) : Int) = t then ⟨false, false, 0, false⟩ else ⟨true, false, t - ((i + 1 : Nat) : Int), true⟩) := by
      intro op cl h
      rw [hb, opening_step t ht ht6 (t - i) (by omega) (by omega) op cl (fun h' => h (by omega))]
      by_cases h' : t - (i : Int) = 1
      · rw [if_pos h', if_pos (by omega)]
      · rw [if_neg h', if_neg (by omega)]
        congr 1
        omega
    have fin : ∀ (op cl : Bool), ((i : Int) = t - 1 → cl = false) → ((breaker_Step.f k b.f0 b.f1 b.f2 b.f3 t false op cl).bind fun bt => substationlaw29_BreakerOpensInTime.l0 k t o c ((i + 1 : Nat) : Int) bt.1 bt.2.1 bt.2.2.1 bt.2.2.2) = some true := by
      intro op cl h
      rw [step_ev (by omega)]
      simp only [Option.bind_some, tup]
      exact ih k (i + 1) (stB b t false op cl) (by omega) (by omega) (hs op cl h)
    have b0 : b.f0 = true := by rw [hb]
    have b2 : b.f2 = t - i := by rw [hb]
    have b3 : b.f3 = true := by rw [hb]
    simp only [substationlaw29_BreakerOpensInTime.l0]
    rw [if_pos (by omega), if_pos b0, if_pos b3]
    have hne : (b.f2 != wrap64 (t - (i : Int))) = false := by rw [w2, b2]; simp
    rw [hne]
    simp only [substationlaw29_BreakerOpensInTime.j2, w1, w3]
    rw [if_neg (by decide)]
    by_cases hlt : (i : Int) < (o.length : Int)
    · rw [if_pos hlt, if_pos (by omega), if_pos (by omega)]
      split
      · exact fin _ _ (fun _ => rfl)
      · exact fin _ _ (fun h => by omega)
    · rw [if_neg hlt, if_neg (by omega)]
      split
      · exact fin _ _ (fun _ => rfl)
      · exact fin _ _ (fun h => by omega)
theorem BreakerOpensInTime : BreakerOpensInTime_Pure := by
  intro t o c _ _ _
  refine ⟨40, ?_⟩
  unfold substationlaw29_BreakerOpensInTime.f
  have guard : substationlaw29_BreakerOpensInTime.j0 (39 + 1) t o c true = some true := by
    simp only [substationlaw29_BreakerOpensInTime.j0]
    rw [if_pos trivial, known29_eq 39 (by omega)]; rfl
  by_cases h1 : t < 1
  · rw [if_pos h1]; exact guard
  by_cases h2 : t > 6
  · rw [if_neg h1, if_pos h2]; exact guard
  rw [if_neg h1, if_neg h2]
  by_cases h3 : o.length = c.length
  · rw [if_pos (by omega)]
    by_cases h4 : (o.length : Int) > 60
    · rw [decide_eq_true h4]; exact guard
    · rw [decide_eq_false h4]
      show substationlaw29_BreakerOpensInTime.j0 (39 + 1) t o c false = some true
      simp only [substationlaw29_BreakerOpensInTime.j0]
      rw [if_neg (by decide)]
      simp only [breaker_New.f, Option.bind_some]
      rw [step_ev (by omega) ⟨true, false, 0, false⟩]
      simp only [Option.bind_some, tup]
      have hv : vB ⟨true, false, 0, false⟩ t = true := by simp [vB]; omega
      have e : stB ⟨true, false, 0, false⟩ t false true false = ⟨true, false, t, true⟩ := by
        unfold stB; rw [if_pos hv]; simp [mvB, obB]
      rw [e]
      exact opens_loop t (by omega) (by omega) o c h3 t.toNat 39 0 ⟨true, false, t, true⟩ (by omega) (by omega) (by rw [if_neg (by omega)]; simp)
  · rw [if_neg (by omega)]; exact guard

end Go.Proofs.Ytooeljgandaelaa.Pure
