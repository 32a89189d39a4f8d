/- The plain statement of the law BreakerfailureSteps, over numbers and lists alone. Conditions: none. -/
import Derived.Test.YtooeljgandaelaaStmBreakerfailureSteps
namespace Go.Proofs.Ytooeljgandaelaa.Pure
open Go.RowKit Go.Proofs.Ytooeljgandaelaa.PAll Go.Proofs.YtooeljgandaelaaW.PrintWords Go.Proofs.YtooeljgandaelaaW.PrintLast
set_option linter.unusedVariables false
set_option linter.unusedSimpArgs false
theorem wrap_id {x : Int} (h0 : -9223372036854775808 ≤ x) (h1 : x ≤ 9223372036854775807) : wrap64 x = x := by unfold wrap64; omega

theorem mn_eq (a b : Int) : mn a b = min a b := by unfold mn; omega
/-- Usable settings. -/
def usB (on : Bool) (d : Int) : Bool := on && (decide (1 ≤ d) && decide (d ≤ 500))
theorem usB_le {on : Bool} {d : Int} (h : usB on d = true) : on = true ∧ 1 ≤ d ∧ d ≤ 500 := by simpa [usB] using h
theorem us_eq (on : Bool) (p d : Int) : breakerfailure_usable.f on p d = some (usB on d) := by
  unfold breakerfailure_usable.f usB
  by_cases h : on = true
  · by_cases h1 : d ≥ 1
    · simp [h, h1]
    · simp [h, h1]
  · simp [h]
def vaB (on : Bool) (d n : Int) : Bool := decide (n = 0) || (usB on d && (decide (0 < n) && decide (n ≤ d + 1)))
theorem va_eq (on : Bool) (p d n : Int) : breakerfailure_Valid.f on p d n = some (vaB on d n) := by
  unfold breakerfailure_Valid.f vaB
  by_cases h : n = 0
  · simp [h]
  · rw [if_neg h, us_eq]
    by_cases hu : usB on d = true
    · have := usB_le hu
      by_cases h1 : n > 0
      · simp [h, hu, h1, wrap_id (x := d + 1) (by omega) (by omega)]
      · simp [h, hu, h1]
    · simp [h, hu]
/-- The next count. -/
def nxB (on : Bool) (d n : Int) (c a : Bool) : Int := if (vaB on d n && (usB on d && (c && a))) = true then min (n + 1) (d + 1) else 0
def faB (on : Bool) (d n : Int) (c a : Bool) : Bool := (vaB on d n && (usB on d && (c && a))) && decide (d < min (n + 1) (d + 1))
theorem vaB_le {on : Bool} {d n : Int} (h : vaB on d n = true) (hu : usB on d = true) : 0 ≤ n ∧ n ≤ d + 1 := by
  have hd := usB_le hu
  simp [vaB] at h
  omega
theorem st_eq (on : Bool) (p d n : Int) (c a : Bool) : breakerfailure_Step.f on p d n c a = some (nxB on d n c a, faB on d n c a) := by
  unfold breakerfailure_Step.f nxB faB
  rw [va_eq]
  simp only [Option.bind_some]
  by_cases hv : vaB on d n = true
  · rw [if_pos hv, us_eq]
    simp only [Option.bind_some]
    by_cases hu : usB on d = true
    · have h1 := vaB_le hv hu
      have h2 := usB_le hu
      rw [if_pos hu, wrap_id (x := n + 1) (by omega) (by omega), wrap_id (x := d + 1) (by omega) (by omega), mn_eq]
      cases c <;> cases a <;> simp [hv, hu]
    · rw [if_neg hu]; simp [hu]
  · rw [if_neg hv]; simp [hv]
theorem vaB_nx (on : Bool) (d n : Int) (c a : Bool) : vaB on d (nxB on d n c a) = true := by
  unfold nxB
  split
  · rename_i h
    have hv : vaB on d n = true := by simp at h; exact h.1
    have hu : usB on d = true := by simp at h; exact h.2.1
    have h1 := vaB_le hv hu
    have h2 := usB_le hu
    unfold vaB
    rw [hu]
    simp
    omega
  · simp [vaB]

theorem kn : substationlaw32_known.f = some true := by
  unfold substationlaw32_known.f
  simp only [st_eq, Option.bind_some]
  decide

theorem BreakerfailureSteps : BreakerfailureSteps_Pure := by
  intro on p d n c a _ _ _
  have e1 : substationref29_Fail.f on p d n c a = breakerfailure_Step.f on p d n c a := rfl
  have e2 : substationref29_ValidFail.f on p d n = breakerfailure_Valid.f on p d n := rfl
  unfold substationlaw32_BreakerfailureSteps.f
  rw [e1, e2, st_eq, kn, va_eq]
  simp [va_eq, vaB_nx]

end Go.Proofs.Ytooeljgandaelaa.Pure
