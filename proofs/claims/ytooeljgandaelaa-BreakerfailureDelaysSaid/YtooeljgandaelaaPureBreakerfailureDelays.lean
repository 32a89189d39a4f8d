/- The plain statement of the law BreakerfailureDelays, over numbers and lists alone. Conditions: none. -/
import Derived.Test.YtooeljgandaelaaStmBreakerfailureDelays
namespace Go.Proofs.Ytooeljgandaelaa.Pure
open Go.RowKit Go.Proofs.Ytooeljgandaelaa.PAll Go.Proofs.YtooeljgandaelaaW.PrintWords Go.Proofs.YtooeljgandaelaaW.PrintLast
set_option linter.unusedVariables false
set_option linter.unusedSimpArgs false
theorem wrap_id {x : Int} (h0 : -9223372036854775808 ≤ x) (h1 : x ≤ 9223372036854775807) : wrap64 x = x := by unfold wrap64; omega

theorem mn_eq (a b : Int) : mn a b = min a b := by unfold mn; omega
/-- Usable settings. -/
def usB (on : Bool) (d : Int) : Bool := on && (decide (1 ≤ d) && decide (d ≤ 500))
theorem usB_le {on : Bool} {d : Int} (h : usB on d = true) : on = true ∧ 1 ≤ d ∧ d ≤ 500 := by simpa [usB] using h
theorem us_eq (on : Bool) (p d : Int) : breakerfailure_usable.f on p d = some (usB on d) := by
  unfold breakerfailure_usable.f usB
  by_cases h : on = true
  · by_cases h1 : d ≥ 1
    · simp [h, h1]
    · simp [h, h1]
  · simp [h]
def vaB (on : Bool) (d n : Int) : Bool := decide (n = 0) || (usB on d && (decide (0 < n) && decide (n ≤ d + 1)))
theorem va_eq (on : Bool) (p d n : Int) : breakerfailure_Valid.f on p d n = some (vaB on d n) := by
  unfold breakerfailure_Valid.f vaB
  by_cases h : n = 0
  · simp [h]
  · rw [if_neg h, us_eq]
    by_cases hu : usB on d = true
    · have := usB_le hu
      by_cases h1 : n > 0
      · simp [h, hu, h1, wrap_id (x := d + 1) (by omega) (by omega)]
      · simp [h, hu, h1]
    · simp [h, hu]
/-- The next count. -/
def nxB (on : Bool) (d n : Int) (c a : Bool) : Int := if (vaB on d n && (usB on d && (c && a))) = true then min (n + 1) (d + 1) else 0
def faB (on : Bool) (d n : Int) (c a : Bool) : Bool := (vaB on d n && (usB on d && (c && a))) && decide (d < min (n + 1) (d + 1))
theorem vaB_le {on : Bool} {d n : Int} (h : vaB on d n = true) (hu : usB on d = true) : 0 ≤ n ∧ n ≤ d + 1 := by
  have hd := usB_le hu
  simp [vaB] at h
  omega
theorem st_eq (on : Bool) (p d n : Int) (c a : Bool) : breakerfailure_Step.f on p d n c a = some (nxB on d n c a, faB on d n c a) := by
  unfold breakerfailure_Step.f nxB faB
  rw [va_eq]
  simp only [Option.bind_some]
  by_cases hv : vaB on d n = true
  · rw [if_pos hv, us_eq]
    simp only [Option.bind_some]
    by_cases hu : usB on d = true
    · have h1 := vaB_le hv hu
      have h2 := usB_le hu
      rw [if_pos hu, wrap_id (x := n + 1) (by omega) (by omega), wrap_id (x := d + 1) (by omega) (by omega), mn_eq]
      cases c <;> cases a <;> simp [hv, hu]
    · rw [if_neg hu]; simp [hu]
  · rw [if_neg hv]; simp [hv]
theorem vaB_nx (on : Bool) (d n : Int) (c a : Bool) : vaB on d (nxB on d n c a) = true := by
  unfold nxB
  split
  · rename_i h
    have hv : vaB on d n = true := by simp at h; exact h.1
    have hu : usB on d = true := by simp at h; exact h.2.1
    have h1 := vaB_le hv hu
    have h2 := usB_le hu
    unfold vaB
    rw [hu]
    simp
    omega
  · simp [vaB]

theorem kn : substationlaw32_known.f = some true := by
  unfold substationlaw32_known.f
  simp only [st_eq, Option.bind_some]
  decide

theorem usB_on {d : Int} (h1 : 1 ≤ d) (h2 : d ≤ 500) : usB true d = true := by simp [usB, h1, h2]
theorem vaB_on {d n : Int} (h1 : 1 ≤ d) (h2 : d ≤ 500) (h3 : 0 ≤ n) (h4 : n ≤ d + 1) : vaB true d n = true := by
  unfold vaB
  rw [usB_on h1 h2]
  simp
  omega
theorem delays_loop (d : Int) (h1 : 1 ≤ d) (h2 : d ≤ 500) (c a : List Bool) (hc : c.length = a.length) (hn : a.length ≤ 80) (m : Nat) : ∀ (k i : Nat) (run : Int), i + m = a.length → 2 * m + 3 ≤ k → 0 ≤ run → run ≤ i →
    substationlaw32_BreakerfailureDelays.l0 k d c a (min run (d + 1)) run (a.length : Int) (i : Int) = some true := by
  induction m with
  | zero =>
    intro k i run hi hk h3 h4
    obtain ⟨k, rfl⟩ : ∃ m, k = m + 1 := ⟨k - 1, by omega⟩
    simp only [substationlaw32_BreakerfailureDelays.l0]
    rw [if_neg (by omega), kn]; rfl
  | succ m ih =>
    intro k i run hi hk h3 h4
    obtain ⟨k, rfl⟩ : ∃ m, k = m + 2 := ⟨k - 2, by omega⟩
    have w1 : wrap64 ((i : Int) + 1) = ((i + 1 : Nat) : Int) := by rw [wrap_id (by omega) (by omega)]; rfl
    have w2 : wrap64 (run + 1) = run + 1 := wrap_id (by omega) (by omega)
    simp only [substationlaw32_BreakerfailureDelays.l0]
    rw [if_pos (by omega), if_pos (by omega), if_pos (by omega), if_pos (by omega), st_eq]
    simp only [Option.bind_some, w2]
    have hva := vaB_on (n := min run (d + 1)) h1 h2 (by omega) (by omega)
    have hus := usB_on h1 h2
    have hz := ih k (i + 1) 0 (by omega) (by omega) (by omega) (by omega)
    have hp := ih k (i + 1) (run + 1) (by omega) (by omega) (by omega) (by omega)
    have hd0 : decide (0 > d) = false := by simp; omega
    rw [show min (0 : Int) (d + 1) = 0 by omega] at hz
    generalize hcb : rdOf false c (i : Int) = cb
    generalize hab : rdOf false a (i : Int) = ab
    cases cb
    · rw [if_neg (by decide)]
      simp only [substationlaw32_BreakerfailureDelays.j2, nxB, faB]
      rw [if_pos trivial]
      simp only [Bool.false_and, Bool.and_false, hd0, w1]
      simpa using hz
    · rw [if_pos rfl]
      cases ab
      · simp only [substationlaw32_BreakerfailureDelays.j2, nxB, faB]
        simp only [Bool.not_false, Bool.false_and, Bool.and_false, hd0, w1]
        simpa using hz
      · simp only [substationlaw32_BreakerfailureDelays.j2, nxB, faB]
        have e1 : min (min run (d + 1) + 1) (d + 1) = min (run + 1) (d + 1) := by omega
        have e2 : decide (d < min (run + 1) (d + 1)) = decide (run + 1 > d) := by
          by_cases h : run + 1 > d
          · have : d < min (run + 1) (d + 1) := by omega
            rw [decide_eq_true this, decide_eq_true h]
          · have : ¬ d < min (run + 1) (d + 1) := by omega
            rw [decide_eq_false this, decide_eq_false h]
        simp only [Bool.not_true, hva, hus, Bool.and_self, Bool.and_true, Bool.true_and, if_true, e1, e2, w1]
        simpa using hp
theorem BreakerfailureDelays : BreakerfailureDelays_Pure := by
  intro d c a _ _ _
  refine ⟨2 * a.length + 5, ?_⟩
  have guard : substationlaw32_BreakerfailureDelays.j0 (2 * a.length + 5) d c a true = some true := by
    show substationlaw32_BreakerfailureDelays.j0 (2 * a.length + 4 + 1) d c a true = _
    simp only [substationlaw32_BreakerfailureDelays.j0]
    rw [if_pos trivial, kn]; rfl
  unfold substationlaw32_BreakerfailureDelays.f
  by_cases h1 : d < 1
  · rw [if_pos h1]; exact guard
  by_cases h2 : d > 500
  · rw [if_neg h1, if_pos h2]; exact guard
  rw [if_neg h1, if_neg h2]
  by_cases h3 : c.length = a.length
  · rw [if_pos (by omega)]
    by_cases h4 : a.length ≤ 80
    · have hb : decide ((a.length : Int) > 80) = false := by simp; omega
      rw [hb]
      show substationlaw32_BreakerfailureDelays.j0 (2 * a.length + 4 + 1) d c a false = _
      simp only [substationlaw32_BreakerfailureDelays.j0]
      rw [if_neg (by decide)]
      have := delays_loop d (by omega) (by omega) c a h3 h4 a.length (2 * a.length + 4) 0 0 (by omega) (by omega) (by omega) (by omega)
      rw [show min (0 : Int) (d + 1) = 0 by omega] at this
      exact this
    · have hb : decide ((a.length : Int) > 80) = true := by simp; omega
      rw [hb]; exact guard
  · rw [if_neg (by omega)]; exact guard

end Go.Proofs.Ytooeljgandaelaa.Pure
