/- The plain statement of the law BreakerfailureStuck, over numbers and lists alone. Conditions: none. -/
import Derived.Test.YtooeljgandaelaaStmBreakerfailureStuck
import Derived.Test.YtooeljgandaelaaBrk
namespace Go.Proofs.Ytooeljgandaelaa.Pure
open Go.RowKit Go.Proofs.Ytooeljgandaelaa.PAll Go.Proofs.YtooeljgandaelaaW.PrintWords Go.Proofs.YtooeljgandaelaaW.PrintLast
set_option linter.unusedVariables false
set_option linter.unusedSimpArgs false
theorem mn_eq (a b : Int) : mn a b = min a b := by unfold mn; omega
/-- Usable settings. -/
def usB (on : Bool) (d : Int) : Bool := on && (decide (1 ≤ d) && decide (d ≤ 500))
theorem usB_le {on : Bool} {d : Int} (h : usB on d = true) : on = true ∧ 1 ≤ d ∧ d ≤ 500 := by simpa [usB] using h
theorem us_eq (on : Bool) (p d : Int) : breakerfailure_usable.f on p d = some (usB on d) := by
  unfold breakerfailure_usable.f usB
  by_cases h : on = true
  · by_cases h1 : d ≥ 1
    · simp [h, h1]
    · simp [h, h1]
  · simp [h]
def vaB (on : Bool) (d n : Int) : Bool := decide (n = 0) || (usB on d && (decide (0 < n) && decide (n ≤ d + 1)))
theorem va_eq (on : Bool) (p d n : Int) : breakerfailure_Valid.f on p d n = some (vaB on d n) := by
  unfold breakerfailure_Valid.f vaB
  by_cases h : n = 0
  · simp [h]
  · rw [if_neg h, us_eq]
    by_cases hu : usB on d = true
    · have := usB_le hu
      by_cases h1 : n > 0
      · simp [h, hu, h1, wrap_id (x := d + 1) (by omega) (by omega)]
      · simp [h, hu, h1]
    · simp [h, hu]
/-- The next count. -/
def nxB (on : Bool) (d n : Int) (c a : Bool) : Int := if (vaB on d n && (usB on d && (c && a))) = true then min (n + 1) (d + 1) else 0
def faB (on : Bool) (d n : Int) (c a : Bool) : Bool := (vaB on d n && (usB on d && (c && a))) && decide (d < min (n + 1) (d + 1))
theorem vaB_le {on : Bool} {d n : Int} (h : vaB on d n = true) (hu : usB on d = true) : 0 ≤ n ∧ n ≤ d + 1 := by
  have hd := usB_le hu
  simp [vaB] at h
  omega
theorem st_eq (on : Bool) (p d n : Int) (c a : Bool) : breakerfailure_Step.f on p d n c a = some (nxB on d n c a, faB on d n c a) := by
  unfold breakerfailure_Step.f nxB faB
  rw [va_eq]
  simp only [Option.bind_some]
  by_cases hv : vaB on d n = true
  · rw [if_pos hv, us_eq]
    simp only [Option.bind_some]
    by_cases hu : usB on d = true
    · have h1 := vaB_le hv hu
      have h2 := usB_le hu
      rw [if_pos hu, wrap_id (x := n + 1) (by omega) (by omega), wrap_id (x := d + 1) (by omega) (by omega), mn_eq]
      cases c <;> cases a <;> simp [hv, hu]
    · rw [if_neg hu]; simp [hu]
  · rw [if_neg hv]; simp [hv]
theorem vaB_nx (on : Bool) (d n : Int) (c a : Bool) : vaB on d (nxB on d n c a) = true := by
  unfold nxB
  split
  · rename_i h
    have hv : vaB on d n = true := by simp at h; exact h.1
    have hu : usB on d = true := by simp at h; exact h.2.1
    have h1 := vaB_le hv hu
    have h2 := usB_le hu
    unfold vaB
    rw [hu]
    simp
    omega
  · simp [vaB]

theorem kn : substationlaw32_known.f = some true := by
  unfold substationlaw32_known.f
  simp only [st_eq, Option.bind_some]
  decide

theorem usB_on {d : Int} (h1 : 1 ≤ d) (h2 : d ≤ 500) : usB true d = true := by simp [usB, h1, h2]
theorem vaB_on {d n : Int} (h1 : 1 ≤ d) (h2 : d ≤ 500) (h3 : 0 ≤ n) (h4 : n ≤ d + 1) : vaB true d n = true := by
  unfold vaB
  rw [usB_on h1 h2]
  simp
  omega
theorem stuck_loop (t d fr m0 : Int) (ht : 1 ≤ t) (ht6 : t ≤ 6) (hd : 1 ≤ d) (hd5 : d ≤ 60) (hf0 : 0 ≤ fr) (hf1 : fr ≤ 10) (hm0 : m0 ≤ 90) (m : Nat) : ∀ (k i : Nat) (cm : Bool) (n : Int), (i : Int) + m = m0 → m + 4 ≤ k → (cm = decide (fr < i)) → n = (if fr < i then min ((i : Int) - fr) (d + 1) else 0) →
    substationlaw32_BreakerfailureStuck.l0 k m0 t d fr n (i : Int) true false 0 cm = some true := by
  induction m with
  | zero =>
    intro k i cm n hi hk h1 h2
    obtain ⟨k, rfl⟩ : ∃ m, k = m + 1 := ⟨k - 1, by omega⟩
    simp only [substationlaw32_BreakerfailureStuck.l0]
    rw [if_neg (by omega), kn]; rfl
  | succ m ih =>
    intro k i cm n hi hk h1 h2
    obtain ⟨k, rfl⟩ : ∃ m, k = m + 1 := ⟨k - 1, by omega⟩
    have w1 : wrap64 ((i : Int) + 1) = ((i + 1 : Nat) : Int) := by rw [wrap_id (by omega) (by omega)]; rfl
    have w2 : wrap64 (fr + d) = fr + d := wrap_id (by omega) (by omega)
    simp only [substationlaw32_BreakerfailureStuck.l0]
    rw [if_pos (by omega), step_ev (b := ⟨true, false, 0, cm⟩) (by omega)]
    simp only [Option.bind_some, tup, w1, w2]
    have hv : vB ⟨true, false, 0, cm⟩ t = true := by simp [vB]; omega
    have e : stB ⟨true, false, 0, cm⟩ t true ((i : Int) == fr) false = ⟨true, false, 0, decide (fr < ((i + 1 : Nat) : Int))⟩ := by
      by_cases he : (i : Int) = fr
      · have e2 : ((i : Int) == fr) = true := by simpa using he
        rw [e2]
        simp [stB, hv, mvB, obB]; omega
      · have e2 : ((i : Int) == fr) = false := by simpa using he
        rw [e2, h1]
        rw [h1] at hv
        simp [stB, hv, mvB, obB]; omega
    rw [e, st_eq]
    simp only [Option.bind_some]
    have hus := usB_on (d := d) hd (by omega)
    have hn0 : 0 ≤ n ∧ n ≤ d + 1 := by rw [h2]; split <;> omega
    have hva := vaB_on (n := n) (d := d) hd (by omega) hn0.1 hn0.2
    have en : nxB true d n (decide (fr < ((i + 1 : Nat) : Int))) true = (if fr < ((i + 1 : Nat) : Int) then min (((i + 1 : Nat) : Int) - fr) (d + 1) else 0) := by
      unfold nxB
      rw [hva, hus]
      by_cases h : fr < ((i + 1 : Nat) : Int)
      · rw [if_pos (by simpa using h), if_pos h, h2]
        split <;> omega
      · rw [if_neg (by simpa using h), if_neg h]
    have ef : faB true d n (decide (fr < ((i + 1 : Nat) : Int))) true = decide ((i : Int) ≥ fr + d) := by
      unfold faB
      rw [hva, hus]
      by_cases h : (i : Int) ≥ fr + d
      · have a1 : fr < ((i + 1 : Nat) : Int) := by omega
        have a2 : d < min (n + 1) (d + 1) := by
          rw [h2]; split <;> omega
        rw [decide_eq_true a1, decide_eq_true a2, decide_eq_true h]; rfl
      · have a2 : ¬ (fr < ((i + 1 : Nat) : Int) ∧ d < min (n + 1) (d + 1)) := by
          rw [h2]; split <;> omega
        simp only [h, Bool.true_and, Bool.and_true, decide_false]
        simpa using a2
    rw [en, ef]
    simp only [bne_self_eq_false, Bool.false_eq_true, if_false]
    exact ih k (i + 1) _ _ (by omega) (by omega) rfl rfl
theorem BreakerfailureStuck : BreakerfailureStuck_Pure := by
  intro t d fr m0 _ _ _ _
  refine ⟨m0.toNat + 5, ?_⟩
  have guard : substationlaw32_BreakerfailureStuck.j0 (m0.toNat + 4 + 1) m0 t d fr true = some true := by
    simp only [substationlaw32_BreakerfailureStuck.j0]
    rw [if_pos trivial, kn]; rfl
  unfold substationlaw32_BreakerfailureStuck.f
  by_cases h1 : t < 1
  · rw [if_pos h1]; exact guard
  by_cases h2 : t > 6
  · rw [if_neg h1, if_pos h2]; exact guard
  by_cases h3 : d < 1
  · rw [if_neg h1, if_neg h2, if_pos h3]; exact guard
  by_cases h4 : d > 60
  · rw [if_neg h1, if_neg h2, if_neg h3, if_pos h4]; exact guard
  by_cases h5 : fr < 0
  · rw [if_neg h1, if_neg h2, if_neg h3, if_neg h4, if_pos h5]; exact guard
  by_cases h6 : fr > 10
  · rw [if_neg h1, if_neg h2, if_neg h3, if_neg h4, if_neg h5, if_pos h6]; exact guard
  by_cases h7 : m0 < 0
  · rw [if_neg h1, if_neg h2, if_neg h3, if_neg h4, if_neg h5, if_neg h6, if_pos h7]; exact guard
  rw [if_neg h1, if_neg h2, if_neg h3, if_neg h4, if_neg h5, if_neg h6, if_neg h7]
  by_cases h8 : m0 ≤ 90
  · have hb : decide (m0 > 90) = false := by simp; omega
    rw [hb]
    show substationlaw32_BreakerfailureStuck.j0 (m0.toNat + 4 + 1) m0 t d fr false = some true
    simp only [substationlaw32_BreakerfailureStuck.j0]
    rw [if_neg (by decide)]
    simp only [breaker_New.f, Option.bind_some]
    refine stuck_loop t d fr m0 (by omega) (by omega) (by omega) (by omega) (by omega) (by omega) h8 m0.toNat (m0.toNat + 4) 0 false 0 (by omega) (by omega) ?_ ?_
    · symm; simp; omega
    · rw [if_neg (by omega)]
  · have hb : decide (m0 > 90) = true := by simp; omega
    rw [hb]; exact guard

end Go.Proofs.Ytooeljgandaelaa.Pure
