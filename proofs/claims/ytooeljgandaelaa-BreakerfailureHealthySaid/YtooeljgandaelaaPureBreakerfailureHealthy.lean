/- The plain statement of the law BreakerfailureHealthy, over numbers and lists alone. Conditions: none. -/
import Derived.Test.YtooeljgandaelaaStmBreakerfailureHealthy
import Derived.Test.YtooeljgandaelaaBrk
namespace Go.Proofs.Ytooeljgandaelaa.Pure
open Go.RowKit Go.Proofs.Ytooeljgandaelaa.PAll Go.Proofs.YtooeljgandaelaaW.PrintWords Go.Proofs.YtooeljgandaelaaW.PrintLast
set_option linter.unusedVariables false
set_option linter.unusedSimpArgs false
theorem mn_eq (a b : Int) : mn a b = min a b := by unfold mn; omega
/-- Usable settings. -/
def usB (on : Bool) (d : Int) : Bool := on && (decide (1 ≤ d) && decide (d ≤ 500))
theorem usB_le {on : Bool} {d : Int} (h : usB on d = true) : on = true ∧ 1 ≤ d ∧ d ≤ 500 := by simpa [usB] using h
theorem us_eq (on : Bool) (p d : Int) : breakerfailure_usable.f on p d = some (usB on d) := by
  unfold breakerfailure_usable.f usB
  by_cases h : on = true
  · by_cases h1 : d ≥ 1
    · simp [h, h1]
    · simp [h, h1]
  · simp [h]
def vaB (on : Bool) (d n : Int) : Bool := decide (n = 0) || (usB on d && (decide (0 < n) && decide (n ≤ d + 1)))
theorem va_eq (on : Bool) (p d n : Int) : breakerfailure_Valid.f on p d n = some (vaB on d n) := by
  unfold breakerfailure_Valid.f vaB
  by_cases h : n = 0
  · simp [h]
  · rw [if_neg h, us_eq]
    by_cases hu : usB on d = true
    · have := usB_le hu
      by_cases h1 : n > 0
      · simp [h, hu, h1, wrap_id (x := d + 1) (by omega) (by omega)]
      · simp [h, hu, h1]
    · simp [h, hu]
/-- The next count. -/
def nxB (on : Bool) (d n : Int) (c a : Bool) : Int := if (vaB on d n && (usB on d && (c && a))) = true then min (n + 1) (d + 1) else 0
def faB (on : Bool) (d n : Int) (c a : Bool) : Bool := (vaB on d n && (usB on d && (c && a))) && decide (d < min (n + 1) (d + 1))
theorem vaB_le {on : Bool} {d n : Int} (h : vaB on d n = true) (hu : usB on d = true) : 0 ≤ n ∧ n ≤ d + 1 := by
  have hd := usB_le hu
  simp [vaB] at h
  omega
theorem st_eq (on : Bool) (p d n : Int) (c a : Bool) : breakerfailure_Step.f on p d n c a = some (nxB on d n c a, faB on d n c a) := by
  unfold breakerfailure_Step.f nxB faB
  rw [va_eq]
  simp only [Option.bind_some]
  by_cases hv : vaB on d n = true
  · rw [if_pos hv, us_eq]
    simp only [Option.bind_some]
    by_cases hu : usB on d = true
    · have h1 := vaB_le hv hu
      have h2 := usB_le hu
      rw [if_pos hu, wrap_id (x := n + 1) (by omega) (by omega), wrap_id (x := d + 1) (by omega) (by omega), mn_eq]
      cases c <;> cases a <;> simp [hv, hu]
    · rw [if_neg hu]; simp [hu]
  · rw [if_neg hv]; simp [hv]
theorem vaB_nx (on : Bool) (d n : Int) (c a : Bool) : vaB on d (nxB on d n c a) = true := by
  unfold nxB
  split
  · rename_i h
    have hv : vaB on d n = true := by simp at h; exact h.1
    have hu : usB on d = true := by simp at h; exact h.2.1
    have h1 := vaB_le hv hu
    have h2 := usB_le hu
    unfold vaB
    rw [hu]
    simp
    omega
  · simp [vaB]

theorem kn : substationlaw32_known.f = some true := by
  unfold substationlaw32_known.f
  simp only [st_eq, Option.bind_some]
  decide

theorem usB_on {d : Int} (h1 : 1 ≤ d) (h2 : d ≤ 500) : usB true d = true := by simp [usB, h1, h2]
theorem vaB_on {d n : Int} (h1 : 1 ≤ d) (h2 : d ≤ 500) (h3 : 0 ≤ n) (h4 : n ≤ d + 1) : vaB true d n = true := by
  unfold vaB
  rw [usB_on h1 h2]
  simp
  omega
/-- Before step i: not commanded yet; opening; or opened, without a command. -/
inductive Hea (t fr : Int) (i : Nat) (b : S36) (n : Int) : Prop
  | before (h : (i : Int) ≤ fr) (hb : b = ⟨true, false, 0, false⟩) (hn : n = 0)
  | opening (h : fr < i) (h' : (i : Int) - fr ≤ t) (hb : b = ⟨true, false, t - (i - 1 - fr), true⟩) (hn : n = i - fr)
  | done (h : fr < i) (hb : b.f3 = false) (hn : n = 0)
theorem hea_step {t d fr : Int} (ht : 1 ≤ t) (ht6 : t ≤ 6) (hd : t ≤ d) (hd5 : d ≤ 500) {i : Nat} {b : S36} {n : Int} (h : Hea t fr i b n) (c : Bool) (op : Bool) (hop : op = ((i : Int) == fr)) (hc : c = true → (i : Int) > fr) :
    Hea t fr (i + 1) (stB b t false op c) (nxB true d n (stB b t false op c).f3 (stB b t false op c).f0) ∧ faB true d n (stB b t false op c).f3 (stB b t false op c).f0 = false := by
  have hus := usB_on (d := d) (by omega) hd5
  cases h with
  | before h hb hn =>
    subst hb hn
    have hv : vB ⟨true, false, 0, false⟩ t = true := by simp [vB]; omega
    by_cases he : (i : Int) = fr
    · have ho : op = true := by rw [hop]; simpa using he
      subst ho
      have e : stB ⟨true, false, 0, false⟩ t false true c = ⟨true, false, t, true⟩ := by simp [stB, hv, mvB, obB]
      rw [e]
      have hva := vaB_on (n := 0) (by omega) hd5 (by omega) (by omega)
      have hm : min ((0 : Int) + 1) (d + 1) = 1 := by omega
      refine ⟨.opening (by omega) (by omega) ?_ ?_, ?_⟩
      · rw [show t - (((i + 1 : Nat) : Int) - 1 - fr) = t by omega]
      · simp only [nxB, hva, hus, hm]; simp; omega
      · simp only [faB, hva, hus, hm]; simp; omega
    · have ho : op = false := by rw [hop]; simpa using he
      subst ho
      have hcf : c = false := by
        cases c
        · rfl
        · have := hc rfl; omega
      subst hcf
      have e : stB ⟨true, false, 0, false⟩ t false false false = ⟨true, false, 0, false⟩ := by simp [stB, hv, mvB, obB]
      rw [e]
      exact ⟨.before (by omega) rfl (by simp [nxB]), by simp [faB]⟩
  | opening h h' hb hn =>
    have ho : op = false := by rw [hop]; simp; omega
    subst ho hn
    have hv : vB b t = true := by rw [hb]; simp [vB]; omega
    by_cases hl : (i : Int) - fr = t
    · have hf : (stB b t false false c).f3 = false := by
        rw [hb] at hv ⊢
        have e1 : t - ((i : Int) - 1 - fr) = 1 := by omega
        rw [e1] at hv ⊢
        cases c <;> simp [stB, hv, mvB, obB]
      rw [hf]
      exact ⟨.done (by omega) hf (by simp [nxB]), by simp [faB]⟩
    · have e : stB b t false false c = ⟨true, false, t - (i - fr), true⟩ := by
        rw [hb] at hv ⊢
        have n1 : ¬ t - ((i : Int) - 1 - fr) = 0 := by omega
        have n2 : ¬ t - ((i : Int) - 1 - fr) = 1 := by omega
        have n3 : ¬ t - ((i : Int) - 1 - fr) - 1 = 0 := by omega
        simp [stB, hv, mvB, obB, n1, n2, n3]
        omega
      rw [e]
      have hva := vaB_on (n := (i : Int) - fr) (d := d) (by omega) hd5 (by omega) (by omega)
      have hm : min ((i : Int) - fr + 1) (d + 1) = (i : Int) - fr + 1 := by omega
      refine ⟨.opening (by omega) (by omega) ?_ ?_, ?_⟩
      · rw [show t - (((i + 1 : Nat) : Int) - 1 - fr) = t - (i - fr) by omega]
      · simp only [nxB, hva, hus, hm]; simp; omega
      · simp only [faB, hva, hus, hm]; simp; omega
  | done h hb hn =>
    have ho : op = false := by rw [hop]; simp; omega
    subst ho hn
    have hf : (stB b t false false c).f3 = false := by
      unfold stB
      split
      · have hm : (mvB b).f3 = false := by
          unfold mvB; split
          · exact hb
          · split
            · simp [hb]
            · exact hb
        unfold obB
        simp
        split
        · exact hm
        · exact hm
      · rfl
    rw [hf]
    exact ⟨.done (by omega) hf (by simp [nxB]), by simp [faB]⟩
theorem healthy_loop (t d fr : Int) (ht : 1 ≤ t) (ht6 : t ≤ 6) (hd : t ≤ d) (hd5 : d ≤ 500) (hf0 : 0 ≤ fr) (hf1 : fr ≤ 10) (cl : List Bool) (hn : cl.length ≤ 60) (m : Nat) : ∀ (k i : Nat) (b : S36) (n : Int), i + m = cl.length → m + 4 ≤ k → Hea t fr i b n →
    substationlaw32_BreakerfailureHealthy.l0 k t d fr n cl (cl.length : Int) (i : Int) b.f0 b.f1 b.f2 b.f3 = some true := by
  induction m with
  | zero =>
    intro k i b n hi hk h
    obtain ⟨k, rfl⟩ : ∃ m, k = m + 1 := ⟨k - 1, by omega⟩
    simp only [substationlaw32_BreakerfailureHealthy.l0]
    rw [if_neg (by omega), kn]; rfl
  | succ m ih =>
    intro k i b n hi hk h
    obtain ⟨k, rfl⟩ : ∃ m, k = m + 1 := ⟨k - 1, by omega⟩
    have w1 : wrap64 ((i : Int) + 1) = ((i + 1 : Nat) : Int) := by rw [wrap_id (by omega) (by omega)]; rfl
    simp only [substationlaw32_BreakerfailureHealthy.l0]
    rw [if_pos (by omega), if_pos (by omega), if_pos (by omega)]
    by_cases hc : rdOf false cl (i : Int) = true
    · rw [if_pos hc, step_ev (by omega)]
      simp only [Option.bind_some, tup, w1]
      have hs := hea_step ht ht6 hd hd5 h (decide ((i : Int) > fr)) _ rfl (by simp)
      rw [st_eq]
      simp only [Option.bind_some]
      rw [hs.2, if_neg (by decide)]
      exact ih k (i + 1) _ _ (by omega) (by omega) hs.1
    · rw [if_neg hc, step_ev (by omega)]
      simp only [Option.bind_some, tup, w1]
      have hs := hea_step ht ht6 hd hd5 h false _ rfl (by simp)
      rw [st_eq]
      simp only [Option.bind_some]
      rw [hs.2, if_neg (by decide)]
      exact ih k (i + 1) _ _ (by omega) (by omega) hs.1
theorem BreakerfailureHealthy : BreakerfailureHealthy_Pure := by
  intro t d fr cl _ _ _ _
  refine ⟨cl.length + 5, ?_⟩
  have guard : substationlaw32_BreakerfailureHealthy.j0 (cl.length + 4 + 1) cl t d fr true = some true := by
    simp only [substationlaw32_BreakerfailureHealthy.j0]
    rw [if_pos trivial, kn]; rfl
  unfold substationlaw32_BreakerfailureHealthy.f
  by_cases h1 : t < 1
  · rw [if_pos h1]; exact guard
  by_cases h2 : t > 6
  · rw [if_neg h1, if_pos h2]; exact guard
  by_cases h3 : d < t
  · rw [if_neg h1, if_neg h2, if_pos h3]; exact guard
  by_cases h4 : d > 500
  · rw [if_neg h1, if_neg h2, if_neg h3, if_pos h4]; exact guard
  by_cases h5 : fr < 0
  · rw [if_neg h1, if_neg h2, if_neg h3, if_neg h4, if_pos h5]; exact guard
  by_cases h6 : fr > 10
  · rw [if_neg h1, if_neg h2, if_neg h3, if_neg h4, if_neg h5, if_pos h6]; exact guard
  rw [if_neg h1, if_neg h2, if_neg h3, if_neg h4, if_neg h5, if_neg h6]
  by_cases h7 : cl.length ≤ 60
  · have hb : decide ((cl.length : Int) > 60) = false := by simp; omega
    rw [hb]
    show substationlaw32_BreakerfailureHealthy.j0 (cl.length + 4 + 1) cl t d fr false = some true
    simp only [substationlaw32_BreakerfailureHealthy.j0]
    rw [if_neg (by decide)]
    simp only [breaker_New.f, Option.bind_some]
    exact healthy_loop t d fr (by omega) (by omega) (by omega) (by omega) (by omega) (by omega) cl h7 cl.length (cl.length + 4) 0 ⟨true, false, 0, false⟩ 0 (by omega) (by omega) (.before (by omega) rfl rfl)
  · have hb : decide ((cl.length : Int) > 60) = true := by simp; omega
    rw [hb]; exact guard

end Go.Proofs.Ytooeljgandaelaa.Pure
