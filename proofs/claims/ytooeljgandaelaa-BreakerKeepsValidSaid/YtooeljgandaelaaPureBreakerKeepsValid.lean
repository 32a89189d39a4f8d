/- The plain statement of the law BreakerKeepsValid, over numbers and lists alone. Conditions: none. -/
import Derived.Test.YtooeljgandaelaaStmBreakerKeepsValid
import Derived.Test.YtooeljgandaelaaBrk
namespace Go.Proofs.Ytooeljgandaelaa.Pure
open Go.RowKit Go.Proofs.Ytooeljgandaelaa.PAll Go.Proofs.YtooeljgandaelaaW.PrintWords Go.Proofs.YtooeljgandaelaaW.PrintLast
set_option linter.unusedVariables false
set_option linter.unusedSimpArgs false
theorem vB_st {b : S36} {t : Int} {st op cl : Bool} (h : vB b t = true) : vB (stB b t st op cl) t = true := by
  have hb := vB_le h
  obtain ⟨c, g, l, m⟩ := b
  have hs : stB ⟨c, g, l, m⟩ t st op cl = obB (mvB ⟨c, g, l, m⟩) t st op cl := by unfold stB; rw [if_pos h]
  rw [hs]
  simp only at hb
  by_cases h0 : l = 0
  · subst h0
    have ht : t ≠ 0 := by omega
    have e : mvB ⟨c, g, 0, m⟩ = ⟨c, g, 0, m⟩ := by simp [mvB]
    rw [e]
    simp only [vB] at h ⊢
    cases c <;> cases g <;> cases m <;> cases st <;> cases op <;> cases cl <;> simp_all [obB] <;> omega
  · by_cases h1 : l = 1
    · subst h1
      have ht : t ≠ 0 := by omega
      have e : mvB ⟨c, g, 1, m⟩ = ⟨g, false, 0, m && g⟩ := by simp [mvB]
      rw [e]
      simp only [vB] at h ⊢
      cases c <;> cases g <;> cases m <;> cases st <;> cases op <;> cases cl <;> simp_all [obB] <;> omega
    · have e : mvB ⟨c, g, l, m⟩ = ⟨c, g, l - 1, m⟩ := by simp [mvB, h0, h1]
      have h2 : ¬ l - 1 = 0 := by omega
      rw [e]
      simp only [vB] at h ⊢
      have a1 : l - 1 ≤ t := by omega
      have a2 : 0 ≤ l - 1 := by omega
      have a3 : 1 ≤ l := by omega
      cases c <;> cases g <;> cases m <;> cases st <;> cases op <;> cases cl <;> simp_all [obB] <;> omega
theorem BreakerKeepsValid : BreakerKeepsValid_Pure := by
  intro c g l m t st op cl _ _
  refine ⟨10, ?_⟩
  unfold substationlaw29_BreakerKeepsValid.f
  rw [valid_ev (by omega) ⟨c, g, l, m⟩ t]
  simp only [Option.bind_some]
  by_cases h : vB ⟨c, g, l, m⟩ t = true
  · rw [if_pos h, step_ev (by omega) ⟨c, g, l, m⟩]
    simp only [Option.bind_some, tup]
    rw [known29_eq 10 (by omega)]
    simp only [Option.bind_some, if_true]
    rw [valid_ev (by omega)]
    simp only [Option.bind_some]
    rw [vB_st h, if_pos rfl]
    by_cases h0 : l = 0
    · subst h0
      rw [if_pos rfl]
      cases op
      · cases cl
        · have e : stB ⟨c, g, 0, m⟩ t st false false = ⟨c, g, 0, m⟩ := by
            unfold stB
            rw [if_pos h]
            simp [mvB, obB]
          rw [e]; simp
        · simp
      · simp
    · rw [if_neg h0]
  · rw [if_neg h, known29_eq 10 (by omega)]; rfl

end Go.Proofs.Ytooeljgandaelaa.Pure
