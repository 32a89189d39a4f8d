/- The plain statement of the law RecloserSteps, over numbers and lists alone. Conditions: none. -/
import Derived.Test.YtmppijipaocfiaaStmRecloserSteps
import Derived.Test.YtmppijipaocfiaaRec
namespace Go.Proofs.Ytmppijipaocfiaa.Pure
open Go.RowKit Go.Proofs.Ytmppijipaocfiaa.PAll Go.Proofs.YtmppijipaocfiaaW.PrintWords Go.Proofs.YtmppijipaocfiaaW.PrintLast
set_option linter.unusedVariables false
set_option linter.unusedSimpArgs false
theorem good_eq (a b c : Int) : substationref29_goodShots.f a b c = some (usB a b c) := by
  unfold substationref29_goodShots.f usB
  by_cases h1 : a ≥ 1
  · by_cases h2 : a ≤ 3
    · by_cases h3 : b ≥ 1
      · by_cases h4 : b ≤ 100
        · by_cases h5 : c ≥ 1
          · simp [h1, h2, h3, h4, h5]
          · simp [h1, h2, h3, h4, h5]
        · simp [h1, h2, h3, h4]
      · simp [h1, h2, h3]
    · simp [h1, h2]
  · simp [h1]
theorem refva_eq (k : Nat) (sh de rc ph s n : Int) : substationref29_ValidRecloser.f (k + 1) sh de rc ph s n = some (vaR sh de rc ph s n) := by
  unfold substationref29_ValidRecloser.f
  rw [good_eq]
  simp only [Option.bind_some]
  by_cases hu : usB sh de rc = true
  · have hl := usB_le hu
    rw [if_pos hu]
    have w1 : wrap64 (de - 1) = de - 1 := wrap_id (by omega) (by omega)
    have w2 : wrap64 (rc - 1) = rc - 1 := wrap_id (by omega) (by omega)
    by_cases h0 : ph < 0
    · rw [if_pos h0]
      have e : vaR sh de rc ph s n = false := by
        cases hv : vaR sh de rc ph s n
        · rfl
        · have := vaR_le hv; omega
      rw [e]
      simp [substationref29_ValidRecloser.j0]
    · rw [if_neg h0]
      by_cases h5 : ph > 5
      · have e : vaR sh de rc ph s n = false := by
          cases hv : vaR sh de rc ph s n
          · rfl
          · have := vaR_le hv; omega
        rw [e, decide_eq_true h5]
        simp [substationref29_ValidRecloser.j0]
      · rw [decide_eq_false h5]
        simp only [substationref29_ValidRecloser.j0, w1, w2]
        clear w1 w2
        have hp : ph = 0 ∨ ph = 1 ∨ ph = 2 ∨ ph = 3 ∨ ph = 4 ∨ ph = 5 := by omega
        rw [if_neg (by decide)]
        unfold vaR
        rw [hu]
        rcases hp with rfl | rfl | rfl | rfl | rfl | rfl
        · by_cases a1 : s ≥ 0
          · by_cases a2 : s ≤ 0
            · by_cases a3 : n ≥ 0
              · have : s = 0 := by omega
                simp [this, a3, rd]
              · have : ¬ 0 ≤ n := by omega
                simp [a1, a2, a3, this]
            · have : ¬ s = 0 := by omega
              simp [a1, a2, this]
          · have : ¬ s = 0 := by omega
            simp [a1, this]
        · by_cases a1 : s ≥ 1
          · by_cases a2 : s ≤ sh
            · by_cases a3 : n ≥ 0
              · simp [a1, a2, a3, rd]
              · simp [a1, a2, a3]
            · simp [a1, a2]
          · simp [a1]
        · by_cases a1 : s ≥ 1
          · by_cases a2 : s ≤ sh
            · by_cases a3 : n ≥ 0
              · simp [a1, a2, a3, rd]
              · simp [a1, a2, a3]
            · simp [a1, a2]
          · simp [a1]
        · by_cases a1 : s ≥ 1
          · by_cases a2 : s ≤ sh
            · by_cases a3 : n ≥ 0
              · simp [a1, a2, a3, rd]
              · simp [a1, a2, a3]
            · simp [a1, a2]
          · simp [a1]
        · by_cases a1 : s ≥ 1
          · by_cases a2 : s ≤ sh
            · by_cases a3 : n ≥ 0
              · simp [a1, a2, a3, rd]
              · simp [a1, a2, a3]
            · simp [a1, a2]
          · simp [a1]
        · by_cases a1 : s ≥ 0
          · by_cases a2 : s ≤ 0
            · by_cases a3 : n ≥ 0
              · have : s = 0 := by omega
                simp [this, a3, rd]
              · have : ¬ 0 ≤ n := by omega
                simp [a1, a2, a3, this]
            · have : ¬ s = 0 := by omega
              simp [a1, a2, this]
          · have : ¬ s = 0 := by omega
            simp [a1, this]
  · have e : vaR sh de rc ph s n = false := by
      cases hv : vaR sh de rc ph s n
      · rfl
      · exact absurd (vaR_le hv).1 hu
    rw [if_neg hu, e]
    simp [substationref29_ValidRecloser.j0]
theorem refst_eq (k : Nat) (sh de rc ph s n : Int) (fa sl op bl : Bool) : substationref29_Recloser.f (k + 3) sh de rc ph s n fa sl op bl = some (stR sh de rc ph s n fa sl op bl) := by
  unfold substationref29_Recloser.f
  rw [refva_eq]
  simp only [Option.bind_some]
  by_cases hv : vaR sh de rc ph s n = true
  · rw [if_pos hv]
    cases sl
    · rw [if_neg (by decide), stR_on hv]
      obtain ⟨hu, hn0, hs0, hs3, hp⟩ := vaR_le hv
      have hl := usB_le hu
      have w1 : wrap64 (de - 1) = de - 1 := wrap_id (by omega) (by omega)
      have w2 : wrap64 (rc - 1) = rc - 1 := wrap_id (by omega) (by omega)
      have w3 : wrap64 (s + 1) = s + 1 := wrap_id (by omega) (by omega)
      have w4 : wrap64 (n + 1) = n + 1 := wrap_id (by omega) (by omega)
      have w5 : wrap64 (ph + 1) = ph + 1 := wrap_id (by omega) (by omega)
      simp only [substationref29_Recloser.j0, substationref29_Recloser.j1, substationref29_counted.f, w1, w2, w3, w4, w5]
      clear w1 w2 w3 w4 w5
      rcases hp with ⟨rfl, rfl, rfl⟩ | ⟨rfl, hn, hs⟩ | ⟨rfl, hn, hs⟩ | ⟨rfl, hn, hs⟩ | ⟨rfl, hn, hs⟩ | ⟨rfl, hn, rfl⟩
      · have hne : ¬ (0 : Int) = sh := by omega
        cases fa <;> cases op <;> cases bl <;> simp [hne]
      · by_cases h20 : n = 20 <;> cases fa <;> cases op <;> cases bl <;> simp [h20]
      · by_cases hd : n = de - 1 <;> cases fa <;> cases op <;> cases bl <;> simp [hd]
      · by_cases h20 : n = 20 <;> cases fa <;> cases op <;> cases bl <;> simp [h20]
      · by_cases hr : n = rc - 1 <;> by_cases hsh : s = sh <;> cases fa <;> cases op <;> cases bl <;> simp [hr, hsh]
      · by_cases hr : n = rc - 1 <;> cases fa <;> cases op <;> cases bl <;> simp [hr]
    · rw [if_pos rfl]
      unfold stR
      rw [if_neg (by rw [hv]; decide), if_pos rfl]
  · have hf : vaR sh de rc ph s n = false := by simpa using hv
    rw [if_neg hv]
    unfold stR
    rw [if_pos hf]
theorem RecloserSteps : RecloserSteps_Pure := by
  intro sh de rc ph s n fa sl op bl _ _ _ _ _ _
  refine ⟨20, ?_⟩
  unfold substationlaw35_RecloserSteps.f
  rw [set_eq, refst_eq 17, va_ev (by decide), known35 20 (by decide), refva_eq 19]
  simp only [Option.bind_some]
  by_cases hv : vaR sh de rc ph s n = true
  · have hn := vaR_st hv fa sl op bl
    have hw := way_of hv fa sl op bl
    generalize stR sh de rc ph s n fa sl op bl = R at hn hw ⊢
    rw [hv, va_ev (by decide), hn]
    have hc : R.2.2.2 = true → op = true ∧ bl = false := by
      obtain ⟨p', s', n', d'⟩ := R
      simp only at hw ⊢
      intro h
      cases hw with
      | close h1 h2 h3 h4 h5 => exact ⟨h2, h4⟩
      | _ => cases h
    by_cases hd : R.2.2.2 = true
    · obtain ⟨rfl, rfl⟩ := hc hd
      simp [hd]
    · simp [hd]
  · have hf : vaR sh de rc ph s n = false := by simpa using hv
    have e : stR sh de rc ph s n fa sl op bl = (0, 0, 0, false) := by unfold stR; rw [if_pos hf]
    rw [e, hf]
    simp

end Go.Proofs.Ytmppijipaocfiaa.Pure
