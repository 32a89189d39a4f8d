/- The plain statement of the law RecloserDeadTime, over numbers and lists alone. Conditions: none. -/
import Derived.Test.YtmppijipaocfiaaStmRecloserDeadTime
import Derived.Test.YtmppijipaocfiaaRec
namespace Go.Proofs.Ytmppijipaocfiaa.Pure
open Go.RowKit Go.Proofs.Ytmppijipaocfiaa.PAll Go.Proofs.YtmppijipaocfiaaW.PrintWords Go.Proofs.YtmppijipaocfiaaW.PrintLast
set_option linter.unusedVariables false
set_option linter.unusedSimpArgs false
def Inv (sh de rc ph s n c : Int) : Prop := 0 ≤ c ∧ (usB sh de rc = false → ph = 0 ∧ s = 0 ∧ n = 0) ∧ (usB sh de rc = true → vaR sh de rc ph s n = true ∧ (ph = 2 → n + 1 ≤ c))
theorem inv_step {sh de rc ph s n c : Int} (h : Inv sh de rc ph s n c) (fa sl op bl : Bool) (c' : Int) (hc' : c' = (if op = false ∨ sl = true then 0 else c + 1)) :
    ((stR sh de rc ph s n fa sl op bl).2.2.2 = true → de < c') ∧ Inv sh de rc (stR sh de rc ph s n fa sl op bl).1 (stR sh de rc ph s n fa sl op bl).2.1 (stR sh de rc ph s n fa sl op bl).2.2.1 c' := by
  obtain ⟨h0, hoff, hon⟩ := h
  by_cases hu : usB sh de rc = true
  · obtain ⟨hv, hc2⟩ := hon hu
    have hl := usB_le hu
    have hn := vaR_st hv fa sl op bl
    have hw := way_of hv fa sl op bl
    have hb := (vaR_le hv).2
    generalize (stR sh de rc ph s n fa sl op bl).1 = p' at hw hn ⊢
    generalize (stR sh de rc ph s n fa sl op bl).2.1 = s' at hw hn ⊢
    generalize (stR sh de rc ph s n fa sl op bl).2.2.1 = n' at hw hn ⊢
    generalize (stR sh de rc ph s n fa sl op bl).2.2.2 = d' at hw ⊢
    unfold Inv
    rw [hu]
    have hc0 : 0 ≤ c' := by rw [hc']; split <;> omega
    have hcp : op = true → sl = false → c' = c + 1 := by intro a b; rw [hc', a, b]; simp
    cases hw with
    | opened h1 h2 h3 => have := hcp h2 h3; exact ⟨fun h => (by cases h), hc0, fun h => (by cases h), fun _ => ⟨hn, by omega⟩⟩
    | deadB h1 h2 h3 h4 => have := hcp h2 h3; exact ⟨fun h => (by cases h), hc0, fun h => (by cases h), fun _ => ⟨hn, by omega⟩⟩
    | dead h1 h2 h3 h4 h5 => have := hcp h2 h3; exact ⟨fun h => (by cases h), hc0, fun h => (by cases h), fun _ => ⟨hn, by omega⟩⟩
    | close h1 h2 h3 h4 h5 => have := hcp h2 h3; exact ⟨fun _ => (by omega), hc0, fun h => (by cases h), fun _ => ⟨hn, by omega⟩⟩
    | _ => exact ⟨fun h => (by cases h), hc0, fun h => (by cases h), fun _ => ⟨hn, by omega⟩⟩
  · have hu' : usB sh de rc = false := by simpa using hu
    rw [stR_off hu']
    exact ⟨fun h => (by cases h), by rw [hc']; split <;> omega, fun _ => ⟨rfl, rfl, rfl⟩, fun h => absurd h hu⟩
theorem dead_loop (sh de rc : Int) (l : List S29) (hl : l.length ≤ 200) (m : Nat) : ∀ (k i : Nat) (ph s n c : Int), i + m = l.length → 3 * m + 12 ≤ k → Inv sh de rc ph s n c → c ≤ i →
    substationlaw35_RecloserDeadTime.l0 k c l (l.length : Int) (i : Int) sh de rc ph s n = some true := by
  induction m with
  | zero =>
    intro k i ph s n c hi hk h hc
    obtain ⟨k, rfl⟩ : ∃ m, k = m + 1 := ⟨k - 1, by omega⟩
    simp only [substationlaw35_RecloserDeadTime.l0]
    rw [if_neg (by omega), known35 k (by omega)]; rfl
  | succ m ih =>
    intro k i ph s n c hi hk h hc
    obtain ⟨k, rfl⟩ : ∃ m, k = m + 2 := ⟨k - 2, by omega⟩
    have h0 := h.1
    have w1 : True → wrap64 ((i : Int) + 1) = ((i + 1 : Nat) : Int) := fun _ => by rw [wrap_id (by omega) (by omega)]; rfl
    have w2 : True → wrap64 (c + 1) = c + 1 := fun _ => wrap_id (by omega) (by omega)
    simp only [substationlaw35_RecloserDeadTime.l0]
    rw [if_pos (by omega), if_pos (by omega), if_pos (by omega), set_eq]
    simp only [Option.bind_some, w2 trivial]
    have hs := inv_step h (rd_T29 l (i : Int)).f0 (rd_T29 l (i : Int)).f1 (rd_T29 l (i : Int)).f2 (rd_T29 l (i : Int)).f3
    generalize hR : stR sh de rc ph s n (rd_T29 l (i : Int)).f0 (rd_T29 l (i : Int)).f1 (rd_T29 l (i : Int)).f2 (rd_T29 l (i : Int)).f3 = R at hs ⊢
    generalize (rd_T29 l (i : Int)).f2 = op at hs ⊢
    generalize (rd_T29 l (i : Int)).f1 = sl at hs ⊢
    have fin : ∀ b : Bool, b = decide (op = false ∨ sl = true) → substationlaw35_RecloserDeadTime.j1 (k + 1) (c + 1) R.2.2.2 l (l.length : Int) (i : Int) b sh de rc R.1 R.2.1 R.2.2.1 = some true := by
      intro b hb
      obtain ⟨hlt, hin⟩ := hs _ rfl
      simp only [substationlaw35_RecloserDeadTime.j1, w1 trivial]
      by_cases hz : op = false ∨ sl = true
      · have hb' : b = true := by rw [hb]; simpa using hz
        rw [if_pos hz] at hlt hin
        rw [if_pos hb']
        by_cases hd : R.2.2.2 = true
        · have := hlt hd
          rw [if_pos hd, if_neg (by omega)]
          exact ih k (i + 1) R.1 R.2.1 R.2.2.1 0 (by omega) (by omega) hin (by omega)
        · rw [if_neg hd]
          exact ih k (i + 1) R.1 R.2.1 R.2.2.1 0 (by omega) (by omega) hin (by omega)
      · have hb' : ¬ b = true := by rw [hb]; simpa using hz
        rw [if_neg hz] at hlt hin
        rw [if_neg hb']
        by_cases hd : R.2.2.2 = true
        · have := hlt hd
          rw [if_pos hd, if_neg (by omega)]
          exact ih k (i + 1) R.1 R.2.1 R.2.2.1 (c + 1) (by omega) (by omega) hin (by omega)
        · rw [if_neg hd]
          exact ih k (i + 1) R.1 R.2.1 R.2.2.1 (c + 1) (by omega) (by omega) hin (by omega)
    cases op
    · rw [if_neg (by decide)]; exact fin true (by simp)
    · rw [if_pos rfl]; exact fin sl (by cases sl <;> simp)
theorem RecloserDeadTime : RecloserDeadTime_Pure := by
  intro sh de rc l _ _ _ _
  refine ⟨3 * l.length + 12, ?_⟩
  unfold substationlaw35_RecloserDeadTime.f
  by_cases h : (l.length : Int) > 200
  · rw [if_pos h, known35 _ (by omega)]; rfl
  · rw [if_neg h]
    exact dead_loop sh de rc l (by omega) l.length _ 0 0 0 0 0 (by omega) (by omega) ⟨by omega, fun _ => ⟨rfl, rfl, rfl⟩, fun hu => ⟨vaR_zero hu, by omega⟩⟩ (by omega)

end Go.Proofs.Ytmppijipaocfiaa.Pure
