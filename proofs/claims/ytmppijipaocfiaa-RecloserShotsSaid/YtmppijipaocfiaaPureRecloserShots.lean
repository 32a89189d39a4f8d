/- The plain statement of the law RecloserShots, over numbers and lists alone. Conditions: none. -/
import Derived.Test.YtmppijipaocfiaaStmRecloserShots
import Derived.Test.YtmppijipaocfiaaRec
namespace Go.Proofs.Ytmppijipaocfiaa.Pure
open Go.RowKit Go.Proofs.Ytmppijipaocfiaa.PAll Go.Proofs.YtmppijipaocfiaaW.PrintWords Go.Proofs.YtmppijipaocfiaaW.PrintLast
set_option linter.unusedVariables false
set_option linter.unusedSimpArgs false
/-- At most as many commands as shots since the phase Ready. -/
def Inv (sh de rc ph s n c : Int) : Prop := 0 ≤ c ∧ (usB sh de rc = false → ph = 0 ∧ s = 0 ∧ n = 0 ∧ c = 0) ∧ (usB sh de rc = true → vaR sh de rc ph s n = true ∧ c ≤ sh ∧ (ph = 0 → c = 0) ∧ (ph = 1 ∨ ph = 2 → c ≤ s - 1) ∧ (ph = 3 ∨ ph = 4 → c ≤ s))
theorem inv_step {sh de rc ph s n c : Int} (h : Inv sh de rc ph s n c) (fa sl op bl : Bool) :
    (∀ c', c' = (if (stR sh de rc ph s n fa sl op bl).2.2.2 = true then c + 1 else c) → (c' ≤ sh ∨ c' = 0) ∧ Inv sh de rc (stR sh de rc ph s n fa sl op bl).1 (stR sh de rc ph s n fa sl op bl).2.1 (stR sh de rc ph s n fa sl op bl).2.2.1 (if (stR sh de rc ph s n fa sl op bl).1 = 0 then 0 else c')) := by
  intro c' hc'
  obtain ⟨h0, hoff, hon⟩ := h
  by_cases hu : usB sh de rc = true
  · obtain ⟨hv, hcs, hc0, hc1, hc3⟩ := hon hu
    have hl := usB_le hu
    have hn := vaR_st hv fa sl op bl
    have hw := way_of hv fa sl op bl
    have hb := (vaR_le hv).2
    generalize (stR sh de rc ph s n fa sl op bl).1 = p' at hw hn ⊢
    generalize (stR sh de rc ph s n fa sl op bl).2.1 = s' at hw hn ⊢
    generalize (stR sh de rc ph s n fa sl op bl).2.2.1 = n' at hw hn ⊢
    generalize (stR sh de rc ph s n fa sl op bl).2.2.2 = d' at hw hc'
    unfold Inv
    rw [hu]
    cases hw <;> simp only [if_true, Bool.false_eq_true, if_false] at hc' <;> subst hc' <;>
      (refine ⟨by omega, ?_, fun h => (by cases h), fun _ => ⟨hn, ?_, ?_, ?_, ?_⟩⟩ <;> (try split) <;> omega)
  · have hu' : usB sh de rc = false := by simpa using hu
    obtain ⟨rfl, rfl, rfl, rfl⟩ := hoff hu'
    rw [stR_off hu'] at hc' ⊢
    simp at hc'
    subst hc'
    exact ⟨.inr rfl, by omega, fun _ => ⟨rfl, rfl, rfl, by simp⟩, fun h => absurd h hu⟩
theorem shots_loop (sh de rc : Int) (l : List S29) (hl : l.length ≤ 200) (m : Nat) : ∀ (k i : Nat) (ph s n c : Int), i + m = l.length → 3 * m + 12 ≤ k → Inv sh de rc ph s n c → c ≤ i →
    substationlaw35_RecloserShots.l0 k c l (l.length : Int) (i : Int) sh de rc ph s n = some true := by
  induction m with
  | zero =>
    intro k i ph s n c hi hk h hc
    obtain ⟨k, rfl⟩ : ∃ m, k = m + 1 := ⟨k - 1, by omega⟩
    simp only [substationlaw35_RecloserShots.l0]
    rw [if_neg (by omega), known35 k (by omega)]; rfl
  | succ m ih =>
    intro k i ph s n c hi hk h hc
    obtain ⟨k, rfl⟩ : ∃ m, k = m + 3 := ⟨k - 3, by omega⟩
    have h0 := h.1
    have w1 : True → wrap64 ((i : Int) + 1) = ((i + 1 : Nat) : Int) := fun _ => by rw [wrap_id (by omega) (by omega)]; rfl
    have w2 : True → wrap64 (c + 1) = c + 1 := fun _ => wrap_id (by omega) (by omega)
    simp only [substationlaw35_RecloserShots.l0]
    rw [if_pos (by omega), if_pos (by omega), if_pos (by omega), set_eq]
    simp only [Option.bind_some, w2 trivial]
    have hs := inv_step h (rd_T29 l (i : Int)).f0 (rd_T29 l (i : Int)).f1 (rd_T29 l (i : Int)).f2 (rd_T29 l (i : Int)).f3
    generalize stR sh de rc ph s n (rd_T29 l (i : Int)).f0 (rd_T29 l (i : Int)).f1 (rd_T29 l (i : Int)).f2 (rd_T29 l (i : Int)).f3 = R at hs ⊢
    have fin : ∀ c', c' = (if R.2.2.2 = true then c + 1 else c) → substationlaw35_RecloserShots.j1 (k + 2) c' l (l.length : Int) (i : Int) sh de rc R.1 R.2.1 R.2.2.1 = some true := by
      intro c' hc'
      have hle : c' ≤ ((i + 1 : Nat) : Int) ∧ 0 ≤ c' := by rw [hc']; split <;> omega
      obtain ⟨hlt, hin⟩ := hs c' hc'
      simp only [substationlaw35_RecloserShots.j1, substationlaw35_RecloserShots.j2, w1 trivial]
      have hgo : ∀ b : Bool, b = false → (if b = true then some false else if R.1 = 0 then substationlaw35_RecloserShots.l0 k 0 l (l.length : Int) ((i + 1 : Nat) : Int) sh de rc R.1 R.2.1 R.2.2.1 else substationlaw35_RecloserShots.l0 k c' l (l.length : Int) ((i + 1 : Nat) : Int) sh de rc R.1 R.2.1 R.2.2.1) = some true := by
        intro b hb
        subst hb
        rw [if_neg (by decide)]
        by_cases hr : R.1 = 0
        · rw [if_pos hr] at hin ⊢
          exact ih k (i + 1) R.1 R.2.1 R.2.2.1 0 (by omega) (by omega) hin (by omega)
        · rw [if_neg hr] at hin ⊢
          exact ih k (i + 1) R.1 R.2.1 R.2.2.1 c' (by omega) (by omega) hin hle.1
      by_cases hg : c' > sh
      · rw [if_pos hg]
        exact hgo _ (by simp; omega)
      · rw [if_neg hg]
        exact hgo _ rfl
    by_cases hd : R.2.2.2 = true
    · rw [if_pos hd]; exact fin (c + 1) (by rw [if_pos hd])
    · rw [if_neg hd]; exact fin c (by rw [if_neg hd])
theorem RecloserShots : RecloserShots_Pure := by
  intro sh de rc l w0 _ _ _
  refine ⟨3 * l.length + 12, ?_⟩
  unfold substationlaw35_RecloserShots.f
  by_cases h : (l.length : Int) > 200
  · rw [if_pos h, known35 _ (by omega)]; rfl
  · rw [if_neg h]
    refine shots_loop sh de rc l (by omega) l.length _ 0 0 0 0 0 (by omega) (by omega) ⟨by omega, fun _ => ⟨rfl, rfl, rfl, rfl⟩, fun hu => ⟨vaR_zero hu, ?_, by omega, by omega, by omega⟩⟩ (by omega)
    have := usB_le hu; omega

end Go.Proofs.Ytmppijipaocfiaa.Pure
