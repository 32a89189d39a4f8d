/- The plain statement of the law RecloserLockout, over numbers and lists alone. Conditions: none. -/
import Derived.Test.YtmppijipaocfiaaStmRecloserLockout
import Derived.Test.YtmppijipaocfiaaRec
namespace Go.Proofs.Ytmppijipaocfiaa.Pure
open Go.RowKit Go.Proofs.Ytmppijipaocfiaa.PAll Go.Proofs.YtmppijipaocfiaaW.PrintWords Go.Proofs.YtmppijipaocfiaaW.PrintLast
set_option linter.unusedVariables false
set_option linter.unusedSimpArgs false
def Inv (rc ph n c : Int) (fast : Bool) : Prop := fast = false → (ph = 5 ∧ n ≤ c) ∨ (ph = 0 ∧ rc ≤ c)
theorem inv_step {sh de rc ph s n c : Int} {fast : Bool} (hv : vaR sh de rc ph s n = true) (hc0 : 0 ≤ c) (h : Inv rc ph n c fast) (fa sl op bl : Bool) (f' : Bool) (hf' : f' = (fast || (fa && (ph != 5)))) (c' : Int) (hc' : c' = (if op = true then 0 else if bl = true then c else c + 1)) :
    Inv rc (stR sh de rc ph s n fa sl op bl).1 (stR sh de rc ph s n fa sl op bl).2.2.1 c' f' ∧ (f' = false → (stR sh de rc ph s n fa sl op bl).2.2.2 = false ∧ ((stR sh de rc ph s n fa sl op bl).1 ≠ 5 → rc ≤ c')) := by
  have hw := way_of hv fa sl op bl
  have hb := (vaR_le hv).2
  have hl := usB_le (vaR_le hv).1
  generalize (stR sh de rc ph s n fa sl op bl).1 = p' at hw ⊢
  generalize (stR sh de rc ph s n fa sl op bl).2.1 = s' at hw ⊢
  generalize (stR sh de rc ph s n fa sl op bl).2.2.1 = n' at hw ⊢
  generalize (stR sh de rc ph s n fa sl op bl).2.2.2 = d' at hw ⊢
  have hc1 : 0 ≤ c' := by rw [hc']; split; omega; split <;> omega
  have hnof : f' = false → fast = false ∧ (fa = false ∨ ph = 5) := by
    intro h2
    rw [h2] at hf'
    have := hf'.symm
    simp at this
    refine ⟨this.1, ?_⟩
    cases fa
    · exact .inl rfl
    · exact .inr (this.2 rfl)
  unfold Inv at h ⊢
  cases hw with
  | lock h1 => exact ⟨fun _ => .inl ⟨rfl, hc1⟩, fun _ => ⟨rfl, fun h => absurd rfl h⟩⟩
  | trip h1 h2 h3 h4 =>
    have hbad : f' = false → False := by
      intro h5
      obtain ⟨_, h6⟩ := hnof h5
      rcases h6 with h6 | h6
      · rw [h3] at h6; cases h6
      · omega
    exact ⟨fun h5 => (hbad h5).elim, fun h5 => (hbad h5).elim⟩
  | ready h1 h2 h3 h4 =>
    refine ⟨fun h5 => ?_, fun h5 => ⟨rfl, fun _ => ?_⟩⟩ <;>
      (obtain ⟨h6, _⟩ := hnof h5; have h7 := h h6; rw [h2, if_neg (by decide)] at hc'; have h8 : c ≤ c' := (by rw [hc']; split <;> omega); omega)
  | stay h1 h2 h3 h4 h5 =>
    rw [h2, h4] at hc'; simp at hc'
    exact ⟨fun h6 => by obtain ⟨h7, _⟩ := hnof h6; have := h h7; omega, fun h6 => ⟨rfl, fun _ => by obtain ⟨h7, _⟩ := hnof h6; have := h h7; omega⟩⟩
  | count h1 h2 h3 h4 h5 h6 =>
    rw [h2, h4] at hc'; simp at hc'
    exact ⟨fun h6 => by obtain ⟨h7, _⟩ := hnof h6; have := h h7; omega, fun h6 => ⟨rfl, fun _ => by obtain ⟨h7, _⟩ := hnof h6; have := h h7; omega⟩⟩
  | over h1 h2 h3 h4 h5 h6 =>
    rw [h2, h4] at hc'; simp at hc'
    exact ⟨fun h6 => by obtain ⟨h7, _⟩ := hnof h6; have := h h7; omega, fun h6 => ⟨rfl, fun _ => by obtain ⟨h7, _⟩ := hnof h6; have := h h7; omega⟩⟩
  | _ =>
    refine ⟨fun h5 => ?_, fun h5 => ?_⟩ <;> (obtain ⟨h6, _⟩ := hnof h5; have h7 := h h6; omega)
theorem lock_loop (sh de rc : Int) (l : List S29) (hl : l.length ≤ 200) (m : Nat) : ∀ (k i : Nat) (ph s n c : Int) (fast : Bool), i + m = l.length → 4 * m + 12 ≤ k → vaR sh de rc ph s n = true → 0 ≤ c → c ≤ i → Inv rc ph n c fast →
    substationlaw35_RecloserLockout.l0 k c fast l (l.length : Int) (i : Int) sh de rc ph s n = some true := by
  induction m with
  | zero =>
    intro k i ph s n c fast hi hk hv h0 hc h
    obtain ⟨k, rfl⟩ : ∃ m, k = m + 1 := ⟨k - 1, by omega⟩
    simp only [substationlaw35_RecloserLockout.l0]
    rw [if_neg (by omega), known35 k (by omega)]; rfl
  | succ m ih =>
    intro k i ph s n c fast hi hk hv h0 hc h
    obtain ⟨k, rfl⟩ : ∃ m, k = m + 4 := ⟨k - 4, by omega⟩
    have w1 : True → wrap64 ((i : Int) + 1) = ((i + 1 : Nat) : Int) := fun _ => by rw [wrap_id (by omega) (by omega)]; rfl
    have w2 : True → wrap64 (c + 1) = c + 1 := fun _ => wrap_id (by omega) (by omega)
    have hs := inv_step hv h0 h (rd_T29 l (i : Int)).f0 (rd_T29 l (i : Int)).f1 (rd_T29 l (i : Int)).f2 (rd_T29 l (i : Int)).f3
    have hnv := vaR_st hv (rd_T29 l (i : Int)).f0 (rd_T29 l (i : Int)).f1 (rd_T29 l (i : Int)).f2 (rd_T29 l (i : Int)).f3
    -- what stands behind the step
    have fin : ∀ f' : Bool, f' = (fast || ((rd_T29 l (i : Int)).f0 && (ph != 5))) → substationlaw35_RecloserLockout.j3 (k + 3) c f' l (l.length : Int) (i : Int) sh de rc ph s n (rd_T29 l (i : Int)).f0 (rd_T29 l (i : Int)).f1 (rd_T29 l (i : Int)).f2 (rd_T29 l (i : Int)).f3 = some true := by
      intro f' hf'
      have hs' := hs f' hf'
      simp only [substationlaw35_RecloserLockout.j3]
      rw [set_eq]
      simp only [Option.bind_some, w2 trivial]
      generalize stR sh de rc ph s n (rd_T29 l (i : Int)).f0 (rd_T29 l (i : Int)).f1 (rd_T29 l (i : Int)).f2 (rd_T29 l (i : Int)).f3 = R at hs' hnv ⊢
      generalize (rd_T29 l (i : Int)).f2 = op at hs' ⊢
      generalize (rd_T29 l (i : Int)).f3 = bl at hs' ⊢
      have go : ∀ c' : Int, c' = (if op = true then 0 else if bl = true then c else c + 1) → substationlaw35_RecloserLockout.j4 (k + 2) R.2.2.2 c' f' l (l.length : Int) (i : Int) sh de rc R.1 R.2.1 R.2.2.1 = some true := by
        intro c' hc'
        obtain ⟨hin, hno⟩ := hs' c' hc'
        have hb : 0 ≤ c' ∧ c' ≤ ((i + 1 : Nat) : Int) := by rw [hc']; split; omega; split <;> omega
        have hz : substationlaw35_RecloserLockout.l0 k c' f' l (l.length : Int) ((i + 1 : Nat) : Int) sh de rc R.1 R.2.1 R.2.2.1 = some true :=
          ih k (i + 1) R.1 R.2.1 R.2.2.1 c' f' (by omega) (by omega) hnv hb.1 hb.2 hin
        have j5 : substationlaw35_RecloserLockout.j5 (k + 1) c' f' l (l.length : Int) (i : Int) false sh de rc R.1 R.2.1 R.2.2.1 = some true := by
          simp only [substationlaw35_RecloserLockout.j5, w1 trivial]
          rw [if_neg (by decide)]
          by_cases h5 : R.1 = 5
          · rw [if_pos h5]; exact hz
          · rw [if_neg h5]
            by_cases hlt : c' < rc
            · rw [if_pos hlt]
              cases f'
              · exact absurd ((hno rfl).2 h5) (by omega)
              · rw [if_pos rfl]; exact hz
            · rw [if_neg hlt]; exact hz
        simp only [substationlaw35_RecloserLockout.j4]
        by_cases hd : R.2.2.2 = true
        · rw [if_pos hd]
          cases f'
          · rw [(hno rfl).1] at hd; cases hd
          · exact j5
        · rw [if_neg hd]; exact j5
      cases op
      · rw [if_neg (by decide)]
        cases bl
        · rw [if_neg (by decide)]; exact go _ rfl
        · rw [if_pos rfl]; exact go _ rfl
      · rw [if_pos rfl]; exact go _ rfl
    simp only [substationlaw35_RecloserLockout.l0]
    rw [if_pos (by omega), if_pos (by omega), if_pos (by omega)]
    cases fast
    · rw [if_neg (by decide)]
      by_cases hfa : (rd_T29 l (i : Int)).f0 = true
      · rw [if_pos hfa]; exact fin _ (by rw [hfa]; simp)
      · rw [if_neg hfa]; exact fin _ (by simp [hfa])
    · rw [if_pos rfl]; exact fin _ (by simp)
theorem RecloserLockout : RecloserLockout_Pure := by
  intro sh de rc ph s n l _ _ _ _ _ _ _
  refine ⟨4 * l.length + 20, ?_⟩
  unfold substationlaw35_RecloserLockout.f
  have guard : substationlaw35_RecloserLockout.j0 (4 * l.length + 19 + 1) l true sh de rc ph s n = some true := by
    simp only [substationlaw35_RecloserLockout.j0]
    rw [if_pos trivial, known35 _ (by omega)]; rfl
  by_cases h : (l.length : Int) > 200
  · rw [if_pos h]; exact guard
  · rw [if_neg h, va_ev (by omega)]
    simp only [Option.bind_some]
    by_cases hv : vaR sh de rc ph s n = true
    · rw [hv]
      show substationlaw35_RecloserLockout.j0 (4 * l.length + 18 + 1 + 1) l false sh de rc ph s n = some true
      simp only [substationlaw35_RecloserLockout.j0]
      rw [if_neg (by decide), set_eq]
      have e : stR sh de rc ph s n false true false false = (5, 0, 0, false) := by
        unfold stR; rw [if_neg (by rw [hv]; decide), if_pos rfl]
      rw [e]
      simp only [Option.bind_some]
      rw [if_neg (by decide)]
      simp only [substationlaw35_RecloserLockout.j1]
      rw [if_neg (by decide)]
      have hl := usB_le (vaR_le hv).1
      exact lock_loop sh de rc l (by omega) l.length _ 0 5 0 0 0 false (by omega) (by omega) (vaR_mk (vaR_le hv).1 (by omega)) (by omega) (by omega) (fun _ => .inl ⟨rfl, by omega⟩)
    · have hf : vaR sh de rc ph s n = false := by simpa using hv
      rw [hf]; exact guard

end Go.Proofs.Ytmppijipaocfiaa.Pure
