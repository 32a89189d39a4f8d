/- The recloser in plain words: its state's step, and the laws' common parts. Conditions: none. -/
import Derived.Test.YtmppijipaocfiaaPAllx3
namespace Go.Proofs.Ytmppijipaocfiaa.PAll
open Go.RowKit Go.Proofs.YtmppijipaocfiaaW.PrintWords Go.Proofs.YtmppijipaocfiaaW.PrintLast
set_option linter.unusedVariables false
set_option linter.unusedSimpArgs false
theorem set_eq (sh de rc ph s n : Int) (fa sl op bl : Bool) : substationlaw35_Settings_step.f sh de rc ph s n fa sl op bl = some (stR sh de rc ph s n fa sl op bl) := by
  unfold substationlaw35_Settings_step.f recloser_Step.f
  rfl
theorem va_ev {k : Nat} (hk : 2 ≤ k) (sh de rc ph s n : Int) : recloser_Valid.f k sh de rc ph s n = some (vaR sh de rc ph s n) := by
  obtain ⟨k, rfl⟩ : ∃ m, k = m + 2 := ⟨k - 2, by omega⟩
  exact va_eq k sh de rc ph s n
theorem known35 (k : Nat) (hk : 9 ≤ k) : substationlaw35_known.f k = some true := by
  have h : substationlaw35_known.f 9 = some true := by decide +kernel
  exact at_rounds substationlaw35_known.mono hk h
/-- Settings that are not usable: nothing ever happens. -/
theorem stR_off {sh de rc : Int} (h : usB sh de rc = false) (ph s n : Int) (fa sl op bl : Bool) : stR sh de rc ph s n fa sl op bl = (0, 0, 0, false) := by
  unfold stR
  rw [if_pos (by simp [vaR, h])]
theorem vaR_zero {sh de rc : Int} (h : usB sh de rc = true) : vaR sh de rc 0 0 0 = true := by
  simp [vaR, h]
/-- The ways of a step out of a valid state. -/
inductive Way (sh de rc ph s n : Int) (fa sl op bl : Bool) : Int → Int → Int → Bool → Prop
  | lock : (op = false → sl = false → ph ≠ 5) → Way sh de rc ph s n fa sl op bl 5 0 0 false
  | trip : (ph = 0 ∨ ph = 4) → s < sh → fa = true → sl = false → Way sh de rc ph s n fa sl op bl 1 (s + 1) 0 false
  | ready : ph = 0 → op = false → sl = false → fa = false → Way sh de rc ph s n fa sl op bl 0 0 0 false
  | wait : ph = 1 → op = false → sl = false → n < 20 → Way sh de rc ph s n fa sl op bl 1 s (n + 1) false
  | opened : ph = 1 → op = true → sl = false → Way sh de rc ph s n fa sl op bl 2 s 0 false
  | deadB : ph = 2 → op = true → sl = false → bl = true → Way sh de rc ph s n fa sl op bl 2 s n false
  | dead : ph = 2 → op = true → sl = false → bl = false → n < de - 1 → Way sh de rc ph s n fa sl op bl 2 s (n + 1) false
  | close : ph = 2 → op = true → sl = false → bl = false → n = de - 1 → Way sh de rc ph s n fa sl op bl 3 s 0 true
  | closing : ph = 3 → op = true → sl = false → n < 20 → Way sh de rc ph s n fa sl op bl 3 s (n + 1) false
  | closed : ph = 3 → op = false → sl = false → Way sh de rc ph s n fa sl op bl 4 s 0 false
  | stay : (ph = 4 ∨ ph = 5) → op = false → sl = false → bl = true → (ph = 4 → fa = false) → Way sh de rc ph s n fa sl op bl ph s n false
  | count : (ph = 4 ∨ ph = 5) → op = false → sl = false → bl = false → (ph = 4 → fa = false) → n < rc - 1 → Way sh de rc ph s n fa sl op bl ph s (n + 1) false
  | over : (ph = 4 ∨ ph = 5) → op = false → sl = false → bl = false → (ph = 4 → fa = false) → n = rc - 1 → Way sh de rc ph s n fa sl op bl 0 0 0 false
theorem way_of {sh de rc ph s n : Int} (hv : vaR sh de rc ph s n = true) (fa sl op bl : Bool) :
    Way sh de rc ph s n fa sl op bl (stR sh de rc ph s n fa sl op bl).1 (stR sh de rc ph s n fa sl op bl).2.1 (stR sh de rc ph s n fa sl op bl).2.2.1 (stR sh de rc ph s n fa sl op bl).2.2.2 := by
  obtain ⟨hu, hn0, hs0, hs3, hp⟩ := vaR_le hv
  have hl := usB_le hu
  cases sl
  · rw [stR_on hv]
    rcases hp with ⟨rfl, rfl, rfl⟩ | ⟨rfl, hn, hs⟩ | ⟨rfl, hn, hs⟩ | ⟨rfl, hn, hs⟩ | ⟨rfl, hn, hs⟩ | ⟨rfl, hn, rfl⟩
    · have hne : ¬ (0 : Int) = sh := by omega
      cases fa
      · cases op
        · simp; exact .ready rfl rfl rfl rfl
        · simp; exact .lock (by intro h; cases h)
      · cases bl
        · simp [hne]; exact .trip (.inl rfl) (by omega) rfl rfl
        · simp; exact .lock (by intro _ _ h; cases h)
    · cases op
      · by_cases h20 : n = 20
        · simp [h20]; exact .lock (by intro _ _ h; cases h)
        · simp [h20]; exact .wait rfl rfl rfl (by omega)
      · simp; exact .opened rfl rfl rfl
    · cases op
      · simp; exact .lock (by intro _ _ h; cases h)
      · cases bl
        · by_cases hd : n = de - 1
          · simp [hd]; rw [← hd]; exact .close rfl rfl rfl rfl hd
          · simp [hd]; exact .dead rfl rfl rfl rfl (by omega)
        · simp; exact .deadB rfl rfl rfl rfl
    · cases op
      · simp; exact .closed rfl rfl rfl
      · by_cases h20 : n = 20
        · simp [h20]; exact .lock (by intro h; cases h)
        · simp [h20]; exact .closing rfl rfl rfl (by omega)
    · cases fa
      · cases op
        · cases bl
          · by_cases hr : n = rc - 1
            · simp [hr]; rw [← hr]; exact .over (.inl rfl) rfl rfl rfl (fun _ => rfl) hr
            · simp [hr]; exact .count (.inl rfl) rfl rfl rfl (fun _ => rfl) (by omega)
          · simp; exact .stay (.inl rfl) rfl rfl rfl (fun _ => rfl)
        · simp; exact .lock (by intro h; cases h)
      · cases bl
        · by_cases hsh : s = sh
          · simp [hsh]; exact .lock (by intro _ _ h; cases h)
          · simp [hsh]; exact .trip (.inr rfl) (by omega) rfl rfl
        · simp; exact .lock (by intro _ _ h; cases h)
    · cases op
      · cases bl
        · by_cases hr : n = rc - 1
          · simp [hr]; rw [← hr]; exact .over (.inr rfl) rfl rfl rfl (fun h => by cases h) hr
          · simp [hr]; exact .count (.inr rfl) rfl rfl rfl (fun h => by cases h) (by omega)
        · simp; exact .stay (.inr rfl) rfl rfl rfl (fun h => by cases h)
      · simp; exact .lock (by intro h; cases h)
  · have e : stR sh de rc ph s n fa true op bl = (5, 0, 0, false) := by
      unfold stR; rw [if_neg (by rw [hv]; decide), if_pos rfl]
    rw [e]
    exact .lock (by intro _ h; cases h)
theorem vaR_mk {sh de rc ph s n : Int} (hu : usB sh de rc = true) (h : (ph = 0 ∧ n = 0 ∧ s = 0) ∨ (ph = 1 ∧ 0 ≤ n ∧ n ≤ 20 ∧ 1 ≤ s ∧ s ≤ sh) ∨ (ph = 2 ∧ 0 ≤ n ∧ n ≤ de - 1 ∧ 1 ≤ s ∧ s ≤ sh) ∨ (ph = 3 ∧ 0 ≤ n ∧ n ≤ 20 ∧ 1 ≤ s ∧ s ≤ sh) ∨ (ph = 4 ∧ 0 ≤ n ∧ n ≤ rc - 1 ∧ 1 ≤ s ∧ s ≤ sh) ∨ (ph = 5 ∧ 0 ≤ n ∧ n ≤ rc - 1 ∧ s = 0)) : vaR sh de rc ph s n = true := by
  unfold vaR
  rw [hu]
  rcases h with ⟨rfl, rfl, rfl⟩ | ⟨rfl, h⟩ | ⟨rfl, h⟩ | ⟨rfl, h⟩ | ⟨rfl, h⟩ | ⟨rfl, h⟩ <;> simp <;> omega
set_option maxHeartbeats 4000000 in
/-- What a step out of a valid state returns is valid. -/
theorem vaR_st {sh de rc ph s n : Int} (hv : vaR sh de rc ph s n = true) (fa sl op bl : Bool) :
    vaR sh de rc (stR sh de rc ph s n fa sl op bl).1 (stR sh de rc ph s n fa sl op bl).2.1 (stR sh de rc ph s n fa sl op bl).2.2.1 = true := by
  obtain ⟨hu, hn0, hs0, hs3, hp⟩ := vaR_le hv
  have hl := usB_le hu
  refine vaR_mk hu ?_
  have hw := way_of hv fa sl op bl
  generalize (stR sh de rc ph s n fa sl op bl).1 = p' at hw ⊢
  generalize (stR sh de rc ph s n fa sl op bl).2.1 = s' at hw ⊢
  generalize (stR sh de rc ph s n fa sl op bl).2.2.1 = n' at hw ⊢
  generalize (stR sh de rc ph s n fa sl op bl).2.2.2 = c' at hw
  cases hw <;> omega
end Go.Proofs.Ytmppijipaocfiaa.PAll
