/- The plain statement of the law RecloserClosings, over numbers and lists alone. Conditions: none. -/
import Derived.Test.YtmppijipaocfiaaStmRecloserClosings
import Derived.Test.YtmppijipaocfiaaRec
namespace Go.Proofs.Ytmppijipaocfiaa.Pure
open Go.RowKit Go.Proofs.Ytmppijipaocfiaa.PAll Go.Proofs.YtmppijipaocfiaaW.PrintWords Go.Proofs.YtmppijipaocfiaaW.PrintLast
set_option linter.unusedVariables false
set_option linter.unusedSimpArgs false
/-- How many commands come in the next m steps, from step i on. -/
def cntB (sh de rc : Int) (l : List S29) : Nat → Nat → Int → Int → Int → Int
  | 0, _, _, _, _ => 0
  | m + 1, i, ph, s, n =>
    (if (stR sh de rc ph s n (rd_T29 l (i : Int)).f0 (rd_T29 l (i : Int)).f1 (rd_T29 l (i : Int)).f2 (rd_T29 l (i : Int)).f3).2.2.2 = true then 1 else 0) +
      cntB sh de rc l m (i + 1) (stR sh de rc ph s n (rd_T29 l (i : Int)).f0 (rd_T29 l (i : Int)).f1 (rd_T29 l (i : Int)).f2 (rd_T29 l (i : Int)).f3).1 (stR sh de rc ph s n (rd_T29 l (i : Int)).f0 (rd_T29 l (i : Int)).f1 (rd_T29 l (i : Int)).f2 (rd_T29 l (i : Int)).f3).2.1 (stR sh de rc ph s n (rd_T29 l (i : Int)).f0 (rd_T29 l (i : Int)).f1 (rd_T29 l (i : Int)).f2 (rd_T29 l (i : Int)).f3).2.2.1
theorem prog_loop (sh de rc : Int) (l : List S29) (hl : l.length ≤ 200) (m : Nat) : ∀ (k i : Nat) (ph s n c : Int), i + m = l.length → m + 1 ≤ k → 0 ≤ c → c ≤ i →
    recloser_Closings.l0 k sh de rc c l (l.length : Int) (i : Int) ph s n = some (c + cntB sh de rc l m i ph s n) := by
  induction m with
  | zero =>
    intro k i ph s n c hi hk h0 hc
    obtain ⟨k, rfl⟩ : ∃ m, k = m + 1 := ⟨k - 1, by omega⟩
    simp only [recloser_Closings.l0]
    rw [if_neg (by omega)]
    simp [cntB]
  | succ m ih =>
    intro k i ph s n c hi hk h0 hc
    obtain ⟨k, rfl⟩ : ∃ m, k = m + 1 := ⟨k - 1, by omega⟩
    have w1 : True → wrap64 ((i : Int) + 1) = ((i + 1 : Nat) : Int) := fun _ => by rw [wrap_id (by omega) (by omega)]; rfl
    have w2 : True → wrap64 (c + 1) = c + 1 := fun _ => wrap_id (by omega) (by omega)
    simp only [recloser_Closings.l0, recloser_Step.f]
    rw [if_pos (by omega), if_pos (by omega), if_pos (by omega)]
    simp only [Option.bind_some, w1 trivial, w2 trivial, cntB]
    generalize stR sh de rc ph s n (rd_T29 l (i : Int)).f0 (rd_T29 l (i : Int)).f1 (rd_T29 l (i : Int)).f2 (rd_T29 l (i : Int)).f3 = R
    by_cases hd : R.2.2.2 = true
    · rw [if_pos hd, if_pos hd, ih k (i + 1) R.1 R.2.1 R.2.2.1 (c + 1) (by omega) (by omega) (by omega) (by omega), Int.add_assoc]
    · rw [if_neg hd, if_neg hd, ih k (i + 1) R.1 R.2.1 R.2.2.1 c (by omega) (by omega) h0 (by omega), Int.zero_add]
theorem law_loop (sh de rc : Int) (l : List S29) (hl : l.length ≤ 200) (m : Nat) : ∀ (k i : Nat) (ph s n c : Int), i + m = l.length → m + l.length + 12 ≤ k → 0 ≤ c → c ≤ i →
    c + cntB sh de rc l m i ph s n = cntB sh de rc l l.length 0 0 0 0 →
    substationlaw35_RecloserClosings.l0 k l c l (l.length : Int) (i : Int) sh de rc ph s n = some true := by
  induction m with
  | zero =>
    intro k i ph s n c hi hk h0 hc hsame
    obtain ⟨k, rfl⟩ : ∃ m, k = m + 1 := ⟨k - 1, by omega⟩
    simp only [substationlaw35_RecloserClosings.l0]
    rw [if_neg (by omega), known35 k (by omega)]
    simp only [Option.bind_some, if_true]
    have e := prog_loop sh de rc l hl l.length k 0 0 0 0 0 (by omega) (by omega) (by omega) (by omega)
    have e2 : recloser_Closings.f k sh de rc l = some (cntB sh de rc l l.length 0 0 0 0) := by
      unfold recloser_Closings.f
      rw [Int.zero_add] at e
      exact e
    rw [e2]
    simp [cntB] at hsame
    simp [hsame]
  | succ m ih =>
    intro k i ph s n c hi hk h0 hc hsame
    obtain ⟨k, rfl⟩ : ∃ m, k = m + 1 := ⟨k - 1, by omega⟩
    have w1 : True → wrap64 ((i : Int) + 1) = ((i + 1 : Nat) : Int) := fun _ => by rw [wrap_id (by omega) (by omega)]; rfl
    have w2 : True → wrap64 (c + 1) = c + 1 := fun _ => wrap_id (by omega) (by omega)
    simp only [substationlaw35_RecloserClosings.l0]
    rw [if_pos (by omega), if_pos (by omega), if_pos (by omega), set_eq]
    simp only [Option.bind_some, w1 trivial, w2 trivial]
    simp only [cntB] at hsame
    generalize stR sh de rc ph s n (rd_T29 l (i : Int)).f0 (rd_T29 l (i : Int)).f1 (rd_T29 l (i : Int)).f2 (rd_T29 l (i : Int)).f3 = R at hsame ⊢
    by_cases hd : R.2.2.2 = true
    · rw [if_pos hd] at hsame ⊢
      exact ih k (i + 1) R.1 R.2.1 R.2.2.1 (c + 1) (by omega) (by omega) (by omega) (by omega) (by rw [← hsame, Int.add_assoc])
    · rw [if_neg hd] at hsame ⊢
      exact ih k (i + 1) R.1 R.2.1 R.2.2.1 c (by omega) (by omega) h0 (by omega) (by rw [← hsame, Int.zero_add])
theorem RecloserClosings : RecloserClosings_Pure := by
  intro sh de rc l _ _ _ _
  refine ⟨2 * l.length + 12, ?_⟩
  unfold substationlaw35_RecloserClosings.f
  by_cases h : (l.length : Int) > 200
  · rw [if_pos h, known35 _ (by omega)]; rfl
  · rw [if_neg h]
    exact law_loop sh de rc l (by omega) l.length _ 0 0 0 0 0 (by omega) (by omega) (by omega) (by omega) (by rw [Int.zero_add])

end Go.Proofs.Ytmppijipaocfiaa.Pure
