/- The plain statement of the law BreakerClosesAfter, over numbers and lists alone. Conditions: none. -/
import Derived.Test.YtooeljgandaelaaStmBreakerClosesAfter
import Derived.Test.YtooeljgandaelaaBrk
namespace Go.Proofs.Ytooeljgandaelaa.Pure
open Go.RowKit Go.Proofs.Ytooeljgandaelaa.PAll Go.Proofs.YtooeljgandaelaaW.PrintWords Go.Proofs.YtooeljgandaelaaW.PrintLast
set_option linter.unusedVariables false
set_option linter.unusedSimpArgs false
/-- A closing breaker had its command as many steps ago as it has travelled, and no open command since. -/
def Inv (t : Int) (o c : List Bool) (i : Nat) (b : S36) : Prop :=
  b.f1 = true → 1 ≤ b.f2 ∧ ∃ j : Nat, j < i ∧ (i : Int) - 1 - j = t - b.f2 ∧ c.getD j false = true ∧ ∀ q, j ≤ q → q < i → o.getD q false = false
theorem inv_step {t : Int} {o c : List Bool} {i : Nat} {b : S36} (st : Bool) (h : Inv t o c i b) : Inv t o c (i + 1) (stB b t st (o.getD i false) (c.getD i false)) ∧
    ((stB b t st (o.getD i false) (c.getD i false)).f0 = true → b.f0 = false → b.f1 = true ∧ b.f2 = 1) := by
  by_cases hv : vB b t = true
  · have hb := vB_le hv
    have e : stB b t st (o.getD i false) (c.getD i false) = obB (mvB b) t st (o.getD i false) (c.getD i false) := by unfold stB; rw [if_pos hv]
    rw [e]
    obtain ⟨c0, g, l, m⟩ := b
    simp only at hb
    simp only [Inv] at h ⊢
    generalize ho : o.getD i false = op
    generalize hc : c.getD i false = cl
    by_cases h0 : l = 0
    · subst h0
      have hg : g = false := by
        cases g
        · rfl
        · exact absurd (h rfl).1 (by omega)
      subst hg
      have em : mvB ⟨c0, false, 0, m⟩ = ⟨c0, false, 0, m⟩ := by simp [mvB]
      rw [em]
      refine ⟨?_, ?_⟩
      · cases c0
        · cases cl
          · simp [obB]
          · cases op
            · simp only [obB]
              simp
              refine ⟨by omega, i, by omega, by omega, hc, fun q h1 h2 => ?_⟩
              have : q = i := by omega
              subst this; exact ho
            · simp [obB]
        · cases op <;> simp [obB]
      · cases c0
        · cases cl <;> cases op <;> simp [obB]
        · simp
    · by_cases h1 : l = 1
      · subst h1
        have em : mvB ⟨c0, g, 1, m⟩ = ⟨g, false, 0, m && g⟩ := by simp [mvB]
        rw [em]
        refine ⟨?_, ?_⟩
        · cases g
          · cases cl
            · cases op <;> simp [obB]
            · cases op
              · simp only [obB]
                simp
                refine ⟨by omega, i, by omega, by omega, hc, fun q h1 h2 => ?_⟩
                have : q = i := by omega
                subst this; exact ho
              · simp [obB]
          · cases op <;> simp [obB]
        · cases g
          · cases cl <;> cases op <;> simp [obB]
          · intro _ _; exact ⟨rfl, rfl⟩
      · have em : mvB ⟨c0, g, l, m⟩ = ⟨c0, g, l - 1, m⟩ := by simp [mvB, h0, h1]
        have h2 : ¬ l - 1 = 0 := by omega
        rw [em]
        refine ⟨?_, ?_⟩
        · cases g
          · simp [obB, h2]
          · cases op
            · simp only [obB]
              simp [h2]
              obtain ⟨_, j, hj, hl, hcj, hoj⟩ := h rfl
              refine ⟨by omega, j, by omega, by omega, by simpa using hcj, fun q h1 h3 => ?_⟩
              rcases Nat.lt_or_ge q i with hq | hq
              · simpa using hoj q h1 hq
              · have : q = i := by omega
                subst this; simpa using ho
            · simp [obB, h2]
        · cases g <;> cases op <;> simp [obB, h2] <;> (intro h3 h4; rw [h3] at h4; cases h4)
  · have e : stB b t st (o.getD i false) (c.getD i false) = ⟨false, false, 0, false⟩ := by unfold stB; rw [if_neg hv]
    rw [e]
    exact ⟨fun h => (by cases h), fun h => (by cases h)⟩
theorem inv_at (t : Int) (st : Bool) (o c : List Bool) (i : Nat) : Inv t o c i (stAt t st o c ⟨false, false, 0, false⟩ i) := by
  induction i with
  | zero => intro h; cases h
  | succ i ih => exact (inv_step st ih).1
/-- What the contacts' closing tells of the commands. -/
theorem closes_at (t : Int) (st : Bool) (o c : List Bool) (i : Nat) (h1 : (stAt t st o c ⟨false, false, 0, false⟩ (i + 1)).f0 = true) (h0 : (stAt t st o c ⟨false, false, 0, false⟩ i).f0 = false) :
    ∃ j : Nat, (i : Int) - t = j ∧ j < i ∧ c.getD j false = true ∧ ∀ q, j ≤ q → q < i → o.getD q false = false := by
  have hi := inv_at t st o c i
  obtain ⟨hg, hl⟩ := (inv_step st hi).2 h1 h0
  obtain ⟨_, j, hj, he, hc, ho⟩ := hi hg
  exact ⟨j, by omega, hj, hc, ho⟩
theorem closes_loop (t : Int) (ht : 1 ≤ t) (ht6 : t ≤ 6) (st : Bool) (o c : List Bool) (hn : o.length = c.length) (h80 : o.length ≤ 80) (m : Nat) : ∀ (k i : Nat), i + m = o.length → 20 * m + 30 ≤ k →
    substationlaw29_BreakerClosesAfter.l0 k t o c (runB t st o c ⟨false, false, 0, false⟩ o.length) (runB t st o c ⟨false, false, 0, false⟩ o.length) (o.length : Int) (i : Int) = some true := by
  induction m with
  | zero =>
    intro k i hi hk
    obtain ⟨k, rfl⟩ : ∃ m, k = m + 1 := ⟨k - 1, by omega⟩
    simp only [substationlaw29_BreakerClosesAfter.l0]
    rw [if_neg (by omega), known29_eq k (by omega)]; rfl
  | succ m ih =>
    intro k i hi hk
    obtain ⟨k, rfl⟩ : ∃ m, k = m + 3 := ⟨k - 3, by omega⟩
    have hz := fun (k : Nat) (h : 20 * m + 30 ≤ k) => ih k (i + 1) (by omega) h
    generalize hR : runB t st o c ⟨false, false, 0, false⟩ o.length = R at hz ⊢
    have hRl : R.length = o.length := by rw [← hR, runB_length]
    have hg : ∀ q, q < o.length → (rd_T36 R (q : Int)) = stAt t st o c ⟨false, false, 0, false⟩ (q + 1) := by
      intro q hq; rw [← hR]; exact runB_get _ _ _ _ _ _ _ hq
    have w1 : True → wrap64 ((i : Int) + 1) = ((i + 1 : Nat) : Int) := fun _ => by rw [wrap_id (by omega) (by omega)]; rfl
    have wt : True → wrap64 ((i : Int) - t) = (i : Int) - t := fun _ => wrap_id (by omega) (by omega)
    -- the inner loop: from q on, up to i
    have inner : ∀ (d k q : Nat), q + d = i → 20 * m + 30 + d + 1 ≤ k → (∀ x, q ≤ x → x < i → o.getD x false = false) → substationlaw29_BreakerClosesAfter.l1 k t o c R (i : Int) (q : Int) R (o.length : Int) (i : Int) = some true := by
      intro d
      induction d with
      | zero =>
        intro k q hq hk _
        obtain ⟨k, rfl⟩ : ∃ m, k = m + 1 := ⟨k - 1, by omega⟩
        simp only [substationlaw29_BreakerClosesAfter.l1]
        rw [if_neg (by omega), w1 trivial]
        exact hz k (by omega)
      | succ d ihd =>
        intro k q hq hk ho
        obtain ⟨k, rfl⟩ : ∃ m, k = m + 1 := ⟨k - 1, by omega⟩
        have w2 : True → wrap64 ((q : Int) + 1) = ((q + 1 : Nat) : Int) := fun _ => by rw [wrap_id (by omega) (by omega)]; rfl
        simp only [substationlaw29_BreakerClosesAfter.l1]
        rw [if_pos (by omega), if_pos (by omega), if_pos (by omega)]
        have e : rdOf false o (q : Int) = false := by
          have := ho q (by omega) (by omega)
          simpa [rdOf] using this
        rw [e, if_neg (by decide), w2 trivial]
        exact ihd k (q + 1) (by omega) (by omega) (fun x h1 h2 => ho x (by omega) h2)
    -- what a closing leads to
    have shut : (stAt t st o c ⟨false, false, 0, false⟩ (i + 1)).f0 = true → (stAt t st o c ⟨false, false, 0, false⟩ i).f0 = false → substationlaw29_BreakerClosesAfter.j2 (k + 2) t o c R (i : Int) R (o.length : Int) (i : Int) false = some true := by
      intro h1 h0
      obtain ⟨j, he, hj, hc, ho⟩ := closes_at t st o c i h1 h0
      simp only [substationlaw29_BreakerClosesAfter.j2, wt trivial]
      rw [if_neg (by decide), if_neg (by omega), if_pos (by omega), if_pos (by omega)]
      have e : rdOf false c ((i : Int) - t) = true := by
        rw [he]; simpa [rdOf] using hc
      rw [e]
      simp only [substationlaw29_BreakerClosesAfter.j3]
      rw [if_neg (by decide), he]
      exact inner (i - j) k j (by omega) (by omega) ho
    have skip : substationlaw29_BreakerClosesAfter.j2 (k + 2) t o c R (i : Int) R (o.length : Int) (i : Int) true = some true := by
      simp only [substationlaw29_BreakerClosesAfter.j2]
      rw [if_pos trivial, w1 trivial]
      exact hz (k + 1) (by omega)
    simp only [substationlaw29_BreakerClosesAfter.l0]
    rw [if_pos (by omega), if_pos (by omega), if_pos (by omega), hg i (by omega)]
    by_cases h1 : (stAt t st o c ⟨false, false, 0, false⟩ (i + 1)).f0 = true
    · rw [if_pos h1]
      by_cases hi0 : (i : Int) > 0
      · obtain ⟨p, rfl⟩ : ∃ p, i = p + 1 := ⟨i - 1, by omega⟩
        have w3 : True → wrap64 (((p + 1 : Nat) : Int) - 1) = (p : Int) := fun _ => by rw [wrap_id (by omega) (by omega)]; omega
        rw [if_pos hi0, w3 trivial, if_pos (by omega), if_pos (by omega), hg p (by omega)]
        by_cases h0 : (stAt t st o c ⟨false, false, 0, false⟩ (p + 1)).f0 = true
        · rw [h0]; exact skip
        · have h0' : (stAt t st o c ⟨false, false, 0, false⟩ (p + 1)).f0 = false := by simpa using h0
          rw [h0']; exact shut h1 h0'
      · rw [if_neg hi0]
        obtain rfl : i = 0 := by omega
        exact shut h1 rfl
    · rw [if_neg h1]; exact skip
theorem BreakerClosesAfter : BreakerClosesAfter_Pure := by
  intro cl t st o c _ _ _
  refine ⟨20 * o.length + 41, ?_⟩
  unfold substationlaw29_BreakerClosesAfter.f
  have guard : substationlaw29_BreakerClosesAfter.j0 (20 * o.length + 40 + 1) t o c true cl t st o c = some true := by
    simp only [substationlaw29_BreakerClosesAfter.j0]
    rw [if_pos trivial, known29_eq _ (by omega)]; rfl
  by_cases h1 : t < 1
  · rw [if_pos h1]; exact guard
  by_cases h2 : t > 6
  · rw [if_neg h1, if_pos h2]; exact guard
  rw [if_neg h1, if_neg h2]
  by_cases h3 : o.length = c.length
  · rw [if_pos (by omega)]
    by_cases h4 : (o.length : Int) > 80
    · rw [decide_eq_true h4]; exact guard
    · rw [decide_eq_false h4]
      show substationlaw29_BreakerClosesAfter.j0 (20 * o.length + 40 + 1) t o c false cl t st o c = some true
      simp only [substationlaw29_BreakerClosesAfter.j0]
      rw [if_neg (by decide), run_eq false t st o c (by omega) _ (by omega)]
      simp only [Option.bind_some]
      rw [show (if 1 ≤ t ∧ t ≤ 6 ∧ o.length = c.length then runB t st o c ⟨false, false, 0, false⟩ o.length else []) = runB t st o c ⟨false, false, 0, false⟩ o.length from if_pos ⟨by omega, by omega, h3⟩, runB_length, if_pos rfl]
      exact closes_loop t (by omega) (by omega) st o c h3 (by omega) o.length _ 0 (by omega) (by omega)
  · rw [if_neg (by omega)]; exact guard

end Go.Proofs.Ytooeljgandaelaa.Pure
