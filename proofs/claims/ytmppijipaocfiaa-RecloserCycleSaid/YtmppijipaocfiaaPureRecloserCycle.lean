/- The plain statement of the law RecloserCycle, over numbers and lists alone. Conditions: none. -/
import Derived.Test.YtmppijipaocfiaaStmRecloserCycle
import Derived.Test.YtmppijipaocfiaaBrk4
namespace Go.Proofs.Ytmppijipaocfiaa.Pure
open Go.RowKit Go.Proofs.Ytmppijipaocfiaa.PAll Go.Proofs.YtmppijipaocfiaaW.PrintWords Go.Proofs.YtmppijipaocfiaaW.PrintLast
set_option linter.unusedVariables false
set_option linter.unusedSimpArgs false
/-- Where the breaker and the recloser are before step i. -/
inductive Cyc (t de rc : Int) (i : Nat) : Bool → Bool → Int → SB → Int → Int → Int → Prop
  | start : i = 0 → Cyc t de rc i true false 0 ⟨true, false, 0, false⟩ 0 0 0
  | opening : 1 ≤ i → (i : Int) ≤ t → Cyc t de rc i false false 0 ⟨true, false, t - (i - 1), true⟩ 1 1 (i - 1)
  | dead : t < i → (i : Int) ≤ t + de → Cyc t de rc i false false 0 ⟨false, false, 0, false⟩ 2 1 (i - t - 1)
  | command : (i : Int) = t + de + 1 → Cyc t de rc i false true 1 ⟨false, false, 0, false⟩ 3 1 0
  | closing : t + de + 1 < i → (i : Int) ≤ 2 * t + de + 1 → Cyc t de rc i false false 1 ⟨false, true, t - (i - (t + de + 2)), false⟩ 3 1 (i - (t + de + 1))
  | reclaim : 2 * t + de + 1 < i → (i : Int) ≤ 2 * t + de + rc + 1 → Cyc t de rc i false false 1 ⟨true, false, 0, false⟩ 4 1 (i - (2 * t + de + 2))
  | ready : 2 * t + de + rc + 1 < i → Cyc t de rc i false false 1 ⟨true, false, 0, false⟩ 0 0 0
theorem cyc_step {sh t de rc : Int} (hu : usB sh de rc = true) (ht : 1 ≤ t) (ht6 : t ≤ 6) {i : Nat} {trip close : Bool} {c : Int} {b : SB} {ph s n : Int} (h : Cyc t de rc i trip close c b ph s n) :
    ∀ b', b' = stB b t false trip close → ∀ R, R = stR sh de rc ph s n ((i : Int) == 0) false (!b'.f0) false → Cyc t de rc (i + 1) false R.2.2.2 (if R.2.2.2 = true then c + 1 else c) b' R.1 R.2.1 R.2.2.1 := by
  intro b' hb' R hR
  have hl := usB_le hu
  cases h with
  | start h0 =>
    subst h0
    have hv : vB ⟨true, false, 0, false⟩ t = true := by simp [vB]; omega
    have e : b' = ⟨true, false, t, true⟩ := by rw [hb']; simp [stB, hv, mvB, obB]
    have hva : vaR sh de rc 0 0 0 = true := vaR_zero hu
    have hne : ¬ (0 : Int) = sh := by omega
    have eR : R = (1, 1, 0, false) := by rw [hR, e, stR_on hva]; simp [hne]
    rw [e, eR]
    have := Cyc.opening (t := t) (de := de) (rc := rc) (i := 0 + 1) (by omega) (by omega)
    simpa using this
  | opening h1 h2 =>
    have hv : vB ⟨true, false, t - (i - 1), true⟩ t = true := by simp [vB]; omega
    have hva : vaR sh de rc 1 1 (i - 1) = true := vaR_mk hu (by omega)
    have hi0 : ((i : Int) == 0) = false := by simp; omega
    by_cases hlast : (i : Int) = t
    · have e : b' = ⟨false, false, 0, false⟩ := by
        have e1 : t - ((i : Int) - 1) = 1 := by omega
        rw [e1] at hv hb'
        rw [hb']; simp [stB, hv, mvB, obB]
      have eR : R = (2, 1, 0, false) := by rw [hR, e, stR_on hva]; simp
      rw [e, eR]
      have := Cyc.dead (t := t) (de := de) (rc := rc) (i := i + 1) (by omega) (by omega)
      have e2 : ((i + 1 : Nat) : Int) - t - 1 = 0 := by omega
      rw [e2] at this
      simpa using this
    · have n1 : ¬ t - ((i : Int) - 1) = 0 := by omega
      have n2 : ¬ t - ((i : Int) - 1) = 1 := by omega
      have n3 : ¬ t - ((i : Int) - 1) - 1 = 0 := by omega
      have e : b' = ⟨true, false, t - (i - 1) - 1, true⟩ := by rw [hb']; simp [stB, hv, mvB, obB, n1, n2, n3]
      have n4 : ¬ (i : Int) - 1 = 20 := by omega
      have eR : R = (1, 1, (i : Int) - 1 + 1, false) := by rw [hR, e, stR_on hva]; simp [n4]
      rw [e, eR]
      have := Cyc.opening (t := t) (de := de) (rc := rc) (i := i + 1) (by omega) (by omega)
      have e2 : t - (((i + 1 : Nat) : Int) - 1) = t - (i - 1) - 1 := by omega
      have e3 : ((i + 1 : Nat) : Int) - 1 = i - 1 + 1 := by omega
      rw [e2, e3] at this
      simpa using this
  | dead h1 h2 =>
    have hv : vB ⟨false, false, 0, false⟩ t = true := by simp [vB]; omega
    have hva : vaR sh de rc 2 1 (i - t - 1) = true := vaR_mk hu (by omega)
    have e : b' = ⟨false, false, 0, false⟩ := by rw [hb']; simp [stB, hv, mvB, obB]
    by_cases hlast : (i : Int) = t + de
    · have n1 : (i : Int) - t - 1 = de - 1 := by omega
      have eR : R = (3, 1, 0, true) := by rw [hR, e, stR_on hva]; simp [n1]
      rw [e, eR]
      have := Cyc.command (t := t) (de := de) (rc := rc) (i := i + 1) (by omega)
      simpa using this
    · have n1 : ¬ (i : Int) - t - 1 = de - 1 := by omega
      have eR : R = (2, 1, i - t - 1 + 1, false) := by rw [hR, e, stR_on hva]; simp [n1]
      rw [e, eR]
      have := Cyc.dead (t := t) (de := de) (rc := rc) (i := i + 1) (by omega) (by omega)
      have e2 : ((i + 1 : Nat) : Int) - t - 1 = i - t - 1 + 1 := by omega
      rw [e2] at this
      simpa using this
  | command h1 =>
    have hv : vB ⟨false, false, 0, false⟩ t = true := by simp [vB]; omega
    have hva : vaR sh de rc 3 1 0 = true := vaR_mk hu (by omega)
    have e : b' = ⟨false, true, t, false⟩ := by rw [hb']; simp [stB, hv, mvB, obB]
    have eR : R = (3, 1, 1, false) := by rw [hR, e, stR_on hva]; simp
    rw [e, eR]
    have := Cyc.closing (t := t) (de := de) (rc := rc) (i := i + 1) (by omega) (by omega)
    have e2 : t - (((i + 1 : Nat) : Int) - (t + de + 2)) = t := by omega
    have e3 : ((i + 1 : Nat) : Int) - (t + de + 1) = 1 := by omega
    rw [e2, e3] at this
    simpa using this
  | closing h1 h2 =>
    have hv : vB ⟨false, true, t - (i - (t + de + 2)), false⟩ t = true := by simp [vB]; omega
    have hva : vaR sh de rc 3 1 (i - (t + de + 1)) = true := vaR_mk hu (by omega)
    by_cases hlast : (i : Int) = 2 * t + de + 1
    · have e : b' = ⟨true, false, 0, false⟩ := by
        have e1 : t - ((i : Int) - (t + de + 2)) = 1 := by omega
        rw [e1] at hv hb'
        rw [hb']; simp [stB, hv, mvB, obB]
      have eR : R = (4, 1, 0, false) := by rw [hR, e, stR_on hva]; simp
      rw [e, eR]
      have := Cyc.reclaim (t := t) (de := de) (rc := rc) (i := i + 1) (by omega) (by omega)
      have e2 : ((i + 1 : Nat) : Int) - (2 * t + de + 2) = 0 := by omega
      rw [e2] at this
      simpa using this
    · have n1 : ¬ t - ((i : Int) - (t + de + 2)) = 0 := by omega
      have n2 : ¬ t - ((i : Int) - (t + de + 2)) = 1 := by omega
      have n3 : ¬ t - ((i : Int) - (t + de + 2)) - 1 = 0 := by omega
      have e : b' = ⟨false, true, t - (i - (t + de + 2)) - 1, false⟩ := by rw [hb']; simp [stB, hv, mvB, obB, n1, n2, n3]
      have n4 : ¬ (i : Int) - (t + de + 1) = 20 := by omega
      have eR : R = (3, 1, i - (t + de + 1) + 1, false) := by rw [hR, e, stR_on hva]; simp [n4]
      rw [e, eR]
      have := Cyc.closing (t := t) (de := de) (rc := rc) (i := i + 1) (by omega) (by omega)
      have e2 : t - (((i + 1 : Nat) : Int) - (t + de + 2)) = t - (i - (t + de + 2)) - 1 := by omega
      have e3 : ((i + 1 : Nat) : Int) - (t + de + 1) = i - (t + de + 1) + 1 := by omega
      rw [e2, e3] at this
      simpa using this
  | reclaim h1 h2 =>
    have hv : vB ⟨true, false, 0, false⟩ t = true := by simp [vB]; omega
    have hva : vaR sh de rc 4 1 (i - (2 * t + de + 2)) = true := vaR_mk hu (by omega)
    have hi0 : ¬ i = 0 := by omega
    have e : b' = ⟨true, false, 0, false⟩ := by rw [hb']; simp [stB, hv, mvB, obB]
    by_cases hlast : (i : Int) = 2 * t + de + rc + 1
    · have n1 : (i : Int) - (2 * t + de + 2) = rc - 1 := by omega
      have eR : R = (0, 0, 0, false) := by rw [hR, e, stR_on hva]; simp [n1, hi0]
      rw [e, eR]
      have := Cyc.ready (t := t) (de := de) (rc := rc) (i := i + 1) (by omega)
      simpa using this
    · have n1 : ¬ (i : Int) - (2 * t + de + 2) = rc - 1 := by omega
      have eR : R = (4, 1, i - (2 * t + de + 2) + 1, false) := by rw [hR, e, stR_on hva]; simp [n1, hi0]
      rw [e, eR]
      have := Cyc.reclaim (t := t) (de := de) (rc := rc) (i := i + 1) (by omega) (by omega)
      have e2 : ((i + 1 : Nat) : Int) - (2 * t + de + 2) = i - (2 * t + de + 2) + 1 := by omega
      rw [e2] at this
      simpa using this
  | ready h1 =>
    have hv : vB ⟨true, false, 0, false⟩ t = true := by simp [vB]; omega
    have hva : vaR sh de rc 0 0 0 = true := vaR_zero hu
    have hi0 : ¬ i = 0 := by omega
    have e : b' = ⟨true, false, 0, false⟩ := by rw [hb']; simp [stB, hv, mvB, obB]
    have eR : R = (0, 0, 0, false) := by rw [hR, e, stR_on hva]; simp [hi0]
    rw [e, eR]
    have := Cyc.ready (t := t) (de := de) (rc := rc) (i := i + 1) (by omega)
    simpa using this
theorem cycle_loop (sh de rc t : Int) (hu : usB sh de rc = true) (ht : 1 ≤ t) (ht6 : t ≤ 6) (m : Nat) : ∀ (k i : Nat) (trip close : Bool) (c : Int) (b : SB) (ph s n : Int), (i : Int) + m = 2 * t + de + rc + 5 → m + 12 ≤ k → 0 ≤ c → c ≤ i → Cyc t de rc i trip close c b ph s n →
    substationlaw35_RecloserCycle.l0 k t trip close c (2 * t + de + rc + 5) (i : Int) sh de rc b.f0 b.f1 b.f2 b.f3 ph s n = some true := by
  have hl := usB_le hu
  induction m with
  | zero =>
    intro k i trip close c b ph s n hi hk h0 hc h
    obtain ⟨k, rfl⟩ : ∃ m, k = m + 1 := ⟨k - 1, by omega⟩
    simp only [substationlaw35_RecloserCycle.l0]
    rw [if_neg (by omega), known35 k (by omega)]
    cases h with
    | ready => rfl
    | _ => omega
  | succ m ih =>
    intro k i trip close c b ph s n hi hk h0 hc h
    obtain ⟨k, rfl⟩ : ∃ m, k = m + 1 := ⟨k - 1, by omega⟩
    have w1 : True → wrap64 ((i : Int) + 1) = ((i + 1 : Nat) : Int) := fun _ => by rw [wrap_id (by omega) (by omega)]; rfl
    have w2 : True → wrap64 (c + 1) = c + 1 := fun _ => wrap_id (by omega) (by omega)
    have hs := cyc_step hu ht ht6 h _ rfl _ rfl
    simp only [substationlaw35_RecloserCycle.l0]
    rw [if_pos (by omega), bstep_ev (by omega) b]
    simp only [Option.bind_some, tup, w1 trivial, w2 trivial]
    rw [set_eq]
    simp only [Option.bind_some]
    generalize stB b t false trip close = b' at hs ⊢
    generalize stR sh de rc ph s n ((i : Int) == 0) false (!b'.f0) false = R at hs ⊢
    by_cases hd : R.2.2.2 = true
    · rw [if_pos hd] at hs ⊢
      exact ih k (i + 1) false R.2.2.2 (c + 1) b' R.1 R.2.1 R.2.2.1 (by omega) (by omega) (by omega) (by omega) hs
    · rw [if_neg hd] at hs ⊢
      exact ih k (i + 1) false R.2.2.2 c b' R.1 R.2.1 R.2.2.1 (by omega) (by omega) h0 (by omega) hs
theorem RecloserCycle : RecloserCycle_Pure := by
  intro sh de rc t _ _ _ _
  refine ⟨(2 * t + de + rc + 5).toNat + 20, ?_⟩
  unfold substationlaw35_RecloserCycle.f
  rw [va_ev (by omega)]
  simp only [Option.bind_some]
  have guard : substationlaw35_RecloserCycle.j0 ((2 * t + de + rc + 5).toNat + 19 + 1) t true sh de rc = some true := by
    simp only [substationlaw35_RecloserCycle.j0]
    rw [if_pos trivial, known35 _ (by omega)]; rfl
  by_cases hv : vaR sh de rc 0 0 0 = true
  · rw [if_pos hv]
    have hu := (vaR_le hv).1
    have hl := usB_le hu
    by_cases h1 : t < 1
    · rw [if_pos h1]; exact guard
    · rw [if_neg h1]
      by_cases h2 : t > 6
      · rw [decide_eq_true h2]; exact guard
      · rw [decide_eq_false h2]
        show substationlaw35_RecloserCycle.j0 ((2 * t + de + rc + 5).toNat + 19 + 1) t false sh de rc = some true
        simp only [substationlaw35_RecloserCycle.j0]
        rw [if_neg (by decide)]
        simp only [breaker_New.f, Option.bind_some]
        have w1 : wrap64 (2 * t) = 2 * t := wrap_id (by omega) (by omega)
        rw [w1]
        have w2 : wrap64 (2 * t + de) = 2 * t + de := wrap_id (by omega) (by omega)
        rw [w2]
        have w3 : wrap64 (2 * t + de + rc) = 2 * t + de + rc := wrap_id (by omega) (by omega)
        rw [w3]
        have w4 : wrap64 (2 * t + de + rc + 5) = 2 * t + de + rc + 5 := wrap_id (by omega) (by omega)
        rw [w4]
        clear w1 w2 w3 w4
        exact cycle_loop sh de rc t hu (by omega) (by omega) (2 * t + de + rc + 5).toNat _ 0 true false 0 ⟨true, false, 0, false⟩ 0 0 0 (by omega) (by omega) (by omega) (by omega) (.start rfl)
  · rw [if_neg hv]; exact guard

end Go.Proofs.Ytmppijipaocfiaa.Pure
