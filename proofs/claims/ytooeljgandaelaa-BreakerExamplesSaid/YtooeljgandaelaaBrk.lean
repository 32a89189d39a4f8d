/- The breaker's functions in plain words: what Valid, Step and Run of the program and of the specification compute. Conditions: none. -/
import Derived.Test.YtooeljgandaelaaPAllx9
import Derived.Test.YtooeljgandaelaaPAllx11
namespace Go.Proofs.Ytooeljgandaelaa.PAll
open Go.RowKit Go.Proofs.YtooeljgandaelaaW.PrintWords Go.Proofs.YtooeljgandaelaaW.PrintLast
set_option linter.unusedVariables false
set_option linter.unusedSimpArgs false
theorem wrap_id {x : Int} (h0 : -9223372036854775808 ≤ x) (h1 : x ≤ 9223372036854775807) : wrap64 x = x := by unfold wrap64; omega
theorem s36_ext {a b : S36} (h0 : a.f0 = b.f0) (h1 : a.f1 = b.f1) (h2 : a.f2 = b.f2) (h3 : a.f3 = b.f3) : a = b := by cases a; cases b; simp_all
/-- A valid state. -/
def vB (b : S36) (t : Int) : Bool := decide (1 ≤ t) && (decide (t ≤ 6) && (decide (0 ≤ b.f2) && (decide (b.f2 ≤ t) && ((!b.f3 || b.f0) && (if b.f2 = 0 then !b.f1 else b.f0 != b.f1)))))
def mvB (b : S36) : S36 := if b.f2 = 0 then b else if b.f2 = 1 then ⟨b.f1, false, 0, b.f3 && b.f1⟩ else ⟨b.f0, b.f1, b.f2 - 1, b.f3⟩
def obB (b : S36) (t : Int) (st op cl : Bool) : S36 :=
  if b.f2 ≠ 0 ∧ b.f1 = true ∧ op = true then ⟨b.f0, false, 0, b.f3⟩
  else if b.f2 = 0 ∧ b.f0 = true ∧ op = true then ⟨b.f0, b.f1, if st = true then b.f2 else t, true⟩
  else if b.f2 = 0 ∧ b.f0 = false ∧ cl = true ∧ op = false then ⟨b.f0, true, t, b.f3⟩ else b
def stB (b : S36) (t : Int) (st op cl : Bool) : S36 := if vB b t = true then obB (mvB b) t st op cl else ⟨false, false, 0, false⟩
/-- The tuple that the printed functions hand back. -/
def tup (b : S36) : Bool × Bool × Int × Bool := (b.f0, b.f1, b.f2, b.f3)
theorem vB_le {b : S36} {t : Int} (h : vB b t = true) : 1 ≤ t ∧ t ≤ 6 ∧ 0 ≤ b.f2 ∧ b.f2 ≤ t := by
  simp only [vB, Bool.and_eq_true, decide_eq_true_eq] at h
  omega
theorem valid_eq (k : Nat) (b : S36) (t : Int) : breaker_Valid.f (k + 2) b.f0 b.f1 b.f2 b.f3 t = some (vB b t) := by
  obtain ⟨c, g, l, m⟩ := b
  unfold breaker_Valid.f vB
  by_cases h1 : t < 1
  · have : ¬ 1 ≤ t := by omega
    simp [h1, this, breaker_Valid.j0]
  have h1' : 1 ≤ t := by omega
  by_cases h2 : t > 6
  · have : ¬ t ≤ 6 := by omega
    simp [h1, h2, this, breaker_Valid.j0]
  have h2' : t ≤ 6 := by omega
  by_cases h3 : l < 0
  · have : ¬ 0 ≤ l := by omega
    simp [h1, h2, h3, this, breaker_Valid.j0]
  have h3' : 0 ≤ l := by omega
  by_cases h4 : l > t
  · have : ¬ l ≤ t := by omega
    simp [h1, h2, h3, h4, this, breaker_Valid.j0]
  have h4' : l ≤ t := by omega
  by_cases h5 : l = 0
  · subst h5
    cases c <;> cases g <;> cases m <;> simp [h1, h2, h4, h1', h2', h4', breaker_Valid.j0, breaker_Valid.j1, breaker_New.f]
  · have h6 : l > 0 := by omega
    cases c <;> cases g <;> cases m <;> simp [h1, h2, h3, h4, h5, h6, h1', h2', h3', h4', breaker_Valid.j0, breaker_Valid.j1, breaker_New.f]
theorem refvalid_eq (k : Nat) (b : S36) (t : Int) : substationref29_ValidBreaker.f (k + 1) b.f0 b.f1 b.f2 b.f3 t = some (vB b t) := by
  obtain ⟨c, g, l, m⟩ := b
  unfold substationref29_ValidBreaker.f vB
  by_cases h1 : t < 1
  · have : ¬ 1 ≤ t := by omega
    simp [h1, this, substationref29_ValidBreaker.j0]
  have h1' : 1 ≤ t := by omega
  by_cases h2 : t > 6
  · have : ¬ t ≤ 6 := by omega
    simp [h1, h2, this, substationref29_ValidBreaker.j0]
  have h2' : t ≤ 6 := by omega
  by_cases h3 : l < 0
  · have : ¬ 0 ≤ l := by omega
    simp [h1, h2, h3, this, substationref29_ValidBreaker.j0]
  have h3' : 0 ≤ l := by omega
  by_cases h4 : l > t
  · have : ¬ l ≤ t := by omega
    simp [h1, h2, h3, h4, this, substationref29_ValidBreaker.j0]
  have h4' : l ≤ t := by omega
  by_cases h5 : l = 0
  · subst h5
    cases c <;> cases g <;> cases m <;> simp [h1, h2, h4, h1', h2', h4', substationref29_ValidBreaker.j0]
  · cases c <;> cases g <;> cases m <;> simp [h1, h2, h3, h4, h5, h1', h2', h3', h4', substationref29_ValidBreaker.j0]
theorem move_eq (b : S36) (h0 : 0 ≤ b.f2) (h1 : b.f2 ≤ 6) : breaker_move.f b.f0 b.f1 b.f2 b.f3 = some (tup (mvB b)) := by
  obtain ⟨c, g, l, m⟩ := b
  simp only at h0 h1
  unfold breaker_move.f mvB tup
  simp only
  rw [wrap_id (x := l - 1) (by omega) (by omega)]
  by_cases h5 : l = 0
  · simp [h5]
  · by_cases h6 : l = 1
    · subst h6; cases m <;> simp
    · have : ¬ l - 1 = 0 := by omega
      simp [h5, h6, this]
theorem obey_eq (k : Nat) (b : S36) (t : Int) (st op cl : Bool) : breaker_obey.f (k + 2) b.f0 b.f1 b.f2 b.f3 t st op cl = some (tup (obB b t st op cl)) := by
  obtain ⟨c, g, l, m⟩ := b
  unfold breaker_obey.f obB tup
  by_cases h5 : l = 0
  · subst h5; cases c <;> cases g <;> cases st <;> cases op <;> cases cl <;> simp [breaker_obey.j0, breaker_obey.j1]
  · cases c <;> cases g <;> cases op <;> simp [h5, breaker_obey.j0, breaker_obey.j1]
theorem step_eq (k : Nat) (b : S36) (t : Int) (st op cl : Bool) : breaker_Step.f (k + 2) b.f0 b.f1 b.f2 b.f3 t st op cl = some (tup (stB b t st op cl)) := by
  unfold breaker_Step.f stB
  rw [valid_eq]
  simp only [Option.bind_some]
  by_cases hv : vB b t = true
  · have h := vB_le hv
    rw [if_pos hv, if_pos hv, move_eq b (by omega) (by omega)]
    simp only [Option.bind_some, tup]
    rw [obey_eq k (mvB b)]
    rfl
  · rw [if_neg hv, if_neg hv]; rfl
theorem refstep_eq (k : Nat) (b : S36) (t : Int) (st op cl : Bool) : substationref29_Breaker.f (k + 3) b.f0 b.f1 b.f2 b.f3 t st op cl = some (tup (stB b t st op cl)) := by
  unfold substationref29_Breaker.f stB
  rw [refvalid_eq]
  simp only [Option.bind_some]
  by_cases hv : vB b t = true
  · have h := vB_le hv
    rw [if_pos hv, if_pos hv, wrap_id (x := b.f2 - 1) (by omega) (by omega)]
    obtain ⟨c, g, l, m⟩ := b
    simp only at h ⊢
    unfold tup
    by_cases h5 : l = 0
    · subst h5
      cases c <;> cases g <;> cases st <;> cases op <;> cases cl <;> simp [substationref29_Breaker.j0, substationref29_Breaker.j1, substationref29_Breaker.j2, mvB, obB]
    · have h6 : l > 0 := by omega
      by_cases h7 : l = 1
      · subst h7
        cases c <;> cases g <;> cases m <;> cases st <;> cases op <;> cases cl <;> simp [substationref29_Breaker.j0, substationref29_Breaker.j1, substationref29_Breaker.j2, mvB, obB]
      · have h8 : ¬ l - 1 = 0 := by omega
        have h9 : l - 1 > 0 := by omega
        have h10 : 1 < l := by omega
        cases c <;> cases g <;> cases op <;> simp [substationref29_Breaker.j0, substationref29_Breaker.j1, substationref29_Breaker.j2, mvB, obB, h5, h6, h7, h8, h9, h10]
  · rw [if_neg hv, if_neg hv]; rfl
theorem step_ev {k : Nat} (hk : 2 ≤ k) (b : S36) (t : Int) (st op cl : Bool) : breaker_Step.f k b.f0 b.f1 b.f2 b.f3 t st op cl = some (tup (stB b t st op cl)) := by
  obtain ⟨k, rfl⟩ : ∃ m, k = m + 2 := ⟨k - 2, by omega⟩
  exact step_eq k b t st op cl
theorem valid_ev {k : Nat} (hk : 2 ≤ k) (b : S36) (t : Int) : breaker_Valid.f k b.f0 b.f1 b.f2 b.f3 t = some (vB b t) := by
  obtain ⟨k, rfl⟩ : ∃ m, k = m + 2 := ⟨k - 2, by omega⟩
  exact valid_eq k b t
theorem refvalid_ev {k : Nat} (hk : 1 ≤ k) (b : S36) (t : Int) : substationref29_ValidBreaker.f k b.f0 b.f1 b.f2 b.f3 t = some (vB b t) := by
  obtain ⟨k, rfl⟩ : ∃ m, k = m + 1 := ⟨k - 1, by omega⟩
  exact refvalid_eq k b t
theorem refstep_ev {k : Nat} (hk : 3 ≤ k) (b : S36) (t : Int) (st op cl : Bool) : substationref29_Breaker.f k b.f0 b.f1 b.f2 b.f3 t st op cl = some (tup (stB b t st op cl)) := by
  obtain ⟨k, rfl⟩ : ∃ m, k = m + 3 := ⟨k - 3, by omega⟩
  exact refstep_eq k b t st op cl
/-- The state after i steps. -/
def stAt (t : Int) (st : Bool) (o c : List Bool) (b : S36) : Nat → S36
  | 0 => b
  | i + 1 => stB (stAt t st o c b i) t st (o.getD i false) (c.getD i false)
def runB (t : Int) (st : Bool) (o c : List Bool) (b : S36) (n : Nat) : List S36 := (List.range n).map fun i => stAt t st o c b (i + 1)
theorem runB_succ (t : Int) (st : Bool) (o c : List Bool) (b : S36) (n : Nat) : runB t st o c b (n + 1) = runB t st o c b n ++ [stAt t st o c b (n + 1)] := by
  simp [runB, List.range_succ]
theorem runB_length (t : Int) (st : Bool) (o c : List Bool) (b : S36) (n : Nat) : (runB t st o c b n).length = n := by simp [runB]
theorem runB_get (t : Int) (st : Bool) (o c : List Bool) (b : S36) (n i : Nat) (h : i < n) : rd_T36 (runB t st o c b n) (i : Int) = stAt t st o c b (i + 1) := by
  unfold rd_T36 runB
  rw [Int.toNat_natCast, List.getD_eq_getElem?_getD, List.getElem?_map, List.getElem?_range h]
  rfl
theorem run_loop (t : Int) (st : Bool) (o c : List Bool) (b : S36) (hc : o.length = c.length) (hn : o.length ≤ 1000) (d : Nat) : ∀ (k i : Nat), i + d = o.length → d + 3 ≤ k →
    breaker_Run.l0 k t st o c (runB t st o c b i) (o.length : Int) (i : Int) (stAt t st o c b i).f0 (stAt t st o c b i).f1 (stAt t st o c b i).f2 (stAt t st o c b i).f3 = some (runB t st o c b o.length) := by
  induction d with
  | zero =>
    intro k i hi hk
    obtain ⟨k, rfl⟩ : ∃ m, k = m + 1 := ⟨k - 1, by omega⟩
    obtain rfl : i = o.length := by omega
    simp only [breaker_Run.l0]
    rw [if_neg (by omega)]
  | succ d ih =>
    intro k i hi hk
    obtain ⟨k, rfl⟩ : ∃ m, k = m + 1 := ⟨k - 1, by omega⟩
    simp only [breaker_Run.l0]
    rw [if_pos (by omega), if_pos (by omega), if_pos (by omega), if_pos (by omega), step_ev (by omega)]
    simp only [Option.bind_some]
    rw [if_pos (by rw [runB_length]; omega), wrap_id (x := (i : Int) + 1) (by omega) (by omega)]
    have := ih k (i + 1) (by omega) (by omega)
    rw [runB_succ] at this
    simp only [tup, rdOf, Int.toNat_natCast]
    exact this
theorem run_eq (cl : Bool) (t : Int) (st : Bool) (o c : List Bool) (hn : o.length ≤ 1000) (k : Nat) (hk : o.length + 5 ≤ k) :
    breaker_Run.f k cl t st o c = some (if 1 ≤ t ∧ t ≤ 6 ∧ o.length = c.length then runB t st o c ⟨cl, false, 0, false⟩ o.length else []) := by
  obtain ⟨k', rfl⟩ : ∃ m, k = m + 2 := ⟨k - 2, by omega⟩
  unfold breaker_Run.f breaker_New.f
  simp only [Option.bind_some]
  rw [valid_eq k' ⟨cl, false, 0, false⟩ t]
  simp only [Option.bind_some]
  have hv : vB ⟨cl, false, 0, false⟩ t = (decide (1 ≤ t) && decide (t ≤ 6)) := by
    unfold vB
    by_cases h1 : 1 ≤ t
    · simp [h1]; intro; omega
    · simp [h1]
  rw [hv]
  by_cases h1 : 1 ≤ t ∧ t ≤ 6
  · rw [if_pos (by simp [h1])]
    by_cases h2 : o.length = c.length
    · rw [if_pos ⟨h1.1, h1.2, h2⟩]
      have hb : ((o.length : Int) != (c.length : Int)) = false := by simp [h2]
      rw [hb]
      have := run_loop t st o c ⟨cl, false, 0, false⟩ h2 hn o.length (k' + 1) 0 (by omega) (by omega)
      simp only [breaker_Run.j0]
      rw [if_neg (by decide)]
      exact this
    · have hb : ((o.length : Int) != (c.length : Int)) = true := by simp; omega
      rw [hb, if_neg (by intro h; exact h2 h.2.2)]
      simp only [breaker_Run.j0]
      rw [if_pos trivial]
  · have h3 : ¬ (decide (1 ≤ t) && decide (t ≤ 6)) = true := by simpa using h1
    rw [if_neg h3, if_neg (by intro h; exact h1 ⟨h.1, h.2.1⟩)]
    simp only [breaker_Run.j0]
    rw [if_pos trivial]
theorem known29_eq (k : Nat) (hk : 8 ≤ k) : substationlaw29_known.f k = some true := by
  unfold substationlaw29_known.f
  rw [run_eq true 2 false _ _ (by decide) k (by simpa using hk)]
  simp only [Option.bind_some]
  rw [if_pos (by decide)]
  decide
theorem refrun_loop (t : Int) (st : Bool) (o c : List Bool) (b : S36) (hc : o.length = c.length) (hn : o.length ≤ 1000) (d : Nat) : ∀ (k i : Nat), i + d = o.length → d + 4 ≤ k →
    substationref29_Breakers.l0 k t st o c (runB t st o c b i) (o.length : Int) (i : Int) (stAt t st o c b i).f0 (stAt t st o c b i).f1 (stAt t st o c b i).f2 (stAt t st o c b i).f3 = some (runB t st o c b o.length) := by
  induction d with
  | zero =>
    intro k i hi hk
    obtain ⟨k, rfl⟩ : ∃ m, k = m + 1 := ⟨k - 1, by omega⟩
    obtain rfl : i = o.length := by omega
    simp only [substationref29_Breakers.l0]
    rw [if_neg (by omega)]
  | succ d ih =>
    intro k i hi hk
    obtain ⟨k, rfl⟩ : ∃ m, k = m + 1 := ⟨k - 1, by omega⟩
    simp only [substationref29_Breakers.l0]
    rw [if_pos (by omega), if_pos (by omega), if_pos (by omega), if_pos (by omega), refstep_ev (by omega)]
    simp only [Option.bind_some]
    rw [if_pos (by rw [runB_length]; omega), wrap_id (x := (i : Int) + 1) (by omega) (by omega)]
    have := ih k (i + 1) (by omega) (by omega)
    rw [runB_succ] at this
    simp only [tup, rdOf, Int.toNat_natCast]
    exact this
theorem refrun_eq (cl : Bool) (t : Int) (st : Bool) (o c : List Bool) (hn : o.length ≤ 1000) (k : Nat) (hk : o.length + 6 ≤ k) :
    substationref29_Breakers.f k cl t st o c = some (if 1 ≤ t ∧ t ≤ 6 ∧ o.length = c.length then runB t st o c ⟨cl, false, 0, false⟩ o.length else []) := by
  obtain ⟨k', rfl⟩ : ∃ m, k = m + 1 := ⟨k - 1, by omega⟩
  unfold substationref29_Breakers.f
  by_cases h1 : t < 1
  · rw [if_pos h1, if_neg (by omega)]; simp only [substationref29_Breakers.j0]; rw [if_pos trivial]
  · by_cases h2 : t > 6
    · rw [if_neg h1, if_pos h2, if_neg (by omega)]; simp only [substationref29_Breakers.j0]; rw [if_pos trivial]
    · rw [if_neg h1, if_neg h2]
      by_cases h3 : o.length = c.length
      · have hb : ((o.length : Int) != (c.length : Int)) = false := by simp [h3]
        rw [hb, if_pos ⟨by omega, by omega, h3⟩]
        simp only [substationref29_Breakers.j0]
        rw [if_neg (by decide)]
        exact refrun_loop t st o c ⟨cl, false, 0, false⟩ h3 hn o.length k' 0 (by omega) (by omega)
      · have hb : ((o.length : Int) != (c.length : Int)) = true := by simp; omega
        rw [hb, if_neg (by intro h; exact h3 h.2.2)]
        simp only [substationref29_Breakers.j0]
        rw [if_pos trivial]
end Go.Proofs.Ytooeljgandaelaa.PAll
