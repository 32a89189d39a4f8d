/- The breaker's step in plain words, for the laws on the recloser. Conditions: none. -/
import Derived.Test.YtmppijipaocfiaaRec
import Derived.Test.YtmppijipaocfiaaPAllx11
namespace Go.Proofs.Ytmppijipaocfiaa.PAll
open Go.RowKit Go.Proofs.YtmppijipaocfiaaW.PrintWords Go.Proofs.YtmppijipaocfiaaW.PrintLast
set_option linter.unusedVariables false
set_option linter.unusedSimpArgs false
/-- A breaker's state. -/
structure SB where
  f0 : Bool
  f1 : Bool
  f2 : Int
  f3 : Bool
/-- A valid state. -/
def vB (b : SB) (t : Int) : Bool := decide (1 ≤ t) && (decide (t ≤ 6) && (decide (0 ≤ b.f2) && (decide (b.f2 ≤ t) && ((!b.f3 || b.f0) && (if b.f2 = 0 then !b.f1 else b.f0 != b.f1)))))
def mvB (b : SB) : SB := if b.f2 = 0 then b else if b.f2 = 1 then ⟨b.f1, false, 0, b.f3 && b.f1⟩ else ⟨b.f0, b.f1, b.f2 - 1, b.f3⟩
def obB (b : SB) (t : Int) (st op cl : Bool) : SB :=
  if b.f2 ≠ 0 ∧ b.f1 = true ∧ op = true then ⟨b.f0, false, 0, b.f3⟩
  else if b.f2 = 0 ∧ b.f0 = true ∧ op = true then ⟨b.f0, b.f1, if st = true then b.f2 else t, true⟩
  else if b.f2 = 0 ∧ b.f0 = false ∧ cl = true ∧ op = false then ⟨b.f0, true, t, b.f3⟩ else b
def stB (b : SB) (t : Int) (st op cl : Bool) : SB := if vB b t = true then obB (mvB b) t st op cl else ⟨false, false, 0, false⟩
/-- The tuple that the printed functions hand back. -/
def tup (b : SB) : Bool × Bool × Int × Bool := (b.f0, b.f1, b.f2, b.f3)
theorem vB_le {b : SB} {t : Int} (h : vB b t = true) : 1 ≤ t ∧ t ≤ 6 ∧ 0 ≤ b.f2 ∧ b.f2 ≤ t := by
  simp only [vB, Bool.and_eq_true, decide_eq_true_eq] at h
  omega
theorem bvalid_eq (k : Nat) (b : SB) (t : Int) : breaker_Valid.f (k + 2) b.f0 b.f1 b.f2 b.f3 t = some (vB b t) := by
  obtain ⟨c, g, l, m⟩ := b
  unfold breaker_Valid.f vB
  by_cases h1 : t < 1
  · have : ¬ 1 ≤ t := by omega
    simp [h1, this, breaker_Valid.j0]
  have h1' : 1 ≤ t := by omega
  by_cases h2 : t > 6
  · have : ¬ t ≤ 6 := by omega
    simp [h1, h2, this, breaker_Valid.j0]
  have h2' : t ≤ 6 := by omega
  by_cases h3 : l < 0
  · have : ¬ 0 ≤ l := by omega
    simp [h1, h2, h3, this, breaker_Valid.j0]
  have h3' : 0 ≤ l := by omega
  by_cases h4 : l > t
  · have : ¬ l ≤ t := by omega
    simp [h1, h2, h3, h4, this, breaker_Valid.j0]
  have h4' : l ≤ t := by omega
  by_cases h5 : l = 0
  · subst h5
    cases c <;> cases g <;> cases m <;> simp [h1, h2, h4, h1', h2', h4', breaker_Valid.j0, breaker_Valid.j1, breaker_New.f]
  · have h6 : l > 0 := by omega
    cases c <;> cases g <;> cases m <;> simp [h1, h2, h3, h4, h5, h6, h1', h2', h3', h4', breaker_Valid.j0, breaker_Valid.j1, breaker_New.f]
theorem move_eq (b : SB) (h0 : 0 ≤ b.f2) (h1 : b.f2 ≤ 6) : breaker_move.f b.f0 b.f1 b.f2 b.f3 = some (tup (mvB b)) := by
  obtain ⟨c, g, l, m⟩ := b
  simp only at h0 h1
  unfold breaker_move.f mvB tup
  simp only
  rw [wrap_id (x := l - 1) (by omega) (by omega)]
  by_cases h5 : l = 0
  · simp [h5]
  · by_cases h6 : l = 1
    · subst h6; cases m <;> simp
    · have : ¬ l - 1 = 0 := by omega
      simp [h5, h6, this]
theorem obey_eq (k : Nat) (b : SB) (t : Int) (st op cl : Bool) : breaker_obey.f (k + 2) b.f0 b.f1 b.f2 b.f3 t st op cl = some (tup (obB b t st op cl)) := by
  obtain ⟨c, g, l, m⟩ := b
  unfold breaker_obey.f obB tup
  by_cases h5 : l = 0
  · subst h5; cases c <;> cases g <;> cases st <;> cases op <;> cases cl <;> simp [breaker_obey.j0, breaker_obey.j1]
  · cases c <;> cases g <;> cases op <;> simp [h5, breaker_obey.j0, breaker_obey.j1]
theorem bstep_eq (k : Nat) (b : SB) (t : Int) (st op cl : Bool) : breaker_Step.f (k + 2) b.f0 b.f1 b.f2 b.f3 t st op cl = some (tup (stB b t st op cl)) := by
  unfold breaker_Step.f stB
  rw [bvalid_eq]
  simp only [Option.bind_some]
  by_cases hv : vB b t = true
  · have h := vB_le hv
    rw [if_pos hv, if_pos hv, move_eq b (by omega) (by omega)]
    simp only [Option.bind_some, tup]
    rw [obey_eq k (mvB b)]
    rfl
  · rw [if_neg hv, if_neg hv]; rfl
theorem bstep_ev {k : Nat} (hk : 2 ≤ k) (b : SB) (t : Int) (st op cl : Bool) : breaker_Step.f k b.f0 b.f1 b.f2 b.f3 t st op cl = some (tup (stB b t st op cl)) := by
  obtain ⟨k, rfl⟩ : ∃ m, k = m + 2 := ⟨k - 2, by omega⟩
  exact bstep_eq k b t st op cl
theorem bvalid_ev {k : Nat} (hk : 2 ≤ k) (b : SB) (t : Int) : breaker_Valid.f k b.f0 b.f1 b.f2 b.f3 t = some (vB b t) := by
  obtain ⟨k, rfl⟩ : ∃ m, k = m + 2 := ⟨k - 2, by omega⟩
  exact bvalid_eq k b t
end Go.Proofs.Ytmppijipaocfiaa.PAll
