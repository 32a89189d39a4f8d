/- The plain statement of the law StreamChecks, over numbers and lists alone. Conditions: none. -/
import Derived.Test.YtlfphopfoicjpaaStmStreamChecks
namespace Go.Proofs.Ytlfphopfoicjpaa.Pure
open Go.RowKit Go.Proofs.Ytlfphopfoicjpaa.PAll Go.Proofs.YtlfphopfoicjpaaW.PrintWords Go.Proofs.YtlfphopfoicjpaaW.PrintLast
set_option linter.unusedVariables false
set_option linter.unusedSimpArgs false
theorem wrap_id {x : Int} (h0 : -9223372036854775808 ≤ x) (h1 : x ≤ 9223372036854775807) : wrap64 x = x := by unfold wrap64; omega

/-- Every number of the list lies in a range. -/
def inB (a b : Int) (l : List Int) : Bool := l.all fun x => decide (a ≤ x ∧ x ≤ b)
theorem inB_cons (a b x : Int) (t : List Int) : inB a b (x :: t) = (decide (a ≤ x ∧ x ≤ b) && inB a b t) := rfl
theorem cons_dec (x y : Int) (s t : List Int) : decide (x :: s = y :: t) = (decide (x = y) && decide (s = t)) := by
  by_cases h1 : x = y <;> by_cases h2 : s = t <;> simp [h1, h2]
theorem rd_at (l : List Int) (i : Nat) (h : i < l.length) : rd l (i : Int) = l[i] := by
  simp [rd, h]
theorem within_l0 (a b : Int) (l : List Int) (hl : l.length ≤ 1000000) : ∀ (n i k : Nat), l.length = i + n → n < k → stream_within_int.l0 k a b l (l.length : Int) (i : Int) = some (inB a b (l.drop i))
  | n, i, 0, _, h => absurd h (by omega)
  | 0, i, k + 1, hi, _ => by
    unfold stream_within_int.l0
    rw [if_neg (by omega), List.drop_of_length_le (by omega)]
    rfl
  | n + 1, i, k + 1, hi, hk => by
    unfold stream_within_int.l0
    have hlt : i < l.length := by omega
    rw [if_pos (by omega), if_pos (by omega), if_pos (by omega), rd_at l i hlt, List.drop_eq_getElem_cons hlt]
    have ih := within_l0 a b l hl n (i + 1) k (by omega) (by omega)
    have e : wrap64 ((i : Int) + 1) = ((i + 1 : Nat) : Int) := by rw [wrap_id (by omega) (by omega)]; rfl
    rw [e, ih, inB_cons]
    by_cases h1 : l[i] < a
    · rw [if_pos h1, decide_eq_false (fun h => by have := h.1; clear e ih; omega)]; rfl
    · rw [if_neg h1]
      by_cases h2 : l[i] > b
      · rw [if_pos h2, decide_eq_false (fun h => by have := h.2; clear e ih; omega)]; rfl
      · rw [if_neg h2, decide_eq_true ⟨by clear e ih; omega, by clear e ih; omega⟩]; rfl
theorem within_eq (a b : Int) (l : List Int) (k : Nat) (hl : l.length ≤ 1000000) (hk : l.length < k) : stream_within_int.f k a b l = some (inB a b l) := by
  have := within_l0 a b l hl l.length 0 k (by omega) hk
  simpa [stream_within_int.f] using this
theorem between_eq (a b c : Int) : substationref15_between.f a b c = some (decide (b ≤ a ∧ a ≤ c)) := by
  unfold substationref15_between.f
  by_cases h : a ≥ b
  · rw [if_pos h]
    have : b ≤ a := h
    simp [this]
  · rw [if_neg h]
    have : ¬ b ≤ a := h
    simp [this]
theorem inB_one (a b x : Int) : inB a b [x] = decide (a ≤ x ∧ x ≤ b) := by simp [inB]
/-- What the check of a sample answers. -/
def chk (a b : Int) (l m : List Int) : Int :=
  if ¬ ((0 ≤ a ∧ a ≤ 999) ∧ (0 ≤ b ∧ b ≤ 599)) then 2 else if ¬ ((1 ≤ l.length ∧ l.length ≤ 8) ∧ m.length = l.length) then 3 else if inB (-16383) 16383 l = true ∧ inB 0 255 m = true then 0 else 2
theorem check_eq (a b : Int) (c : Bool) (l m : List Int) (k : Nat) (hl : l.length ≤ 100) (hm : m.length ≤ 100) (hk : 110 ≤ k) : stream_Check.f k a b c l m = some (chk a b l m) := by
  obtain ⟨k, rfl⟩ : ∃ j, k = j + 2 := ⟨k - 2, by omega⟩
  have w1 (k : Nat) (hk : 2 ≤ k) (a b x : Int) : stream_within_int.f k a b ([x] : List Int) = some (decide (a ≤ x ∧ x ≤ b)) := by
    rw [within_eq a b [x] k (by simp) (by simp; omega), inB_one]
  have j1 (x : Bool) : stream_Check.j1 (k + 1) x a b c l m = some (if x = true then 3 else if inB (-16383) 16383 l = true ∧ inB 0 255 m = true then 0 else 2) := by
    simp only [stream_Check.j1]
    by_cases hx : x = true
    · simp [hx]
    · rw [if_neg hx, if_neg hx, within_eq _ _ l k (by omega) (by omega)]
      simp only [Option.bind_some]
      by_cases h1 : inB (-16383) 16383 l = true
      · rw [if_pos h1, within_eq _ _ m k (by omega) (by omega)]
        simp only [Option.bind_some]
        by_cases h2 : inB 0 255 m = true <;> simp [h1, h2]
      · rw [if_neg h1]; simp [h1]
  have j0 (x : Bool) : stream_Check.j0 (k + 2) x a b c l m = some (if x = true then 2 else if ¬ ((1 ≤ l.length ∧ l.length ≤ 8) ∧ m.length = l.length) then 3 else if inB (-16383) 16383 l = true ∧ inB 0 255 m = true then 0 else 2) := by
    simp only [stream_Check.j0]
    by_cases hx : x = true
    · simp [hx]
    · rw [if_neg hx, if_neg hx, w1 _ (by omega)]
      simp only [Option.bind_some]
      by_cases h1 : (1 : Int) ≤ (l.length : Int) ∧ (l.length : Int) ≤ 8
      · rw [if_pos (decide_eq_true h1), j1]
        have h1' : 1 ≤ l.length ∧ l.length ≤ 8 := by omega
        by_cases h2 : m.length = l.length
        · have h2' : ((m.length : Int) != (l.length : Int)) = false := by simp [h2]
          rw [h2', if_neg (by simp : ¬ (false = true)), if_neg (fun hh : ¬ ((1 ≤ l.length ∧ l.length ≤ 8) ∧ m.length = l.length) => hh ⟨h1', h2⟩)]
        · have h2' : ((m.length : Int) != (l.length : Int)) = true := by simp; omega
          rw [h2', if_pos rfl, if_pos (by simp [h2])]
      · rw [if_neg (by simpa using h1), j1, if_pos rfl, if_pos (by omega)]
  unfold stream_Check.f
  rw [w1 _ (by omega)]
  simp only [Option.bind_some]
  unfold chk
  by_cases h1 : 0 ≤ a ∧ a ≤ 999
  · rw [if_pos (decide_eq_true h1), w1 _ (by omega)]
    simp only [Option.bind_some]
    rw [j0]
    by_cases h2 : 0 ≤ b ∧ b ≤ 599
    · simp only [h1, h2, and_self, decide_true, not_true_eq_false, if_false, Bool.not_true]
      rfl
    · have : (!decide (0 ≤ b ∧ b ≤ 599)) = true := by simp only [h2, decide_false, Bool.not_false]
      rw [this, if_pos rfl, if_pos (fun h => h2 h.2)]
  · rw [if_neg (by simpa using h1), j0, if_pos rfl, if_pos (fun h => h1 h.1)]
theorem refcheck_l0 (a b : Int) (c : Bool) (l m : List Int) (hl : l.length ≤ 1000000) (hm : m.length = l.length) : ∀ (n i k : Nat), l.length = i + n → n < k → substationref15_Check.l0 k (i : Int) a b c l m = some (if inB (-16383) 16383 (l.drop i) = true ∧ inB 0 255 (m.drop i) = true then 0 else 2)
  | n, i, 0, _, h => absurd h (by omega)
  | 0, i, k + 1, hi, _ => by
    unfold substationref15_Check.l0
    rw [if_neg (by omega), List.drop_of_length_le (by omega), List.drop_of_length_le (by omega)]
    rfl
  | n + 1, i, k + 1, hi, hk => by
    unfold substationref15_Check.l0
    have hlt : i < l.length := by omega
    have hlt' : i < m.length := by omega
    have ih := refcheck_l0 a b c l m hl hm n (i + 1) k (by omega) (by omega)
    have e : wrap64 ((i : Int) + 1) = ((i + 1 : Nat) : Int) := by rw [wrap_id (by omega) (by omega)]; rfl
    rw [if_pos (by omega), if_pos (by omega), rd_at l i hlt, between_eq, List.drop_eq_getElem_cons hlt]
    simp only [Option.bind_some]
    by_cases h1 : -16383 ≤ l[i] ∧ l[i] ≤ 16383
    · rw [if_pos (decide_eq_true h1), if_pos (by omega), rd_at m i hlt', between_eq, List.drop_eq_getElem_cons hlt']
      simp only [Option.bind_some]
      by_cases h2 : 0 ≤ m[i] ∧ m[i] ≤ 255
      · rw [if_pos (decide_eq_true h2), e, ih, inB_cons, inB_cons, decide_eq_true h1, decide_eq_true h2, Bool.true_and, Bool.true_and]
      · rw [if_neg (by simpa using h2), if_neg]
        intro h
        have := h.2
        rw [inB_cons, Bool.and_eq_true, decide_eq_true_eq] at this
        exact h2 this.1
    · rw [if_neg (by simpa using h1), if_neg]
      intro h
      have := h.1
      rw [inB_cons, Bool.and_eq_true, decide_eq_true_eq] at this
      exact h1 this.1
theorem refcheck_eq (a b : Int) (c : Bool) (l m : List Int) (k : Nat) (hl : l.length ≤ 100) (hm : m.length ≤ 100) (hk : 110 ≤ k) : substationref15_Check.f k a b c l m = some (chk a b l m) := by
  obtain ⟨k, rfl⟩ : ∃ j, k = j + 2 := ⟨k - 2, by omega⟩
  have j1 (x : Bool) (h : x = false → m.length = l.length) : substationref15_Check.j1 (k + 1) x a b c l m = some (if x = true then 3 else if inB (-16383) 16383 l = true ∧ inB 0 255 m = true then 0 else 2) := by
    simp only [substationref15_Check.j1]
    by_cases hx : x = true
    · simp [hx]
    · rw [if_neg hx, if_neg hx]
      exact refcheck_l0 a b c l m (by omega) (h (by simpa using hx)) l.length 0 k (by omega) (by omega)
  have j0 (x : Bool) : substationref15_Check.j0 (k + 2) x a b c l m = some (if x = true then 2 else if ¬ ((1 ≤ l.length ∧ l.length ≤ 8) ∧ m.length = l.length) then 3 else if inB (-16383) 16383 l = true ∧ inB 0 255 m = true then 0 else 2) := by
    simp only [substationref15_Check.j0]
    by_cases hx : x = true
    · simp [hx]
    · rw [if_neg hx, if_neg hx, between_eq]
      simp only [Option.bind_some]
      by_cases h1 : (1 : Int) ≤ (l.length : Int) ∧ (l.length : Int) ≤ 8
      · rw [if_pos (decide_eq_true h1), j1 _ (by simp; omega)]
        have h1' : 1 ≤ l.length ∧ l.length ≤ 8 := by omega
        by_cases h2 : m.length = l.length
        · have h2' : ((m.length : Int) != (l.length : Int)) = false := by simp [h2]
          rw [h2', if_neg (by simp : ¬ (false = true)), if_neg (fun hh : ¬ ((1 ≤ l.length ∧ l.length ≤ 8) ∧ m.length = l.length) => hh ⟨h1', h2⟩)]
        · have h2' : ((m.length : Int) != (l.length : Int)) = true := by simp; omega
          rw [h2', if_pos rfl, if_pos (by simp [h2])]
      · rw [if_neg (by simpa using h1), j1 _ (by simp), if_pos rfl, if_pos (by omega)]
  unfold substationref15_Check.f
  rw [between_eq]
  simp only [Option.bind_some]
  unfold chk
  by_cases h1 : 0 ≤ a ∧ a ≤ 999
  · rw [if_pos (decide_eq_true h1), between_eq]
    simp only [Option.bind_some]
    rw [j0]
    by_cases h2 : 0 ≤ b ∧ b ≤ 599
    · simp only [h1, h2, and_self, decide_true, not_true_eq_false, if_false, Bool.not_true]
      rfl
    · have : (!decide (0 ≤ b ∧ b ≤ 599)) = true := by simp only [h2, decide_false, Bool.not_false]
      rw [this, if_pos rfl, if_pos (fun h => h2 h.2)]
  · rw [if_neg (by simpa using h1), j0, if_pos rfl, if_pos (fun h => h1 h.1)]
theorem equal_l0 (l m : List Int) (hl : l.length ≤ 1000000) (hm : m.length = l.length) : ∀ (n i k : Nat), l.length = i + n → n < k → slices_Equal_int_int.l0 k l m (l.length : Int) (i : Int) = some (decide (l.drop i = m.drop i))
  | n, i, 0, _, h => absurd h (by omega)
  | 0, i, k + 1, hi, _ => by
    unfold slices_Equal_int_int.l0
    rw [if_neg (by omega), List.drop_of_length_le (by omega), List.drop_of_length_le (by omega)]
    rfl
  | n + 1, i, k + 1, hi, hk => by
    unfold slices_Equal_int_int.l0
    have hlt : i < l.length := by omega
    have hlt' : i < m.length := by omega
    have ih := equal_l0 l m hl hm n (i + 1) k (by omega) (by omega)
    have e : wrap64 ((i : Int) + 1) = ((i + 1 : Nat) : Int) := by rw [wrap_id (by omega) (by omega)]; rfl
    rw [if_pos (by omega), if_pos (by omega), if_pos (by omega), if_pos (by omega), rd_at l i hlt, rd_at m i hlt', List.drop_eq_getElem_cons hlt, List.drop_eq_getElem_cons hlt', e, ih, cons_dec]
    by_cases h : l[i] = m[i]
    · rw [if_pos h, decide_eq_true h]; rfl
    · rw [if_neg h, decide_eq_false h]; rfl
theorem equal_eq (l m : List Int) (k : Nat) (hl : l.length ≤ 1000000) (hk : l.length < k) : slices_Equal_int_int.f k l m = some (decide (l = m)) := by
  unfold slices_Equal_int_int.f
  by_cases h : l.length = m.length
  · rw [if_pos (by omega)]
    exact equal_l0 l m hl h.symm l.length 0 k (by omega) hk
  · rw [if_neg (by omega)]
    have : l ≠ m := fun e => h (by rw [e])
    simp [this]
theorem same_l0 (l m : List Int) (hl : l.length ≤ 1000000) (hm : m.length = l.length) : ∀ (n i k : Nat), l.length = i + n → n < k → substationref15_sameInts.l0 k l m (i : Int) = some (decide (l.drop i = m.drop i))
  | n, i, 0, _, h => absurd h (by omega)
  | 0, i, k + 1, hi, _ => by
    unfold substationref15_sameInts.l0
    rw [if_neg (by omega), List.drop_of_length_le (by omega), List.drop_of_length_le (by omega)]
    rfl
  | n + 1, i, k + 1, hi, hk => by
    unfold substationref15_sameInts.l0
    have hlt : i < l.length := by omega
    have hlt' : i < m.length := by omega
    have ih := same_l0 l m hl hm n (i + 1) k (by omega) (by omega)
    have e : wrap64 ((i : Int) + 1) = ((i + 1 : Nat) : Int) := by rw [wrap_id (by omega) (by omega)]; rfl
    rw [if_pos (by omega), if_pos (by omega), if_pos (by omega), rd_at l i hlt, rd_at m i hlt', List.drop_eq_getElem_cons hlt, List.drop_eq_getElem_cons hlt', e, ih, cons_dec]
    by_cases h : l[i] = m[i]
    · rw [if_pos h, decide_eq_true h]; rfl
    · rw [if_neg h, decide_eq_false h]; rfl
theorem sameInts_eq (l m : List Int) (k : Nat) (hl : l.length ≤ 1000000) (hk : l.length < k) : substationref15_sameInts.f k l m = some (decide (l = m)) := by
  unfold substationref15_sameInts.f
  by_cases h : l.length = m.length
  · rw [if_pos (by omega)]
    exact same_l0 l m hl h.symm l.length 0 k (by omega) hk
  · rw [if_neg (by omega)]
    have : l ≠ m := fun e => h (by rw [e])
    simp [this]
/-- Two samples alike. -/
def smB (a b : Int) (c : Bool) (l m : List Int) (a' b' : Int) (c' : Bool) (l' m' : List Int) : Bool := decide (a = a' ∧ b = b' ∧ c = c' ∧ l = l' ∧ m = m')
theorem same_eq (a b : Int) (c : Bool) (l m : List Int) (a' b' : Int) (c' : Bool) (l' m' : List Int) (k : Nat) (hl : l.length ≤ 1000000) (hk : l.length < k) (hm : m.length ≤ 1000000) (hk' : m.length < k) : stream_Same.f k a b c l m a' b' c' l' m' = some (smB a b c l m a' b' c' l' m') := by
  unfold stream_Same.f smB
  rw [equal_eq l l' k hl hk, equal_eq m m' k hm hk']
  by_cases h1 : a = a'
  · by_cases h2 : b = b'
    · by_cases h3 : c = c'
      · by_cases h4 : l = l'
        · by_cases h5 : m = m' <;> simp [h1, h2, h3, h4, h5]
        · simp [h1, h2, h3, h4]
      · have : (c == c') = false := by simpa using h3
        simp [h1, h2, h3, this]
    · simp [h1, h2]
  · simp [h1]
theorem refsame_eq (a b : Int) (c : Bool) (l m : List Int) (a' b' : Int) (c' : Bool) (l' m' : List Int) (k : Nat) (hl : l.length ≤ 1000000) (hk : l.length < k) (hm : m.length ≤ 1000000) (hk' : m.length < k) : substationref15_Same.f k a b c l m a' b' c' l' m' = some (smB a b c l m a' b' c' l' m') := by
  unfold substationref15_Same.f smB
  rw [sameInts_eq l l' k hl hk, sameInts_eq m m' k hm hk']
  by_cases h1 : a = a'
  · by_cases h2 : b = b'
    · by_cases h3 : c = c'
      · by_cases h4 : l = l'
        · by_cases h5 : m = m' <;> simp [h1, h2, h3, h4, h5]
        · simp [h1, h2, h3, h4]
      · have : (c == c') = false := by simpa using h3
        simp [h1, h2, h3, this]
    · simp [h1, h2]
  · simp [h1]
/-- The count of samples. -/
def cntI (a b : Int) : Int := if 0 ≤ a ∧ a ≤ 1099511627776 then (if 0 ≤ b ∧ b ≤ 11 then Int.tmod (wrap64 (wrap64 (12 * a) + b)) 600 else 0) else 0
theorem count_eq (a b : Int) (k : Nat) (hk : 2 ≤ k) : stream_Count.f k a b = some (cntI a b) := by
  have w1 (a b x : Int) : stream_within_int.f k a b ([x] : List Int) = some (decide (a ≤ x ∧ x ≤ b)) := by
    rw [within_eq a b [x] k (by simp) (by simp; omega), inB_one]
  unfold stream_Count.f cntI
  rw [w1, w1]
  simp only [Option.bind_some]
  by_cases h1 : 0 ≤ a ∧ a ≤ 1099511627776
  · by_cases h2 : 0 ≤ b ∧ b ≤ 11
    · simp only [h1, h2, and_self, decide_true, if_true]
    · rw [if_pos (decide_eq_true h1), if_neg (by simpa using h2), if_pos h1, if_neg h2]
  · rw [if_neg (by simpa using h1), if_neg h1]
theorem refcount_eq (a b : Int) : substationref15_Count.f a b = some (cntI a b) := by
  unfold substationref15_Count.f cntI
  rw [between_eq, between_eq]
  simp only [Option.bind_some]
  by_cases h1 : 0 ≤ a ∧ a ≤ 1099511627776
  · by_cases h2 : 0 ≤ b ∧ b ≤ 11
    · simp only [h1, h2, and_self, decide_true, if_true]
    · rw [if_pos (decide_eq_true h1), if_neg (by simpa using h2), if_pos h1, if_neg h2]
  · rw [if_neg (by simpa using h1), if_neg h1]
theorem known_up : ∀ n, LeO (substationlaw15_known.f 20) (substationlaw15_known.f (20 + n))
  | 0 => LeO.refl _
  | n + 1 => fun r h => substationlaw15_known.mono (20 + n) r (known_up n r h)
theorem known_20 : substationlaw15_known.f 20 = some true := by
  decide +kernel
theorem known_eq (k : Nat) (hk : 20 ≤ k) : substationlaw15_known.f k = some true := by
  obtain ⟨n, rfl⟩ : ∃ n, k = 20 + n := ⟨k - 20, by omega⟩
  exact known_up n _ known_20

theorem StreamChecks : StreamChecks_Pure := by
  intro a0 a1 a2 l3 l4 b0 b1 b2 m3 m4 st _ _ _ _ _ _ _ _ _
  refine ⟨200, ?_⟩
  unfold substationlaw15_StreamChecks.f
  rw [known_eq 200 (by omega)]
  simp only [Option.bind_some, if_true]
  by_cases hb : 100 < l3.length ∨ 100 < m3.length ∨ 100 < l4.length ∨ 100 < m4.length
  · rw [if_pos hb]
  · rw [if_neg hb, check_eq _ _ _ _ _ 200 (by omega) (by omega) (by omega), refcheck_eq _ _ _ _ _ 200 (by omega) (by omega) (by omega), same_eq _ _ _ _ _ _ _ _ _ _ 200 (by omega) (by omega) (by omega) (by omega), refsame_eq _ _ _ _ _ _ _ _ _ _ 200 (by omega) (by omega) (by omega) (by omega), same_eq _ _ _ _ _ _ _ _ _ _ 200 (by omega) (by omega) (by omega) (by omega), count_eq _ _ 200 (by omega), refcount_eq, count_eq _ _ 200 (by omega), refcount_eq]
    simp [smB]

end Go.Proofs.Ytlfphopfoicjpaa.Pure
