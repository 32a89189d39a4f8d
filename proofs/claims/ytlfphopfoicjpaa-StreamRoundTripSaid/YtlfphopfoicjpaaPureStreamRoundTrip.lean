/- The plain statement of the law StreamRoundTrip, over numbers and lists alone. Conditions: none. -/
import Derived.Test.YtlfphopfoicjpaaStmStreamRoundTrip
namespace Go.Proofs.Ytlfphopfoicjpaa.Pure
open Go.RowKit Go.Proofs.Ytlfphopfoicjpaa.PAll Go.Proofs.YtlfphopfoicjpaaW.PrintWords Go.Proofs.YtlfphopfoicjpaaW.PrintLast
set_option linter.unusedVariables false
set_option linter.unusedSimpArgs false
theorem wrap_id {x : Int} (h0 : -9223372036854775808 ≤ x) (h1 : x ≤ 9223372036854775807) : wrap64 x = x := by unfold wrap64; omega

/-- Every number of the list lies in a range. -/
def inB (a b : Int) (l : List Int) : Bool := l.all fun x => decide (a ≤ x ∧ x ≤ b)
theorem inB_cons (a b x : Int) (t : List Int) : inB a b (x :: t) = (decide (a ≤ x ∧ x ≤ b) && inB a b t) := rfl
theorem cons_dec (x y : Int) (s t : List Int) : decide (x :: s = y :: t) = (decide (x = y) && decide (s = t)) := by
  by_cases h1 : x = y <;> by_cases h2 : s = t <;> simp [h1, h2]
theorem rd_at (l : List Int) (i : Nat) (h : i < l.length) : rd l (i : Int) = l[i] := by
  simp [rd, h]
theorem within_l0 (a b : Int) (l : List Int) (hl : l.length ≤ 4611686018427387904) : ∀ (n i k : Nat), l.length = i + n → n < k → stream_within_int.l0 k a b l (l.length : Int) (i : Int) = some (inB a b (l.drop i))
  | n, i, 0, _, h => absurd h (by omega)
  | 0, i, k + 1, hi, _ => by
    unfold stream_within_int.l0
    rw [if_neg (by omega), List.drop_of_length_le (by omega)]
    rfl
  | n + 1, i, k + 1, hi, hk => by
    unfold stream_within_int.l0
    have hlt : i < l.length := by omega
    rw [if_pos (by omega), if_pos (by omega), if_pos (by omega), rd_at l i hlt, List.drop_eq_getElem_cons hlt]
    have ih := within_l0 a b l hl n (i + 1) k (by omega) (by omega)
    have e : wrap64 ((i : Int) + 1) = ((i + 1 : Nat) : Int) := by rw [wrap_id (by omega) (by omega)]; rfl
    rw [e, ih, inB_cons]
    by_cases h1 : l[i] < a
    · rw [if_pos h1, decide_eq_false (fun h => by have := h.1; clear e ih; omega)]; rfl
    · rw [if_neg h1]
      by_cases h2 : l[i] > b
      · rw [if_pos h2, decide_eq_false (fun h => by have := h.2; clear e ih; omega)]; rfl
      · rw [if_neg h2, decide_eq_true ⟨by clear e ih; omega, by clear e ih; omega⟩]; rfl
theorem within_eq (a b : Int) (l : List Int) (k : Nat) (hl : l.length ≤ 4611686018427387904) (hk : l.length < k) : stream_within_int.f k a b l = some (inB a b l) := by
  have := within_l0 a b l hl l.length 0 k (by omega) hk
  simpa [stream_within_int.f] using this
theorem between_eq (a b c : Int) : substationref15_between.f a b c = some (decide (b ≤ a ∧ a ≤ c)) := by
  unfold substationref15_between.f
  by_cases h : a ≥ b
  · rw [if_pos h]
    have : b ≤ a := h
    simp [this]
  · rw [if_neg h]
    have : ¬ b ≤ a := h
    simp [this]
theorem inB_one (a b x : Int) : inB a b [x] = decide (a ≤ x ∧ x ≤ b) := by simp [inB]
/-- What the check of a sample answers. -/
def chk (a b : Int) (l m : List Int) : Int :=
  if ¬ ((0 ≤ a ∧ a ≤ 999) ∧ (0 ≤ b ∧ b ≤ 599)) then 2 else if ¬ ((1 ≤ l.length ∧ l.length ≤ 8) ∧ m.length = l.length) then 3 else if inB (-16383) 16383 l = true ∧ inB 0 255 m = true then 0 else 2
theorem check_eq (a b : Int) (c : Bool) (l m : List Int) (k : Nat) (hl : l.length ≤ 4611686018427387904) (hm : m.length ≤ 4611686018427387904) (hk : l.length + 10 ≤ k) (hk' : m.length + 10 ≤ k) : stream_Check.f k a b c l m = some (chk a b l m) := by
  obtain ⟨k, rfl⟩ : ∃ j, k = j + 2 := ⟨k - 2, by omega⟩
  have w1 (k : Nat) (hk : 2 ≤ k) (a b x : Int) : stream_within_int.f k a b ([x] : List Int) = some (decide (a ≤ x ∧ x ≤ b)) := by
    rw [within_eq a b [x] k (by simp) (by simp; omega), inB_one]
  have j1 (x : Bool) : stream_Check.j1 (k + 1) x a b c l m = some (if x = true then 3 else if inB (-16383) 16383 l = true ∧ inB 0 255 m = true then 0 else 2) := by
    simp only [stream_Check.j1]
    by_cases hx : x = true
    · simp [hx]
    · rw [if_neg hx, if_neg hx, within_eq _ _ l k (by omega) (by omega)]
      simp only [Option.bind_some]
      by_cases h1 : inB (-16383) 16383 l = true
      · rw [if_pos h1, within_eq _ _ m k (by omega) (by omega)]
        simp only [Option.bind_some]
        by_cases h2 : inB 0 255 m = true <;> simp [h1, h2]
      · rw [if_neg h1]; simp [h1]
  have j0 (x : Bool) : stream_Check.j0 (k + 2) x a b c l m = some (if x = true then 2 else if ¬ ((1 ≤ l.length ∧ l.length ≤ 8) ∧ m.length = l.length) then 3 else if inB (-16383) 16383 l = true ∧ inB 0 255 m = true then 0 else 2) := by
    simp only [stream_Check.j0]
    by_cases hx : x = true
    · simp [hx]
    · rw [if_neg hx, if_neg hx, w1 _ (by omega)]
      simp only [Option.bind_some]
      by_cases h1 : (1 : Int) ≤ (l.length : Int) ∧ (l.length : Int) ≤ 8
      · rw [if_pos (decide_eq_true h1), j1]
        have h1' : 1 ≤ l.length ∧ l.length ≤ 8 := by omega
        by_cases h2 : m.length = l.length
        · have h2' : ((m.length : Int) != (l.length : Int)) = false := by simp [h2]
          rw [h2', if_neg (by simp : ¬ (false = true)), if_neg (fun hh : ¬ ((1 ≤ l.length ∧ l.length ≤ 8) ∧ m.length = l.length) => hh ⟨h1', h2⟩)]
        · have h2' : ((m.length : Int) != (l.length : Int)) = true := by simp; omega
          rw [h2', if_pos rfl, if_pos (by simp [h2])]
      · rw [if_neg (by simpa using h1), j1, if_pos rfl, if_pos (by omega)]
  unfold stream_Check.f
  rw [w1 _ (by omega)]
  simp only [Option.bind_some]
  unfold chk
  by_cases h1 : 0 ≤ a ∧ a ≤ 999
  · rw [if_pos (decide_eq_true h1), w1 _ (by omega)]
    simp only [Option.bind_some]
    rw [j0]
    by_cases h2 : 0 ≤ b ∧ b ≤ 599
    · simp only [h1, h2, and_self, decide_true, not_true_eq_false, if_false, Bool.not_true]
      rfl
    · have : (!decide (0 ≤ b ∧ b ≤ 599)) = true := by simp only [h2, decide_false, Bool.not_false]
      rw [this, if_pos rfl, if_pos (fun h => h2 h.2)]
  · rw [if_neg (by simpa using h1), j0, if_pos rfl, if_pos (fun h => h1 h.1)]
theorem refcheck_l0 (a b : Int) (c : Bool) (l m : List Int) (hl : l.length ≤ 4611686018427387904) (hm : m.length = l.length) : ∀ (n i k : Nat), l.length = i + n → n < k → substationref15_Check.l0 k (i : Int) a b c l m = some (if inB (-16383) 16383 (l.drop i) = true ∧ inB 0 255 (m.drop i) = true then 0 else 2)
  | n, i, 0, _, h => absurd h (by omega)
  | 0, i, k + 1, hi, _ => by
    unfold substationref15_Check.l0
    rw [if_neg (by omega), List.drop_of_length_le (by omega), List.drop_of_length_le (by omega)]
    rfl
  | n + 1, i, k + 1, hi, hk => by
    unfold substationref15_Check.l0
    have hlt : i < l.length := by omega
    have hlt' : i < m.length := by omega
    have ih := refcheck_l0 a b c l m hl hm n (i + 1) k (by omega) (by omega)
    have e : wrap64 ((i : Int) + 1) = ((i + 1 : Nat) : Int) := by rw [wrap_id (by omega) (by omega)]; rfl
    rw [if_pos (by omega), if_pos (by omega), rd_at l i hlt, between_eq, List.drop_eq_getElem_cons hlt]
    simp only [Option.bind_some]
    by_cases h1 : -16383 ≤ l[i] ∧ l[i] ≤ 16383
    · rw [if_pos (decide_eq_true h1), if_pos (by omega), rd_at m i hlt', between_eq, List.drop_eq_getElem_cons hlt']
      simp only [Option.bind_some]
      by_cases h2 : 0 ≤ m[i] ∧ m[i] ≤ 255
      · rw [if_pos (decide_eq_true h2), e, ih, inB_cons, inB_cons, decide_eq_true h1, decide_eq_true h2, Bool.true_and, Bool.true_and]
      · rw [if_neg (by simpa using h2), if_neg]
        intro h
        have := h.2
        rw [inB_cons, Bool.and_eq_true, decide_eq_true_eq] at this
        exact h2 this.1
    · rw [if_neg (by simpa using h1), if_neg]
      intro h
      have := h.1
      rw [inB_cons, Bool.and_eq_true, decide_eq_true_eq] at this
      exact h1 this.1
theorem refcheck_eq (a b : Int) (c : Bool) (l m : List Int) (k : Nat) (hl : l.length ≤ 4611686018427387904) (hm : m.length ≤ 4611686018427387904) (hk : l.length + 10 ≤ k) (hk' : m.length + 10 ≤ k) : substationref15_Check.f k a b c l m = some (chk a b l m) := by
  obtain ⟨k, rfl⟩ : ∃ j, k = j + 2 := ⟨k - 2, by omega⟩
  have j1 (x : Bool) (h : x = false → m.length = l.length) : substationref15_Check.j1 (k + 1) x a b c l m = some (if x = true then 3 else if inB (-16383) 16383 l = true ∧ inB 0 255 m = true then 0 else 2) := by
    simp only [substationref15_Check.j1]
    by_cases hx : x = true
    · simp [hx]
    · rw [if_neg hx, if_neg hx]
      exact refcheck_l0 a b c l m (by omega) (h (by simpa using hx)) l.length 0 k (by omega) (by omega)
  have j0 (x : Bool) : substationref15_Check.j0 (k + 2) x a b c l m = some (if x = true then 2 else if ¬ ((1 ≤ l.length ∧ l.length ≤ 8) ∧ m.length = l.length) then 3 else if inB (-16383) 16383 l = true ∧ inB 0 255 m = true then 0 else 2) := by
    simp only [substationref15_Check.j0]
    by_cases hx : x = true
    · simp [hx]
    · rw [if_neg hx, if_neg hx, between_eq]
      simp only [Option.bind_some]
      by_cases h1 : (1 : Int) ≤ (l.length : Int) ∧ (l.length : Int) ≤ 8
      · rw [if_pos (decide_eq_true h1), j1 _ (by simp; omega)]
        have h1' : 1 ≤ l.length ∧ l.length ≤ 8 := by omega
        by_cases h2 : m.length = l.length
        · have h2' : ((m.length : Int) != (l.length : Int)) = false := by simp [h2]
          rw [h2', if_neg (by simp : ¬ (false = true)), if_neg (fun hh : ¬ ((1 ≤ l.length ∧ l.length ≤ 8) ∧ m.length = l.length) => hh ⟨h1', h2⟩)]
        · have h2' : ((m.length : Int) != (l.length : Int)) = true := by simp; omega
          rw [h2', if_pos rfl, if_pos (by simp [h2])]
      · rw [if_neg (by simpa using h1), j1 _ (by simp), if_pos rfl, if_pos (by omega)]
  unfold substationref15_Check.f
  rw [between_eq]
  simp only [Option.bind_some]
  unfold chk
  by_cases h1 : 0 ≤ a ∧ a ≤ 999
  · rw [if_pos (decide_eq_true h1), between_eq]
    simp only [Option.bind_some]
    rw [j0]
    by_cases h2 : 0 ≤ b ∧ b ≤ 599
    · simp only [h1, h2, and_self, decide_true, not_true_eq_false, if_false, Bool.not_true]
      rfl
    · have : (!decide (0 ≤ b ∧ b ≤ 599)) = true := by simp only [h2, decide_false, Bool.not_false]
      rw [this, if_pos rfl, if_pos (fun h => h2 h.2)]
  · rw [if_neg (by simpa using h1), j0, if_pos rfl, if_pos (fun h => h1 h.1)]
theorem equal_l0 (l m : List Int) (hl : l.length ≤ 4611686018427387904) (hm : m.length = l.length) : ∀ (n i k : Nat), l.length = i + n → n < k → slices_Equal_int_int.l0 k l m (l.length : Int) (i : Int) = some (decide (l.drop i = m.drop i))
  | n, i, 0, _, h => absurd h (by omega)
  | 0, i, k + 1, hi, _ => by
    unfold slices_Equal_int_int.l0
    rw [if_neg (by omega), List.drop_of_length_le (by omega), List.drop_of_length_le (by omega)]
    rfl
  | n + 1, i, k + 1, hi, hk => by
    unfold slices_Equal_int_int.l0
    have hlt : i < l.length := by omega
    have hlt' : i < m.length := by omega
    have ih := equal_l0 l m hl hm n (i + 1) k (by omega) (by omega)
    have e : wrap64 ((i : Int) + 1) = ((i + 1 : Nat) : Int) := by rw [wrap_id (by omega) (by omega)]; rfl
    rw [if_pos (by omega), if_pos (by omega), if_pos (by omega), if_pos (by omega), rd_at l i hlt, rd_at m i hlt', List.drop_eq_getElem_cons hlt, List.drop_eq_getElem_cons hlt', e, ih, cons_dec]
    by_cases h : l[i] = m[i]
    · rw [if_pos h, decide_eq_true h]; rfl
    · rw [if_neg h, decide_eq_false h]; rfl
theorem equal_eq (l m : List Int) (k : Nat) (hl : l.length ≤ 4611686018427387904) (hk : l.length < k) : slices_Equal_int_int.f k l m = some (decide (l = m)) := by
  unfold slices_Equal_int_int.f
  by_cases h : l.length = m.length
  · rw [if_pos (by omega)]
    exact equal_l0 l m hl h.symm l.length 0 k (by omega) hk
  · rw [if_neg (by omega)]
    have : l ≠ m := fun e => h (by rw [e])
    simp [this]
theorem same_l0 (l m : List Int) (hl : l.length ≤ 4611686018427387904) (hm : m.length = l.length) : ∀ (n i k : Nat), l.length = i + n → n < k → substationref15_sameInts.l0 k l m (i : Int) = some (decide (l.drop i = m.drop i))
  | n, i, 0, _, h => absurd h (by omega)
  | 0, i, k + 1, hi, _ => by
    unfold substationref15_sameInts.l0
    rw [if_neg (by omega), List.drop_of_length_le (by omega), List.drop_of_length_le (by omega)]
    rfl
  | n + 1, i, k + 1, hi, hk => by
    unfold substationref15_sameInts.l0
    have hlt : i < l.length := by omega
    have hlt' : i < m.length := by omega
    have ih := same_l0 l m hl hm n (i + 1) k (by omega) (by omega)
    have e : wrap64 ((i : Int) + 1) = ((i + 1 : Nat) : Int) := by rw [wrap_id (by omega) (by omega)]; rfl
    rw [if_pos (by omega), if_pos (by omega), if_pos (by omega), rd_at l i hlt, rd_at m i hlt', List.drop_eq_getElem_cons hlt, List.drop_eq_getElem_cons hlt', e, ih, cons_dec]
    by_cases h : l[i] = m[i]
    · rw [if_pos h, decide_eq_true h]; rfl
    · rw [if_neg h, decide_eq_false h]; rfl
theorem sameInts_eq (l m : List Int) (k : Nat) (hl : l.length ≤ 4611686018427387904) (hk : l.length < k) : substationref15_sameInts.f k l m = some (decide (l = m)) := by
  unfold substationref15_sameInts.f
  by_cases h : l.length = m.length
  · rw [if_pos (by omega)]
    exact same_l0 l m hl h.symm l.length 0 k (by omega) hk
  · rw [if_neg (by omega)]
    have : l ≠ m := fun e => h (by rw [e])
    simp [this]
/-- Two samples alike. -/
def smB (a b : Int) (c : Bool) (l m : List Int) (a' b' : Int) (c' : Bool) (l' m' : List Int) : Bool := decide (a = a' ∧ b = b' ∧ c = c' ∧ l = l' ∧ m = m')
theorem same_eq (a b : Int) (c : Bool) (l m : List Int) (a' b' : Int) (c' : Bool) (l' m' : List Int) (k : Nat) (hl : l.length ≤ 4611686018427387904) (hk : l.length < k) (hm : m.length ≤ 4611686018427387904) (hk' : m.length < k) : stream_Same.f k a b c l m a' b' c' l' m' = some (smB a b c l m a' b' c' l' m') := by
  unfold stream_Same.f smB
  rw [equal_eq l l' k hl hk, equal_eq m m' k hm hk']
  by_cases h1 : a = a'
  · by_cases h2 : b = b'
    · by_cases h3 : c = c'
      · by_cases h4 : l = l'
        · by_cases h5 : m = m' <;> simp [h1, h2, h3, h4, h5]
        · simp [h1, h2, h3, h4]
      · have : (c == c') = false := by simpa using h3
        simp [h1, h2, h3, this]
    · simp [h1, h2]
  · simp [h1]
theorem refsame_eq (a b : Int) (c : Bool) (l m : List Int) (a' b' : Int) (c' : Bool) (l' m' : List Int) (k : Nat) (hl : l.length ≤ 4611686018427387904) (hk : l.length < k) (hm : m.length ≤ 4611686018427387904) (hk' : m.length < k) : substationref15_Same.f k a b c l m a' b' c' l' m' = some (smB a b c l m a' b' c' l' m') := by
  unfold substationref15_Same.f smB
  rw [sameInts_eq l l' k hl hk, sameInts_eq m m' k hm hk']
  by_cases h1 : a = a'
  · by_cases h2 : b = b'
    · by_cases h3 : c = c'
      · by_cases h4 : l = l'
        · by_cases h5 : m = m' <;> simp [h1, h2, h3, h4, h5]
        · simp [h1, h2, h3, h4]
      · have : (c == c') = false := by simpa using h3
        simp [h1, h2, h3, this]
    · simp [h1, h2]
  · simp [h1]
/-- The count of samples. -/
def cntI (a b : Int) : Int := if 0 ≤ a ∧ a ≤ 1099511627776 then (if 0 ≤ b ∧ b ≤ 11 then Int.tmod (wrap64 (wrap64 (12 * a) + b)) 600 else 0) else 0
theorem count_eq (a b : Int) (k : Nat) (hk : 2 ≤ k) : stream_Count.f k a b = some (cntI a b) := by
  have w1 (a b x : Int) : stream_within_int.f k a b ([x] : List Int) = some (decide (a ≤ x ∧ x ≤ b)) := by
    rw [within_eq a b [x] k (by simp) (by simp; omega), inB_one]
  unfold stream_Count.f cntI
  rw [w1, w1]
  simp only [Option.bind_some]
  by_cases h1 : 0 ≤ a ∧ a ≤ 1099511627776
  · by_cases h2 : 0 ≤ b ∧ b ≤ 11
    · simp only [h1, h2, and_self, decide_true, if_true]
    · rw [if_pos (decide_eq_true h1), if_neg (by simpa using h2), if_pos h1, if_neg h2]
  · rw [if_neg (by simpa using h1), if_neg h1]
theorem refcount_eq (a b : Int) : substationref15_Count.f a b = some (cntI a b) := by
  unfold substationref15_Count.f cntI
  rw [between_eq, between_eq]
  simp only [Option.bind_some]
  by_cases h1 : 0 ≤ a ∧ a ≤ 1099511627776
  · by_cases h2 : 0 ≤ b ∧ b ≤ 11
    · simp only [h1, h2, and_self, decide_true, if_true]
    · rw [if_pos (decide_eq_true h1), if_neg (by simpa using h2), if_pos h1, if_neg h2]
  · rw [if_neg (by simpa using h1), if_neg h1]
theorem known_up : ∀ n, LeO (substationlaw15_known.f 20) (substationlaw15_known.f (20 + n))
  | 0 => LeO.refl _
  | n + 1 => fun r h => substationlaw15_known.mono (20 + n) r (known_up n r h)
theorem known_20 : substationlaw15_known.f 20 = some true := by
  decide +kernel
theorem known_eq (k : Nat) (hk : 20 ≤ k) : substationlaw15_known.f k = some true := by
  obtain ⟨n, rfl⟩ : ∃ n, k = 20 + n := ⟨k - 20, by omega⟩
  exact known_up n _ known_20

/-- Three bytes for each value. -/
def encT : List Int → List Int → List Int
  | x :: l, q :: m => (x / 256) % 256 :: x % 256 :: q % 256 :: encT l m
  | _, _ => []
def encL (a b : Int) (c : Bool) (l m : List Int) : List Int := 136 :: 186 :: (a / 256) % 256 :: a % 256 :: (b / 256) % 256 :: b % 256 :: (if c = true then 1 else 0) :: ((l.length : Int)) % 256 :: encT l m
theorem enc_l0 (a b : Int) (c : Bool) (l m : List Int) (hl : l.length ≤ 1000) (hm : m.length = l.length) : ∀ (n i k : Nat) (acc : List Int), l.length = i + n → n < k → acc.length + 3 * n ≤ 100000 → stream_Encode.l0 k acc l (l.length : Int) (i : Int) a b c l m = some (acc ++ encT (l.drop i) (m.drop i), 0)
  | n, i, 0, _, _, h, _ => absurd h (by omega)
  | 0, i, k + 1, acc, hi, _, _ => by
    simp only [stream_Encode.l0]
    rw [if_neg (by omega), List.drop_of_length_le (by omega), List.drop_of_length_le (by omega)]
    simp [encT]
  | n + 1, i, k + 1, acc, hi, hk, ha => by
    simp only [stream_Encode.l0]
    have hlt : i < l.length := by omega
    have hlt' : i < m.length := by omega
    have e : wrap64 ((i : Int) + 1) = ((i + 1 : Nat) : Int) := by rw [wrap_id (by omega) (by omega)]; rfl
    rw [if_pos (by omega), if_pos (by omega), if_pos (by omega), if_pos (by omega), rd_at l i hlt, rd_at m i hlt', List.drop_eq_getElem_cons hlt, List.drop_eq_getElem_cons hlt']
    simp only [Option.bind_some]
    rw [if_pos (by simp; clear e; omega), e, enc_l0 a b c l m hl hm n (i + 1) k _ (by omega) (by omega) (by simp; clear e; omega)]
    simp only [encT, List.append_assoc, List.cons_append, List.nil_append]
theorem chk_zero {a b : Int} {l m : List Int} (h : chk a b l m = 0) : (0 ≤ a ∧ a ≤ 999) ∧ (0 ≤ b ∧ b ≤ 599) ∧ (1 ≤ l.length ∧ l.length ≤ 8) ∧ m.length = l.length ∧ inB (-16383) 16383 l = true ∧ inB 0 255 m = true := by
  unfold chk at h
  by_cases h1 : (0 ≤ a ∧ a ≤ 999) ∧ (0 ≤ b ∧ b ≤ 599)
  · rw [if_neg (fun hh => hh h1)] at h
    by_cases h2 : (1 ≤ l.length ∧ l.length ≤ 8) ∧ m.length = l.length
    · rw [if_neg (fun hh => hh h2)] at h
      by_cases h3 : inB (-16383) 16383 l = true ∧ inB 0 255 m = true
      · exact ⟨h1.1, h1.2, h2.1, h2.2, h3.1, h3.2⟩
      · rw [if_neg h3] at h; cases h
    · rw [if_pos h2] at h; cases h
  · rw [if_pos h1] at h; cases h
/-- What encoding answers. -/
def encR (a b : Int) (c : Bool) (l m : List Int) : List Int × Int := if chk a b l m = 0 then (encL a b c l m, 0) else ([], chk a b l m)
theorem enc_eq (a b : Int) (c : Bool) (l m : List Int) (k : Nat) (hl : l.length ≤ 4611686018427387904) (hm : m.length ≤ 4611686018427387904) (hk : l.length + 20 ≤ k) (hk' : m.length + 20 ≤ k) : stream_Encode.f k a b c l m = some (encR a b c l m) := by
  unfold stream_Encode.f encR
  rw [check_eq _ _ _ _ _ k hl hm (by omega) (by omega)]
  simp only [Option.bind_some]
  by_cases h : chk a b l m = 0
  · rw [if_pos h, if_pos h]
    obtain ⟨_, _, h3, h4, _, _⟩ := chk_zero h
    obtain ⟨k, rfl⟩ : ∃ j, k = j + 1 := ⟨k - 1, by omega⟩
    have j0 (x : Int) : stream_Encode.j0 (k + 1) x a b c l m = some (136 :: 186 :: (a / 256) % 256 :: a % 256 :: (b / 256) % 256 :: b % 256 :: x :: ((l.length : Int)) % 256 :: encT l m, 0) := by
      simp only [stream_Encode.j0]
      have := enc_l0 a b c l m (by omega) h4 l.length 0 k [136, 186, (a / 256) % 256, a % 256, (b / 256) % 256, b % 256, x, ((l.length : Int)) % 256] (by omega) (by omega) (by simp; omega)
      simpa using this
    by_cases hc : c = true
    · rw [if_pos hc, j0]; simp [encL, hc]
    · rw [if_neg hc, j0]; simp [encL, hc]
  · rw [if_neg h, if_neg h]
theorem big_eq (x : Int) (k : Nat) (hk : 4 ≤ k) : substationref11_Big.f k x 2 = some [(x / 256) % 256, x % 256] := by
  obtain ⟨k, rfl⟩ : ∃ j, k = j + 3 := ⟨k - 3, by omega⟩
  have e1 : IntKind.u64.wrap (wrap64 (8 * wrap64 (2 - 1))) = 8 := by decide +kernel
  have e0 : IntKind.u64.wrap (wrap64 (8 * wrap64 (wrap64 (2 - 1) - 1))) = 0 := by decide +kernel
  have s1 : shr .i64 x 8 = x / 256 := rfl
  have s0 : shr .i64 x 0 = x := by show x / 1 = x; omega
  unfold substationref11_Big.f substationref11_Big.l0
  rw [if_pos (by decide +kernel), e1, if_pos (by decide +kernel), if_pos (by simp), s1]
  unfold substationref11_Big.l0
  rw [if_pos (by decide +kernel), e0, if_pos (by decide +kernel), if_pos (by simp), s0]
  unfold substationref11_Big.l0
  rw [if_neg (by decide +kernel)]
  rfl
theorem refenc_l0 (a b : Int) (c : Bool) (l m : List Int) (hl : l.length ≤ 1000) (hm : m.length = l.length) : ∀ (n i k : Nat) (acc : List Int), l.length = i + n → n + 10 < k → acc.length + 3 * n ≤ 100000 → substationref15_Encode.l0 k acc (i : Int) a b c l m = some (acc ++ encT (l.drop i) (m.drop i), 0)
  | n, i, 0, _, _, h, _ => absurd h (by omega)
  | 0, i, k + 1, acc, hi, _, _ => by
    simp only [substationref15_Encode.l0]
    rw [if_neg (by omega), List.drop_of_length_le (by omega), List.drop_of_length_le (by omega)]
    simp [encT]
  | n + 1, i, k + 1, acc, hi, hk, ha => by
    simp only [substationref15_Encode.l0]
    have hlt : i < l.length := by omega
    have hlt' : i < m.length := by omega
    have e : wrap64 ((i : Int) + 1) = ((i + 1 : Nat) : Int) := by rw [wrap_id (by omega) (by omega)]; rfl
    rw [if_pos (by omega), if_pos (by omega), rd_at l i hlt, rd_at m i hlt', List.drop_eq_getElem_cons hlt, List.drop_eq_getElem_cons hlt', big_eq _ k (by omega)]
    simp only [Option.bind_some]
    rw [if_pos (by simp; clear e; omega), if_pos (by omega), if_pos (by simp; clear e; omega), e, refenc_l0 a b c l m hl hm n (i + 1) k _ (by omega) (by omega) (by simp; clear e; omega)]
    simp only [encT, List.append_assoc, List.cons_append, List.nil_append]
theorem refenc_eq (a b : Int) (c : Bool) (l m : List Int) (k : Nat) (hl : l.length ≤ 4611686018427387904) (hm : m.length ≤ 4611686018427387904) (hk : l.length + 20 ≤ k) (hk' : m.length + 20 ≤ k) : substationref15_Encode.f k a b c l m = some (encR a b c l m) := by
  unfold substationref15_Encode.f encR
  rw [refcheck_eq _ _ _ _ _ k hl hm (by omega) (by omega)]
  simp only [Option.bind_some]
  by_cases h : chk a b l m = 0
  · rw [if_pos h, if_pos h]
    obtain ⟨_, _, h3, h4, _, _⟩ := chk_zero h
    obtain ⟨k, rfl⟩ : ∃ j, k = j + 1 := ⟨k - 1, by omega⟩
    have j0 (x : List Int) (hx : x.length = 7) : substationref15_Encode.j0 (k + 1) x a b c l m = some ((x ++ [((l.length : Int)) % 256]) ++ encT l m, 0) := by
      simp only [substationref15_Encode.j0]
      rw [if_pos (by omega)]
      have := refenc_l0 a b c l m (by omega) h4 l.length 0 k (x ++ [((l.length : Int)) % 256]) (by omega) (by omega) (by simp [hx]; omega)
      simpa using this
    rw [big_eq _ _ (by omega), big_eq _ _ (by omega)]
    simp only [Option.bind_some, List.cons_append, List.nil_append, List.length_cons, List.length_nil]
    by_cases hc : c = true
    · rw [if_pos (by omega), if_pos (by omega), if_pos hc, if_pos (by omega), j0 _ rfl]; simp [encL, hc]
    · rw [if_pos (by omega), if_pos (by omega), if_neg hc, if_pos (by omega), j0 _ rfl]; simp [encL, hc]
  · rw [if_neg h, if_neg h]
theorem or_bytes (h l : Int) (h0 : 0 ≤ h) (h1 : h < 256) (l0 : 0 ≤ l) (l1 : l < 256) : Go.bits .or .i64 (wrap64 (wrap64 h * 256)) (wrap64 l) = h * 256 + l := by
  obtain ⟨a, rfl⟩ : ∃ n : Nat, h = n := ⟨h.toNat, by omega⟩
  obtain ⟨b, rfl⟩ : ∃ n : Nat, l = n := ⟨l.toNat, by omega⟩
  rw [wrap_id (x := (a : Int)) (by omega) (by omega), wrap_id (x := (b : Int)) (by omega) (by omega), wrap_id (x := (a : Int) * 256) (by omega) (by omega)]
  have e1 : BitVec.ofInt 64 ((a : Int) * 256) = BitVec.ofNat 64 (a * 256) := by
    rw [show (a : Int) * 256 = ((a * 256 : Nat) : Int) by omega]; exact BitVec.ofInt_natCast ..
  have e2 : BitVec.ofInt 64 (b : Int) = BitVec.ofNat 64 b := BitVec.ofInt_natCast ..
  have e3 : (BitVec.ofNat 64 (a * 256) ||| BitVec.ofNat 64 b).toNat = a * 256 + b := by
    rw [BitVec.toNat_or, BitVec.toNat_ofNat, BitVec.toNat_ofNat, Nat.mod_eq_of_lt (by omega), Nat.mod_eq_of_lt (by omega)]
    have := Nat.two_pow_add_eq_or_of_lt (i := 8) (b := b) (by omega) a
    rw [show 2 ^ 8 * a = a * 256 by omega] at this
    exact this.symm
  show IntKind.i64.wrap ((BitVec.ofInt 64 ((a : Int) * 256) ||| BitVec.ofInt 64 (b : Int)).toNat : Int) = _
  rw [e1, e2, e3]
  have : IntKind.i64.wrap ((a * 256 + b : Nat) : Int) = ((a * 256 + b : Nat) : Int) := by
    have h2 : ((a * 256 + b : Nat) : Int) % (2 ^ IntKind.i64.bits : Int) = ((a * 256 + b : Nat) : Int) := by
      show _ % (18446744073709551616 : Int) = _
      omega
    unfold IntKind.wrap
    simp only [h2]
    rw [if_neg]
    show ¬ (_ && decide (_ ≥ (9223372036854775808 : Int))) = true
    simp
    omega
  rw [this]; omega
def byt (l : List Int) : Prop := ∀ x ∈ l, 0 ≤ x ∧ x ≤ 255
theorem byt_of {l : List Int} (h : ∀ x ∈ l, (Lit.int .u8 x).wf = true) : byt l := fun x hx => by
  have := h x hx
  unfold Lit.wf at this
  rw [Bool.and_eq_true, decide_eq_true_eq, decide_eq_true_eq] at this
  exact this
theorem rd_byte {l : List Int} (h : byt l) (i : Int) : 0 ≤ rd l i ∧ rd l i ≤ 255 := by
  unfold rd
  by_cases hi : i.toNat < l.length
  · rw [List.getD_eq_getElem?_getD, List.getElem?_eq_getElem hi]
    exact h _ (List.getElem_mem hi)
  · rw [List.getD_eq_getElem?_getD, List.getElem?_eq_none (by omega)]
    simp
theorem rd_drop (l : List Int) (i : Nat) (j : Nat) : rd (l.drop i) (j : Int) = rd l ((i + j : Nat) : Int) := by
  show (l.drop i).getD (j : Int).toNat 0 = l.getD ((i + j : Nat) : Int).toNat 0
  rw [Int.toNat_natCast, Int.toNat_natCast]
  simp [List.getD_eq_getElem?_getD, List.getElem?_drop]
def tw (x : List Int) (i : Nat) : Int := rd x (i : Int) * 256 + rd x ((i + 1 : Nat) : Int)
theorem tw_range {x : List Int} (h : byt x) (i : Nat) : 0 ≤ tw x i ∧ tw x i ≤ 65535 := by
  have h1 := rd_byte h (i : Int)
  have h2 := rd_byte h ((i + 1 : Nat) : Int)
  unfold tw
  omega
theorem two_eq {x : List Int} (h : byt x) (i : Nat) (hi : i + 1 < x.length) : stream_two.f (x.drop i) = some (tw x i) := by
  have h1 := rd_byte h (i : Int)
  have h2 := rd_byte h ((i + 1 : Nat) : Int)
  have e0 : rd (x.drop i) 0 = rd x (i : Int) := rd_drop x i 0
  have e1 : rd (x.drop i) 1 = rd x ((i + 1 : Nat) : Int) := rd_drop x i 1
  unfold stream_two.f
  rw [if_pos (by rw [List.length_drop]; omega), if_pos (by rw [List.length_drop]; omega), e0, e1, or_bytes _ _ h1.1 (by omega) h2.1 (by omega)]
  rfl
theorem reftwo_eq {x : List Int} (h : byt x) (i : Nat) (hi : i + 1 < x.length) : substationref15_two.f (x.drop i) = some (tw x i) := two_eq h i hi
def sg (t : Int) : Int := if t ≥ 32768 then t - 65536 else t
theorem sg_eq (t : Int) (h0 : 0 ≤ t) (h1 : t ≤ 65535) : wrap64 (IntKind.i16.wrap t) = sg t := by
  have e : IntKind.i16.wrap t = sg t := by
    have e2 : (2 ^ (IntKind.i16.bits - 1) : Int) = 32768 := rfl
    have e3 : (2 ^ IntKind.i16.bits : Int) = 65536 := rfl
    have e4 : IntKind.i16.signed = true := rfl
    have h2 : t % (65536 : Int) = t := by omega
    unfold IntKind.wrap sg
    simp only [e2, e3, e4, h2, Bool.true_and, decide_eq_true_eq]
  rw [e, wrap_id]
  · unfold sg; split <;> omega
  · unfold sg; split <;> omega
def dvs (x : List Int) : Nat → Nat → List Int
  | _, 0 => []
  | i, r + 1 => sg (tw x (8 + 3 * i)) :: dvs x (i + 1) r
def dqs (x : List Int) : Nat → Nat → List Int
  | _, 0 => []
  | i, r + 1 => rd x ((10 + 3 * i : Nat) : Int) :: dqs x (i + 1) r
theorem dvs_length (x : List Int) : ∀ (r i : Nat), (dvs x i r).length = r
  | 0, _ => rfl
  | r + 1, i => by simp [dvs, dvs_length x r]
theorem dqs_length (x : List Int) : ∀ (r i : Nat), (dqs x i r).length = r
  | 0, _ => rfl
  | r + 1, i => by simp [dqs, dqs_length x r]
def fin (u c : Int) (s : Bool) (l m : List Int) : Int × Int × Bool × List Int × List Int × Int := if chk u c l m = 0 then (u, c, s, l, m, 0) else (0, 0, false, [], [], chk u c l m)
theorem dec_l0 (x : List Int) (hx : byt x) (u c : Int) (s : Bool) : ∀ (r i k : Nat) (A B : List Int), x.length = 8 + 3 * (i + r) → i + r ≤ 255 → A.length = i → B.length = i → r + 300 ≤ k → stream_Decode.l0 k x ((i + r : Nat) : Int) (i : Int) u c s A B = some (fin u c s (A ++ dvs x i r) (B ++ dqs x i r))
  | r, i, 0, _, _, _, _, _, _, h => absurd h (by omega)
  | 0, i, k + 1, A, B, hl, hi, hA, hB, hk => by
    simp only [stream_Decode.l0]
    rw [if_neg (by omega), check_eq _ _ _ _ _ k (by omega) (by omega) (by omega) (by omega)]
    simp only [Option.bind_some, dvs, dqs, List.append_nil, fin]
    by_cases h : chk u c A B = 0
    · rw [if_pos h, if_pos h]
    · rw [if_neg h, if_neg h]
  | r + 1, i, k + 1, A, B, hl, hi, hA, hB, hk => by
    simp only [stream_Decode.l0]
    have e : wrap64 ((i : Int) + 1) = ((i + 1 : Nat) : Int) := by rw [wrap_id (by omega) (by omega)]; rfl
    have e8 : wrap64 (8 + wrap64 (3 * (i : Int))) = ((8 + 3 * i : Nat) : Int) := by rw [wrap_id (x := 3 * (i : Int)) (by omega) (by omega), wrap_id (by omega) (by omega)]; omega
    rw [e8, e, Int.toNat_natCast]
    clear e e8
    have ht := tw_range hx (8 + 3 * i)
    have hq : rd (x.drop (8 + 3 * i)) 2 = rd x ((10 + 3 * i : Nat) : Int) := by
      have := rd_drop x (8 + 3 * i) 2
      rw [show 8 + 3 * i + 2 = 10 + 3 * i by omega] at this
      exact this
    have hb := rd_byte hx ((10 + 3 * i : Nat) : Int)
    rw [if_pos (by omega), if_pos (by omega), if_pos (by omega), two_eq hx _ (by omega)]
    simp only [Option.bind_some]
    rw [if_pos (by omega), if_pos (by rw [List.length_drop]; omega), if_pos (by omega), hq, sg_eq _ ht.1 ht.2, wrap_id (x := rd x ((10 + 3 * i : Nat) : Int)) (by omega) (by omega), show i + (r + 1) = (i + 1) + r by omega]
    rw [dec_l0 x hx u c s r (i + 1) k _ _ (by omega) (by omega) (by simp [hA]) (by simp [hB]) (by omega)]
    simp only [dvs, dqs, List.append_assoc, List.cons_append, List.nil_append]
theorem refdec_l0 (x : List Int) (hx : byt x) (u c : Int) (s : Bool) : ∀ (r i k : Nat) (A B : List Int), x.length = 8 + 3 * (i + r) → i + r ≤ 255 → A.length = i → B.length = i → r + 300 ≤ k → substationref15_Decode.l0 k x ((i + r : Nat) : Int) (i : Int) u c s A B = some (fin u c s (A ++ dvs x i r) (B ++ dqs x i r))
  | r, i, 0, _, _, _, _, _, _, h => absurd h (by omega)
  | 0, i, k + 1, A, B, hl, hi, hA, hB, hk => by
    simp only [substationref15_Decode.l0]
    rw [if_neg (by omega), refcheck_eq _ _ _ _ _ k (by omega) (by omega) (by omega) (by omega)]
    simp only [Option.bind_some, dvs, dqs, List.append_nil, fin]
    by_cases h : chk u c A B = 0
    · rw [if_pos h, if_pos h]
    · rw [if_neg h, if_neg h]
  | r + 1, i, k + 1, A, B, hl, hi, hA, hB, hk => by
    simp only [substationref15_Decode.l0]
    have e : wrap64 ((i : Int) + 1) = ((i + 1 : Nat) : Int) := by rw [wrap_id (by omega) (by omega)]; rfl
    have e8 : wrap64 (8 + wrap64 (3 * (i : Int))) = ((8 + 3 * i : Nat) : Int) := by rw [wrap_id (x := 3 * (i : Int)) (by omega) (by omega), wrap_id (by omega) (by omega)]; omega
    have e10 : wrap64 (10 + wrap64 (3 * (i : Int))) = ((10 + 3 * i : Nat) : Int) := by rw [wrap_id (x := 3 * (i : Int)) (by omega) (by omega), wrap_id (by omega) (by omega)]; omega
    rw [e8, e10, e, Int.toNat_natCast]
    clear e e8 e10
    have ht := tw_range hx (8 + 3 * i)
    have hb := rd_byte hx ((10 + 3 * i : Nat) : Int)
    rw [if_pos (by omega), if_pos (by omega), if_pos (by omega), reftwo_eq hx _ (by omega)]
    simp only [Option.bind_some]
    have ih (t : Int) := refdec_l0 x hx u c s r (i + 1) k (A ++ [t]) (B ++ [rd x ((10 + 3 * i : Nat) : Int)]) (by omega) (by omega) (by simp [hA]) (by simp [hB]) (by omega)
    rw [wrap_id (x := rd x ((10 + 3 * i : Nat) : Int)) (by omega) (by omega), show i + (r + 1) = (i + 1) + r by omega]
    by_cases h : tw x (8 + 3 * i) ≥ 32768
    · rw [if_pos h, if_pos (by omega), if_pos (by omega), if_pos (by omega), if_pos (by omega), wrap_id (x := tw x (8 + 3 * i) - 65536) (by omega) (by omega), ih]
      simp only [dvs, dqs, sg, if_pos h, List.append_assoc, List.cons_append, List.nil_append]
    · rw [if_neg h, if_pos (by omega), if_pos (by omega), if_pos (by omega), if_pos (by omega), ih]
      simp only [dvs, dqs, sg, if_neg h, List.append_assoc, List.cons_append, List.nil_append]
def zr (e : Int) : Int × Int × Bool × List Int × List Int × Int := (0, 0, false, [], [], e)
/-- What decoding answers. -/
def decR (x : List Int) : Int × Int × Bool × List Int × List Int × Int :=
  if x.length < 8 then zr 13 else if rd x 0 ≠ 136 ∨ rd x 1 ≠ 186 then zr 15 else if rd x 6 > 1 then zr 16 else if (x.length : Int) < 8 + 3 * rd x 7 then zr 13 else if (x.length : Int) > 8 + 3 * rd x 7 then zr 14 else
    fin (tw x 2) (tw x 4) (rd x 6 == 1) (dvs x 0 (rd x 7).toNat) (dqs x 0 (rd x 7).toNat)
theorem dec_eq (x : List Int) (hx : byt x) (k : Nat) (hk : 600 ≤ k) : stream_Decode.f k x = some (decR x) := by
  obtain ⟨k, rfl⟩ : ∃ j, k = j + 1 := ⟨k - 1, by omega⟩
  unfold stream_Decode.f decR
  by_cases h8 : x.length < 8
  · rw [if_pos (by omega), if_pos h8]; rfl
  · have h7 := rd_byte hx 7
    have e : wrap64 (8 + wrap64 (3 * wrap64 (rd x 7))) = 8 + 3 * rd x 7 := by rw [wrap_id (x := rd x 7) (by omega) (by omega), wrap_id (x := 3 * rd x 7) (by omega) (by omega), wrap_id (by omega) (by omega)]
    have e7 : wrap64 (rd x 7) = rd x 7 := wrap_id (by omega) (by omega)
    rw [if_neg (by omega), if_pos (by omega), if_pos (by omega), if_neg h8, e]
    clear e
    have j0 (b : Bool) : stream_Decode.j0 (k + 1) x (8 + 3 * rd x 7) b = some (if b = true then zr 15 else if rd x 6 > 1 then zr 16 else if (x.length : Int) < 8 + 3 * rd x 7 then zr 13 else if (x.length : Int) > 8 + 3 * rd x 7 then zr 14 else fin (tw x 2) (tw x 4) (rd x 6 == 1) (dvs x 0 (rd x 7).toNat) (dqs x 0 (rd x 7).toNat)) := by
      simp only [stream_Decode.j0]
      rw [e7]
      clear e7
      by_cases hb : b = true
      · rw [if_pos hb, if_pos hb]; rfl
      rw [if_neg hb, if_neg hb, if_pos (by omega)]
      by_cases h6 : rd x 6 > 1
      · rw [if_pos h6, if_pos h6]; rfl
      rw [if_neg h6, if_neg h6]
      by_cases h1 : (x.length : Int) < 8 + 3 * rd x 7
      · rw [if_pos h1, if_pos h1]; rfl
      rw [if_neg h1, if_neg h1]
      by_cases h2 : (x.length : Int) > 8 + 3 * rd x 7
      · rw [if_pos h2, if_pos h2]; rfl
      rw [if_neg h2, if_neg h2, if_pos (by omega), two_eq hx 2 (by omega)]
      simp only [Option.bind_some]
      rw [if_pos (by omega), two_eq hx 4 (by omega)]
      simp only [Option.bind_some]
      rw [if_pos (by omega)]
      have := dec_l0 x hx (tw x 2) (tw x 4) (rd x 6 == 1) (rd x 7).toNat 0 k [] [] (by omega) (by omega) rfl rfl (by omega)
      rw [show ((0 + (rd x 7).toNat : Nat) : Int) = rd x 7 by omega] at this
      exact this
    by_cases h0 : rd x 0 = 136
    · rw [if_pos h0, if_pos (by omega), j0]
      by_cases h1 : rd x 1 = 186
      · rw [if_neg (show ¬ ((rd x 1 != 186) = true) by simp [h1]), if_neg (show ¬ (rd x 0 ≠ 136 ∨ rd x 1 ≠ 186) by simp [h0, h1])]
      · rw [if_pos (by simp [h1]), if_pos (Or.inr h1)]
    · rw [if_neg h0, j0, if_pos rfl, if_pos (Or.inl h0)]
theorem refdec_eq (x : List Int) (hx : byt x) (k : Nat) (hk : 600 ≤ k) : substationref15_Decode.f k x = some (decR x) := by
  obtain ⟨k, rfl⟩ : ∃ j, k = j + 1 := ⟨k - 1, by omega⟩
  unfold substationref15_Decode.f decR
  by_cases h8 : x.length < 8
  · rw [if_pos (by omega), if_pos h8]; rfl
  · have h7 := rd_byte hx 7
    have e : wrap64 (8 + wrap64 (3 * wrap64 (rd x 7))) = 8 + 3 * rd x 7 := by rw [wrap_id (x := rd x 7) (by omega) (by omega), wrap_id (x := 3 * rd x 7) (by omega) (by omega), wrap_id (by omega) (by omega)]
    have e7 : wrap64 (rd x 7) = rd x 7 := wrap_id (by omega) (by omega)
    rw [if_neg (by omega), if_pos (by omega), if_neg h8]
    have j0 (b : Bool) : substationref15_Decode.j0 (k + 1) x b = some (if b = true then zr 15 else if rd x 6 > 1 then zr 16 else if (x.length : Int) < 8 + 3 * rd x 7 then zr 13 else if (x.length : Int) > 8 + 3 * rd x 7 then zr 14 else fin (tw x 2) (tw x 4) (rd x 6 == 1) (dvs x 0 (rd x 7).toNat) (dqs x 0 (rd x 7).toNat)) := by
      simp only [substationref15_Decode.j0]
      rw [e, e7]
      clear e7 e
      by_cases hb : b = true
      · rw [if_pos hb, if_pos hb]; rfl
      rw [if_neg hb, if_neg hb, if_pos (by omega)]
      by_cases h6 : rd x 6 > 1
      · rw [if_pos h6, if_pos h6]; rfl
      rw [if_neg h6, if_neg h6, if_pos (by omega)]
      by_cases h1 : (x.length : Int) < 8 + 3 * rd x 7
      · rw [if_pos h1, if_pos h1]; rfl
      rw [if_neg h1, if_neg h1]
      by_cases h2 : (x.length : Int) > 8 + 3 * rd x 7
      · rw [if_pos h2, if_pos h2]; rfl
      rw [if_neg h2, if_neg h2, if_pos (by omega), reftwo_eq hx 2 (by omega)]
      simp only [Option.bind_some]
      rw [if_pos (by omega), reftwo_eq hx 4 (by omega)]
      simp only [Option.bind_some]
      have := refdec_l0 x hx (tw x 2) (tw x 4) (rd x 6 == 1) (rd x 7).toNat 0 k [] [] (by omega) (by omega) rfl rfl (by omega)
      rw [show ((0 + (rd x 7).toNat : Nat) : Int) = rd x 7 by omega] at this
      exact this
    by_cases h0 : rd x 0 = 136
    · rw [if_pos h0, if_pos (by omega), j0]
      by_cases h1 : rd x 1 = 186
      · rw [if_neg (show ¬ ((rd x 1 != 186) = true) by simp [h1]), if_neg (show ¬ (rd x 0 ≠ 136 ∨ rd x 1 ≠ 186) by simp [h0, h1])]
      · rw [if_pos (by simp [h1]), if_pos (Or.inr h1)]
    · rw [if_neg h0, j0, if_pos rfl, if_pos (Or.inl h0)]
/-- What comes out of a decode is short. -/
theorem dec_short (x : List Int) (hx : byt x) : (decR x).2.2.2.1.length ≤ 255 ∧ (decR x).2.2.2.2.1.length ≤ 255 := by
  have h7 := rd_byte hx 7
  unfold decR
  by_cases h1 : x.length < 8
  · rw [if_pos h1]; simp [zr]
  rw [if_neg h1]
  by_cases h2 : rd x 0 ≠ 136 ∨ rd x 1 ≠ 186
  · rw [if_pos h2]; simp [zr]
  rw [if_neg h2]
  by_cases h3 : rd x 6 > 1
  · rw [if_pos h3]; simp [zr]
  rw [if_neg h3]
  by_cases h4 : (x.length : Int) < 8 + 3 * rd x 7
  · rw [if_pos h4]; simp [zr]
  rw [if_neg h4]
  by_cases h5 : (x.length : Int) > 8 + 3 * rd x 7
  · rw [if_pos h5]; simp [zr]
  rw [if_neg h5]
  unfold fin
  split
  · simp only [dvs_length, dqs_length]; omega
  · simp

theorem drop_cons (x : List Int) (i : Nat) (h : i < x.length) : x.drop i = rd x (i : Int) :: x.drop (i + 1) := by
  rw [List.drop_eq_getElem_cons h, rd_at x i h]
theorem encT_drop : ∀ (i : Nat) (l m : List Int), m.length = l.length → i ≤ l.length → (encT l m).drop (3 * i) = encT (l.drop i) (m.drop i)
  | 0, l, m, _, _ => rfl
  | i + 1, [], m, _, hi => absurd hi (by simp)
  | i + 1, x :: l, [], hm, _ => absurd hm (by simp)
  | i + 1, x :: l, q :: m, hm, hi => by
    have := encT_drop i l m (by simpa using hm) (by simpa using hi)
    rw [show 3 * (i + 1) = 3 * i + 3 by omega]
    simp only [encT, List.drop_succ_cons]
    exact this
theorem encT_length : ∀ (l m : List Int), m.length = l.length → (encT l m).length = 3 * l.length
  | [], [], _ => rfl
  | x :: l, q :: m, hm => by
    have := encT_length l m (by simpa using hm)
    simp only [encT, List.length_cons, this]
    omega
  | [], q :: m, hm => absurd hm (by simp)
  | x :: l, [], hm => absurd hm (by simp)
theorem inB_mem {a b : Int} {l : List Int} (h : inB a b l = true) : ∀ x ∈ l, a ≤ x ∧ x ≤ b := by
  intro x hx
  have := List.all_eq_true.mp h x hx
  exact of_decide_eq_true this
theorem encT_byt : ∀ (l m : List Int), (∀ x ∈ m, 0 ≤ x ∧ x ≤ 255) → byt (encT l m)
  | [], _, _ => by intro x hx; simp [encT] at hx
  | _ :: _, [], _ => by intro x hx; simp [encT] at hx
  | y :: l, q :: m, hm => by
    intro x hx
    simp only [encT, List.mem_cons] at hx
    rcases hx with rfl | rfl | rfl | hx
    · omega
    · omega
    · omega
    · exact encT_byt l m (fun z hz => hm z (List.mem_cons_of_mem _ hz)) x hx
theorem encL_byt (a b : Int) (c : Bool) (l m : List Int) (hm : ∀ x ∈ m, 0 ≤ x ∧ x ≤ 255) : byt (encL a b c l m) := by
  intro x hx
  unfold encL at hx
  simp only [List.mem_cons] at hx
  rcases hx with rfl | rfl | rfl | rfl | rfl | rfl | rfl | rfl | hx
  · omega
  · omega
  · omega
  · omega
  · omega
  · omega
  · split <;> omega
  · omega
  · exact encT_byt l m hm x hx
/-- Where the values of an encoding stand. -/
theorem encL_at (a b : Int) (c : Bool) (l m : List Int) (hm : m.length = l.length) (i : Nat) (hi : i < l.length) :
    rd (encL a b c l m) ((8 + 3 * i : Nat) : Int) = (l[i] / 256) % 256 ∧ rd (encL a b c l m) ((8 + 3 * i + 1 : Nat) : Int) = l[i] % 256 ∧ rd (encL a b c l m) ((10 + 3 * i : Nat) : Int) = (m[i]'(by omega)) % 256 := by
  have e : (encL a b c l m).drop (8 + 3 * i) = (l[i] / 256) % 256 :: l[i] % 256 :: (m[i]'(by omega)) % 256 :: encT (l.drop (i + 1)) (m.drop (i + 1)) := by
    rw [show 8 + 3 * i = 3 * i + 8 by omega]
    show (encT l m).drop (3 * i) = _
    rw [encT_drop i l m hm (by omega), List.drop_eq_getElem_cons hi, List.drop_eq_getElem_cons (show i < m.length by omega)]
    rfl
  refine ⟨?_, ?_, ?_⟩
  · have := rd_drop (encL a b c l m) (8 + 3 * i) 0
    rw [e] at this
    exact this.symm
  · have := rd_drop (encL a b c l m) (8 + 3 * i) 1
    rw [e] at this
    exact this.symm
  · have := rd_drop (encL a b c l m) (8 + 3 * i) 2
    rw [e, show 8 + 3 * i + 2 = 10 + 3 * i by omega] at this
    exact this.symm
theorem dvs_enc (a b : Int) (c : Bool) (l m : List Int) (hm : m.length = l.length) (hl : ∀ x ∈ l, -16383 ≤ x ∧ x ≤ 16383) : ∀ (r i : Nat), l.length = i + r → dvs (encL a b c l m) i r = l.drop i
  | 0, i, h => by rw [List.drop_of_length_le (by omega)]; rfl
  | r + 1, i, h => by
    have hi : i < l.length := by omega
    obtain ⟨e1, e2, _⟩ := encL_at a b c l m hm i hi
    have hx := hl _ (List.getElem_mem hi)
    rw [List.drop_eq_getElem_cons hi]
    unfold dvs tw sg
    rw [e1, e2, dvs_enc a b c l m hm hl r (i + 1) (by omega)]
    congr 1
    split <;> omega
theorem dqs_enc (a b : Int) (c : Bool) (l m : List Int) (hm : m.length = l.length) (hq : ∀ x ∈ m, 0 ≤ x ∧ x ≤ 255) : ∀ (r i : Nat), l.length = i + r → dqs (encL a b c l m) i r = m.drop i
  | 0, i, h => by rw [List.drop_of_length_le (by omega)]; rfl
  | r + 1, i, h => by
    have hi : i < m.length := by omega
    obtain ⟨_, _, e3⟩ := encL_at a b c l m hm i (by omega)
    have hx := hq _ (List.getElem_mem hi)
    rw [List.drop_eq_getElem_cons hi]
    unfold dqs
    rw [e3, dqs_enc a b c l m hm hq r (i + 1) (by omega)]
    congr 1
    omega
theorem dec_enc (a b : Int) (c : Bool) (l m : List Int) (h : chk a b l m = 0) : decR (encL a b c l m) = (a, b, c, l, m, 0) := by
  obtain ⟨h1, h2, h3, h4, h5, h6⟩ := chk_zero h
  have len : (encL a b c l m).length = 8 + 3 * l.length := by
    show (encT l m).length + 8 = _
    rw [encT_length l m h4]; omega
  have r0 : rd (encL a b c l m) 0 = 136 := rfl
  have r1 : rd (encL a b c l m) 1 = 186 := rfl
  have r2 : rd (encL a b c l m) ((2 : Nat) : Int) = (a / 256) % 256 := rfl
  have r3 : rd (encL a b c l m) ((2 + 1 : Nat) : Int) = a % 256 := rfl
  have r4 : rd (encL a b c l m) ((4 : Nat) : Int) = (b / 256) % 256 := rfl
  have r5 : rd (encL a b c l m) ((4 + 1 : Nat) : Int) = b % 256 := rfl
  have r6 : rd (encL a b c l m) 6 = if c = true then 1 else 0 := rfl
  have r7 : rd (encL a b c l m) 7 = (l.length : Int) % 256 := rfl
  have n : (rd (encL a b c l m) 7).toNat = l.length := by rw [r7]; omega
  unfold decR
  rw [n, dvs_enc a b c l m h4 (inB_mem h5) l.length 0 (by omega), dqs_enc a b c l m h4 (inB_mem h6) l.length 0 (by omega), if_neg (by omega), if_neg (by rw [r0, r1]; simp), if_neg (by rw [r6]; split <;> omega), if_neg (by rw [r7]; omega), if_neg (by rw [r7]; omega)]
  unfold tw
  rw [r2, r3, r4, r5, r6]
  have ea : (a / 256) % 256 * 256 + a % 256 = a := by omega
  have eb : (b / 256) % 256 * 256 + b % 256 = b := by omega
  have ec : ((if c = true then (1 : Int) else 0) == 1) = c := by cases c <;> rfl
  rw [ea, eb, ec]
  unfold fin
  simp only [List.drop_zero]
  rw [if_pos h]
theorem encT_dec (x : List Int) (hx : byt x) : ∀ (r i : Nat), x.length = 8 + 3 * (i + r) → encT (dvs x i r) (dqs x i r) = x.drop (8 + 3 * i)
  | 0, i, h => by rw [List.drop_of_length_le (by omega)]; rfl
  | r + 1, i, h => by
    have a1 := rd_byte hx ((8 + 3 * i : Nat) : Int)
    have a2 := rd_byte hx ((8 + 3 * i + 1 : Nat) : Int)
    have a3 := rd_byte hx ((10 + 3 * i : Nat) : Int)
    rw [drop_cons x (8 + 3 * i) (by omega), drop_cons x (8 + 3 * i + 1) (by omega), drop_cons x (8 + 3 * i + 1 + 1) (by omega)]
    have ih := encT_dec x hx r (i + 1) (by omega)
    rw [show 8 + 3 * (i + 1) = 8 + 3 * i + 1 + 1 + 1 by omega] at ih
    rw [← ih]
    show sg (tw x (8 + 3 * i)) / 256 % 256 :: sg (tw x (8 + 3 * i)) % 256 :: rd x ((10 + 3 * i : Nat) : Int) % 256 :: encT (dvs x (i + 1) r) (dqs x (i + 1) r) = _
    have e10 : ((8 + 3 * i + 1 + 1 : Nat) : Int) = ((10 + 3 * i : Nat) : Int) := by omega
    rw [e10]
    have s1 : sg (tw x (8 + 3 * i)) / 256 % 256 = rd x ((8 + 3 * i : Nat) : Int) := by unfold sg tw; split <;> omega
    have s2 : sg (tw x (8 + 3 * i)) % 256 = rd x ((8 + 3 * i + 1 : Nat) : Int) := by unfold sg tw; split <;> omega
    have s3 : rd x ((10 + 3 * i : Nat) : Int) % 256 = rd x ((10 + 3 * i : Nat) : Int) := by omega
    rw [s1, s2, s3]
theorem enc_dec (x : List Int) (hx : byt x) : ((decR x).2.2.2.2.2 = 0 → encR (decR x).1 (decR x).2.1 (decR x).2.2.1 (decR x).2.2.2.1 (decR x).2.2.2.2.1 = (x, 0)) ∧ ((decR x).2.2.2.2.2 ≠ 0 → (decR x).2.2.2.1.length = 0) := by
  have h7 := rd_byte hx 7
  have h6' := rd_byte hx 6
  unfold decR
  by_cases h1 : x.length < 8
  · rw [if_pos h1]; simp [zr]
  rw [if_neg h1]
  by_cases h2 : rd x 0 ≠ 136 ∨ rd x 1 ≠ 186
  · rw [if_pos h2]; simp [zr]
  rw [if_neg h2]
  by_cases h3 : rd x 6 > 1
  · rw [if_pos h3]; simp [zr]
  rw [if_neg h3]
  by_cases h4 : (x.length : Int) < 8 + 3 * rd x 7
  · rw [if_pos h4]; simp [zr]
  rw [if_neg h4]
  by_cases h5 : (x.length : Int) > 8 + 3 * rd x 7
  · rw [if_pos h5]; simp [zr]
  rw [if_neg h5]
  unfold fin
  by_cases hc : chk (tw x 2) (tw x 4) (dvs x 0 (rd x 7).toNat) (dqs x 0 (rd x 7).toNat) = 0
  · rw [if_pos hc]
    refine ⟨fun _ => ?_, fun h => absurd rfl h⟩
    dsimp only
    unfold encR
    rw [if_pos hc]
    have g0 : rd x ((0 : Nat) : Int) = 136 := by
      by_cases h : rd x 0 = 136
      · exact h
      · exact absurd (Or.inl h) h2
    have g1 : rd x ((0 + 1 : Nat) : Int) = 186 := by
      by_cases h : rd x 1 = 186
      · exact h
      · exact absurd (Or.inr h) h2
    have b2 := rd_byte hx ((2 : Nat) : Int)
    have b3 := rd_byte hx ((2 + 1 : Nat) : Int)
    have b4 := rd_byte hx ((4 : Nat) : Int)
    have b5 := rd_byte hx ((4 + 1 : Nat) : Int)
    have ex : x = rd x ((0 : Nat) : Int) :: rd x ((0 + 1 : Nat) : Int) :: rd x ((2 : Nat) : Int) :: rd x ((2 + 1 : Nat) : Int) :: rd x ((4 : Nat) : Int) :: rd x ((4 + 1 : Nat) : Int) :: rd x 6 :: rd x 7 :: x.drop 8 := by
      have := drop_cons x 0 (by omega)
      rw [drop_cons x (0 + 1) (by omega), drop_cons x (0 + 1 + 1) (by omega), drop_cons x (0 + 1 + 1 + 1) (by omega), drop_cons x (0 + 1 + 1 + 1 + 1) (by omega), drop_cons x (0 + 1 + 1 + 1 + 1 + 1) (by omega), drop_cons x (0 + 1 + 1 + 1 + 1 + 1 + 1) (by omega), drop_cons x (0 + 1 + 1 + 1 + 1 + 1 + 1 + 1) (by omega)] at this
      exact this
    have t2 : tw x 2 / 256 % 256 = rd x ((2 : Nat) : Int) := by unfold tw; omega
    have t3 : tw x 2 % 256 = rd x ((2 + 1 : Nat) : Int) := by unfold tw; omega
    have t4 : tw x 4 / 256 % 256 = rd x ((4 : Nat) : Int) := by unfold tw; omega
    have t5 : tw x 4 % 256 = rd x ((4 + 1 : Nat) : Int) := by unfold tw; omega
    have t6 : (if (rd x 6 == 1) = true then (1 : Int) else 0) = rd x 6 := by
      by_cases h : rd x 6 = 1
      · rw [if_pos (beq_iff_eq.mpr h), h]
      · rw [if_neg (by simpa using h)]; omega
    have t7 : ((dvs x 0 (rd x 7).toNat).length : Int) % 256 = rd x 7 := by rw [dvs_length]; omega
    have t8 : encT (dvs x 0 (rd x 7).toNat) (dqs x 0 (rd x 7).toNat) = x.drop 8 := encT_dec x hx (rd x 7).toNat 0 (by omega)
    unfold encL
    rw [t2, t3, t4, t5, t6, t7, t8, ← g0, ← g1]
    exact congrArg (·, 0) ex.symm
  · rw [if_neg hc]
    exact ⟨fun h => absurd h hc, fun _ => rfl⟩
theorem StreamRoundTrip : StreamRoundTrip_Pure := by
  intro a0 a1 a2 l3 l4 lb _ _ h3 h4 hb
  refine ⟨l3.length + l4.length + 1000, ?_⟩
  have hx := byt_of hb.2.2
  have hs := dec_short lb hx
  have hr := enc_dec lb hx
  have m3 : l3.length ≤ 4611686018427387904 := by have := h3.1; omega
  have m4 : l4.length ≤ 4611686018427387904 := by have := h4.1; omega
  unfold substationlaw15_StreamRoundTrip.f
  rw [known_eq _ (by omega)]
  simp only [Option.bind_some, if_true]
  rw [enc_eq _ _ _ _ _ _ m3 m4 (by omega) (by omega)]
  simp only [Option.bind_some]
  have p1 : (if (encR a0 a1 a2 l3 l4).2 = 0 then (stream_Decode.f (l3.length + l4.length + 1000) (encR a0 a1 a2 l3 l4).1).bind fun p => (substationref15_Same.f (l3.length + l4.length + 1000) p.1 p.2.1 p.2.2.1 p.2.2.2.1 p.2.2.2.2.1 a0 a1 a2 l3 l4).bind fun s => some (decide (p.2.2.2.2.2 = 0 ∧ s = true)) else some true) = some true := by
    by_cases h : chk a0 a1 l3 l4 = 0
    · have e : encR a0 a1 a2 l3 l4 = (encL a0 a1 a2 l3 l4, 0) := if_pos h
      obtain ⟨_, _, q3, q4, _, q6⟩ := chk_zero h
      rw [e, if_pos rfl, dec_eq _ (encL_byt a0 a1 a2 l3 l4 (inB_mem q6)) _ (by omega), dec_enc a0 a1 a2 l3 l4 h]
      simp only [Option.bind_some]
      rw [refsame_eq _ _ _ _ _ _ _ _ _ _ _ (by omega) (by omega) (by omega) (by omega)]
      simp [smB]
    · have e : encR a0 a1 a2 l3 l4 = ([], chk a0 a1 l3 l4) := if_neg h
      rw [e, if_neg h]
  rw [p1]
  simp only [Option.bind_some, if_true]
  rw [dec_eq _ hx _ (by omega)]
  simp only [Option.bind_some]
  by_cases h : (decR lb).2.2.2.2.2 = 0
  · rw [if_pos h, enc_eq _ _ _ _ _ _ (by omega) (by omega) (by omega) (by omega), hr.1 h]
    simp
  · rw [if_neg h, if_pos (hr.2 h)]

end Go.Proofs.Ytlfphopfoicjpaa.Pure
