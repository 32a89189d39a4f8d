/- The plain statement of the law StreamSplits, over numbers and lists alone. Conditions: none. -/
import Derived.Test.YtlfphopfoicjpaaStmStreamSplits
namespace Go.Proofs.Ytlfphopfoicjpaa.Pure
open Go.RowKit Go.Proofs.Ytlfphopfoicjpaa.PSpl Go.Proofs.YtlfphopfoicjpaaW.PrintWords Go.Proofs.YtlfphopfoicjpaaW.PrintLast
set_option linter.unusedVariables false
set_option linter.unusedSimpArgs false
theorem wrap_id {x : Int} (h0 : -9223372036854775808 ≤ x) (h1 : x ≤ 9223372036854775807) : wrap64 x = x := by unfold wrap64; omega

/-- Every number of the list lies in a range. -/
def inB (a b : Int) (l : List Int) : Bool := l.all fun x => decide (a ≤ x ∧ x ≤ b)
theorem inB_cons (a b x : Int) (t : List Int) : inB a b (x :: t) = (decide (a ≤ x ∧ x ≤ b) && inB a b t) := rfl
theorem cons_dec (x y : Int) (s t : List Int) : decide (x :: s = y :: t) = (decide (x = y) && decide (s = t)) := by
  by_cases h1 : x = y <;> by_cases h2 : s = t <;> simp [h1, h2]
theorem rd_at (l : List Int) (i : Nat) (h : i < l.length) : rd l (i : Int) = l[i] := by
  simp [rd, h]
theorem within_l0 (a b : Int) (l : List Int) (hl : l.length ≤ 4611686018427387904) : ∀ (n i k : Nat), l.length = i + n → n < k → stream_within_int.l0 k a b l (l.length : Int) (i : Int) = some (inB a b (l.drop i))
  | n, i, 0, _, h => absurd h (by omega)
  | 0, i, k + 1, hi, _ => by
    unfold stream_within_int.l0
    rw [if_neg (by omega), List.drop_of_length_le (by omega)]
    rfl
  | n + 1, i, k + 1, hi, hk => by
    unfold stream_within_int.l0
    have hlt : i < l.length := by omega
    rw [if_pos (by omega), if_pos (by omega), if_pos (by omega), rd_at l i hlt, List.drop_eq_getElem_cons hlt]
    have ih := within_l0 a b l hl n (i + 1) k (by omega) (by omega)
    have e : wrap64 ((i : Int) + 1) = ((i + 1 : Nat) : Int) := by rw [wrap_id (by omega) (by omega)]; rfl
    rw [e, ih, inB_cons]
    by_cases h1 : l[i] < a
    · rw [if_pos h1, decide_eq_false (fun h => by have := h.1; clear e ih; omega)]; rfl
    · rw [if_neg h1]
      by_cases h2 : l[i] > b
      · rw [if_pos h2, decide_eq_false (fun h => by have := h.2; clear e ih; omega)]; rfl
      · rw [if_neg h2, decide_eq_true ⟨by clear e ih; omega, by clear e ih; omega⟩]; rfl
theorem within_eq (a b : Int) (l : List Int) (k : Nat) (hl : l.length ≤ 4611686018427387904) (hk : l.length < k) : stream_within_int.f k a b l = some (inB a b l) := by
  have := within_l0 a b l hl l.length 0 k (by omega) hk
  simpa [stream_within_int.f] using this
theorem between_eq (a b c : Int) : substationref15_between.f a b c = some (decide (b ≤ a ∧ a ≤ c)) := by
  unfold substationref15_between.f
  by_cases h : a ≥ b
  · rw [if_pos h]
    have : b ≤ a := h
    simp [this]
  · rw [if_neg h]
    have : ¬ b ≤ a := h
    simp [this]
theorem inB_one (a b x : Int) : inB a b [x] = decide (a ≤ x ∧ x ≤ b) := by simp [inB]
/-- What the check of a sample answers. -/
def chk (a b : Int) (l m : List Int) : Int :=
  if ¬ ((0 ≤ a ∧ a ≤ 999) ∧ (0 ≤ b ∧ b ≤ 599)) then 2 else if ¬ ((1 ≤ l.length ∧ l.length ≤ 8) ∧ m.length = l.length) then 3 else if inB (-16383) 16383 l = true ∧ inB 0 255 m = true then 0 else 2
theorem check_eq (a b : Int) (c : Bool) (l m : List Int) (k : Nat) (hl : l.length ≤ 4611686018427387904) (hm : m.length ≤ 4611686018427387904) (hk : l.length + 10 ≤ k) (hk' : m.length + 10 ≤ k) : stream_Check.f k a b c l m = some (chk a b l m) := by
  obtain ⟨k, rfl⟩ : ∃ j, k = j + 2 := ⟨k - 2, by omega⟩
  have w1 (k : Nat) (hk : 2 ≤ k) (a b x : Int) : stream_within_int.f k a b ([x] : List Int) = some (decide (a ≤ x ∧ x ≤ b)) := by
    rw [within_eq a b [x] k (by simp) (by simp; omega), inB_one]
  have j1 (x : Bool) : stream_Check.j1 (k + 1) x a b c l m = some (if x = true then 3 else if inB (-16383) 16383 l = true ∧ inB 0 255 m = true then 0 else 2) := by
    simp only [stream_Check.j1]
    by_cases hx : x = true
    · simp [hx]
    · rw [if_neg hx, if_neg hx, within_eq _ _ l k (by omega) (by omega)]
      simp only [Option.bind_some]
      by_cases h1 : inB (-16383) 16383 l = true
      · rw [if_pos h1, within_eq _ _ m k (by omega) (by omega)]
        simp only [Option.bind_some]
        by_cases h2 : inB 0 255 m = true <;> simp [h1, h2]
      · rw [if_neg h1]; simp [h1]
  have j0 (x : Bool) : stream_Check.j0 (k + 2) x a b c l m = some (if x = true then 2 else if ¬ ((1 ≤ l.length ∧ l.length ≤ 8) ∧ m.length = l.length) then 3 else if inB (-16383) 16383 l = true ∧ inB 0 255 m = true then 0 else 2) := by
    simp only [stream_Check.j0]
    by_cases hx : x = true
    · simp [hx]
    · rw [if_neg hx, if_neg hx, w1 _ (by omega)]
      simp only [Option.bind_some]
      by_cases h1 : (1 : Int) ≤ (l.length : Int) ∧ (l.length : Int) ≤ 8
      · rw [if_pos (decide_eq_true h1), j1]
        have h1' : 1 ≤ l.length ∧ l.length ≤ 8 := by omega
        by_cases h2 : m.length = l.length
        · have h2' : ((m.length : Int) != (l.length : Int)) = false := by simp [h2]
          rw [h2', if_neg (by simp : ¬ (false = true)), if_neg (fun hh : ¬ ((1 ≤ l.length ∧ l.length ≤ 8) ∧ m.length = l.length) => hh ⟨h1', h2⟩)]
        · have h2' : ((m.length : Int) != (l.length : Int)) = true := by simp; omega
          rw [h2', if_pos rfl, if_pos (by simp [h2])]
      · rw [if_neg (by simpa using h1), j1, if_pos rfl, if_pos (by omega)]
  unfold stream_Check.f
  rw [w1 _ (by omega)]
  simp only [Option.bind_some]
  unfold chk
  by_cases h1 : 0 ≤ a ∧ a ≤ 999
  · rw [if_pos (decide_eq_true h1), w1 _ (by omega)]
    simp only [Option.bind_some]
    rw [j0]
    by_cases h2 : 0 ≤ b ∧ b ≤ 599
    · simp only [h1, h2, and_self, decide_true, not_true_eq_false, if_false, Bool.not_true]
      rfl
    · have : (!decide (0 ≤ b ∧ b ≤ 599)) = true := by simp only [h2, decide_false, Bool.not_false]
      rw [this, if_pos rfl, if_pos (fun h => h2 h.2)]
  · rw [if_neg (by simpa using h1), j0, if_pos rfl, if_pos (fun h => h1 h.1)]
theorem refcheck_l0 (a b : Int) (c : Bool) (l m : List Int) (hl : l.length ≤ 4611686018427387904) (hm : m.length = l.length) : ∀ (n i k : Nat), l.length = i + n → n < k → substationref15_Check.l0 k (i : Int) a b c l m = some (if inB (-16383) 16383 (l.drop i) = true ∧ inB 0 255 (m.drop i) = true then 0 else 2)
  | n, i, 0, _, h => absurd h (by omega)
  | 0, i, k + 1, hi, _ => by
    unfold substationref15_Check.l0
    rw [if_neg (by omega), List.drop_of_length_le (by omega), List.drop_of_length_le (by omega)]
    rfl
  | n + 1, i, k + 1, hi, hk => by
    unfold substationref15_Check.l0
    have hlt : i < l.length := by omega
    have hlt' : i < m.length := by omega
    have ih := refcheck_l0 a b c l m hl hm n (i + 1) k (by omega) (by omega)
    have e : wrap64 ((i : Int) + 1) = ((i + 1 : Nat) : Int) := by rw [wrap_id (by omega) (by omega)]; rfl
    rw [if_pos (by omega), if_pos (by omega), rd_at l i hlt, between_eq, List.drop_eq_getElem_cons hlt]
    simp only [Option.bind_some]
    by_cases h1 : -16383 ≤ l[i] ∧ l[i] ≤ 16383
    · rw [if_pos (decide_eq_true h1), if_pos (by omega), rd_at m i hlt', between_eq, List.drop_eq_getElem_cons hlt']
      simp only [Option.bind_some]
      by_cases h2 : 0 ≤ m[i] ∧ m[i] ≤ 255
      · rw [if_pos (decide_eq_true h2), e, ih, inB_cons, inB_cons, decide_eq_true h1, decide_eq_true h2, Bool.true_and, Bool.true_and]
      · rw [if_neg (by simpa using h2), if_neg]
        intro h
        have := h.2
        rw [inB_cons, Bool.and_eq_true, decide_eq_true_eq] at this
        exact h2 this.1
    · rw [if_neg (by simpa using h1), if_neg]
      intro h
      have := h.1
      rw [inB_cons, Bool.and_eq_true, decide_eq_true_eq] at this
      exact h1 this.1
theorem refcheck_eq (a b : Int) (c : Bool) (l m : List Int) (k : Nat) (hl : l.length ≤ 4611686018427387904) (hm : m.length ≤ 4611686018427387904) (hk : l.length + 10 ≤ k) (hk' : m.length + 10 ≤ k) : substationref15_Check.f k a b c l m = some (chk a b l m) := by
  obtain ⟨k, rfl⟩ : ∃ j, k = j + 2 := ⟨k - 2, by omega⟩
  have j1 (x : Bool) (h : x = false → m.length = l.length) : substationref15_Check.j1 (k + 1) x a b c l m = some (if x = true then 3 else if inB (-16383) 16383 l = true ∧ inB 0 255 m = true then 0 else 2) := by
    simp only [substationref15_Check.j1]
    by_cases hx : x = true
    · simp [hx]
    · rw [if_neg hx, if_neg hx]
      exact refcheck_l0 a b c l m (by omega) (h (by simpa using hx)) l.length 0 k (by omega) (by omega)
  have j0 (x : Bool) : substationref15_Check.j0 (k + 2) x a b c l m = some (if x = true then 2 else if ¬ ((1 ≤ l.length ∧ l.length ≤ 8) ∧ m.length = l.length) then 3 else if inB (-16383) 16383 l = true ∧ inB 0 255 m = true then 0 else 2) := by
    simp only [substationref15_Check.j0]
    by_cases hx : x = true
    · simp [hx]
    · rw [if_neg hx, if_neg hx, between_eq]
      simp only [Option.bind_some]
      by_cases h1 : (1 : Int) ≤ (l.length : Int) ∧ (l.length : Int) ≤ 8
      · rw [if_pos (decide_eq_true h1), j1 _ (by simp; omega)]
        have h1' : 1 ≤ l.length ∧ l.length ≤ 8 := by omega
        by_cases h2 : m.length = l.length
        · have h2' : ((m.length : Int) != (l.length : Int)) = false := by simp [h2]
          rw [h2', if_neg (by simp : ¬ (false = true)), if_neg (fun hh : ¬ ((1 ≤ l.length ∧ l.length ≤ 8) ∧ m.length = l.length) => hh ⟨h1', h2⟩)]
        · have h2' : ((m.length : Int) != (l.length : Int)) = true := by simp; omega
          rw [h2', if_pos rfl, if_pos (by simp [h2])]
      · rw [if_neg (by simpa using h1), j1 _ (by simp), if_pos rfl, if_pos (by omega)]
  unfold substationref15_Check.f
  rw [between_eq]
  simp only [Option.bind_some]
  unfold chk
  by_cases h1 : 0 ≤ a ∧ a ≤ 999
  · rw [if_pos (decide_eq_true h1), between_eq]
    simp only [Option.bind_some]
    rw [j0]
    by_cases h2 : 0 ≤ b ∧ b ≤ 599
    · simp only [h1, h2, and_self, decide_true, not_true_eq_false, if_false, Bool.not_true]
      rfl
    · have : (!decide (0 ≤ b ∧ b ≤ 599)) = true := by simp only [h2, decide_false, Bool.not_false]
      rw [this, if_pos rfl, if_pos (fun h => h2 h.2)]
  · rw [if_neg (by simpa using h1), j0, if_pos rfl, if_pos (fun h => h1 h.1)]
theorem same_l0 (l m : List Int) (hl : l.length ≤ 4611686018427387904) (hm : m.length = l.length) : ∀ (n i k : Nat), l.length = i + n → n < k → substationref15_sameInts.l0 k l m (i : Int) = some (decide (l.drop i = m.drop i))
  | n, i, 0, _, h => absurd h (by omega)
  | 0, i, k + 1, hi, _ => by
    unfold substationref15_sameInts.l0
    rw [if_neg (by omega), List.drop_of_length_le (by omega), List.drop_of_length_le (by omega)]
    rfl
  | n + 1, i, k + 1, hi, hk => by
    unfold substationref15_sameInts.l0
    have hlt : i < l.length := by omega
    have hlt' : i < m.length := by omega
    have ih := same_l0 l m hl hm n (i + 1) k (by omega) (by omega)
    have e : wrap64 ((i : Int) + 1) = ((i + 1 : Nat) : Int) := by rw [wrap_id (by omega) (by omega)]; rfl
    rw [if_pos (by omega), if_pos (by omega), if_pos (by omega), rd_at l i hlt, rd_at m i hlt', List.drop_eq_getElem_cons hlt, List.drop_eq_getElem_cons hlt', e, ih, cons_dec]
    by_cases h : l[i] = m[i]
    · rw [if_pos h, decide_eq_true h]; rfl
    · rw [if_neg h, decide_eq_false h]; rfl
theorem sameInts_eq (l m : List Int) (k : Nat) (hl : l.length ≤ 4611686018427387904) (hk : l.length < k) : substationref15_sameInts.f k l m = some (decide (l = m)) := by
  unfold substationref15_sameInts.f
  by_cases h : l.length = m.length
  · rw [if_pos (by omega)]
    exact same_l0 l m hl h.symm l.length 0 k (by omega) hk
  · rw [if_neg (by omega)]
    have : l ≠ m := fun e => h (by rw [e])
    simp [this]
/-- Two samples alike. -/
def smB (a b : Int) (c : Bool) (l m : List Int) (a' b' : Int) (c' : Bool) (l' m' : List Int) : Bool := decide (a = a' ∧ b = b' ∧ c = c' ∧ l = l' ∧ m = m')
theorem refsame_eq (a b : Int) (c : Bool) (l m : List Int) (a' b' : Int) (c' : Bool) (l' m' : List Int) (k : Nat) (hl : l.length ≤ 4611686018427387904) (hk : l.length < k) (hm : m.length ≤ 4611686018427387904) (hk' : m.length < k) : substationref15_Same.f k a b c l m a' b' c' l' m' = some (smB a b c l m a' b' c' l' m') := by
  unfold substationref15_Same.f smB
  rw [sameInts_eq l l' k hl hk, sameInts_eq m m' k hm hk']
  by_cases h1 : a = a'
  · by_cases h2 : b = b'
    · by_cases h3 : c = c'
      · by_cases h4 : l = l'
        · by_cases h5 : m = m' <;> simp [h1, h2, h3, h4, h5]
        · simp [h1, h2, h3, h4]
      · have : (c == c') = false := by simpa using h3
        simp [h1, h2, h3, this]
    · simp [h1, h2]
  · simp [h1]
/-- The count of samples. -/
def cntI (a b : Int) : Int := if 0 ≤ a ∧ a ≤ 1099511627776 then (if 0 ≤ b ∧ b ≤ 11 then Int.tmod (wrap64 (wrap64 (12 * a) + b)) 600 else 0) else 0
theorem count_eq (a b : Int) (k : Nat) (hk : 2 ≤ k) : stream_Count.f k a b = some (cntI a b) := by
  have w1 (a b x : Int) : stream_within_int.f k a b ([x] : List Int) = some (decide (a ≤ x ∧ x ≤ b)) := by
    rw [within_eq a b [x] k (by simp) (by simp; omega), inB_one]
  unfold stream_Count.f cntI
  rw [w1, w1]
  simp only [Option.bind_some]
  by_cases h1 : 0 ≤ a ∧ a ≤ 1099511627776
  · by_cases h2 : 0 ≤ b ∧ b ≤ 11
    · simp only [h1, h2, and_self, decide_true, if_true]
    · rw [if_pos (decide_eq_true h1), if_neg (by simpa using h2), if_pos h1, if_neg h2]
  · rw [if_neg (by simpa using h1), if_neg h1]
theorem refcount_eq (a b : Int) : substationref15_Count.f a b = some (cntI a b) := by
  unfold substationref15_Count.f cntI
  rw [between_eq, between_eq]
  simp only [Option.bind_some]
  by_cases h1 : 0 ≤ a ∧ a ≤ 1099511627776
  · by_cases h2 : 0 ≤ b ∧ b ≤ 11
    · simp only [h1, h2, and_self, decide_true, if_true]
    · rw [if_pos (decide_eq_true h1), if_neg (by simpa using h2), if_pos h1, if_neg h2]
  · rw [if_neg (by simpa using h1), if_neg h1]
theorem known_up : ∀ n, LeO (substationlaw15_known.f 20) (substationlaw15_known.f (20 + n))
  | 0 => LeO.refl _
  | n + 1 => fun r h => substationlaw15_known.mono (20 + n) r (known_up n r h)
theorem known_20 : substationlaw15_known.f 20 = some true := by
  decide +kernel
theorem known_eq (k : Nat) (hk : 20 ≤ k) : substationlaw15_known.f k = some true := by
  obtain ⟨n, rfl⟩ : ∃ n, k = 20 + n := ⟨k - 20, by omega⟩
  exact known_up n _ known_20

theorem rd2_at (l : List (List Int)) (i : Nat) (h : i < l.length) : rd_L2 l (i : Int) = l[i] := by
  simp [rd_L2, h]
/-- One of the rows has not twelve values. -/
def shortB (l : List (List Int)) : Bool := l.any fun x => x.length != 12
theorem neq12 (x : List Int) : ((x.length : Int) != 12) = (x.length != 12) := by
  by_cases h : x.length = 12
  · simp [h]
  · have h1 : ((x.length : Int) != 12) = true := by simp; omega
    have h2 : (x.length != 12) = true := by simp [h]
    rw [h1, h2]
theorem index_l0 (l : List (List Int)) (hl : l.length ≤ 1000) : ∀ (n i k : Nat), l.length = i + n → n < k → ∃ j, slices_IndexFunc_int_int.l0 k l (l.length : Int) (i : Int) = some j ∧ decide (j ≥ 0) = shortB (l.drop i)
  | n, i, 0, _, h => absurd h (by omega)
  | 0, i, k + 1, hi, _ => by
    unfold slices_IndexFunc_int_int.l0
    rw [if_neg (by omega), List.drop_of_length_le (by omega)]
    exact ⟨-1, rfl, rfl⟩
  | n + 1, i, k + 1, hi, hk => by
    unfold slices_IndexFunc_int_int.l0
    have hlt : i < l.length := by omega
    obtain ⟨j, e1, e2⟩ := index_l0 l hl n (i + 1) k (by omega) (by omega)
    have e : wrap64 ((i : Int) + 1) = ((i + 1 : Nat) : Int) := by rw [wrap_id (by omega) (by omega)]; rfl
    rw [if_pos (by omega), if_pos (by omega), if_pos (by omega), rd2_at l i hlt, e, e1, List.drop_eq_getElem_cons hlt]
    unfold stream_Split_c1.f
    simp only [Option.bind_some]
    rw [neq12]
    by_cases h : (l[i].length != 12) = true
    · rw [if_pos h]
      refine ⟨_, rfl, ?_⟩
      have : shortB (l[i] :: l.drop (i + 1)) = true := by unfold shortB; rw [List.any_cons, h]; rfl
      rw [this]
      exact decide_eq_true (by clear e; omega)
    · rw [if_neg h]
      refine ⟨_, rfl, ?_⟩
      have : shortB (l[i] :: l.drop (i + 1)) = shortB (l.drop (i + 1)) := by unfold shortB; rw [List.any_cons, Bool.eq_false_iff.mpr h]; rfl
      rw [this, e2]
theorem contains_eq (l : List (List Int)) (a : Int) (k : Nat) (hl : l.length ≤ 1000) (hk : l.length < k) : slices_ContainsFunc_int_int.f k l a = some (shortB l) := by
  obtain ⟨j, e1, e2⟩ := index_l0 l hl l.length 0 k (by omega) hk
  unfold slices_ContainsFunc_int_int.f slices_IndexFunc_int_int.f
  have e1' : slices_IndexFunc_int_int.l0 k l (l.length : Int) 0 = some j := e1
  rw [e1']
  simp only [Option.bind_some]
  rw [e2]
  rfl
def to29 (x : S24) : S29 := ⟨x.f0, x.f1, x.f2, x.f3, x.f4⟩
/-- The values of all rows at an instant. -/
def col (l : List (List Int)) (j : Nat) : List Int := l.map fun x => rd x (j : Int)
theorem inner24 (x0 x1 : Int) (x2 : Bool) (l : List (List Int)) (acc : List S24) (j : Nat) (x31 u c : Int) (s : Bool) (Q : List Int) (hl : l.length ≤ 8) (hr : ∀ x ∈ l, x.length = 12) (hj : j < 12) : ∀ (n i K : Nat) (B : List Int), l.length = i + n → B.length = i → stream_Split.l1 (K + n + 1) x0 x1 x2 l acc (j : Int) x31 l (l.length : Int) (i : Int) u c s B Q = ((stream_Check.f K u c s (B ++ col (l.drop i) j) Q).bind fun t => (if t = 0 then (if acc.length < 1954687338268 then (stream_Split.l0 K x0 x1 x2 l (acc ++ [(⟨u, c, s, B ++ col (l.drop i) j, Q⟩ : S24)]) (wrap64 (x31 + 1))) else (none)) else (some (([] : List (S24)), t))))
  | 0, i, K, B, hi, hB => by
    simp only [stream_Split.l1]
    rw [if_neg (by omega), List.drop_of_length_le (by omega)]
    simp only [col, List.map_nil, List.append_nil]
  | n + 1, i, K, B, hi, hB => by
    have hlt : i < l.length := by omega
    have h12 := hr _ (List.getElem_mem hlt)
    have e : wrap64 ((i : Int) + 1) = ((i + 1 : Nat) : Int) := by rw [wrap_id (by omega) (by omega)]; rfl
    obtain ⟨q, hq⟩ : ∃ q, q = K + n + 1 := ⟨_, rfl⟩
    rw [show K + (n + 1) + 1 = q + 1 by omega]
    simp only [stream_Split.l1]
    rw [e, rd2_at l i hlt]
    clear e
    rw [if_pos (by omega), if_pos (by omega), if_pos (by omega), if_pos (by omega), if_pos (by omega), if_pos (by omega)]
    rw [hq, inner24 x0 x1 x2 l acc j x31 u c s Q hl hr hj n (i + 1) K (B ++ [rd l[i] (j : Int)]) (by omega) (by simp [hB]), List.drop_eq_getElem_cons hlt]
    simp only [col, List.map_cons, List.append_assoc, List.cons_append, List.nil_append]
theorem inner29 (x0 x1 : Int) (x2 : Bool) (l : List (List Int)) (acc : List S29) (j : Nat) (u c : Int) (s : Bool) (hl : l.length ≤ 8) (hr : ∀ x ∈ l, x.length = 12) (hj : j < 12) : ∀ (n i K : Nat) (B Q : List Int), l.length = i + n → B.length = i → Q.length = i → substationref15_Split.l2 (K + n + 1) x0 x1 x2 l acc (j : Int) (i : Int) u c s B Q = ((substationref15_Check.f K u c s (B ++ col (l.drop i) j) (Q ++ List.replicate n 0)).bind fun t => (if t = 0 then (if acc.length < 1954687338268 then (substationref15_Split.l1 K x0 x1 x2 l (acc ++ [(⟨u, c, s, B ++ col (l.drop i) j, Q ++ List.replicate n 0⟩ : S29)]) (wrap64 ((j : Int) + 1))) else (none)) else (some (([] : List (S29)), t))))
  | 0, i, K, B, Q, hi, hB, hQ => by
    simp only [substationref15_Split.l2]
    rw [if_neg (by omega), List.drop_of_length_le (by omega)]
    simp only [col, List.map_nil, List.append_nil, List.replicate_zero]
  | n + 1, i, K, B, Q, hi, hB, hQ => by
    have hlt : i < l.length := by omega
    have h12 := hr _ (List.getElem_mem hlt)
    have e : wrap64 ((i : Int) + 1) = ((i + 1 : Nat) : Int) := by rw [wrap_id (by omega) (by omega)]; rfl
    obtain ⟨q, hq⟩ : ∃ q, q = K + n + 1 := ⟨_, rfl⟩
    rw [show K + (n + 1) + 1 = q + 1 by omega]
    simp only [substationref15_Split.l2]
    rw [e, rd2_at l i hlt]
    clear e
    rw [if_pos (by omega), if_pos (by omega), if_pos (by omega), if_pos (by omega), if_pos (by omega), if_pos (by omega)]
    rw [hq, inner29 x0 x1 x2 l acc j u c s hl hr hj n (i + 1) K (B ++ [rd l[i] (j : Int)]) (Q ++ [0]) (by omega) (by simp [hB]) (by simp [hQ]), List.drop_eq_getElem_cons hlt]
    simp only [col, List.map_cons, List.append_assoc, List.cons_append, List.nil_append, List.replicate_succ]
theorem outer (x0 x1 : Int) (x2 : Bool) (l : List (List Int)) (hl : l.length ≤ 8) (hr : ∀ x ∈ l, x.length = 12) : ∀ (n j K K' : Nat) (acc : List S24), j + n = 12 → 30 * n + 300 ≤ K → 30 * n + 300 ≤ K' → acc.length ≤ j → (∀ x ∈ acc, x.f3.length ≤ 8 ∧ x.f4.length ≤ 8) →
    ∃ la e, stream_Split.l0 K x0 x1 x2 l acc (j : Int) = some (la, e) ∧ substationref15_Split.l1 K' x0 x1 x2 l (acc.map to29) (j : Int) = some (la.map to29, e) ∧ la.length ≤ 12 ∧ ∀ x ∈ la, x.f3.length ≤ 8 ∧ x.f4.length ≤ 8
  | 0, j, K, K', acc, hj, hK, hK', ha, hp => by
    obtain ⟨K, rfl⟩ : ∃ q, K = q + 1 := ⟨K - 1, by omega⟩
    obtain ⟨K', rfl⟩ : ∃ q, K' = q + 1 := ⟨K' - 1, by omega⟩
    refine ⟨acc, 0, ?_, ?_, by omega, hp⟩
    · simp only [stream_Split.l0]; rw [if_neg (by omega)]
    · simp only [substationref15_Split.l1]; rw [if_neg (by omega)]
  | n + 1, j, K, K', acc, hj, hK, hK', ha, hp => by
    obtain ⟨K, rfl⟩ : ∃ q, K = q + l.length + 1 + 1 := ⟨K - l.length - 2, by omega⟩
    obtain ⟨K', rfl⟩ : ∃ q, K' = q + l.length + 1 + 1 := ⟨K' - l.length - 2, by omega⟩
    have e : wrap64 ((j : Int) + 1) = ((j + 1 : Nat) : Int) := by rw [wrap_id (by omega) (by omega)]; rfl
    have i24 := inner24 x0 x1 x2 l acc j (j : Int) x0 (cntI x1 (j : Int)) x2 (List.replicate l.length 0) hl hr (by omega) l.length 0 K [] (by omega) rfl
    have i29 := inner29 x0 x1 x2 l (acc.map to29) j x0 (cntI x1 (j : Int)) x2 hl hr (by omega) l.length 0 K' [] [] (by omega) rfl rfl
    simp only [List.nil_append, List.drop_zero] at i24 i29
    have c3 : (col l j).length = l.length := by simp [col]
    rw [check_eq _ _ _ _ _ K (by omega) (by simp; omega) (by omega) (by simp; omega)] at i24
    rw [refcheck_eq _ _ _ _ _ K' (by omega) (by simp; omega) (by omega) (by simp; omega)] at i29
    simp only [Option.bind_some] at i24 i29
    rw [e] at i24 i29
    simp only [stream_Split.l0, substationref15_Split.l1]
    rw [if_pos (by omega), if_pos (by omega), count_eq _ _ _ (by omega), refcount_eq]
    simp only [Option.bind_some]
    rw [if_pos (by omega), if_pos (by omega), Int.toNat_natCast]
    have z : ((0 : Nat) : Int) = 0 := rfl
    rw [z] at i24 i29
    rw [i24, i29]
    by_cases h : chk x0 (cntI x1 (j : Int)) (col l j) (List.replicate l.length 0) = 0
    · rw [if_pos h, if_pos h, if_pos (by omega), if_pos (by simp; omega)]
      have := outer x0 x1 x2 l hl hr n (j + 1) K K' (acc ++ [⟨x0, cntI x1 (j : Int), x2, col l j, List.replicate l.length 0⟩]) (by omega) (by omega) (by omega) (by simp; omega) (by
        intro x hx
        rcases List.mem_append.mp hx with hx | hx
        · exact hp x hx
        · obtain rfl := List.mem_singleton.mp hx
          exact ⟨by show (col l j).length ≤ 8; omega, by show (List.replicate l.length (0 : Int)).length ≤ 8; simp; omega⟩)
      rw [List.map_append] at this
      exact this
    · rw [if_neg h, if_neg h]
      exact ⟨[], _, rfl, rfl, by simp, by simp⟩
theorem ref_short (x0 x1 : Int) (x2 : Bool) (l : List (List Int)) (hl : l.length ≤ 1000) : ∀ (n i k : Nat), l.length = i + n → n < k → substationref15_Split.l0 (k + 1) x0 x1 x2 l (i : Int) = if shortB (l.drop i) = true then some ([], 3) else substationref15_Split.l1 (k - n) x0 x1 x2 l [] 0
  | n, i, 0, _, h => absurd h (by omega)
  | 0, i, k + 1, hi, _ => by
    simp only [substationref15_Split.l0]
    rw [if_neg (by omega), List.drop_of_length_le (by omega), if_neg (by simp [shortB])]
    rfl
  | n + 1, i, k + 1, hi, hk => by
    obtain ⟨q, hq⟩ : ∃ q, q = k + 1 := ⟨_, rfl⟩
    rw [show k + 1 + 1 = q + 1 by omega]
    simp only [substationref15_Split.l0]
    have hlt : i < l.length := by omega
    have ih := ref_short x0 x1 x2 l hl n (i + 1) k (by omega) (by omega)
    have e : wrap64 ((i : Int) + 1) = ((i + 1 : Nat) : Int) := by rw [wrap_id (by omega) (by omega)]; rfl
    rw [if_pos (by omega), if_pos (by omega), rd2_at l i hlt, e, hq, ih, List.drop_eq_getElem_cons hlt, show k + 1 - (n + 1) = k - n by omega]
    by_cases h : l[i].length = 12
    · have h' : ((l[i].length : Int)) = 12 := by omega
      rw [if_pos h']
      have : shortB (l[i] :: l.drop (i + 1)) = shortB (l.drop (i + 1)) := by unfold shortB; rw [List.any_cons]; simp [h]
      rw [this]
    · have h' : ¬ ((l[i].length : Int)) = 12 := by omega
      rw [if_neg h']
      have : shortB (l[i] :: l.drop (i + 1)) = true := by unfold shortB; rw [List.any_cons]; simp [h]
      rw [if_pos this]
theorem split_both (x0 x1 : Int) (x2 : Bool) (l : List (List Int)) (hl : l.length ≤ 20) : ∃ la e, stream_Split.f 1000 x0 x1 x2 l = some (la, e) ∧ substationref15_Split.f 1000 x0 x1 x2 l = some (la.map to29, e) ∧ la.length ≤ 12 ∧ ∀ x ∈ la, x.f3.length ≤ 8 ∧ x.f4.length ≤ 8 := by
  have w1 (a b x : Int) : stream_within_int.f 1000 a b ([x] : List Int) = some (decide (a ≤ x ∧ x ≤ b)) := by
    rw [within_eq a b [x] 1000 (by simp) (by simp), inB_one]
  unfold stream_Split.f substationref15_Split.f
  rw [w1, w1, between_eq, between_eq]
  simp only [Option.bind_some]
  by_cases h1 : 0 ≤ x1 ∧ x1 ≤ 1099511627776
  · rw [if_pos (decide_eq_true h1), if_pos (decide_eq_true h1)]
    by_cases h2 : 1 ≤ (l.length : Int) ∧ (l.length : Int) ≤ 8
    · rw [if_pos (decide_eq_true h2), if_pos (decide_eq_true h2), contains_eq l _ 1000 (by omega) (by omega)]
      simp only [Option.bind_some]
      have rs := ref_short x0 x1 x2 l (by omega) l.length 0 999 (by omega) (by omega)
      have z : ((0 : Nat) : Int) = 0 := rfl
      rw [z, List.drop_zero] at rs
      rw [rs]
      simp only [stream_Split.j0]
      by_cases h3 : shortB l = true
      · rw [if_pos h3, if_pos h3]
        exact ⟨[], 3, rfl, rfl, by simp, by simp⟩
      · rw [if_neg h3, if_neg h3]
        refine outer x0 x1 x2 l (by omega) (fun x hx => ?_) 12 0 999 (999 - l.length) [] rfl (by omega) (by omega) (by simp) (by simp)
        by_cases hx12 : x.length = 12
        · exact hx12
        · exact absurd (List.any_eq_true.mpr ⟨x, hx, by simp [hx12]⟩) h3
    · rw [if_neg (by simpa using h2), if_neg (by simpa using h2)]
      simp only [stream_Split.j0]
      exact ⟨[], 3, rfl, rfl, by simp, by simp⟩
  · rw [if_neg (by simpa using h1), if_neg (by simpa using h1)]
    exact ⟨[], 1, rfl, rfl, by simp, by simp⟩
theorem StreamSplits : StreamSplits_Pure := by
  intro a0 a1 l2 _ _ _
  refine ⟨1000, ?_⟩
  unfold substationlaw15_StreamSplits.f
  rw [known_eq _ (by omega)]
  simp only [Option.bind_some, if_true]
  by_cases hl : 20 < l2.length
  · rw [if_pos hl]
  · rw [if_neg hl]
    obtain ⟨la, e, e1, e2, h12, hp⟩ := split_both a0 a1 (Int.tmod a1 2 == 0) l2 (by omega)
    rw [e1, e2]
    simp only [Option.bind_some]
    rw [if_pos]
    refine ⟨trivial, by simp, by omega, fun i hi => ?_⟩
    have r24 : rd_T24 la (i : Int) = la[i] := by simp [rd_T24, hi]
    have r29 : rd_T29 (la.map to29) (i : Int) = to29 la[i] := by simp [rd_T29, hi]
    have hq := hp _ (List.getElem_mem hi)
    rw [r24, r29]
    show substationref15_Same.f 1000 la[i].f0 la[i].f1 la[i].f2 la[i].f3 la[i].f4 la[i].f0 la[i].f1 la[i].f2 la[i].f3 la[i].f4 = some true
    rw [refsame_eq _ _ _ _ _ _ _ _ _ _ 1000 (by omega) (by omega) (by omega) (by omega)]
    simp [smB]

end Go.Proofs.Ytlfphopfoicjpaa.Pure
