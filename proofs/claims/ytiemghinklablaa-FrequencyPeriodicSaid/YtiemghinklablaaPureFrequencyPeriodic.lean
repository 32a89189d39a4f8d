/- The plain statement of the law FrequencyPeriodic, over numbers and lists alone. Conditions: none. -/
import Derived.Test.YtiemghinklablaaStmFrequencyPeriodic
namespace Go.Proofs.Ytiemghinklablaa.Pure
open Go.RowKit Go.Proofs.Ytiemghinklablaa.PAll Go.Proofs.YtiemghinklablaaW.PrintWords Go.Proofs.YtiemghinklablaaW.PrintLast
set_option linter.unusedVariables false
set_option linter.unusedSimpArgs false
theorem wid {x : Int} (h0 : -9223372036854775808 ≤ x) (h1 : x ≤ 9223372036854775807) : wrap64 x = x := by unfold wrap64; omega
theorem tmod_range (x b : Int) (hb : 0 < b) : -b < Int.tmod x b ∧ Int.tmod x b < b := by
  have h := @Int.tmod_eq_emod x b
  have e1 := Int.emod_nonneg x (show b ≠ 0 by omega)
  have e2 := Int.emod_lt_of_pos x hb
  by_cases c : 0 ≤ x ∨ b ∣ x
  · rw [if_pos c] at h
    omega
  · rw [if_neg c] at h
    have : x % b ≠ 0 := fun e => c (.inr (Int.dvd_of_emod_eq_zero e))
    omega
/-- The law's own remainder lies in its range. -/
theorem within_eq (a b : Int) (hb : 1 ≤ b) (hb2 : b ≤ 100000) : ∃ r, substationlaw25_within.f a b = some r ∧ 0 ≤ r ∧ r < b := by
  unfold substationlaw25_within.f
  rw [if_neg (by omega)]
  obtain ⟨t1, t2⟩ := tmod_range a b (by omega)
  by_cases hn : Int.tmod a b < 0
  · rw [if_pos hn]
    exact ⟨_, rfl, by rw [wid (by omega) (by omega)]; omega, by rw [wid (by omega) (by omega)]; omega⟩
  · rw [if_neg hn]
    exact ⟨_, rfl, by omega, t2⟩
theorem mulB {x y A B : Int} (hx : 0 ≤ x) (hA : x ≤ A) (hy : 0 ≤ y) (hB : y ≤ B) : 0 ≤ x * y ∧ x * y ≤ A * B := ⟨Int.mul_nonneg hx hy, Int.mul_le_mul hA hB hy (by omega)⟩
theorem gc_pos' (a b : Int) (h : 0 < b) : 0 < gc a b := gc_pos a b h
theorem gc_dvd_l (a b : Int) : gc a b ∣ a := Int.gcd_dvd_left ..
theorem gc_dvd_r (a b : Int) : gc a b ∣ b := Int.gcd_dvd_right ..
/-- What a crossing is made of. -/
structure Pt (p : S30) : Prop where
  k0 : 0 ≤ p.f0
  k1 : p.f0 ≤ 238
  n1 : 1 ≤ p.f1
  nd : p.f1 ≤ p.f2
  d1 : p.f2 ≤ 32766
theorem crAt_pt {l : List Int} (h : fineB l = true) {i : Nat} (hi : i + 1 < l.length) {p : S30} (hp : crAt l i = some p) : Pt p ∧ p.f0 = (i : Int) := by
  unfold crAt at hp
  split at hp
  · rename_i hc
    have ha := fine_rd h (i : Int)
    have hb := fine_rd h ((i + 1 : Nat) : Int)
    have hl := (fine_len h).1
    cases hp
    generalize rd l (i : Int) = x at *
    generalize rd l ((i + 1 : Nat) : Int) = y at *
    have hg := gc_pos (-x) (y - x) (by omega)
    have d1 := gc_dvd_l (-x) (y - x)
    have d2 := gc_dvd_r (-x) (y - x)
    generalize gc (-x) (y - x) = g at *
    obtain ⟨u, hu⟩ := d1
    obtain ⟨v, hv⟩ := d2
    have e1 : -x / g = u := by rw [hu]; exact Int.mul_ediv_cancel_left u (by omega)
    have e2 : (y - x) / g = v := by rw [hv]; exact Int.mul_ediv_cancel_left v (by omega)
    have u1 : 1 ≤ u := by
      rcases Int.lt_or_le 0 u with h | h
      · omega
      · have := Int.mul_nonpos_of_nonneg_of_nonpos (by omega : 0 ≤ g) h; omega
    have uv : u ≤ v := by
      rcases Int.lt_or_le v u with h | h
      · have : g * v < g * u := Int.mul_lt_mul_of_pos_left h hg
        omega
      · exact h
    have vd : v ≤ 32766 := by
      have : v ≤ g * v := by have := Int.mul_le_mul_of_nonneg_right (show (1 : Int) ≤ g by omega) (by omega : 0 ≤ v); omega
      omega
    refine ⟨⟨?_, ?_, ?_, ?_, ?_⟩, rfl⟩
    · show (0 : Int) ≤ (i : Int); omega
    · show (i : Int) ≤ 238; omega
    · show 1 ≤ -x / g; rw [e1]; exact u1
    · show -x / g ≤ (y - x) / g; rw [e1, e2]; exact uv
    · show (y - x) / g ≤ 32766; rw [e2]; exact vd
  · cases hp
theorem mem_upto {l : List Int} {i : Nat} {p : S30} (h : p ∈ upto l i) : ∃ j, j < i ∧ crAt l j = some p := by
  unfold upto at h
  obtain ⟨j, hj, hp⟩ := List.mem_filterMap.1 h
  exact ⟨j, by simpa using hj, hp⟩
theorem cross_pt {l : List Int} (h : fineB l = true) {p : S30} (hp : p ∈ cross l) : Pt p := by
  obtain ⟨j, hj, hc⟩ := mem_upto hp
  exact (crAt_pt h (by omega) hc).1
/-- The crossings are in ascending order. -/
theorem upto_sorted {l : List Int} (h : fineB l = true) (i : Nat) (hi : i ≤ l.length - 1) : (upto l i).Pairwise (fun p q => p.f0 < q.f0) := by
  induction i with
  | zero => exact List.Pairwise.nil
  | succ i ih =>
    rw [upto_succ]
    refine List.pairwise_append.2 ⟨ih (by omega), ?_, ?_⟩
    · cases crAt l i <;> simp
    · intro p hp q hq
      obtain ⟨j, hj, hc⟩ := mem_upto hp
      cases hc2 : crAt l i with
      | none => rw [hc2] at hq; cases hq
      | some r =>
        rw [hc2] at hq
        simp only [Option.toList_some, List.mem_singleton] at hq
        subst hq
        have e1 := (crAt_pt h (by omega) hc).2
        have e2 := (crAt_pt h (by omega) hc2).2
        omega
theorem cross_len (l : List Int) (h : fineB l = true) : (cross l).length ≤ 239 := by
  have := upto_le l (l.length - 1)
  have := (fine_len h).1
  unfold cross
  omega
theorem rd30_mem (xs : List S30) (i : Nat) (h : i < xs.length) : rd_T30 xs (i : Int) = xs[i] := by simp [rd_T30, h]
/-- numerator and denominator of the mean period, and their divisor -/
def pnum (a b : S30) : Int := (b.f0 - a.f0) * a.f2 * b.f2 + b.f1 * a.f2 - a.f1 * b.f2
def pden (a b : S30) (n : Nat) : Int := a.f2 * b.f2 * ((n : Int) - 1)
theorem pbounds {a b : S30} {n : Nat} (ha : Pt a) (hb : Pt b) (hk : a.f0 < b.f0) (hn : 2 ≤ n) (hn2 : n ≤ 239) :
    (0 < pnum a b ∧ pnum a b ≤ 300000000000) ∧ (0 < pden a b n ∧ pden a b n ≤ 300000000000) ∧
    wrap64 (wrap64 (wrap64 (wrap64 (wrap64 (b.f0 - a.f0) * a.f2) * b.f2) + wrap64 (b.f1 * a.f2)) - wrap64 (a.f1 * b.f2)) = pnum a b ∧
    wrap64 (wrap64 (a.f2 * b.f2) * wrap64 ((n : Int) - 1)) = pden a b n := by
  obtain ⟨ak0, ak1, an1, and_, ad1⟩ := ha
  obtain ⟨bk0, bk1, bn1, bnd, bd1⟩ := hb
  have w1 : wrap64 (b.f0 - a.f0) = b.f0 - a.f0 := wid (by omega) (by omega)
  have m1 := mulB (x := b.f0 - a.f0) (y := a.f2) (A := 238) (B := 32766) (by omega) (by omega) (by omega) (by omega)
  have w2 : wrap64 ((b.f0 - a.f0) * a.f2) = (b.f0 - a.f0) * a.f2 := wid (by omega) (by omega)
  have m2 := mulB (x := (b.f0 - a.f0) * a.f2) (y := b.f2) (A := 238 * 32766) (B := 32766) m1.1 m1.2 (by omega) (by omega)
  have w3 : wrap64 ((b.f0 - a.f0) * a.f2 * b.f2) = (b.f0 - a.f0) * a.f2 * b.f2 := wid (by omega) (by omega)
  have m3 := mulB (x := b.f1) (y := a.f2) (A := 32766) (B := 32766) (by omega) (by omega) (by omega) (by omega)
  have w4 : wrap64 (b.f1 * a.f2) = b.f1 * a.f2 := wid (by omega) (by omega)
  have m4 := mulB (x := a.f1) (y := b.f2) (A := 32766) (B := 32766) (by omega) (by omega) (by omega) (by omega)
  have w5 : wrap64 (a.f1 * b.f2) = a.f1 * b.f2 := wid (by omega) (by omega)
  have m5 := mulB (x := a.f2) (y := b.f2) (A := 32766) (B := 32766) (by omega) (by omega) (by omega) (by omega)
  have w6 : wrap64 (a.f2 * b.f2) = a.f2 * b.f2 := wid (by omega) (by omega)
  have w7 : wrap64 ((n : Int) - 1) = (n : Int) - 1 := wid (by omega) (by omega)
  have m6 := mulB (x := a.f2 * b.f2) (y := (n : Int) - 1) (A := 32766 * 32766) (B := 238) m5.1 m5.2 (by omega) (by omega)
  have w8 : wrap64 (a.f2 * b.f2 * ((n : Int) - 1)) = a.f2 * b.f2 * ((n : Int) - 1) := wid (by omega) (by omega)
  have low : a.f2 * b.f2 ≤ (b.f0 - a.f0) * a.f2 * b.f2 := by
    have : 1 * a.f2 ≤ (b.f0 - a.f0) * a.f2 := Int.mul_le_mul_of_nonneg_right (by omega) (by omega)
    have := Int.mul_le_mul_of_nonneg_right this (show 0 ≤ b.f2 by omega)
    rwa [Int.one_mul] at this
  have low2 : a.f1 * b.f2 ≤ a.f2 * b.f2 := Int.mul_le_mul_of_nonneg_right (by omega) (by omega)
  have low3 : 1 * 1 ≤ b.f1 * a.f2 := Int.mul_le_mul (by omega) (by omega) (by omega) (by omega)
  have low4 : 1 * 1 ≤ a.f2 * b.f2 := Int.mul_le_mul (by omega) (by omega) (by omega) (by omega)
  have low5 : 1 * 1 ≤ a.f2 * b.f2 * ((n : Int) - 1) := Int.mul_le_mul (by omega) (by omega) (by omega) (by omega)
  unfold pnum pden
  rw [w1, w2, w3, w4, w5, w6, w7, w8]
  generalize (b.f0 - a.f0) * a.f2 * b.f2 = X at *
  generalize b.f1 * a.f2 = Y at *
  generalize a.f1 * b.f2 = Z at *
  generalize a.f2 * b.f2 * ((n : Int) - 1) = U at *
  generalize a.f2 * b.f2 = V at *
  have w9 : wrap64 (X + Y) = X + Y := wid (by omega) (by omega)
  have w10 : wrap64 (X + Y - Z) = X + Y - Z := wid (by omega) (by omega)
  rw [w9, w10]
  exact ⟨⟨by omega, by omega⟩, ⟨by omega, by omega⟩, rfl, rfl⟩
/-- What Period answers. -/
def per (l : List Int) : Int × Int × Int :=
  if fineB l = true then
    (if (cross l).length < 2 then (0, 0, 18)
     else (pnum (rd_T30 (cross l) 0) (rd_T30 (cross l) (((cross l).length - 1 : Nat) : Int)) / gc (pnum (rd_T30 (cross l) 0) (rd_T30 (cross l) (((cross l).length - 1 : Nat) : Int))) (pden (rd_T30 (cross l) 0) (rd_T30 (cross l) (((cross l).length - 1 : Nat) : Int)) (cross l).length),
           pden (rd_T30 (cross l) 0) (rd_T30 (cross l) (((cross l).length - 1 : Nat) : Int)) (cross l).length / gc (pnum (rd_T30 (cross l) 0) (rd_T30 (cross l) (((cross l).length - 1 : Nat) : Int))) (pden (rd_T30 (cross l) 0) (rd_T30 (cross l) (((cross l).length - 1 : Nat) : Int)) (cross l).length), 0))
  else (0, 0, 1)
theorem ends_pt {l : List Int} (h : fineB l = true) (h2 : 2 ≤ (cross l).length) : Pt (rd_T30 (cross l) 0) ∧ Pt (rd_T30 (cross l) (((cross l).length - 1 : Nat) : Int)) ∧ (rd_T30 (cross l) 0).f0 < (rd_T30 (cross l) (((cross l).length - 1 : Nat) : Int)).f0 := by
  have e0 : rd_T30 (cross l) 0 = (cross l)[0] := rd30_mem (cross l) 0 (by omega)
  have e1 := rd30_mem (cross l) ((cross l).length - 1) (by omega)
  rw [e0, e1]
  refine ⟨cross_pt h (List.getElem_mem _), cross_pt h (List.getElem_mem _), ?_⟩
  exact List.pairwise_iff_getElem.1 (upto_sorted h (l.length - 1) (Nat.le_refl _)) 0 ((cross l).length - 1) (by unfold cross at h2; omega) (by unfold cross at h2 ⊢; omega) (by omega)
/-- A fraction in lowest terms, as the code divides it. -/
theorem low_terms {x y : Int} (hx : 0 < x) (hx2 : x ≤ 300000000000) (hy : 0 < y) (hy2 : y ≤ 300000000000) :
    gc x y ≠ 0 ∧ wrap64 (Int.tdiv x (gc x y)) = x / gc x y ∧ wrap64 (Int.tdiv y (gc x y)) = y / gc x y ∧ 1 ≤ x / gc x y ∧ x / gc x y ≤ x ∧ 1 ≤ y / gc x y ∧ y / gc x y ≤ y := by
  have hg := gc_pos x y hy
  have d1 := gc_dvd_l x y
  have d2 := gc_dvd_r x y
  generalize gc x y = g at *
  have b1 : x / g ≤ x := Int.ediv_le_self _ (by omega)
  have b2 : y / g ≤ y := Int.ediv_le_self _ (by omega)
  have c1 : 1 ≤ x / g := by
    have := Int.le_of_dvd hx d1
    exact Int.le_ediv_of_mul_le hg (by omega)
  have c2 : 1 ≤ y / g := by
    have := Int.le_of_dvd hy d2
    exact Int.le_ediv_of_mul_le hg (by omega)
  rw [Int.tdiv_eq_ediv_of_nonneg (by omega), Int.tdiv_eq_ediv_of_nonneg (by omega)]
  exact ⟨by omega, wid (by omega) (by omega), wid (by omega) (by omega), c1, b1, c2, b2⟩
theorem per_eq (l : List Int) (k : Nat) (hk : 300000000000 < k) : frequency_Period.f k l = some (per l) := by
  unfold frequency_Period.f frequency_Crossings.f per
  simp only [Option.bind_some]
  cases hf : fineB l with
  | false => simp
  | true =>
    simp only [if_true]
    by_cases h2 : (cross l).length < 2
    · have : ((cross l).length : Int) < 2 := by omega
      rw [if_pos this, if_pos h2]
    · rw [if_neg (by omega), if_neg h2]
      have hn := cross_len l hf
      have ew : wrap64 (((cross l).length : Int) - 1) = (((cross l).length - 1 : Nat) : Int) := by rw [wid (by omega) (by omega)]; omega
      obtain ⟨p1, p2, p3⟩ := ends_pt hf (by omega)
      have hb := pbounds (n := (cross l).length) p1 p2 p3 (by omega) hn
      obtain ⟨⟨b1, b2⟩, ⟨b3, b4⟩, b5, b6⟩ := hb
      rw [ew] at b6 ⊢
      rw [if_pos (by omega), if_pos (Int.natCast_nonneg _), if_pos (by omega)]
      rw [b5, b6, divisor_gc _ _ (by omega) (by omega) k (by omega)]
      simp only [Option.bind_some]
      obtain ⟨g0, g1, g2, _⟩ := low_terms b1 b2 b3 b4
      rw [if_neg g0, g1, g2]
/-- Of a period that is one: what its numbers are. -/
theorem per_ok {l : List Int} (h : (per l).2.2 = 0) : (1 ≤ (per l).1 ∧ (per l).1 ≤ 300000000000) ∧ (1 ≤ (per l).2.1 ∧ (per l).2.1 ≤ 300000000000) := by
  unfold per at h ⊢
  split at h
  · rename_i hf
    rw [if_pos hf]
    split at h
    · cases h
    · rename_i h2
      rw [if_neg h2]
      obtain ⟨p1, p2, p3⟩ := ends_pt hf (by omega)
      obtain ⟨⟨b1, b2⟩, ⟨b3, b4⟩, _⟩ := pbounds (n := (cross l).length) p1 p2 p3 (by omega) (cross_len l hf)
      obtain ⟨_, _, _, c1, c2, c3, c4⟩ := low_terms b1 b2 b3 b4
      exact ⟨⟨c1, Int.le_trans c2 b2⟩, ⟨c3, Int.le_trans c4 b4⟩⟩
  · cases h
def mhz (l : List Int) : Int × Int := if (per l).2.2 = 0 then ((1200000 * (per l).2.1 + (per l).1) / (2 * (per l).1), 0) else (0, (per l).2.2)
theorem mhz_eq (l : List Int) (k : Nat) (hk : 300000000000 < k) : frequency_Millihertz.f k l = some (mhz l) := by
  unfold frequency_Millihertz.f mhz
  rw [per_eq l k hk]
  simp only [Option.bind_some]
  by_cases h : (per l).2.2 = 0
  · rw [if_pos h, if_pos h]
    obtain ⟨⟨a1, a2⟩, b1, b2⟩ := per_ok h
    generalize (per l).1 = p at *
    generalize (per l).2.1 = q at *
    have w1 : wrap64 (2 * p) = 2 * p := wid (by omega) (by omega)
    have w2 : wrap64 (1200000 * q) = 1200000 * q := wid (by omega) (by omega)
    have w3 : wrap64 (1200000 * q + p) = 1200000 * q + p := wid (by omega) (by omega)
    rw [w1, w2, w3, if_neg (by omega), Int.tdiv_eq_ediv_of_nonneg (by omega)]
    have c1 : 0 ≤ (1200000 * q + p) / (2 * p) := Int.ediv_nonneg (by omega) (by omega)
    have c2 : (1200000 * q + p) / (2 * p) ≤ 1200000 * q + p := Int.ediv_le_self _ (by omega)
    rw [wid (by omega) (by omega)]
  · rw [if_neg h, if_neg h]
theorem known_eq (k : Nat) (hk : 300000000000 < k) : substationlaw25_known.f k = some true := by
  unfold substationlaw25_known.f
  simp only [Option.bind_some]
  rw [mhz_eq _ k hk]
  have hc : cross [(-1), 1, 1, 1, 1, 1, 1, (-1), (-1), (-1), (-1), (-1), (-1), 1] = [⟨0, 1, 2⟩, ⟨12, 1, 2⟩] := by rfl
  have hf : fineB [(-1), 1, 1, 1, 1, 1, 1, (-1), (-1), (-1), (-1), (-1), (-1), 1] = true := by decide
  have hp : per [(-1), 1, 1, 1, 1, 1, 1, (-1), (-1), (-1), (-1), (-1), (-1), 1] = (12, 1, 0) := by
    unfold per
    rw [if_pos hf, hc]
    rfl
  have hm : mhz [(-1), 1, 1, 1, 1, 1, 1, (-1), (-1), (-1), (-1), (-1), (-1), 1] = (50000, 0) := by
    unfold mhz
    rw [hp]
    rfl
  rw [hm]
  unfold frequency_Crossings.f
  rw [if_pos hf, hc]
  rfl

def wth (l : List Int) (d : Int) : Bool × Int :=
  if d < 0 ∨ d > 50000 then (false, 1) else if (per l).2.2 = 0 then (decide ((50000 - d) * (per l).1 ≤ 600000 * (per l).2.1 ∧ 600000 * (per l).2.1 ≤ (50000 + d) * (per l).1), 0) else (false, (per l).2.2)
theorem wth_eq (l : List Int) (d : Int) (k : Nat) (hk : 300000000001 < k) : frequency_Within.f k l d = some (wth l d) := by
  obtain ⟨k, rfl⟩ : ∃ j, k = j + 1 := ⟨k - 1, by omega⟩
  unfold frequency_Within.f wth
  simp only [frequency_Within.j0]
  by_cases h1 : d < 0
  · have e : d < 0 ∨ d > 50000 := .inl h1
    simp only [if_pos h1, if_pos e, if_true]
  · rw [if_neg h1]
    by_cases h2 : d > 50000
    · have e : d < 0 ∨ d > 50000 := .inr h2
      have e2 : decide (d > 50000) = true := decide_eq_true h2
      simp only [e2, if_pos e, if_true]
    · have e : ¬ (d < 0 ∨ d > 50000) := by omega
      have e2 : decide (d > 50000) = false := decide_eq_false h2
      rw [e2, if_neg Bool.false_ne_true, if_neg e, per_eq l k (by omega)]
      simp only [Option.bind_some]
      by_cases h : (per l).2.2 = 0
      · rw [if_pos h, if_pos h]
        obtain ⟨⟨a1, a2⟩, b1, b2⟩ := per_ok h
        generalize (per l).1 = p at *
        generalize (per l).2.1 = q at *
        have w1 : wrap64 (600000 * q) = 600000 * q := wid (by omega) (by omega)
        have w2 : wrap64 (50000 - d) = 50000 - d := wid (by omega) (by omega)
        have w3 : wrap64 (50000 + d) = 50000 + d := wid (by omega) (by omega)
        have m1 := mulB (x := 50000 - d) (y := p) (A := 50000) (B := 300000000000) (by omega) (by omega) (by omega) (by omega)
        have m2 := mulB (x := 50000 + d) (y := p) (A := 100000) (B := 300000000000) (by omega) (by omega) (by omega) (by omega)
        rw [w1, w2, w3, wid (x := (50000 - d) * p) (by omega) (by omega), wid (x := (50000 + d) * p) (by omega) (by omega)]
        generalize (50000 - d) * p = X at *
        generalize (50000 + d) * p = Y at *
        by_cases c : 600000 * q ≥ X
        · rw [if_pos c]
          have : X ≤ 600000 * q := c
          simp [this]
        · rw [if_neg c]
          have : ¬ X ≤ 600000 * q := c
          simp [this]
      · rw [if_neg h, if_neg h]

/-- The law's series: at most 240 samples in their range. -/
theorem fine_l0 (l : List Int) : ∀ (d i n : Nat) (ys : List Int), (l.take 240).length = i + d → ys.length = i → (∀ y ∈ ys, -16383 ≤ y ∧ y ≤ 16383) → d < n →
    ∃ r, substationlaw25_Fine.l0 n l ys (i : Int) = some r ∧ fineB r = true := by
  intro d
  induction d with
  | zero =>
    intro i n ys hi hy hr hn
    obtain ⟨n, rfl⟩ : ∃ j, n = j + 1 := ⟨n - 1, by omega⟩
    refine ⟨ys, ?_, ?_⟩
    · simp only [substationlaw25_Fine.l0]
      by_cases c : (i : Int) < (l.length : Int)
      · rw [if_pos c, if_neg (by simp at hi; omega)]
      · rw [if_neg c]
    · unfold fineB
      simp only [Bool.and_eq_true, decide_eq_true_eq, List.all_eq_true]
      exact ⟨by simp at hi; omega, hr⟩
  | succ d ih =>
    intro i n ys hi hy hr hn
    obtain ⟨n, rfl⟩ : ∃ j, n = j + 1 := ⟨n - 1, by omega⟩
    have hl : i < l.length ∧ i < 240 := by simp at hi; omega
    obtain ⟨t, ht, t0, t1⟩ := within_eq (rd l (i : Int)) 32767 (by omega) (by omega)
    have ew : wrap64 ((i : Int) + 1) = ((i + 1 : Nat) : Int) := by rw [wid (by omega) (by omega)]; rfl
    have et : wrap64 (t - 16383) = t - 16383 := wid (by omega) (by omega)
    obtain ⟨r, hr2, hf⟩ := ih (i + 1) n (ys ++ [t - 16383]) (by omega) (by simp [hy]) (by
      intro y hy
      rcases List.mem_append.1 hy with h | h
      · exact hr y h
      · simp only [List.mem_singleton] at h; omega) (by omega)
    refine ⟨r, ?_, hf⟩
    simp only [substationlaw25_Fine.l0]
    rw [if_pos (by omega), if_pos (by omega), if_pos (by omega), ht]
    simp only [Option.bind_some]
    rw [if_pos (by omega), ew, et]
    exact hr2
theorem fine_ex (l : List Int) (k : Nat) (hk : 1000 < k) : ∃ r, substationlaw25_Fine.f k l = some r ∧ fineB r = true := by
  have hlen : (l.take 240).length ≤ 240 := by simp; omega
  exact fine_l0 l (l.take 240).length 0 k [] (by simp) rfl (by simp) (by omega)

theorem gc_scale (k a b : Int) (hk : 0 < k) : gc (k * a) (k * b) = k * gc a b := by
  unfold gc
  rw [Int.gcd_mul_left]
  have : ((k.natAbs : Nat) : Int) = k := by omega
  rw [Int.natCast_mul, this]
/-- The cycle, so many times. -/
def repL (c : List Int) : Nat → List Int
  | 0 => []
  | m + 1 => repL c m ++ c
theorem repL_len (c : List Int) (m : Nat) : (repL c m).length = m * c.length := by
  induction m with
  | zero => simp [repL]
  | succ m ih => rw [repL, List.length_append, ih, Nat.add_mul, Nat.one_mul]
theorem repL_mem (c : List Int) (m : Nat) (x : Int) (h : x ∈ repL c m) : x ∈ c := by
  induction m with
  | zero => cases h
  | succ m ih =>
    rcases List.mem_append.1 h with h | h
    · exact ih h
    · exact h
theorem repL_get (c : List Int) (m i : Nat) (h : i < m * c.length) : (repL c m)[i]? = c[i % c.length]? := by
  induction m with
  | zero => omega
  | succ m ih =>
    rw [repL]
    rcases Nat.lt_or_ge i (m * c.length) with h1 | h1
    · rw [List.getElem?_append_left (by rw [repL_len]; exact h1), ih h1]
    · rw [List.getElem?_append_right (by rw [repL_len]; exact h1), repL_len]
      rw [Nat.add_mul, Nat.one_mul] at h
      obtain ⟨j, rfl⟩ : ∃ j, i = m * c.length + j := ⟨i - m * c.length, by omega⟩
      rw [Nat.add_sub_cancel_left, Nat.mul_add_mod_self_right, Nat.mod_eq_of_lt (by omega)]
theorem repL_rd (c : List Int) (m i : Nat) (h : i < m * c.length) : rd (repL c m) (i : Int) = rd c ((i % c.length : Nat) : Int) := by
  unfold rd
  rw [Int.toNat_natCast, Int.toNat_natCast, List.getD_eq_getElem?_getD, List.getD_eq_getElem?_getD, repL_get c m i h]
/-- An upward crossing of the cycle, seen as a circle. -/
def upB (c : List Int) (i : Nat) : Bool := decide (rd c (i : Int) < 0) && decide (0 ≤ rd c (((i + 1) % c.length : Nat) : Int))
def ptN (c : List Int) (j : Nat) : Int := -(rd c (j : Int)) / gc (-(rd c (j : Int))) (rd c (((j + 1) % c.length : Nat) : Int) - rd c (j : Int))
def ptD (c : List Int) (j : Nat) : Int := (rd c (((j + 1) % c.length : Nat) : Int) - rd c (j : Int)) / gc (-(rd c (j : Int))) (rd c (((j + 1) % c.length : Nat) : Int) - rd c (j : Int))
theorem mod_succ (i n : Nat) (hn : 0 < n) : (i + 1) % n = (i % n + 1) % n := by rw [Nat.add_mod, Nat.add_mod (i % n) 1, Nat.mod_mod]
theorem crAt_rep (c : List Int) (m i : Nat) (hn : 0 < c.length) (h : i + 1 < m * c.length) :
    crAt (repL c m) i = if upB c (i % c.length) = true then some ⟨(i : Int), ptN c (i % c.length), ptD c (i % c.length)⟩ else none := by
  unfold crAt upB ptN ptD
  rw [repL_rd c m i (by omega), repL_rd c m (i + 1) h, mod_succ i c.length hn]
  generalize rd c ((i % c.length : Nat) : Int) = x
  generalize rd c (((i % c.length + 1) % c.length : Nat) : Int) = y
  by_cases h1 : x < 0 <;> by_cases h2 : 0 ≤ y <;> simp [h1, h2]
/-- The crossings of the repeated cycle, if there is one upward crossing at j. -/
theorem upto_rep (c : List Int) (m j : Nat) (hj : j < c.length) (hu : ∀ i, i < c.length → (upB c i = true ↔ i = j)) :
    ∀ i, i < m * c.length → ∃ q, upto (repL c m) i = (List.range q).map (fun t => (⟨((j + t * c.length : Nat) : Int), ptN c j, ptD c j⟩ : S30)) ∧ i ≤ j + q * c.length ∧ (q = 0 ∨ j + (q - 1) * c.length < i) := by
  intro i
  induction i with
  | zero => exact fun _ => ⟨0, rfl, by omega, .inl rfl⟩
  | succ i ih =>
    intro hi
    obtain ⟨q, h1, h2, h3⟩ := ih (by omega)
    have hn : 0 < c.length := by omega
    have hm := Nat.mod_lt i hn
    have hd := Nat.div_add_mod i c.length
    rw [upto_succ, crAt_rep c m i hn hi, h1]
    by_cases e : i % c.length = j
    · rw [e, if_pos ((hu j hj).2 rfl)]
      rw [e] at hd
      obtain ⟨s, hs⟩ : ∃ s, i / c.length = s := ⟨_, rfl⟩
      rw [hs] at hd
      have hq : q = s := by
        have a1 : c.length * s ≤ c.length * q := by rw [Nat.mul_comm c.length q]; omega
        have a2 := Nat.le_of_mul_le_mul_left a1 hn
        rcases h3 with h3 | h3
        · omega
        · have a3 : c.length * (q - 1) < c.length * s := by rw [Nat.mul_comm c.length (q - 1)]; omega
          have a4 := Nat.lt_of_mul_lt_mul_left a3
          omega
      have hi2 : i = j + q * c.length := by rw [hq, Nat.mul_comm]; omega
      refine ⟨q + 1, ?_, ?_, .inr ?_⟩
      · rw [List.range_succ, List.map_append]
        simp only [Option.toList_some, List.map_cons, List.map_nil]
        rw [← hi2]
      · rw [Nat.add_mul, Nat.one_mul]; omega
      · rw [Nat.add_sub_cancel]; omega
    · rw [if_neg (fun h => e ((hu _ hm).1 h))]
      refine ⟨q, by simp, ?_, ?_⟩
      · rcases Nat.lt_or_ge i (j + q * c.length) with h | h
        · exact h
        · have : i = j + q * c.length := by omega
          exfalso
          apply e
          rw [this, Nat.mul_comm, Nat.add_mul_mod_self_left, Nat.mod_eq_of_lt hj]
      · rcases h3 with h3 | h3
        · exact .inl h3
        · exact .inr (by omega)
theorem fine_rep {c : List Int} (h : fineB c = true) (m : Nat) (hm : m * c.length ≤ 240) : fineB (repL c m) = true := by
  unfold fineB
  simp only [Bool.and_eq_true, decide_eq_true_eq, List.all_eq_true]
  exact ⟨by rw [repL_len]; exact hm, fun x hx => (fine_len h).2 x (repL_mem c m x hx)⟩
theorem rd_map_range (q t : Nat) (f : Nat → S30) (h : t < q) : rd_T30 ((List.range q).map f) (t : Int) = f t := by
  rw [rd30_mem _ _ (by simpa using h)]
  simp
theorem per_rep {c : List Int} (h : fineB c = true) (m j : Nat) (h2 : 2 ≤ c.length) (hm0 : 3 ≤ m) (hm : m * c.length ≤ 240) (hj : j < c.length) (hu : ∀ i, i < c.length → (upB c i = true ↔ i = j)) :
    per (repL c m) = ((c.length : Int), 1, 0) := by
  have hf := fine_rep h m hm
  have hpos : 0 < m * c.length := Nat.mul_pos (by omega) (by omega)
  obtain ⟨q, hq, q1, q2⟩ := upto_rep c m j hj hu (m * c.length - 1) (by omega)
  have hc : cross (repL c m) = (List.range q).map (fun t => (⟨((j + t * c.length : Nat) : Int), ptN c j, ptD c j⟩ : S30)) := by
    unfold cross
    rw [repL_len, hq]
  have h3 : 3 * c.length ≤ m * c.length := Nat.mul_le_mul_right _ hm0
  have hq2 : 2 ≤ q := by
    rcases Nat.lt_or_ge q 2 with h | h
    · have : q * c.length ≤ 1 * c.length := Nat.mul_le_mul_right _ (by omega)
      omega
    · exact h
  have hlen : (cross (repL c m)).length = q := by rw [hc]; simp
  obtain ⟨p1, p2, p3⟩ := ends_pt hf (by omega)
  rw [hlen, hc] at p2 p3
  rw [hc] at p1
  have e0 : rd_T30 ((List.range q).map (fun t => (⟨((j + t * c.length : Nat) : Int), ptN c j, ptD c j⟩ : S30))) 0 = ⟨(j : Int), ptN c j, ptD c j⟩ := by
    have := rd_map_range q 0 (fun t => (⟨((j + t * c.length : Nat) : Int), ptN c j, ptD c j⟩ : S30)) (by omega)
    simpa using this
  have e1 := rd_map_range q (q - 1) (fun t => (⟨((j + t * c.length : Nat) : Int), ptN c j, ptD c j⟩ : S30)) (by omega)
  have e1' := fun (x : Int) (hx : x = ((q - 1 : Nat) : Int)) => (show rd_T30 ((List.range q).map (fun t => (⟨((j + t * c.length : Nat) : Int), ptN c j, ptD c j⟩ : S30))) x = _ from hx ▸ e1)
  rw [e0] at p1
  unfold per
  rw [if_pos hf, hlen, if_neg (by omega), hc, e0, e1]
  have hD : 1 ≤ ptD c j := Int.le_trans p1.n1 p1.nd
  have hnum : pnum ⟨(j : Int), ptN c j, ptD c j⟩ ⟨((j + (q - 1) * c.length : Nat) : Int), ptN c j, ptD c j⟩ = (ptD c j * ptD c j * ((q : Int) - 1)) * (c.length : Int) := by
    unfold pnum
    dsimp only
    have : ((j + (q - 1) * c.length : Nat) : Int) - (j : Int) = ((q : Int) - 1) * (c.length : Int) := by
      rw [Int.natCast_add, Int.natCast_mul, Int.natCast_sub (by omega)]
      rw [show ((1 : Nat) : Int) = 1 from rfl]
      generalize ((q : Int) - 1) * (c.length : Int) = X
      omega
    rw [this, Int.add_sub_cancel]
    generalize ptD c j = D
    generalize (q : Int) - 1 = Q
    generalize (c.length : Int) = n
    rw [Int.mul_comm (D * D * Q) n, Int.mul_comm Q n, Int.mul_assoc n Q D, Int.mul_assoc n, Int.mul_comm Q D, Int.mul_assoc D Q D, Int.mul_comm Q D, ← Int.mul_assoc D D Q]
  have hden : pden ⟨(j : Int), ptN c j, ptD c j⟩ ⟨((j + (q - 1) * c.length : Nat) : Int), ptN c j, ptD c j⟩ q = (ptD c j * ptD c j * ((q : Int) - 1)) * 1 := by
    unfold pden
    rw [Int.mul_one]
  rw [hnum, hden]
  have hP : 0 < ptD c j * ptD c j * ((q : Int) - 1) := Int.mul_pos (Int.mul_pos (by omega) (by omega)) (by omega)
  generalize ptD c j * ptD c j * ((q : Int) - 1) = P at *
  rw [gc_scale P _ _ hP, show gc (c.length : Int) 1 = 1 from by unfold gc; simp, Int.mul_one, Int.mul_ediv_cancel_left _ (by omega), Int.ediv_self (by omega)]
theorem tmod_cast (a b : Nat) : Int.tmod (a : Int) (b : Int) = ((a % b : Nat) : Int) := rfl
def ups (c : List Int) (i : Nat) : Nat := ((List.range i).filter (upB c)).length
theorem ups_succ (c : List Int) (i : Nat) : ups c (i + 1) = ups c i + if upB c i = true then 1 else 0 := by
  unfold ups
  rw [List.range_succ, List.filter_append, List.length_append]
  cases h : upB c i <;> simp [h]
theorem one_up (c : List Int) (h : ups c c.length = 1) : ∃ j, j < c.length ∧ ∀ i, i < c.length → (upB c i = true ↔ i = j) := by
  unfold ups at h
  obtain ⟨j, hj⟩ := List.length_eq_one_iff.1 h
  have hm : j ∈ (List.range c.length).filter (upB c) := by rw [hj]; simp
  have h1 := List.mem_filter.1 hm
  refine ⟨j, by simpa using h1.1, fun i hi => ⟨fun hu => ?_, fun e => e ▸ h1.2⟩⟩
  have : i ∈ (List.range c.length).filter (upB c) := List.mem_filter.2 ⟨by simpa using hi, hu⟩
  rw [hj] at this
  simpa using this
theorem fin_rep {c : List Int} (h : fineB c = true) (m j n : Nat) (h2 : 2 ≤ c.length) (h60 : c.length ≤ 60) (hm0 : 3 ≤ m) (hm : m * c.length ≤ 240) (hj : j < c.length) (hu : ∀ i, i < c.length → (upB c i = true ↔ i = j)) (hn : 300000000001 < n) :
    ((frequency_Period.f n (repL c m)).bind fun bt370 => ((frequency_Millihertz.f n (repL c m)).bind fun bt373 => ((frequency_Within.f n (repL c m) 0).bind fun bt375 => (if bt370.2.2 = 0 then (if bt373.2 = 0 then (if bt375.2 = 0 then (if bt370.1 = (c.length : Int) then (if bt370.2.1 = 1 then (if (wrap64 (2 * (c.length : Int))) = 0 then (none) else (if bt373.1 = (wrap64 (Int.tdiv (wrap64 (1200000 + (c.length : Int))) (wrap64 (2 * (c.length : Int))))) then (some (bt375.1 == ((c.length : Int) == 12))) else (some false))) else (some false)) else (some false)) else (some false)) else (some false)) else (some false))))) = some true := by
  have hp := per_rep h m j h2 hm0 hm hj hu
  have w1 : True → wrap64 (2 * (c.length : Int)) = 2 * (c.length : Int) := fun _ => wid (by omega) (by omega)
  have w2 : True → wrap64 (1200000 + (c.length : Int)) = 1200000 + (c.length : Int) := fun _ => wid (by omega) (by omega)
  have hmz : mhz (repL c m) = ((1200000 * 1 + (c.length : Int)) / (2 * (c.length : Int)), 0) := by unfold mhz; rw [hp]; rfl
  have hwt : wth (repL c m) 0 = (decide ((50000 - 0) * (c.length : Int) ≤ 600000 * 1 ∧ 600000 * 1 ≤ (50000 + 0) * (c.length : Int)), 0) := by
    unfold wth; rw [hp]; rfl
  have f1 : 300000000000 < n := by omega
  have g0 : ¬ 2 * (c.length : Int) = 0 := by omega
  have c1 : 0 ≤ (1200000 + (c.length : Int)) / (2 * (c.length : Int)) := Int.ediv_nonneg (by omega) (by omega)
  have c2 : (1200000 + (c.length : Int)) / (2 * (c.length : Int)) ≤ 1200000 + (c.length : Int) := Int.ediv_le_self _ (by omega)
  have w3 : True → wrap64 (Int.tdiv (1200000 + (c.length : Int)) (2 * (c.length : Int))) = (1200000 * 1 + (c.length : Int)) / (2 * (c.length : Int)) := fun _ => by
    rw [Int.tdiv_eq_ediv_of_nonneg (by omega), wid (by omega) (by omega)]; rfl
  have hd : decide ((50000 - 0) * (c.length : Int) ≤ 600000 * 1 ∧ 600000 * 1 ≤ (50000 + 0) * (c.length : Int)) = ((c.length : Int) == 12) := by
    rw [Bool.eq_iff_iff]
    simp only [decide_eq_true_eq, beq_iff_eq]
    omega
  rw [per_eq _ _ f1, mhz_eq _ _ f1, wth_eq _ _ _ hn, hp, hmz, hwt, w1 trivial, w2 trivial]
  simp only [Option.bind_some, if_true]
  rw [if_neg g0, w3 trivial, if_pos rfl, hd]
  simp
theorem wid3 (t : Nat) (h : t < 2) : wrap64 (3 + (t : Int)) = 3 + (t : Int) := wid (by omega) (by omega)
theorem widn (x : Int) (h0 : 0 ≤ x) (h : x ≤ 1000) : wrap64 x = x := wid (by omega) (by omega)
theorem l1_rep {c : List Int} (F : Nat) (hF : True → 300000000001 < F) (h : fineB c = true) (a : Int) (j t : Nat) (ht : substationlaw25_within.f a 2 = some (t : Int)) (ht2 : t < 2) (h2 : 2 ≤ c.length) (h60 : c.length ≤ 60) (hj : j < c.length) (hu : ∀ i, i < c.length → (upB c i = true ↔ i = j)) :
    ∀ (d i n : Nat), 3 + t = i + d → F + d < n → substationlaw25_FrequencyPeriodic.l1 n a c (repL c i) (i : Int) = some true := by
  intro d
  induction d with
  | zero =>
    intro i n hi hn
    obtain ⟨n, rfl⟩ : ∃ j, n = j + 1 := ⟨n - 1, by omega⟩
    have e : i = 3 + t := by omega
    have w1 : True → wrap64 (3 + (t : Int)) = 3 + (t : Int) := fun _ => wid3 t ht2
    have hm : i * c.length ≤ 4 * 60 := Nat.mul_le_mul (by omega) h60
    have hFn : F ≤ n := by omega
    have hfin := fin_rep h i j n h2 h60 (by omega) hm hj hu (Nat.lt_of_lt_of_le (hF trivial) hFn)
    have g : ¬ (i : Int) < 3 + (t : Int) := by omega
    rw [substationlaw25_FrequencyPeriodic.l1, ht, Option.bind_some]
    rw [w1 trivial, if_neg g]
    exact hfin
  | succ d ih =>
    intro i n hi hn
    obtain ⟨n, rfl⟩ : ∃ j, n = j + 1 := ⟨n - 1, by omega⟩
    have ih := ih (i + 1) n (by omega) (by omega)
    have w1 : True → wrap64 (3 + (t : Int)) = 3 + (t : Int) := fun _ => wid3 t ht2
    have hm : i * c.length ≤ 3 * 60 := Nat.mul_le_mul (by omega) h60
    have hl := repL_len c i
    have w2 : True → wrap64 (((repL c i).length : Int) + (c.length : Int)) = ((repL c i).length : Int) + (c.length : Int) := fun _ => widn _ (by omega) (by omega)
    have w3 : True → wrap64 ((i : Int) + 1) = ((i + 1 : Nat) : Int) := fun _ => by rw [widn _ (by omega) (by omega)]; rfl
    have g1 : (i : Int) < 3 + (t : Int) := by omega
    have g2 : ((repL c i).length : Int) + (c.length : Int) ≤ 240 := by omega
    have g3 : (repL c i).length + c.length < 17592186044416 := by omega
    rw [substationlaw25_FrequencyPeriodic.l1, ht, Option.bind_some]
    rw [w1 trivial, if_pos g1, w2 trivial, if_pos g2, if_pos g3, w3 trivial]
    exact ih
theorem l0_rep {c : List Int} (F : Nat) (hF : True → 300000000001 < F) (h : fineB c = true) (a : Int) (h2 : 2 ≤ c.length) (h60 : c.length ≤ 60) :
    ∀ (d i n : Nat), c.length = i + d → F + 10 + d < n → substationlaw25_FrequencyPeriodic.l0 n a c ((ups c i : Nat) : Int) (i : Int) = some true := by
  intro d
  induction d with
  | zero =>
    intro i n hi hn
    obtain ⟨n, rfl⟩ : ∃ j, n = j + 1 := ⟨n - 1, by omega⟩
    have e : i = c.length := by omega
    subst e
    rw [substationlaw25_FrequencyPeriodic.l0, if_neg (by omega)]
    by_cases hu : ups c c.length = 1
    · rw [if_pos (by omega)]
      obtain ⟨j, hj, hu⟩ := one_up c hu
      obtain ⟨r, hr, r0, r1⟩ := within_eq a 2 (by omega) (by omega)
      obtain ⟨t, rfl⟩ : ∃ t : Nat, r = t := ⟨r.toNat, by omega⟩
      exact l1_rep F hF h a j t hr (by omega) h2 h60 hj hu (3 + t) 0 n (by omega) (by omega)
    · rw [if_neg (by omega)]
  | succ d ih =>
    intro i n hi hn
    obtain ⟨n, rfl⟩ : ∃ j, n = j + 1 := ⟨n - 1, by omega⟩
    have ih := ih (i + 1) n (by omega) (by omega)
    have hle : ups c i ≤ i := by unfold ups; exact Nat.le_trans (List.length_filter_le _ _) (by simp)
    have w1 : True → wrap64 ((i : Int) + 1) = ((i + 1 : Nat) : Int) := fun _ => by rw [wid (by omega) (by omega)]; rfl
    have w2 : True → wrap64 (((ups c i : Nat) : Int) + 1) = ((ups c i + 1 : Nat) : Int) := fun _ => by rw [wid (by omega) (by omega)]; rfl
    have hm := Nat.mod_lt (i + 1) (show 0 < c.length by omega)
    have us := ups_succ c i
    have q1 : (i : Int) < (c.length : Int) := by omega
    have q2 : (0 : Int) ≤ (i : Int) := by omega
    rw [substationlaw25_FrequencyPeriodic.l0, if_pos q1, if_pos q2, w1 trivial, w2 trivial, tmod_cast]
    have g1 : (0 : Int) ≤ (((i + 1) % c.length : Nat) : Int) := by omega
    have g2 : (((i + 1) % c.length : Nat) : Int) < (c.length : Int) := by omega
    have g3 : ¬ (c.length : Int) = 0 := by omega
    unfold upB at us
    by_cases c1 : rd c (i : Int) < 0
    · rw [if_pos c1, if_neg g3, if_pos g1, if_pos g2]
      by_cases c2 : 0 ≤ rd c (((i + 1) % c.length : Nat) : Int)
      · rw [if_pos c2]
        have : ups c (i + 1) = ups c i + 1 := by rw [us, decide_eq_true c1, decide_eq_true c2]; rfl
        rw [this] at ih
        exact ih
      · rw [if_neg c2]
        have : ups c (i + 1) = ups c i := by rw [us, decide_eq_true c1, decide_eq_false c2]; rfl
        rw [this] at ih
        exact ih
    · rw [if_neg c1]
      have : ups c (i + 1) = ups c i := by rw [us, decide_eq_false c1]; rfl
      rw [this] at ih
      exact ih
theorem FrequencyPeriodic : FrequencyPeriodic_Pure := by
  rintro l a ⟨_, _, _⟩ _
  refine ⟨300000001000, ?_⟩
  unfold substationlaw25_FrequencyPeriodic.f
  rw [known_eq _ (by omega)]
  simp only [Option.bind_some, if_true]
  obtain ⟨c, hy, hf⟩ := fine_ex l 300000001000 (by omega)
  rw [hy]
  simp only [Option.bind_some]
  by_cases h2 : (c.length : Int) < 2
  · rw [if_pos h2, substationlaw25_FrequencyPeriodic.j0, if_pos rfl]
  · rw [if_neg h2, substationlaw25_FrequencyPeriodic.j0]
    by_cases h60 : (c.length : Int) > 60
    · rw [if_pos (decide_eq_true h60)]
    · rw [decide_eq_false h60, if_neg Bool.false_ne_true]
      exact l0_rep 300000000002 (fun _ => by decide) hf a (by omega) (by omega) c.length 0 _ (by omega) (by omega)

end Go.Proofs.Ytiemghinklablaa.Pure
