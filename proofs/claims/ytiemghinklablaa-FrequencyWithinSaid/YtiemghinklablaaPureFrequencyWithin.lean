/- The plain statement of the law FrequencyWithin, over numbers and lists alone. Conditions: none. -/
import Derived.Test.YtiemghinklablaaStmFrequencyWithin
namespace Go.Proofs.Ytiemghinklablaa.Pure
open Go.RowKit Go.Proofs.Ytiemghinklablaa.PAll Go.Proofs.YtiemghinklablaaW.PrintWords Go.Proofs.YtiemghinklablaaW.PrintLast
set_option linter.unusedVariables false
set_option linter.unusedSimpArgs false
theorem wid {x : Int} (h0 : -9223372036854775808 ≤ x) (h1 : x ≤ 9223372036854775807) : wrap64 x = x := by unfold wrap64; omega
theorem tmod_range (x b : Int) (hb : 0 < b) : -b < Int.tmod x b ∧ Int.tmod x b < b := by
  have h := @Int.tmod_eq_emod x b
  have e1 := Int.emod_nonneg x (show b ≠ 0 by omega)
  have e2 := Int.emod_lt_of_pos x hb
  by_cases c : 0 ≤ x ∨ b ∣ x
  · rw [if_pos c] at h
    omega
  · rw [if_neg c] at h
    have : x % b ≠ 0 := fun e => c (.inr (Int.dvd_of_emod_eq_zero e))
    omega
/-- The law's own remainder lies in its range. -/
theorem within_eq (a b : Int) (hb : 1 ≤ b) (hb2 : b ≤ 100000) : ∃ r, substationlaw25_within.f a b = some r ∧ 0 ≤ r ∧ r < b := by
  unfold substationlaw25_within.f
  rw [if_neg (by omega)]
  obtain ⟨t1, t2⟩ := tmod_range a b (by omega)
  by_cases hn : Int.tmod a b < 0
  · rw [if_pos hn]
    exact ⟨_, rfl, by rw [wid (by omega) (by omega)]; omega, by rw [wid (by omega) (by omega)]; omega⟩
  · rw [if_neg hn]
    exact ⟨_, rfl, by omega, t2⟩
theorem mulB {x y A B : Int} (hx : 0 ≤ x) (hA : x ≤ A) (hy : 0 ≤ y) (hB : y ≤ B) : 0 ≤ x * y ∧ x * y ≤ A * B := ⟨Int.mul_nonneg hx hy, Int.mul_le_mul hA hB hy (by omega)⟩
theorem gc_pos' (a b : Int) (h : 0 < b) : 0 < gc a b := gc_pos a b h
theorem gc_dvd_l (a b : Int) : gc a b ∣ a := Int.gcd_dvd_left ..
theorem gc_dvd_r (a b : Int) : gc a b ∣ b := Int.gcd_dvd_right ..
/-- What a crossing is made of. -/
structure Pt (p : S30) : Prop where
  k0 : 0 ≤ p.f0
  k1 : p.f0 ≤ 238
  n1 : 1 ≤ p.f1
  nd : p.f1 ≤ p.f2
  d1 : p.f2 ≤ 32766
theorem crAt_pt {l : List Int} (h : fineB l = true) {i : Nat} (hi : i + 1 < l.length) {p : S30} (hp : crAt l i = some p) : Pt p ∧ p.f0 = (i : Int) := by
  unfold crAt at hp
  split at hp
  · rename_i hc
    have ha := fine_rd h (i : Int)
    have hb := fine_rd h ((i + 1 : Nat) : Int)
    have hl := (fine_len h).1
    cases hp
    generalize rd l (i : Int) = x at *
    generalize rd l ((i + 1 : Nat) : Int) = y at *
    have hg := gc_pos (-x) (y - x) (by omega)
    have d1 := gc_dvd_l (-x) (y - x)
    have d2 := gc_dvd_r (-x) (y - x)
    generalize gc (-x) (y - x) = g at *
    obtain ⟨u, hu⟩ := d1
    obtain ⟨v, hv⟩ := d2
    have e1 : -x / g = u := by rw [hu]; exact Int.mul_ediv_cancel_left u (by omega)
    have e2 : (y - x) / g = v := by rw [hv]; exact Int.mul_ediv_cancel_left v (by omega)
    have u1 : 1 ≤ u := by
      rcases Int.lt_or_le 0 u with h | h
      · omega
      · have := Int.mul_nonpos_of_nonneg_of_nonpos (by omega : 0 ≤ g) h; omega
    have uv : u ≤ v := by
      rcases Int.lt_or_le v u with h | h
      · have : g * v < g * u := Int.mul_lt_mul_of_pos_left h hg
        omega
      · exact h
    have vd : v ≤ 32766 := by
      have : v ≤ g * v := by have := Int.mul_le_mul_of_nonneg_right (show (1 : Int) ≤ g by omega) (by omega : 0 ≤ v); omega
      omega
    refine ⟨⟨?_, ?_, ?_, ?_, ?_⟩, rfl⟩
    · show (0 : Int) ≤ (i : Int); omega
    · show (i : Int) ≤ 238; omega
    · show 1 ≤ -x / g; rw [e1]; exact u1
    · show -x / g ≤ (y - x) / g; rw [e1, e2]; exact uv
    · show (y - x) / g ≤ 32766; rw [e2]; exact vd
  · cases hp
theorem mem_upto {l : List Int} {i : Nat} {p : S30} (h : p ∈ upto l i) : ∃ j, j < i ∧ crAt l j = some p := by
  unfold upto at h
  obtain ⟨j, hj, hp⟩ := List.mem_filterMap.1 h
  exact ⟨j, by simpa using hj, hp⟩
theorem cross_pt {l : List Int} (h : fineB l = true) {p : S30} (hp : p ∈ cross l) : Pt p := by
  obtain ⟨j, hj, hc⟩ := mem_upto hp
  exact (crAt_pt h (by omega) hc).1
/-- The crossings are in ascending order. -/
theorem upto_sorted {l : List Int} (h : fineB l = true) (i : Nat) (hi : i ≤ l.length - 1) : (upto l i).Pairwise (fun p q => p.f0 < q.f0) := by
  induction i with
  | zero => exact List.Pairwise.nil
  | succ i ih =>
    rw [upto_succ]
    refine List.pairwise_append.2 ⟨ih (by omega), ?_, ?_⟩
    · cases crAt l i <;> simp
    · intro p hp q hq
      obtain ⟨j, hj, hc⟩ := mem_upto hp
      cases hc2 : crAt l i with
      | none => rw [hc2] at hq; cases hq
      | some r =>
        rw [hc2] at hq
        simp only [Option.toList_some, List.mem_singleton] at hq
        subst hq
        have e1 := (crAt_pt h (by omega) hc).2
        have e2 := (crAt_pt h (by omega) hc2).2
        omega
theorem cross_len (l : List Int) (h : fineB l = true) : (cross l).length ≤ 239 := by
  have := upto_le l (l.length - 1)
  have := (fine_len h).1
  unfold cross
  omega
theorem rd30_mem (xs : List S30) (i : Nat) (h : i < xs.length) : rd_T30 xs (i : Int) = xs[i] := by simp [rd_T30, h]
/-- numerator and denominator of the mean period, and their divisor -/
def pnum (a b : S30) : Int := (b.f0 - a.f0) * a.f2 * b.f2 + b.f1 * a.f2 - a.f1 * b.f2
def pden (a b : S30) (n : Nat) : Int := a.f2 * b.f2 * ((n : Int) - 1)
theorem pbounds {a b : S30} {n : Nat} (ha : Pt a) (hb : Pt b) (hk : a.f0 < b.f0) (hn : 2 ≤ n) (hn2 : n ≤ 239) :
    (0 < pnum a b ∧ pnum a b ≤ 300000000000) ∧ (0 < pden a b n ∧ pden a b n ≤ 300000000000) ∧
    wrap64 (wrap64 (wrap64 (wrap64 (wrap64 (b.f0 - a.f0) * a.f2) * b.f2) + wrap64 (b.f1 * a.f2)) - wrap64 (a.f1 * b.f2)) = pnum a b ∧
    wrap64 (wrap64 (a.f2 * b.f2) * wrap64 ((n : Int) - 1)) = pden a b n := by
  obtain ⟨ak0, ak1, an1, and_, ad1⟩ := ha
  obtain ⟨bk0, bk1, bn1, bnd, bd1⟩ := hb
  have w1 : wrap64 (b.f0 - a.f0) = b.f0 - a.f0 := wid (by omega) (by omega)
  have m1 := mulB (x := b.f0 - a.f0) (y := a.f2) (A := 238) (B := 32766) (by omega) (by omega) (by omega) (by omega)
  have w2 : wrap64 ((b.f0 - a.f0) * a.f2) = (b.f0 - a.f0) * a.f2 := wid (by omega) (by omega)
  have m2 := mulB (x := (b.f0 - a.f0) * a.f2) (y := b.f2) (A := 238 * 32766) (B := 32766) m1.1 m1.2 (by omega) (by omega)
  have w3 : wrap64 ((b.f0 - a.f0) * a.f2 * b.f2) = (b.f0 - a.f0) * a.f2 * b.f2 := wid (by omega) (by omega)
  have m3 := mulB (x := b.f1) (y := a.f2) (A := 32766) (B := 32766) (by omega) (by omega) (by omega) (by omega)
  have w4 : wrap64 (b.f1 * a.f2) = b.f1 * a.f2 := wid (by omega) (by omega)
  have m4 := mulB (x := a.f1) (y := b.f2) (A := 32766) (B := 32766) (by omega) (by omega) (by omega) (by omega)
  have w5 : wrap64 (a.f1 * b.f2) = a.f1 * b.f2 := wid (by omega) (by omega)
  have m5 := mulB (x := a.f2) (y := b.f2) (A := 32766) (B := 32766) (by omega) (by omega) (by omega) (by omega)
  have w6 : wrap64 (a.f2 * b.f2) = a.f2 * b.f2 := wid (by omega) (by omega)
  have w7 : wrap64 ((n : Int) - 1) = (n : Int) - 1 := wid (by omega) (by omega)
  have m6 := mulB (x := a.f2 * b.f2) (y := (n : Int) - 1) (A := 32766 * 32766) (B := 238) m5.1 m5.2 (by omega) (by omega)
  have w8 : wrap64 (a.f2 * b.f2 * ((n : Int) - 1)) = a.f2 * b.f2 * ((n : Int) - 1) := wid (by omega) (by omega)
  have low : a.f2 * b.f2 ≤ (b.f0 - a.f0) * a.f2 * b.f2 := by
    have : 1 * a.f2 ≤ (b.f0 - a.f0) * a.f2 := Int.mul_le_mul_of_nonneg_right (by omega) (by omega)
    have := Int.mul_le_mul_of_nonneg_right this (show 0 ≤ b.f2 by omega)
    rwa [Int.one_mul] at this
  have low2 : a.f1 * b.f2 ≤ a.f2 * b.f2 := Int.mul_le_mul_of_nonneg_right (by omega) (by omega)
  have low3 : 1 * 1 ≤ b.f1 * a.f2 := Int.mul_le_mul (by omega) (by omega) (by omega) (by omega)
  have low4 : 1 * 1 ≤ a.f2 * b.f2 := Int.mul_le_mul (by omega) (by omega) (by omega) (by omega)
  have low5 : 1 * 1 ≤ a.f2 * b.f2 * ((n : Int) - 1) := Int.mul_le_mul (by omega) (by omega) (by omega) (by omega)
  unfold pnum pden
  rw [w1, w2, w3, w4, w5, w6, w7, w8]
  generalize (b.f0 - a.f0) * a.f2 * b.f2 = X at *
  generalize b.f1 * a.f2 = Y at *
  generalize a.f1 * b.f2 = Z at *
  generalize a.f2 * b.f2 * ((n : Int) - 1) = U at *
  generalize a.f2 * b.f2 = V at *
  have w9 : wrap64 (X + Y) = X + Y := wid (by omega) (by omega)
  have w10 : wrap64 (X + Y - Z) = X + Y - Z := wid (by omega) (by omega)
  rw [w9, w10]
  exact ⟨⟨by omega, by omega⟩, ⟨by omega, by omega⟩, rfl, rfl⟩
/-- What Period answers. -/
def per (l : List Int) : Int × Int × Int :=
  if fineB l = true then
    (if (cross l).length < 2 then (0, 0, 18)
     else (pnum (rd_T30 (cross l) 0) (rd_T30 (cross l) (((cross l).length - 1 : Nat) : Int)) / gc (pnum (rd_T30 (cross l) 0) (rd_T30 (cross l) (((cross l).length - 1 : Nat) : Int))) (pden (rd_T30 (cross l) 0) (rd_T30 (cross l) (((cross l).length - 1 : Nat) : Int)) (cross l).length),
           pden (rd_T30 (cross l) 0) (rd_T30 (cross l) (((cross l).length - 1 : Nat) : Int)) (cross l).length / gc (pnum (rd_T30 (cross l) 0) (rd_T30 (cross l) (((cross l).length - 1 : Nat) : Int))) (pden (rd_T30 (cross l) 0) (rd_T30 (cross l) (((cross l).length - 1 : Nat) : Int)) (cross l).length), 0))
  else (0, 0, 1)
theorem ends_pt {l : List Int} (h : fineB l = true) (h2 : 2 ≤ (cross l).length) : Pt (rd_T30 (cross l) 0) ∧ Pt (rd_T30 (cross l) (((cross l).length - 1 : Nat) : Int)) ∧ (rd_T30 (cross l) 0).f0 < (rd_T30 (cross l) (((cross l).length - 1 : Nat) : Int)).f0 := by
  have e0 : rd_T30 (cross l) 0 = (cross l)[0] := rd30_mem (cross l) 0 (by omega)
  have e1 := rd30_mem (cross l) ((cross l).length - 1) (by omega)
  rw [e0, e1]
  refine ⟨cross_pt h (List.getElem_mem _), cross_pt h (List.getElem_mem _), ?_⟩
  exact List.pairwise_iff_getElem.1 (upto_sorted h (l.length - 1) (Nat.le_refl _)) 0 ((cross l).length - 1) (by unfold cross at h2; omega) (by unfold cross at h2 ⊢; omega) (by omega)
/-- A fraction in lowest terms, as the code divides it. -/
theorem low_terms {x y : Int} (hx : 0 < x) (hx2 : x ≤ 300000000000) (hy : 0 < y) (hy2 : y ≤ 300000000000) :
    gc x y ≠ 0 ∧ wrap64 (Int.tdiv x (gc x y)) = x / gc x y ∧ wrap64 (Int.tdiv y (gc x y)) = y / gc x y ∧ 1 ≤ x / gc x y ∧ x / gc x y ≤ x ∧ 1 ≤ y / gc x y ∧ y / gc x y ≤ y := by
  have hg := gc_pos x y hy
  have d1 := gc_dvd_l x y
  have d2 := gc_dvd_r x y
  generalize gc x y = g at *
  have b1 : x / g ≤ x := Int.ediv_le_self _ (by omega)
  have b2 : y / g ≤ y := Int.ediv_le_self _ (by omega)
  have c1 : 1 ≤ x / g := by
    have := Int.le_of_dvd hx d1
    exact Int.le_ediv_of_mul_le hg (by omega)
  have c2 : 1 ≤ y / g := by
    have := Int.le_of_dvd hy d2
    exact Int.le_ediv_of_mul_le hg (by omega)
  rw [Int.tdiv_eq_ediv_of_nonneg (by omega), Int.tdiv_eq_ediv_of_nonneg (by omega)]
  exact ⟨by omega, wid (by omega) (by omega), wid (by omega) (by omega), c1, b1, c2, b2⟩
theorem per_eq (l : List Int) (k : Nat) (hk : 300000000000 < k) : frequency_Period.f k l = some (per l) := by
  unfold frequency_Period.f frequency_Crossings.f per
  simp only [Option.bind_some]
  cases hf : fineB l with
  | false => simp
  | true =>
    simp only [if_true]
    by_cases h2 : (cross l).length < 2
    · have : ((cross l).length : Int) < 2 := by omega
      rw [if_pos this, if_pos h2]
    · rw [if_neg (by omega), if_neg h2]
      have hn := cross_len l hf
      have ew : wrap64 (((cross l).length : Int) - 1) = (((cross l).length - 1 : Nat) : Int) := by rw [wid (by omega) (by omega)]; omega
      obtain ⟨p1, p2, p3⟩ := ends_pt hf (by omega)
      have hb := pbounds (n := (cross l).length) p1 p2 p3 (by omega) hn
      obtain ⟨⟨b1, b2⟩, ⟨b3, b4⟩, b5, b6⟩ := hb
      rw [ew] at b6 ⊢
      rw [if_pos (by omega), if_pos (Int.natCast_nonneg _), if_pos (by omega)]
      rw [b5, b6, divisor_gc _ _ (by omega) (by omega) k (by omega)]
      simp only [Option.bind_some]
      obtain ⟨g0, g1, g2, _⟩ := low_terms b1 b2 b3 b4
      rw [if_neg g0, g1, g2]
/-- Of a period that is one: what its numbers are. -/
theorem per_ok {l : List Int} (h : (per l).2.2 = 0) : (1 ≤ (per l).1 ∧ (per l).1 ≤ 300000000000) ∧ (1 ≤ (per l).2.1 ∧ (per l).2.1 ≤ 300000000000) := by
  unfold per at h ⊢
  split at h
  · rename_i hf
    rw [if_pos hf]
    split at h
    · cases h
    · rename_i h2
      rw [if_neg h2]
      obtain ⟨p1, p2, p3⟩ := ends_pt hf (by omega)
      obtain ⟨⟨b1, b2⟩, ⟨b3, b4⟩, _⟩ := pbounds (n := (cross l).length) p1 p2 p3 (by omega) (cross_len l hf)
      obtain ⟨_, _, _, c1, c2, c3, c4⟩ := low_terms b1 b2 b3 b4
      exact ⟨⟨c1, Int.le_trans c2 b2⟩, ⟨c3, Int.le_trans c4 b4⟩⟩
  · cases h
def mhz (l : List Int) : Int × Int := if (per l).2.2 = 0 then ((1200000 * (per l).2.1 + (per l).1) / (2 * (per l).1), 0) else (0, (per l).2.2)
theorem mhz_eq (l : List Int) (k : Nat) (hk : 300000000000 < k) : frequency_Millihertz.f k l = some (mhz l) := by
  unfold frequency_Millihertz.f mhz
  rw [per_eq l k hk]
  simp only [Option.bind_some]
  by_cases h : (per l).2.2 = 0
  · rw [if_pos h, if_pos h]
    obtain ⟨⟨a1, a2⟩, b1, b2⟩ := per_ok h
    generalize (per l).1 = p at *
    generalize (per l).2.1 = q at *
    have w1 : wrap64 (2 * p) = 2 * p := wid (by omega) (by omega)
    have w2 : wrap64 (1200000 * q) = 1200000 * q := wid (by omega) (by omega)
    have w3 : wrap64 (1200000 * q + p) = 1200000 * q + p := wid (by omega) (by omega)
    rw [w1, w2, w3, if_neg (by omega), Int.tdiv_eq_ediv_of_nonneg (by omega)]
    have c1 : 0 ≤ (1200000 * q + p) / (2 * p) := Int.ediv_nonneg (by omega) (by omega)
    have c2 : (1200000 * q + p) / (2 * p) ≤ 1200000 * q + p := Int.ediv_le_self _ (by omega)
    rw [wid (by omega) (by omega)]
  · rw [if_neg h, if_neg h]
theorem known_eq (k : Nat) (hk : 300000000000 < k) : substationlaw25_known.f k = some true := by
  unfold substationlaw25_known.f
  simp only [Option.bind_some]
  rw [mhz_eq _ k hk]
  have hc : cross [(-1), 1, 1, 1, 1, 1, 1, (-1), (-1), (-1), (-1), (-1), (-1), 1] = [⟨0, 1, 2⟩, ⟨12, 1, 2⟩] := by rfl
  have hf : fineB [(-1), 1, 1, 1, 1, 1, 1, (-1), (-1), (-1), (-1), (-1), (-1), 1] = true := by decide
  have hp : per [(-1), 1, 1, 1, 1, 1, 1, (-1), (-1), (-1), (-1), (-1), (-1), 1] = (12, 1, 0) := by
    unfold per
    rw [if_pos hf, hc]
    rfl
  have hm : mhz [(-1), 1, 1, 1, 1, 1, 1, (-1), (-1), (-1), (-1), (-1), (-1), 1] = (50000, 0) := by
    unfold mhz
    rw [hp]
    rfl
  rw [hm]
  unfold frequency_Crossings.f
  rw [if_pos hf, hc]
  rfl

def wth (l : List Int) (d : Int) : Bool × Int :=
  if d < 0 ∨ d > 50000 then (false, 1) else if (per l).2.2 = 0 then (decide ((50000 - d) * (per l).1 ≤ 600000 * (per l).2.1 ∧ 600000 * (per l).2.1 ≤ (50000 + d) * (per l).1), 0) else (false, (per l).2.2)
theorem wth_eq (l : List Int) (d : Int) (k : Nat) (hk : 300000000001 < k) : frequency_Within.f k l d = some (wth l d) := by
  obtain ⟨k, rfl⟩ : ∃ j, k = j + 1 := ⟨k - 1, by omega⟩
  unfold frequency_Within.f wth
  simp only [frequency_Within.j0]
  by_cases h1 : d < 0
  · have e : d < 0 ∨ d > 50000 := .inl h1
    simp only [if_pos h1, if_pos e, if_true]
  · rw [if_neg h1]
    by_cases h2 : d > 50000
    · have e : d < 0 ∨ d > 50000 := .inr h2
      have e2 : decide (d > 50000) = true := decide_eq_true h2
      simp only [e2, if_pos e, if_true]
    · have e : ¬ (d < 0 ∨ d > 50000) := by omega
      have e2 : decide (d > 50000) = false := decide_eq_false h2
      rw [e2, if_neg Bool.false_ne_true, if_neg e, per_eq l k (by omega)]
      simp only [Option.bind_some]
      by_cases h : (per l).2.2 = 0
      · rw [if_pos h, if_pos h]
        obtain ⟨⟨a1, a2⟩, b1, b2⟩ := per_ok h
        generalize (per l).1 = p at *
        generalize (per l).2.1 = q at *
        have w1 : wrap64 (600000 * q) = 600000 * q := wid (by omega) (by omega)
        have w2 : wrap64 (50000 - d) = 50000 - d := wid (by omega) (by omega)
        have w3 : wrap64 (50000 + d) = 50000 + d := wid (by omega) (by omega)
        have m1 := mulB (x := 50000 - d) (y := p) (A := 50000) (B := 300000000000) (by omega) (by omega) (by omega) (by omega)
        have m2 := mulB (x := 50000 + d) (y := p) (A := 100000) (B := 300000000000) (by omega) (by omega) (by omega) (by omega)
        rw [w1, w2, w3, wid (x := (50000 - d) * p) (by omega) (by omega), wid (x := (50000 + d) * p) (by omega) (by omega)]
        generalize (50000 - d) * p = X at *
        generalize (50000 + d) * p = Y at *
        by_cases c : 600000 * q ≥ X
        · rw [if_pos c]
          have : X ≤ 600000 * q := c
          simp [this]
        · rw [if_neg c]
          have : ¬ X ≤ 600000 * q := c
          simp [this]
      · rw [if_neg h, if_neg h]

/-- The law's series: at most 240 samples in their range. -/
theorem fine_l0 (l : List Int) : ∀ (d i n : Nat) (ys : List Int), (l.take 240).length = i + d → ys.length = i → (∀ y ∈ ys, -16383 ≤ y ∧ y ≤ 16383) → d < n →
    ∃ r, substationlaw25_Fine.l0 n l ys (i : Int) = some r ∧ fineB r = true := by
  intro d
  induction d with
  | zero =>
    intro i n ys hi hy hr hn
    obtain ⟨n, rfl⟩ : ∃ j, n = j + 1 := ⟨n - 1, by omega⟩
    refine ⟨ys, ?_, ?_⟩
    · simp only [substationlaw25_Fine.l0]
      by_cases c : (i : Int) < (l.length : Int)
      · rw [if_pos c, if_neg (by simp at hi; omega)]
      · rw [if_neg c]
    · unfold fineB
      simp only [Bool.and_eq_true, decide_eq_true_eq, List.all_eq_true]
      exact ⟨by simp at hi; omega, hr⟩
  | succ d ih =>
    intro i n ys hi hy hr hn
    obtain ⟨n, rfl⟩ : ∃ j, n = j + 1 := ⟨n - 1, by omega⟩
    have hl : i < l.length ∧ i < 240 := by simp at hi; omega
    obtain ⟨t, ht, t0, t1⟩ := within_eq (rd l (i : Int)) 32767 (by omega) (by omega)
    have ew : wrap64 ((i : Int) + 1) = ((i + 1 : Nat) : Int) := by rw [wid (by omega) (by omega)]; rfl
    have et : wrap64 (t - 16383) = t - 16383 := wid (by omega) (by omega)
    obtain ⟨r, hr2, hf⟩ := ih (i + 1) n (ys ++ [t - 16383]) (by omega) (by simp [hy]) (by
      intro y hy
      rcases List.mem_append.1 hy with h | h
      · exact hr y h
      · simp only [List.mem_singleton] at h; omega) (by omega)
    refine ⟨r, ?_, hf⟩
    simp only [substationlaw25_Fine.l0]
    rw [if_pos (by omega), if_pos (by omega), if_pos (by omega), ht]
    simp only [Option.bind_some]
    rw [if_pos (by omega), ew, et]
    exact hr2
theorem fine_ex (l : List Int) (k : Nat) (hk : 1000 < k) : ∃ r, substationlaw25_Fine.f k l = some r ∧ fineB r = true := by
  have hlen : (l.take 240).length ≤ 240 := by simp; omega
  exact fine_l0 l (l.take 240).length 0 k [] (by simp) rfl (by simp) (by omega)

theorem FrequencyWithin : FrequencyWithin_Pure := by
  rintro l a b ⟨_, _, _⟩ _ _
  refine ⟨300000001000, ?_⟩
  unfold substationlaw25_FrequencyWithin.f
  rw [known_eq _ (by omega)]
  simp only [Option.bind_some, if_true]
  obtain ⟨y, hy, hf⟩ := fine_ex l 300000001000 (by omega)
  obtain ⟨d, hd, d0, d1⟩ := within_eq a 50001 (by omega) (by omega)
  obtain ⟨m, hm, m0, m1⟩ := within_eq b 1000 (by omega) (by omega)
  rw [hy]
  simp only [Option.bind_some]
  rw [hd]
  simp only [Option.bind_some]
  rw [wth_eq _ _ _ (by omega)]
  simp only [Option.bind_some]
  rw [hm]
  simp only [Option.bind_some]
  have e1 : mn (wrap64 (d + m)) 50000 = if d + m ≤ 50000 then d + m else 50000 := by
    rw [wid (by omega) (by omega)]; unfold mn; split <;> split <;> omega
  rw [e1, wth_eq _ _ _ (by omega)]
  simp only [Option.bind_some]
  rw [per_eq _ _ (by omega)]
  simp only [Option.bind_some]
  obtain ⟨D, hD, D0, D1⟩ : ∃ D, (if d + m ≤ 50000 then d + m else 50000) = D ∧ d ≤ D ∧ D ≤ 50000 := ⟨_, rfl, by split <;> omega, by split <;> omega⟩
  rw [hD]
  unfold wth
  have g1 : ¬ (d < 0 ∨ d > 50000) := by omega
  have g2 : ¬ (D < 0 ∨ D > 50000) := by omega
  simp only [if_neg g1, if_neg g2]
  by_cases h : (per y).2.2 = 0
  · simp only [if_pos h]
    obtain ⟨⟨a1, a2⟩, b1, b2⟩ := per_ok h
    generalize (per y).1 = p at *
    generalize (per y).2.1 = q at *
    have w1 : wrap64 (50000 - d) = 50000 - d := wid (by omega) (by omega)
    have w2 : wrap64 (50000 + d) = 50000 + d := wid (by omega) (by omega)
    have w3 : wrap64 (600000 * q) = 600000 * q := wid (by omega) (by omega)
    have n1 := mulB (x := 50000 - d) (y := p) (A := 50000) (B := 300000000000) (by omega) (by omega) (by omega) (by omega)
    have n2 := mulB (x := 50000 + d) (y := p) (A := 100000) (B := 300000000000) (by omega) (by omega) (by omega) (by omega)
    have w4 : wrap64 ((50000 - d) * p) = (50000 - d) * p := wid (by omega) (by omega)
    have w5 : wrap64 ((50000 + d) * p) = (50000 + d) * p := wid (by omega) (by omega)
    have o1 : (50000 - D) * p ≤ (50000 - d) * p := Int.mul_le_mul_of_nonneg_right (by omega) (by omega)
    have o2 : (50000 + d) * p ≤ (50000 + D) * p := Int.mul_le_mul_of_nonneg_right (by omega) (by omega)
    simp only [w1, w2, w3, w4, w5]
    generalize (50000 - d) * p = X at *
    generalize (50000 + d) * p = Y at *
    generalize (50000 - D) * p = X2 at *
    generalize (50000 + D) * p = Y2 at *
    generalize 600000 * q = Q at *
    simp only [if_true]
    by_cases c1 : X ≤ Q
    · by_cases c2 : Q ≤ Y
      · have c3 : X2 ≤ Q := by omega
        have c4 : Q ≤ Y2 := by omega
        simp [c1, c2, c3, c4]
      · simp [c1, c2]
    · simp [c1]
  · simp only [if_neg h]
    simp

end Go.Proofs.Ytiemghinklablaa.Pure
