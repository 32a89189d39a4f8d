/- The plain statement of the law FrequencyMeasures, over numbers and lists alone. Conditions: none. -/
import Derived.Test.YtiemghinklablaaStmFrequencyMeasures
import Derived.Laws.Bits64
namespace Go.Proofs.Ytiemghinklablaa.Pure
open Go.RowKit Go.Proofs.Ytiemghinklablaa.PAll Go.Proofs.YtiemghinklablaaW.PrintWords Go.Proofs.YtiemghinklablaaW.PrintLast
set_option linter.unusedVariables false
set_option linter.unusedSimpArgs false
theorem wid {x : Int} (h0 : -9223372036854775808 ≤ x) (h1 : x ≤ 9223372036854775807) : wrap64 x = x := by unfold wrap64; omega
theorem tmod_range (x b : Int) (hb : 0 < b) : -b < Int.tmod x b ∧ Int.tmod x b < b := by
  have h := @Int.tmod_eq_emod x b
  have e1 := Int.emod_nonneg x (show b ≠ 0 by omega)
  have e2 := Int.emod_lt_of_pos x hb
  by_cases c : 0 ≤ x ∨ b ∣ x
  · rw [if_pos c] at h
    omega
  · rw [if_neg c] at h
    have : x % b ≠ 0 := fun e => c (.inr (Int.dvd_of_emod_eq_zero e))
    omega
/-- The law's own remainder lies in its range. -/
theorem within_eq (a b : Int) (hb : 1 ≤ b) (hb2 : b ≤ 100000) : ∃ r, substationlaw25_within.f a b = some r ∧ 0 ≤ r ∧ r < b := by
  unfold substationlaw25_within.f
  rw [if_neg (by omega)]
  obtain ⟨t1, t2⟩ := tmod_range a b (by omega)
  by_cases hn : Int.tmod a b < 0
  · rw [if_pos hn]
    exact ⟨_, rfl, by rw [wid (by omega) (by omega)]; omega, by rw [wid (by omega) (by omega)]; omega⟩
  · rw [if_neg hn]
    exact ⟨_, rfl, by omega, t2⟩
theorem mulB {x y A B : Int} (hx : 0 ≤ x) (hA : x ≤ A) (hy : 0 ≤ y) (hB : y ≤ B) : 0 ≤ x * y ∧ x * y ≤ A * B := ⟨Int.mul_nonneg hx hy, Int.mul_le_mul hA hB hy (by omega)⟩
theorem gc_pos' (a b : Int) (h : 0 < b) : 0 < gc a b := gc_pos a b h
theorem gc_dvd_l (a b : Int) : gc a b ∣ a := Int.gcd_dvd_left ..
theorem gc_dvd_r (a b : Int) : gc a b ∣ b := Int.gcd_dvd_right ..
/-- What a crossing is made of. -/
structure Pt (p : S30) : Prop where
  k0 : 0 ≤ p.f0
  k1 : p.f0 ≤ 238
  n1 : 1 ≤ p.f1
  nd : p.f1 ≤ p.f2
  d1 : p.f2 ≤ 32766
theorem crAt_pt {l : List Int} (h : fineB l = true) {i : Nat} (hi : i + 1 < l.length) {p : S30} (hp : crAt l i = some p) : Pt p ∧ p.f0 = (i : Int) := by
  unfold crAt at hp
  split at hp
  · rename_i hc
    have ha := fine_rd h (i : Int)
    have hb := fine_rd h ((i + 1 : Nat) : Int)
    have hl := (fine_len h).1
    cases hp
    generalize rd l (i : Int) = x at *
    generalize rd l ((i + 1 : Nat) : Int) = y at *
    have hg := gc_pos (-x) (y - x) (by omega)
    have d1 := gc_dvd_l (-x) (y - x)
    have d2 := gc_dvd_r (-x) (y - x)
    generalize gc (-x) (y - x) = g at *
    obtain ⟨u, hu⟩ := d1
    obtain ⟨v, hv⟩ := d2
    have e1 : -x / g = u := by rw [hu]; exact Int.mul_ediv_cancel_left u (by omega)
    have e2 : (y - x) / g = v := by rw [hv]; exact Int.mul_ediv_cancel_left v (by omega)
    have u1 : 1 ≤ u := by
      rcases Int.lt_or_le 0 u with h | h
      · omega
      · have := Int.mul_nonpos_of_nonneg_of_nonpos (by omega : 0 ≤ g) h; omega
    have uv : u ≤ v := by
      rcases Int.lt_or_le v u with h | h
      · have : g * v < g * u := Int.mul_lt_mul_of_pos_left h hg
        omega
      · exact h
    have vd : v ≤ 32766 := by
      have : v ≤ g * v := by have := Int.mul_le_mul_of_nonneg_right (show (1 : Int) ≤ g by omega) (by omega : 0 ≤ v); omega
      omega
    refine ⟨⟨?_, ?_, ?_, ?_, ?_⟩, rfl⟩
    · show (0 : Int) ≤ (i : Int); omega
    · show (i : Int) ≤ 238; omega
    · show 1 ≤ -x / g; rw [e1]; exact u1
    · show -x / g ≤ (y - x) / g; rw [e1, e2]; exact uv
    · show (y - x) / g ≤ 32766; rw [e2]; exact vd
  · cases hp
theorem mem_upto {l : List Int} {i : Nat} {p : S30} (h : p ∈ upto l i) : ∃ j, j < i ∧ crAt l j = some p := by
  unfold upto at h
  obtain ⟨j, hj, hp⟩ := List.mem_filterMap.1 h
  exact ⟨j, by simpa using hj, hp⟩
theorem cross_pt {l : List Int} (h : fineB l = true) {p : S30} (hp : p ∈ cross l) : Pt p := by
  obtain ⟨j, hj, hc⟩ := mem_upto hp
  exact (crAt_pt h (by omega) hc).1
/-- The crossings are in ascending order. -/
theorem upto_sorted {l : List Int} (h : fineB l = true) (i : Nat) (hi : i ≤ l.length - 1) : (upto l i).Pairwise (fun p q => p.f0 < q.f0) := by
  induction i with
  | zero => exact List.Pairwise.nil
  | succ i ih =>
    rw [upto_succ]
    refine List.pairwise_append.2 ⟨ih (by omega), ?_, ?_⟩
    · cases crAt l i <;> simp
    · intro p hp q hq
      obtain ⟨j, hj, hc⟩ := mem_upto hp
      cases hc2 : crAt l i with
      | none => rw [hc2] at hq; cases hq
      | some r =>
        rw [hc2] at hq
        simp only [Option.toList_some, List.mem_singleton] at hq
        subst hq
        have e1 := (crAt_pt h (by omega) hc).2
        have e2 := (crAt_pt h (by omega) hc2).2
        omega
theorem cross_len (l : List Int) (h : fineB l = true) : (cross l).length ≤ 239 := by
  have := upto_le l (l.length - 1)
  have := (fine_len h).1
  unfold cross
  omega
theorem rd30_mem (xs : List S30) (i : Nat) (h : i < xs.length) : rd_T30 xs (i : Int) = xs[i] := by simp [rd_T30, h]
/-- numerator and denominator of the mean period, and their divisor -/
def pnum (a b : S30) : Int := (b.f0 - a.f0) * a.f2 * b.f2 + b.f1 * a.f2 - a.f1 * b.f2
def pden (a b : S30) (n : Nat) : Int := a.f2 * b.f2 * ((n : Int) - 1)
theorem pbounds {a b : S30} {n : Nat} (ha : Pt a) (hb : Pt b) (hk : a.f0 < b.f0) (hn : 2 ≤ n) (hn2 : n ≤ 239) :
    (0 < pnum a b ∧ pnum a b ≤ 300000000000) ∧ (0 < pden a b n ∧ pden a b n ≤ 300000000000) ∧
    wrap64 (wrap64 (wrap64 (wrap64 (wrap64 (b.f0 - a.f0) * a.f2) * b.f2) + wrap64 (b.f1 * a.f2)) - wrap64 (a.f1 * b.f2)) = pnum a b ∧
    wrap64 (wrap64 (a.f2 * b.f2) * wrap64 ((n : Int) - 1)) = pden a b n := by
  obtain ⟨ak0, ak1, an1, and_, ad1⟩ := ha
  obtain ⟨bk0, bk1, bn1, bnd, bd1⟩ := hb
  have w1 : wrap64 (b.f0 - a.f0) = b.f0 - a.f0 := wid (by omega) (by omega)
  have m1 := mulB (x := b.f0 - a.f0) (y := a.f2) (A := 238) (B := 32766) (by omega) (by omega) (by omega) (by omega)
  have w2 : wrap64 ((b.f0 - a.f0) * a.f2) = (b.f0 - a.f0) * a.f2 := wid (by omega) (by omega)
  have m2 := mulB (x := (b.f0 - a.f0) * a.f2) (y := b.f2) (A := 238 * 32766) (B := 32766) m1.1 m1.2 (by omega) (by omega)
  have w3 : wrap64 ((b.f0 - a.f0) * a.f2 * b.f2) = (b.f0 - a.f0) * a.f2 * b.f2 := wid (by omega) (by omega)
  have m3 := mulB (x := b.f1) (y := a.f2) (A := 32766) (B := 32766) (by omega) (by omega) (by omega) (by omega)
  have w4 : wrap64 (b.f1 * a.f2) = b.f1 * a.f2 := wid (by omega) (by omega)
  have m4 := mulB (x := a.f1) (y := b.f2) (A := 32766) (B := 32766) (by omega) (by omega) (by omega) (by omega)
  have w5 : wrap64 (a.f1 * b.f2) = a.f1 * b.f2 := wid (by omega) (by omega)
  have m5 := mulB (x := a.f2) (y := b.f2) (A := 32766) (B := 32766) (by omega) (by omega) (by omega) (by omega)
  have w6 : wrap64 (a.f2 * b.f2) = a.f2 * b.f2 := wid (by omega) (by omega)
  have w7 : wrap64 ((n : Int) - 1) = (n : Int) - 1 := wid (by omega) (by omega)
  have m6 := mulB (x := a.f2 * b.f2) (y := (n : Int) - 1) (A := 32766 * 32766) (B := 238) m5.1 m5.2 (by omega) (by omega)
  have w8 : wrap64 (a.f2 * b.f2 * ((n : Int) - 1)) = a.f2 * b.f2 * ((n : Int) - 1) := wid (by omega) (by omega)
  have low : a.f2 * b.f2 ≤ (b.f0 - a.f0) * a.f2 * b.f2 := by
    have : 1 * a.f2 ≤ (b.f0 - a.f0) * a.f2 := Int.mul_le_mul_of_nonneg_right (by omega) (by omega)
    have := Int.mul_le_mul_of_nonneg_right this (show 0 ≤ b.f2 by omega)
    rwa [Int.one_mul] at this
  have low2 : a.f1 * b.f2 ≤ a.f2 * b.f2 := Int.mul_le_mul_of_nonneg_right (by omega) (by omega)
  have low3 : 1 * 1 ≤ b.f1 * a.f2 := Int.mul_le_mul (by omega) (by omega) (by omega) (by omega)
  have low4 : 1 * 1 ≤ a.f2 * b.f2 := Int.mul_le_mul (by omega) (by omega) (by omega) (by omega)
  have low5 : 1 * 1 ≤ a.f2 * b.f2 * ((n : Int) - 1) := Int.mul_le_mul (by omega) (by omega) (by omega) (by omega)
  unfold pnum pden
  rw [w1, w2, w3, w4, w5, w6, w7, w8]
  generalize (b.f0 - a.f0) * a.f2 * b.f2 = X at *
  generalize b.f1 * a.f2 = Y at *
  generalize a.f1 * b.f2 = Z at *
  generalize a.f2 * b.f2 * ((n : Int) - 1) = U at *
  generalize a.f2 * b.f2 = V at *
  have w9 : wrap64 (X + Y) = X + Y := wid (by omega) (by omega)
  have w10 : wrap64 (X + Y - Z) = X + Y - Z := wid (by omega) (by omega)
  rw [w9, w10]
  exact ⟨⟨by omega, by omega⟩, ⟨by omega, by omega⟩, rfl, rfl⟩
/-- What Period answers. -/
def per (l : List Int) : Int × Int × Int :=
  if fineB l = true then
    (if (cross l).length < 2 then (0, 0, 18)
     else (pnum (rd_T30 (cross l) 0) (rd_T30 (cross l) (((cross l).length - 1 : Nat) : Int)) / gc (pnum (rd_T30 (cross l) 0) (rd_T30 (cross l) (((cross l).length - 1 : Nat) : Int))) (pden (rd_T30 (cross l) 0) (rd_T30 (cross l) (((cross l).length - 1 : Nat) : Int)) (cross l).length),
           pden (rd_T30 (cross l) 0) (rd_T30 (cross l) (((cross l).length - 1 : Nat) : Int)) (cross l).length / gc (pnum (rd_T30 (cross l) 0) (rd_T30 (cross l) (((cross l).length - 1 : Nat) : Int))) (pden (rd_T30 (cross l) 0) (rd_T30 (cross l) (((cross l).length - 1 : Nat) : Int)) (cross l).length), 0))
  else (0, 0, 1)
theorem ends_pt {l : List Int} (h : fineB l = true) (h2 : 2 ≤ (cross l).length) : Pt (rd_T30 (cross l) 0) ∧ Pt (rd_T30 (cross l) (((cross l).length - 1 : Nat) : Int)) ∧ (rd_T30 (cross l) 0).f0 < (rd_T30 (cross l) (((cross l).length - 1 : Nat) : Int)).f0 := by
  have e0 : rd_T30 (cross l) 0 = (cross l)[0] := rd30_mem (cross l) 0 (by omega)
  have e1 := rd30_mem (cross l) ((cross l).length - 1) (by omega)
  rw [e0, e1]
  refine ⟨cross_pt h (List.getElem_mem _), cross_pt h (List.getElem_mem _), ?_⟩
  exact List.pairwise_iff_getElem.1 (upto_sorted h (l.length - 1) (Nat.le_refl _)) 0 ((cross l).length - 1) (by unfold cross at h2; omega) (by unfold cross at h2 ⊢; omega) (by omega)
/-- A fraction in lowest terms, as the code divides it. -/
theorem low_terms {x y : Int} (hx : 0 < x) (hx2 : x ≤ 300000000000) (hy : 0 < y) (hy2 : y ≤ 300000000000) :
    gc x y ≠ 0 ∧ wrap64 (Int.tdiv x (gc x y)) = x / gc x y ∧ wrap64 (Int.tdiv y (gc x y)) = y / gc x y ∧ 1 ≤ x / gc x y ∧ x / gc x y ≤ x ∧ 1 ≤ y / gc x y ∧ y / gc x y ≤ y := by
  have hg := gc_pos x y hy
  have d1 := gc_dvd_l x y
  have d2 := gc_dvd_r x y
  generalize gc x y = g at *
  have b1 : x / g ≤ x := Int.ediv_le_self _ (by omega)
  have b2 : y / g ≤ y := Int.ediv_le_self _ (by omega)
  have c1 : 1 ≤ x / g := by
    have := Int.le_of_dvd hx d1
    exact Int.le_ediv_of_mul_le hg (by omega)
  have c2 : 1 ≤ y / g := by
    have := Int.le_of_dvd hy d2
    exact Int.le_ediv_of_mul_le hg (by omega)
  rw [Int.tdiv_eq_ediv_of_nonneg (by omega), Int.tdiv_eq_ediv_of_nonneg (by omega)]
  exact ⟨by omega, wid (by omega) (by omega), wid (by omega) (by omega), c1, b1, c2, b2⟩
theorem per_eq (l : List Int) (k : Nat) (hk : 300000000000 < k) : frequency_Period.f k l = some (per l) := by
  unfold frequency_Period.f frequency_Crossings.f per
  simp only [Option.bind_some]
  cases hf : fineB l with
  | false => simp
  | true =>
    simp only [if_true]
    by_cases h2 : (cross l).length < 2
    · have : ((cross l).length : Int) < 2 := by omega
      rw [if_pos this, if_pos h2]
    · rw [if_neg (by omega), if_neg h2]
      have hn := cross_len l hf
      have ew : wrap64 (((cross l).length : Int) - 1) = (((cross l).length - 1 : Nat) : Int) := by rw [wid (by omega) (by omega)]; omega
      obtain ⟨p1, p2, p3⟩ := ends_pt hf (by omega)
      have hb := pbounds (n := (cross l).length) p1 p2 p3 (by omega) hn
      obtain ⟨⟨b1, b2⟩, ⟨b3, b4⟩, b5, b6⟩ := hb
      rw [ew] at b6 ⊢
      rw [if_pos (by omega), if_pos (Int.natCast_nonneg _), if_pos (by omega)]
      rw [b5, b6, divisor_gc _ _ (by omega) (by omega) k (by omega)]
      simp only [Option.bind_some]
      obtain ⟨g0, g1, g2, _⟩ := low_terms b1 b2 b3 b4
      rw [if_neg g0, g1, g2]
/-- Of a period that is one: what its numbers are. -/
theorem per_ok {l : List Int} (h : (per l).2.2 = 0) : (1 ≤ (per l).1 ∧ (per l).1 ≤ 300000000000) ∧ (1 ≤ (per l).2.1 ∧ (per l).2.1 ≤ 300000000000) := by
  unfold per at h ⊢
  split at h
  · rename_i hf
    rw [if_pos hf]
    split at h
    · cases h
    · rename_i h2
      rw [if_neg h2]
      obtain ⟨p1, p2, p3⟩ := ends_pt hf (by omega)
      obtain ⟨⟨b1, b2⟩, ⟨b3, b4⟩, _⟩ := pbounds (n := (cross l).length) p1 p2 p3 (by omega) (cross_len l hf)
      obtain ⟨_, _, _, c1, c2, c3, c4⟩ := low_terms b1 b2 b3 b4
      exact ⟨⟨c1, Int.le_trans c2 b2⟩, ⟨c3, Int.le_trans c4 b4⟩⟩
  · cases h
def mhz (l : List Int) : Int × Int := if (per l).2.2 = 0 then ((1200000 * (per l).2.1 + (per l).1) / (2 * (per l).1), 0) else (0, (per l).2.2)
theorem mhz_eq (l : List Int) (k : Nat) (hk : 300000000000 < k) : frequency_Millihertz.f k l = some (mhz l) := by
  unfold frequency_Millihertz.f mhz
  rw [per_eq l k hk]
  simp only [Option.bind_some]
  by_cases h : (per l).2.2 = 0
  · rw [if_pos h, if_pos h]
    obtain ⟨⟨a1, a2⟩, b1, b2⟩ := per_ok h
    generalize (per l).1 = p at *
    generalize (per l).2.1 = q at *
    have w1 : wrap64 (2 * p) = 2 * p := wid (by omega) (by omega)
    have w2 : wrap64 (1200000 * q) = 1200000 * q := wid (by omega) (by omega)
    have w3 : wrap64 (1200000 * q + p) = 1200000 * q + p := wid (by omega) (by omega)
    rw [w1, w2, w3, if_neg (by omega), Int.tdiv_eq_ediv_of_nonneg (by omega)]
    have c1 : 0 ≤ (1200000 * q + p) / (2 * p) := Int.ediv_nonneg (by omega) (by omega)
    have c2 : (1200000 * q + p) / (2 * p) ≤ 1200000 * q + p := Int.ediv_le_self _ (by omega)
    rw [wid (by omega) (by omega)]
  · rw [if_neg h, if_neg h]
theorem known_eq (k : Nat) (hk : 300000000000 < k) : substationlaw25_known.f k = some true := by
  unfold substationlaw25_known.f
  simp only [Option.bind_some]
  rw [mhz_eq _ k hk]
  have hc : cross [(-1), 1, 1, 1, 1, 1, 1, (-1), (-1), (-1), (-1), (-1), (-1), 1] = [⟨0, 1, 2⟩, ⟨12, 1, 2⟩] := by rfl
  have hf : fineB [(-1), 1, 1, 1, 1, 1, 1, (-1), (-1), (-1), (-1), (-1), (-1), 1] = true := by decide
  have hp : per [(-1), 1, 1, 1, 1, 1, 1, (-1), (-1), (-1), (-1), (-1), (-1), 1] = (12, 1, 0) := by
    unfold per
    rw [if_pos hf, hc]
    rfl
  have hm : mhz [(-1), 1, 1, 1, 1, 1, 1, (-1), (-1), (-1), (-1), (-1), (-1), 1] = (50000, 0) := by
    unfold mhz
    rw [hp]
    rfl
  rw [hm]
  unfold frequency_Crossings.f
  rw [if_pos hf, hc]
  rfl

def wth (l : List Int) (d : Int) : Bool × Int :=
  if d < 0 ∨ d > 50000 then (false, 1) else if (per l).2.2 = 0 then (decide ((50000 - d) * (per l).1 ≤ 600000 * (per l).2.1 ∧ 600000 * (per l).2.1 ≤ (50000 + d) * (per l).1), 0) else (false, (per l).2.2)
theorem wth_eq (l : List Int) (d : Int) (k : Nat) (hk : 300000000001 < k) : frequency_Within.f k l d = some (wth l d) := by
  obtain ⟨k, rfl⟩ : ∃ j, k = j + 1 := ⟨k - 1, by omega⟩
  unfold frequency_Within.f wth
  simp only [frequency_Within.j0]
  by_cases h1 : d < 0
  · have e : d < 0 ∨ d > 50000 := .inl h1
    simp only [if_pos h1, if_pos e, if_true]
  · rw [if_neg h1]
    by_cases h2 : d > 50000
    · have e : d < 0 ∨ d > 50000 := .inr h2
      have e2 : decide (d > 50000) = true := decide_eq_true h2
      simp only [e2, if_pos e, if_true]
    · have e : ¬ (d < 0 ∨ d > 50000) := by omega
      have e2 : decide (d > 50000) = false := decide_eq_false h2
      rw [e2, if_neg Bool.false_ne_true, if_neg e, per_eq l k (by omega)]
      simp only [Option.bind_some]
      by_cases h : (per l).2.2 = 0
      · rw [if_pos h, if_pos h]
        obtain ⟨⟨a1, a2⟩, b1, b2⟩ := per_ok h
        generalize (per l).1 = p at *
        generalize (per l).2.1 = q at *
        have w1 : wrap64 (600000 * q) = 600000 * q := wid (by omega) (by omega)
        have w2 : wrap64 (50000 - d) = 50000 - d := wid (by omega) (by omega)
        have w3 : wrap64 (50000 + d) = 50000 + d := wid (by omega) (by omega)
        have m1 := mulB (x := 50000 - d) (y := p) (A := 50000) (B := 300000000000) (by omega) (by omega) (by omega) (by omega)
        have m2 := mulB (x := 50000 + d) (y := p) (A := 100000) (B := 300000000000) (by omega) (by omega) (by omega) (by omega)
        rw [w1, w2, w3, wid (x := (50000 - d) * p) (by omega) (by omega), wid (x := (50000 + d) * p) (by omega) (by omega)]
        generalize (50000 - d) * p = X at *
        generalize (50000 + d) * p = Y at *
        by_cases c : 600000 * q ≥ X
        · rw [if_pos c]
          have : X ≤ 600000 * q := c
          simp [this]
        · rw [if_neg c]
          have : ¬ X ≤ 600000 * q := c
          simp [this]
      · rw [if_neg h, if_neg h]

theorem u64id {x : Int} (h0 : 0 ≤ x) (h1 : x < 18446744073709551616) : IntKind.u64.wrap x = x := by
  rw [IntKind.wrap_u64]; omega
/-- The number that a list of digits tells, the lowest first. -/
def val : List Int → Int
  | [] => 0
  | d :: t => d + 4294967296 * val t
def Dig (l : List Int) : Prop := ∀ d ∈ l, 0 ≤ d ∧ d < 4294967296
theorem dig_rd {l : List Int} (h : Dig l) (i : Int) : 0 ≤ rd l i ∧ rd l i < 4294967296 := by
  unfold rd
  by_cases hi : i.toNat < l.length
  · rw [List.getD_eq_getElem?_getD, List.getElem?_eq_getElem hi]
    exact h _ (List.getElem_mem hi)
  · rw [List.getD_eq_getElem?_getD, List.getElem?_eq_none (by omega)]
    simp
theorem val_nonneg {l : List Int} (h : Dig l) : 0 ≤ val l := by
  induction l with
  | nil => exact Int.le_refl _
  | cons d t ih =>
    have := h d (by simp)
    have := ih (fun x hx => h x (by simp [hx]))
    simp only [val]
    omega
theorem val_append (a b : List Int) : val (a ++ b) = val a + 4294967296 ^ a.length * val b := by
  induction a with
  | nil => simp [val]
  | cons d t ih =>
    simp only [List.cons_append, val, ih, List.length_cons, Int.pow_succ, Int.mul_add]
    rw [Int.mul_comm ((4294967296 : Int) ^ t.length) 4294967296, ← Int.mul_assoc]
    omega
theorem pow_pos' (n : Nat) : 0 < (4294967296 : Int) ^ n := Int.pow_pos (by omega)
theorem val_lt {l : List Int} (h : Dig l) : val l < 4294967296 ^ l.length := by
  induction l with
  | nil => simp [val]
  | cons d t ih =>
    have h1 := h d (by simp)
    have h2 := ih (fun x hx => h x (by simp [hx]))
    simp only [val, List.length_cons, Int.pow_succ]
    omega
theorem val_set (l : List Int) (i : Nat) (v : Int) (h : i < l.length) : val (l.set i v) = val l + (v - rd l (i : Int)) * 4294967296 ^ i := by
  induction l generalizing i with
  | nil => simp at h
  | cons d t ih =>
    cases i with
    | zero => simp [val, rd]; omega
    | succ i =>
      have := ih i (by simpa using h)
      simp only [List.set_cons_succ, val, this, Int.pow_succ]
      have e : rd (d :: t) ((i + 1 : Nat) : Int) = rd t (i : Int) := by simp [rd]
      rw [e]
      generalize (v - rd t (i : Int)) = x
      generalize (4294967296 : Int) ^ i = p
      rw [Int.mul_add, ← Int.mul_assoc x p, Int.mul_comm 4294967296 (x * p)]
      omega
theorem val_snoc (l : List Int) (x : Int) : val (l ++ [x]) = val l + 4294967296 ^ l.length * x := by
  rw [val_append]; simp [val]
theorem val_trim (l : List Int) : val (trimL l) = val l := by
  have key : ∀ n, ∀ l : List Int, l.length = n → val (trimL l) = val l := by
    intro n
    induction n with
    | zero => intro l hl; have : l = [] := List.eq_nil_of_length_eq_zero hl; subst this; rfl
    | succ n ih =>
      intro l hl
      have hne : l ≠ [] := by intro e; rw [e] at hl; simp at hl
      obtain ⟨t, x, rfl⟩ : ∃ t x, l = t ++ [x] := ⟨l.dropLast, l.getLast hne, (List.dropLast_concat_getLast hne).symm⟩
      by_cases hx : x = 0
      · subst hx
        rw [trimL_zero, ih t (by simpa using hl), val_snoc]
        simp
      · rw [trimL_last _ _ hx]
  exact key _ l rfl
/-- No zero at the end. -/
def Can (l : List Int) : Prop := trimL l = l
theorem can_trim (l : List Int) : Can (trimL l) := by
  unfold Can
  have key : ∀ n, ∀ l : List Int, l.length = n → trimL (trimL l) = trimL l := by
    intro n
    induction n with
    | zero => intro l hl; have : l = [] := List.eq_nil_of_length_eq_zero hl; subst this; rfl
    | succ n ih =>
      intro l hl
      have hne : l ≠ [] := by intro e; rw [e] at hl; simp at hl
      obtain ⟨t, x, rfl⟩ : ∃ t x, l = t ++ [x] := ⟨l.dropLast, l.getLast hne, (List.dropLast_concat_getLast hne).symm⟩
      by_cases hx : x = 0
      · subst hx
        rw [trimL_zero, ih t (by simpa using hl)]
      · rw [trimL_last _ _ hx, trimL_last _ _ hx]
  exact key _ l rfl
theorem trim_pre (l : List Int) : ∃ t, trimL l ++ t = l := by
  have key : ∀ n, ∀ l : List Int, l.length = n → ∃ t, trimL l ++ t = l := by
    intro n
    induction n with
    | zero => intro l hl; have : l = [] := List.eq_nil_of_length_eq_zero hl; subst this; exact ⟨[], rfl⟩
    | succ n ih =>
      intro l hl
      have hne : l ≠ [] := by intro e; rw [e] at hl; simp at hl
      obtain ⟨t, x, rfl⟩ : ∃ t x, l = t ++ [x] := ⟨l.dropLast, l.getLast hne, (List.dropLast_concat_getLast hne).symm⟩
      by_cases hx : x = 0
      · subst hx
        obtain ⟨u, hu⟩ := ih t (by simpa using hl)
        exact ⟨u ++ [0], by rw [trimL_zero, ← List.append_assoc, hu]⟩
      · exact ⟨[], by rw [trimL_last _ _ hx, List.append_nil]⟩
  exact key _ l rfl
theorem dig_trim {l : List Int} (h : Dig l) : Dig (trimL l) := by
  obtain ⟨t, ht⟩ := trim_pre l
  intro d hd
  exact h d (by rw [← ht]; simp [hd])
theorem trim_len (l : List Int) : (trimL l).length ≤ l.length := by
  obtain ⟨t, ht⟩ := trim_pre l
  have := congrArg List.length ht
  simp at this
  omega
theorem can_last {l : List Int} (h : Can l) (hd : Dig l) (h0 : 0 < l.length) : 1 ≤ rd l ((l.length - 1 : Nat) : Int) := by
  have hne : l ≠ [] := by intro e; rw [e] at h0; simp at h0
  obtain ⟨t, x, rfl⟩ : ∃ t x, l = t ++ [x] := ⟨l.dropLast, l.getLast hne, (List.dropLast_concat_getLast hne).symm⟩
  have hx := hd x (by simp)
  have e : rd (t ++ [x]) (((t ++ [x]).length - 1 : Nat) : Int) = x := by
    simp [rd]
  rw [e]
  rcases Int.lt_or_le 0 x with h1 | h1
  · exact h1
  · have : x = 0 := by omega
    subst this
    unfold Can at h
    rw [trimL_zero] at h
    have h4 := trim_len t
    have h5 := congrArg List.length h
    rw [List.length_append, List.length_singleton] at h5
    omega
/-- A canonical number of more digits is larger. -/
theorem can_big {l : List Int} (h : Can l) (hd : Dig l) (h0 : 0 < l.length) : 4294967296 ^ (l.length - 1) ≤ val l := by
  have h1 := can_last h hd h0
  have hne : l ≠ [] := by intro e; rw [e] at h0; simp at h0
  obtain ⟨t, x, rfl⟩ : ∃ t x, l = t ++ [x] := ⟨l.dropLast, l.getLast hne, (List.dropLast_concat_getLast hne).symm⟩
  have e : rd (t ++ [x]) (((t ++ [x]).length - 1 : Nat) : Int) = x := by
    simp [rd]
  rw [e] at h1
  rw [val_snoc]
  have hv := val_nonneg (l := t) (fun d hd' => hd d (by simp [hd']))
  have : (t ++ [x]).length - 1 = t.length := by simp
  rw [this]
  have := Int.mul_le_mul_of_nonneg_left h1 (Int.le_of_lt (pow_pos' t.length))
  omega
theorem take_drop_val (l : List Int) (i : Nat) (h : i < l.length) : val (l.drop i) = rd l (i : Int) + 4294967296 * val (l.drop (i + 1)) := by
  rw [List.drop_eq_getElem_cons h]
  simp [val, rd, h]
theorem cut_val (l : List Int) (i : Nat) (h : i ≤ l.length) : val l = val (l.take i) + 4294967296 ^ i * val (l.drop i) := by
  have := val_append (l.take i) (l.drop i)
  rw [List.take_append_drop, List.length_take, Nat.min_eq_left h] at this
  exact this
theorem cmp_l0 {a b : List Int} (ha : Dig a) (hb : Dig b) (hl : a.length = b.length) (hs : a.length ≤ 1000) : ∀ (i k : Nat), i ≤ a.length → val (a.drop i) = val (b.drop i) → i < k →
    ∃ r, substationref01_compare.l0 k a b ((i : Int) - 1) = some r ∧ (r = -1 ∧ val a < val b ∨ r = 0 ∧ val a = val b ∨ r = 1 ∧ val b < val a) := by
  intro i
  induction i with
  | zero =>
    intro k hi he hk
    obtain ⟨k, rfl⟩ : ∃ j, k = j + 1 := ⟨k - 1, by omega⟩
    refine ⟨0, ?_, .inr (.inl ⟨rfl, by simpa using he⟩)⟩
    rw [substationref01_compare.l0, if_neg (by omega)]
  | succ i ih =>
    intro k hi he hk
    obtain ⟨k, rfl⟩ : ∃ j, k = j + 1 := ⟨k - 1, by omega⟩
    have e : ((i + 1 : Nat) : Int) - 1 = (i : Int) := by omega
    have da := dig_rd ha (i : Int)
    have db := dig_rd hb (i : Int)
    have ca := cut_val a i (by omega)
    have cb := cut_val b i (by omega)
    have ta := take_drop_val a i (by omega)
    have tb := take_drop_val b i (by omega)
    have va := val_lt (l := a.take i) (fun d hd => ha d (List.mem_of_mem_take hd))
    have vb := val_lt (l := b.take i) (fun d hd => hb d (List.mem_of_mem_take hd))
    have na := val_nonneg (l := a.take i) (fun d hd => ha d (List.mem_of_mem_take hd))
    have nb := val_nonneg (l := b.take i) (fun d hd => hb d (List.mem_of_mem_take hd))
    rw [List.length_take, Nat.min_eq_left (by omega)] at va vb
    have hp := pow_pos' i
    rw [e, substationref01_compare.l0, if_pos (by omega), if_pos (by omega), if_pos (by omega), if_pos (by omega)]
    generalize (4294967296 : Int) ^ i = P at *
    by_cases h1 : rd a (i : Int) < rd b (i : Int)
    · rw [if_pos h1]
      refine ⟨-1, rfl, .inl ⟨rfl, ?_⟩⟩
      have : P * (val (a.drop i) + 1) ≤ P * val (b.drop i) := Int.mul_le_mul_of_nonneg_left (by omega) (by omega)
      rw [Int.mul_add, Int.mul_one] at this
      omega
    · rw [if_neg h1]
      by_cases h2 : rd a (i : Int) > rd b (i : Int)
      · rw [if_pos h2]
        refine ⟨1, rfl, .inr (.inr ⟨rfl, ?_⟩)⟩
        have : P * (val (b.drop i) + 1) ≤ P * val (a.drop i) := Int.mul_le_mul_of_nonneg_left (by omega) (by omega)
        rw [Int.mul_add, Int.mul_one] at this
        omega
      · rw [if_neg h2]
        have ew : wrap64 ((i : Int) - 1) = (i : Int) - 1 := wid (by omega) (by omega)
        rw [ew]
        exact ih k (by omega) (by omega) (by omega)
theorem pow_mono {m n : Nat} (h : m ≤ n) : (4294967296 : Int) ^ m ≤ 4294967296 ^ n := by
  obtain ⟨d, rfl⟩ := Nat.exists_eq_add_of_le h
  rw [Int.pow_add]
  have := pow_pos' m
  have h2 := pow_pos' d
  have := Int.mul_le_mul_of_nonneg_left (show (1 : Int) ≤ 4294967296 ^ d by omega) (Int.le_of_lt this)
  omega
theorem cmp_eq {a b : List Int} (ha : Dig a) (hb : Dig b) (ca : Can a) (cb : Can b) (hs : a.length ≤ 400) (hs2 : b.length ≤ 400) (k : Nat) (hk : 1000 < k) :
    ∃ r, substationref01_compare.f k a b = some r ∧ (r = -1 ∧ val a < val b ∨ r = 0 ∧ val a = val b ∨ r = 1 ∧ val b < val a) := by
  unfold substationref01_compare.f
  by_cases h : a.length = b.length
  · rw [if_pos (by omega)]
    have ew : wrap64 ((a.length : Int) - 1) = (a.length : Int) - 1 := wid (by omega) (by omega)
    rw [ew]
    refine cmp_l0 ha hb h (by omega) a.length k (Nat.le_refl _) ?_ (by omega)
    rw [List.drop_of_length_le (by omega), List.drop_of_length_le (by omega)]
  · rw [if_neg (by omega)]
    by_cases h2 : a.length < b.length
    · rw [if_pos (by omega)]
      refine ⟨-1, rfl, .inl ⟨rfl, ?_⟩⟩
      have h3 := can_big cb hb (by omega)
      have h4 := val_lt ha
      have h5 := pow_mono (show a.length ≤ b.length - 1 by omega)
      omega
    · rw [if_neg (by omega)]
      refine ⟨1, rfl, .inr (.inr ⟨rfl, ?_⟩)⟩
      have h3 := can_big ca ha (by omega)
      have h4 := val_lt hb
      have h5 := pow_mono (show b.length ≤ a.length - 1 by omega)
      omega
theorem dig_set {l : List Int} (h : Dig l) (i : Nat) (v : Int) (h0 : 0 ≤ v) (h1 : v < 4294967296) : Dig (l.set i v) := by
  intro d hd
  rcases List.mem_or_eq_of_mem_set hd with h2 | h2
  · exact h d h2
  · omega
theorem rd_set_ne (l : List Int) (i j : Nat) (v : Int) (h : i ≠ j) : rd (l.set i v) (j : Int) = rd l (j : Int) := by
  unfold rd
  rw [List.getD_eq_getElem?_getD, List.getD_eq_getElem?_getD, Int.toNat_natCast, List.getElem?_set_ne h]
theorem wnat2 (i j : Nat) (h : i + j ≤ 100000) : wrap64 ((i : Int) + (j : Int)) = ((i + j : Nat) : Int) := by rw [wid (by omega) (by omega)]; rfl
/-- The inner loop: one digit times a number, added in its place. -/
theorem times_l1 (a b : List Int) (ha : Dig a) (hb : Dig b) (hsa : a.length ≤ 1000) (hsb : b.length ≤ 1000) (i : Nat) (hi : i < a.length) :
    ∀ (d j k : Nat) (out : List Int) (c : Int), b.length = j + d → out.length = a.length + b.length → Dig out → 0 ≤ c → c < 4294967296 → (∀ m, i + j ≤ m → rd out (m : Int) = 0 ∨ m < i + b.length) → rd out ((i + b.length : Nat) : Int) = 0 →
      (∀ m : Nat, i + b.length ≤ m → rd out (m : Int) = 0) → d < k →
      ∃ out', Dig out' ∧ out'.length = a.length + b.length ∧ (∀ m : Nat, i + 1 + b.length ≤ m → rd out' (m : Int) = 0) ∧
        val out' = val out + 4294967296 ^ (i + j) * (c + rd a (i : Int) * val (b.drop j)) ∧
        substationref01_times.l1 k a b out (i : Int) c (j : Int) = substationref01_times.l0 (k - d - 1) a b out' ((i + 1 : Nat) : Int) := by
  intro d
  induction d with
  | zero =>
    intro j k out c hj ho hd hc0 hc1 _ hz hzz hk
    obtain ⟨k, rfl⟩ : ∃ n, k = n + 1 := ⟨k - 1, by omega⟩
    have ej : j = b.length := by omega
    subst ej
    have w1 : True → wrap64 ((i : Int) + (b.length : Int)) = ((i + b.length : Nat) : Int) := fun _ => wnat2 i b.length (by omega)
    have w2 : True → wrap64 ((i : Int) + 1) = ((i + 1 : Nat) : Int) := fun _ => wnat2 i 1 (by omega)
    have em : c % 4294967296 = c := by omega
    have g1 : ¬ ((b.length : Nat) : Int) < (b.length : Int) := by omega
    have g2 : (0 : Int) ≤ ((i + b.length : Nat) : Int) := by omega
    have g3 : ((i + b.length : Nat) : Int) < (out.length : Int) := by omega
    have g4 : i + b.length < out.length := by omega
    refine ⟨out.set (i + b.length) c, dig_set hd _ _ hc0 hc1, by simpa using ho, ?_, ?_, ?_⟩
    · intro m hm
      rw [rd_set_ne _ _ _ _ (by omega)]
      exact hzz m (by omega)
    · rw [val_set _ _ _ g4, hz, List.drop_of_length_le (Nat.le_refl _)]
      simp [val, Int.mul_comm]
    · rw [substationref01_times.l1, if_neg g1, w1 trivial, if_pos g2, if_pos g3, em, w2 trivial]
      rfl
  | succ d ih =>
    intro j k out c hj ho hd hc0 hc1 hx hz hzz hk
    obtain ⟨k, rfl⟩ : ∃ n, k = n + 1 := ⟨k - 1, by omega⟩
    have da := dig_rd ha (i : Int)
    have db := dig_rd hb (j : Int)
    have dt := dig_rd hd ((i + j : Nat) : Int)
    have w1 : True → wrap64 ((i : Int) + (j : Int)) = ((i + j : Nat) : Int) := fun _ => wnat2 i j (by omega)
    have w2 : True → wrap64 ((j : Int) + 1) = ((j + 1 : Nat) : Int) := fun _ => wnat2 j 1 (by omega)
    have g1 : (j : Int) < (b.length : Int) := by omega
    have g2 : (0 : Int) ≤ (i : Int) := by omega
    have g3 : (i : Int) < (a.length : Int) := by omega
    have g4 : (0 : Int) ≤ (j : Int) := by omega
    have g5 : (0 : Int) ≤ ((i + j : Nat) : Int) := by omega
    have g6 : ((i + j : Nat) : Int) < (out.length : Int) := by omega
    have g7 : i + j < out.length := by omega
    have g8 : j < b.length := by omega
    have m1 := mulB (x := rd a (i : Int)) (y := rd b (j : Int)) (A := 4294967295) (B := 4294967295) (by omega) (by omega) (by omega) (by omega)
    obtain ⟨A, hA⟩ : ∃ A, rd a (i : Int) = A := ⟨_, rfl⟩
    obtain ⟨B, hB⟩ : ∃ B, rd b (j : Int) = B := ⟨_, rfl⟩
    obtain ⟨T, hT⟩ : ∃ T, rd out ((i + j : Nat) : Int) = T := ⟨_, rfl⟩
    rw [hA] at da m1
    rw [hB] at db m1
    rw [hT] at dt
    have u1 : True → IntKind.u64.wrap A = A := fun _ => u64id (by omega) (by omega)
    have u2 : True → IntKind.u64.wrap B = B := fun _ => u64id (by omega) (by omega)
    have u3 : True → IntKind.u64.wrap T = T := fun _ => u64id (by omega) (by omega)
    have u4 : True → IntKind.u64.wrap (A * B) = A * B := fun _ => u64id (by omega) (by omega)
    have u5 : True → IntKind.u64.wrap (A * B + T) = A * B + T := fun _ => u64id (by omega) (by omega)
    have u6 : True → IntKind.u64.wrap (A * B + T + c) = A * B + T + c := fun _ => u64id (by omega) (by omega)
    have hv := val_set out (i + j) ((A * B + T + c) % 4294967296) g7
    have htd := take_drop_val b j g8
    rw [hT] at hv
    rw [hB] at htd
    have key : 0 ≤ (A * B + T + c) % 4294967296 ∧ (A * B + T + c) % 4294967296 < 4294967296 ∧ 0 ≤ (A * B + T + c) / 4294967296 ∧ (A * B + T + c) / 4294967296 < 4294967296 ∧ (A * B + T + c) % 4294967296 + 4294967296 * ((A * B + T + c) / 4294967296) = A * B + T + c := by
      generalize A * B = M at *
      omega
    obtain ⟨k0, k1, k2, k3, k4⟩ := key
    obtain ⟨out', r1, r2, r3, r4, r5⟩ := ih (j + 1) k (out.set (i + j) ((A * B + T + c) % 4294967296)) ((A * B + T + c) / 4294967296) (by omega) (by simpa using ho) (dig_set hd _ _ k0 k1) k2 k3
      (fun m hm => by
        rcases Nat.lt_or_ge m (i + b.length) with h | h
        · exact .inr h
        · rw [rd_set_ne _ _ _ _ (by omega)]; exact .inl (hzz m h))
      (by rw [rd_set_ne _ _ _ _ (by omega)]; exact hz) (fun m hm => by rw [rd_set_ne _ _ _ _ (by omega)]; exact hzz m hm) (by omega)
    refine ⟨out', r1, r2, r3, ?_, ?_⟩
    · rw [r4, hv, htd]
      have e2 : (4294967296 : Int) ^ (i + (j + 1)) = 4294967296 ^ (i + j) * 4294967296 := by rw [← Nat.add_assoc, Int.pow_succ]
      rw [hA, e2]
      generalize (4294967296 : Int) ^ (i + j) = P
      generalize val (b.drop (j + 1)) = V
      generalize (A * B + T + c) % 4294967296 = x at *
      generalize (A * B + T + c) / 4294967296 = y at *
      have e3 : (x - T) * P + P * 4294967296 * (y + A * V) = P * ((x - T) + 4294967296 * (y + A * V)) := by
        rw [Int.mul_add P, Int.mul_comm P (x - T), Int.mul_assoc P]
      have e4 : (x - T) + 4294967296 * (y + A * V) = c + A * (B + 4294967296 * V) := by
        rw [Int.mul_add A, Int.mul_add 4294967296 y]
        have : A * (4294967296 * V) = 4294967296 * (A * V) := by rw [← Int.mul_assoc, Int.mul_comm A, Int.mul_assoc]
        omega
      rw [← e4, ← e3]
      omega
    · have e5 : k + 1 - (d + 1) - 1 = k - d - 1 := by omega
      rw [substationref01_times.l1, if_pos g1, if_pos g2, if_pos g3, if_pos g4, w1 trivial, if_pos g5, if_pos g6, hA, hB, hT, u1 trivial, u2 trivial, u3 trivial, u4 trivial, u5 trivial, u6 trivial, w2 trivial, Int.toNat_natCast, r5, e5]
theorem times_l0 (a b : List Int) (ha : Dig a) (hb : Dig b) (hsa : a.length ≤ 1000) (hsb : b.length ≤ 1000) :
    ∀ (d i k : Nat) (out : List Int), a.length = i + d → out.length = a.length + b.length → Dig out → (∀ m : Nat, i + b.length ≤ m → rd out (m : Int) = 0) → d * (b.length + 3) + 3000 < k →
      ∃ r, substationref01_times.l0 k a b out (i : Int) = some (trimL r) ∧ Dig r ∧ r.length = a.length + b.length ∧ val r = val out + 4294967296 ^ i * (val (a.drop i) * val b) := by
  intro d
  induction d with
  | zero =>
    intro i k out hi ho hd hz hk
    obtain ⟨k, rfl⟩ : ∃ n, k = n + 1 := ⟨k - 1, by omega⟩
    refine ⟨out, ?_, hd, ho, ?_⟩
    · rw [substationref01_times.l0, if_neg (by omega), trim_eq out k (by omega) (by omega)]
      rfl
    · rw [List.drop_of_length_le (by omega)]
      simp [val]
  | succ d ih =>
    intro i k out hi ho hd hz hk
    obtain ⟨k, rfl⟩ : ∃ n, k = n + 1 := ⟨k - 1, by omega⟩
    have hk2 : d * (b.length + 3) + b.length + 3 + 3000 < k + 1 := by
      rw [Nat.add_mul, Nat.one_mul] at hk; omega
    obtain ⟨out', r1, r2, r3, r4, r5⟩ := times_l1 a b ha hb hsa hsb i (by omega) b.length 0 k out 0 (by omega) ho hd (Int.le_refl _) (by omega) (fun m hm => by
      rcases Nat.lt_or_ge m (i + b.length) with h | h
      · exact .inr h
      · exact .inl (hz m h)) (hz _ (Nat.le_refl _)) hz (by omega)
    obtain ⟨r, q1, q2, q3, q4⟩ := ih (i + 1) (k - b.length - 1) out' (by omega) r2 r1 r3 (by omega)
    refine ⟨r, ?_, q2, q3, ?_⟩
    · have g1 : (i : Int) < (a.length : Int) := by omega
      rw [substationref01_times.l0, if_pos g1]
      exact r5.trans q1
    · have htd := take_drop_val a i (by omega)
      rw [q4, r4, htd, List.drop_zero, Nat.add_zero, Int.pow_succ]
      generalize (4294967296 : Int) ^ i = P
      generalize val (a.drop (i + 1)) = V
      generalize val b = Q
      generalize rd a (i : Int) = A
      have e1 : P * 4294967296 * (V * Q) = P * (4294967296 * V * Q) := by rw [Int.mul_assoc P, ← Int.mul_assoc 4294967296 V Q]
      rw [Int.add_mul, Int.mul_add P (A * Q), e1, Int.mul_add P 0, Int.mul_zero]
      omega
theorem dig_rep (n : Nat) : Dig (List.replicate n 0) := by
  intro d hd
  have := List.eq_of_mem_replicate hd
  omega
theorem val_rep (n : Nat) : val (List.replicate n 0) = 0 := by
  induction n with
  | zero => rfl
  | succ n ih => rw [List.replicate_succ]; simp [val, ih]
theorem rd_rep (n : Nat) (m : Int) : rd (List.replicate n 0) m = 0 := by
  unfold rd
  rw [List.getD_eq_getElem?_getD, List.getElem?_replicate]
  split <;> rfl
theorem times_eq (a b : List Int) (ha : Dig a) (hb : Dig b) (hsa : a.length ≤ 100) (hsb : b.length ≤ 100) (k : Nat) (hk : 100000 < k) :
    ∃ r, substationref01_times.f k a b = some (trimL r) ∧ Dig r ∧ r.length = a.length + b.length ∧ val r = val a * val b := by
  unfold substationref01_times.f
  have w := wnat2 a.length b.length (by omega)
  have hb2 : a.length * (b.length + 3) ≤ 100 * 103 := Nat.mul_le_mul hsa (by omega)
  obtain ⟨r, r1, r2, r3, r4⟩ := times_l0 a b ha hb (by omega) (by omega) a.length 0 k (List.replicate (a.length + b.length) 0) (by omega) (by simp) (dig_rep _) (fun m _ => rd_rep _ _) (by omega)
  refine ⟨r, ?_, r2, r3, ?_⟩
  · have g1 : (0 : Int) ≤ ((a.length + b.length : Nat) : Int) := Int.natCast_nonneg _
    have g2 : a.length + b.length ≤ 70368744177664 := by clear w; omega
    rw [w, if_pos g1, Int.toNat_natCast, if_pos g2]
    exact r1
  · rw [r4, val_rep]
    simp
/-- The digits of a number. -/
def dgs (a : Int) : List Int := trimL [a % 4294967296, a / 4294967296 % 4294967296]
theorem dgs_ok (a : Int) (h0 : 0 ≤ a) (h1 : a < 18446744073709551616) : Dig (dgs a) ∧ Can (dgs a) ∧ (dgs a).length ≤ 2 ∧ val (dgs a) = a := by
  refine ⟨dig_trim ?_, can_trim _, trim_len _, ?_⟩
  · intro d hd
    simp only [List.mem_cons, List.not_mem_nil, or_false] at hd
    rcases hd with rfl | rfl <;> omega
  · unfold dgs
    rw [val_trim]
    simp only [val]
    omega
theorem of_eq (a : Int) (h0 : 0 ≤ a) (h1 : a < 18446744073709551616) (k : Nat) (hk : 10 < k) : substationref01_Of.f k a = some (false, dgs a) := by
  unfold substationref01_Of.f substationref01_digits.f substationref01_made.f
  rw [if_neg (by omega), u64id h0 h1, trim_eq _ k (by simp; omega) (by simp)]
  rw [Option.bind_some, Option.bind_some]
  have hl := trim_len [a % 4294967296, a / 4294967296 % 4294967296]
  simp only [List.length_cons, List.length_nil] at hl
  rw [trim_eq _ k (by omega) (by omega)]
  rw [Option.bind_some]
  rw [if_neg Bool.false_ne_true]
  rw [Option.bind_some]
  rw [can_trim]
  rfl
theorem valid_eq {l : List Int} (hc : Can l) (hd : Dig l) (hl : l.length ≤ 400) : substationref01_Valid.f false l = some true := by
  unfold substationref01_Valid.f
  rw [if_neg (by omega)]
  by_cases h : l.length = 0
  · rw [if_pos (by omega)]; rfl
  · rw [if_neg (by omega)]
    have w : wrap64 ((l.length : Int) - 1) = ((l.length - 1 : Nat) : Int) := by rw [wid (by omega) (by omega)]; omega
    have := can_last hc hd (by omega)
    rw [w, if_pos (by omega), if_pos (by omega)]
    congr 1
    rw [bne_iff_ne]
    omega
theorem product_eq (a b : Int) (a0 : 0 ≤ a) (a1 : a < 18446744073709551616) (b0 : 0 ≤ b) (b1 : b < 18446744073709551616) (k : Nat) (hk : 200000 < k) :
    ∃ P, substationref25_product.f k a b = some (false, P) ∧ Dig P ∧ Can P ∧ P.length ≤ 400 ∧ val P = a * b := by
  obtain ⟨d1, d2, d3, d4⟩ := dgs_ok a a0 a1
  obtain ⟨e1, e2, e3, e4⟩ := dgs_ok b b0 b1
  obtain ⟨k, rfl⟩ : ∃ n, k = n + 1 := ⟨k - 1, by omega⟩
  obtain ⟨r, r1, r2, r3, r4⟩ := times_eq (dgs a) (dgs b) d1 e1 (by omega) (by omega) k (by omega)
  have hl := trim_len r
  refine ⟨trimL r, ?_, dig_trim r2, can_trim r, by omega, by rw [val_trim, r4, d4, e4]⟩
  unfold substationref25_product.f substationref01_Mul.f
  rw [of_eq a a0 a1 _ (by omega)]
  rw [Option.bind_some]
  rw [of_eq b b0 b1 _ (by omega)]
  rw [Option.bind_some]
  rw [valid_eq d2 d1 (by omega)]
  rw [Option.bind_some, if_pos rfl]
  rw [valid_eq e2 e1 (by omega)]
  rw [Option.bind_some]
  rw [substationref01_Mul.j0, if_neg (by decide), r1]
  rw [Option.bind_some]
  unfold substationref01_made.f substationref01_result.f
  rw [trim_eq _ k (by omega) (by omega)]
  rw [Option.bind_some]
  rw [show (false != false) = false from rfl, if_neg Bool.false_ne_true]
  rw [Option.bind_some]
  rw [can_trim]
  have gl : ¬ ((trimL r).length : Int) > 400 := by omega
  rw [if_neg (show ¬ (((false, trimL r) : Bool × List Int).2.length : Int) > 400 from gl)]
  rfl
theorem compare_eq {P Q : List Int} (d1 : Dig P) (c1 : Can P) (l1 : P.length ≤ 400) (d2 : Dig Q) (c2 : Can Q) (l2 : Q.length ≤ 400) (k : Nat) (hk : 2000 < k) :
    ∃ r, substationref01_Compare.f k false P false Q = some r ∧ (r = -1 ∧ val P < val Q ∨ r = 0 ∧ val P = val Q ∨ r = 1 ∧ val Q < val P) := by
  obtain ⟨k, rfl⟩ : ∃ n, k = n + 1 := ⟨k - 1, by omega⟩
  obtain ⟨r, r1, r2⟩ := cmp_eq d1 d2 c1 c2 l1 l2 k (by omega)
  refine ⟨r, ?_, r2⟩
  unfold substationref01_Compare.f
  rw [valid_eq c1 d1 l1]
  rw [Option.bind_some, if_pos rfl]
  rw [valid_eq c2 d2 l2]
  rw [Option.bind_some]
  rw [substationref01_Compare.j0, if_neg (by decide), if_neg (by decide), if_neg Bool.false_ne_true, r1]
  rfl

def to41 (p : S30) : S41 := ⟨p.f0, p.f1, p.f2⟩
theorem rfine_l0 (l : List Int) (hl : l.length ≤ 240) : ∀ (d i k : Nat), i + d = l.length → d < k → substationref25_fine.l0 k l (i : Int) = some ((l.drop i).all fun x => decide (-16383 ≤ x ∧ x ≤ 16383)) := by
  intro d
  induction d with
  | zero =>
    intro i k hi hk
    obtain ⟨k, rfl⟩ : ∃ j, k = j + 1 := ⟨k - 1, by omega⟩
    rw [substationref25_fine.l0, if_neg (by omega), List.drop_of_length_le (by omega)]
    rfl
  | succ d ih =>
    intro i k hi hk
    obtain ⟨k, rfl⟩ : ∃ j, k = j + 1 := ⟨k - 1, by omega⟩
    have hlt : i < l.length := by omega
    have er : rd l (i : Int) = l[i] := by simp [rd, hlt]
    have ih := ih (i + 1) k (by omega) (by omega)
    have ew : wrap64 ((i : Int) + 1) = ((i + 1 : Nat) : Int) := by rw [wid (by omega) (by omega)]; rfl
    rw [substationref25_fine.l0, if_pos (by omega), if_pos (by omega), er, List.drop_eq_getElem_cons hlt, List.all_cons]
    by_cases h1 : l[i] < -16383
    · rw [if_pos h1]
      have : ¬ -16383 ≤ l[i] := by omega
      simp [this]
    · rw [if_neg h1]
      by_cases h2 : l[i] > 16383
      · rw [if_pos h2]
        have : ¬ l[i] ≤ 16383 := by omega
        simp [this]
      · rw [if_neg h2, ew, ih]
        have a1 : -16383 ≤ l[i] := by omega
        have a2 : l[i] ≤ 16383 := by omega
        simp [a1, a2]
theorem rfine_eq (l : List Int) (k : Nat) (hk : 240 < k) : substationref25_fine.f k l = some (fineB l) := by
  unfold substationref25_fine.f fineB
  by_cases h : l.length ≤ 240
  · rw [if_neg (by omega)]
    have := rfine_l0 l h l.length 0 k (by omega) (by omega)
    rw [show ((0 : Nat) : Int) = 0 from rfl] at this
    rw [this, List.drop_zero]
    simp [h]
  · rw [if_pos (by omega)]
    simp [h]
theorem rgcd_nat : ∀ (n m k : Nat), n < k → substationref19_gcd.l0 k (m : Int) (n : Int) = some ((Nat.gcd m n : Nat) : Int) := by
  intro n
  induction n using Nat.strongRecOn with
  | ind n ih =>
    intro m k hk
    obtain ⟨k, rfl⟩ : ∃ j, k = j + 1 := ⟨k - 1, by omega⟩
    rw [substationref19_gcd.l0]
    by_cases h : n = 0
    · subst h
      rw [if_neg (by omega)]
      simp
    · rw [if_pos (by omega), if_neg (by omega)]
      have e : Int.tmod (m : Int) (n : Int) = ((m % n : Nat) : Int) := rfl
      have hlt := Nat.mod_lt m (by omega : n > 0)
      rw [e, ih _ hlt n k (by omega), Nat.gcd_comm m n, Nat.gcd_rec n m, Nat.gcd_comm]
theorem rgcd_gc (a b : Int) (h0 : 0 ≤ a) (h1 : 0 ≤ b) (k : Nat) (hk : b < k) : substationref19_gcd.f k a b = some (gc a b) := by
  obtain ⟨m, rfl⟩ : ∃ m : Nat, a = m := ⟨a.toNat, by omega⟩
  obtain ⟨n, rfl⟩ : ∃ n : Nat, b = n := ⟨b.toNat, by omega⟩
  exact rgcd_nat n m k (by omega)
theorem lowest_eq {x y : Int} (hx : 0 < x) (hx2 : x ≤ 300000000000) (hy : 0 < y) (hy2 : y ≤ 300000000000) (k : Nat) (hk : 300000000000 < k) :
    substationref19_Lowest.f k x y = some (x / gc x y, y / gc x y) := by
  unfold substationref19_Lowest.f
  have e : mx x (wrap64 (-x)) = x := by rw [wid (by omega) (by omega)]; unfold mx; rw [if_neg (by omega)]
  obtain ⟨g0, g1, g2, _⟩ := low_terms hx hx2 hy hy2
  rw [e, rgcd_gc x y (by omega) (by omega) k (by omega)]
  simp only [Option.bind_some]
  rw [if_neg g0, g1, g2]
theorem rcross_l0 (l : List Int) (hf : fineB l = true) : ∀ (d i k : Nat), l.length - 1 = i + d → 300000000000 + d < k →
    substationref25_Crossings.l0 k l ((upto l i).map to41) (i : Int) = some ((cross l).map to41, 0) := by
  have hl := (fine_len hf).1
  intro d
  induction d with
  | zero =>
    intro i k hi hk
    obtain ⟨k, rfl⟩ : ∃ j, k = j + 1 := ⟨k - 1, by omega⟩
    have g : ¬ (i : Int) + 1 < (l.length : Int) := by omega
    rw [substationref25_Crossings.l0, wid (by omega) (by omega), if_neg g]
    unfold cross
    rw [show l.length - 1 = i by omega]
  | succ d ih =>
    intro i k hi hk
    obtain ⟨k, rfl⟩ : ∃ j, k = j + 1 := ⟨k - 1, by omega⟩
    have ih := ih (i + 1) k (by omega) (by omega)
    have ew : wrap64 ((i : Int) + 1) = ((i + 1 : Nat) : Int) := by rw [wid (by omega) (by omega)]; rfl
    have q1 : ((i + 1 : Nat) : Int) < (l.length : Int) := by omega
    have q2 : (0 : Int) ≤ (i : Int) := by omega
    have q3 : (i : Int) < (l.length : Int) := by omega
    have q4 : (0 : Int) ≤ ((i + 1 : Nat) : Int) := by omega
    have b1 := fine_rd hf (i : Int)
    have b2 := fine_rd hf ((i + 1 : Nat) : Int)
    have us := upto_succ l i
    have hul := upto_le l i
    have w5 : ((upto l i).map to41).length < 5864062014805 := by simp; omega
    rw [substationref25_Crossings.l0, ew, if_pos q1, if_pos q2, if_pos q3]
    unfold crAt at us
    by_cases h1 : rd l (i : Int) < 0
    · rw [if_pos h1, if_pos q4]
      by_cases h2 : 0 ≤ rd l ((i + 1 : Nat) : Int)
      · have h2' : rd l ((i + 1 : Nat) : Int) ≥ 0 := h2
        rw [if_pos ⟨h1, h2⟩] at us
        rw [if_pos h2', wid (x := -rd l (i : Int)) (by omega) (by omega), wid (x := rd l ((i + 1 : Nat) : Int) - rd l (i : Int)) (by omega) (by omega), lowest_eq (by omega) (by omega) (by omega) (by omega) k (by omega)]
        simp only [Option.bind_some]
        rw [if_pos w5]
        rw [us, List.map_append] at ih
        exact ih
      · have h2' : ¬ rd l ((i + 1 : Nat) : Int) ≥ 0 := h2
        rw [if_neg (fun c => h2 c.2)] at us
        rw [if_neg h2']
        rw [us] at ih
        simpa using ih
    · rw [if_neg h1]
      rw [if_neg (fun c => h1 c.1)] at us
      rw [us] at ih
      simpa using ih
theorem rcross_eq (l : List Int) (k : Nat) (hk : 300000001000 < k) : substationref25_Crossings.f k l = some (if fineB l = true then ((cross l).map to41, 0) else ([], 1)) := by
  unfold substationref25_Crossings.f
  rw [rfine_eq l k (by omega)]
  rw [Option.bind_some]
  cases hf : fineB l with
  | false => rfl
  | true =>
    rw [if_pos rfl, if_pos rfl]
    have hl := (fine_len hf).1
    exact rcross_l0 l hf (l.length - 1) 0 k (by omega) (by omega)
theorem rd41 (xs : List S30) (i : Int) : rd_T41 (xs.map to41) i = to41 (rd_T30 xs i) := by
  unfold rd_T41 rd_T30
  rw [List.getD_eq_getElem?_getD, List.getD_eq_getElem?_getD, List.getElem?_map]
  cases xs[i.toNat]? <;> rfl
theorem rper_eq (l : List Int) (k : Nat) (hk : 300000001000 < k) : substationref25_Period.f k l = some (per l) := by
  unfold substationref25_Period.f per
  rw [rcross_eq l k hk]
  simp only [Option.bind_some]
  cases hf : fineB l with
  | false => simp
  | true =>
    simp only [if_true, List.length_map]
    by_cases h2 : (cross l).length < 2
    · have : ((cross l).length : Int) < 2 := by omega
      rw [if_pos this, if_pos h2]
    · rw [if_neg (by omega), if_neg h2]
      have hn := cross_len l hf
      have ew : wrap64 (((cross l).length : Int) - 1) = (((cross l).length - 1 : Nat) : Int) := by rw [wid (by omega) (by omega)]; omega
      obtain ⟨p1, p2, p3⟩ := ends_pt hf (by omega)
      obtain ⟨⟨b1, b2⟩, ⟨b3, b4⟩, b5, b6⟩ := pbounds (n := (cross l).length) p1 p2 p3 (by omega) hn
      rw [ew] at b6 ⊢
      rw [if_pos (by omega), if_pos (Int.natCast_nonneg _), if_pos (by omega)]
      rw [rd41, rd41]
      simp only [to41]
      rw [b5, b6, lowest_eq b1 b2 b3 b4 k (by omega)]
      simp only [Option.bind_some]
theorem rmhz_eq (l : List Int) (k : Nat) (hk : 300000001000 < k) : substationref25_Millihertz.f k l = some (mhz l) := by
  have := mhz_eq l k (by omega)
  unfold frequency_Millihertz.f at this
  unfold substationref25_Millihertz.f
  rw [per_eq l k (by omega)] at this
  rw [rper_eq l k hk]
  exact this
theorem rwth_eq (l : List Int) (d : Int) (k : Nat) (hk : 300000001001 < k) : substationref25_Within.f k l d = some (wth l d) := by
  obtain ⟨k, rfl⟩ : ∃ j, k = j + 1 := ⟨k - 1, by omega⟩
  have f1 : 300000001000 < k := by omega
  have f2 : 240 < k + 1 := by omega
  have f3 : 200000 < k := by omega
  have f4 : 2000 < k := by omega
  clear hk
  unfold substationref25_Within.f wth
  rw [rfine_eq l _ f2, Option.bind_some]
  cases hf : fineB l with
  | false =>
    rw [if_neg Bool.false_ne_true, substationref25_Within.j0, if_pos rfl]
    have hp : per l = (0, 0, 1) := by unfold per; rw [hf, if_neg Bool.false_ne_true]
    rw [hp]
    by_cases h1 : d < 0 ∨ d > 50000
    · rw [if_pos h1]
    · rw [if_neg h1]; rfl
  | true =>
    rw [if_pos rfl]
    have j : ∀ b : Bool, substationref25_Within.j0 (k + 1) l d b = if b = true then some (false, 1) else substationref25_Within.j0 (k + 1) l d false := by
      intro b
      cases b with
      | false => rw [if_neg Bool.false_ne_true]
      | true => rw [if_pos rfl, substationref25_Within.j0, if_pos rfl]
    by_cases h1 : d < 0
    · rw [if_pos h1, j, if_pos rfl, if_pos (.inl h1)]
    · rw [if_neg h1, j]
      by_cases h2 : d > 50000
      · rw [decide_eq_true h2, if_pos rfl, if_pos (.inr h2)]
      · have h3 : ¬ (d < 0 ∨ d > 50000) := fun h => h.elim h1 h2
        rw [decide_eq_false h2, if_neg Bool.false_ne_true, if_neg h3, substationref25_Within.j0, if_neg Bool.false_ne_true, rper_eq l k f1, Option.bind_some]
        by_cases h : (per l).2.2 = 0
        · rw [if_pos h, if_pos h]
          obtain ⟨⟨a1, a2⟩, b1, b2⟩ := per_ok h
          generalize (per l).1 = p at *
          generalize (per l).2.1 = q at *
          have w2 : True → wrap64 (50000 - d) = 50000 - d := fun _ => wid (by omega) (by omega)
          have w3 : True → wrap64 (50000 + d) = 50000 + d := fun _ => wid (by omega) (by omega)
          obtain ⟨P1, e1, d1, c1, l1, v1⟩ := product_eq 600000 q (by omega) (by omega) (by omega) (by omega) k f3
          obtain ⟨P2, e2, d2, c2, l2, v2⟩ := product_eq (50000 - d) p (by omega) (by omega) (by omega) (by omega) k f3
          obtain ⟨P3, e3, d3, c3, l3, v3⟩ := product_eq (50000 + d) p (by omega) (by omega) (by omega) (by omega) k f3
          obtain ⟨r, r1, r2⟩ := compare_eq d1 c1 l1 d2 c2 l2 k f4
          obtain ⟨s, s1, s2⟩ := compare_eq d1 c1 l1 d3 c3 l3 k f4
          rw [v1, v2] at r2
          rw [v1, v3] at s2
          rw [e1, Option.bind_some, w2 trivial, e2, Option.bind_some, r1, Option.bind_some, w3 trivial, e3]
          generalize 600000 * q = Q at *
          generalize (50000 - d) * p = X at *
          generalize (50000 + d) * p = Y at *
          by_cases g : r ≥ 0
          · rw [if_pos g, Option.bind_some, s1, Option.bind_some]
            have : decide (s ≤ 0) = decide (X ≤ Q ∧ Q ≤ Y) := by
              rw [Bool.eq_iff_iff, decide_eq_true_eq, decide_eq_true_eq]
              omega
            rw [this]
          · rw [if_neg g]
            have : decide (X ≤ Q ∧ Q ≤ Y) = false := by
              rw [decide_eq_false_iff_not]
              omega
            rw [this]
        · rw [if_neg h, if_neg h]
theorem meas_l0 (l : List Int) (d : Int) (F : Nat) (hF : True → 300000001001 < F) (hc : (cross l).length ≤ 100000) : ∀ (m i n : Nat), (cross l).length = i + m → F + m < n →
    substationlaw25_FrequencyMeasures.l0 n l d (cross l) ((cross l).map to41) (i : Int) = some true := by
  intro m
  induction m with
  | zero =>
    intro i n hi hn
    obtain ⟨n, rfl⟩ : ∃ j, n = j + 1 := ⟨n - 1, by omega⟩
    have g : ¬ (i : Int) < ((cross l).length : Int) := by omega
    have hFn : F ≤ n := by omega
    have f0 : 300000001001 < n := Nat.lt_of_lt_of_le (hF trivial) hFn
    have f1 : 300000001000 < n := Nat.lt_of_succ_lt f0
    have f2 : 300000000000 < n := Nat.lt_trans (by decide) f1
    have f3 : 300000000001 < n := Nat.lt_trans (by decide) f1
    rw [substationlaw25_FrequencyMeasures.l0, if_neg g, per_eq l n f2, Option.bind_some, rper_eq l n f1, Option.bind_some, mhz_eq l n f2, Option.bind_some, rmhz_eq l n f1, Option.bind_some, wth_eq l d n f3, Option.bind_some, rwth_eq l d n f0, Option.bind_some]
    rw [if_pos rfl, if_pos rfl, if_pos rfl, if_pos rfl, if_pos rfl, if_pos (by simp)]
    simp
  | succ m ih =>
    intro i n hi hn
    obtain ⟨n, rfl⟩ : ∃ j, n = j + 1 := ⟨n - 1, by omega⟩
    have ih := ih (i + 1) n (by omega) (by omega)
    have g1 : (i : Int) < ((cross l).length : Int) := by omega
    have g2 : (0 : Int) ≤ (i : Int) := by omega
    have g3 : (i : Int) < (((cross l).map to41).length : Int) := by rw [List.length_map]; omega
    have w : True → wrap64 ((i : Int) + 1) = ((i + 1 : Nat) : Int) := fun _ => wnat2 i 1 (by omega)
    rw [substationlaw25_FrequencyMeasures.l0, if_pos g1, if_pos g2, if_pos g3, rd41, w trivial]
    exact (if_pos rfl).trans ((if_pos rfl).trans ((if_pos rfl).trans ih))
theorem FrequencyMeasures : FrequencyMeasures_Pure := by
  rintro l d ⟨_, _, _⟩ _
  refine ⟨300000100000, ?_⟩
  have f1 : 300000000000 < 300000100000 := by decide
  have f2 : 300000001000 < 300000100000 := by decide
  unfold substationlaw25_FrequencyMeasures.f
  rw [known_eq _ f1, Option.bind_some, if_pos rfl]
  by_cases hl : (l.length : Int) > 1000
  · rw [if_pos hl]
  · rw [if_neg hl, rcross_eq l _ f2]
    unfold frequency_Crossings.f
    rw [Option.bind_some, Option.bind_some]
    cases hf : fineB l with
    | false =>
      have hc0 : per l = (0, 0, 1) := by unfold per; rw [hf, if_neg Bool.false_ne_true]
      rw [if_neg Bool.false_ne_true, if_neg Bool.false_ne_true, if_pos rfl, substationlaw25_FrequencyMeasures.j0, if_neg (by decide), substationlaw25_FrequencyMeasures.l0, if_neg (by decide)]
      rw [per_eq l _ (by decide), Option.bind_some, rper_eq l _ (by decide), Option.bind_some, mhz_eq l _ (by decide), Option.bind_some, rmhz_eq l _ (by decide), Option.bind_some, wth_eq l d _ (by decide), Option.bind_some, rwth_eq l d _ (by decide), Option.bind_some]
      rw [if_pos rfl, if_pos rfl, if_pos rfl, if_pos rfl, if_pos rfl, if_pos (by simp)]
      simp
    | true =>
      have hcl := cross_len l hf
      rw [if_pos rfl, if_pos rfl, if_pos rfl]
      have e : (((cross l).length : Int) != (((cross l).map to41).length : Int)) = false := by simp
      rw [e, substationlaw25_FrequencyMeasures.j0, if_neg Bool.false_ne_true]
      exact meas_l0 l d 300000001002 (fun _ => by decide) (by omega) (cross l).length 0 _ (by omega) (by omega)

end Go.Proofs.Ytiemghinklablaa.Pure
