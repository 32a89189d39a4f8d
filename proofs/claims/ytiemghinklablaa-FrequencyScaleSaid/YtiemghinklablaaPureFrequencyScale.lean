/- The plain statement of the law FrequencyScale, over numbers and lists alone. Conditions: none. -/
import Derived.Test.YtiemghinklablaaStmFrequencyScale
namespace Go.Proofs.Ytiemghinklablaa.Pure
open Go.RowKit Go.Proofs.Ytiemghinklablaa.PAll Go.Proofs.YtiemghinklablaaW.PrintWords Go.Proofs.YtiemghinklablaaW.PrintLast
set_option linter.unusedVariables false
set_option linter.unusedSimpArgs false
theorem wid {x : Int} (h0 : -9223372036854775808 ≤ x) (h1 : x ≤ 9223372036854775807) : wrap64 x = x := by unfold wrap64; omega
theorem tmod_range (x b : Int) (hb : 0 < b) : -b < Int.tmod x b ∧ Int.tmod x b < b := by
  have h := @Int.tmod_eq_emod x b
  have e1 := Int.emod_nonneg x (show b ≠ 0 by omega)
  have e2 := Int.emod_lt_of_pos x hb
  by_cases c : 0 ≤ x ∨ b ∣ x
  · rw [if_pos c] at h
    omega
  · rw [if_neg c] at h
    have : x % b ≠ 0 := fun e => c (.inr (Int.dvd_of_emod_eq_zero e))
    omega
/-- The law's own remainder lies in its range. -/
theorem within_eq (a b : Int) (hb : 1 ≤ b) (hb2 : b ≤ 100000) : ∃ r, substationlaw25_within.f a b = some r ∧ 0 ≤ r ∧ r < b := by
  unfold substationlaw25_within.f
  rw [if_neg (by omega)]
  obtain ⟨t1, t2⟩ := tmod_range a b (by omega)
  by_cases hn : Int.tmod a b < 0
  · rw [if_pos hn]
    exact ⟨_, rfl, by rw [wid (by omega) (by omega)]; omega, by rw [wid (by omega) (by omega)]; omega⟩
  · rw [if_neg hn]
    exact ⟨_, rfl, by omega, t2⟩
theorem mulB {x y A B : Int} (hx : 0 ≤ x) (hA : x ≤ A) (hy : 0 ≤ y) (hB : y ≤ B) : 0 ≤ x * y ∧ x * y ≤ A * B := ⟨Int.mul_nonneg hx hy, Int.mul_le_mul hA hB hy (by omega)⟩
theorem gc_pos' (a b : Int) (h : 0 < b) : 0 < gc a b := gc_pos a b h
theorem gc_dvd_l (a b : Int) : gc a b ∣ a := Int.gcd_dvd_left ..
theorem gc_dvd_r (a b : Int) : gc a b ∣ b := Int.gcd_dvd_right ..
/-- What a crossing is made of. -/
structure Pt (p : S30) : Prop where
  k0 : 0 ≤ p.f0
  k1 : p.f0 ≤ 238
  n1 : 1 ≤ p.f1
  nd : p.f1 ≤ p.f2
  d1 : p.f2 ≤ 32766
theorem crAt_pt {l : List Int} (h : fineB l = true) {i : Nat} (hi : i + 1 < l.length) {p : S30} (hp : crAt l i = some p) : Pt p ∧ p.f0 = (i : Int) := by
  unfold crAt at hp
  split at hp
  · rename_i hc
    have ha := fine_rd h (i : Int)
    have hb := fine_rd h ((i + 1 : Nat) : Int)
    have hl := (fine_len h).1
    cases hp
    generalize rd l (i : Int) = x at *
    generalize rd l ((i + 1 : Nat) : Int) = y at *
    have hg := gc_pos (-x) (y - x) (by omega)
    have d1 := gc_dvd_l (-x) (y - x)
    have d2 := gc_dvd_r (-x) (y - x)
    generalize gc (-x) (y - x) = g at *
    obtain ⟨u, hu⟩ := d1
    obtain ⟨v, hv⟩ := d2
    have e1 : -x / g = u := by rw [hu]; exact Int.mul_ediv_cancel_left u (by omega)
    have e2 : (y - x) / g = v := by rw [hv]; exact Int.mul_ediv_cancel_left v (by omega)
    have u1 : 1 ≤ u := by
      rcases Int.lt_or_le 0 u with h | h
      · omega
      · have := Int.mul_nonpos_of_nonneg_of_nonpos (by omega : 0 ≤ g) h; omega
    have uv : u ≤ v := by
      rcases Int.lt_or_le v u with h | h
      · have : g * v < g * u := Int.mul_lt_mul_of_pos_left h hg
        omega
      · exact h
    have vd : v ≤ 32766 := by
      have : v ≤ g * v := by have := Int.mul_le_mul_of_nonneg_right (show (1 : Int) ≤ g by omega) (by omega : 0 ≤ v); omega
      omega
    refine ⟨⟨?_, ?_, ?_, ?_, ?_⟩, rfl⟩
    · show (0 : Int) ≤ (i : Int); omega
    · show (i : Int) ≤ 238; omega
    · show 1 ≤ -x / g; rw [e1]; exact u1
    · show -x / g ≤ (y - x) / g; rw [e1, e2]; exact uv
    · show (y - x) / g ≤ 32766; rw [e2]; exact vd
  · cases hp
theorem mem_upto {l : List Int} {i : Nat} {p : S30} (h : p ∈ upto l i) : ∃ j, j < i ∧ crAt l j = some p := by
  unfold upto at h
  obtain ⟨j, hj, hp⟩ := List.mem_filterMap.1 h
  exact ⟨j, by simpa using hj, hp⟩
theorem cross_pt {l : List Int} (h : fineB l = true) {p : S30} (hp : p ∈ cross l) : Pt p := by
  obtain ⟨j, hj, hc⟩ := mem_upto hp
  exact (crAt_pt h (by omega) hc).1
/-- The crossings are in ascending order. -/
theorem upto_sorted {l : List Int} (h : fineB l = true) (i : Nat) (hi : i ≤ l.length - 1) : (upto l i).Pairwise (fun p q => p.f0 < q.f0) := by
  induction i with
  | zero => exact List.Pairwise.nil
  | succ i ih =>
    rw [upto_succ]
    refine List.pairwise_append.2 ⟨ih (by omega), ?_, ?_⟩
    · cases crAt l i <;> simp
    · intro p hp q hq
      obtain ⟨j, hj, hc⟩ := mem_upto hp
      cases hc2 : crAt l i with
      | none => rw [hc2] at hq; cases hq
      | some r =>
        rw [hc2] at hq
        simp only [Option.toList_some, List.mem_singleton] at hq
        subst hq
        have e1 := (crAt_pt h (by omega) hc).2
        have e2 := (crAt_pt h (by omega) hc2).2
        omega
theorem cross_len (l : List Int) (h : fineB l = true) : (cross l).length ≤ 239 := by
  have := upto_le l (l.length - 1)
  have := (fine_len h).1
  unfold cross
  omega
theorem rd30_mem (xs : List S30) (i : Nat) (h : i < xs.length) : rd_T30 xs (i : Int) = xs[i] := by simp [rd_T30, h]
/-- numerator and denominator of the mean period, and their divisor -/
def pnum (a b : S30) : Int := (b.f0 - a.f0) * a.f2 * b.f2 + b.f1 * a.f2 - a.f1 * b.f2
def pden (a b : S30) (n : Nat) : Int := a.f2 * b.f2 * ((n : Int) - 1)
theorem pbounds {a b : S30} {n : Nat} (ha : Pt a) (hb : Pt b) (hk : a.f0 < b.f0) (hn : 2 ≤ n) (hn2 : n ≤ 239) :
    (0 < pnum a b ∧ pnum a b ≤ 300000000000) ∧ (0 < pden a b n ∧ pden a b n ≤ 300000000000) ∧
    wrap64 (wrap64 (wrap64 (wrap64 (wrap64 (b.f0 - a.f0) * a.f2) * b.f2) + wrap64 (b.f1 * a.f2)) - wrap64 (a.f1 * b.f2)) = pnum a b ∧
    wrap64 (wrap64 (a.f2 * b.f2) * wrap64 ((n : Int) - 1)) = pden a b n := by
  obtain ⟨ak0, ak1, an1, and_, ad1⟩ := ha
  obtain ⟨bk0, bk1, bn1, bnd, bd1⟩ := hb
  have w1 : wrap64 (b.f0 - a.f0) = b.f0 - a.f0 := wid (by omega) (by omega)
  have m1 := mulB (x := b.f0 - a.f0) (y := a.f2) (A := 238) (B := 32766) (by omega) (by omega) (by omega) (by omega)
  have w2 : wrap64 ((b.f0 - a.f0) * a.f2) = (b.f0 - a.f0) * a.f2 := wid (by omega) (by omega)
  have m2 := mulB (x := (b.f0 - a.f0) * a.f2) (y := b.f2) (A := 238 * 32766) (B := 32766) m1.1 m1.2 (by omega) (by omega)
  have w3 : wrap64 ((b.f0 - a.f0) * a.f2 * b.f2) = (b.f0 - a.f0) * a.f2 * b.f2 := wid (by omega) (by omega)
  have m3 := mulB (x := b.f1) (y := a.f2) (A := 32766) (B := 32766) (by omega) (by omega) (by omega) (by omega)
  have w4 : wrap64 (b.f1 * a.f2) = b.f1 * a.f2 := wid (by omega) (by omega)
  have m4 := mulB (x := a.f1) (y := b.f2) (A := 32766) (B := 32766) (by omega) (by omega) (by omega) (by omega)
  have w5 : wrap64 (a.f1 * b.f2) = a.f1 * b.f2 := wid (by omega) (by omega)
  have m5 := mulB (x := a.f2) (y := b.f2) (A := 32766) (B := 32766) (by omega) (by omega) (by omega) (by omega)
  have w6 : wrap64 (a.f2 * b.f2) = a.f2 * b.f2 := wid (by omega) (by omega)
  have w7 : wrap64 ((n : Int) - 1) = (n : Int) - 1 := wid (by omega) (by omega)
  have m6 := mulB (x := a.f2 * b.f2) (y := (n : Int) - 1) (A := 32766 * 32766) (B := 238) m5.1 m5.2 (by omega) (by omega)
  have w8 : wrap64 (a.f2 * b.f2 * ((n : Int) - 1)) = a.f2 * b.f2 * ((n : Int) - 1) := wid (by omega) (by omega)
  have low : a.f2 * b.f2 ≤ (b.f0 - a.f0) * a.f2 * b.f2 := by
    have : 1 * a.f2 ≤ (b.f0 - a.f0) * a.f2 := Int.mul_le_mul_of_nonneg_right (by omega) (by omega)
    have := Int.mul_le_mul_of_nonneg_right this (show 0 ≤ b.f2 by omega)
    rwa [Int.one_mul] at this
  have low2 : a.f1 * b.f2 ≤ a.f2 * b.f2 := Int.mul_le_mul_of_nonneg_right (by omega) (by omega)
  have low3 : 1 * 1 ≤ b.f1 * a.f2 := Int.mul_le_mul (by omega) (by omega) (by omega) (by omega)
  have low4 : 1 * 1 ≤ a.f2 * b.f2 := Int.mul_le_mul (by omega) (by omega) (by omega) (by omega)
  have low5 : 1 * 1 ≤ a.f2 * b.f2 * ((n : Int) - 1) := Int.mul_le_mul (by omega) (by omega) (by omega) (by omega)
  unfold pnum pden
  rw [w1, w2, w3, w4, w5, w6, w7, w8]
  generalize (b.f0 - a.f0) * a.f2 * b.f2 = X at *
  generalize b.f1 * a.f2 = Y at *
  generalize a.f1 * b.f2 = Z at *
  generalize a.f2 * b.f2 * ((n : Int) - 1) = U at *
  generalize a.f2 * b.f2 = V at *
  have w9 : wrap64 (X + Y) = X + Y := wid (by omega) (by omega)
  have w10 : wrap64 (X + Y - Z) = X + Y - Z := wid (by omega) (by omega)
  rw [w9, w10]
  exact ⟨⟨by omega, by omega⟩, ⟨by omega, by omega⟩, rfl, rfl⟩
/-- What Period answers. -/
def per (l : List Int) : Int × Int × Int :=
  if fineB l = true then
    (if (cross l).length < 2 then (0, 0, 18)
     else (pnum (rd_T30 (cross l) 0) (rd_T30 (cross l) (((cross l).length - 1 : Nat) : Int)) / gc (pnum (rd_T30 (cross l) 0) (rd_T30 (cross l) (((cross l).length - 1 : Nat) : Int))) (pden (rd_T30 (cross l) 0) (rd_T30 (cross l) (((cross l).length - 1 : Nat) : Int)) (cross l).length),
           pden (rd_T30 (cross l) 0) (rd_T30 (cross l) (((cross l).length - 1 : Nat) : Int)) (cross l).length / gc (pnum (rd_T30 (cross l) 0) (rd_T30 (cross l) (((cross l).length - 1 : Nat) : Int))) (pden (rd_T30 (cross l) 0) (rd_T30 (cross l) (((cross l).length - 1 : Nat) : Int)) (cross l).length), 0))
  else (0, 0, 1)
theorem ends_pt {l : List Int} (h : fineB l = true) (h2 : 2 ≤ (cross l).length) : Pt (rd_T30 (cross l) 0) ∧ Pt (rd_T30 (cross l) (((cross l).length - 1 : Nat) : Int)) ∧ (rd_T30 (cross l) 0).f0 < (rd_T30 (cross l) (((cross l).length - 1 : Nat) : Int)).f0 := by
  have e0 : rd_T30 (cross l) 0 = (cross l)[0] := rd30_mem (cross l) 0 (by omega)
  have e1 := rd30_mem (cross l) ((cross l).length - 1) (by omega)
  rw [e0, e1]
  refine ⟨cross_pt h (List.getElem_mem _), cross_pt h (List.getElem_mem _), ?_⟩
  exact List.pairwise_iff_getElem.1 (upto_sorted h (l.length - 1) (Nat.le_refl _)) 0 ((cross l).length - 1) (by unfold cross at h2; omega) (by unfold cross at h2 ⊢; omega) (by omega)
/-- A fraction in lowest terms, as the code divides it. -/
theorem low_terms {x y : Int} (hx : 0 < x) (hx2 : x ≤ 300000000000) (hy : 0 < y) (hy2 : y ≤ 300000000000) :
    gc x y ≠ 0 ∧ wrap64 (Int.tdiv x (gc x y)) = x / gc x y ∧ wrap64 (Int.tdiv y (gc x y)) = y / gc x y ∧ 1 ≤ x / gc x y ∧ x / gc x y ≤ x ∧ 1 ≤ y / gc x y ∧ y / gc x y ≤ y := by
  have hg := gc_pos x y hy
  have d1 := gc_dvd_l x y
  have d2 := gc_dvd_r x y
  generalize gc x y = g at *
  have b1 : x / g ≤ x := Int.ediv_le_self _ (by omega)
  have b2 : y / g ≤ y := Int.ediv_le_self _ (by omega)
  have c1 : 1 ≤ x / g := by
    have := Int.le_of_dvd hx d1
    exact Int.le_ediv_of_mul_le hg (by omega)
  have c2 : 1 ≤ y / g := by
    have := Int.le_of_dvd hy d2
    exact Int.le_ediv_of_mul_le hg (by omega)
  rw [Int.tdiv_eq_ediv_of_nonneg (by omega), Int.tdiv_eq_ediv_of_nonneg (by omega)]
  exact ⟨by omega, wid (by omega) (by omega), wid (by omega) (by omega), c1, b1, c2, b2⟩
theorem per_eq (l : List Int) (k : Nat) (hk : 300000000000 < k) : frequency_Period.f k l = some (per l) := by
  unfold frequency_Period.f frequency_Crossings.f per
  simp only [Option.bind_some]
  cases hf : fineB l with
  | false => simp
  | true =>
    simp only [if_true]
    by_cases h2 : (cross l).length < 2
    · have : ((cross l).length : Int) < 2 := by omega
      rw [if_pos this, if_pos h2]
    · rw [if_neg (by omega), if_neg h2]
      have hn := cross_len l hf
      have ew : wrap64 (((cross l).length : Int) - 1) = (((cross l).length - 1 : Nat) : Int) := by rw [wid (by omega) (by omega)]; omega
      obtain ⟨p1, p2, p3⟩ := ends_pt hf (by omega)
      have hb := pbounds (n := (cross l).length) p1 p2 p3 (by omega) hn
      obtain ⟨⟨b1, b2⟩, ⟨b3, b4⟩, b5, b6⟩ := hb
      rw [ew] at b6 ⊢
      rw [if_pos (by omega), if_pos (Int.natCast_nonneg _), if_pos (by omega)]
      rw [b5, b6, divisor_gc _ _ (by omega) (by omega) k (by omega)]
      simp only [Option.bind_some]
      obtain ⟨g0, g1, g2, _⟩ := low_terms b1 b2 b3 b4
      rw [if_neg g0, g1, g2]
/-- Of a period that is one: what its numbers are. -/
theorem per_ok {l : List Int} (h : (per l).2.2 = 0) : (1 ≤ (per l).1 ∧ (per l).1 ≤ 300000000000) ∧ (1 ≤ (per l).2.1 ∧ (per l).2.1 ≤ 300000000000) := by
  unfold per at h ⊢
  split at h
  · rename_i hf
    rw [if_pos hf]
    split at h
    · cases h
    · rename_i h2
      rw [if_neg h2]
      obtain ⟨p1, p2, p3⟩ := ends_pt hf (by omega)
      obtain ⟨⟨b1, b2⟩, ⟨b3, b4⟩, _⟩ := pbounds (n := (cross l).length) p1 p2 p3 (by omega) (cross_len l hf)
      obtain ⟨_, _, _, c1, c2, c3, c4⟩ := low_terms b1 b2 b3 b4
      exact ⟨⟨c1, Int.le_trans c2 b2⟩, ⟨c3, Int.le_trans c4 b4⟩⟩
  · cases h
def mhz (l : List Int) : Int × Int := if (per l).2.2 = 0 then ((1200000 * (per l).2.1 + (per l).1) / (2 * (per l).1), 0) else (0, (per l).2.2)
theorem mhz_eq (l : List Int) (k : Nat) (hk : 300000000000 < k) : frequency_Millihertz.f k l = some (mhz l) := by
  unfold frequency_Millihertz.f mhz
  rw [per_eq l k hk]
  simp only [Option.bind_some]
  by_cases h : (per l).2.2 = 0
  · rw [if_pos h, if_pos h]
    obtain ⟨⟨a1, a2⟩, b1, b2⟩ := per_ok h
    generalize (per l).1 = p at *
    generalize (per l).2.1 = q at *
    have w1 : wrap64 (2 * p) = 2 * p := wid (by omega) (by omega)
    have w2 : wrap64 (1200000 * q) = 1200000 * q := wid (by omega) (by omega)
    have w3 : wrap64 (1200000 * q + p) = 1200000 * q + p := wid (by omega) (by omega)
    rw [w1, w2, w3, if_neg (by omega), Int.tdiv_eq_ediv_of_nonneg (by omega)]
    have c1 : 0 ≤ (1200000 * q + p) / (2 * p) := Int.ediv_nonneg (by omega) (by omega)
    have c2 : (1200000 * q + p) / (2 * p) ≤ 1200000 * q + p := Int.ediv_le_self _ (by omega)
    rw [wid (by omega) (by omega)]
  · rw [if_neg h, if_neg h]
theorem known_eq (k : Nat) (hk : 300000000000 < k) : substationlaw25_known.f k = some true := by
  unfold substationlaw25_known.f
  simp only [Option.bind_some]
  rw [mhz_eq _ k hk]
  have hc : cross [(-1), 1, 1, 1, 1, 1, 1, (-1), (-1), (-1), (-1), (-1), (-1), 1] = [⟨0, 1, 2⟩, ⟨12, 1, 2⟩] := by rfl
  have hf : fineB [(-1), 1, 1, 1, 1, 1, 1, (-1), (-1), (-1), (-1), (-1), (-1), 1] = true := by decide
  have hp : per [(-1), 1, 1, 1, 1, 1, 1, (-1), (-1), (-1), (-1), (-1), (-1), 1] = (12, 1, 0) := by
    unfold per
    rw [if_pos hf, hc]
    rfl
  have hm : mhz [(-1), 1, 1, 1, 1, 1, 1, (-1), (-1), (-1), (-1), (-1), (-1), 1] = (50000, 0) := by
    unfold mhz
    rw [hp]
    rfl
  rw [hm]
  unfold frequency_Crossings.f
  rw [if_pos hf, hc]
  rfl

theorem gc_scale (k a b : Int) (hk : 0 < k) : gc (k * a) (k * b) = k * gc a b := by
  unfold gc
  rw [Int.gcd_mul_left]
  have : ((k.natAbs : Nat) : Int) = k := by omega
  rw [Int.natCast_mul, this]
theorem rd_map (f : Int → Int) (hf : f 0 = 0) (l : List Int) (i : Int) : rd (l.map f) i = f (rd l i) := by
  unfold rd
  rw [List.getD_eq_getElem?_getD, List.getD_eq_getElem?_getD, List.getElem?_map]
  cases l[i.toNat]? with
  | none => exact hf.symm
  | some x => rfl
theorem crAt_scale (k : Int) (hk : 0 < k) (l : List Int) (i : Nat) : crAt (l.map (k * ·)) i = crAt l i := by
  unfold crAt
  rw [rd_map _ (Int.mul_zero k), rd_map _ (Int.mul_zero k)]
  generalize rd l (i : Int) = x
  generalize rd l ((i + 1 : Nat) : Int) = y
  have h1 : k * x < 0 ↔ x < 0 := by
    constructor
    · intro h
      rcases Int.lt_or_le x 0 with h2 | h2
      · exact h2
      · have := Int.mul_nonneg (by omega : 0 ≤ k) h2; omega
    · intro h; exact Int.mul_neg_of_pos_of_neg hk h
  have h2 : 0 ≤ k * y ↔ 0 ≤ y := by
    constructor
    · intro h
      rcases Int.lt_or_le y 0 with h2 | h2
      · have := Int.mul_neg_of_pos_of_neg hk h2; omega
      · exact h2
    · intro h; exact Int.mul_nonneg (by omega) h
  by_cases hc : x < 0 ∧ 0 ≤ y
  · rw [if_pos hc, if_pos ⟨h1.2 hc.1, h2.2 hc.2⟩]
    have e1 : -(k * x) = k * (-x) := by rw [Int.mul_neg]
    have e2 : k * y - k * x = k * (y - x) := by rw [Int.mul_sub]
    rw [e1, e2, gc_scale k _ _ hk, Int.mul_ediv_mul_of_pos _ _ hk, Int.mul_ediv_mul_of_pos _ _ hk]
  · rw [if_neg hc, if_neg (fun h => hc ⟨h1.1 h.1, h2.1 h.2⟩)]
theorem cross_scale (k : Int) (hk : 0 < k) (l : List Int) : cross (l.map (k * ·)) = cross l := by
  unfold cross upto
  rw [List.length_map, show crAt (l.map (k * ·)) = crAt l from funext (crAt_scale k hk l)]
theorem per_same {a b : List Int} (ha : fineB a = true) (hb : fineB b = true) (h : cross a = cross b) : per a = per b := by
  unfold per
  rw [if_pos ha, if_pos hb, h]
theorem mhz_same {a b : List Int} (ha : fineB a = true) (hb : fineB b = true) (h : cross a = cross b) : mhz a = mhz b := by
  unfold mhz
  rw [per_same ha hb h]
/-- The series of the law. -/
def cutL (l : List Int) : List Int := (l.take 240).map fun x => Int.tmod x 160
theorem tmod_b (x : Int) : -159 ≤ Int.tmod x 160 ∧ Int.tmod x 160 ≤ 159 := by
  have := tmod_range x 160 (by omega)
  omega
theorem fine_cut (k : Int) (h1 : 1 ≤ k) (h2 : k ≤ 100) (l : List Int) : fineB ((cutL l).map (k * ·)) = true := by
  unfold fineB cutL
  simp only [Bool.and_eq_true, decide_eq_true_eq, List.all_eq_true, List.length_map, List.length_take, List.mem_map]
  refine ⟨by omega, ?_⟩
  rintro _ ⟨_, ⟨x, _, rfl⟩, rfl⟩
  obtain ⟨b1, b2⟩ := tmod_b x
  generalize Int.tmod x 160 = y at *
  have a1 : k * y ≤ k * 159 := Int.mul_le_mul_of_nonneg_left b2 (by omega)
  have a2 : k * (-159) ≤ k * y := Int.mul_le_mul_of_nonneg_left b1 (by omega)
  omega
set_option maxRecDepth 20000 in
theorem scale_l0 (l : List Int) (k : Int) (h1 : 1 ≤ k) (h2 : k ≤ 100) : ∀ (d i n : Nat) (ys zs : List Int), (l.take 240).length = i + d → ys = ((l.take i).map fun x => Int.tmod x 160) → zs = ys.map (k * ·) → d + 300000000010 < n →
    substationlaw25_FrequencyScale.l0 n l k ys zs (i : Int) = some true := by
  intro d
  induction d with
  | zero =>
    intro i n ys zs hi hy hz hn
    obtain ⟨n, rfl⟩ : ∃ j, n = j + 2 := ⟨n - 2, by omega⟩
    have hcut : ys = cutL l := by
      rw [hy]
      unfold cutL
      rcases Nat.lt_or_ge l.length 240 with h | h
      · have : i = l.length := by simp at hi; omega
        rw [List.take_of_length_le (by omega), List.take_of_length_le (by omega)]
      · have : i = 240 := by simp at hi; omega
        rw [this]
    have fy : fineB ys = true := by
      have := fine_cut 1 (by omega) (by omega) l
      rw [show (cutL l).map (1 * ·) = cutL l from by simp] at this
      rw [hcut]; exact this
    have fz : fineB zs = true := by rw [hz, hcut]; exact fine_cut k h1 h2 l
    have hc : cross zs = cross ys := by rw [hz]; exact cross_scale k (by omega) ys
    have j1 : substationlaw25_FrequencyScale.j1 (n + 1) ys zs = some true := by
      simp only [substationlaw25_FrequencyScale.j1]
      rw [per_eq _ _ (by omega), per_eq _ _ (by omega), mhz_eq _ _ (by omega), mhz_eq _ _ (by omega), per_same fz fy hc, mhz_same fz fy hc]
      simp
    have key : substationlaw25_FrequencyScale.l0 (n + 2) l k ys zs (i : Int) = substationlaw25_FrequencyScale.j1 (n + 1) ys zs := by
      simp only [substationlaw25_FrequencyScale.l0]
      by_cases c : (i : Int) < (l.length : Int)
      · rw [if_pos c, if_neg (by simp at hi; omega)]
      · rw [if_neg c]
    rw [key, j1]
  | succ d ih =>
    intro i n ys zs hi hy hz hn
    obtain ⟨n, rfl⟩ : ∃ j, n = j + 1 := ⟨n - 1, by omega⟩
    have hl : i < l.length ∧ i < 240 := by simp at hi; omega
    have hyl : ys.length = i := by rw [hy]; simp; omega
    have hzl : zs.length = i := by rw [hz]; simp [hyl]
    have hb := tmod_b (rd l (i : Int))
    have hrd : rd l (i : Int) = l[i] := by simp [rd, hl.1]
    simp only [substationlaw25_FrequencyScale.l0]
    rw [if_pos (by omega), if_pos (by omega), if_pos (by omega), if_pos (by omega), if_pos (by omega)]
    have ew : wrap64 ((i : Int) + 1) = ((i + 1 : Nat) : Int) := by rw [wid (by omega) (by omega)]; rfl
    have em : wrap64 (k * Int.tmod (rd l (i : Int)) 160) = k * Int.tmod (rd l (i : Int)) 160 := by
      generalize Int.tmod (rd l (i : Int)) 160 = y at *
      have a1 : k * y ≤ k * 159 := Int.mul_le_mul_of_nonneg_left hb.2 (by omega)
      have a2 : k * (-159) ≤ k * y := Int.mul_le_mul_of_nonneg_left hb.1 (by omega)
      exact wid (by omega) (by omega)
    rw [ew, em]
    refine ih (i + 1) n _ _ (by omega) ?_ ?_ (by omega)
    · rw [hy, List.take_succ_eq_append_getElem hl.1, List.map_append, hrd]; rfl
    · rw [hz, List.map_append]; rfl
theorem FrequencyScale : FrequencyScale_Pure := by
  rintro l a ⟨_, _, _⟩ _
  refine ⟨300000001000, ?_⟩
  unfold substationlaw25_FrequencyScale.f
  rw [known_eq _ (by omega)]
  simp only [Option.bind_some, if_true]
  obtain ⟨r, hr, h0, h1⟩ := within_eq a 100 (by omega) (by omega)
  rw [hr]
  simp only [Option.bind_some]
  rw [wid (by omega) (by omega)]
  have hlen : (l.take 240).length ≤ 240 := by simp; omega
  exact scale_l0 l (1 + r) (by omega) (by omega) (l.take 240).length 0 _ [] [] (by simp) rfl rfl (by omega)

end Go.Proofs.Ytiemghinklablaa.Pure
