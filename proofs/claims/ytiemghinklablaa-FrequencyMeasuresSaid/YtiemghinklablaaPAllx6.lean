import Derived.Test.YtiemghinklablaaPAllx0
namespace Go.Proofs.Ytiemghinklablaa.PAll
open Go.RowKit Go.Proofs.YtiemghinklablaaW.PrintWords Go.Proofs.YtiemghinklablaaW.PrintLast Go.Proofs.YtiemghinklablaaW.PrintMore
attribute [local go_sem] max2_int min2_int max_two min_two max_three min_three max_four min_four   -- for this text's walks alone
set_option linter.unusedVariables false
set_option linter.unusedSimpArgs false

/-! ### substationref01_trim: function 40 -/
def substationref01_trim.l0 : Nat → List Int → Int → Option (List Int)
  | 0, _, _ => none
  | k + 1, x0, x3 => if x3 > 0 then (if 0 ≤ (wrap64 (x3 - 1)) then (if (wrap64 (x3 - 1)) < (x0.length : Int) then (if (rd x0 (wrap64 (x3 - 1))) = 0 then (substationref01_trim.l0 k x0 (wrap64 (x3 - 1))) else ((some (([] : List Int) : List Int)).bind fun y220 => (if 0 ≤ x3 then (if x3 ≤ (x0.length : Int) then (if y220.length + (x0.take (x3 : Int).toNat).length < 35184372088832 then (some (y220 ++ (x0.take (x3 : Int).toNat))) else (none)) else (none)) else (none)))) else (none)) else (none)) else ((some (([] : List Int) : List Int)).bind fun y227 => (if 0 ≤ x3 then (if x3 ≤ (x0.length : Int) then (if y227.length + (x0.take (x3 : Int).toNat).length < 35184372088832 then (some (y227 ++ (x0.take (x3 : Int).toNat))) else (none)) else (none)) else (none)))
def substationref01_trim.f (k : Nat) (l0 : List Int) : Option (List Int) := substationref01_trim.l0 k l0 (l0.length : Int)
theorem substationref01_trim.mono_l : ∀ k, (∀ y0 y1, LeO (substationref01_trim.l0 k y0 y1) (substationref01_trim.l0 (k + 1) y0 y1))
  | 0 => fun _ _ r h => by simp [substationref01_trim.l0] at h
  | k + 1 => by
    have ih0 := substationref01_trim.mono_l k
    · intro y0 y1
      unfold substationref01_trim.l0
      repeat' first
      | (with_reducible exact ih0 _ _)
      | (with_reducible exact LeO.refl _)
      | (with_reducible exact LeO.none _)
      | (with_reducible refine LeO.ite ?_ ?_)
      | (with_reducible refine LeO.bind ?_ (fun _ => ?_))
      | exact ih0 _ _
      | exact LeO.none _
      | refine LeO.ite ?_ ?_
      | refine LeO.bind ?_ (fun _ => ?_)
theorem substationref01_trim.mono : ∀ a0 k, LeO (substationref01_trim.f k a0) (substationref01_trim.f (k + 1) a0) := by
  intro a0 k
  have ih0 := substationref01_trim.mono_l k
  unfold substationref01_trim.f
  repeat' first
      | (with_reducible exact ih0 _ _)
      | (with_reducible exact LeO.refl _)
      | (with_reducible exact LeO.none _)
      | (with_reducible refine LeO.ite ?_ ?_)
      | (with_reducible refine LeO.bind ?_ (fun _ => ?_))
      | exact ih0 _ _
      | exact LeO.none _
      | refine LeO.ite ?_ ?_
      | refine LeO.bind ?_ (fun _ => ?_)
/-- A list without the zeros at its end. -/
def trimL (l : List Int) : List Int := (l.reverse.dropWhile (· == 0)).reverse
theorem trimL_zero (l : List Int) : trimL (l ++ [0]) = trimL l := by simp [trimL]
theorem trimL_last (l : List Int) (x : Int) (h : x ≠ 0) : trimL (l ++ [x]) = l ++ [x] := by simp [trimL, h]
theorem trimL_nil : trimL [] = [] := rfl
theorem take_at (l : List Int) (m : Nat) (h : m < l.length) : l.take (m + 1) = l.take m ++ [rd l (m : Int)] := by
  rw [List.take_succ_eq_append_getElem h]
  simp [rd, h]
/-- One step of the loop. -/
theorem trim_l0 (l : List Int) (hl : l.length ≤ 4611686018427387904) : ∀ (m k : Nat), m ≤ l.length → m < k → m < 35184372088832 → substationref01_trim.l0 k l (m : Int) = some (trimL (l.take m)) := by
  intro m
  induction m with
  | zero =>
    intro k _ hk _
    obtain ⟨k, rfl⟩ : ∃ j, k = j + 1 := ⟨k - 1, by omega⟩
    simp only [substationref01_trim.l0]
    rw [if_neg (by omega)]
    simp [trimL]
  | succ m ih =>
    intro k hm hk h3
    obtain ⟨k, rfl⟩ : ∃ j, k = j + 1 := ⟨k - 1, by omega⟩
    simp only [substationref01_trim.l0]
    have ew : wrap64 (((m + 1 : Nat) : Int) - 1) = (m : Int) := by unfold wrap64; omega
    rw [if_pos (by omega), ew, if_pos (by omega), if_pos (by omega)]
    by_cases h : rd l (m : Int) = 0
    · rw [if_pos h, ih k (by omega) (by omega) (by omega), take_at l m (by omega), h, trimL_zero]
    · rw [if_neg h, take_at l m (by omega), trimL_last _ _ h]
      simp only [Option.bind_some]
      rw [if_pos (by omega), if_pos (by omega)]
      have e2 : ((m + 1 : Nat) : Int).toNat = m + 1 := by omega
      rw [e2, take_at l m (by omega)]
      have : ([] : List Int).length + (l.take m ++ [rd l (m : Int)]).length < 35184372088832 := by simp; omega
      rw [if_pos this]
      rfl
theorem trim_eq (l : List Int) (k : Nat) (hk : l.length < k) (h3 : l.length < 35184372088832) : substationref01_trim.f k l = some (trimL l) := by
  unfold substationref01_trim.f
  rw [trim_l0 l (by omega) l.length k (Nat.le_refl _) hk h3, List.take_length]
/-- Whatever the walk answers, it is that list, and the list is short. -/
theorem trim_says : ∀ (k : Nat) (l : List Int) (m : Int) (r : List Int), 0 ≤ m → m ≤ l.length → l.length ≤ 9223372036854775807 → substationref01_trim.l0 k l m = some r → r = trimL (l.take m.toNat) ∧ r.length < 35184372088832 := by
  intro k
  induction k with
  | zero => intro l m r _ _ _ h; simp [substationref01_trim.l0] at h
  | succ k ih =>
    intro l m r h0 h1 h2 h
    obtain ⟨n, rfl⟩ : ∃ n : Nat, m = n := ⟨m.toNat, by omega⟩
    simp only [substationref01_trim.l0] at h
    have fin : ∀ r, (if 0 ≤ (n : Int) then (if (n : Int) ≤ (l.length : Int) then (if ([] : List Int).length + (l.take ((n : Int) : Int).toNat).length < 35184372088832 then (some (([] : List Int) ++ (l.take ((n : Int) : Int).toNat))) else (none)) else (none)) else (none)) = some r → r = l.take n ∧ r.length < 35184372088832 := by
      intro r h
      rw [if_pos h0, if_pos h1] at h
      split at h
      · rename_i h4
        cases h
        exact ⟨by simp, by simpa using h4⟩
      · cases h
    by_cases hn : (n : Int) > 0
    · rw [if_pos hn] at h
      obtain ⟨j, rfl⟩ : ∃ j, n = j + 1 := ⟨n - 1, by omega⟩
      have ew : wrap64 (((j + 1 : Nat) : Int) - 1) = (j : Int) := by unfold wrap64; omega
      rw [ew, if_pos (by omega), if_pos (by omega)] at h
      have et : (((j + 1 : Nat) : Int)).toNat = j + 1 := by omega
      by_cases hz : rd l (j : Int) = 0
      · rw [if_pos hz] at h
        obtain ⟨a, b⟩ := ih l (j : Int) r (by omega) (by omega) h2 h
        rw [et, take_at l j (by omega), hz, trimL_zero]
        exact ⟨by simpa using a, b⟩
      · rw [if_neg hz] at h
        simp only [Option.bind_some] at h
        obtain ⟨a, b⟩ := fin r h
        rw [et, take_at l j (by omega), trimL_last _ _ hz, ← take_at l j (by omega)]
        exact ⟨a, b⟩
    · rw [if_neg hn] at h
      simp only [Option.bind_some] at h
      obtain ⟨a, b⟩ := fin r h
      have : n = 0 := by omega
      subst this
      exact ⟨by rw [a]; simp [trimL], b⟩
theorem lit70 {base : Nat} (W : World) (hb : base ≤ W.heap.size) : (Kd.int .u32).R 70 (W.alloc (.cells #[] 70)) base (fun _ => True) (.slice (some ⟨W.heap.size, 0, none⟩) 0 0) [] :=
  ⟨fun _ _ => trivial, [], ⟨rfl, .inr ⟨W.heap.size, 0, #[], rfl, hb, blk_new W _, Nat.le_refl _, by unfold maxLen; omega, rfl, rfl⟩⟩, Reps.none _ _⟩
theorem take70 (A : Option Addr) (c : Nat) (l : List Int) (m : Nat) (hm : m ≤ l.length) (hc : l.length ≤ c) (W : World) (h : (Kd.int .u32).C W A l.length l) : (Kd.int .u32).C W A m (l.take m) := by
  obtain ⟨i0, hi, _, hsz, _⟩ := info_parts info70
  obtain ⟨_, hA, _⟩ := print_take_of (P := Try.prog) (Value.int .u32) 0 51 70 .i64 Try.underlying51 hi hsz A c l (m : Int) (by omega) (by omega) hc
  have := Kd.C_of_reads (h1 := fun _ => rfl) (hA _ (Kd.reads_of_C (d := (0 : Int)) h))
  rw [Int.toNat_natCast] at this
  have e : (l.take m).length = m := by simp; omega
  rwa [e] at this
set_option maxHeartbeats 4000000 in
set_option maxRecDepth 100000 in
theorem substationref01_trim.calls (k : Nat) (A0 : Option Addr) (c0 : Nat) (l0 : List Int) (r : List Int) (w : World) (hr0 : Kd.C (Kd.int .u32) w A0 l0.length l0) (hc0 : l0.length ≤ c0) (h : substationref01_trim.f k l0 = some r) :
    Calls Try.prog 40 #[.slice A0 l0.length c0] w fun e w' => ∃ v0_ : Value, e = .returned (v0_) ∧ Kd.R (Kd.int .u32) 70 w' w.heap.size (fun _ => True) v0_ r ∧ Below w.heap.size w w' := by
  have hu51 := Try.underlying51
  have hlen : l0.length ≤ 9223372036854775807 := hr0.2.1
  obtain ⟨hr, hrl⟩ := trim_says k l0 _ r (Int.natCast_nonneg _) (Int.le_refl _) hlen h
  rw [Int.toNat_natCast, List.take_length] at hr
  have HR0 := Aside0.mk hr0
  have HC0 := Aside0.mk hc0
  have HRR := Aside0.mk hr
  have HRL := Aside0.mk hrl
  clear hr0 hr hrl h
  go_enter Try.func40, Try.ntmps40
  go_wp2
  go_loopw [3] (fun v wr => ∃ m : Nat, v = .int .i64 (m : Int) ∧ Aside0 (m ≤ l0.length) ∧ Aside0 (trimL (l0.take m) = r) ∧ Aside0 (Below w.heap.size w wr)) (fun v _ => (intOf v).toNat)
  case atStart => exact ⟨l0.length, rfl, ⟨Nat.le_refl _⟩, ⟨by rw [List.take_length, HRR.out]⟩, ⟨Below.refl _ _⟩⟩
  case round =>
    obtain ⟨m, rfl, HM, HT, HB⟩ := hrel
    by_cases hm : m = 0
    · subst hm
      have t1 : decide ((0 : Int) < ((0 : Nat) : Int)) = false := rfl
      have hr : r = [] := by rw [← HT.out]; rfl
      go_wp2_with (at_builtin; refine Kd.R_append_rows (Kd.int .u32) (w0 := w) w.heap.size rfl (.tmp 18) (.tmp 21) 51 70 (.int .u32 0) 4 rfl Try.underlying51 info70 rfl (by decide) (by decide) _ [] [] _ _ _ (fun _ => True) (fun _ => False) rfl rfl ?aO ?aR (fun _ _ h => h) (fun _ h => h.elim) ?aF ?aB ?aS ?aL ?_)
      case aO => exact lit70 wr HB.out.size
      case aR => exact ⟨rfl, by simp, fun h => absurd h (Nat.lt_irrefl 0)⟩
      case aF => exact fun _ _ => trivial
      case aB => exact below_alloc HB.out _
      case aS => exact Nat.le_trans HB.out.size (by simp)
      case aL => simp
      intro v1 w1 ho hb hg hat
      have HO := Aside0.mk ho
      have HB1 := Aside0.mk hb
      clear ho hb hg hat
      go_wp2
      go_ret
      exact ⟨_, rfl, by rw [hr]; exact HO.out, HB1.out⟩
    · obtain ⟨j, rfl⟩ : ∃ j, m = j + 1 := ⟨m - 1, by omega⟩
      have hj : j < l0.length := HM.out
      obtain ⟨ad, rfl, hx⟩ := Kd.at_int (Kd.C_below HR0.out HB.out) (j : Int) (by omega) (by omega)
      rw [Int.toNat_natCast] at hx
      obtain ⟨x, EX⟩ : ∃ x, Aside0 (rd l0 (j : Int) = x) := ⟨_, ⟨rfl⟩⟩
      rw [EX.out] at hx
      by_cases hz : x = 0
      · have t2 : (x == 0) = true := by simpa using hz
        go_wp2
        go_roundw
        case rel => exact ⟨j, by go_num, ⟨by omega⟩, ⟨by have := HT.out; rw [take_at l0 j hj, EX.out, hz, trimL_zero] at this; exact this⟩, HB⟩
        case measure => simp [intOf]
      · have t2 : (x == 0) = false := by simpa using hz
        go_wp2_with (at_builtin; refine Kd.R_append_rows (Kd.int .u32) (w0 := w) w.heap.size rfl (.tmp 18) (.tmp 21) 51 70 (.int .u32 0) 4 rfl Try.underlying51 info70 rfl (by decide) (by decide) _ [] (l0.take (j + 1)) _ _ _ (fun _ => True) (fun _ => False) rfl rfl ?bO ?bR (fun _ _ h => h) (fun _ h => h.elim) ?bF ?bB ?bS ?bL ?_)
        case bO => exact lit70 wr HB.out.size
        case bR => exact take70 (some ad) c0 l0 (j + 1) hj hc0 _ (Kd.C_below (Kd.C_below HR0.out HB.out) (below_alloc (Below.refl _ _) _))
        case bF => exact fun _ _ => trivial
        case bB => exact below_alloc HB.out _
        case bS => exact Nat.le_trans HB.out.size (by simp)
        case bL =>
          have := HRL.out
          rw [← HT.out, take_at l0 j hj, EX.out, trimL_last _ _ hz] at this
          simp at this ⊢
          omega
        intro v1 w1 ho hb hg hat
        have HO := Aside0.mk ho
        have HB1 := Aside0.mk hb
        clear ho hb hg hat
        go_wp2
        go_ret
        refine ⟨_, rfl, ?_, HB1.out⟩
        have e : l0.take (j + 1) = r := by rw [← HT.out, take_at l0 j hj, EX.out, trimL_last _ _ hz]
        rw [← e]
        exact HO.out
/-! ### substationref01_made: function 37 -/
def substationref01_made.f (k : Nat) (a0 : Bool) (l1 : List Int) : Option (Bool × List Int) := (substationref01_trim.f k l1).bind fun t235 => (if a0 = true then (some (decide (0 < t235.length), t235)) else (some (false, t235)))
theorem substationref01_made.mono : ∀ a0 a1 k, LeO (substationref01_made.f k a0 a1) (substationref01_made.f (k + 1) a0 a1) := by
  intro a0 a1 k
  unfold substationref01_made.f
  repeat' first
      | (with_reducible exact substationref01_trim.mono _ _)
      | (with_reducible exact LeO.refl _)
      | (with_reducible exact LeO.none _)
      | (with_reducible refine LeO.ite ?_ ?_)
      | (with_reducible refine LeO.bind ?_ (fun _ => ?_))
      | exact substationref01_trim.mono _ _
      | exact LeO.none _
      | refine LeO.ite ?_ ?_
      | refine LeO.bind ?_ (fun _ => ?_)
set_option maxHeartbeats 8000000 in
set_option maxRecDepth 100000 in
theorem substationref01_made.calls (k : Nat) (a0 : Bool) (A1 : Option Addr) (c1 : Nat) (l1 : List Int) (r1 : Bool) (r2 : List Int) (w : World) (hr1 : Kd.C (Kd.int .u32) w A1 l1.length l1) (hc1 : l1.length ≤ c1) (h : substationref01_made.f k a0 l1 = some (r1, r2)) :
    Calls Try.prog 37 #[.bool a0, .slice A1 l1.length c1] w fun e w' => ∃ v1_ : Value, e = .returned (.agg #[.bool r1, v1_]) ∧ Kd.R (Kd.int .u32) 70 w' w.heap.size (fun _ => True) v1_ r2 ∧ Below w.heap.size w w' := by
  have hu53 := Try.underlying53
  have HR1 := Aside0.mk hr1
  have HC1 := Aside0.mk hc1
  clear hr1 hc1
  have HB := Aside0.mk (Below.refl w.heap.size w)
  have H : ((substationref01_trim.f k l1).bind fun t235 => (if a0 = true then (some (decide (0 < t235.length), t235)) else (some (false, t235)))) = some (r1, r2) := h
  clear h
  replace H := Option.bind_eq_some_iff.mp H
  obtain ⟨t235, A30, H⟩ := H
  replace H : (if a0 = true then (some (decide (0 < t235.length), t235)) else (some (false, t235))) = some (r1, r2) := H
  have A3 := Aside0.mk A30
  clear A30
  by_cases c4 : a0 = true
  · subst c4
    have H1 : (some (decide (0 < t235.length), t235)) = some (r1, r2) := by rw [if_pos rfl] at H; exact H
    clear H
    have H := H1
    clear H1
    simp only [Option.some.injEq, Prod.mk.injEq] at H
    obtain ⟨rfl, rfl⟩ := H
    go_enter Try.func37, Try.ntmps37
    go_wp2_with (first | ((with_reducible refine gate_dst (N := 4) rfl ?_); (try (refine gate_guard (by rfl) ?_; dsimp only)); refine box_event ?hg (N := 4) ?hd (cs := #[.bool false, .slice none 0 0]) (t := 53) ?hr ?_; (case hd => rfl); (case hg => rfl); (case hr => first | (go_simp; done) | (go_simp; rfl)); intro gb234 hg w5 hbox hb; have n0_ := Aside0.mk (below_step (by repeat (first | (with_reducible first | exact HB.out | apply below_alloc | apply pw_below_drewN | apply below_drew1) | exact HB.out)) hb); have n1_ := Aside0.mk (hbox); have n2_ := Aside0.mk ((by rw [hg]; exact (below_size (by repeat (first | (with_reducible first | exact HB.out | apply below_alloc | apply pw_below_drewN | apply below_drew1) | exact HB.out))) : w.heap.size ≤ gb234)); have n3_ := Aside0.mk ((by rw [hg]; exact (below_size (by repeat (first | (with_reducible first | exact HB.out | apply below_alloc | apply pw_below_drewN | apply below_drew1) | exact HB.out))) : w.heap.size ≤ gb234)); clear HB; have HB := n0_; have BK234 := n1_; have GW234 := n2_; have GE234 := n3_; clear n0_ n1_ n2_ n3_; clear hb hbox hg) | ((with_reducible refine gate_callee (f := 40) rfl ?_); refine goesL_ (some 6) rfl rfl Try.func40 (by kernel_rfl) rfl #[.slice A1 l1.length c1] rfl (by (try simp only [List.map_toArray, List.map_cons, List.map_nil]); first | done | rfl | (simp only [List.length_drop, List.length_take]; rfl)) ?_; (with_reducible refine (substationref01_trim.calls k _ _ l1 t235 _ ?side1 ?side2 A3.out).mono ?_); (case side1 => repeat (first | exact (Kd.C_below HR1.out HB.out) | (with_reducible refine Kd.C_alloc ?_ _) | (with_reducible refine Kd.C_drewN ?_ _) | (with_reducible refine Kd.C_drew ?_))); (case side2 => exact HC1.out); rintro e w6 ⟨v236, rfl, ho0, hb⟩; refine ⟨_, rfl, ?_⟩; have n0_ := Aside0.mk (Kd.R_lower ho0 (below_size (by repeat (first | (with_reducible first | exact HB.out | apply below_alloc | apply pw_below_drewN | apply below_drew1 | refine below_set ?_ GE234.out) | exact HB.out)))); have n1_ := Aside0.mk (blk_below (g := gb234) (o := .cells #[.bool false, .slice none 0 0] 53 (0, 0)) (by (with_reducible repeat (first | refine blk_drewN ?_ _ | refine blk_drew ?_ | refine blk_alloc ?_ _)); exact BK234.out) hb); have n2_ := Aside0.mk (below_step (by repeat (first | (with_reducible first | exact HB.out | apply below_alloc | apply pw_below_drewN | apply below_drew1 | refine below_set ?_ GE234.out) | exact HB.out)) hb); clear BK234; clear HB; have HO237 := n0_; have BK234 := n1_; have HB := n2_; clear n0_ n1_ n2_; (try clear hb); (try clear hb2); (try clear hk); (try clear hi); (try clear ho0); obtain ⟨Ao7, co7, eo7⟩ := Kd.R_slice HO237.out; subst eo7; have hcz8_0 : w6.cell? ⟨gb234, 0, none⟩ = some (.bool false) := (blk_cell BK234.out 0).trans rfl; have hcz8_1 : w6.cell? ⟨gb234, 1, none⟩ = some (.slice none 0 0) := (blk_cell BK234.out 1).trans rfl; have hfz8_0 := blk_frozen BK234.out 0; have hfz8_1 := blk_frozen BK234.out 1))
    refine bodyPost_ret (results_cell_row rfl _ _ gb234 53 #[.bool (decide (0 < t235.length)), .slice Ao7 t235.length co7] (0, 0) _ rfl (by (with_reducible repeat (first | refine blk_drewN ?_ _ | refine blk_drew ?_ | refine blk_alloc ?_ _)); refine blk_put (cs := #[.bool (decide (0 < t235.length)), .slice none 0 0]) ?_ 1 _ rfl; (with_reducible repeat (first | refine blk_drewN ?_ _ | refine blk_drew ?_ | refine blk_alloc ?_ _)); refine blk_put (cs := #[.bool false, .slice none 0 0]) ?_ 0 _ rfl; (with_reducible repeat (first | refine blk_drewN ?_ _ | refine blk_drew ?_ | refine blk_alloc ?_ _)); exact BK234.out) Try.underlying53 rfl (by kernel_rfl)) rfl ?_
    exact ⟨_, by first | rfl | (simp [errW_none, errW_some] <;> rfl) | (simp [*, errW_none, errW_some] <;> rfl), by (with_reducible repeat (first | apply Kd.R_alloc | apply Kd.R_drewN | apply Kd.R_drew)); exact Kd.R_mono (Kd.R_far (p := ⟨gb234, 1, none⟩) (Kd.R_far (p := ⟨gb234, 0, none⟩) (Kd.R_types HO237.out BK234.out (by decide)) (fun _ hk => hk.2) (.bool (decide (0 < t235.length)))) (fun _ hk => hk.2) (.slice Ao7 t235.length co7)) (fun _ hk => trivial), by repeat (first | (with_reducible first | exact HB.out | apply below_alloc | apply pw_below_drewN | apply below_drew1 | refine below_set ?_ GE234.out) | exact HB.out)⟩
  · replace c4 := Bool.eq_false_iff.mpr c4
    subst c4
    have H1 : (some (false, t235)) = some (r1, r2) := by rw [if_neg (show ¬ (false = true) by decide)] at H; exact H
    clear H
    have H := H1
    clear H1
    simp only [Option.some.injEq, Prod.mk.injEq] at H
    obtain ⟨rfl, rfl⟩ := H
    go_enter Try.func37, Try.ntmps37
    go_wp2_with (first | ((with_reducible refine gate_dst (N := 4) rfl ?_); (try (refine gate_guard (by rfl) ?_; dsimp only)); refine box_event ?hg (N := 4) ?hd (cs := #[.bool false, .slice none 0 0]) (t := 53) ?hr ?_; (case hd => rfl); (case hg => rfl); (case hr => first | (go_simp; done) | (go_simp; rfl)); intro gb234 hg w9 hbox hb; have n0_ := Aside0.mk (below_step (by repeat (first | (with_reducible first | exact HB.out | apply below_alloc | apply pw_below_drewN | apply below_drew1) | exact HB.out)) hb); have n1_ := Aside0.mk (hbox); have n2_ := Aside0.mk ((by rw [hg]; exact (below_size (by repeat (first | (with_reducible first | exact HB.out | apply below_alloc | apply pw_below_drewN | apply below_drew1) | exact HB.out))) : w.heap.size ≤ gb234)); have n3_ := Aside0.mk ((by rw [hg]; exact (below_size (by repeat (first | (with_reducible first | exact HB.out | apply below_alloc | apply pw_below_drewN | apply below_drew1) | exact HB.out))) : w.heap.size ≤ gb234)); clear HB; have HB := n0_; have BK234 := n1_; have GW234 := n2_; have GE234 := n3_; clear n0_ n1_ n2_ n3_; clear hb hbox hg) | ((with_reducible refine gate_callee (f := 40) rfl ?_); refine goesL_ (some 6) rfl rfl Try.func40 (by kernel_rfl) rfl #[.slice A1 l1.length c1] rfl (by (try simp only [List.map_toArray, List.map_cons, List.map_nil]); first | done | rfl | (simp only [List.length_drop, List.length_take]; rfl)) ?_; (with_reducible refine (substationref01_trim.calls k _ _ l1 t235 _ ?side1 ?side2 A3.out).mono ?_); (case side1 => repeat (first | exact (Kd.C_below HR1.out HB.out) | (with_reducible refine Kd.C_alloc ?_ _) | (with_reducible refine Kd.C_drewN ?_ _) | (with_reducible refine Kd.C_drew ?_))); (case side2 => exact HC1.out); rintro e w10 ⟨v236, rfl, ho0, hb⟩; refine ⟨_, rfl, ?_⟩; have n0_ := Aside0.mk (Kd.R_lower ho0 (below_size (by repeat (first | (with_reducible first | exact HB.out | apply below_alloc | apply pw_below_drewN | apply below_drew1 | refine below_set ?_ GE234.out) | exact HB.out)))); have n1_ := Aside0.mk (blk_below (g := gb234) (o := .cells #[.bool false, .slice none 0 0] 53 (0, 0)) (by (with_reducible repeat (first | refine blk_drewN ?_ _ | refine blk_drew ?_ | refine blk_alloc ?_ _)); exact BK234.out) hb); have n2_ := Aside0.mk (below_step (by repeat (first | (with_reducible first | exact HB.out | apply below_alloc | apply pw_below_drewN | apply below_drew1 | refine below_set ?_ GE234.out) | exact HB.out)) hb); clear BK234; clear HB; have HO237 := n0_; have BK234 := n1_; have HB := n2_; clear n0_ n1_ n2_; (try clear hb); (try clear hb2); (try clear hk); (try clear hi); (try clear ho0); obtain ⟨Ao11, co11, eo11⟩ := Kd.R_slice HO237.out; subst eo11; have hcz12_0 : w10.cell? ⟨gb234, 0, none⟩ = some (.bool false) := (blk_cell BK234.out 0).trans rfl; have hcz12_1 : w10.cell? ⟨gb234, 1, none⟩ = some (.slice none 0 0) := (blk_cell BK234.out 1).trans rfl; have hfz12_0 := blk_frozen BK234.out 0; have hfz12_1 := blk_frozen BK234.out 1))
    refine bodyPost_ret (results_cell_row rfl _ _ gb234 53 #[.bool false, .slice Ao11 t235.length co11] (0, 0) _ rfl (by (with_reducible repeat (first | refine blk_drewN ?_ _ | refine blk_drew ?_ | refine blk_alloc ?_ _)); refine blk_put (cs := #[.bool false, .slice none 0 0]) ?_ 1 _ rfl; (with_reducible repeat (first | refine blk_drewN ?_ _ | refine blk_drew ?_ | refine blk_alloc ?_ _)); refine blk_put (cs := #[.bool false, .slice none 0 0]) ?_ 0 _ rfl; (with_reducible repeat (first | refine blk_drewN ?_ _ | refine blk_drew ?_ | refine blk_alloc ?_ _)); exact BK234.out) Try.underlying53 rfl (by kernel_rfl)) rfl ?_
    exact ⟨_, by first | rfl | (simp [errW_none, errW_some] <;> rfl) | (simp [*, errW_none, errW_some] <;> rfl), by (with_reducible repeat (first | apply Kd.R_alloc | apply Kd.R_drewN | apply Kd.R_drew)); exact Kd.R_mono (Kd.R_far (p := ⟨gb234, 1, none⟩) (Kd.R_far (p := ⟨gb234, 0, none⟩) (Kd.R_types HO237.out BK234.out (by decide)) (fun _ hk => hk.2) (.bool false)) (fun _ hk => hk.2) (.slice Ao11 t235.length co11)) (fun _ hk => trivial), by repeat (first | (with_reducible first | exact HB.out | apply below_alloc | apply pw_below_drewN | apply below_drew1 | refine below_set ?_ GE234.out) | exact HB.out)⟩

/-! ### substationref01_times: function 38 -/
mutual
def substationref01_times.l0 : Nat → List Int → List Int → List Int → Int → Option (List Int)
  | 0, _, _, _, _ => none
  | k + 1, x0, x1, x5, x6 => if x6 < (x0.length : Int) then (substationref01_times.l1 k x0 x1 x5 x6 0 0) else ((substationref01_trim.f k x5).bind fun t241 => (some t241))
def substationref01_times.l1 : Nat → List Int → List Int → List Int → Int → Int → Int → Option (List Int)
  | 0, _, _, _, _, _, _ => none
  | k + 1, x0, x1, x5, x6, x7, x8 => if x8 < (x1.length : Int) then (if 0 ≤ x6 then (if x6 < (x0.length : Int) then (if 0 ≤ x8 then (if 0 ≤ (wrap64 (x6 + x8)) then (if (wrap64 (x6 + x8)) < (x5.length : Int) then (substationref01_times.l1 k x0 x1 (x5.set ((wrap64 (x6 + x8)) : Int).toNat ((IntKind.u64.wrap ((IntKind.u64.wrap ((IntKind.u64.wrap ((IntKind.u64.wrap (rd x0 x6)) * (IntKind.u64.wrap (rd x1 x8)))) + (IntKind.u64.wrap (rd x5 (wrap64 (x6 + x8)))))) + x7)) % 4294967296)) x6 ((IntKind.u64.wrap ((IntKind.u64.wrap ((IntKind.u64.wrap ((IntKind.u64.wrap (rd x0 x6)) * (IntKind.u64.wrap (rd x1 x8)))) + (IntKind.u64.wrap (rd x5 (wrap64 (x6 + x8)))))) + x7)) / 4294967296) (wrap64 (x8 + 1))) else (none)) else (none)) else (none)) else (none)) else (none)) else (if 0 ≤ (wrap64 (x6 + (x1.length : Int))) then (if (wrap64 (x6 + (x1.length : Int))) < (x5.length : Int) then (substationref01_times.l0 k x0 x1 (x5.set ((wrap64 (x6 + (x1.length : Int))) : Int).toNat ((x7) % 4294967296)) (wrap64 (x6 + 1))) else (none)) else (none))
end
def substationref01_times.f (k : Nat) (l0 : List Int) (l1 : List Int) : Option (List Int) := if 0 ≤ (wrap64 ((l0.length : Int) + (l1.length : Int))) then (if (wrap64 ((l0.length : Int) + (l1.length : Int)) : Int).toNat ≤ 70368744177664 then (substationref01_times.l0 k l0 l1 (List.replicate (wrap64 ((l0.length : Int) + (l1.length : Int)) : Int).toNat 0) 0) else (none)) else (none)
theorem substationref01_times.mono_l : ∀ k, (∀ y0 y1 y2 y3, LeO (substationref01_times.l0 k y0 y1 y2 y3) (substationref01_times.l0 (k + 1) y0 y1 y2 y3)) ∧ (∀ y0 y1 y2 y3 y4 y5, LeO (substationref01_times.l1 k y0 y1 y2 y3 y4 y5) (substationref01_times.l1 (k + 1) y0 y1 y2 y3 y4 y5))
  | 0 => ⟨fun _ _ _ _ r h => by simp [substationref01_times.l0] at h, fun _ _ _ _ _ _ r h => by simp [substationref01_times.l1] at h⟩
  | k + 1 => by
    obtain ⟨ih0, ih1⟩ := substationref01_times.mono_l k
    refine ⟨?_, ?_⟩
    · intro y0 y1 y2 y3
      unfold substationref01_times.l0
      repeat' first
      | (with_reducible exact ih0 _ _ _ _)
      | (with_reducible exact ih1 _ _ _ _ _ _)
      | (with_reducible exact substationref01_trim.mono _ _)
      | (with_reducible exact LeO.refl _)
      | (with_reducible exact LeO.none _)
      | (with_reducible refine LeO.ite ?_ ?_)
      | (with_reducible refine LeO.bind ?_ (fun _ => ?_))
      | exact ih0 _ _ _ _
      | exact ih1 _ _ _ _ _ _
      | exact substationref01_trim.mono _ _
      | exact LeO.none _
      | refine LeO.ite ?_ ?_
      | refine LeO.bind ?_ (fun _ => ?_)
    · intro y0 y1 y2 y3 y4 y5
      unfold substationref01_times.l1
      repeat' first
      | (with_reducible exact ih0 _ _ _ _)
      | (with_reducible exact ih1 _ _ _ _ _ _)
      | (with_reducible exact substationref01_trim.mono _ _)
      | (with_reducible exact LeO.refl _)
      | (with_reducible exact LeO.none _)
      | (with_reducible refine LeO.ite ?_ ?_)
      | (with_reducible refine LeO.bind ?_ (fun _ => ?_))
      | exact ih0 _ _ _ _
      | exact ih1 _ _ _ _ _ _
      | exact substationref01_trim.mono _ _
      | exact LeO.none _
      | refine LeO.ite ?_ ?_
      | refine LeO.bind ?_ (fun _ => ?_)
theorem substationref01_times.mono : ∀ a0 a1 k, LeO (substationref01_times.f k a0 a1) (substationref01_times.f (k + 1) a0 a1) := by
  intro a0 a1 k
  obtain ⟨ih0, ih1⟩ := substationref01_times.mono_l k
  unfold substationref01_times.f
  repeat' first
      | (with_reducible exact ih0 _ _ _ _)
      | (with_reducible exact ih1 _ _ _ _ _ _)
      | (with_reducible exact substationref01_trim.mono _ _)
      | (with_reducible exact LeO.refl _)
      | (with_reducible exact LeO.none _)
      | (with_reducible refine LeO.ite ?_ ?_)
      | (with_reducible refine LeO.bind ?_ (fun _ => ?_))
      | exact ih0 _ _ _ _
      | exact ih1 _ _ _ _ _ _
      | exact substationref01_trim.mono _ _
      | exact LeO.none _
      | refine LeO.ite ?_ ?_
      | refine LeO.bind ?_ (fun _ => ?_)
set_option maxHeartbeats 8000000 in
set_option maxRecDepth 100000 in
theorem substationref01_times.calls (k : Nat) (A0 : Option Addr) (c0 : Nat) (l0 : List Int) (A1 : Option Addr) (c1 : Nat) (l1 : List Int) (r : List Int) (w : World) (hr0 : Kd.C (Kd.int .u32) w A0 l0.length l0) (hc0 : l0.length ≤ c0) (hr1 : Kd.C (Kd.int .u32) w A1 l1.length l1) (hc1 : l1.length ≤ c1) (h : substationref01_times.f k l0 l1 = some r) :
    Calls Try.prog 38 #[.slice A0 l0.length c0, .slice A1 l1.length c1] w fun e w' => ∃ v0_ : Value, e = .returned (v0_) ∧ Kd.R (Kd.int .u32) 70 w' w.heap.size (fun _ => True) v0_ r ∧ Below w.heap.size w w' := by
  have HR0 := Aside0.mk hr0
  have HC0 := Aside0.mk hc0
  clear hr0 hc0
  have HR1 := Aside0.mk hr1
  have HC1 := Aside0.mk hc1
  clear hr1 hc1
  have HB := Aside0.mk (Below.refl w.heap.size w)
  have H : (if 0 ≤ (wrap64 ((l0.length : Int) + (l1.length : Int))) then (if (wrap64 ((l0.length : Int) + (l1.length : Int)) : Int).toNat ≤ 70368744177664 then (substationref01_times.l0 k l0 l1 (List.replicate (wrap64 ((l0.length : Int) + (l1.length : Int)) : Int).toNat 0) 0) else (none)) else (none)) = some r := h
  clear h
  obtain ⟨ji3, hji3⟩ : ∃ j_ : Int, (wrap64 ((l0.length : Int) + (l1.length : Int))) = j_ := ⟨_, rfl⟩
  replace H : (if 0 ≤ (ji3) then (if (ji3 : Int).toNat ≤ 70368744177664 then (substationref01_times.l0 k l0 l1 (List.replicate (ji3 : Int).toNat 0) 0) else (none)) else (none)) = some r := by first | (rw [hji3] at H; exact H) | (simp only [hji3] at H ⊢; exact H)
  have hji3w : (IntKind.i64.wrap ((l0.length : Int) + (l1.length : Int))) = ji3 := (i64_w _).trans hji3
  by_cases c4 : 0 ≤ (ji3)
  · rw [if_pos c4] at H
    have c4b0 := eq_true c4
    have c4b1 : decide (0 ≤ (ji3)) = true := decide_eq_true c4
    clear c4
    by_cases c5 : (ji3 : Int).toNat ≤ 70368744177664
    · rw [if_pos c5] at H
      have c5b0 := eq_true c5
      have c5b1 : decide ((ji3 : Int).toNat ≤ 70368744177664) = true := decide_eq_true c5
      clear c5
      obtain ⟨y238, hy238⟩ : ∃ y_ : List Int, y_ = (List.replicate (ji3 : Int).toNat 0) := ⟨_, rfl⟩
      replace H : (substationref01_times.l0 k l0 l1 y238 0) = some r := by first | (rw [hy238]; with_reducible exact H) | (have H2_ := (Option.bind_some _ _).symm.trans H; rw [hy238]; with_reducible exact H2_) | (have H2_ := (Option.bind_some _ _).symm.trans H; with_reducible exact H2_) | with_reducible exact H | (rw [hy238]; exact H) | exact H
      have Ny238 := Aside0.mk hy238
      clear hy238
      have H' := Aside0.mk H
      clear H
      go_enter Try.func38, Try.ntmps38
      go_wp2_with (first | ((with_reducible refine gate_dst (N := 15) rfl ?_); refine Kd.R_make (Kd.int .u32) _ 70 rfl (N := 15) rfl 51 _ _ rfl ji3 rfl rfl Try.underlying51 (.int .u32 0) 4 info70 rfl (by decide) (by omega) 0 (ok := fun _ => True) (okp := fun _ => True) rfl (fun _ hk => hk) trivial (of_decide_eq_true (by first | (with_reducible assumption) | assumption)) (Nat.le_trans (Nat.mul_le_mul_right _ (of_decide_eq_true (by first | (with_reducible assumption) | assumption) : ji3.toNat ≤ 70368744177664)) (by omega)) (Below.refl _ _) (Nat.le_refl _) ?_; intro v239 w6 ho7 hb hg_ hnew_; clear hg_ hnew_; (first | rw [← Ny238.out] at ho7 | (simp only [Int.reduceToNat] at ho7; rw [← Ny238.out] at ho7)); have n0_ := Aside0.mk (Kd.R_lower ho7 (below_size (by repeat (first | (with_reducible first | exact HB.out | apply below_alloc | apply pw_below_drewN | apply below_drew1) | exact HB.out)))); have n1_ := Aside0.mk (below_step (by repeat (first | (with_reducible first | exact HB.out | apply below_alloc | apply pw_below_drewN | apply below_drew1) | exact HB.out)) hb); clear HB; have HO240 := n0_; have HB := n1_; clear n0_ n1_; clear hb ho7))
      repeat (go_quiet (first | ((with_reducible refine gate_dst (N := 15) rfl ?_); refine Kd.R_make (Kd.int .u32) _ 70 rfl (N := 15) rfl 51 _ _ rfl ji3 rfl rfl Try.underlying51 (.int .u32 0) 4 info70 rfl (by decide) (by omega) 0 (ok := fun _ => True) (okp := fun _ => True) rfl (fun _ hk => hk) trivial (of_decide_eq_true (by first | (with_reducible assumption) | assumption)) (Nat.le_trans (Nat.mul_le_mul_right _ (of_decide_eq_true (by first | (with_reducible assumption) | assumption) : ji3.toNat ≤ 70368744177664)) (by omega)) (Below.refl _ _) (Nat.le_refl _) ?_; intro v239 w6 ho7 hb hg_ hnew_; clear hg_ hnew_; (first | rw [← Ny238.out] at ho7 | (simp only [Int.reduceToNat] at ho7; rw [← Ny238.out] at ho7)); have n0_ := Aside0.mk (Kd.R_lower ho7 (below_size (by repeat (first | (with_reducible first | exact HB.out | apply below_alloc | apply pw_below_drewN | apply below_drew1) | exact HB.out)))); have n1_ := Aside0.mk (below_step (by repeat (first | (with_reducible first | exact HB.out | apply below_alloc | apply pw_below_drewN | apply below_drew1) | exact HB.out)) hb); clear HB; have HO240 := n0_; have HB := n1_; clear n0_ n1_; clear hb ho7)); try go_wp2_with (first | ((with_reducible refine gate_dst (N := 15) rfl ?_); refine Kd.R_make (Kd.int .u32) _ 70 rfl (N := 15) rfl 51 _ _ rfl ji3 rfl rfl Try.underlying51 (.int .u32 0) 4 info70 rfl (by decide) (by omega) 0 (ok := fun _ => True) (okp := fun _ => True) rfl (fun _ hk => hk) trivial (of_decide_eq_true (by first | (with_reducible assumption) | assumption)) (Nat.le_trans (Nat.mul_le_mul_right _ (of_decide_eq_true (by first | (with_reducible assumption) | assumption) : ji3.toNat ≤ 70368744177664)) (by omega)) (Below.refl _ _) (Nat.le_refl _) ?_; intro v239 w6 ho7 hb hg_ hnew_; clear hg_ hnew_; (first | rw [← Ny238.out] at ho7 | (simp only [Int.reduceToNat] at ho7; rw [← Ny238.out] at ho7)); have n0_ := Aside0.mk (Kd.R_lower ho7 (below_size (by repeat (first | (with_reducible first | exact HB.out | apply below_alloc | apply pw_below_drewN | apply below_drew1) | exact HB.out)))); have n1_ := Aside0.mk (below_step (by repeat (first | (with_reducible first | exact HB.out | apply below_alloc | apply pw_below_drewN | apply below_drew1) | exact HB.out)) hb); clear HB; have HO240 := n0_; have HB := n1_; clear n0_ n1_; clear hb ho7)))
      go_loopg [6] k (fun kq v6 w' => ∃ (x5_1 : List Int) (x6_1 : Int), v6 = .int .i64 x6_1 ∧ Aside0 (substationref01_times.l0 kq l0 l1 x5_1 x6_1 = some r) ∧ Aside0 (kq ≤ k) ∧ Aside0 (Kd.R (Kd.int .u32) 70 w' w.heap.size (fun _ => True) v239 x5_1) ∧ Aside0 (Below w.heap.size w w'))
      case atStart => exact ⟨(y238), (0), (by first | rfl | (simp; done) | (simp [*]; done)), H', ⟨Nat.le_refl _⟩, ⟨by (with_reducible repeat (first | apply Kd.R_alloc | apply Kd.R_drewN | apply Kd.R_drew)); exact HO240.out⟩, ⟨by repeat (first | (with_reducible first | exact HB.out | apply below_alloc | apply pw_below_drewN | apply below_drew1) | exact HB.out)⟩⟩
      case round =>
        clear H'
        try clear c1
        try clear p2
        try clear c3
        try clear c4
        try clear c4b0
        try clear c4b1
        try clear c5
        try clear c5b0
        try clear c5b1
        try clear p6
        obtain ⟨x5_1, x6_1, rfl, HA, HK1, HO_5, HB⟩ := hrel
        cases gk with
        | zero => exact absurd HA.out (by simp [substationref01_times.l0])
        | succ k1 =>
          have H := HA.out
          clear HA
          simp only [substationref01_times.l0] at H
          by_cases c8 : x6_1 < (l0.length : Int)
          · rw [if_pos c8] at H
            have c8b0 : decide (x6_1 < (l0.length : Int)) = true := decide_eq_true c8
            clear c8
            have H' := Aside0.mk H
            clear H
            go_wp2
            repeat (go_quiet (fail); try go_wp2)
            go_loopg [7, 8] k1 (fun kq v7 v8 w' => ∃ (x5_2 : List Int) (x7_2 : Int) (x8_2 : Int), v7 = .int .u64 x7_2 ∧ v8 = .int .i64 x8_2 ∧ Aside0 (substationref01_times.l1 kq l0 l1 x5_2 x6_1 x7_2 x8_2 = some r) ∧ Aside0 (kq ≤ k1) ∧ Aside0 (Kd.R (Kd.int .u32) 70 w' w.heap.size (fun _ => True) v239 x5_2) ∧ Aside0 (Below w.heap.size w w'))
            case atStart => exact ⟨(x5_1), (0), (0), (by first | rfl | (simp; done) | (simp [*]; done)), (by first | rfl | (simp; done) | (simp [*]; done)), H', ⟨Nat.le_refl _⟩, ⟨by (with_reducible repeat (first | apply Kd.R_alloc | apply Kd.R_drewN | apply Kd.R_drew)); exact HO_5.out⟩, ⟨by repeat (first | (with_reducible first | exact HB.out | apply below_alloc | apply pw_below_drewN | apply below_drew1) | exact HB.out)⟩⟩
            case round =>
              clear H'
              try clear c1
              try clear p2
              try clear c3
              try clear c4
              try clear c4b0
              try clear c4b1
              try clear c5
              try clear c5b0
              try clear c5b1
              try clear p6
              try clear c8
              try clear c8b0
              try clear p2
              try clear p6
              obtain ⟨x5_2, x7_2, x8_2, rfl, rfl, HA, HK2, HO_5, HB⟩ := hrel
              cases gk with
              | zero => exact absurd HA.out (by simp [substationref01_times.l1])
              | succ k2 =>
                have H := HA.out
                clear HA
                simp only [substationref01_times.l1] at H
                by_cases c9 : x8_2 < (l1.length : Int)
                · rw [if_pos c9] at H
                  have c9b0 : decide (x8_2 < (l1.length : Int)) = true := decide_eq_true c9
                  clear c9
                  by_cases c10 : 0 ≤ x6_1
                  · rw [if_pos c10] at H
                    have c10b0 : decide (0 ≤ x6_1) = true := decide_eq_true c10
                    clear c10
                    by_cases c11 : x6_1 < (l0.length : Int)
                    · rw [if_pos c11] at H
                      have c11b0 : decide (x6_1 < (l0.length : Int)) = true := decide_eq_true c11
                      clear c11
                      by_cases c12 : 0 ≤ x8_2
                      · rw [if_pos c12] at H
                        have c12b0 : decide (0 ≤ x8_2) = true := decide_eq_true c12
                        clear c12
                        obtain ⟨ji13, hji13⟩ : ∃ j_ : Int, (wrap64 (x6_1 + x8_2)) = j_ := ⟨_, rfl⟩
                        replace H : (if 0 ≤ (ji13) then (if (ji13) < (x5_2.length : Int) then (substationref01_times.l1 k2 l0 l1 (x5_2.set ((ji13) : Int).toNat ((IntKind.u64.wrap ((IntKind.u64.wrap ((IntKind.u64.wrap ((IntKind.u64.wrap (rd l0 x6_1)) * (IntKind.u64.wrap (rd l1 x8_2)))) + (IntKind.u64.wrap (rd x5_2 (ji13))))) + x7_2)) % 4294967296)) x6_1 ((IntKind.u64.wrap ((IntKind.u64.wrap ((IntKind.u64.wrap ((IntKind.u64.wrap (rd l0 x6_1)) * (IntKind.u64.wrap (rd l1 x8_2)))) + (IntKind.u64.wrap (rd x5_2 (ji13))))) + x7_2)) / 4294967296) (wrap64 (x8_2 + 1))) else (none)) else (none)) = some r := by first | (rw [hji13] at H; exact H) | (simp only [hji13] at H ⊢; exact H)
                        have hji13w : (IntKind.i64.wrap (x6_1 + x8_2)) = ji13 := (i64_w _).trans hji13
                        by_cases c14 : 0 ≤ (ji13)
                        · rw [if_pos c14] at H
                          have c14b0 : decide (0 ≤ (ji13)) = true := decide_eq_true c14
                          clear c14
                          by_cases c15 : (ji13) < (x5_2.length : Int)
                          · rw [if_pos c15] at H
                            have c15b0 : decide ((ji13) < (x5_2.length : Int)) = true := decide_eq_true c15
                            clear c15
                            obtain ⟨y247, hy247⟩ : ∃ y_ : List Int, y_ = (x5_2.set ((ji13) : Int).toNat ((IntKind.u64.wrap ((IntKind.u64.wrap ((IntKind.u64.wrap ((IntKind.u64.wrap (rd l0 x6_1)) * (IntKind.u64.wrap (rd l1 x8_2)))) + (IntKind.u64.wrap (rd x5_2 (ji13))))) + x7_2)) % 4294967296)) := ⟨_, rfl⟩
                            replace H : (substationref01_times.l1 k2 l0 l1 y247 x6_1 ((IntKind.u64.wrap ((IntKind.u64.wrap ((IntKind.u64.wrap ((IntKind.u64.wrap (rd l0 x6_1)) * (IntKind.u64.wrap (rd l1 x8_2)))) + (IntKind.u64.wrap (rd x5_2 (ji13))))) + x7_2)) / 4294967296) (wrap64 (x8_2 + 1))) = some r := by first | (rw [hy247]; with_reducible exact H) | (have H2_ := (Option.bind_some _ _).symm.trans H; rw [hy247]; with_reducible exact H2_) | (have H2_ := (Option.bind_some _ _).symm.trans H; with_reducible exact H2_) | with_reducible exact H | (rw [hy247]; exact H) | exact H
                            have Ny247 := Aside0.mk hy247
                            clear hy247
                            have H' := Aside0.mk H
                            clear H
                            have p244 : 0 ≤ (x6_1 : Int) := of_decide_eq_true (by first | (with_reducible assumption) | assumption)
                            have q244 : x6_1 < (l0.length : Int) := of_decide_eq_true (by first | (with_reducible assumption) | assumption)
                            obtain ⟨ad244, e244, hx244_0⟩ := Kd.at_int HR0.out x6_1 p244 q244
                            cases e244
                            replace hx244_0 := (HB.out.cell (World.block_lt_of_cell? w _ hx244_0)).trans hx244_0
                            replace p244 := eq_true p244
                            replace q244 := eq_true q244
                            have p245 : 0 ≤ (x8_2 : Int) := of_decide_eq_true (by first | (with_reducible assumption) | assumption)
                            have q245 : x8_2 < (l1.length : Int) := of_decide_eq_true (by first | (with_reducible assumption) | assumption)
                            obtain ⟨ad245, e245, hx245_0⟩ := Kd.at_int HR1.out x8_2 p245 q245
                            cases e245
                            replace hx245_0 := (HB.out.cell (World.block_lt_of_cell? w _ hx245_0)).trans hx245_0
                            replace p245 := eq_true p245
                            replace q245 := eq_true q245
                            obtain ⟨Ao17, co17, eo17⟩ := Kd.R_slice HO_5.out
                            subst eo17
                            have p246 : 0 ≤ ((ji13) : Int) := of_decide_eq_true (by first | (with_reducible assumption) | assumption)
                            have q246 : (ji13) < (x5_2.length : Int) := of_decide_eq_true (by first | (with_reducible assumption) | assumption)
                            obtain ⟨ad246, e246, hx246_0⟩ := Kd.at_int (Kd.R_reads' HO_5.out).2.2 (ji13) p246 q246
                            cases e246
                            replace p246 := eq_true p246
                            replace q246 := eq_true q246
                            have p16 : 0 ≤ ((ji13) : Int) := of_decide_eq_true (by first | (with_reducible assumption) | assumption)
                            have q16 : ((ji13) : Int) < ((x5_2.length : Int) : Int) := of_decide_eq_true (by first | (with_reducible assumption) | assumption)
                            obtain ⟨go16, co16, eo16, gb16, gl16, cl16, HG16⟩ := Kd.R_form HO_5.out (by omega)
                            (first | cases eo16 | (injection eo16 with ea_ en_ ec_; (first | subst ea_ | (injection ea_ with ea_; subst ea_)); subst ec_; clear en_))
                            have GB16 := Aside0.mk gb16
                            have GG16 := Aside0.mk HG16
                            clear gb16 gl16 HG16
                            (first | simp only [add_plain] at hx246_0 | skip)
                            obtain ⟨hx16_0, hf16_0⟩ := Kd.R_celln 0 HO_5.out ((ji13) : Int) p16 q16
                            replace p16 := eq_true p16
                            replace q16 := eq_true q16
                            have HP18 := Kd.R_putg HO_5.out ((ji13) : Int) ((IntKind.u64.wrap ((IntKind.u64.wrap ((IntKind.u64.wrap ((IntKind.u64.wrap (rd l0 x6_1)) * (IntKind.u64.wrap (rd l1 x8_2)))) + (IntKind.u64.wrap (rd x5_2 (ji13))))) + x7_2)) % 4294967296)
                            go_wp2_with fail
                            go_quiet (fail)
                            generalize hq_ : wr.drewN nq = wd
                            have n0_ := Aside0.mk (Kd.R_at hq_ HO_5.out)
                            have n1_ := Aside0.mk (below_at hq_ HB.out)
                            clear hq_ HO_5 HB
                            have HO_5 := n0_
                            have HB := n1_
                            clear n0_ n1_
                            clear HP18 hx16_0 hf16_0
                            have HP18 := Kd.R_putg HO_5.out ((ji13) : Int) ((IntKind.u64.wrap ((IntKind.u64.wrap ((IntKind.u64.wrap ((IntKind.u64.wrap (rd l0 x6_1)) * (IntKind.u64.wrap (rd l1 x8_2)))) + (IntKind.u64.wrap (rd x5_2 (ji13))))) + x7_2)) % 4294967296)
                            obtain ⟨hx16_0, hf16_0⟩ := Kd.R_celln 0 HO_5.out ((ji13) : Int) (of_eq_true p16) (of_eq_true q16)
                            go_wp2_with (first | ((with_reducible refine gate_store (t := 70) (p := 55) rfl ?_); refine store_event (t := 70) (p := 55) (v := ?vo_w19) (w1 := (wd.setCell ⟨go16, ((ji13) : Int).toNat, none⟩ (.int .u32 ((IntKind.u64.wrap ((IntKind.u64.wrap ((IntKind.u64.wrap ((IntKind.u64.wrap (rd l0 x6_1)) * (IntKind.u64.wrap (rd l1 x8_2)))) + (IntKind.u64.wrap (rd x5_2 (ji13))))) + x7_2)) % 4294967296)))) ?hg ?ho ?hn ?hr ?_; (case ho => rfl); (case hg => rfl); (case hn => rfl); (case hr => first | (go_simp; done) | (go_simp; rfl)); intro w19 hw; have hg : wd.grownBy w19 (some go16) := (by rw [hw]; exact HP18.2); have hp_ : Kd.R (Kd.int .u32) 70 w19 w.heap.size (fun _ => True) (.slice (some ⟨go16, 0, none⟩) x5_2.length co17) y247 := (by rw [hw, Ny247.out]; exact HP18.1); clear HP18; have n0_ := Aside0.mk (hp_); have n1_ := Aside0.mk ((by rw [hw]; exact below_set (HB.out) GB16.out : Below w.heap.size w w19)); clear HO_5; clear HB; have HO_5 := n0_; have HB := n1_; clear n0_ n1_; clear hg hw hp_))

                            go_roundg k2
                            case measure => have := HK1.out; have := HK2.out; omega
                            case rel => exact ⟨(y247), ((IntKind.u64.wrap ((IntKind.u64.wrap ((IntKind.u64.wrap ((IntKind.u64.wrap (rd l0 x6_1)) * (IntKind.u64.wrap (rd l1 x8_2)))) + (IntKind.u64.wrap (rd x5_2 (ji13))))) + x7_2)) / 4294967296), (wrap64 (x8_2 + 1)), (by first | rfl | (simp; done) | (simp only [← hji13] <;> (first | rfl | simp)) | (simp [*]; done)), (by first | rfl | (simp; done) | (simp [*]; done)), H', ⟨by have := HK1.out; have := HK2.out; omega⟩, ⟨by (with_reducible repeat (first | apply Kd.R_alloc | apply Kd.R_drewN | apply Kd.R_drew)); exact HO_5.out⟩, ⟨by repeat (first | (with_reducible first | exact HB.out | apply below_alloc | apply pw_below_drewN | apply below_drew1) | exact HB.out)⟩⟩
                          · rw [if_neg c15] at H
                            exact absurd H (by simp)
                        · rw [if_neg c14] at H
                          exact absurd H (by simp)
                      · rw [if_neg c12] at H
                        exact absurd H (by simp)
                    · rw [if_neg c11] at H
                      exact absurd H (by simp)
                  · rw [if_neg c10] at H
                    exact absurd H (by simp)
                · rw [if_neg c9] at H
                  have c9b0 : decide (x8_2 < (l1.length : Int)) = false := decide_eq_false c9
                  clear c9
                  obtain ⟨ji20, hji20⟩ : ∃ j_ : Int, (wrap64 (x6_1 + (l1.length : Int))) = j_ := ⟨_, rfl⟩
                  replace H : (if 0 ≤ (ji20) then (if (ji20) < (x5_2.length : Int) then (substationref01_times.l0 k2 l0 l1 (x5_2.set ((ji20) : Int).toNat ((x7_2) % 4294967296)) (wrap64 (x6_1 + 1))) else (none)) else (none)) = some r := by first | (rw [hji20] at H; exact H) | (simp only [hji20] at H ⊢; exact H)
                  have hji20w : (IntKind.i64.wrap (x6_1 + (l1.length : Int))) = ji20 := (i64_w _).trans hji20
                  by_cases c21 : 0 ≤ (ji20)
                  · rw [if_pos c21] at H
                    have c21b0 : decide (0 ≤ (ji20)) = true := decide_eq_true c21
                    clear c21
                    by_cases c22 : (ji20) < (x5_2.length : Int)
                    · rw [if_pos c22] at H
                      have c22b0 : decide ((ji20) < (x5_2.length : Int)) = true := decide_eq_true c22
                      clear c22
                      obtain ⟨y248, hy248⟩ : ∃ y_ : List Int, y_ = (x5_2.set ((ji20) : Int).toNat ((x7_2) % 4294967296)) := ⟨_, rfl⟩
                      replace H : (substationref01_times.l0 k2 l0 l1 y248 (wrap64 (x6_1 + 1))) = some r := by first | (rw [hy248]; with_reducible exact H) | (have H2_ := (Option.bind_some _ _).symm.trans H; rw [hy248]; with_reducible exact H2_) | (have H2_ := (Option.bind_some _ _).symm.trans H; with_reducible exact H2_) | with_reducible exact H | (rw [hy248]; exact H) | exact H
                      have Ny248 := Aside0.mk hy248
                      clear hy248
                      have H' := Aside0.mk H
                      clear H
                      have p23 : 0 ≤ ((ji20) : Int) := of_decide_eq_true (by first | (with_reducible assumption) | assumption)
                      have q23 : ((ji20) : Int) < ((x5_2.length : Int) : Int) := of_decide_eq_true (by first | (with_reducible assumption) | assumption)
                      obtain ⟨go23, co23, eo23, gb23, gl23, cl23, HG23⟩ := Kd.R_form HO_5.out (by omega)
                      (first | cases eo23 | (injection eo23 with ea_ en_ ec_; (first | subst ea_ | (injection ea_ with ea_; subst ea_)); subst ec_; clear en_))
                      have GB23 := Aside0.mk gb23
                      have GG23 := Aside0.mk HG23
                      clear gb23 gl23 HG23
                      obtain ⟨hx23_0, hf23_0⟩ := Kd.R_celln 0 HO_5.out ((ji20) : Int) p23 q23
                      replace p23 := eq_true p23
                      replace q23 := eq_true q23
                      have HP24 := Kd.R_putg HO_5.out ((ji20) : Int) ((x7_2) % 4294967296)
                      go_wp2_with (first | ((with_reducible refine gate_store (t := 70) (p := 65) rfl ?_); (try (rw [drewN_self wr]; generalize hq_ : World.drewN wr _ = wr; have n0_ := Aside0.mk (Kd.R_at hq_ HO_5.out); have n1_ := Aside0.mk (below_at hq_ HB.out); clear hq_ HO_5 HB; have HO_5 := n0_; have HB := n1_; clear n0_ n1_; (try (have HP24 := Kd.R_putg HO_5.out ((ji20) : Int) ((x7_2) % 4294967296))))); refine store_event (t := 70) (p := 65) (v := ?vo_w25) (w1 := (wr.setCell ⟨go23, ((ji20) : Int).toNat, none⟩ (.int .u32 ((x7_2) % 4294967296)))) ?hg ?ho ?hn ?hr ?_; (case ho => rfl); (case hg => rfl); (case hn => rfl); (case hr => first | (go_simp; done) | (go_simp; rfl)); intro w25 hw; have hg : wr.grownBy w25 (some go23) := (by rw [hw]; exact HP24.2); have hp_ : Kd.R (Kd.int .u32) 70 w25 w.heap.size (fun _ => True) (.slice (some ⟨go23, 0, none⟩) x5_2.length co23) y248 := (by rw [hw, Ny248.out]; exact HP24.1); clear HP24; have n0_ := Aside0.mk (hp_); have n1_ := Aside0.mk ((by rw [hw]; exact below_set (HB.out) GB23.out : Below w.heap.size w w25)); clear HO_5; clear HB; have HO_5 := n0_; have HB := n1_; clear n0_ n1_; clear hg hw hp_))
                      repeat (go_quiet (first | ((with_reducible refine gate_store (t := 70) (p := 65) rfl ?_); (try (rw [drewN_self wr]; generalize hq_ : World.drewN wr _ = wr; have n0_ := Aside0.mk (Kd.R_at hq_ HO_5.out); have n1_ := Aside0.mk (below_at hq_ HB.out); clear hq_ HO_5 HB; have HO_5 := n0_; have HB := n1_; clear n0_ n1_; (try (have HP24 := Kd.R_putg HO_5.out ((ji20) : Int) ((x7_2) % 4294967296))))); refine store_event (t := 70) (p := 65) (v := ?vo_w25) (w1 := (wr.setCell ⟨go23, ((ji20) : Int).toNat, none⟩ (.int .u32 ((x7_2) % 4294967296)))) ?hg ?ho ?hn ?hr ?_; (case ho => rfl); (case hg => rfl); (case hn => rfl); (case hr => first | (go_simp; done) | (go_simp; rfl)); intro w25 hw; have hg : wr.grownBy w25 (some go23) := (by rw [hw]; exact HP24.2); have hp_ : Kd.R (Kd.int .u32) 70 w25 w.heap.size (fun _ => True) (.slice (some ⟨go23, 0, none⟩) x5_2.length co23) y248 := (by rw [hw, Ny248.out]; exact HP24.1); clear HP24; have n0_ := Aside0.mk (hp_); have n1_ := Aside0.mk ((by rw [hw]; exact below_set (HB.out) GB23.out : Below w.heap.size w w25)); clear HO_5; clear HB; have HO_5 := n0_; have HB := n1_; clear n0_ n1_; clear hg hw hp_)); try go_wp2_with (first | ((with_reducible refine gate_store (t := 70) (p := 65) rfl ?_); (try (rw [drewN_self wr]; generalize hq_ : World.drewN wr _ = wr; have n0_ := Aside0.mk (Kd.R_at hq_ HO_5.out); have n1_ := Aside0.mk (below_at hq_ HB.out); clear hq_ HO_5 HB; have HO_5 := n0_; have HB := n1_; clear n0_ n1_; (try (have HP24 := Kd.R_putg HO_5.out ((ji20) : Int) ((x7_2) % 4294967296))))); refine store_event (t := 70) (p := 65) (v := ?vo_w25) (w1 := (wr.setCell ⟨go23, ((ji20) : Int).toNat, none⟩ (.int .u32 ((x7_2) % 4294967296)))) ?hg ?ho ?hn ?hr ?_; (case ho => rfl); (case hg => rfl); (case hn => rfl); (case hr => first | (go_simp; done) | (go_simp; rfl)); intro w25 hw; have hg : wr.grownBy w25 (some go23) := (by rw [hw]; exact HP24.2); have hp_ : Kd.R (Kd.int .u32) 70 w25 w.heap.size (fun _ => True) (.slice (some ⟨go23, 0, none⟩) x5_2.length co23) y248 := (by rw [hw, Ny248.out]; exact HP24.1); clear HP24; have n0_ := Aside0.mk (hp_); have n1_ := Aside0.mk ((by rw [hw]; exact below_set (HB.out) GB23.out : Below w.heap.size w w25)); clear HO_5; clear HB; have HO_5 := n0_; have HB := n1_; clear n0_ n1_; clear hg hw hp_)))
                      go_roundg k2
                      case measure => have := HK1.out; have := HK2.out; omega
                      case rel => exact ⟨(y248), (wrap64 (x6_1 + 1)), (by first | rfl | (simp; done) | (simp [*]; done)), H', ⟨by have := HK1.out; have := HK2.out; omega⟩, ⟨by (with_reducible repeat (first | apply Kd.R_alloc | apply Kd.R_drewN | apply Kd.R_drew)); exact HO_5.out⟩, ⟨by repeat (first | (with_reducible first | exact HB.out | apply below_alloc | apply pw_below_drewN | apply below_drew1) | exact HB.out)⟩⟩
                    · rw [if_neg c22] at H
                      exact absurd H (by simp)
                  · rw [if_neg c21] at H
                    exact absurd H (by simp)
          · rw [if_neg c8] at H
            have c8b0 : decide (x6_1 < (l0.length : Int)) = false := decide_eq_false c8
            clear c8
            replace H := Option.bind_eq_some_iff.mp H
            obtain ⟨t241, A260, H⟩ := H
            replace H : (some t241) = some r := H
            have A26 := Aside0.mk A260
            clear A260
            obtain rfl := Option.some.inj H
            obtain ⟨Ao27, co27, eo27⟩ := Kd.R_slice HO_5.out
            subst eo27
            go_wp2_with (first | (go_at_call 40; (with_reducible refine (substationref01_trim.calls k1 _ _ x5_1 t241 _ ?side1 ?side2 A26.out).mono ?_); (case side1 => repeat (first | exact (Kd.R_reads' HO_5.out).2.2 | (with_reducible refine Kd.C_alloc ?_ _) | (with_reducible refine Kd.C_drewN ?_ _) | (with_reducible refine Kd.C_drew ?_))); (case side2 => exact (Kd.R_reads' HO_5.out).2.1); rintro e w28 ⟨v242, rfl, ho0, hb⟩; have n0_ := Aside0.mk (Kd.R_elder' (by (with_reducible repeat (first | apply Kd.R_alloc | apply Kd.R_drewN | apply Kd.R_drew)); exact HO_5.out) (Kd.R_base ho0) hb); have n1_ := Aside0.mk (Kd.R_lower (Kd.R_new' ho0 (Kd.R_lt (by (with_reducible repeat (first | apply Kd.R_alloc | apply Kd.R_drewN | apply Kd.R_drew)); exact HO_5.out))) (below_size (by repeat (first | (with_reducible first | exact HB.out | apply below_alloc | apply pw_below_drewN | apply below_drew1) | exact HB.out)))); have n2_ := Aside0.mk (below_step (by repeat (first | (with_reducible first | exact HB.out | apply below_alloc | apply pw_below_drewN | apply below_drew1) | exact HB.out)) hb); clear HO_5; clear HB; have HO_5 := n0_; have HO243 := n1_; have HB := n2_; clear n0_ n1_ n2_; (try clear hb); (try clear hb2); (try clear hk); (try clear hi); (try clear ho0)))
            repeat (go_quiet (first | (go_at_call 40; (with_reducible refine (substationref01_trim.calls k1 _ _ x5_1 t241 _ ?side1 ?side2 A26.out).mono ?_); (case side1 => repeat (first | exact (Kd.R_reads' HO_5.out).2.2 | (with_reducible refine Kd.C_alloc ?_ _) | (with_reducible refine Kd.C_drewN ?_ _) | (with_reducible refine Kd.C_drew ?_))); (case side2 => exact (Kd.R_reads' HO_5.out).2.1); rintro e w28 ⟨v242, rfl, ho0, hb⟩; have n0_ := Aside0.mk (Kd.R_elder' (by (with_reducible repeat (first | apply Kd.R_alloc | apply Kd.R_drewN | apply Kd.R_drew)); exact HO_5.out) (Kd.R_base ho0) hb); have n1_ := Aside0.mk (Kd.R_lower (Kd.R_new' ho0 (Kd.R_lt (by (with_reducible repeat (first | apply Kd.R_alloc | apply Kd.R_drewN | apply Kd.R_drew)); exact HO_5.out))) (below_size (by repeat (first | (with_reducible first | exact HB.out | apply below_alloc | apply pw_below_drewN | apply below_drew1) | exact HB.out)))); have n2_ := Aside0.mk (below_step (by repeat (first | (with_reducible first | exact HB.out | apply below_alloc | apply pw_below_drewN | apply below_drew1) | exact HB.out)) hb); clear HO_5; clear HB; have HO_5 := n0_; have HO243 := n1_; have HB := n2_; clear n0_ n1_ n2_; (try clear hb); (try clear hb2); (try clear hk); (try clear hi); (try clear ho0))); try go_wp2_with (first | (go_at_call 40; (with_reducible refine (substationref01_trim.calls k1 _ _ x5_1 t241 _ ?side1 ?side2 A26.out).mono ?_); (case side1 => repeat (first | exact (Kd.R_reads' HO_5.out).2.2 | (with_reducible refine Kd.C_alloc ?_ _) | (with_reducible refine Kd.C_drewN ?_ _) | (with_reducible refine Kd.C_drew ?_))); (case side2 => exact (Kd.R_reads' HO_5.out).2.1); rintro e w28 ⟨v242, rfl, ho0, hb⟩; have n0_ := Aside0.mk (Kd.R_elder' (by (with_reducible repeat (first | apply Kd.R_alloc | apply Kd.R_drewN | apply Kd.R_drew)); exact HO_5.out) (Kd.R_base ho0) hb); have n1_ := Aside0.mk (Kd.R_lower (Kd.R_new' ho0 (Kd.R_lt (by (with_reducible repeat (first | apply Kd.R_alloc | apply Kd.R_drewN | apply Kd.R_drew)); exact HO_5.out))) (below_size (by repeat (first | (with_reducible first | exact HB.out | apply below_alloc | apply pw_below_drewN | apply below_drew1) | exact HB.out)))); have n2_ := Aside0.mk (below_step (by repeat (first | (with_reducible first | exact HB.out | apply below_alloc | apply pw_below_drewN | apply below_drew1) | exact HB.out)) hb); clear HO_5; clear HB; have HO_5 := n0_; have HO243 := n1_; have HB := n2_; clear n0_ n1_ n2_; (try clear hb); (try clear hb2); (try clear hk); (try clear hi); (try clear ho0))))
            go_ret
            exact ⟨_, by first | rfl | (simp [errW_none, errW_some] <;> rfl) | (simp only [← hji3]; first | rfl | (simp [errW_none, errW_some] <;> rfl)) | (simp [*, errW_none, errW_some] <;> rfl), by (with_reducible repeat (first | apply Kd.R_alloc | apply Kd.R_drewN | apply Kd.R_drew)); exact Kd.R_mono HO243.out (fun _ hk => trivial), by repeat (first | (with_reducible first | exact HB.out | apply below_alloc | apply pw_below_drewN | apply below_drew1) | exact HB.out)⟩
    · rw [if_neg c5] at H
      exact absurd H (by simp)
  · rw [if_neg c4] at H
    exact absurd H (by simp)

end Go.Proofs.Ytiemghinklablaa.PAll
