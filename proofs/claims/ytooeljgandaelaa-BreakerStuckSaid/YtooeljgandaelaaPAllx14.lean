-- PRINTED BY print.sh 35421559b90ae4d0a3588c463048766b98c2df88dd9212a6774a882060cdf62d: not written by this session
import Derived.Test.YtooeljgandaelaaPAllx0
import Derived.Test.YtooeljgandaelaaPAllx8
namespace Go.Proofs.Ytooeljgandaelaa.PAll
open Go.RowKit Go.Proofs.YtooeljgandaelaaW.PrintWords Go.Proofs.YtooeljgandaelaaW.PrintLast Go.Proofs.YtooeljgandaelaaW.PrintMore
attribute [local go_sem] max2_int min2_int max_two min_two max_three min_three max_four min_four   -- for this text's walks alone
set_option linter.unusedVariables false
set_option linter.unusedSimpArgs false

/-! ### substationlaw29_BreakerStuck: function 12 -/
mutual
def substationlaw29_BreakerStuck.j0 : Nat → Int → List Bool → List Bool → Bool → Option (Bool)
  | 0, _, _, _, _ => none
  | k + 1, x0, x1, x2, x28 => if x28 = true then ((substationlaw29_known.f k).bind fun t364 => (some t364)) else ((breaker_Run.f k true x0 true x1 x2).bind fun t365 => (if (t365.length : Int) = (x1.length : Int) then (substationlaw29_BreakerStuck.l0 k x1 false t365 (t365.length : Int) 0) else (some false)))
def substationlaw29_BreakerStuck.l0 : Nat → List Bool → Bool → List (S36) → Int → Int → Option (Bool)
  | 0, _, _, _, _, _ => none
  | k + 1, x1, x7, x39, x40, x41 => if x41 < x40 then (if 0 ≤ x41 then (if x41 < (x39.length : Int) then (if x7 = true then (if ((rd_T36 x39 x41).f0 = true) then (if ((rd_T36 x39 x41).f2) = 0 then (if (((rd_T36 x39 x41).f3) != true) = true then (some false) else (substationlaw29_BreakerStuck.l0 k x1 true x39 x40 (wrap64 (x41 + 1)))) else (some false)) else (some false)) else (if x41 < (x1.length : Int) then (if ((rd_T36 x39 x41).f0 = true) then (if ((rd_T36 x39 x41).f2) = 0 then (if (((rd_T36 x39 x41).f3) != (rdOf false x1 x41)) = true then (some false) else (substationlaw29_BreakerStuck.l0 k x1 (rdOf false x1 x41) x39 x40 (wrap64 (x41 + 1)))) else (some false)) else (some false)) else (none))) else (none)) else (none)) else ((substationlaw29_known.f k).bind fun t371 => (some t371))
end
def substationlaw29_BreakerStuck.f (k : Nat) (a0 : Int) (l1 : List Bool) (l2 : List Bool) : Option (Bool) := if a0 < 1 then (substationlaw29_BreakerStuck.j0 k a0 l1 l2 true) else (if a0 > 6 then (substationlaw29_BreakerStuck.j0 k a0 l1 l2 true) else (if (l1.length : Int) = (l2.length : Int) then (substationlaw29_BreakerStuck.j0 k a0 l1 l2 (decide ((l1.length : Int) > 80))) else (substationlaw29_BreakerStuck.j0 k a0 l1 l2 true)))
theorem substationlaw29_BreakerStuck.mono_l : ∀ k, (∀ y0 y1 y2 y3, LeO (substationlaw29_BreakerStuck.j0 k y0 y1 y2 y3) (substationlaw29_BreakerStuck.j0 (k + 1) y0 y1 y2 y3)) ∧ (∀ y0 y1 y2 y3 y4, LeO (substationlaw29_BreakerStuck.l0 k y0 y1 y2 y3 y4) (substationlaw29_BreakerStuck.l0 (k + 1) y0 y1 y2 y3 y4))
  | 0 => ⟨fun _ _ _ _ r h => by simp [substationlaw29_BreakerStuck.j0] at h, fun _ _ _ _ _ r h => by simp [substationlaw29_BreakerStuck.l0] at h⟩
  | k + 1 => by
    obtain ⟨ih0, ih1⟩ := substationlaw29_BreakerStuck.mono_l k
    refine ⟨?_, ?_⟩
    · intro y0 y1 y2 y3
      unfold substationlaw29_BreakerStuck.j0
      repeat' first
      | (with_reducible exact ih0 _ _ _ _)
      | (with_reducible exact ih1 _ _ _ _ _)
      | (with_reducible exact breaker_Run.mono _ _ _ _ _ _)
      | (with_reducible exact substationlaw29_known.mono _)
      | (with_reducible exact LeO.refl _)
      | (with_reducible exact LeO.none _)
      | (with_reducible refine LeO.ite ?_ ?_)
      | (with_reducible refine LeO.bind ?_ (fun _ => ?_))
      | exact ih0 _ _ _ _
      | exact ih1 _ _ _ _ _
      | exact breaker_Run.mono _ _ _ _ _ _
      | exact substationlaw29_known.mono _
      | exact LeO.none _
      | refine LeO.ite ?_ ?_
      | refine LeO.bind ?_ (fun _ => ?_)
    · intro y0 y1 y2 y3 y4
      unfold substationlaw29_BreakerStuck.l0
      repeat' first
      | (with_reducible exact ih0 _ _ _ _)
      | (with_reducible exact ih1 _ _ _ _ _)
      | (with_reducible exact breaker_Run.mono _ _ _ _ _ _)
      | (with_reducible exact substationlaw29_known.mono _)
      | (with_reducible exact LeO.refl _)
      | (with_reducible exact LeO.none _)
      | (with_reducible refine LeO.ite ?_ ?_)
      | (with_reducible refine LeO.bind ?_ (fun _ => ?_))
      | exact ih0 _ _ _ _
      | exact ih1 _ _ _ _ _
      | exact breaker_Run.mono _ _ _ _ _ _
      | exact substationlaw29_known.mono _
      | exact LeO.none _
      | refine LeO.ite ?_ ?_
      | refine LeO.bind ?_ (fun _ => ?_)
theorem substationlaw29_BreakerStuck.mono : ∀ a0 a1 a2 k, LeO (substationlaw29_BreakerStuck.f k a0 a1 a2) (substationlaw29_BreakerStuck.f (k + 1) a0 a1 a2) := by
  intro a0 a1 a2 k
  obtain ⟨ih0, ih1⟩ := substationlaw29_BreakerStuck.mono_l k
  unfold substationlaw29_BreakerStuck.f
  repeat' first
      | (with_reducible exact ih0 _ _ _ _)
      | (with_reducible exact ih1 _ _ _ _ _)
      | (with_reducible exact breaker_Run.mono _ _ _ _ _ _)
      | (with_reducible exact substationlaw29_known.mono _)
      | (with_reducible exact LeO.refl _)
      | (with_reducible exact LeO.none _)
      | (with_reducible refine LeO.ite ?_ ?_)
      | (with_reducible refine LeO.bind ?_ (fun _ => ?_))
      | exact ih0 _ _ _ _
      | exact ih1 _ _ _ _ _
      | exact breaker_Run.mono _ _ _ _ _ _
      | exact substationlaw29_known.mono _
      | exact LeO.none _
      | refine LeO.ite ?_ ?_
      | refine LeO.bind ?_ (fun _ => ?_)
set_option maxHeartbeats 8000000 in
set_option maxRecDepth 100000 in
theorem substationlaw29_BreakerStuck.calls (k : Nat) (a0 : Int) (A1 : Option Addr) (c1 : Nat) (l1 : List Bool) (A2 : Option Addr) (c2 : Nat) (l2 : List Bool) (r : Bool) (w : World) (hr1 : Kd.C Kd.bool w A1 l1.length l1) (hc1 : l1.length ≤ c1) (hr2 : Kd.C Kd.bool w A2 l2.length l2) (hc2 : l2.length ≤ c2) (h : substationlaw29_BreakerStuck.f k a0 l1 l2 = some r) :
    Calls Try.prog 12 #[.int .i64 a0, .slice A1 l1.length c1, .slice A2 l2.length c2] w fun e w' => e = .returned (.bool r) ∧ Below w.heap.size w w' := by
  have hu36 := Try.underlying36
  have HR1 := Aside0.mk hr1
  have HC1 := Aside0.mk hc1
  clear hr1 hc1
  have HR2 := Aside0.mk hr2
  have HC2 := Aside0.mk hc2
  clear hr2 hc2
  have HB := Aside0.mk (Below.refl w.heap.size w)
  have H : (if a0 < 1 then (substationlaw29_BreakerStuck.j0 k a0 l1 l2 true) else (if a0 > 6 then (substationlaw29_BreakerStuck.j0 k a0 l1 l2 true) else (if (l1.length : Int) = (l2.length : Int) then (substationlaw29_BreakerStuck.j0 k a0 l1 l2 (decide ((l1.length : Int) > 80))) else (substationlaw29_BreakerStuck.j0 k a0 l1 l2 true)))) = some r := h
  clear h
  have HC4 := Aside0.mk H
  clear H
  go_enter Try.func12, Try.ntmps12
  go_upto_region 1 with (fail)
  go_cut [28] (fun v28 wc => ∃ (kq : Nat) (x28_3 : Bool), v28 = .bool x28_3 ∧ Aside0 (substationlaw29_BreakerStuck.j0 kq a0 l1 l2 x28_3 = some r) ∧ Aside0 (kq ≤ k) ∧ Aside0 (Below w.heap.size w wc))
  case first =>
    have H := HC4.out
    clear HC4
    by_cases c5 : a0 < 1
    · rw [if_pos c5] at H
      have c5b0 : decide (a0 < 1) = true := decide_eq_true c5
      clear c5
      (first | rw [c5b0] | (simp only [i64_w, i32_w]; rw [c5b0]) | skip)
      have H' := Aside0.mk H
      clear H
      go_wp2
      go_meet
      case rel => exact ⟨_, (true), (by first | rfl | (simp; done) | (simp [*]; done)), H', ⟨by first | omega | exact Nat.le_refl _⟩, ⟨by repeat (first | (with_reducible first | exact HB.out | apply below_alloc | apply pw_below_drewN | apply below_drew1) | exact HB.out)⟩⟩
    · rw [if_neg c5] at H
      have c5b0 : decide (a0 < 1) = false := decide_eq_false c5
      clear c5
      (first | rw [c5b0] | (simp only [i64_w, i32_w]; rw [c5b0]) | skip)
      by_cases c6 : a0 > 6
      · rw [if_pos c6] at H
        have c6b0 : decide (6 < a0) = true := decide_eq_true c6
        clear c6
        have H' := Aside0.mk H
        clear H
        go_wp2
        go_meet
        case rel => exact ⟨_, (true), (by first | rfl | (simp; done) | (simp [*]; done)), H', ⟨by first | omega | exact Nat.le_refl _⟩, ⟨by repeat (first | (with_reducible first | exact HB.out | apply below_alloc | apply pw_below_drewN | apply below_drew1) | exact HB.out)⟩⟩
      · rw [if_neg c6] at H
        have c6b0 : decide (6 < a0) = false := decide_eq_false c6
        clear c6
        by_cases c7 : (l1.length : Int) = (l2.length : Int)
        · rw [if_pos c7] at H
          have c7b0 : ((l1.length : Int) == (l2.length : Int)) = true := beq_iff_eq.mpr c7
          have c7b1 : ((l1.length : Int) != (l2.length : Int)) = false := bne_eq_false_iff_eq.mpr c7
          have c7b2 : (l1.length == l2.length) = true := by first | simpa using c7 | (simp at c7 ⊢; omega)
          clear c7
          have H' := Aside0.mk H
          clear H
          go_wp2
          go_meet
          case rel => exact ⟨_, (decide ((l1.length : Int) > 80)), (by first | rfl | (simp; done) | (simp [*]; done)), H', ⟨by first | omega | exact Nat.le_refl _⟩, ⟨by repeat (first | (with_reducible first | exact HB.out | apply below_alloc | apply pw_below_drewN | apply below_drew1) | exact HB.out)⟩⟩
        · rw [if_neg c7] at H
          have c7b0 : ((l1.length : Int) == (l2.length : Int)) = false := beq_eq_false_iff_ne.mpr c7
          have c7b1 : ((l1.length : Int) != (l2.length : Int)) = true := bne_iff_ne.mpr c7
          have c7b2 : (l1.length == l2.length) = false := by first | simpa using c7 | (simp at c7 ⊢; omega)
          have H' := Aside0.mk H
          clear H
          go_wp2
          go_meet
          case rel => exact ⟨_, (true), (by first | rfl | (simp; done) | (simp [*]; done)), H', ⟨by first | omega | exact Nat.le_refl _⟩, ⟨by repeat (first | (with_reducible first | exact HB.out | apply below_alloc | apply pw_below_drewN | apply below_drew1) | exact HB.out)⟩⟩
  case rest =>
    clear HC4
    try clear c1
    try clear c2
    try clear p2
    try clear c5
    try clear c5b0
    try clear c6
    try clear c6b0
    try clear c7
    try clear c7b0
    try clear c7b1
    try clear c7b2
    obtain ⟨kq, x28_3, rfl, HA, HJ3, HB⟩ := hcut
    cases kq with
    | zero => exact absurd HA.out (by simp [substationlaw29_BreakerStuck.j0])
    | succ kj3 =>
      have H := HA.out
      clear HA
      simp only [substationlaw29_BreakerStuck.j0] at H
      by_cases c8 : x28_3 = true
      · subst c8
        have H1 : ((substationlaw29_known.f kj3).bind fun t364 => (some t364)) = some r := by rw [if_pos rfl] at H; exact H
        clear H
        have H := H1
        clear H1
        replace H := Option.bind_eq_some_iff.mp H
        obtain ⟨t364, A90, H⟩ := H
        replace H : (some t364) = some r := H
        have A9 := Aside0.mk A90
        clear A90
        obtain rfl := Option.some.inj H
        go_wp2_with (first | ((with_reducible refine gate_callee (f := 22) rfl ?_); refine goesL_ (some 29) rfl rfl Try.func22 (by kernel_rfl) rfl #[] rfl (by (try simp only [List.map_toArray, List.map_cons, List.map_nil]); first | done | rfl | (simp only [List.length_drop, List.length_take]; rfl)) ?_; (with_reducible refine (substationlaw29_known.calls kj3  t364 _ A9.out).mono ?_); rintro e w10 ⟨rfl, hb⟩; refine ⟨_, rfl, ?_⟩; have n0_ := Aside0.mk (below_step (by repeat (first | (with_reducible first | exact HB.out | apply below_alloc | apply pw_below_drewN | apply below_drew1) | exact HB.out)) hb); clear HB; have HB := n0_; clear n0_; (try clear hb); (try clear hb2); (try clear hk); (try clear hi)))
        go_ret
        exact ⟨by first | rfl | (simp [errW_none, errW_some] <;> rfl) | (simp [*, errW_none, errW_some] <;> rfl), by repeat (first | (with_reducible first | exact HB.out | apply below_alloc | apply pw_below_drewN | apply below_drew1) | exact HB.out)⟩
      · replace c8 := Bool.eq_false_iff.mpr c8
        subst c8
        have H1 : ((breaker_Run.f kj3 true a0 true l1 l2).bind fun t365 => (if (t365.length : Int) = (l1.length : Int) then (substationlaw29_BreakerStuck.l0 kj3 l1 false t365 (t365.length : Int) 0) else (some false))) = some r := by rw [if_neg (show ¬ (false = true) by decide)] at H; exact H
        clear H
        have H := H1
        clear H1
        replace H := Option.bind_eq_some_iff.mp H
        obtain ⟨t365, A110, H⟩ := H
        replace H : (if (t365.length : Int) = (l1.length : Int) then (substationlaw29_BreakerStuck.l0 kj3 l1 false t365 (t365.length : Int) 0) else (some false)) = some r := H
        have A11 := Aside0.mk A110
        clear A110
        by_cases c12 : (t365.length : Int) = (l1.length : Int)
        · rw [if_pos c12] at H
          have c12b0 : ((t365.length : Int) == (l1.length : Int)) = true := beq_iff_eq.mpr c12
          have c12b1 : ((t365.length : Int) != (l1.length : Int)) = false := bne_eq_false_iff_eq.mpr c12
          have c12b2 : (t365.length == l1.length) = true := by first | simpa using c12 | (simp at c12 ⊢; omega)
          clear c12
          have H' := Aside0.mk H
          clear H
          go_wp2_with (first | ((with_reducible refine gate_callee (f := 21) rfl ?_); refine goesL_ (some 33) rfl rfl Try.func21 (by kernel_rfl) rfl #[.bool true, .int .i64 a0, .bool true, .slice A1 l1.length c1, .slice A2 l2.length c2] rfl (by (try simp only [List.map_toArray, List.map_cons, List.map_nil]); first | done | rfl | (simp only [List.length_drop, List.length_take]; rfl)) ?_; (with_reducible refine (breaker_Run.calls kj3 true a0 true _ _ l1 _ _ l2 t365 _ ?side1 ?side2 ?side3 ?side4 A11.out).mono ?_); (case side1 => repeat (first | exact (Kd.C_below HR1.out HB.out) | (with_reducible refine Kd.C_alloc ?_ _) | (with_reducible refine Kd.C_drewN ?_ _) | (with_reducible refine Kd.C_drew ?_))); (case side2 => exact HC1.out); (case side3 => repeat (first | exact (Kd.C_below HR2.out HB.out) | (with_reducible refine Kd.C_alloc ?_ _) | (with_reducible refine Kd.C_drewN ?_ _) | (with_reducible refine Kd.C_drew ?_))); (case side4 => exact HC2.out); rintro e w13 ⟨v366, rfl, ho0, hb⟩; refine ⟨_, rfl, ?_⟩; have n0_ := Aside0.mk (Kd.R_lower ho0 (below_size (by repeat (first | (with_reducible first | exact HB.out | apply below_alloc | apply pw_below_drewN | apply below_drew1) | exact HB.out)))); have n1_ := Aside0.mk (below_step (by repeat (first | (with_reducible first | exact HB.out | apply below_alloc | apply pw_below_drewN | apply below_drew1) | exact HB.out)) hb); clear HB; have HO367 := n0_; have HB := n1_; clear n0_ n1_; (try clear hb); (try clear hb2); (try clear hk); (try clear hi); (try clear ho0); obtain ⟨Ao14, co14, eo14⟩ := Kd.R_slice HO367.out; subst eo14))
          go_loopg [7, 41] kj3 (fun kq v7 v41 w' => ∃ (x7_2 : Bool) (x41_2 : Int), v7 = .bool x7_2 ∧ v41 = .int .i64 x41_2 ∧ Aside0 (substationlaw29_BreakerStuck.l0 kq l1 x7_2 t365 (t365.length : Int) x41_2 = some r) ∧ Aside0 (kq ≤ kj3) ∧ Aside0 (Kd.R k36 36 w' w.heap.size (fun _ => True) (.slice Ao14 t365.length co14) t365) ∧ Aside0 (Below w.heap.size w w'))
          case atStart => exact ⟨(false), (0), (by first | rfl | (simp; done) | (simp [*]; done)), (by first | rfl | (simp; done) | (simp [*]; done)), H', ⟨Nat.le_refl _⟩, ⟨by (with_reducible repeat (first | apply Kd.R_alloc | apply Kd.R_drewN | apply Kd.R_drew)); exact HO367.out⟩, ⟨by repeat (first | (with_reducible first | exact HB.out | apply below_alloc | apply pw_below_drewN | apply below_drew1) | exact HB.out)⟩⟩
          case round =>
            clear H'
            try clear c1
            try clear c2
            try clear p2
            try clear c5
            try clear c5b0
            try clear c6
            try clear c6b0
            try clear c7
            try clear c7b0
            try clear c7b1
            try clear c7b2
            try clear c8
            try clear c12
            try clear c12b0
            try clear c12b1
            try clear c12b2
            try clear p2
            obtain ⟨x7_2, x41_2, rfl, rfl, HA, HK2, HO_39, HB⟩ := hrel
            cases gk with
            | zero => exact absurd HA.out (by simp [substationlaw29_BreakerStuck.l0])
            | succ k2 =>
              have H := HA.out
              clear HA
              simp only [substationlaw29_BreakerStuck.l0] at H
              by_cases c15 : x41_2 < (t365.length : Int)
              · rw [if_pos c15] at H
                have c15b0 : decide (x41_2 < (t365.length : Int)) = true := decide_eq_true c15
                clear c15
                by_cases c16 : 0 ≤ x41_2
                · rw [if_pos c16] at H
                  have c16b0 : decide (0 ≤ x41_2) = true := decide_eq_true c16
                  clear c16
                  by_cases c17 : x41_2 < (t365.length : Int)
                  · rw [if_pos c17] at H
                    have c17b0 : decide (x41_2 < (t365.length : Int)) = true := decide_eq_true c17
                    clear c17
                    by_cases c18 : x7_2 = true
                    · subst c18
                      have H1 : (if ((rd_T36 t365 x41_2).f0 = true) then (if ((rd_T36 t365 x41_2).f2) = 0 then (if (((rd_T36 t365 x41_2).f3) != true) = true then (some false) else (substationlaw29_BreakerStuck.l0 k2 l1 true t365 (t365.length : Int) (wrap64 (x41_2 + 1)))) else (some false)) else (some false)) = some r := by rw [if_pos rfl] at H; exact H
                      clear H
                      have H := H1
                      clear H1
                      obtain ⟨bq19, hbq19⟩ : ∃ b_ : Bool, b_ = ((rd_T36 t365 x41_2).f0) := ⟨_, rfl⟩
                      replace H : (if (bq19 = true) then (if ((rd_T36 t365 x41_2).f2) = 0 then (if (((rd_T36 t365 x41_2).f3) != true) = true then (some false) else (substationlaw29_BreakerStuck.l0 k2 l1 true t365 (t365.length : Int) (wrap64 (x41_2 + 1)))) else (some false)) else (some false)) = some r := by rw [← hbq19] at H; exact H
                      have Nbq19 := Aside0.mk hbq19
                      clear hbq19
                      by_cases c20 : (bq19 = true)
                      · subst c20
                        have H1 : (if ((rd_T36 t365 x41_2).f2) = 0 then (if (((rd_T36 t365 x41_2).f3) != true) = true then (some false) else (substationlaw29_BreakerStuck.l0 k2 l1 true t365 (t365.length : Int) (wrap64 (x41_2 + 1)))) else (some false)) = some r := by rw [if_pos rfl] at H; exact H
                        clear H
                        have H := H1
                        clear H1
                        by_cases c21 : ((rd_T36 t365 x41_2).f2) = 0
                        · rw [if_pos c21] at H
                          have c21b0 : (((rd_T36 t365 x41_2).f2) == 0) = true := beq_iff_eq.mpr c21
                          have c21b1 : (((rd_T36 t365 x41_2).f2) != 0) = false := bne_eq_false_iff_eq.mpr c21
                          clear c21
                          by_cases c22 : (((rd_T36 t365 x41_2).f3) != true) = true
                          · rw [if_pos c22] at H
                            have c22b0 : (((rd_T36 t365 x41_2).f3) != true) = true := c22
                            (try (have c22b1 : decide (((rd_T36 t365 x41_2).f3) = true) = false := by simpa using c22))
                            (try (have c22b2 : (((rd_T36 t365 x41_2).f3) == true) = false := by simpa using c22))
                            (try (have c22b3 : ¬ (((rd_T36 t365 x41_2).f3) = true) := by simpa using c22))
                            clear c22
                            obtain rfl := Option.some.inj H
                            have p368 : 0 ≤ (x41_2 : Int) := of_decide_eq_true (by first | (with_reducible assumption) | assumption)
                            have q368 : x41_2 < (t365.length : Int) := of_decide_eq_true (by first | (with_reducible assumption) | assumption)
                            obtain ⟨ad368, e368, hx368_0, hx368_1, hx368_2, hx368_3⟩ := at_T36 (Kd.R_reads' HO_39.out).2.2 x41_2 p368 q368
                            (try rw [← Nbq19.out] at hx368_0)
                            (try rw [← Nbq19.out] at hx368_1)
                            (try rw [← Nbq19.out] at hx368_3)
                            cases e368
                            replace p368 := eq_true p368
                            replace q368 := eq_true q368
                            go_wp2_with (first | ((with_reducible refine gate_dst (N := 10) rfl ?_); (try (refine gate_guard (by rfl) ?_; dsimp only)); refine box_event ?hg (N := 10) ?hd (cs := #[.bool false, .bool false, .int .i64 0, .bool false]) (t := 36) ?hr ?_; (case hd => rfl); (case hg => rfl); (case hr => first | (go_simp; done) | (go_simp; rfl)); intro gb369 hg w23 hbox hb; have n0_ := Aside0.mk (Kd.R_below (Kd.R_elderB (by (with_reducible repeat (first | apply Kd.R_alloc | apply Kd.R_drewN | apply Kd.R_drew)); exact HO_39.out) gb369 (Nat.le_of_eq hg.symm)) hb); have n1_ := Aside0.mk (below_step (by repeat (first | (with_reducible first | exact HB.out | apply below_alloc | apply pw_below_drewN | apply below_drew1) | exact HB.out)) hb); have n2_ := Aside0.mk (hbox); have n3_ := Aside0.mk ((by rw [hg]; exact (below_size (by repeat (first | (with_reducible first | exact HB.out | apply below_alloc | apply pw_below_drewN | apply below_drew1) | exact HB.out))) : w.heap.size ≤ gb369)); have n4_ := Aside0.mk ((by rw [hg]; exact (below_size (by repeat (first | (with_reducible first | exact HB.out | apply below_alloc | apply pw_below_drewN | apply below_drew1) | exact HB.out))) : w.heap.size ≤ gb369)); clear HO_39; clear HB; have HO_39 := n0_; have HB := n1_; have BK369 := n2_; have GW369 := n3_; have GE369 := n4_; clear n0_ n1_ n2_ n3_ n4_; clear hb hbox hg; have hcz24_0 : w23.cell? ⟨gb369, 0, none⟩ = some (.bool false) := (blk_cell BK369.out 0).trans rfl; have hcz24_1 : w23.cell? ⟨gb369, 1, none⟩ = some (.bool false) := (blk_cell BK369.out 1).trans rfl; have hcz24_2 : w23.cell? ⟨gb369, 2, none⟩ = some (.int .i64 0) := (blk_cell BK369.out 2).trans rfl; have hcz24_3 : w23.cell? ⟨gb369, 3, none⟩ = some (.bool false) := (blk_cell BK369.out 3).trans rfl; have hfz24_0 := blk_frozen BK369.out 0; have hfz24_1 := blk_frozen BK369.out 1; have hfz24_2 := blk_frozen BK369.out 2; have hfz24_3 := blk_frozen BK369.out 3))
                            go_ret
                            exact ⟨by first | rfl | (simp [errW_none, errW_some] <;> rfl) | (simp [*, errW_none, errW_some] <;> rfl), by repeat (first | (with_reducible first | exact HB.out | apply below_alloc | apply pw_below_drewN | apply below_drew1 | refine below_set ?_ GE369.out) | exact HB.out)⟩
                          · rw [if_neg c22] at H
                            have c22b0 : (((rd_T36 t365 x41_2).f3) != true) = false := by simpa using c22
                            (try (have c22b1 : decide (((rd_T36 t365 x41_2).f3) = true) = true := by simpa using c22))
                            (try (have c22b2 : (((rd_T36 t365 x41_2).f3) == true) = true := by simpa using c22))
                            clear c22
                            have H' := Aside0.mk H
                            clear H
                            have p368 : 0 ≤ (x41_2 : Int) := of_decide_eq_true (by first | (with_reducible assumption) | assumption)
                            have q368 : x41_2 < (t365.length : Int) := of_decide_eq_true (by first | (with_reducible assumption) | assumption)
                            obtain ⟨ad368, e368, hx368_0, hx368_1, hx368_2, hx368_3⟩ := at_T36 (Kd.R_reads' HO_39.out).2.2 x41_2 p368 q368
                            (try rw [← Nbq19.out] at hx368_0)
                            (try rw [← Nbq19.out] at hx368_1)
                            (try rw [← Nbq19.out] at hx368_3)
                            cases e368
                            replace p368 := eq_true p368
                            replace q368 := eq_true q368
                            go_wp2_with (first | ((with_reducible refine gate_dst (N := 10) rfl ?_); (try (refine gate_guard (by rfl) ?_; dsimp only)); refine box_event ?hg (N := 10) ?hd (cs := #[.bool false, .bool false, .int .i64 0, .bool false]) (t := 36) ?hr ?_; (case hd => rfl); (case hg => rfl); (case hr => first | (go_simp; done) | (go_simp; rfl)); intro gb369 hg w25 hbox hb; have n0_ := Aside0.mk (Kd.R_below (Kd.R_elderB (by (with_reducible repeat (first | apply Kd.R_alloc | apply Kd.R_drewN | apply Kd.R_drew)); exact HO_39.out) gb369 (Nat.le_of_eq hg.symm)) hb); have n1_ := Aside0.mk (below_step (by repeat (first | (with_reducible first | exact HB.out | apply below_alloc | apply pw_below_drewN | apply below_drew1) | exact HB.out)) hb); have n2_ := Aside0.mk (hbox); have n3_ := Aside0.mk ((by rw [hg]; exact (below_size (by repeat (first | (with_reducible first | exact HB.out | apply below_alloc | apply pw_below_drewN | apply below_drew1) | exact HB.out))) : w.heap.size ≤ gb369)); have n4_ := Aside0.mk ((by rw [hg]; exact (below_size (by repeat (first | (with_reducible first | exact HB.out | apply below_alloc | apply pw_below_drewN | apply below_drew1) | exact HB.out))) : w.heap.size ≤ gb369)); clear HO_39; clear HB; have HO_39 := n0_; have HB := n1_; have BK369 := n2_; have GW369 := n3_; have GE369 := n4_; clear n0_ n1_ n2_ n3_ n4_; clear hb hbox hg; have hcz26_0 : w25.cell? ⟨gb369, 0, none⟩ = some (.bool false) := (blk_cell BK369.out 0).trans rfl; have hcz26_1 : w25.cell? ⟨gb369, 1, none⟩ = some (.bool false) := (blk_cell BK369.out 1).trans rfl; have hcz26_2 : w25.cell? ⟨gb369, 2, none⟩ = some (.int .i64 0) := (blk_cell BK369.out 2).trans rfl; have hcz26_3 : w25.cell? ⟨gb369, 3, none⟩ = some (.bool false) := (blk_cell BK369.out 3).trans rfl; have hfz26_0 := blk_frozen BK369.out 0; have hfz26_1 := blk_frozen BK369.out 1; have hfz26_2 := blk_frozen BK369.out 2; have hfz26_3 := blk_frozen BK369.out 3))
                            go_roundg k2
                            case measure => have := HJ3.out; have := HK2.out; omega
                            case rel => exact ⟨(true), (wrap64 (x41_2 + 1)), (by first | rfl | (simp; done) | (simp [*]; done)), (by first | rfl | (simp; done) | (simp [*]; done)), H', ⟨by have := HJ3.out; have := HK2.out; omega⟩, ⟨by (with_reducible repeat (first | apply Kd.R_alloc | apply Kd.R_drewN | apply Kd.R_drew)); exact Kd.R_mono (Kd.R_far (p := ⟨gb369, 3, none⟩) (Kd.R_far (p := ⟨gb369, 2, none⟩) (Kd.R_far (p := ⟨gb369, 1, none⟩) (Kd.R_far (p := ⟨gb369, 0, none⟩) (Kd.R_mono HO_39.out (fun k_ hk => (⟨hk, hk.2⟩ : _ ∧ k_ ≠ gb369))) (fun _ hk => hk.2) (.bool true)) (fun _ hk => hk.2) (.bool ((rd_T36 t365 x41_2).f1))) (fun _ hk => hk.2) (.int .i64 ((rd_T36 t365 x41_2).f2))) (fun _ hk => hk.2) (.bool ((rd_T36 t365 x41_2).f3))) (fun _ hk => trivial)⟩, ⟨by repeat (first | (with_reducible first | exact HB.out | apply below_alloc | apply pw_below_drewN | apply below_drew1 | refine below_set ?_ GE369.out) | exact HB.out)⟩⟩
                        · rw [if_neg c21] at H
                          have c21b0 : (((rd_T36 t365 x41_2).f2) == 0) = false := beq_eq_false_iff_ne.mpr c21
                          have c21b1 : (((rd_T36 t365 x41_2).f2) != 0) = true := bne_iff_ne.mpr c21
                          obtain rfl := Option.some.inj H
                          have p368 : 0 ≤ (x41_2 : Int) := of_decide_eq_true (by first | (with_reducible assumption) | assumption)
                          have q368 : x41_2 < (t365.length : Int) := of_decide_eq_true (by first | (with_reducible assumption) | assumption)
                          obtain ⟨ad368, e368, hx368_0, hx368_1, hx368_2, hx368_3⟩ := at_T36 (Kd.R_reads' HO_39.out).2.2 x41_2 p368 q368
                          (try rw [← Nbq19.out] at hx368_0)
                          (try rw [← Nbq19.out] at hx368_1)
                          (try rw [← Nbq19.out] at hx368_3)
                          cases e368
                          replace p368 := eq_true p368
                          replace q368 := eq_true q368
                          go_wp2_with (first | ((with_reducible refine gate_dst (N := 10) rfl ?_); (try (refine gate_guard (by rfl) ?_; dsimp only)); refine box_event ?hg (N := 10) ?hd (cs := #[.bool false, .bool false, .int .i64 0, .bool false]) (t := 36) ?hr ?_; (case hd => rfl); (case hg => rfl); (case hr => first | (go_simp; done) | (go_simp; rfl)); intro gb369 hg w27 hbox hb; have n0_ := Aside0.mk (Kd.R_below (Kd.R_elderB (by (with_reducible repeat (first | apply Kd.R_alloc | apply Kd.R_drewN | apply Kd.R_drew)); exact HO_39.out) gb369 (Nat.le_of_eq hg.symm)) hb); have n1_ := Aside0.mk (below_step (by repeat (first | (with_reducible first | exact HB.out | apply below_alloc | apply pw_below_drewN | apply below_drew1) | exact HB.out)) hb); have n2_ := Aside0.mk (hbox); have n3_ := Aside0.mk ((by rw [hg]; exact (below_size (by repeat (first | (with_reducible first | exact HB.out | apply below_alloc | apply pw_below_drewN | apply below_drew1) | exact HB.out))) : w.heap.size ≤ gb369)); have n4_ := Aside0.mk ((by rw [hg]; exact (below_size (by repeat (first | (with_reducible first | exact HB.out | apply below_alloc | apply pw_below_drewN | apply below_drew1) | exact HB.out))) : w.heap.size ≤ gb369)); clear HO_39; clear HB; have HO_39 := n0_; have HB := n1_; have BK369 := n2_; have GW369 := n3_; have GE369 := n4_; clear n0_ n1_ n2_ n3_ n4_; clear hb hbox hg; have hcz28_0 : w27.cell? ⟨gb369, 0, none⟩ = some (.bool false) := (blk_cell BK369.out 0).trans rfl; have hcz28_1 : w27.cell? ⟨gb369, 1, none⟩ = some (.bool false) := (blk_cell BK369.out 1).trans rfl; have hcz28_2 : w27.cell? ⟨gb369, 2, none⟩ = some (.int .i64 0) := (blk_cell BK369.out 2).trans rfl; have hcz28_3 : w27.cell? ⟨gb369, 3, none⟩ = some (.bool false) := (blk_cell BK369.out 3).trans rfl; have hfz28_0 := blk_frozen BK369.out 0; have hfz28_1 := blk_frozen BK369.out 1; have hfz28_2 := blk_frozen BK369.out 2; have hfz28_3 := blk_frozen BK369.out 3))
                          go_ret
                          exact ⟨by first | rfl | (simp [errW_none, errW_some] <;> rfl) | (simp [*, errW_none, errW_some] <;> rfl), by repeat (first | (with_reducible first | exact HB.out | apply below_alloc | apply pw_below_drewN | apply below_drew1 | refine below_set ?_ GE369.out) | exact HB.out)⟩
                      · replace c20 := Bool.eq_false_iff.mpr c20
                        subst c20
                        have H1 : (some false) = some r := by rw [if_neg (show ¬ (false = true) by decide)] at H; exact H
                        clear H
                        have H := H1
                        clear H1
                        obtain rfl := Option.some.inj H
                        have p368 : 0 ≤ (x41_2 : Int) := of_decide_eq_true (by first | (with_reducible assumption) | assumption)
                        have q368 : x41_2 < (t365.length : Int) := of_decide_eq_true (by first | (with_reducible assumption) | assumption)
                        obtain ⟨ad368, e368, hx368_0, hx368_1, hx368_2, hx368_3⟩ := at_T36 (Kd.R_reads' HO_39.out).2.2 x41_2 p368 q368
                        (try rw [← Nbq19.out] at hx368_0)
                        (try rw [← Nbq19.out] at hx368_1)
                        (try rw [← Nbq19.out] at hx368_3)
                        cases e368
                        replace p368 := eq_true p368
                        replace q368 := eq_true q368
                        go_wp2_with (first | ((with_reducible refine gate_dst (N := 10) rfl ?_); (try (refine gate_guard (by rfl) ?_; dsimp only)); refine box_event ?hg (N := 10) ?hd (cs := #[.bool false, .bool false, .int .i64 0, .bool false]) (t := 36) ?hr ?_; (case hd => rfl); (case hg => rfl); (case hr => first | (go_simp; done) | (go_simp; rfl)); intro gb369 hg w29 hbox hb; have n0_ := Aside0.mk (Kd.R_below (Kd.R_elderB (by (with_reducible repeat (first | apply Kd.R_alloc | apply Kd.R_drewN | apply Kd.R_drew)); exact HO_39.out) gb369 (Nat.le_of_eq hg.symm)) hb); have n1_ := Aside0.mk (below_step (by repeat (first | (with_reducible first | exact HB.out | apply below_alloc | apply pw_below_drewN | apply below_drew1) | exact HB.out)) hb); have n2_ := Aside0.mk (hbox); have n3_ := Aside0.mk ((by rw [hg]; exact (below_size (by repeat (first | (with_reducible first | exact HB.out | apply below_alloc | apply pw_below_drewN | apply below_drew1) | exact HB.out))) : w.heap.size ≤ gb369)); have n4_ := Aside0.mk ((by rw [hg]; exact (below_size (by repeat (first | (with_reducible first | exact HB.out | apply below_alloc | apply pw_below_drewN | apply below_drew1) | exact HB.out))) : w.heap.size ≤ gb369)); clear HO_39; clear HB; have HO_39 := n0_; have HB := n1_; have BK369 := n2_; have GW369 := n3_; have GE369 := n4_; clear n0_ n1_ n2_ n3_ n4_; clear hb hbox hg; have hcz30_0 : w29.cell? ⟨gb369, 0, none⟩ = some (.bool false) := (blk_cell BK369.out 0).trans rfl; have hcz30_1 : w29.cell? ⟨gb369, 1, none⟩ = some (.bool false) := (blk_cell BK369.out 1).trans rfl; have hcz30_2 : w29.cell? ⟨gb369, 2, none⟩ = some (.int .i64 0) := (blk_cell BK369.out 2).trans rfl; have hcz30_3 : w29.cell? ⟨gb369, 3, none⟩ = some (.bool false) := (blk_cell BK369.out 3).trans rfl; have hfz30_0 := blk_frozen BK369.out 0; have hfz30_1 := blk_frozen BK369.out 1; have hfz30_2 := blk_frozen BK369.out 2; have hfz30_3 := blk_frozen BK369.out 3))
                        go_ret
                        exact ⟨by first | rfl | (simp [errW_none, errW_some] <;> rfl) | (simp [*, errW_none, errW_some] <;> rfl), by repeat (first | (with_reducible first | exact HB.out | apply below_alloc | apply pw_below_drewN | apply below_drew1 | refine below_set ?_ GE369.out) | exact HB.out)⟩
                    · replace c18 := Bool.eq_false_iff.mpr c18
                      subst c18
                      have H1 : (if x41_2 < (l1.length : Int) then (if ((rd_T36 t365 x41_2).f0 = true) then (if ((rd_T36 t365 x41_2).f2) = 0 then (if (((rd_T36 t365 x41_2).f3) != (rdOf false l1 x41_2)) = true then (some false) else (substationlaw29_BreakerStuck.l0 k2 l1 (rdOf false l1 x41_2) t365 (t365.length : Int) (wrap64 (x41_2 + 1)))) else (some false)) else (some false)) else (none)) = some r := by rw [if_neg (show ¬ (false = true) by decide)] at H; exact H
                      clear H
                      have H := H1
                      clear H1
                      by_cases c31 : x41_2 < (l1.length : Int)
                      · rw [if_pos c31] at H
                        have c31b0 : decide (x41_2 < (l1.length : Int)) = true := decide_eq_true c31
                        clear c31
                        obtain ⟨bq32, hbq32⟩ : ∃ b_ : Bool, b_ = ((rd_T36 t365 x41_2).f0) := ⟨_, rfl⟩
                        replace H : (if (bq32 = true) then (if ((rd_T36 t365 x41_2).f2) = 0 then (if (((rd_T36 t365 x41_2).f3) != (rdOf false l1 x41_2)) = true then (some false) else (substationlaw29_BreakerStuck.l0 k2 l1 (rdOf false l1 x41_2) t365 (t365.length : Int) (wrap64 (x41_2 + 1)))) else (some false)) else (some false)) = some r := by rw [← hbq32] at H; exact H
                        have Nbq32 := Aside0.mk hbq32
                        clear hbq32
                        by_cases c33 : (bq32 = true)
                        · subst c33
                          have H1 : (if ((rd_T36 t365 x41_2).f2) = 0 then (if (((rd_T36 t365 x41_2).f3) != (rdOf false l1 x41_2)) = true then (some false) else (substationlaw29_BreakerStuck.l0 k2 l1 (rdOf false l1 x41_2) t365 (t365.length : Int) (wrap64 (x41_2 + 1)))) else (some false)) = some r := by rw [if_pos rfl] at H; exact H
                          clear H
                          have H := H1
                          clear H1
                          by_cases c34 : ((rd_T36 t365 x41_2).f2) = 0
                          · rw [if_pos c34] at H
                            have c34b0 : (((rd_T36 t365 x41_2).f2) == 0) = true := beq_iff_eq.mpr c34
                            have c34b1 : (((rd_T36 t365 x41_2).f2) != 0) = false := bne_eq_false_iff_eq.mpr c34
                            clear c34
                            by_cases c35 : (((rd_T36 t365 x41_2).f3) != (rdOf false l1 x41_2)) = true
                            · rw [if_pos c35] at H
                              have c35b0 : (((rd_T36 t365 x41_2).f3) != (rdOf false l1 x41_2)) = true := c35
                              (try (have c35b1 : decide (((rd_T36 t365 x41_2).f3) = (rdOf false l1 x41_2)) = false := by simpa using c35))
                              (try (have c35b2 : (((rd_T36 t365 x41_2).f3) == (rdOf false l1 x41_2)) = false := by simpa using c35))
                              (try (have c35b3 : ¬ (((rd_T36 t365 x41_2).f3) = (rdOf false l1 x41_2)) := by simpa using c35))
                              clear c35
                              obtain rfl := Option.some.inj H
                              have p368 : 0 ≤ (x41_2 : Int) := of_decide_eq_true (by first | (with_reducible assumption) | assumption)
                              have q368 : x41_2 < (t365.length : Int) := of_decide_eq_true (by first | (with_reducible assumption) | assumption)
                              obtain ⟨ad368, e368, hx368_0, hx368_1, hx368_2, hx368_3⟩ := at_T36 (Kd.R_reads' HO_39.out).2.2 x41_2 p368 q368
                              (try rw [← Nbq32.out] at hx368_0)
                              (try rw [← Nbq32.out] at hx368_1)
                              (try rw [← Nbq32.out] at hx368_3)
                              cases e368
                              replace p368 := eq_true p368
                              replace q368 := eq_true q368
                              go_wp2_with (first | ((with_reducible refine gate_dst (N := 10) rfl ?_); (try (refine gate_guard (by rfl) ?_; dsimp only)); refine box_event ?hg (N := 10) ?hd (cs := #[.bool false, .bool false, .int .i64 0, .bool false]) (t := 36) ?hr ?_; (case hd => rfl); (case hg => rfl); (case hr => first | (go_simp; done) | (go_simp; rfl)); intro gb369 hg w36 hbox hb; have n0_ := Aside0.mk (Kd.R_below (Kd.R_elderB (by (with_reducible repeat (first | apply Kd.R_alloc | apply Kd.R_drewN | apply Kd.R_drew)); exact HO_39.out) gb369 (Nat.le_of_eq hg.symm)) hb); have n1_ := Aside0.mk (below_step (by repeat (first | (with_reducible first | exact HB.out | apply below_alloc | apply pw_below_drewN | apply below_drew1) | exact HB.out)) hb); have n2_ := Aside0.mk (hbox); have n3_ := Aside0.mk ((by rw [hg]; exact (below_size (by repeat (first | (with_reducible first | exact HB.out | apply below_alloc | apply pw_below_drewN | apply below_drew1) | exact HB.out))) : w.heap.size ≤ gb369)); have n4_ := Aside0.mk ((by rw [hg]; exact (below_size (by repeat (first | (with_reducible first | exact HB.out | apply below_alloc | apply pw_below_drewN | apply below_drew1) | exact HB.out))) : w.heap.size ≤ gb369)); clear HO_39; clear HB; have HO_39 := n0_; have HB := n1_; have BK369 := n2_; have GW369 := n3_; have GE369 := n4_; clear n0_ n1_ n2_ n3_ n4_; clear hb hbox hg; have hcz37_0 : w36.cell? ⟨gb369, 0, none⟩ = some (.bool false) := (blk_cell BK369.out 0).trans rfl; have hcz37_1 : w36.cell? ⟨gb369, 1, none⟩ = some (.bool false) := (blk_cell BK369.out 1).trans rfl; have hcz37_2 : w36.cell? ⟨gb369, 2, none⟩ = some (.int .i64 0) := (blk_cell BK369.out 2).trans rfl; have hcz37_3 : w36.cell? ⟨gb369, 3, none⟩ = some (.bool false) := (blk_cell BK369.out 3).trans rfl; have hfz37_0 := blk_frozen BK369.out 0; have hfz37_1 := blk_frozen BK369.out 1; have hfz37_2 := blk_frozen BK369.out 2; have hfz37_3 := blk_frozen BK369.out 3; have p370 : 0 ≤ (x41_2 : Int) := of_decide_eq_true (by first | (with_reducible assumption) | assumption); have q370 : x41_2 < (l1.length : Int) := of_decide_eq_true (by first | (with_reducible assumption) | assumption); obtain ⟨ad370, e370, hx370_0⟩ := Kd.at_bool HR1.out x41_2 p370 q370; (try rw [← Nbq32.out] at hx370_0); cases e370; have hn370_0 : ad370.block ≠ gb369 := Nat.ne_of_lt (Nat.lt_of_lt_of_le (by have := World.block_lt_of_cell? _ _ hx370_0; first | rwa [add_block] at this | exact this) GW369.out); have hn370_1 : ad370.block ≠ gb369 := Nat.ne_of_lt (Nat.lt_of_lt_of_le (by have := World.block_lt_of_cell? _ _ hx370_0; first | rwa [add_block] at this | exact this) GW369.out); have hn370_2 : ad370.block ≠ gb369 := Nat.ne_of_lt (Nat.lt_of_lt_of_le (by have := World.block_lt_of_cell? _ _ hx370_0; first | rwa [add_block] at this | exact this) GW369.out); have hn370_3 : ad370.block ≠ gb369 := Nat.ne_of_lt (Nat.lt_of_lt_of_le (by have := World.block_lt_of_cell? _ _ hx370_0; first | rwa [add_block] at this | exact this) GW369.out); replace hx370_0 := (HB.out.cell (World.block_lt_of_cell? w _ hx370_0)).trans hx370_0; replace hx370_0 := (cell_far (p := ⟨gb369, 0, none⟩) (by first | (rw [add_block]; exact hn370_0) | (show (Addr.add _ _).block ≠ _; rw [add_block]; exact hn370_0) | exact hn370_0) (.bool true)).trans hx370_0; replace hx370_0 := (cell_far (p := ⟨gb369, 1, none⟩) (by first | (rw [add_block]; exact hn370_1) | (show (Addr.add _ _).block ≠ _; rw [add_block]; exact hn370_1) | exact hn370_1) (.bool ((rd_T36 t365 x41_2).f1))).trans hx370_0; replace hx370_0 := (cell_far (p := ⟨gb369, 2, none⟩) (by first | (rw [add_block]; exact hn370_2) | (show (Addr.add _ _).block ≠ _; rw [add_block]; exact hn370_2) | exact hn370_2) (.int .i64 ((rd_T36 t365 x41_2).f2))).trans hx370_0; replace hx370_0 := (cell_far (p := ⟨gb369, 3, none⟩) (by first | (rw [add_block]; exact hn370_3) | (show (Addr.add _ _).block ≠ _; rw [add_block]; exact hn370_3) | exact hn370_3) (.bool ((rd_T36 t365 x41_2).f3))).trans hx370_0; clear hn370_0; clear hn370_1; clear hn370_2; clear hn370_3; replace p370 := eq_true p370; replace q370 := eq_true q370))
                              go_ret
                              exact ⟨by first | rfl | (simp [errW_none, errW_some] <;> rfl) | (simp [*, errW_none, errW_some] <;> rfl), by repeat (first | (with_reducible first | exact HB.out | apply below_alloc | apply pw_below_drewN | apply below_drew1 | refine below_set ?_ GE369.out) | exact HB.out)⟩
                            · rw [if_neg c35] at H
                              have c35b0 : (((rd_T36 t365 x41_2).f3) != (rdOf false l1 x41_2)) = false := by simpa using c35
                              (try (have c35b1 : decide (((rd_T36 t365 x41_2).f3) = (rdOf false l1 x41_2)) = true := by simpa using c35))
                              (try (have c35b2 : (((rd_T36 t365 x41_2).f3) == (rdOf false l1 x41_2)) = true := by simpa using c35))
                              clear c35
                              have H' := Aside0.mk H
                              clear H
                              have p368 : 0 ≤ (x41_2 : Int) := of_decide_eq_true (by first | (with_reducible assumption) | assumption)
                              have q368 : x41_2 < (t365.length : Int) := of_decide_eq_true (by first | (with_reducible assumption) | assumption)
                              obtain ⟨ad368, e368, hx368_0, hx368_1, hx368_2, hx368_3⟩ := at_T36 (Kd.R_reads' HO_39.out).2.2 x41_2 p368 q368
                              (try rw [← Nbq32.out] at hx368_0)
                              (try rw [← Nbq32.out] at hx368_1)
                              (try rw [← Nbq32.out] at hx368_3)
                              cases e368
                              replace p368 := eq_true p368
                              replace q368 := eq_true q368
                              go_wp2_with (first | ((with_reducible refine gate_dst (N := 10) rfl ?_); (try (refine gate_guard (by rfl) ?_; dsimp only)); refine box_event ?hg (N := 10) ?hd (cs := #[.bool false, .bool false, .int .i64 0, .bool false]) (t := 36) ?hr ?_; (case hd => rfl); (case hg => rfl); (case hr => first | (go_simp; done) | (go_simp; rfl)); intro gb369 hg w38 hbox hb; have n0_ := Aside0.mk (Kd.R_below (Kd.R_elderB (by (with_reducible repeat (first | apply Kd.R_alloc | apply Kd.R_drewN | apply Kd.R_drew)); exact HO_39.out) gb369 (Nat.le_of_eq hg.symm)) hb); have n1_ := Aside0.mk (below_step (by repeat (first | (with_reducible first | exact HB.out | apply below_alloc | apply pw_below_drewN | apply below_drew1) | exact HB.out)) hb); have n2_ := Aside0.mk (hbox); have n3_ := Aside0.mk ((by rw [hg]; exact (below_size (by repeat (first | (with_reducible first | exact HB.out | apply below_alloc | apply pw_below_drewN | apply below_drew1) | exact HB.out))) : w.heap.size ≤ gb369)); have n4_ := Aside0.mk ((by rw [hg]; exact (below_size (by repeat (first | (with_reducible first | exact HB.out | apply below_alloc | apply pw_below_drewN | apply below_drew1) | exact HB.out))) : w.heap.size ≤ gb369)); clear HO_39; clear HB; have HO_39 := n0_; have HB := n1_; have BK369 := n2_; have GW369 := n3_; have GE369 := n4_; clear n0_ n1_ n2_ n3_ n4_; clear hb hbox hg; have hcz39_0 : w38.cell? ⟨gb369, 0, none⟩ = some (.bool false) := (blk_cell BK369.out 0).trans rfl; have hcz39_1 : w38.cell? ⟨gb369, 1, none⟩ = some (.bool false) := (blk_cell BK369.out 1).trans rfl; have hcz39_2 : w38.cell? ⟨gb369, 2, none⟩ = some (.int .i64 0) := (blk_cell BK369.out 2).trans rfl; have hcz39_3 : w38.cell? ⟨gb369, 3, none⟩ = some (.bool false) := (blk_cell BK369.out 3).trans rfl; have hfz39_0 := blk_frozen BK369.out 0; have hfz39_1 := blk_frozen BK369.out 1; have hfz39_2 := blk_frozen BK369.out 2; have hfz39_3 := blk_frozen BK369.out 3; have p370 : 0 ≤ (x41_2 : Int) := of_decide_eq_true (by first | (with_reducible assumption) | assumption); have q370 : x41_2 < (l1.length : Int) := of_decide_eq_true (by first | (with_reducible assumption) | assumption); obtain ⟨ad370, e370, hx370_0⟩ := Kd.at_bool HR1.out x41_2 p370 q370; (try rw [← Nbq32.out] at hx370_0); cases e370; have hn370_0 : ad370.block ≠ gb369 := Nat.ne_of_lt (Nat.lt_of_lt_of_le (by have := World.block_lt_of_cell? _ _ hx370_0; first | rwa [add_block] at this | exact this) GW369.out); have hn370_1 : ad370.block ≠ gb369 := Nat.ne_of_lt (Nat.lt_of_lt_of_le (by have := World.block_lt_of_cell? _ _ hx370_0; first | rwa [add_block] at this | exact this) GW369.out); have hn370_2 : ad370.block ≠ gb369 := Nat.ne_of_lt (Nat.lt_of_lt_of_le (by have := World.block_lt_of_cell? _ _ hx370_0; first | rwa [add_block] at this | exact this) GW369.out); have hn370_3 : ad370.block ≠ gb369 := Nat.ne_of_lt (Nat.lt_of_lt_of_le (by have := World.block_lt_of_cell? _ _ hx370_0; first | rwa [add_block] at this | exact this) GW369.out); replace hx370_0 := (HB.out.cell (World.block_lt_of_cell? w _ hx370_0)).trans hx370_0; replace hx370_0 := (cell_far (p := ⟨gb369, 0, none⟩) (by first | (rw [add_block]; exact hn370_0) | (show (Addr.add _ _).block ≠ _; rw [add_block]; exact hn370_0) | exact hn370_0) (.bool true)).trans hx370_0; replace hx370_0 := (cell_far (p := ⟨gb369, 1, none⟩) (by first | (rw [add_block]; exact hn370_1) | (show (Addr.add _ _).block ≠ _; rw [add_block]; exact hn370_1) | exact hn370_1) (.bool ((rd_T36 t365 x41_2).f1))).trans hx370_0; replace hx370_0 := (cell_far (p := ⟨gb369, 2, none⟩) (by first | (rw [add_block]; exact hn370_2) | (show (Addr.add _ _).block ≠ _; rw [add_block]; exact hn370_2) | exact hn370_2) (.int .i64 ((rd_T36 t365 x41_2).f2))).trans hx370_0; replace hx370_0 := (cell_far (p := ⟨gb369, 3, none⟩) (by first | (rw [add_block]; exact hn370_3) | (show (Addr.add _ _).block ≠ _; rw [add_block]; exact hn370_3) | exact hn370_3) (.bool ((rd_T36 t365 x41_2).f3))).trans hx370_0; clear hn370_0; clear hn370_1; clear hn370_2; clear hn370_3; replace p370 := eq_true p370; replace q370 := eq_true q370))
                              go_roundg k2
                              case measure => have := HJ3.out; have := HK2.out; omega
                              case rel => exact ⟨(rdOf false l1 x41_2), (wrap64 (x41_2 + 1)), (by first | rfl | (simp; done) | (simp [*]; done)), (by first | rfl | (simp; done) | (simp [*]; done)), H', ⟨by have := HJ3.out; have := HK2.out; omega⟩, ⟨by (with_reducible repeat (first | apply Kd.R_alloc | apply Kd.R_drewN | apply Kd.R_drew)); exact Kd.R_mono (Kd.R_far (p := ⟨gb369, 3, none⟩) (Kd.R_far (p := ⟨gb369, 2, none⟩) (Kd.R_far (p := ⟨gb369, 1, none⟩) (Kd.R_far (p := ⟨gb369, 0, none⟩) (Kd.R_mono HO_39.out (fun k_ hk => (⟨hk, hk.2⟩ : _ ∧ k_ ≠ gb369))) (fun _ hk => hk.2) (.bool true)) (fun _ hk => hk.2) (.bool ((rd_T36 t365 x41_2).f1))) (fun _ hk => hk.2) (.int .i64 ((rd_T36 t365 x41_2).f2))) (fun _ hk => hk.2) (.bool ((rd_T36 t365 x41_2).f3))) (fun _ hk => trivial)⟩, ⟨by repeat (first | (with_reducible first | exact HB.out | apply below_alloc | apply pw_below_drewN | apply below_drew1 | refine below_set ?_ GE369.out) | exact HB.out)⟩⟩
                          · rw [if_neg c34] at H
                            have c34b0 : (((rd_T36 t365 x41_2).f2) == 0) = false := beq_eq_false_iff_ne.mpr c34
                            have c34b1 : (((rd_T36 t365 x41_2).f2) != 0) = true := bne_iff_ne.mpr c34
                            obtain rfl := Option.some.inj H
                            have p368 : 0 ≤ (x41_2 : Int) := of_decide_eq_true (by first | (with_reducible assumption) | assumption)
                            have q368 : x41_2 < (t365.length : Int) := of_decide_eq_true (by first | (with_reducible assumption) | assumption)
                            obtain ⟨ad368, e368, hx368_0, hx368_1, hx368_2, hx368_3⟩ := at_T36 (Kd.R_reads' HO_39.out).2.2 x41_2 p368 q368
                            (try rw [← Nbq32.out] at hx368_0)
                            (try rw [← Nbq32.out] at hx368_1)
                            (try rw [← Nbq32.out] at hx368_3)
                            cases e368
                            replace p368 := eq_true p368
                            replace q368 := eq_true q368
                            go_wp2_with (first | ((with_reducible refine gate_dst (N := 10) rfl ?_); (try (refine gate_guard (by rfl) ?_; dsimp only)); refine box_event ?hg (N := 10) ?hd (cs := #[.bool false, .bool false, .int .i64 0, .bool false]) (t := 36) ?hr ?_; (case hd => rfl); (case hg => rfl); (case hr => first | (go_simp; done) | (go_simp; rfl)); intro gb369 hg w40 hbox hb; have n0_ := Aside0.mk (Kd.R_below (Kd.R_elderB (by (with_reducible repeat (first | apply Kd.R_alloc | apply Kd.R_drewN | apply Kd.R_drew)); exact HO_39.out) gb369 (Nat.le_of_eq hg.symm)) hb); have n1_ := Aside0.mk (below_step (by repeat (first | (with_reducible first | exact HB.out | apply below_alloc | apply pw_below_drewN | apply below_drew1) | exact HB.out)) hb); have n2_ := Aside0.mk (hbox); have n3_ := Aside0.mk ((by rw [hg]; exact (below_size (by repeat (first | (with_reducible first | exact HB.out | apply below_alloc | apply pw_below_drewN | apply below_drew1) | exact HB.out))) : w.heap.size ≤ gb369)); have n4_ := Aside0.mk ((by rw [hg]; exact (below_size (by repeat (first | (with_reducible first | exact HB.out | apply below_alloc | apply pw_below_drewN | apply below_drew1) | exact HB.out))) : w.heap.size ≤ gb369)); clear HO_39; clear HB; have HO_39 := n0_; have HB := n1_; have BK369 := n2_; have GW369 := n3_; have GE369 := n4_; clear n0_ n1_ n2_ n3_ n4_; clear hb hbox hg; have hcz41_0 : w40.cell? ⟨gb369, 0, none⟩ = some (.bool false) := (blk_cell BK369.out 0).trans rfl; have hcz41_1 : w40.cell? ⟨gb369, 1, none⟩ = some (.bool false) := (blk_cell BK369.out 1).trans rfl; have hcz41_2 : w40.cell? ⟨gb369, 2, none⟩ = some (.int .i64 0) := (blk_cell BK369.out 2).trans rfl; have hcz41_3 : w40.cell? ⟨gb369, 3, none⟩ = some (.bool false) := (blk_cell BK369.out 3).trans rfl; have hfz41_0 := blk_frozen BK369.out 0; have hfz41_1 := blk_frozen BK369.out 1; have hfz41_2 := blk_frozen BK369.out 2; have hfz41_3 := blk_frozen BK369.out 3; have p370 : 0 ≤ (x41_2 : Int) := of_decide_eq_true (by first | (with_reducible assumption) | assumption); have q370 : x41_2 < (l1.length : Int) := of_decide_eq_true (by first | (with_reducible assumption) | assumption); obtain ⟨ad370, e370, hx370_0⟩ := Kd.at_bool HR1.out x41_2 p370 q370; (try rw [← Nbq32.out] at hx370_0); cases e370; have hn370_0 : ad370.block ≠ gb369 := Nat.ne_of_lt (Nat.lt_of_lt_of_le (by have := World.block_lt_of_cell? _ _ hx370_0; first | rwa [add_block] at this | exact this) GW369.out); have hn370_1 : ad370.block ≠ gb369 := Nat.ne_of_lt (Nat.lt_of_lt_of_le (by have := World.block_lt_of_cell? _ _ hx370_0; first | rwa [add_block] at this | exact this) GW369.out); have hn370_2 : ad370.block ≠ gb369 := Nat.ne_of_lt (Nat.lt_of_lt_of_le (by have := World.block_lt_of_cell? _ _ hx370_0; first | rwa [add_block] at this | exact this) GW369.out); have hn370_3 : ad370.block ≠ gb369 := Nat.ne_of_lt (Nat.lt_of_lt_of_le (by have := World.block_lt_of_cell? _ _ hx370_0; first | rwa [add_block] at this | exact this) GW369.out); replace hx370_0 := (HB.out.cell (World.block_lt_of_cell? w _ hx370_0)).trans hx370_0; replace hx370_0 := (cell_far (p := ⟨gb369, 0, none⟩) (by first | (rw [add_block]; exact hn370_0) | (show (Addr.add _ _).block ≠ _; rw [add_block]; exact hn370_0) | exact hn370_0) (.bool true)).trans hx370_0; replace hx370_0 := (cell_far (p := ⟨gb369, 1, none⟩) (by first | (rw [add_block]; exact hn370_1) | (show (Addr.add _ _).block ≠ _; rw [add_block]; exact hn370_1) | exact hn370_1) (.bool ((rd_T36 t365 x41_2).f1))).trans hx370_0; replace hx370_0 := (cell_far (p := ⟨gb369, 2, none⟩) (by first | (rw [add_block]; exact hn370_2) | (show (Addr.add _ _).block ≠ _; rw [add_block]; exact hn370_2) | exact hn370_2) (.int .i64 ((rd_T36 t365 x41_2).f2))).trans hx370_0; replace hx370_0 := (cell_far (p := ⟨gb369, 3, none⟩) (by first | (rw [add_block]; exact hn370_3) | (show (Addr.add _ _).block ≠ _; rw [add_block]; exact hn370_3) | exact hn370_3) (.bool ((rd_T36 t365 x41_2).f3))).trans hx370_0; clear hn370_0; clear hn370_1; clear hn370_2; clear hn370_3; replace p370 := eq_true p370; replace q370 := eq_true q370))
                            go_ret
                            exact ⟨by first | rfl | (simp [errW_none, errW_some] <;> rfl) | (simp [*, errW_none, errW_some] <;> rfl), by repeat (first | (with_reducible first | exact HB.out | apply below_alloc | apply pw_below_drewN | apply below_drew1 | refine below_set ?_ GE369.out) | exact HB.out)⟩
                        · replace c33 := Bool.eq_false_iff.mpr c33
                          subst c33
                          have H1 : (some false) = some r := by rw [if_neg (show ¬ (false = true) by decide)] at H; exact H
                          clear H
                          have H := H1
                          clear H1
                          obtain rfl := Option.some.inj H
                          have p368 : 0 ≤ (x41_2 : Int) := of_decide_eq_true (by first | (with_reducible assumption) | assumption)
                          have q368 : x41_2 < (t365.length : Int) := of_decide_eq_true (by first | (with_reducible assumption) | assumption)
                          obtain ⟨ad368, e368, hx368_0, hx368_1, hx368_2, hx368_3⟩ := at_T36 (Kd.R_reads' HO_39.out).2.2 x41_2 p368 q368
                          (try rw [← Nbq32.out] at hx368_0)
                          (try rw [← Nbq32.out] at hx368_1)
                          (try rw [← Nbq32.out] at hx368_3)
                          cases e368
                          replace p368 := eq_true p368
                          replace q368 := eq_true q368
                          go_wp2_with (first | ((with_reducible refine gate_dst (N := 10) rfl ?_); (try (refine gate_guard (by rfl) ?_; dsimp only)); refine box_event ?hg (N := 10) ?hd (cs := #[.bool false, .bool false, .int .i64 0, .bool false]) (t := 36) ?hr ?_; (case hd => rfl); (case hg => rfl); (case hr => first | (go_simp; done) | (go_simp; rfl)); intro gb369 hg w42 hbox hb; have n0_ := Aside0.mk (Kd.R_below (Kd.R_elderB (by (with_reducible repeat (first | apply Kd.R_alloc | apply Kd.R_drewN | apply Kd.R_drew)); exact HO_39.out) gb369 (Nat.le_of_eq hg.symm)) hb); have n1_ := Aside0.mk (below_step (by repeat (first | (with_reducible first | exact HB.out | apply below_alloc | apply pw_below_drewN | apply below_drew1) | exact HB.out)) hb); have n2_ := Aside0.mk (hbox); have n3_ := Aside0.mk ((by rw [hg]; exact (below_size (by repeat (first | (with_reducible first | exact HB.out | apply below_alloc | apply pw_below_drewN | apply below_drew1) | exact HB.out))) : w.heap.size ≤ gb369)); have n4_ := Aside0.mk ((by rw [hg]; exact (below_size (by repeat (first | (with_reducible first | exact HB.out | apply below_alloc | apply pw_below_drewN | apply below_drew1) | exact HB.out))) : w.heap.size ≤ gb369)); clear HO_39; clear HB; have HO_39 := n0_; have HB := n1_; have BK369 := n2_; have GW369 := n3_; have GE369 := n4_; clear n0_ n1_ n2_ n3_ n4_; clear hb hbox hg; have hcz43_0 : w42.cell? ⟨gb369, 0, none⟩ = some (.bool false) := (blk_cell BK369.out 0).trans rfl; have hcz43_1 : w42.cell? ⟨gb369, 1, none⟩ = some (.bool false) := (blk_cell BK369.out 1).trans rfl; have hcz43_2 : w42.cell? ⟨gb369, 2, none⟩ = some (.int .i64 0) := (blk_cell BK369.out 2).trans rfl; have hcz43_3 : w42.cell? ⟨gb369, 3, none⟩ = some (.bool false) := (blk_cell BK369.out 3).trans rfl; have hfz43_0 := blk_frozen BK369.out 0; have hfz43_1 := blk_frozen BK369.out 1; have hfz43_2 := blk_frozen BK369.out 2; have hfz43_3 := blk_frozen BK369.out 3; have p370 : 0 ≤ (x41_2 : Int) := of_decide_eq_true (by first | (with_reducible assumption) | assumption); have q370 : x41_2 < (l1.length : Int) := of_decide_eq_true (by first | (with_reducible assumption) | assumption); obtain ⟨ad370, e370, hx370_0⟩ := Kd.at_bool HR1.out x41_2 p370 q370; (try rw [← Nbq32.out] at hx370_0); cases e370; have hn370_0 : ad370.block ≠ gb369 := Nat.ne_of_lt (Nat.lt_of_lt_of_le (by have := World.block_lt_of_cell? _ _ hx370_0; first | rwa [add_block] at this | exact this) GW369.out); have hn370_1 : ad370.block ≠ gb369 := Nat.ne_of_lt (Nat.lt_of_lt_of_le (by have := World.block_lt_of_cell? _ _ hx370_0; first | rwa [add_block] at this | exact this) GW369.out); have hn370_2 : ad370.block ≠ gb369 := Nat.ne_of_lt (Nat.lt_of_lt_of_le (by have := World.block_lt_of_cell? _ _ hx370_0; first | rwa [add_block] at this | exact this) GW369.out); have hn370_3 : ad370.block ≠ gb369 := Nat.ne_of_lt (Nat.lt_of_lt_of_le (by have := World.block_lt_of_cell? _ _ hx370_0; first | rwa [add_block] at this | exact this) GW369.out); replace hx370_0 := (HB.out.cell (World.block_lt_of_cell? w _ hx370_0)).trans hx370_0; replace hx370_0 := (cell_far (p := ⟨gb369, 0, none⟩) (by first | (rw [add_block]; exact hn370_0) | (show (Addr.add _ _).block ≠ _; rw [add_block]; exact hn370_0) | exact hn370_0) (.bool false)).trans hx370_0; replace hx370_0 := (cell_far (p := ⟨gb369, 1, none⟩) (by first | (rw [add_block]; exact hn370_1) | (show (Addr.add _ _).block ≠ _; rw [add_block]; exact hn370_1) | exact hn370_1) (.bool ((rd_T36 t365 x41_2).f1))).trans hx370_0; replace hx370_0 := (cell_far (p := ⟨gb369, 2, none⟩) (by first | (rw [add_block]; exact hn370_2) | (show (Addr.add _ _).block ≠ _; rw [add_block]; exact hn370_2) | exact hn370_2) (.int .i64 ((rd_T36 t365 x41_2).f2))).trans hx370_0; replace hx370_0 := (cell_far (p := ⟨gb369, 3, none⟩) (by first | (rw [add_block]; exact hn370_3) | (show (Addr.add _ _).block ≠ _; rw [add_block]; exact hn370_3) | exact hn370_3) (.bool ((rd_T36 t365 x41_2).f3))).trans hx370_0; clear hn370_0; clear hn370_1; clear hn370_2; clear hn370_3; replace p370 := eq_true p370; replace q370 := eq_true q370))
                          go_ret
                          exact ⟨by first | rfl | (simp [errW_none, errW_some] <;> rfl) | (simp [*, errW_none, errW_some] <;> rfl), by repeat (first | (with_reducible first | exact HB.out | apply below_alloc | apply pw_below_drewN | apply below_drew1 | refine below_set ?_ GE369.out) | exact HB.out)⟩
                      · rw [if_neg c31] at H
                        exact absurd H (by simp)
                  · rw [if_neg c17] at H
                    exact absurd H (by simp)
                · rw [if_neg c16] at H
                  exact absurd H (by simp)
              · rw [if_neg c15] at H
                have c15b0 : decide (x41_2 < (t365.length : Int)) = false := decide_eq_false c15
                clear c15
                replace H := Option.bind_eq_some_iff.mp H
                obtain ⟨t371, A440, H⟩ := H
                replace H : (some t371) = some r := H
                have A44 := Aside0.mk A440
                clear A440
                obtain rfl := Option.some.inj H
                go_wp2_with (first | ((with_reducible refine gate_callee (f := 22) rfl ?_); refine goesL_ (some 68) rfl rfl Try.func22 (by kernel_rfl) rfl #[] rfl (by (try simp only [List.map_toArray, List.map_cons, List.map_nil]); first | done | rfl | (simp only [List.length_drop, List.length_take]; rfl)) ?_; (with_reducible refine (substationlaw29_known.calls k2  t371 _ A44.out).mono ?_); rintro e w45 ⟨rfl, hb⟩; refine ⟨_, rfl, ?_⟩; have n0_ := Aside0.mk (Kd.R_below (by (with_reducible repeat (first | apply Kd.R_alloc | apply Kd.R_drewN | apply Kd.R_drew)); exact HO_39.out) hb); have n1_ := Aside0.mk (below_step (by repeat (first | (with_reducible first | exact HB.out | apply below_alloc | apply pw_below_drewN | apply below_drew1) | exact HB.out)) hb); clear HO_39; clear HB; have HO_39 := n0_; have HB := n1_; clear n0_ n1_; (try clear hb); (try clear hb2); (try clear hk); (try clear hi)))
                go_ret
                exact ⟨by first | rfl | (simp [errW_none, errW_some] <;> rfl) | (simp [*, errW_none, errW_some] <;> rfl), by repeat (first | (with_reducible first | exact HB.out | apply below_alloc | apply pw_below_drewN | apply below_drew1) | exact HB.out)⟩
        · rw [if_neg c12] at H
          have c12b0 : ((t365.length : Int) == (l1.length : Int)) = false := beq_eq_false_iff_ne.mpr c12
          have c12b1 : ((t365.length : Int) != (l1.length : Int)) = true := bne_iff_ne.mpr c12
          have c12b2 : (t365.length == l1.length) = false := by first | simpa using c12 | (simp at c12 ⊢; omega)
          obtain rfl := Option.some.inj H
          go_wp2_with (first | ((with_reducible refine gate_callee (f := 21) rfl ?_); refine goesL_ (some 33) rfl rfl Try.func21 (by kernel_rfl) rfl #[.bool true, .int .i64 a0, .bool true, .slice A1 l1.length c1, .slice A2 l2.length c2] rfl (by (try simp only [List.map_toArray, List.map_cons, List.map_nil]); first | done | rfl | (simp only [List.length_drop, List.length_take]; rfl)) ?_; (with_reducible refine (breaker_Run.calls kj3 true a0 true _ _ l1 _ _ l2 t365 _ ?side1 ?side2 ?side3 ?side4 A11.out).mono ?_); (case side1 => repeat (first | exact (Kd.C_below HR1.out HB.out) | (with_reducible refine Kd.C_alloc ?_ _) | (with_reducible refine Kd.C_drewN ?_ _) | (with_reducible refine Kd.C_drew ?_))); (case side2 => exact HC1.out); (case side3 => repeat (first | exact (Kd.C_below HR2.out HB.out) | (with_reducible refine Kd.C_alloc ?_ _) | (with_reducible refine Kd.C_drewN ?_ _) | (with_reducible refine Kd.C_drew ?_))); (case side4 => exact HC2.out); rintro e w46 ⟨v366, rfl, ho0, hb⟩; refine ⟨_, rfl, ?_⟩; have n0_ := Aside0.mk (Kd.R_lower ho0 (below_size (by repeat (first | (with_reducible first | exact HB.out | apply below_alloc | apply pw_below_drewN | apply below_drew1) | exact HB.out)))); have n1_ := Aside0.mk (below_step (by repeat (first | (with_reducible first | exact HB.out | apply below_alloc | apply pw_below_drewN | apply below_drew1) | exact HB.out)) hb); clear HB; have HO367 := n0_; have HB := n1_; clear n0_ n1_; (try clear hb); (try clear hb2); (try clear hk); (try clear hi); (try clear ho0); obtain ⟨Ao47, co47, eo47⟩ := Kd.R_slice HO367.out; subst eo47))
          go_ret
          exact ⟨by first | rfl | (simp [errW_none, errW_some] <;> rfl) | (simp [*, errW_none, errW_some] <;> rfl), by repeat (first | (with_reducible first | exact HB.out | apply below_alloc | apply pw_below_drewN | apply below_drew1) | exact HB.out)⟩

end Go.Proofs.Ytooeljgandaelaa.PAll
