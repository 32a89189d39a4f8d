-- PRINTED BY print.sh 35421559b90ae4d0a3588c463048766b98c2df88dd9212a6774a882060cdf62d: not written by this session
import Derived.Test.YtooeljgandaelaaPAllx0
import Derived.Test.YtooeljgandaelaaPAllx1
import Derived.Test.YtooeljgandaelaaPAllx4
import Derived.Test.YtooeljgandaelaaPAllx6
import Derived.Test.YtooeljgandaelaaPAllx8
namespace Go.Proofs.Ytooeljgandaelaa.PAll
open Go.RowKit Go.Proofs.YtooeljgandaelaaW.PrintWords Go.Proofs.YtooeljgandaelaaW.PrintLast Go.Proofs.YtooeljgandaelaaW.PrintMore
attribute [local go_sem] max2_int min2_int max_two min_two max_three min_three max_four min_four   -- for this text's walks alone
set_option linter.unusedVariables false
set_option linter.unusedSimpArgs false

attribute [local go_sem high] eqA36
/-! ### substationlaw29_BreakerOpensInTime: function 11 -/
mutual
def substationlaw29_BreakerOpensInTime.j0 : Nat → Int → List Bool → List Bool → Bool → Option (Bool)
  | 0, _, _, _, _ => none
  | k + 1, x0, x1, x2, x28 => if x28 = true then ((substationlaw29_known.f k).bind fun t318 => (some t318)) else ((breaker_New.f true).bind fun bt319 => ((breaker_Step.f k bt319.1 bt319.2.1 bt319.2.2.1 bt319.2.2.2 x0 false true false).bind fun bt323 => (substationlaw29_BreakerOpensInTime.l0 k x0 x1 x2 0 bt323.1 bt323.2.1 bt323.2.2.1 bt323.2.2.2)))
def substationlaw29_BreakerOpensInTime.l0 : Nat → Int → List Bool → List Bool → Int → Bool → Bool → Int → Bool → Option (Bool)
  | 0, _, _, _, _, _, _, _, _ => none
  | k + 1, x0, x1, x2, x8, x328000, x328001, x328002, x328003 => if x8 < x0 then (if x328000 = true then (if x328003 = true then (substationlaw29_BreakerOpensInTime.j2 k x0 x1 x2 x8 (x328002 != (wrap64 (x0 - x8))) x328000 x328001 x328002 x328003) else (substationlaw29_BreakerOpensInTime.j2 k x0 x1 x2 x8 true x328000 x328001 x328002 x328003)) else (substationlaw29_BreakerOpensInTime.j2 k x0 x1 x2 x8 true x328000 x328001 x328002 x328003)) else ((substationlaw29_known.f k).bind fun t328 => (if t328 = true then (some (!x328000 && (!x328001 && (x328002 == 0 && (!x328003))))) else (some false)))
def substationlaw29_BreakerOpensInTime.j2 : Nat → Int → List Bool → List Bool → Int → Bool → Bool → Bool → Int → Bool → Option (Bool)
  | 0, _, _, _, _, _, _, _, _, _ => none
  | k + 1, x0, x1, x2, x8, x53, x328000, x328001, x328002, x328003 => if x53 = true then (some false) else (if x8 < (x1.length : Int) then (if 0 ≤ x8 then (if x8 < (x2.length : Int) then (if x8 = (wrap64 (x0 - 1)) then ((breaker_Step.f k x328000 x328001 x328002 x328003 x0 false (rdOf false x1 x8) false).bind fun bt331 => (substationlaw29_BreakerOpensInTime.l0 k x0 x1 x2 (wrap64 (x8 + 1)) bt331.1 bt331.2.1 bt331.2.2.1 bt331.2.2.2)) else ((breaker_Step.f k x328000 x328001 x328002 x328003 x0 false (rdOf false x1 x8) (rdOf false x2 x8)).bind fun bt335 => (substationlaw29_BreakerOpensInTime.l0 k x0 x1 x2 (wrap64 (x8 + 1)) bt335.1 bt335.2.1 bt335.2.2.1 bt335.2.2.2))) else (if x8 = (wrap64 (x0 - 1)) then ((breaker_Step.f k x328000 x328001 x328002 x328003 x0 false (rdOf false x1 x8) false).bind fun bt339 => (substationlaw29_BreakerOpensInTime.l0 k x0 x1 x2 (wrap64 (x8 + 1)) bt339.1 bt339.2.1 bt339.2.2.1 bt339.2.2.2)) else ((breaker_Step.f k x328000 x328001 x328002 x328003 x0 false (rdOf false x1 x8) false).bind fun bt343 => (substationlaw29_BreakerOpensInTime.l0 k x0 x1 x2 (wrap64 (x8 + 1)) bt343.1 bt343.2.1 bt343.2.2.1 bt343.2.2.2)))) else (none)) else (if x8 < (x2.length : Int) then (if 0 ≤ x8 then (if x8 = (wrap64 (x0 - 1)) then ((breaker_Step.f k x328000 x328001 x328002 x328003 x0 false false false).bind fun bt348 => (substationlaw29_BreakerOpensInTime.l0 k x0 x1 x2 (wrap64 (x8 + 1)) bt348.1 bt348.2.1 bt348.2.2.1 bt348.2.2.2)) else ((breaker_Step.f k x328000 x328001 x328002 x328003 x0 false false (rdOf false x2 x8)).bind fun bt352 => (substationlaw29_BreakerOpensInTime.l0 k x0 x1 x2 (wrap64 (x8 + 1)) bt352.1 bt352.2.1 bt352.2.2.1 bt352.2.2.2))) else (none)) else (if x8 = (wrap64 (x0 - 1)) then ((breaker_Step.f k x328000 x328001 x328002 x328003 x0 false false false).bind fun bt356 => (substationlaw29_BreakerOpensInTime.l0 k x0 x1 x2 (wrap64 (x8 + 1)) bt356.1 bt356.2.1 bt356.2.2.1 bt356.2.2.2)) else ((breaker_Step.f k x328000 x328001 x328002 x328003 x0 false false false).bind fun bt360 => (substationlaw29_BreakerOpensInTime.l0 k x0 x1 x2 (wrap64 (x8 + 1)) bt360.1 bt360.2.1 bt360.2.2.1 bt360.2.2.2)))))
end
def substationlaw29_BreakerOpensInTime.f (k : Nat) (a0 : Int) (l1 : List Bool) (l2 : List Bool) : Option (Bool) := if a0 < 1 then (substationlaw29_BreakerOpensInTime.j0 k a0 l1 l2 true) else (if a0 > 6 then (substationlaw29_BreakerOpensInTime.j0 k a0 l1 l2 true) else (if (l1.length : Int) = (l2.length : Int) then (substationlaw29_BreakerOpensInTime.j0 k a0 l1 l2 (decide ((l1.length : Int) > 60))) else (substationlaw29_BreakerOpensInTime.j0 k a0 l1 l2 true)))
theorem substationlaw29_BreakerOpensInTime.mono_l : ∀ k, (∀ y0 y1 y2 y3, LeO (substationlaw29_BreakerOpensInTime.j0 k y0 y1 y2 y3) (substationlaw29_BreakerOpensInTime.j0 (k + 1) y0 y1 y2 y3)) ∧ (∀ y0 y1 y2 y3 y4 y5 y6 y7, LeO (substationlaw29_BreakerOpensInTime.l0 k y0 y1 y2 y3 y4 y5 y6 y7) (substationlaw29_BreakerOpensInTime.l0 (k + 1) y0 y1 y2 y3 y4 y5 y6 y7)) ∧ (∀ y0 y1 y2 y3 y4 y5 y6 y7 y8, LeO (substationlaw29_BreakerOpensInTime.j2 k y0 y1 y2 y3 y4 y5 y6 y7 y8) (substationlaw29_BreakerOpensInTime.j2 (k + 1) y0 y1 y2 y3 y4 y5 y6 y7 y8))
  | 0 => ⟨fun _ _ _ _ r h => by simp [substationlaw29_BreakerOpensInTime.j0] at h, fun _ _ _ _ _ _ _ _ r h => by simp [substationlaw29_BreakerOpensInTime.l0] at h, fun _ _ _ _ _ _ _ _ _ r h => by simp [substationlaw29_BreakerOpensInTime.j2] at h⟩
  | k + 1 => by
    obtain ⟨ih0, ih1, ih2⟩ := substationlaw29_BreakerOpensInTime.mono_l k
    refine ⟨?_, ?_, ?_⟩
    · intro y0 y1 y2 y3
      unfold substationlaw29_BreakerOpensInTime.j0
      repeat' first
      | (with_reducible exact ih0 _ _ _ _)
      | (with_reducible exact ih1 _ _ _ _ _ _ _ _)
      | (with_reducible exact ih2 _ _ _ _ _ _ _ _ _)
      | (with_reducible exact breaker_Step.mono _ _ _ _ _ _ _ _ _)
      | (with_reducible exact substationlaw29_known.mono _)
      | (with_reducible exact LeO.refl _)
      | (with_reducible exact LeO.none _)
      | (with_reducible refine LeO.ite ?_ ?_)
      | (with_reducible refine LeO.bind ?_ (fun _ => ?_))
      | exact ih0 _ _ _ _
      | exact ih1 _ _ _ _ _ _ _ _
      | exact ih2 _ _ _ _ _ _ _ _ _
      | exact breaker_Step.mono _ _ _ _ _ _ _ _ _
      | exact substationlaw29_known.mono _
      | exact LeO.none _
      | refine LeO.ite ?_ ?_
      | refine LeO.bind ?_ (fun _ => ?_)
    · intro y0 y1 y2 y3 y4 y5 y6 y7
      unfold substationlaw29_BreakerOpensInTime.l0
      repeat' first
      | (with_reducible exact ih0 _ _ _ _)
      | (with_reducible exact ih1 _ _ _ _ _ _ _ _)
      | (with_reducible exact ih2 _ _ _ _ _ _ _ _ _)
      | (with_reducible exact breaker_Step.mono _ _ _ _ _ _ _ _ _)
      | (with_reducible exact substationlaw29_known.mono _)
      | (with_reducible exact LeO.refl _)
      | (with_reducible exact LeO.none _)
      | (with_reducible refine LeO.ite ?_ ?_)
      | (with_reducible refine LeO.bind ?_ (fun _ => ?_))
      | exact ih0 _ _ _ _
      | exact ih1 _ _ _ _ _ _ _ _
      | exact ih2 _ _ _ _ _ _ _ _ _
      | exact breaker_Step.mono _ _ _ _ _ _ _ _ _
      | exact substationlaw29_known.mono _
      | exact LeO.none _
      | refine LeO.ite ?_ ?_
      | refine LeO.bind ?_ (fun _ => ?_)
    · intro y0 y1 y2 y3 y4 y5 y6 y7 y8
      unfold substationlaw29_BreakerOpensInTime.j2
      repeat' first
      | (with_reducible exact ih0 _ _ _ _)
      | (with_reducible exact ih1 _ _ _ _ _ _ _ _)
      | (with_reducible exact ih2 _ _ _ _ _ _ _ _ _)
      | (with_reducible exact breaker_Step.mono _ _ _ _ _ _ _ _ _)
      | (with_reducible exact substationlaw29_known.mono _)
      | (with_reducible exact LeO.refl _)
      | (with_reducible exact LeO.none _)
      | (with_reducible refine LeO.ite ?_ ?_)
      | (with_reducible refine LeO.bind ?_ (fun _ => ?_))
      | exact ih0 _ _ _ _
      | exact ih1 _ _ _ _ _ _ _ _
      | exact ih2 _ _ _ _ _ _ _ _ _
      | exact breaker_Step.mono _ _ _ _ _ _ _ _ _
      | exact substationlaw29_known.mono _
      | exact LeO.none _
      | refine LeO.ite ?_ ?_
      | refine LeO.bind ?_ (fun _ => ?_)
theorem substationlaw29_BreakerOpensInTime.mono : ∀ a0 a1 a2 k, LeO (substationlaw29_BreakerOpensInTime.f k a0 a1 a2) (substationlaw29_BreakerOpensInTime.f (k + 1) a0 a1 a2) := by
  intro a0 a1 a2 k
  obtain ⟨ih0, ih1, ih2⟩ := substationlaw29_BreakerOpensInTime.mono_l k
  unfold substationlaw29_BreakerOpensInTime.f
  repeat' first
      | (with_reducible exact ih0 _ _ _ _)
      | (with_reducible exact ih1 _ _ _ _ _ _ _ _)
      | (with_reducible exact ih2 _ _ _ _ _ _ _ _ _)
      | (with_reducible exact breaker_Step.mono _ _ _ _ _ _ _ _ _)
      | (with_reducible exact substationlaw29_known.mono _)
      | (with_reducible exact LeO.refl _)
      | (with_reducible exact LeO.none _)
      | (with_reducible refine LeO.ite ?_ ?_)
      | (with_reducible refine LeO.bind ?_ (fun _ => ?_))
      | exact ih0 _ _ _ _
      | exact ih1 _ _ _ _ _ _ _ _
      | exact ih2 _ _ _ _ _ _ _ _ _
      | exact breaker_Step.mono _ _ _ _ _ _ _ _ _
      | exact substationlaw29_known.mono _
      | exact LeO.none _
      | refine LeO.ite ?_ ?_
      | refine LeO.bind ?_ (fun _ => ?_)
set_option maxHeartbeats 8000000 in
set_option maxRecDepth 100000 in
theorem substationlaw29_BreakerOpensInTime.calls (k : Nat) (a0 : Int) (A1 : Option Addr) (c1 : Nat) (l1 : List Bool) (A2 : Option Addr) (c2 : Nat) (l2 : List Bool) (r : Bool) (w : World) (hr1 : Kd.C Kd.bool w A1 l1.length l1) (hc1 : l1.length ≤ c1) (hr2 : Kd.C Kd.bool w A2 l2.length l2) (hc2 : l2.length ≤ c2) (h : substationlaw29_BreakerOpensInTime.f k a0 l1 l2 = some r) :
    Calls Try.prog 11 #[.int .i64 a0, .slice A1 l1.length c1, .slice A2 l2.length c2] w fun e w' => e = .returned (.bool r) ∧ Below w.heap.size w w' := by
  have hu36 := Try.underlying36
  have HR1 := Aside0.mk hr1
  have HC1 := Aside0.mk hc1
  clear hr1 hc1
  have HR2 := Aside0.mk hr2
  have HC2 := Aside0.mk hc2
  clear hr2 hc2
  have HB := Aside0.mk (Below.refl w.heap.size w)
  have H : (if a0 < 1 then (substationlaw29_BreakerOpensInTime.j0 k a0 l1 l2 true) else (if a0 > 6 then (substationlaw29_BreakerOpensInTime.j0 k a0 l1 l2 true) else (if (l1.length : Int) = (l2.length : Int) then (substationlaw29_BreakerOpensInTime.j0 k a0 l1 l2 (decide ((l1.length : Int) > 60))) else (substationlaw29_BreakerOpensInTime.j0 k a0 l1 l2 true)))) = some r := h
  clear h
  have HC4 := Aside0.mk H
  clear H
  go_enter Try.func11, Try.ntmps11
  go_upto_region 1 with (fail)
  repeat (go_quiet (fail); go_upto_region 1 with (fail))
  go_cut [28] (fun v28 wc => ∃ (kq : Nat) (x28_3 : Bool), v28 = .bool x28_3 ∧ Aside0 (substationlaw29_BreakerOpensInTime.j0 kq a0 l1 l2 x28_3 = some r) ∧ Aside0 (kq ≤ k) ∧ Aside0 (Below w.heap.size w wc))
  case first =>
    have H := HC4.out
    clear HC4
    by_cases c5 : a0 < 1
    · rw [if_pos c5] at H
      have c5b0 : decide (a0 < 1) = true := decide_eq_true c5
      clear c5
      (first | rw [c5b0] | (simp only [i64_w, i32_w]; rw [c5b0]) | skip)
      have H' := Aside0.mk H
      clear H
      go_wp2
      repeat (go_quiet (fail); try go_wp2)
      go_meet
      case rel => exact ⟨_, (true), (by first | rfl | (simp; done) | (simp [*]; done)), H', ⟨by first | omega | exact Nat.le_refl _⟩, ⟨by repeat (first | (with_reducible first | exact HB.out | apply below_alloc | apply pw_below_drewN | apply below_drew1) | exact HB.out)⟩⟩
    · rw [if_neg c5] at H
      have c5b0 : decide (a0 < 1) = false := decide_eq_false c5
      clear c5
      (first | rw [c5b0] | (simp only [i64_w, i32_w]; rw [c5b0]) | skip)
      by_cases c6 : a0 > 6
      · rw [if_pos c6] at H
        have c6b0 : decide (6 < a0) = true := decide_eq_true c6
        clear c6
        have H' := Aside0.mk H
        clear H
        go_wp2
        repeat (go_quiet (fail); try go_wp2)
        go_meet
        case rel => exact ⟨_, (true), (by first | rfl | (simp; done) | (simp [*]; done)), H', ⟨by first | omega | exact Nat.le_refl _⟩, ⟨by repeat (first | (with_reducible first | exact HB.out | apply below_alloc | apply pw_below_drewN | apply below_drew1) | exact HB.out)⟩⟩
      · rw [if_neg c6] at H
        have c6b0 : decide (6 < a0) = false := decide_eq_false c6
        clear c6
        by_cases c7 : (l1.length : Int) = (l2.length : Int)
        · rw [if_pos c7] at H
          have c7b0 : ((l1.length : Int) == (l2.length : Int)) = true := beq_iff_eq.mpr c7
          have c7b1 : ((l1.length : Int) != (l2.length : Int)) = false := bne_eq_false_iff_eq.mpr c7
          have c7b2 : (l1.length == l2.length) = true := by first | simpa using c7 | (simp at c7 ⊢; omega)
          clear c7
          have H' := Aside0.mk H
          clear H
          go_wp2
          repeat (go_quiet (fail); try go_wp2)
          go_meet
          case rel => exact ⟨_, (decide ((l1.length : Int) > 60)), (by first | rfl | (simp; done) | (simp [*]; done)), H', ⟨by first | omega | exact Nat.le_refl _⟩, ⟨by repeat (first | (with_reducible first | exact HB.out | apply below_alloc | apply pw_below_drewN | apply below_drew1) | exact HB.out)⟩⟩
        · rw [if_neg c7] at H
          have c7b0 : ((l1.length : Int) == (l2.length : Int)) = false := beq_eq_false_iff_ne.mpr c7
          have c7b1 : ((l1.length : Int) != (l2.length : Int)) = true := bne_iff_ne.mpr c7
          have c7b2 : (l1.length == l2.length) = false := by first | simpa using c7 | (simp at c7 ⊢; omega)
          have H' := Aside0.mk H
          clear H
          go_wp2
          repeat (go_quiet (fail); try go_wp2)
          go_meet
          case rel => exact ⟨_, (true), (by first | rfl | (simp; done) | (simp [*]; done)), H', ⟨by first | omega | exact Nat.le_refl _⟩, ⟨by repeat (first | (with_reducible first | exact HB.out | apply below_alloc | apply pw_below_drewN | apply below_drew1) | exact HB.out)⟩⟩
  case rest =>
    clear HC4
    try clear c1
    try clear c2
    try clear p2
    try clear c5
    try clear c5b0
    try clear c6
    try clear c6b0
    try clear c7
    try clear c7b0
    try clear c7b1
    try clear c7b2
    obtain ⟨kq, x28_3, rfl, HA, HJ3, HB⟩ := hcut
    cases kq with
    | zero => exact absurd HA.out (by simp [substationlaw29_BreakerOpensInTime.j0])
    | succ kj3 =>
      have H := HA.out
      clear HA
      simp only [substationlaw29_BreakerOpensInTime.j0] at H
      by_cases c8 : x28_3 = true
      · subst c8
        have H1 : ((substationlaw29_known.f kj3).bind fun t318 => (some t318)) = some r := by rw [if_pos rfl] at H; exact H
        clear H
        have H := H1
        clear H1
        replace H := Option.bind_eq_some_iff.mp H
        obtain ⟨t318, A90, H⟩ := H
        replace H : (some t318) = some r := H
        have A9 := Aside0.mk A90
        clear A90
        obtain rfl := Option.some.inj H
        go_wp2_with (first | (go_at_call 22; (with_reducible refine (substationlaw29_known.calls kj3  t318 _ A9.out).mono ?_); rintro e w10 ⟨rfl, hb⟩; have n0_ := Aside0.mk (below_step (by repeat (first | (with_reducible first | exact HB.out | apply below_alloc | apply pw_below_drewN | apply below_drew1) | exact HB.out)) hb); clear HB; have HB := n0_; clear n0_; (try clear hb); (try clear hb2); (try clear hk); (try clear hi)))
        repeat (go_quiet (first | (go_at_call 22; (with_reducible refine (substationlaw29_known.calls kj3  t318 _ A9.out).mono ?_); rintro e w10 ⟨rfl, hb⟩; have n0_ := Aside0.mk (below_step (by repeat (first | (with_reducible first | exact HB.out | apply below_alloc | apply pw_below_drewN | apply below_drew1) | exact HB.out)) hb); clear HB; have HB := n0_; clear n0_; (try clear hb); (try clear hb2); (try clear hk); (try clear hi))); try go_wp2_with (first | (go_at_call 22; (with_reducible refine (substationlaw29_known.calls kj3  t318 _ A9.out).mono ?_); rintro e w10 ⟨rfl, hb⟩; have n0_ := Aside0.mk (below_step (by repeat (first | (with_reducible first | exact HB.out | apply below_alloc | apply pw_below_drewN | apply below_drew1) | exact HB.out)) hb); clear HB; have HB := n0_; clear n0_; (try clear hb); (try clear hb2); (try clear hk); (try clear hi))))
        go_ret
        exact ⟨by first | rfl | (simp [errW_none, errW_some] <;> rfl) | (simp [*, errW_none, errW_some] <;> rfl), by repeat (first | (with_reducible first | exact HB.out | apply below_alloc | apply pw_below_drewN | apply below_drew1) | exact HB.out)⟩
      · replace c8 := Bool.eq_false_iff.mpr c8
        subst c8
        have H1 : ((breaker_New.f true).bind fun bt319 => ((breaker_Step.f kj3 bt319.1 bt319.2.1 bt319.2.2.1 bt319.2.2.2 a0 false true false).bind fun bt323 => (substationlaw29_BreakerOpensInTime.l0 kj3 a0 l1 l2 0 bt323.1 bt323.2.1 bt323.2.2.1 bt323.2.2.2))) = some r := by rw [if_neg (show ¬ (false = true) by decide)] at H; exact H
        clear H
        have H := H1
        clear H1
        replace H := Option.bind_eq_some_iff.mp H
        obtain ⟨⟨t319, t320, t321, t322⟩, A110, H⟩ := H
        replace H : ((breaker_Step.f kj3 t319 t320 t321 t322 a0 false true false).bind fun bt323 => (substationlaw29_BreakerOpensInTime.l0 kj3 a0 l1 l2 0 bt323.1 bt323.2.1 bt323.2.2.1 bt323.2.2.2)) = some r := H
        have A11 := Aside0.mk A110
        clear A110
        replace H := Option.bind_eq_some_iff.mp H
        obtain ⟨⟨t323, t324, t325, t326⟩, A120, H⟩ := H
        replace H : (substationlaw29_BreakerOpensInTime.l0 kj3 a0 l1 l2 0 t323 t324 t325 t326) = some r := H
        have A12 := Aside0.mk A120
        clear A120
        have H' := Aside0.mk H
        clear H
        go_wp2_with (first | (go_at_call 19; (with_reducible refine (breaker_New.calls true t319 t320 t321 t322 _ A11.out).mono ?_); rintro e w13 ⟨rfl, hb⟩; have n0_ := Aside0.mk (below_step (by repeat (first | (with_reducible first | exact HB.out | apply below_alloc | apply pw_below_drewN | apply below_drew1) | exact HB.out)) hb); clear HB; have HB := n0_; clear n0_; (try clear hb); (try clear hb2); (try clear hk); (try clear hi)) | (go_at_call 20; (with_reducible refine (breaker_Step.calls kj3 t319 t320 t321 t322 a0 false true false t323 t324 t325 t326 _ A12.out).mono ?_); rintro e w14 ⟨rfl, hb⟩; have n0_ := Aside0.mk (below_step (by repeat (first | (with_reducible first | exact HB.out | apply below_alloc | apply pw_below_drewN | apply below_drew1) | exact HB.out)) hb); clear HB; have HB := n0_; clear n0_; (try clear hb); (try clear hb2); (try clear hk); (try clear hi)) | ((with_reducible refine gate_dst (N := 7) rfl ?_); (try (refine gate_guard (by rfl) ?_; dsimp only)); refine box_event ?hg (N := 7) ?hd (cs := #[.bool false, .bool false, .int .i64 0, .bool false]) (t := 36) ?hr ?_; (case hd => rfl); (case hg => rfl); (case hr => first | (go_simp; done) | (go_simp; rfl)); intro gb327 hg w15 hbox hb; have n0_ := Aside0.mk (below_step (by repeat (first | (with_reducible first | exact HB.out | apply below_alloc | apply pw_below_drewN | apply below_drew1) | exact HB.out)) hb); have n1_ := Aside0.mk (hbox); have n2_ := Aside0.mk ((by rw [hg]; exact (below_size (by repeat (first | (with_reducible first | exact HB.out | apply below_alloc | apply pw_below_drewN | apply below_drew1) | exact HB.out))) : w.heap.size ≤ gb327)); have n3_ := Aside0.mk ((by rw [hg]; exact (below_size (by repeat (first | (with_reducible first | exact HB.out | apply below_alloc | apply pw_below_drewN | apply below_drew1) | exact HB.out))) : w.heap.size ≤ gb327)); clear HB; have HB := n0_; have BK327 := n1_; have GW327 := n2_; have GE327 := n3_; clear n0_ n1_ n2_ n3_; clear hb hbox hg; have hcz16_0 : w15.cell? ⟨gb327, 0, none⟩ = some (.bool false) := (blk_cell BK327.out 0).trans rfl; have hcz16_1 : w15.cell? ⟨gb327, 1, none⟩ = some (.bool false) := (blk_cell BK327.out 1).trans rfl; have hcz16_2 : w15.cell? ⟨gb327, 2, none⟩ = some (.int .i64 0) := (blk_cell BK327.out 2).trans rfl; have hcz16_3 : w15.cell? ⟨gb327, 3, none⟩ = some (.bool false) := (blk_cell BK327.out 3).trans rfl; have hfz16_0 := blk_frozen BK327.out 0; have hfz16_1 := blk_frozen BK327.out 1; have hfz16_2 := blk_frozen BK327.out 2; have hfz16_3 := blk_frozen BK327.out 3))
        repeat (go_quiet (first | (go_at_call 19; (with_reducible refine (breaker_New.calls true t319 t320 t321 t322 _ A11.out).mono ?_); rintro e w13 ⟨rfl, hb⟩; have n0_ := Aside0.mk (below_step (by repeat (first | (with_reducible first | exact HB.out | apply below_alloc | apply pw_below_drewN | apply below_drew1) | exact HB.out)) hb); clear HB; have HB := n0_; clear n0_; (try clear hb); (try clear hb2); (try clear hk); (try clear hi)) | (go_at_call 20; (with_reducible refine (breaker_Step.calls kj3 t319 t320 t321 t322 a0 false true false t323 t324 t325 t326 _ A12.out).mono ?_); rintro e w14 ⟨rfl, hb⟩; have n0_ := Aside0.mk (below_step (by repeat (first | (with_reducible first | exact HB.out | apply below_alloc | apply pw_below_drewN | apply below_drew1) | exact HB.out)) hb); clear HB; have HB := n0_; clear n0_; (try clear hb); (try clear hb2); (try clear hk); (try clear hi)) | ((with_reducible refine gate_dst (N := 7) rfl ?_); (try (refine gate_guard (by rfl) ?_; dsimp only)); refine box_event ?hg (N := 7) ?hd (cs := #[.bool false, .bool false, .int .i64 0, .bool false]) (t := 36) ?hr ?_; (case hd => rfl); (case hg => rfl); (case hr => first | (go_simp; done) | (go_simp; rfl)); intro gb327 hg w15 hbox hb; have n0_ := Aside0.mk (below_step (by repeat (first | (with_reducible first | exact HB.out | apply below_alloc | apply pw_below_drewN | apply below_drew1) | exact HB.out)) hb); have n1_ := Aside0.mk (hbox); have n2_ := Aside0.mk ((by rw [hg]; exact (below_size (by repeat (first | (with_reducible first | exact HB.out | apply below_alloc | apply pw_below_drewN | apply below_drew1) | exact HB.out))) : w.heap.size ≤ gb327)); have n3_ := Aside0.mk ((by rw [hg]; exact (below_size (by repeat (first | (with_reducible first | exact HB.out | apply below_alloc | apply pw_below_drewN | apply below_drew1) | exact HB.out))) : w.heap.size ≤ gb327)); clear HB; have HB := n0_; have BK327 := n1_; have GW327 := n2_; have GE327 := n3_; clear n0_ n1_ n2_ n3_; clear hb hbox hg; have hcz16_0 : w15.cell? ⟨gb327, 0, none⟩ = some (.bool false) := (blk_cell BK327.out 0).trans rfl; have hcz16_1 : w15.cell? ⟨gb327, 1, none⟩ = some (.bool false) := (blk_cell BK327.out 1).trans rfl; have hcz16_2 : w15.cell? ⟨gb327, 2, none⟩ = some (.int .i64 0) := (blk_cell BK327.out 2).trans rfl; have hcz16_3 : w15.cell? ⟨gb327, 3, none⟩ = some (.bool false) := (blk_cell BK327.out 3).trans rfl; have hfz16_0 := blk_frozen BK327.out 0; have hfz16_1 := blk_frozen BK327.out 1; have hfz16_2 := blk_frozen BK327.out 2; have hfz16_3 := blk_frozen BK327.out 3)); try go_wp2_with (first | (go_at_call 19; (with_reducible refine (breaker_New.calls true t319 t320 t321 t322 _ A11.out).mono ?_); rintro e w13 ⟨rfl, hb⟩; have n0_ := Aside0.mk (below_step (by repeat (first | (with_reducible first | exact HB.out | apply below_alloc | apply pw_below_drewN | apply below_drew1) | exact HB.out)) hb); clear HB; have HB := n0_; clear n0_; (try clear hb); (try clear hb2); (try clear hk); (try clear hi)) | (go_at_call 20; (with_reducible refine (breaker_Step.calls kj3 t319 t320 t321 t322 a0 false true false t323 t324 t325 t326 _ A12.out).mono ?_); rintro e w14 ⟨rfl, hb⟩; have n0_ := Aside0.mk (below_step (by repeat (first | (with_reducible first | exact HB.out | apply below_alloc | apply pw_below_drewN | apply below_drew1) | exact HB.out)) hb); clear HB; have HB := n0_; clear n0_; (try clear hb); (try clear hb2); (try clear hk); (try clear hi)) | ((with_reducible refine gate_dst (N := 7) rfl ?_); (try (refine gate_guard (by rfl) ?_; dsimp only)); refine box_event ?hg (N := 7) ?hd (cs := #[.bool false, .bool false, .int .i64 0, .bool false]) (t := 36) ?hr ?_; (case hd => rfl); (case hg => rfl); (case hr => first | (go_simp; done) | (go_simp; rfl)); intro gb327 hg w15 hbox hb; have n0_ := Aside0.mk (below_step (by repeat (first | (with_reducible first | exact HB.out | apply below_alloc | apply pw_below_drewN | apply below_drew1) | exact HB.out)) hb); have n1_ := Aside0.mk (hbox); have n2_ := Aside0.mk ((by rw [hg]; exact (below_size (by repeat (first | (with_reducible first | exact HB.out | apply below_alloc | apply pw_below_drewN | apply below_drew1) | exact HB.out))) : w.heap.size ≤ gb327)); have n3_ := Aside0.mk ((by rw [hg]; exact (below_size (by repeat (first | (with_reducible first | exact HB.out | apply below_alloc | apply pw_below_drewN | apply below_drew1) | exact HB.out))) : w.heap.size ≤ gb327)); clear HB; have HB := n0_; have BK327 := n1_; have GW327 := n2_; have GE327 := n3_; clear n0_ n1_ n2_ n3_; clear hb hbox hg; have hcz16_0 : w15.cell? ⟨gb327, 0, none⟩ = some (.bool false) := (blk_cell BK327.out 0).trans rfl; have hcz16_1 : w15.cell? ⟨gb327, 1, none⟩ = some (.bool false) := (blk_cell BK327.out 1).trans rfl; have hcz16_2 : w15.cell? ⟨gb327, 2, none⟩ = some (.int .i64 0) := (blk_cell BK327.out 2).trans rfl; have hcz16_3 : w15.cell? ⟨gb327, 3, none⟩ = some (.bool false) := (blk_cell BK327.out 3).trans rfl; have hfz16_0 := blk_frozen BK327.out 0; have hfz16_1 := blk_frozen BK327.out 1; have hfz16_2 := blk_frozen BK327.out 2; have hfz16_3 := blk_frozen BK327.out 3)))
        go_loopg [8] kj3 (fun kq v8 w' => ∃ (x8_2 : Int) (x328000_2 : Bool) (x328001_2 : Bool) (x328002_2 : Int) (x328003_2 : Bool), v8 = .int .i64 x8_2 ∧ Aside0 (substationlaw29_BreakerOpensInTime.l0 kq a0 l1 l2 x8_2 x328000_2 x328001_2 x328002_2 x328003_2 = some r) ∧ Aside0 (kq ≤ kj3) ∧ Aside0 (w'.heap[gb327]? = some (.cells #[.bool x328000_2, .bool x328001_2, .int .i64 x328002_2, .bool x328003_2] 36 (0, 0))) ∧ Aside0 (Below w.heap.size w w'))
        case atStart => exact ⟨(0), (t323), (t324), (t325), (t326), (by first | rfl | (simp; done) | (simp [*]; done)), H', ⟨Nat.le_refl _⟩, ⟨by (with_reducible repeat (first | refine blk_drewN ?_ _ | refine blk_drew ?_ | refine blk_alloc ?_ _)); refine blk_put (cs := #[.bool t323, .bool t324, .int .i64 t325, .bool false]) ?_ 3 _ rfl; (with_reducible repeat (first | refine blk_drewN ?_ _ | refine blk_drew ?_ | refine blk_alloc ?_ _)); refine blk_put (cs := #[.bool t323, .bool t324, .int .i64 0, .bool false]) ?_ 2 _ rfl; (with_reducible repeat (first | refine blk_drewN ?_ _ | refine blk_drew ?_ | refine blk_alloc ?_ _)); refine blk_put (cs := #[.bool t323, .bool false, .int .i64 0, .bool false]) ?_ 1 _ rfl; (with_reducible repeat (first | refine blk_drewN ?_ _ | refine blk_drew ?_ | refine blk_alloc ?_ _)); refine blk_put (cs := #[.bool false, .bool false, .int .i64 0, .bool false]) ?_ 0 _ rfl; (with_reducible repeat (first | refine blk_drewN ?_ _ | refine blk_drew ?_ | refine blk_alloc ?_ _)); exact BK327.out⟩, ⟨by repeat (first | (with_reducible first | exact HB.out | apply below_alloc | apply pw_below_drewN | apply below_drew1 | refine below_set ?_ GE327.out) | exact HB.out)⟩⟩
        case round =>
          clear H'
          try clear c1
          try clear c2
          try clear p2
          try clear c5
          try clear c5b0
          try clear c6
          try clear c6b0
          try clear c7
          try clear c7b0
          try clear c7b1
          try clear c7b2
          try clear c8
          try clear c11
          try clear hcz16_0
          try clear hcz16_1
          try clear hcz16_2
          try clear hcz16_3
          try clear hfz16_0
          try clear hfz16_1
          try clear hfz16_2
          try clear hfz16_3
          try clear p2
          obtain ⟨x8_2, x328000_2, x328001_2, x328002_2, x328003_2, rfl, HA, HK2, BK327, HB⟩ := hrel
          cases gk with
          | zero => exact absurd HA.out (by simp [substationlaw29_BreakerOpensInTime.l0])
          | succ k2 =>
            have H := HA.out
            clear HA
            simp only [substationlaw29_BreakerOpensInTime.l0] at H
            by_cases c17 : x8_2 < a0
            · rw [if_pos c17] at H
              have c17b0 : decide (x8_2 < a0) = true := decide_eq_true c17
              clear c17
              have HC18 := Aside0.mk H
              clear H
              go_upto_region 7 with (fail)
              repeat (go_quiet (fail); go_upto_region 7 with (fail))
              go_cut [53] (fun v53 wc => ∃ (kq : Nat) (x53_17 : Bool), v53 = .bool x53_17 ∧ Aside0 (substationlaw29_BreakerOpensInTime.j2 kq a0 l1 l2 x8_2 x53_17 x328000_2 x328001_2 x328002_2 x328003_2 = some r) ∧ Aside0 (kq ≤ k2) ∧ Aside0 (wc.heap[gb327]? = some (.cells #[.bool x328000_2, .bool x328001_2, .int .i64 x328002_2, .bool x328003_2] 36 (0, 0))) ∧ Aside0 (Below w.heap.size w wc))
              case first =>
                have H := HC18.out
                clear HC18
                by_cases c19 : x328000_2 = true
                · subst c19
                  have H1 : (if x328003_2 = true then (substationlaw29_BreakerOpensInTime.j2 k2 a0 l1 l2 x8_2 (x328002_2 != (wrap64 (a0 - x8_2))) true x328001_2 x328002_2 x328003_2) else (substationlaw29_BreakerOpensInTime.j2 k2 a0 l1 l2 x8_2 true true x328001_2 x328002_2 x328003_2)) = some r := by rw [if_pos rfl] at H; exact H
                  clear H
                  have H := H1
                  clear H1
                  by_cases c20 : x328003_2 = true
                  · subst c20
                    have H1 : (substationlaw29_BreakerOpensInTime.j2 k2 a0 l1 l2 x8_2 (x328002_2 != (wrap64 (a0 - x8_2))) true x328001_2 x328002_2 true) = some r := by rw [if_pos rfl] at H; exact H
                    clear H
                    have H := H1
                    clear H1
                    have H' := Aside0.mk H
                    clear H
                    have hcz21_0 : wr.cell? ⟨gb327, 0, none⟩ = some (.bool true) := (blk_cell BK327.out 0).trans rfl
                    have hcz21_1 : wr.cell? ⟨gb327, 1, none⟩ = some (.bool x328001_2) := (blk_cell BK327.out 1).trans rfl
                    have hcz21_2 : wr.cell? ⟨gb327, 2, none⟩ = some (.int .i64 x328002_2) := (blk_cell BK327.out 2).trans rfl
                    have hcz21_3 : wr.cell? ⟨gb327, 3, none⟩ = some (.bool true) := (blk_cell BK327.out 3).trans rfl
                    have hfz21_0 := blk_frozen BK327.out 0
                    have hfz21_1 := blk_frozen BK327.out 1
                    have hfz21_2 := blk_frozen BK327.out 2
                    have hfz21_3 := blk_frozen BK327.out 3
                    go_wp2
                    repeat (go_quiet (fail); try go_wp2)
                    go_meet
                    case rel => exact ⟨_, ((x328002_2 != (wrap64 (a0 - x8_2)))), (by first | rfl | (simp; done) | (simp [*]; done)), H', ⟨by have := HJ3.out; have := HK2.out; first | omega | exact Nat.le_refl _⟩, ⟨by (with_reducible repeat (first | refine blk_drewN ?_ _ | refine blk_drew ?_ | refine blk_alloc ?_ _)); exact BK327.out⟩, ⟨by repeat (first | (with_reducible first | exact HB.out | apply below_alloc | apply pw_below_drewN | apply below_drew1 | refine below_set ?_ GE327.out) | exact HB.out)⟩⟩
                  · replace c20 := Bool.eq_false_iff.mpr c20
                    subst c20
                    have H1 : (substationlaw29_BreakerOpensInTime.j2 k2 a0 l1 l2 x8_2 true true x328001_2 x328002_2 false) = some r := by rw [if_neg (show ¬ (false = true) by decide)] at H; exact H
                    clear H
                    have H := H1
                    clear H1
                    have H' := Aside0.mk H
                    clear H
                    have hcz22_0 : wr.cell? ⟨gb327, 0, none⟩ = some (.bool true) := (blk_cell BK327.out 0).trans rfl
                    have hcz22_1 : wr.cell? ⟨gb327, 1, none⟩ = some (.bool x328001_2) := (blk_cell BK327.out 1).trans rfl
                    have hcz22_2 : wr.cell? ⟨gb327, 2, none⟩ = some (.int .i64 x328002_2) := (blk_cell BK327.out 2).trans rfl
                    have hcz22_3 : wr.cell? ⟨gb327, 3, none⟩ = some (.bool false) := (blk_cell BK327.out 3).trans rfl
                    have hfz22_0 := blk_frozen BK327.out 0
                    have hfz22_1 := blk_frozen BK327.out 1
                    have hfz22_2 := blk_frozen BK327.out 2
                    have hfz22_3 := blk_frozen BK327.out 3
                    go_wp2
                    repeat (go_quiet (fail); try go_wp2)
                    go_meet
                    case rel => exact ⟨_, (true), (by first | rfl | (simp; done) | (simp [*]; done)), H', ⟨by have := HJ3.out; have := HK2.out; first | omega | exact Nat.le_refl _⟩, ⟨by (with_reducible repeat (first | refine blk_drewN ?_ _ | refine blk_drew ?_ | refine blk_alloc ?_ _)); exact BK327.out⟩, ⟨by repeat (first | (with_reducible first | exact HB.out | apply below_alloc | apply pw_below_drewN | apply below_drew1 | refine below_set ?_ GE327.out) | exact HB.out)⟩⟩
                · replace c19 := Bool.eq_false_iff.mpr c19
                  subst c19
                  have H1 : (substationlaw29_BreakerOpensInTime.j2 k2 a0 l1 l2 x8_2 true false x328001_2 x328002_2 x328003_2) = some r := by rw [if_neg (show ¬ (false = true) by decide)] at H; exact H
                  clear H
                  have H := H1
                  clear H1
                  have H' := Aside0.mk H
                  clear H
                  have hcz23_0 : wr.cell? ⟨gb327, 0, none⟩ = some (.bool false) := (blk_cell BK327.out 0).trans rfl
                  have hcz23_1 : wr.cell? ⟨gb327, 1, none⟩ = some (.bool x328001_2) := (blk_cell BK327.out 1).trans rfl
                  have hcz23_2 : wr.cell? ⟨gb327, 2, none⟩ = some (.int .i64 x328002_2) := (blk_cell BK327.out 2).trans rfl
                  have hcz23_3 : wr.cell? ⟨gb327, 3, none⟩ = some (.bool x328003_2) := (blk_cell BK327.out 3).trans rfl
                  have hfz23_0 := blk_frozen BK327.out 0
                  have hfz23_1 := blk_frozen BK327.out 1
                  have hfz23_2 := blk_frozen BK327.out 2
                  have hfz23_3 := blk_frozen BK327.out 3
                  go_wp2
                  repeat (go_quiet (fail); try go_wp2)
                  go_meet
                  case rel => exact ⟨_, (true), (by first | rfl | (simp; done) | (simp [*]; done)), H', ⟨by have := HJ3.out; have := HK2.out; first | omega | exact Nat.le_refl _⟩, ⟨by (with_reducible repeat (first | refine blk_drewN ?_ _ | refine blk_drew ?_ | refine blk_alloc ?_ _)); exact BK327.out⟩, ⟨by repeat (first | (with_reducible first | exact HB.out | apply below_alloc | apply pw_below_drewN | apply below_drew1 | refine below_set ?_ GE327.out) | exact HB.out)⟩⟩
              case rest =>
                clear HC18
                try clear c1
                try clear c2
                try clear p2
                try clear c5
                try clear c5b0
                try clear c6
                try clear c6b0
                try clear p6
                try clear c7
                try clear c7b0
                try clear c7b1
                try clear c7b2
                try clear c8
                try clear c11
                try clear c17
                try clear c17b0
                try clear c19
                try clear c20
                try clear hcz16_0
                try clear hcz16_1
                try clear hcz16_2
                try clear hcz16_3
                try clear hcz21_0
                try clear hcz21_1
                try clear hcz21_2
                try clear hcz21_3
                try clear hcz22_0
                try clear hcz22_1
                try clear hcz22_2
                try clear hcz22_3
                try clear hcz23_0
                try clear hcz23_1
                try clear hcz23_2
                try clear hcz23_3
                try clear hfz16_0
                try clear hfz16_1
                try clear hfz16_2
                try clear hfz16_3
                try clear hfz21_0
                try clear hfz21_1
                try clear hfz21_2
                try clear hfz21_3
                try clear hfz22_0
                try clear hfz22_1
                try clear hfz22_2
                try clear hfz22_3
                try clear hfz23_0
                try clear hfz23_1
                try clear hfz23_2
                try clear hfz23_3
                try clear p2
                obtain ⟨kq, x53_17, rfl, HA, HJ17, BK327, HB⟩ := hcut
                cases kq with
                | zero => exact absurd HA.out (by simp [substationlaw29_BreakerOpensInTime.j2])
                | succ kj17 =>
                  have H := HA.out
                  clear HA
                  simp only [substationlaw29_BreakerOpensInTime.j2] at H
                  by_cases c24 : x53_17 = true
                  · subst c24
                    have H1 : (some false) = some r := by rw [if_pos rfl] at H; exact H
                    clear H
                    have H := H1
                    clear H1
                    obtain rfl := Option.some.inj H
                    go_wp2
                    repeat (go_quiet (fail); try go_wp2)
                    go_ret
                    exact ⟨by first | rfl | (simp [errW_none, errW_some] <;> rfl) | (simp [*, errW_none, errW_some] <;> rfl), by repeat (first | (with_reducible first | exact HB.out | apply below_alloc | apply pw_below_drewN | apply below_drew1 | refine below_set ?_ GE327.out) | exact HB.out)⟩
                  · replace c24 := Bool.eq_false_iff.mpr c24
                    subst c24
                    have H1 : (if x8_2 < (l1.length : Int) then (if 0 ≤ x8_2 then (if x8_2 < (l2.length : Int) then (if x8_2 = (wrap64 (a0 - 1)) then ((breaker_Step.f kj17 x328000_2 x328001_2 x328002_2 x328003_2 a0 false (rdOf false l1 x8_2) false).bind fun bt331 => (substationlaw29_BreakerOpensInTime.l0 kj17 a0 l1 l2 (wrap64 (x8_2 + 1)) bt331.1 bt331.2.1 bt331.2.2.1 bt331.2.2.2)) else ((breaker_Step.f kj17 x328000_2 x328001_2 x328002_2 x328003_2 a0 false (rdOf false l1 x8_2) (rdOf false l2 x8_2)).bind fun bt335 => (substationlaw29_BreakerOpensInTime.l0 kj17 a0 l1 l2 (wrap64 (x8_2 + 1)) bt335.1 bt335.2.1 bt335.2.2.1 bt335.2.2.2))) else (if x8_2 = (wrap64 (a0 - 1)) then ((breaker_Step.f kj17 x328000_2 x328001_2 x328002_2 x328003_2 a0 false (rdOf false l1 x8_2) false).bind fun bt339 => (substationlaw29_BreakerOpensInTime.l0 kj17 a0 l1 l2 (wrap64 (x8_2 + 1)) bt339.1 bt339.2.1 bt339.2.2.1 bt339.2.2.2)) else ((breaker_Step.f kj17 x328000_2 x328001_2 x328002_2 x328003_2 a0 false (rdOf false l1 x8_2) false).bind fun bt343 => (substationlaw29_BreakerOpensInTime.l0 kj17 a0 l1 l2 (wrap64 (x8_2 + 1)) bt343.1 bt343.2.1 bt343.2.2.1 bt343.2.2.2)))) else (none)) else (if x8_2 < (l2.length : Int) then (if 0 ≤ x8_2 then (if x8_2 = (wrap64 (a0 - 1)) then ((breaker_Step.f kj17 x328000_2 x328001_2 x328002_2 x328003_2 a0 false false false).bind fun bt348 => (substationlaw29_BreakerOpensInTime.l0 kj17 a0 l1 l2 (wrap64 (x8_2 + 1)) bt348.1 bt348.2.1 bt348.2.2.1 bt348.2.2.2)) else ((breaker_Step.f kj17 x328000_2 x328001_2 x328002_2 x328003_2 a0 false false (rdOf false l2 x8_2)).bind fun bt352 => (substationlaw29_BreakerOpensInTime.l0 kj17 a0 l1 l2 (wrap64 (x8_2 + 1)) bt352.1 bt352.2.1 bt352.2.2.1 bt352.2.2.2))) else (none)) else (if x8_2 = (wrap64 (a0 - 1)) then ((breaker_Step.f kj17 x328000_2 x328001_2 x328002_2 x328003_2 a0 false false false).bind fun bt356 => (substationlaw29_BreakerOpensInTime.l0 kj17 a0 l1 l2 (wrap64 (x8_2 + 1)) bt356.1 bt356.2.1 bt356.2.2.1 bt356.2.2.2)) else ((breaker_Step.f kj17 x328000_2 x328001_2 x328002_2 x328003_2 a0 false false false).bind fun bt360 => (substationlaw29_BreakerOpensInTime.l0 kj17 a0 l1 l2 (wrap64 (x8_2 + 1)) bt360.1 bt360.2.1 bt360.2.2.1 bt360.2.2.2))))) = some r := by rw [if_neg (show ¬ (false = true) by decide)] at H; exact H
                    clear H
                    have H := H1
                    clear H1
                    by_cases c25 : x8_2 < (l1.length : Int)
                    · rw [if_pos c25] at H
                      have c25b0 : decide (x8_2 < (l1.length : Int)) = true := decide_eq_true c25
                      clear c25
                      by_cases c26 : 0 ≤ x8_2
                      · rw [if_pos c26] at H
                        have c26b0 : decide (0 ≤ x8_2) = true := decide_eq_true c26
                        clear c26
                        by_cases c27 : x8_2 < (l2.length : Int)
                        · rw [if_pos c27] at H
                          have c27b0 : decide (x8_2 < (l2.length : Int)) = true := decide_eq_true c27
                          clear c27
                          by_cases c28 : x8_2 = (wrap64 (a0 - 1))
                          · rw [if_pos c28] at H
                            have c28b0 : (x8_2 == (wrap64 (a0 - 1))) = true := beq_iff_eq.mpr c28
                            have c28b1 : (x8_2 != (wrap64 (a0 - 1))) = false := bne_eq_false_iff_eq.mpr c28
                            clear c28
                            replace H := Option.bind_eq_some_iff.mp H
                            obtain ⟨⟨t331, t332, t333, t334⟩, A290, H⟩ := H
                            replace H : (substationlaw29_BreakerOpensInTime.l0 kj17 a0 l1 l2 (wrap64 (x8_2 + 1)) t331 t332 t333 t334) = some r := H
                            have A29 := Aside0.mk A290
                            clear A290
                            have H' := Aside0.mk H
                            clear H
                            have p329 : 0 ≤ (x8_2 : Int) := of_decide_eq_true (by first | (with_reducible assumption) | assumption)
                            have q329 : x8_2 < (l1.length : Int) := of_decide_eq_true (by first | (with_reducible assumption) | assumption)
                            obtain ⟨ad329, e329, hx329_0⟩ := Kd.at_bool HR1.out x8_2 p329 q329
                            cases e329
                            replace hx329_0 := (HB.out.cell (World.block_lt_of_cell? w _ hx329_0)).trans hx329_0
                            replace p329 := eq_true p329
                            replace q329 := eq_true q329
                            have p330 : 0 ≤ (x8_2 : Int) := of_decide_eq_true (by first | (with_reducible assumption) | assumption)
                            have q330 : x8_2 < (l2.length : Int) := of_decide_eq_true (by first | (with_reducible assumption) | assumption)
                            obtain ⟨ad330, e330, hx330_0⟩ := Kd.at_bool HR2.out x8_2 p330 q330
                            cases e330
                            replace hx330_0 := (HB.out.cell (World.block_lt_of_cell? w _ hx330_0)).trans hx330_0
                            replace p330 := eq_true p330
                            replace q330 := eq_true q330
                            have hcz30_0 : wc.cell? ⟨gb327, 0, none⟩ = some (.bool x328000_2) := (blk_cell BK327.out 0).trans rfl
                            have hcz30_1 : wc.cell? ⟨gb327, 1, none⟩ = some (.bool x328001_2) := (blk_cell BK327.out 1).trans rfl
                            have hcz30_2 : wc.cell? ⟨gb327, 2, none⟩ = some (.int .i64 x328002_2) := (blk_cell BK327.out 2).trans rfl
                            have hcz30_3 : wc.cell? ⟨gb327, 3, none⟩ = some (.bool x328003_2) := (blk_cell BK327.out 3).trans rfl
                            have hfz30_0 := blk_frozen BK327.out 0
                            have hfz30_1 := blk_frozen BK327.out 1
                            have hfz30_2 := blk_frozen BK327.out 2
                            have hfz30_3 := blk_frozen BK327.out 3
                            go_wp2_with (first | (go_at_call 20; (with_reducible refine (breaker_Step.calls kj17 x328000_2 x328001_2 x328002_2 x328003_2 a0 false (rdOf false l1 x8_2) false t331 t332 t333 t334 _ A29.out).mono ?_); rintro e w31 ⟨rfl, hb⟩; have n0_ := Aside0.mk (blk_below (g := gb327) (o := .cells #[.bool x328000_2, .bool x328001_2, .int .i64 x328002_2, .bool x328003_2] 36 (0, 0)) (by (with_reducible repeat (first | refine blk_drewN ?_ _ | refine blk_drew ?_ | refine blk_alloc ?_ _)); exact BK327.out) hb); have n1_ := Aside0.mk (below_step (by repeat (first | (with_reducible first | exact HB.out | apply below_alloc | apply pw_below_drewN | apply below_drew1 | refine below_set ?_ GE327.out) | exact HB.out)) hb); clear BK327; clear HB; have BK327 := n0_; have HB := n1_; clear n0_ n1_; (try clear hb); (try clear hb2); (try clear hk); (try clear hi); have hcz32_0 : w31.cell? ⟨gb327, 0, none⟩ = some (.bool x328000_2) := (blk_cell BK327.out 0).trans rfl; have hcz32_1 : w31.cell? ⟨gb327, 1, none⟩ = some (.bool x328001_2) := (blk_cell BK327.out 1).trans rfl; have hcz32_2 : w31.cell? ⟨gb327, 2, none⟩ = some (.int .i64 x328002_2) := (blk_cell BK327.out 2).trans rfl; have hcz32_3 : w31.cell? ⟨gb327, 3, none⟩ = some (.bool x328003_2) := (blk_cell BK327.out 3).trans rfl; have hfz32_0 := blk_frozen BK327.out 0; have hfz32_1 := blk_frozen BK327.out 1; have hfz32_2 := blk_frozen BK327.out 2; have hfz32_3 := blk_frozen BK327.out 3))
                            repeat (go_quiet (first | (go_at_call 20; (with_reducible refine (breaker_Step.calls kj17 x328000_2 x328001_2 x328002_2 x328003_2 a0 false (rdOf false l1 x8_2) false t331 t332 t333 t334 _ A29.out).mono ?_); rintro e w31 ⟨rfl, hb⟩; have n0_ := Aside0.mk (blk_below (g := gb327) (o := .cells #[.bool x328000_2, .bool x328001_2, .int .i64 x328002_2, .bool x328003_2] 36 (0, 0)) (by (with_reducible repeat (first | refine blk_drewN ?_ _ | refine blk_drew ?_ | refine blk_alloc ?_ _)); exact BK327.out) hb); have n1_ := Aside0.mk (below_step (by repeat (first | (with_reducible first | exact HB.out | apply below_alloc | apply pw_below_drewN | apply below_drew1 | refine below_set ?_ GE327.out) | exact HB.out)) hb); clear BK327; clear HB; have BK327 := n0_; have HB := n1_; clear n0_ n1_; (try clear hb); (try clear hb2); (try clear hk); (try clear hi); have hcz32_0 : w31.cell? ⟨gb327, 0, none⟩ = some (.bool x328000_2) := (blk_cell BK327.out 0).trans rfl; have hcz32_1 : w31.cell? ⟨gb327, 1, none⟩ = some (.bool x328001_2) := (blk_cell BK327.out 1).trans rfl; have hcz32_2 : w31.cell? ⟨gb327, 2, none⟩ = some (.int .i64 x328002_2) := (blk_cell BK327.out 2).trans rfl; have hcz32_3 : w31.cell? ⟨gb327, 3, none⟩ = some (.bool x328003_2) := (blk_cell BK327.out 3).trans rfl; have hfz32_0 := blk_frozen BK327.out 0; have hfz32_1 := blk_frozen BK327.out 1; have hfz32_2 := blk_frozen BK327.out 2; have hfz32_3 := blk_frozen BK327.out 3)); try go_wp2_with (first | (go_at_call 20; (with_reducible refine (breaker_Step.calls kj17 x328000_2 x328001_2 x328002_2 x328003_2 a0 false (rdOf false l1 x8_2) false t331 t332 t333 t334 _ A29.out).mono ?_); rintro e w31 ⟨rfl, hb⟩; have n0_ := Aside0.mk (blk_below (g := gb327) (o := .cells #[.bool x328000_2, .bool x328001_2, .int .i64 x328002_2, .bool x328003_2] 36 (0, 0)) (by (with_reducible repeat (first | refine blk_drewN ?_ _ | refine blk_drew ?_ | refine blk_alloc ?_ _)); exact BK327.out) hb); have n1_ := Aside0.mk (below_step (by repeat (first | (with_reducible first | exact HB.out | apply below_alloc | apply pw_below_drewN | apply below_drew1 | refine below_set ?_ GE327.out) | exact HB.out)) hb); clear BK327; clear HB; have BK327 := n0_; have HB := n1_; clear n0_ n1_; (try clear hb); (try clear hb2); (try clear hk); (try clear hi); have hcz32_0 : w31.cell? ⟨gb327, 0, none⟩ = some (.bool x328000_2) := (blk_cell BK327.out 0).trans rfl; have hcz32_1 : w31.cell? ⟨gb327, 1, none⟩ = some (.bool x328001_2) := (blk_cell BK327.out 1).trans rfl; have hcz32_2 : w31.cell? ⟨gb327, 2, none⟩ = some (.int .i64 x328002_2) := (blk_cell BK327.out 2).trans rfl; have hcz32_3 : w31.cell? ⟨gb327, 3, none⟩ = some (.bool x328003_2) := (blk_cell BK327.out 3).trans rfl; have hfz32_0 := blk_frozen BK327.out 0; have hfz32_1 := blk_frozen BK327.out 1; have hfz32_2 := blk_frozen BK327.out 2; have hfz32_3 := blk_frozen BK327.out 3)))
                            go_roundg kj17
                            case measure => have := HJ3.out; have := HK2.out; have := HJ17.out; omega
                            case rel => exact ⟨(wrap64 (x8_2 + 1)), (t331), (t332), (t333), (t334), (by first | rfl | (simp; done) | (simp [*]; done)), H', ⟨by have := HJ3.out; have := HK2.out; have := HJ17.out; omega⟩, ⟨by (with_reducible repeat (first | refine blk_drewN ?_ _ | refine blk_drew ?_ | refine blk_alloc ?_ _)); refine blk_put (cs := #[.bool t331, .bool t332, .int .i64 t333, .bool x328003_2]) ?_ 3 _ rfl; (with_reducible repeat (first | refine blk_drewN ?_ _ | refine blk_drew ?_ | refine blk_alloc ?_ _)); refine blk_put (cs := #[.bool t331, .bool t332, .int .i64 x328002_2, .bool x328003_2]) ?_ 2 _ rfl; (with_reducible repeat (first | refine blk_drewN ?_ _ | refine blk_drew ?_ | refine blk_alloc ?_ _)); refine blk_put (cs := #[.bool t331, .bool x328001_2, .int .i64 x328002_2, .bool x328003_2]) ?_ 1 _ rfl; (with_reducible repeat (first | refine blk_drewN ?_ _ | refine blk_drew ?_ | refine blk_alloc ?_ _)); refine blk_put (cs := #[.bool x328000_2, .bool x328001_2, .int .i64 x328002_2, .bool x328003_2]) ?_ 0 _ rfl; (with_reducible repeat (first | refine blk_drewN ?_ _ | refine blk_drew ?_ | refine blk_alloc ?_ _)); exact BK327.out⟩, ⟨by repeat (first | (with_reducible first | exact HB.out | apply below_alloc | apply pw_below_drewN | apply below_drew1 | refine below_set ?_ GE327.out) | exact HB.out)⟩⟩
                          · rw [if_neg c28] at H
                            have c28b0 : (x8_2 == (wrap64 (a0 - 1))) = false := beq_eq_false_iff_ne.mpr c28
                            have c28b1 : (x8_2 != (wrap64 (a0 - 1))) = true := bne_iff_ne.mpr c28
                            replace H := Option.bind_eq_some_iff.mp H
                            obtain ⟨⟨t335, t336, t337, t338⟩, A330, H⟩ := H
                            replace H : (substationlaw29_BreakerOpensInTime.l0 kj17 a0 l1 l2 (wrap64 (x8_2 + 1)) t335 t336 t337 t338) = some r := H
                            have A33 := Aside0.mk A330
                            clear A330
                            have H' := Aside0.mk H
                            clear H
                            have p329 : 0 ≤ (x8_2 : Int) := of_decide_eq_true (by first | (with_reducible assumption) | assumption)
                            have q329 : x8_2 < (l1.length : Int) := of_decide_eq_true (by first | (with_reducible assumption) | assumption)
                            obtain ⟨ad329, e329, hx329_0⟩ := Kd.at_bool HR1.out x8_2 p329 q329
                            cases e329
                            replace hx329_0 := (HB.out.cell (World.block_lt_of_cell? w _ hx329_0)).trans hx329_0
                            replace p329 := eq_true p329
                            replace q329 := eq_true q329
                            have p330 : 0 ≤ (x8_2 : Int) := of_decide_eq_true (by first | (with_reducible assumption) | assumption)
                            have q330 : x8_2 < (l2.length : Int) := of_decide_eq_true (by first | (with_reducible assumption) | assumption)
                            obtain ⟨ad330, e330, hx330_0⟩ := Kd.at_bool HR2.out x8_2 p330 q330
                            cases e330
                            replace hx330_0 := (HB.out.cell (World.block_lt_of_cell? w _ hx330_0)).trans hx330_0
                            replace p330 := eq_true p330
                            replace q330 := eq_true q330
                            have hcz34_0 : wc.cell? ⟨gb327, 0, none⟩ = some (.bool x328000_2) := (blk_cell BK327.out 0).trans rfl
                            have hcz34_1 : wc.cell? ⟨gb327, 1, none⟩ = some (.bool x328001_2) := (blk_cell BK327.out 1).trans rfl
                            have hcz34_2 : wc.cell? ⟨gb327, 2, none⟩ = some (.int .i64 x328002_2) := (blk_cell BK327.out 2).trans rfl
                            have hcz34_3 : wc.cell? ⟨gb327, 3, none⟩ = some (.bool x328003_2) := (blk_cell BK327.out 3).trans rfl
                            have hfz34_0 := blk_frozen BK327.out 0
                            have hfz34_1 := blk_frozen BK327.out 1
                            have hfz34_2 := blk_frozen BK327.out 2
                            have hfz34_3 := blk_frozen BK327.out 3
                            go_wp2_with (first | (go_at_call 20; (with_reducible refine (breaker_Step.calls kj17 x328000_2 x328001_2 x328002_2 x328003_2 a0 false (rdOf false l1 x8_2) (rdOf false l2 x8_2) t335 t336 t337 t338 _ A33.out).mono ?_); rintro e w35 ⟨rfl, hb⟩; have n0_ := Aside0.mk (blk_below (g := gb327) (o := .cells #[.bool x328000_2, .bool x328001_2, .int .i64 x328002_2, .bool x328003_2] 36 (0, 0)) (by (with_reducible repeat (first | refine blk_drewN ?_ _ | refine blk_drew ?_ | refine blk_alloc ?_ _)); exact BK327.out) hb); have n1_ := Aside0.mk (below_step (by repeat (first | (with_reducible first | exact HB.out | apply below_alloc | apply pw_below_drewN | apply below_drew1 | refine below_set ?_ GE327.out) | exact HB.out)) hb); clear BK327; clear HB; have BK327 := n0_; have HB := n1_; clear n0_ n1_; (try clear hb); (try clear hb2); (try clear hk); (try clear hi); have hcz36_0 : w35.cell? ⟨gb327, 0, none⟩ = some (.bool x328000_2) := (blk_cell BK327.out 0).trans rfl; have hcz36_1 : w35.cell? ⟨gb327, 1, none⟩ = some (.bool x328001_2) := (blk_cell BK327.out 1).trans rfl; have hcz36_2 : w35.cell? ⟨gb327, 2, none⟩ = some (.int .i64 x328002_2) := (blk_cell BK327.out 2).trans rfl; have hcz36_3 : w35.cell? ⟨gb327, 3, none⟩ = some (.bool x328003_2) := (blk_cell BK327.out 3).trans rfl; have hfz36_0 := blk_frozen BK327.out 0; have hfz36_1 := blk_frozen BK327.out 1; have hfz36_2 := blk_frozen BK327.out 2; have hfz36_3 := blk_frozen BK327.out 3))
                            repeat (go_quiet (first | (go_at_call 20; (with_reducible refine (breaker_Step.calls kj17 x328000_2 x328001_2 x328002_2 x328003_2 a0 false (rdOf false l1 x8_2) (rdOf false l2 x8_2) t335 t336 t337 t338 _ A33.out).mono ?_); rintro e w35 ⟨rfl, hb⟩; have n0_ := Aside0.mk (blk_below (g := gb327) (o := .cells #[.bool x328000_2, .bool x328001_2, .int .i64 x328002_2, .bool x328003_2] 36 (0, 0)) (by (with_reducible repeat (first | refine blk_drewN ?_ _ | refine blk_drew ?_ | refine blk_alloc ?_ _)); exact BK327.out) hb); have n1_ := Aside0.mk (below_step (by repeat (first | (with_reducible first | exact HB.out | apply below_alloc | apply pw_below_drewN | apply below_drew1 | refine below_set ?_ GE327.out) | exact HB.out)) hb); clear BK327; clear HB; have BK327 := n0_; have HB := n1_; clear n0_ n1_; (try clear hb); (try clear hb2); (try clear hk); (try clear hi); have hcz36_0 : w35.cell? ⟨gb327, 0, none⟩ = some (.bool x328000_2) := (blk_cell BK327.out 0).trans rfl; have hcz36_1 : w35.cell? ⟨gb327, 1, none⟩ = some (.bool x328001_2) := (blk_cell BK327.out 1).trans rfl; have hcz36_2 : w35.cell? ⟨gb327, 2, none⟩ = some (.int .i64 x328002_2) := (blk_cell BK327.out 2).trans rfl; have hcz36_3 : w35.cell? ⟨gb327, 3, none⟩ = some (.bool x328003_2) := (blk_cell BK327.out 3).trans rfl; have hfz36_0 := blk_frozen BK327.out 0; have hfz36_1 := blk_frozen BK327.out 1; have hfz36_2 := blk_frozen BK327.out 2; have hfz36_3 := blk_frozen BK327.out 3)); try go_wp2_with (first | (go_at_call 20; (with_reducible refine (breaker_Step.calls kj17 x328000_2 x328001_2 x328002_2 x328003_2 a0 false (rdOf false l1 x8_2) (rdOf false l2 x8_2) t335 t336 t337 t338 _ A33.out).mono ?_); rintro e w35 ⟨rfl, hb⟩; have n0_ := Aside0.mk (blk_below (g := gb327) (o := .cells #[.bool x328000_2, .bool x328001_2, .int .i64 x328002_2, .bool x328003_2] 36 (0, 0)) (by (with_reducible repeat (first | refine blk_drewN ?_ _ | refine blk_drew ?_ | refine blk_alloc ?_ _)); exact BK327.out) hb); have n1_ := Aside0.mk (below_step (by repeat (first | (with_reducible first | exact HB.out | apply below_alloc | apply pw_below_drewN | apply below_drew1 | refine below_set ?_ GE327.out) | exact HB.out)) hb); clear BK327; clear HB; have BK327 := n0_; have HB := n1_; clear n0_ n1_; (try clear hb); (try clear hb2); (try clear hk); (try clear hi); have hcz36_0 : w35.cell? ⟨gb327, 0, none⟩ = some (.bool x328000_2) := (blk_cell BK327.out 0).trans rfl; have hcz36_1 : w35.cell? ⟨gb327, 1, none⟩ = some (.bool x328001_2) := (blk_cell BK327.out 1).trans rfl; have hcz36_2 : w35.cell? ⟨gb327, 2, none⟩ = some (.int .i64 x328002_2) := (blk_cell BK327.out 2).trans rfl; have hcz36_3 : w35.cell? ⟨gb327, 3, none⟩ = some (.bool x328003_2) := (blk_cell BK327.out 3).trans rfl; have hfz36_0 := blk_frozen BK327.out 0; have hfz36_1 := blk_frozen BK327.out 1; have hfz36_2 := blk_frozen BK327.out 2; have hfz36_3 := blk_frozen BK327.out 3)))
                            go_roundg kj17
                            case measure => have := HJ3.out; have := HK2.out; have := HJ17.out; omega
                            case rel => exact ⟨(wrap64 (x8_2 + 1)), (t335), (t336), (t337), (t338), (by first | rfl | (simp; done) | (simp [*]; done)), H', ⟨by have := HJ3.out; have := HK2.out; have := HJ17.out; omega⟩, ⟨by (with_reducible repeat (first | refine blk_drewN ?_ _ | refine blk_drew ?_ | refine blk_alloc ?_ _)); refine blk_put (cs := #[.bool t335, .bool t336, .int .i64 t337, .bool x328003_2]) ?_ 3 _ rfl; (with_reducible repeat (first | refine blk_drewN ?_ _ | refine blk_drew ?_ | refine blk_alloc ?_ _)); refine blk_put (cs := #[.bool t335, .bool t336, .int .i64 x328002_2, .bool x328003_2]) ?_ 2 _ rfl; (with_reducible repeat (first | refine blk_drewN ?_ _ | refine blk_drew ?_ | refine blk_alloc ?_ _)); refine blk_put (cs := #[.bool t335, .bool x328001_2, .int .i64 x328002_2, .bool x328003_2]) ?_ 1 _ rfl; (with_reducible repeat (first | refine blk_drewN ?_ _ | refine blk_drew ?_ | refine blk_alloc ?_ _)); refine blk_put (cs := #[.bool x328000_2, .bool x328001_2, .int .i64 x328002_2, .bool x328003_2]) ?_ 0 _ rfl; (with_reducible repeat (first | refine blk_drewN ?_ _ | refine blk_drew ?_ | refine blk_alloc ?_ _)); exact BK327.out⟩, ⟨by repeat (first | (with_reducible first | exact HB.out | apply below_alloc | apply pw_below_drewN | apply below_drew1 | refine below_set ?_ GE327.out) | exact HB.out)⟩⟩
                        · rw [if_neg c27] at H
                          have c27b0 : decide (x8_2 < (l2.length : Int)) = false := decide_eq_false c27
                          clear c27
                          by_cases c37 : x8_2 = (wrap64 (a0 - 1))
                          · rw [if_pos c37] at H
                            have c37b0 : (x8_2 == (wrap64 (a0 - 1))) = true := beq_iff_eq.mpr c37
                            have c37b1 : (x8_2 != (wrap64 (a0 - 1))) = false := bne_eq_false_iff_eq.mpr c37
                            clear c37
                            replace H := Option.bind_eq_some_iff.mp H
                            obtain ⟨⟨t339, t340, t341, t342⟩, A380, H⟩ := H
                            replace H : (substationlaw29_BreakerOpensInTime.l0 kj17 a0 l1 l2 (wrap64 (x8_2 + 1)) t339 t340 t341 t342) = some r := H
                            have A38 := Aside0.mk A380
                            clear A380
                            have H' := Aside0.mk H
                            clear H
                            have p329 : 0 ≤ (x8_2 : Int) := of_decide_eq_true (by first | (with_reducible assumption) | assumption)
                            have q329 : x8_2 < (l1.length : Int) := of_decide_eq_true (by first | (with_reducible assumption) | assumption)
                            obtain ⟨ad329, e329, hx329_0⟩ := Kd.at_bool HR1.out x8_2 p329 q329
                            cases e329
                            replace hx329_0 := (HB.out.cell (World.block_lt_of_cell? w _ hx329_0)).trans hx329_0
                            replace p329 := eq_true p329
                            replace q329 := eq_true q329
                            have hcz39_0 : wc.cell? ⟨gb327, 0, none⟩ = some (.bool x328000_2) := (blk_cell BK327.out 0).trans rfl
                            have hcz39_1 : wc.cell? ⟨gb327, 1, none⟩ = some (.bool x328001_2) := (blk_cell BK327.out 1).trans rfl
                            have hcz39_2 : wc.cell? ⟨gb327, 2, none⟩ = some (.int .i64 x328002_2) := (blk_cell BK327.out 2).trans rfl
                            have hcz39_3 : wc.cell? ⟨gb327, 3, none⟩ = some (.bool x328003_2) := (blk_cell BK327.out 3).trans rfl
                            have hfz39_0 := blk_frozen BK327.out 0
                            have hfz39_1 := blk_frozen BK327.out 1
                            have hfz39_2 := blk_frozen BK327.out 2
                            have hfz39_3 := blk_frozen BK327.out 3
                            go_wp2_with (first | (go_at_call 20; (with_reducible refine (breaker_Step.calls kj17 x328000_2 x328001_2 x328002_2 x328003_2 a0 false (rdOf false l1 x8_2) false t339 t340 t341 t342 _ A38.out).mono ?_); rintro e w40 ⟨rfl, hb⟩; have n0_ := Aside0.mk (blk_below (g := gb327) (o := .cells #[.bool x328000_2, .bool x328001_2, .int .i64 x328002_2, .bool x328003_2] 36 (0, 0)) (by (with_reducible repeat (first | refine blk_drewN ?_ _ | refine blk_drew ?_ | refine blk_alloc ?_ _)); exact BK327.out) hb); have n1_ := Aside0.mk (below_step (by repeat (first | (with_reducible first | exact HB.out | apply below_alloc | apply pw_below_drewN | apply below_drew1 | refine below_set ?_ GE327.out) | exact HB.out)) hb); clear BK327; clear HB; have BK327 := n0_; have HB := n1_; clear n0_ n1_; (try clear hb); (try clear hb2); (try clear hk); (try clear hi); have hcz41_0 : w40.cell? ⟨gb327, 0, none⟩ = some (.bool x328000_2) := (blk_cell BK327.out 0).trans rfl; have hcz41_1 : w40.cell? ⟨gb327, 1, none⟩ = some (.bool x328001_2) := (blk_cell BK327.out 1).trans rfl; have hcz41_2 : w40.cell? ⟨gb327, 2, none⟩ = some (.int .i64 x328002_2) := (blk_cell BK327.out 2).trans rfl; have hcz41_3 : w40.cell? ⟨gb327, 3, none⟩ = some (.bool x328003_2) := (blk_cell BK327.out 3).trans rfl; have hfz41_0 := blk_frozen BK327.out 0; have hfz41_1 := blk_frozen BK327.out 1; have hfz41_2 := blk_frozen BK327.out 2; have hfz41_3 := blk_frozen BK327.out 3))
                            repeat (go_quiet (first | (go_at_call 20; (with_reducible refine (breaker_Step.calls kj17 x328000_2 x328001_2 x328002_2 x328003_2 a0 false (rdOf false l1 x8_2) false t339 t340 t341 t342 _ A38.out).mono ?_); rintro e w40 ⟨rfl, hb⟩; have n0_ := Aside0.mk (blk_below (g := gb327) (o := .cells #[.bool x328000_2, .bool x328001_2, .int .i64 x328002_2, .bool x328003_2] 36 (0, 0)) (by (with_reducible repeat (first | refine blk_drewN ?_ _ | refine blk_drew ?_ | refine blk_alloc ?_ _)); exact BK327.out) hb); have n1_ := Aside0.mk (below_step (by repeat (first | (with_reducible first | exact HB.out | apply below_alloc | apply pw_below_drewN | apply below_drew1 | refine below_set ?_ GE327.out) | exact HB.out)) hb); clear BK327; clear HB; have BK327 := n0_; have HB := n1_; clear n0_ n1_; (try clear hb); (try clear hb2); (try clear hk); (try clear hi); have hcz41_0 : w40.cell? ⟨gb327, 0, none⟩ = some (.bool x328000_2) := (blk_cell BK327.out 0).trans rfl; have hcz41_1 : w40.cell? ⟨gb327, 1, none⟩ = some (.bool x328001_2) := (blk_cell BK327.out 1).trans rfl; have hcz41_2 : w40.cell? ⟨gb327, 2, none⟩ = some (.int .i64 x328002_2) := (blk_cell BK327.out 2).trans rfl; have hcz41_3 : w40.cell? ⟨gb327, 3, none⟩ = some (.bool x328003_2) := (blk_cell BK327.out 3).trans rfl; have hfz41_0 := blk_frozen BK327.out 0; have hfz41_1 := blk_frozen BK327.out 1; have hfz41_2 := blk_frozen BK327.out 2; have hfz41_3 := blk_frozen BK327.out 3)); try go_wp2_with (first | (go_at_call 20; (with_reducible refine (breaker_Step.calls kj17 x328000_2 x328001_2 x328002_2 x328003_2 a0 false (rdOf false l1 x8_2) false t339 t340 t341 t342 _ A38.out).mono ?_); rintro e w40 ⟨rfl, hb⟩; have n0_ := Aside0.mk (blk_below (g := gb327) (o := .cells #[.bool x328000_2, .bool x328001_2, .int .i64 x328002_2, .bool x328003_2] 36 (0, 0)) (by (with_reducible repeat (first | refine blk_drewN ?_ _ | refine blk_drew ?_ | refine blk_alloc ?_ _)); exact BK327.out) hb); have n1_ := Aside0.mk (below_step (by repeat (first | (with_reducible first | exact HB.out | apply below_alloc | apply pw_below_drewN | apply below_drew1 | refine below_set ?_ GE327.out) | exact HB.out)) hb); clear BK327; clear HB; have BK327 := n0_; have HB := n1_; clear n0_ n1_; (try clear hb); (try clear hb2); (try clear hk); (try clear hi); have hcz41_0 : w40.cell? ⟨gb327, 0, none⟩ = some (.bool x328000_2) := (blk_cell BK327.out 0).trans rfl; have hcz41_1 : w40.cell? ⟨gb327, 1, none⟩ = some (.bool x328001_2) := (blk_cell BK327.out 1).trans rfl; have hcz41_2 : w40.cell? ⟨gb327, 2, none⟩ = some (.int .i64 x328002_2) := (blk_cell BK327.out 2).trans rfl; have hcz41_3 : w40.cell? ⟨gb327, 3, none⟩ = some (.bool x328003_2) := (blk_cell BK327.out 3).trans rfl; have hfz41_0 := blk_frozen BK327.out 0; have hfz41_1 := blk_frozen BK327.out 1; have hfz41_2 := blk_frozen BK327.out 2; have hfz41_3 := blk_frozen BK327.out 3)))
                            go_roundg kj17
                            case measure => have := HJ3.out; have := HK2.out; have := HJ17.out; omega
                            case rel => exact ⟨(wrap64 (x8_2 + 1)), (t339), (t340), (t341), (t342), (by first | rfl | (simp; done) | (simp [*]; done)), H', ⟨by have := HJ3.out; have := HK2.out; have := HJ17.out; omega⟩, ⟨by (with_reducible repeat (first | refine blk_drewN ?_ _ | refine blk_drew ?_ | refine blk_alloc ?_ _)); refine blk_put (cs := #[.bool t339, .bool t340, .int .i64 t341, .bool x328003_2]) ?_ 3 _ rfl; (with_reducible repeat (first | refine blk_drewN ?_ _ | refine blk_drew ?_ | refine blk_alloc ?_ _)); refine blk_put (cs := #[.bool t339, .bool t340, .int .i64 x328002_2, .bool x328003_2]) ?_ 2 _ rfl; (with_reducible repeat (first | refine blk_drewN ?_ _ | refine blk_drew ?_ | refine blk_alloc ?_ _)); refine blk_put (cs := #[.bool t339, .bool x328001_2, .int .i64 x328002_2, .bool x328003_2]) ?_ 1 _ rfl; (with_reducible repeat (first | refine blk_drewN ?_ _ | refine blk_drew ?_ | refine blk_alloc ?_ _)); refine blk_put (cs := #[.bool x328000_2, .bool x328001_2, .int .i64 x328002_2, .bool x328003_2]) ?_ 0 _ rfl; (with_reducible repeat (first | refine blk_drewN ?_ _ | refine blk_drew ?_ | refine blk_alloc ?_ _)); exact BK327.out⟩, ⟨by repeat (first | (with_reducible first | exact HB.out | apply below_alloc | apply pw_below_drewN | apply below_drew1 | refine below_set ?_ GE327.out) | exact HB.out)⟩⟩
                          · rw [if_neg c37] at H
                            have c37b0 : (x8_2 == (wrap64 (a0 - 1))) = false := beq_eq_false_iff_ne.mpr c37
                            have c37b1 : (x8_2 != (wrap64 (a0 - 1))) = true := bne_iff_ne.mpr c37
                            replace H := Option.bind_eq_some_iff.mp H
                            obtain ⟨⟨t343, t344, t345, t346⟩, A420, H⟩ := H
                            replace H : (substationlaw29_BreakerOpensInTime.l0 kj17 a0 l1 l2 (wrap64 (x8_2 + 1)) t343 t344 t345 t346) = some r := H
                            have A42 := Aside0.mk A420
                            clear A420
                            have H' := Aside0.mk H
                            clear H
                            have p329 : 0 ≤ (x8_2 : Int) := of_decide_eq_true (by first | (with_reducible assumption) | assumption)
                            have q329 : x8_2 < (l1.length : Int) := of_decide_eq_true (by first | (with_reducible assumption) | assumption)
                            obtain ⟨ad329, e329, hx329_0⟩ := Kd.at_bool HR1.out x8_2 p329 q329
                            cases e329
                            replace hx329_0 := (HB.out.cell (World.block_lt_of_cell? w _ hx329_0)).trans hx329_0
                            replace p329 := eq_true p329
                            replace q329 := eq_true q329
                            have hcz43_0 : wc.cell? ⟨gb327, 0, none⟩ = some (.bool x328000_2) := (blk_cell BK327.out 0).trans rfl
                            have hcz43_1 : wc.cell? ⟨gb327, 1, none⟩ = some (.bool x328001_2) := (blk_cell BK327.out 1).trans rfl
                            have hcz43_2 : wc.cell? ⟨gb327, 2, none⟩ = some (.int .i64 x328002_2) := (blk_cell BK327.out 2).trans rfl
                            have hcz43_3 : wc.cell? ⟨gb327, 3, none⟩ = some (.bool x328003_2) := (blk_cell BK327.out 3).trans rfl
                            have hfz43_0 := blk_frozen BK327.out 0
                            have hfz43_1 := blk_frozen BK327.out 1
                            have hfz43_2 := blk_frozen BK327.out 2
                            have hfz43_3 := blk_frozen BK327.out 3
                            go_wp2_with (first | (go_at_call 20; (with_reducible refine (breaker_Step.calls kj17 x328000_2 x328001_2 x328002_2 x328003_2 a0 false (rdOf false l1 x8_2) false t343 t344 t345 t346 _ A42.out).mono ?_); rintro e w44 ⟨rfl, hb⟩; have n0_ := Aside0.mk (blk_below (g := gb327) (o := .cells #[.bool x328000_2, .bool x328001_2, .int .i64 x328002_2, .bool x328003_2] 36 (0, 0)) (by (with_reducible repeat (first | refine blk_drewN ?_ _ | refine blk_drew ?_ | refine blk_alloc ?_ _)); exact BK327.out) hb); have n1_ := Aside0.mk (below_step (by repeat (first | (with_reducible first | exact HB.out | apply below_alloc | apply pw_below_drewN | apply below_drew1 | refine below_set ?_ GE327.out) | exact HB.out)) hb); clear BK327; clear HB; have BK327 := n0_; have HB := n1_; clear n0_ n1_; (try clear hb); (try clear hb2); (try clear hk); (try clear hi); have hcz45_0 : w44.cell? ⟨gb327, 0, none⟩ = some (.bool x328000_2) := (blk_cell BK327.out 0).trans rfl; have hcz45_1 : w44.cell? ⟨gb327, 1, none⟩ = some (.bool x328001_2) := (blk_cell BK327.out 1).trans rfl; have hcz45_2 : w44.cell? ⟨gb327, 2, none⟩ = some (.int .i64 x328002_2) := (blk_cell BK327.out 2).trans rfl; have hcz45_3 : w44.cell? ⟨gb327, 3, none⟩ = some (.bool x328003_2) := (blk_cell BK327.out 3).trans rfl; have hfz45_0 := blk_frozen BK327.out 0; have hfz45_1 := blk_frozen BK327.out 1; have hfz45_2 := blk_frozen BK327.out 2; have hfz45_3 := blk_frozen BK327.out 3))
                            repeat (go_quiet (first | (go_at_call 20; (with_reducible refine (breaker_Step.calls kj17 x328000_2 x328001_2 x328002_2 x328003_2 a0 false (rdOf false l1 x8_2) false t343 t344 t345 t346 _ A42.out).mono ?_); rintro e w44 ⟨rfl, hb⟩; have n0_ := Aside0.mk (blk_below (g := gb327) (o := .cells #[.bool x328000_2, .bool x328001_2, .int .i64 x328002_2, .bool x328003_2] 36 (0, 0)) (by (with_reducible repeat (first | refine blk_drewN ?_ _ | refine blk_drew ?_ | refine blk_alloc ?_ _)); exact BK327.out) hb); have n1_ := Aside0.mk (below_step (by repeat (first | (with_reducible first | exact HB.out | apply below_alloc | apply pw_below_drewN | apply below_drew1 | refine below_set ?_ GE327.out) | exact HB.out)) hb); clear BK327; clear HB; have BK327 := n0_; have HB := n1_; clear n0_ n1_; (try clear hb); (try clear hb2); (try clear hk); (try clear hi); have hcz45_0 : w44.cell? ⟨gb327, 0, none⟩ = some (.bool x328000_2) := (blk_cell BK327.out 0).trans rfl; have hcz45_1 : w44.cell? ⟨gb327, 1, none⟩ = some (.bool x328001_2) := (blk_cell BK327.out 1).trans rfl; have hcz45_2 : w44.cell? ⟨gb327, 2, none⟩ = some (.int .i64 x328002_2) := (blk_cell BK327.out 2).trans rfl; have hcz45_3 : w44.cell? ⟨gb327, 3, none⟩ = some (.bool x328003_2) := (blk_cell BK327.out 3).trans rfl; have hfz45_0 := blk_frozen BK327.out 0; have hfz45_1 := blk_frozen BK327.out 1; have hfz45_2 := blk_frozen BK327.out 2; have hfz45_3 := blk_frozen BK327.out 3)); try go_wp2_with (first | (go_at_call 20; (with_reducible refine (breaker_Step.calls kj17 x328000_2 x328001_2 x328002_2 x328003_2 a0 false (rdOf false l1 x8_2) false t343 t344 t345 t346 _ A42.out).mono ?_); rintro e w44 ⟨rfl, hb⟩; have n0_ := Aside0.mk (blk_below (g := gb327) (o := .cells #[.bool x328000_2, .bool x328001_2, .int .i64 x328002_2, .bool x328003_2] 36 (0, 0)) (by (with_reducible repeat (first | refine blk_drewN ?_ _ | refine blk_drew ?_ | refine blk_alloc ?_ _)); exact BK327.out) hb); have n1_ := Aside0.mk (below_step (by repeat (first | (with_reducible first | exact HB.out | apply below_alloc | apply pw_below_drewN | apply below_drew1 | refine below_set ?_ GE327.out) | exact HB.out)) hb); clear BK327; clear HB; have BK327 := n0_; have HB := n1_; clear n0_ n1_; (try clear hb); (try clear hb2); (try clear hk); (try clear hi); have hcz45_0 : w44.cell? ⟨gb327, 0, none⟩ = some (.bool x328000_2) := (blk_cell BK327.out 0).trans rfl; have hcz45_1 : w44.cell? ⟨gb327, 1, none⟩ = some (.bool x328001_2) := (blk_cell BK327.out 1).trans rfl; have hcz45_2 : w44.cell? ⟨gb327, 2, none⟩ = some (.int .i64 x328002_2) := (blk_cell BK327.out 2).trans rfl; have hcz45_3 : w44.cell? ⟨gb327, 3, none⟩ = some (.bool x328003_2) := (blk_cell BK327.out 3).trans rfl; have hfz45_0 := blk_frozen BK327.out 0; have hfz45_1 := blk_frozen BK327.out 1; have hfz45_2 := blk_frozen BK327.out 2; have hfz45_3 := blk_frozen BK327.out 3)))
                            go_roundg kj17
                            case measure => have := HJ3.out; have := HK2.out; have := HJ17.out; omega
                            case rel => exact ⟨(wrap64 (x8_2 + 1)), (t343), (t344), (t345), (t346), (by first | rfl | (simp; done) | (simp [*]; done)), H', ⟨by have := HJ3.out; have := HK2.out; have := HJ17.out; omega⟩, ⟨by (with_reducible repeat (first | refine blk_drewN ?_ _ | refine blk_drew ?_ | refine blk_alloc ?_ _)); refine blk_put (cs := #[.bool t343, .bool t344, .int .i64 t345, .bool x328003_2]) ?_ 3 _ rfl; (with_reducible repeat (first | refine blk_drewN ?_ _ | refine blk_drew ?_ | refine blk_alloc ?_ _)); refine blk_put (cs := #[.bool t343, .bool t344, .int .i64 x328002_2, .bool x328003_2]) ?_ 2 _ rfl; (with_reducible repeat (first | refine blk_drewN ?_ _ | refine blk_drew ?_ | refine blk_alloc ?_ _)); refine blk_put (cs := #[.bool t343, .bool x328001_2, .int .i64 x328002_2, .bool x328003_2]) ?_ 1 _ rfl; (with_reducible repeat (first | refine blk_drewN ?_ _ | refine blk_drew ?_ | refine blk_alloc ?_ _)); refine blk_put (cs := #[.bool x328000_2, .bool x328001_2, .int .i64 x328002_2, .bool x328003_2]) ?_ 0 _ rfl; (with_reducible repeat (first | refine blk_drewN ?_ _ | refine blk_drew ?_ | refine blk_alloc ?_ _)); exact BK327.out⟩, ⟨by repeat (first | (with_reducible first | exact HB.out | apply below_alloc | apply pw_below_drewN | apply below_drew1 | refine below_set ?_ GE327.out) | exact HB.out)⟩⟩
                      · rw [if_neg c26] at H
                        exact absurd H (by simp)
                    · rw [if_neg c25] at H
                      have c25b0 : decide (x8_2 < (l1.length : Int)) = false := decide_eq_false c25
                      clear c25
                      by_cases c46 : x8_2 < (l2.length : Int)
                      · rw [if_pos c46] at H
                        have c46b0 : decide (x8_2 < (l2.length : Int)) = true := decide_eq_true c46
                        clear c46
                        by_cases c47 : 0 ≤ x8_2
                        · rw [if_pos c47] at H
                          have c47b0 : decide (0 ≤ x8_2) = true := decide_eq_true c47
                          clear c47
                          by_cases c48 : x8_2 = (wrap64 (a0 - 1))
                          · rw [if_pos c48] at H
                            have c48b0 : (x8_2 == (wrap64 (a0 - 1))) = true := beq_iff_eq.mpr c48
                            have c48b1 : (x8_2 != (wrap64 (a0 - 1))) = false := bne_eq_false_iff_eq.mpr c48
                            clear c48
                            replace H := Option.bind_eq_some_iff.mp H
                            obtain ⟨⟨t348, t349, t350, t351⟩, A490, H⟩ := H
                            replace H : (substationlaw29_BreakerOpensInTime.l0 kj17 a0 l1 l2 (wrap64 (x8_2 + 1)) t348 t349 t350 t351) = some r := H
                            have A49 := Aside0.mk A490
                            clear A490
                            have H' := Aside0.mk H
                            clear H
                            have p347 : 0 ≤ (x8_2 : Int) := of_decide_eq_true (by first | (with_reducible assumption) | assumption)
                            have q347 : x8_2 < (l2.length : Int) := of_decide_eq_true (by first | (with_reducible assumption) | assumption)
                            obtain ⟨ad347, e347, hx347_0⟩ := Kd.at_bool HR2.out x8_2 p347 q347
                            cases e347
                            replace hx347_0 := (HB.out.cell (World.block_lt_of_cell? w _ hx347_0)).trans hx347_0
                            replace p347 := eq_true p347
                            replace q347 := eq_true q347
                            have hcz50_0 : wc.cell? ⟨gb327, 0, none⟩ = some (.bool x328000_2) := (blk_cell BK327.out 0).trans rfl
                            have hcz50_1 : wc.cell? ⟨gb327, 1, none⟩ = some (.bool x328001_2) := (blk_cell BK327.out 1).trans rfl
                            have hcz50_2 : wc.cell? ⟨gb327, 2, none⟩ = some (.int .i64 x328002_2) := (blk_cell BK327.out 2).trans rfl
                            have hcz50_3 : wc.cell? ⟨gb327, 3, none⟩ = some (.bool x328003_2) := (blk_cell BK327.out 3).trans rfl
                            have hfz50_0 := blk_frozen BK327.out 0
                            have hfz50_1 := blk_frozen BK327.out 1
                            have hfz50_2 := blk_frozen BK327.out 2
                            have hfz50_3 := blk_frozen BK327.out 3
                            go_wp2_with (first | (go_at_call 20; (with_reducible refine (breaker_Step.calls kj17 x328000_2 x328001_2 x328002_2 x328003_2 a0 false false false t348 t349 t350 t351 _ A49.out).mono ?_); rintro e w51 ⟨rfl, hb⟩; have n0_ := Aside0.mk (blk_below (g := gb327) (o := .cells #[.bool x328000_2, .bool x328001_2, .int .i64 x328002_2, .bool x328003_2] 36 (0, 0)) (by (with_reducible repeat (first | refine blk_drewN ?_ _ | refine blk_drew ?_ | refine blk_alloc ?_ _)); exact BK327.out) hb); have n1_ := Aside0.mk (below_step (by repeat (first | (with_reducible first | exact HB.out | apply below_alloc | apply pw_below_drewN | apply below_drew1 | refine below_set ?_ GE327.out) | exact HB.out)) hb); clear BK327; clear HB; have BK327 := n0_; have HB := n1_; clear n0_ n1_; (try clear hb); (try clear hb2); (try clear hk); (try clear hi); have hcz52_0 : w51.cell? ⟨gb327, 0, none⟩ = some (.bool x328000_2) := (blk_cell BK327.out 0).trans rfl; have hcz52_1 : w51.cell? ⟨gb327, 1, none⟩ = some (.bool x328001_2) := (blk_cell BK327.out 1).trans rfl; have hcz52_2 : w51.cell? ⟨gb327, 2, none⟩ = some (.int .i64 x328002_2) := (blk_cell BK327.out 2).trans rfl; have hcz52_3 : w51.cell? ⟨gb327, 3, none⟩ = some (.bool x328003_2) := (blk_cell BK327.out 3).trans rfl; have hfz52_0 := blk_frozen BK327.out 0; have hfz52_1 := blk_frozen BK327.out 1; have hfz52_2 := blk_frozen BK327.out 2; have hfz52_3 := blk_frozen BK327.out 3))
                            repeat (go_quiet (first | (go_at_call 20; (with_reducible refine (breaker_Step.calls kj17 x328000_2 x328001_2 x328002_2 x328003_2 a0 false false false t348 t349 t350 t351 _ A49.out).mono ?_); rintro e w51 ⟨rfl, hb⟩; have n0_ := Aside0.mk (blk_below (g := gb327) (o := .cells #[.bool x328000_2, .bool x328001_2, .int .i64 x328002_2, .bool x328003_2] 36 (0, 0)) (by (with_reducible repeat (first | refine blk_drewN ?_ _ | refine blk_drew ?_ | refine blk_alloc ?_ _)); exact BK327.out) hb); have n1_ := Aside0.mk (below_step (by repeat (first | (with_reducible first | exact HB.out | apply below_alloc | apply pw_below_drewN | apply below_drew1 | refine below_set ?_ GE327.out) | exact HB.out)) hb); clear BK327; clear HB; have BK327 := n0_; have HB := n1_; clear n0_ n1_; (try clear hb); (try clear hb2); (try clear hk); (try clear hi); have hcz52_0 : w51.cell? ⟨gb327, 0, none⟩ = some (.bool x328000_2) := (blk_cell BK327.out 0).trans rfl; have hcz52_1 : w51.cell? ⟨gb327, 1, none⟩ = some (.bool x328001_2) := (blk_cell BK327.out 1).trans rfl; have hcz52_2 : w51.cell? ⟨gb327, 2, none⟩ = some (.int .i64 x328002_2) := (blk_cell BK327.out 2).trans rfl; have hcz52_3 : w51.cell? ⟨gb327, 3, none⟩ = some (.bool x328003_2) := (blk_cell BK327.out 3).trans rfl; have hfz52_0 := blk_frozen BK327.out 0; have hfz52_1 := blk_frozen BK327.out 1; have hfz52_2 := blk_frozen BK327.out 2; have hfz52_3 := blk_frozen BK327.out 3)); try go_wp2_with (first | (go_at_call 20; (with_reducible refine (breaker_Step.calls kj17 x328000_2 x328001_2 x328002_2 x328003_2 a0 false false false t348 t349 t350 t351 _ A49.out).mono ?_); rintro e w51 ⟨rfl, hb⟩; have n0_ := Aside0.mk (blk_below (g := gb327) (o := .cells #[.bool x328000_2, .bool x328001_2, .int .i64 x328002_2, .bool x328003_2] 36 (0, 0)) (by (with_reducible repeat (first | refine blk_drewN ?_ _ | refine blk_drew ?_ | refine blk_alloc ?_ _)); exact BK327.out) hb); have n1_ := Aside0.mk (below_step (by repeat (first | (with_reducible first | exact HB.out | apply below_alloc | apply pw_below_drewN | apply below_drew1 | refine below_set ?_ GE327.out) | exact HB.out)) hb); clear BK327; clear HB; have BK327 := n0_; have HB := n1_; clear n0_ n1_; (try clear hb); (try clear hb2); (try clear hk); (try clear hi); have hcz52_0 : w51.cell? ⟨gb327, 0, none⟩ = some (.bool x328000_2) := (blk_cell BK327.out 0).trans rfl; have hcz52_1 : w51.cell? ⟨gb327, 1, none⟩ = some (.bool x328001_2) := (blk_cell BK327.out 1).trans rfl; have hcz52_2 : w51.cell? ⟨gb327, 2, none⟩ = some (.int .i64 x328002_2) := (blk_cell BK327.out 2).trans rfl; have hcz52_3 : w51.cell? ⟨gb327, 3, none⟩ = some (.bool x328003_2) := (blk_cell BK327.out 3).trans rfl; have hfz52_0 := blk_frozen BK327.out 0; have hfz52_1 := blk_frozen BK327.out 1; have hfz52_2 := blk_frozen BK327.out 2; have hfz52_3 := blk_frozen BK327.out 3)))
                            go_roundg kj17
                            case measure => have := HJ3.out; have := HK2.out; have := HJ17.out; omega
                            case rel => exact ⟨(wrap64 (x8_2 + 1)), (t348), (t349), (t350), (t351), (by first | rfl | (simp; done) | (simp [*]; done)), H', ⟨by have := HJ3.out; have := HK2.out; have := HJ17.out; omega⟩, ⟨by (with_reducible repeat (first | refine blk_drewN ?_ _ | refine blk_drew ?_ | refine blk_alloc ?_ _)); refine blk_put (cs := #[.bool t348, .bool t349, .int .i64 t350, .bool x328003_2]) ?_ 3 _ rfl; (with_reducible repeat (first | refine blk_drewN ?_ _ | refine blk_drew ?_ | refine blk_alloc ?_ _)); refine blk_put (cs := #[.bool t348, .bool t349, .int .i64 x328002_2, .bool x328003_2]) ?_ 2 _ rfl; (with_reducible repeat (first | refine blk_drewN ?_ _ | refine blk_drew ?_ | refine blk_alloc ?_ _)); refine blk_put (cs := #[.bool t348, .bool x328001_2, .int .i64 x328002_2, .bool x328003_2]) ?_ 1 _ rfl; (with_reducible repeat (first | refine blk_drewN ?_ _ | refine blk_drew ?_ | refine blk_alloc ?_ _)); refine blk_put (cs := #[.bool x328000_2, .bool x328001_2, .int .i64 x328002_2, .bool x328003_2]) ?_ 0 _ rfl; (with_reducible repeat (first | refine blk_drewN ?_ _ | refine blk_drew ?_ | refine blk_alloc ?_ _)); exact BK327.out⟩, ⟨by repeat (first | (with_reducible first | exact HB.out | apply below_alloc | apply pw_below_drewN | apply below_drew1 | refine below_set ?_ GE327.out) | exact HB.out)⟩⟩
                          · rw [if_neg c48] at H
                            have c48b0 : (x8_2 == (wrap64 (a0 - 1))) = false := beq_eq_false_iff_ne.mpr c48
                            have c48b1 : (x8_2 != (wrap64 (a0 - 1))) = true := bne_iff_ne.mpr c48
                            replace H := Option.bind_eq_some_iff.mp H
                            obtain ⟨⟨t352, t353, t354, t355⟩, A530, H⟩ := H
                            replace H : (substationlaw29_BreakerOpensInTime.l0 kj17 a0 l1 l2 (wrap64 (x8_2 + 1)) t352 t353 t354 t355) = some r := H
                            have A53 := Aside0.mk A530
                            clear A530
                            have H' := Aside0.mk H
                            clear H
                            have p347 : 0 ≤ (x8_2 : Int) := of_decide_eq_true (by first | (with_reducible assumption) | assumption)
                            have q347 : x8_2 < (l2.length : Int) := of_decide_eq_true (by first | (with_reducible assumption) | assumption)
                            obtain ⟨ad347, e347, hx347_0⟩ := Kd.at_bool HR2.out x8_2 p347 q347
                            cases e347
                            replace hx347_0 := (HB.out.cell (World.block_lt_of_cell? w _ hx347_0)).trans hx347_0
                            replace p347 := eq_true p347
                            replace q347 := eq_true q347
                            have hcz54_0 : wc.cell? ⟨gb327, 0, none⟩ = some (.bool x328000_2) := (blk_cell BK327.out 0).trans rfl
                            have hcz54_1 : wc.cell? ⟨gb327, 1, none⟩ = some (.bool x328001_2) := (blk_cell BK327.out 1).trans rfl
                            have hcz54_2 : wc.cell? ⟨gb327, 2, none⟩ = some (.int .i64 x328002_2) := (blk_cell BK327.out 2).trans rfl
                            have hcz54_3 : wc.cell? ⟨gb327, 3, none⟩ = some (.bool x328003_2) := (blk_cell BK327.out 3).trans rfl
                            have hfz54_0 := blk_frozen BK327.out 0
                            have hfz54_1 := blk_frozen BK327.out 1
                            have hfz54_2 := blk_frozen BK327.out 2
                            have hfz54_3 := blk_frozen BK327.out 3
                            go_wp2_with (first | (go_at_call 20; (with_reducible refine (breaker_Step.calls kj17 x328000_2 x328001_2 x328002_2 x328003_2 a0 false false (rdOf false l2 x8_2) t352 t353 t354 t355 _ A53.out).mono ?_); rintro e w55 ⟨rfl, hb⟩; have n0_ := Aside0.mk (blk_below (g := gb327) (o := .cells #[.bool x328000_2, .bool x328001_2, .int .i64 x328002_2, .bool x328003_2] 36 (0, 0)) (by (with_reducible repeat (first | refine blk_drewN ?_ _ | refine blk_drew ?_ | refine blk_alloc ?_ _)); exact BK327.out) hb); have n1_ := Aside0.mk (below_step (by repeat (first | (with_reducible first | exact HB.out | apply below_alloc | apply pw_below_drewN | apply below_drew1 | refine below_set ?_ GE327.out) | exact HB.out)) hb); clear BK327; clear HB; have BK327 := n0_; have HB := n1_; clear n0_ n1_; (try clear hb); (try clear hb2); (try clear hk); (try clear hi); have hcz56_0 : w55.cell? ⟨gb327, 0, none⟩ = some (.bool x328000_2) := (blk_cell BK327.out 0).trans rfl; have hcz56_1 : w55.cell? ⟨gb327, 1, none⟩ = some (.bool x328001_2) := (blk_cell BK327.out 1).trans rfl; have hcz56_2 : w55.cell? ⟨gb327, 2, none⟩ = some (.int .i64 x328002_2) := (blk_cell BK327.out 2).trans rfl; have hcz56_3 : w55.cell? ⟨gb327, 3, none⟩ = some (.bool x328003_2) := (blk_cell BK327.out 3).trans rfl; have hfz56_0 := blk_frozen BK327.out 0; have hfz56_1 := blk_frozen BK327.out 1; have hfz56_2 := blk_frozen BK327.out 2; have hfz56_3 := blk_frozen BK327.out 3))
                            repeat (go_quiet (first | (go_at_call 20; (with_reducible refine (breaker_Step.calls kj17 x328000_2 x328001_2 x328002_2 x328003_2 a0 false false (rdOf false l2 x8_2) t352 t353 t354 t355 _ A53.out).mono ?_); rintro e w55 ⟨rfl, hb⟩; have n0_ := Aside0.mk (blk_below (g := gb327) (o := .cells #[.bool x328000_2, .bool x328001_2, .int .i64 x328002_2, .bool x328003_2] 36 (0, 0)) (by (with_reducible repeat (first | refine blk_drewN ?_ _ | refine blk_drew ?_ | refine blk_alloc ?_ _)); exact BK327.out) hb); have n1_ := Aside0.mk (below_step (by repeat (first | (with_reducible first | exact HB.out | apply below_alloc | apply pw_below_drewN | apply below_drew1 | refine below_set ?_ GE327.out) | exact HB.out)) hb); clear BK327; clear HB; have BK327 := n0_; have HB := n1_; clear n0_ n1_; (try clear hb); (try clear hb2); (try clear hk); (try clear hi); have hcz56_0 : w55.cell? ⟨gb327, 0, none⟩ = some (.bool x328000_2) := (blk_cell BK327.out 0).trans rfl; have hcz56_1 : w55.cell? ⟨gb327, 1, none⟩ = some (.bool x328001_2) := (blk_cell BK327.out 1).trans rfl; have hcz56_2 : w55.cell? ⟨gb327, 2, none⟩ = some (.int .i64 x328002_2) := (blk_cell BK327.out 2).trans rfl; have hcz56_3 : w55.cell? ⟨gb327, 3, none⟩ = some (.bool x328003_2) := (blk_cell BK327.out 3).trans rfl; have hfz56_0 := blk_frozen BK327.out 0; have hfz56_1 := blk_frozen BK327.out 1; have hfz56_2 := blk_frozen BK327.out 2; have hfz56_3 := blk_frozen BK327.out 3)); try go_wp2_with (first | (go_at_call 20; (with_reducible refine (breaker_Step.calls kj17 x328000_2 x328001_2 x328002_2 x328003_2 a0 false false (rdOf false l2 x8_2) t352 t353 t354 t355 _ A53.out).mono ?_); rintro e w55 ⟨rfl, hb⟩; have n0_ := Aside0.mk (blk_below (g := gb327) (o := .cells #[.bool x328000_2, .bool x328001_2, .int .i64 x328002_2, .bool x328003_2] 36 (0, 0)) (by (with_reducible repeat (first | refine blk_drewN ?_ _ | refine blk_drew ?_ | refine blk_alloc ?_ _)); exact BK327.out) hb); have n1_ := Aside0.mk (below_step (by repeat (first | (with_reducible first | exact HB.out | apply below_alloc | apply pw_below_drewN | apply below_drew1 | refine below_set ?_ GE327.out) | exact HB.out)) hb); clear BK327; clear HB; have BK327 := n0_; have HB := n1_; clear n0_ n1_; (try clear hb); (try clear hb2); (try clear hk); (try clear hi); have hcz56_0 : w55.cell? ⟨gb327, 0, none⟩ = some (.bool x328000_2) := (blk_cell BK327.out 0).trans rfl; have hcz56_1 : w55.cell? ⟨gb327, 1, none⟩ = some (.bool x328001_2) := (blk_cell BK327.out 1).trans rfl; have hcz56_2 : w55.cell? ⟨gb327, 2, none⟩ = some (.int .i64 x328002_2) := (blk_cell BK327.out 2).trans rfl; have hcz56_3 : w55.cell? ⟨gb327, 3, none⟩ = some (.bool x328003_2) := (blk_cell BK327.out 3).trans rfl; have hfz56_0 := blk_frozen BK327.out 0; have hfz56_1 := blk_frozen BK327.out 1; have hfz56_2 := blk_frozen BK327.out 2; have hfz56_3 := blk_frozen BK327.out 3)))
                            go_roundg kj17
                            case measure => have := HJ3.out; have := HK2.out; have := HJ17.out; omega
                            case rel => exact ⟨(wrap64 (x8_2 + 1)), (t352), (t353), (t354), (t355), (by first | rfl | (simp; done) | (simp [*]; done)), H', ⟨by have := HJ3.out; have := HK2.out; have := HJ17.out; omega⟩, ⟨by (with_reducible repeat (first | refine blk_drewN ?_ _ | refine blk_drew ?_ | refine blk_alloc ?_ _)); refine blk_put (cs := #[.bool t352, .bool t353, .int .i64 t354, .bool x328003_2]) ?_ 3 _ rfl; (with_reducible repeat (first | refine blk_drewN ?_ _ | refine blk_drew ?_ | refine blk_alloc ?_ _)); refine blk_put (cs := #[.bool t352, .bool t353, .int .i64 x328002_2, .bool x328003_2]) ?_ 2 _ rfl; (with_reducible repeat (first | refine blk_drewN ?_ _ | refine blk_drew ?_ | refine blk_alloc ?_ _)); refine blk_put (cs := #[.bool t352, .bool x328001_2, .int .i64 x328002_2, .bool x328003_2]) ?_ 1 _ rfl; (with_reducible repeat (first | refine blk_drewN ?_ _ | refine blk_drew ?_ | refine blk_alloc ?_ _)); refine blk_put (cs := #[.bool x328000_2, .bool x328001_2, .int .i64 x328002_2, .bool x328003_2]) ?_ 0 _ rfl; (with_reducible repeat (first | refine blk_drewN ?_ _ | refine blk_drew ?_ | refine blk_alloc ?_ _)); exact BK327.out⟩, ⟨by repeat (first | (with_reducible first | exact HB.out | apply below_alloc | apply pw_below_drewN | apply below_drew1 | refine below_set ?_ GE327.out) | exact HB.out)⟩⟩
                        · rw [if_neg c47] at H
                          exact absurd H (by simp)
                      · rw [if_neg c46] at H
                        have c46b0 : decide (x8_2 < (l2.length : Int)) = false := decide_eq_false c46
                        clear c46
                        by_cases c57 : x8_2 = (wrap64 (a0 - 1))
                        · rw [if_pos c57] at H
                          have c57b0 : (x8_2 == (wrap64 (a0 - 1))) = true := beq_iff_eq.mpr c57
                          have c57b1 : (x8_2 != (wrap64 (a0 - 1))) = false := bne_eq_false_iff_eq.mpr c57
                          clear c57
                          replace H := Option.bind_eq_some_iff.mp H
                          obtain ⟨⟨t356, t357, t358, t359⟩, A580, H⟩ := H
                          replace H : (substationlaw29_BreakerOpensInTime.l0 kj17 a0 l1 l2 (wrap64 (x8_2 + 1)) t356 t357 t358 t359) = some r := H
                          have A58 := Aside0.mk A580
                          clear A580
                          have H' := Aside0.mk H
                          clear H
                          have hcz59_0 : wc.cell? ⟨gb327, 0, none⟩ = some (.bool x328000_2) := (blk_cell BK327.out 0).trans rfl
                          have hcz59_1 : wc.cell? ⟨gb327, 1, none⟩ = some (.bool x328001_2) := (blk_cell BK327.out 1).trans rfl
                          have hcz59_2 : wc.cell? ⟨gb327, 2, none⟩ = some (.int .i64 x328002_2) := (blk_cell BK327.out 2).trans rfl
                          have hcz59_3 : wc.cell? ⟨gb327, 3, none⟩ = some (.bool x328003_2) := (blk_cell BK327.out 3).trans rfl
                          have hfz59_0 := blk_frozen BK327.out 0
                          have hfz59_1 := blk_frozen BK327.out 1
                          have hfz59_2 := blk_frozen BK327.out 2
                          have hfz59_3 := blk_frozen BK327.out 3
                          go_wp2_with (first | (go_at_call 20; (with_reducible refine (breaker_Step.calls kj17 x328000_2 x328001_2 x328002_2 x328003_2 a0 false false false t356 t357 t358 t359 _ A58.out).mono ?_); rintro e w60 ⟨rfl, hb⟩; have n0_ := Aside0.mk (blk_below (g := gb327) (o := .cells #[.bool x328000_2, .bool x328001_2, .int .i64 x328002_2, .bool x328003_2] 36 (0, 0)) (by (with_reducible repeat (first | refine blk_drewN ?_ _ | refine blk_drew ?_ | refine blk_alloc ?_ _)); exact BK327.out) hb); have n1_ := Aside0.mk (below_step (by repeat (first | (with_reducible first | exact HB.out | apply below_alloc | apply pw_below_drewN | apply below_drew1 | refine below_set ?_ GE327.out) | exact HB.out)) hb); clear BK327; clear HB; have BK327 := n0_; have HB := n1_; clear n0_ n1_; (try clear hb); (try clear hb2); (try clear hk); (try clear hi); have hcz61_0 : w60.cell? ⟨gb327, 0, none⟩ = some (.bool x328000_2) := (blk_cell BK327.out 0).trans rfl; have hcz61_1 : w60.cell? ⟨gb327, 1, none⟩ = some (.bool x328001_2) := (blk_cell BK327.out 1).trans rfl; have hcz61_2 : w60.cell? ⟨gb327, 2, none⟩ = some (.int .i64 x328002_2) := (blk_cell BK327.out 2).trans rfl; have hcz61_3 : w60.cell? ⟨gb327, 3, none⟩ = some (.bool x328003_2) := (blk_cell BK327.out 3).trans rfl; have hfz61_0 := blk_frozen BK327.out 0; have hfz61_1 := blk_frozen BK327.out 1; have hfz61_2 := blk_frozen BK327.out 2; have hfz61_3 := blk_frozen BK327.out 3))
                          repeat (go_quiet (first | (go_at_call 20; (with_reducible refine (breaker_Step.calls kj17 x328000_2 x328001_2 x328002_2 x328003_2 a0 false false false t356 t357 t358 t359 _ A58.out).mono ?_); rintro e w60 ⟨rfl, hb⟩; have n0_ := Aside0.mk (blk_below (g := gb327) (o := .cells #[.bool x328000_2, .bool x328001_2, .int .i64 x328002_2, .bool x328003_2] 36 (0, 0)) (by (with_reducible repeat (first | refine blk_drewN ?_ _ | refine blk_drew ?_ | refine blk_alloc ?_ _)); exact BK327.out) hb); have n1_ := Aside0.mk (below_step (by repeat (first | (with_reducible first | exact HB.out | apply below_alloc | apply pw_below_drewN | apply below_drew1 | refine below_set ?_ GE327.out) | exact HB.out)) hb); clear BK327; clear HB; have BK327 := n0_; have HB := n1_; clear n0_ n1_; (try clear hb); (try clear hb2); (try clear hk); (try clear hi); have hcz61_0 : w60.cell? ⟨gb327, 0, none⟩ = some (.bool x328000_2) := (blk_cell BK327.out 0).trans rfl; have hcz61_1 : w60.cell? ⟨gb327, 1, none⟩ = some (.bool x328001_2) := (blk_cell BK327.out 1).trans rfl; have hcz61_2 : w60.cell? ⟨gb327, 2, none⟩ = some (.int .i64 x328002_2) := (blk_cell BK327.out 2).trans rfl; have hcz61_3 : w60.cell? ⟨gb327, 3, none⟩ = some (.bool x328003_2) := (blk_cell BK327.out 3).trans rfl; have hfz61_0 := blk_frozen BK327.out 0; have hfz61_1 := blk_frozen BK327.out 1; have hfz61_2 := blk_frozen BK327.out 2; have hfz61_3 := blk_frozen BK327.out 3)); try go_wp2_with (first | (go_at_call 20; (with_reducible refine (breaker_Step.calls kj17 x328000_2 x328001_2 x328002_2 x328003_2 a0 false false false t356 t357 t358 t359 _ A58.out).mono ?_); rintro e w60 ⟨rfl, hb⟩; have n0_ := Aside0.mk (blk_below (g := gb327) (o := .cells #[.bool x328000_2, .bool x328001_2, .int .i64 x328002_2, .bool x328003_2] 36 (0, 0)) (by (with_reducible repeat (first | refine blk_drewN ?_ _ | refine blk_drew ?_ | refine blk_alloc ?_ _)); exact BK327.out) hb); have n1_ := Aside0.mk (below_step (by repeat (first | (with_reducible first | exact HB.out | apply below_alloc | apply pw_below_drewN | apply below_drew1 | refine below_set ?_ GE327.out) | exact HB.out)) hb); clear BK327; clear HB; have BK327 := n0_; have HB := n1_; clear n0_ n1_; (try clear hb); (try clear hb2); (try clear hk); (try clear hi); have hcz61_0 : w60.cell? ⟨gb327, 0, none⟩ = some (.bool x328000_2) := (blk_cell BK327.out 0).trans rfl; have hcz61_1 : w60.cell? ⟨gb327, 1, none⟩ = some (.bool x328001_2) := (blk_cell BK327.out 1).trans rfl; have hcz61_2 : w60.cell? ⟨gb327, 2, none⟩ = some (.int .i64 x328002_2) := (blk_cell BK327.out 2).trans rfl; have hcz61_3 : w60.cell? ⟨gb327, 3, none⟩ = some (.bool x328003_2) := (blk_cell BK327.out 3).trans rfl; have hfz61_0 := blk_frozen BK327.out 0; have hfz61_1 := blk_frozen BK327.out 1; have hfz61_2 := blk_frozen BK327.out 2; have hfz61_3 := blk_frozen BK327.out 3)))
                          go_roundg kj17
                          case measure => have := HJ3.out; have := HK2.out; have := HJ17.out; omega
                          case rel => exact ⟨(wrap64 (x8_2 + 1)), (t356), (t357), (t358), (t359), (by first | rfl | (simp; done) | (simp [*]; done)), H', ⟨by have := HJ3.out; have := HK2.out; have := HJ17.out; omega⟩, ⟨by (with_reducible repeat (first | refine blk_drewN ?_ _ | refine blk_drew ?_ | refine blk_alloc ?_ _)); refine blk_put (cs := #[.bool t356, .bool t357, .int .i64 t358, .bool x328003_2]) ?_ 3 _ rfl; (with_reducible repeat (first | refine blk_drewN ?_ _ | refine blk_drew ?_ | refine blk_alloc ?_ _)); refine blk_put (cs := #[.bool t356, .bool t357, .int .i64 x328002_2, .bool x328003_2]) ?_ 2 _ rfl; (with_reducible repeat (first | refine blk_drewN ?_ _ | refine blk_drew ?_ | refine blk_alloc ?_ _)); refine blk_put (cs := #[.bool t356, .bool x328001_2, .int .i64 x328002_2, .bool x328003_2]) ?_ 1 _ rfl; (with_reducible repeat (first | refine blk_drewN ?_ _ | refine blk_drew ?_ | refine blk_alloc ?_ _)); refine blk_put (cs := #[.bool x328000_2, .bool x328001_2, .int .i64 x328002_2, .bool x328003_2]) ?_ 0 _ rfl; (with_reducible repeat (first | refine blk_drewN ?_ _ | refine blk_drew ?_ | refine blk_alloc ?_ _)); exact BK327.out⟩, ⟨by repeat (first | (with_reducible first | exact HB.out | apply below_alloc | apply pw_below_drewN | apply below_drew1 | refine below_set ?_ GE327.out) | exact HB.out)⟩⟩
                        · rw [if_neg c57] at H
                          have c57b0 : (x8_2 == (wrap64 (a0 - 1))) = false := beq_eq_false_iff_ne.mpr c57
                          have c57b1 : (x8_2 != (wrap64 (a0 - 1))) = true := bne_iff_ne.mpr c57
                          replace H := Option.bind_eq_some_iff.mp H
                          obtain ⟨⟨t360, t361, t362, t363⟩, A620, H⟩ := H
                          replace H : (substationlaw29_BreakerOpensInTime.l0 kj17 a0 l1 l2 (wrap64 (x8_2 + 1)) t360 t361 t362 t363) = some r := H
                          have A62 := Aside0.mk A620
                          clear A620
                          have H' := Aside0.mk H
                          clear H
                          have hcz63_0 : wc.cell? ⟨gb327, 0, none⟩ = some (.bool x328000_2) := (blk_cell BK327.out 0).trans rfl
                          have hcz63_1 : wc.cell? ⟨gb327, 1, none⟩ = some (.bool x328001_2) := (blk_cell BK327.out 1).trans rfl
                          have hcz63_2 : wc.cell? ⟨gb327, 2, none⟩ = some (.int .i64 x328002_2) := (blk_cell BK327.out 2).trans rfl
                          have hcz63_3 : wc.cell? ⟨gb327, 3, none⟩ = some (.bool x328003_2) := (blk_cell BK327.out 3).trans rfl
                          have hfz63_0 := blk_frozen BK327.out 0
                          have hfz63_1 := blk_frozen BK327.out 1
                          have hfz63_2 := blk_frozen BK327.out 2
                          have hfz63_3 := blk_frozen BK327.out 3
                          go_wp2_with (first | (go_at_call 20; (with_reducible refine (breaker_Step.calls kj17 x328000_2 x328001_2 x328002_2 x328003_2 a0 false false false t360 t361 t362 t363 _ A62.out).mono ?_); rintro e w64 ⟨rfl, hb⟩; have n0_ := Aside0.mk (blk_below (g := gb327) (o := .cells #[.bool x328000_2, .bool x328001_2, .int .i64 x328002_2, .bool x328003_2] 36 (0, 0)) (by (with_reducible repeat (first | refine blk_drewN ?_ _ | refine blk_drew ?_ | refine blk_alloc ?_ _)); exact BK327.out) hb); have n1_ := Aside0.mk (below_step (by repeat (first | (with_reducible first | exact HB.out | apply below_alloc | apply pw_below_drewN | apply below_drew1 | refine below_set ?_ GE327.out) | exact HB.out)) hb); clear BK327; clear HB; have BK327 := n0_; have HB := n1_; clear n0_ n1_; (try clear hb); (try clear hb2); (try clear hk); (try clear hi); have hcz65_0 : w64.cell? ⟨gb327, 0, none⟩ = some (.bool x328000_2) := (blk_cell BK327.out 0).trans rfl; have hcz65_1 : w64.cell? ⟨gb327, 1, none⟩ = some (.bool x328001_2) := (blk_cell BK327.out 1).trans rfl; have hcz65_2 : w64.cell? ⟨gb327, 2, none⟩ = some (.int .i64 x328002_2) := (blk_cell BK327.out 2).trans rfl; have hcz65_3 : w64.cell? ⟨gb327, 3, none⟩ = some (.bool x328003_2) := (blk_cell BK327.out 3).trans rfl; have hfz65_0 := blk_frozen BK327.out 0; have hfz65_1 := blk_frozen BK327.out 1; have hfz65_2 := blk_frozen BK327.out 2; have hfz65_3 := blk_frozen BK327.out 3))
                          repeat (go_quiet (first | (go_at_call 20; (with_reducible refine (breaker_Step.calls kj17 x328000_2 x328001_2 x328002_2 x328003_2 a0 false false false t360 t361 t362 t363 _ A62.out).mono ?_); rintro e w64 ⟨rfl, hb⟩; have n0_ := Aside0.mk (blk_below (g := gb327) (o := .cells #[.bool x328000_2, .bool x328001_2, .int .i64 x328002_2, .bool x328003_2] 36 (0, 0)) (by (with_reducible repeat (first | refine blk_drewN ?_ _ | refine blk_drew ?_ | refine blk_alloc ?_ _)); exact BK327.out) hb); have n1_ := Aside0.mk (below_step (by repeat (first | (with_reducible first | exact HB.out | apply below_alloc | apply pw_below_drewN | apply below_drew1 | refine below_set ?_ GE327.out) | exact HB.out)) hb); clear BK327; clear HB; have BK327 := n0_; have HB := n1_; clear n0_ n1_; (try clear hb); (try clear hb2); (try clear hk); (try clear hi); have hcz65_0 : w64.cell? ⟨gb327, 0, none⟩ = some (.bool x328000_2) := (blk_cell BK327.out 0).trans rfl; have hcz65_1 : w64.cell? ⟨gb327, 1, none⟩ = some (.bool x328001_2) := (blk_cell BK327.out 1).trans rfl; have hcz65_2 : w64.cell? ⟨gb327, 2, none⟩ = some (.int .i64 x328002_2) := (blk_cell BK327.out 2).trans rfl; have hcz65_3 : w64.cell? ⟨gb327, 3, none⟩ = some (.bool x328003_2) := (blk_cell BK327.out 3).trans rfl; have hfz65_0 := blk_frozen BK327.out 0; have hfz65_1 := blk_frozen BK327.out 1; have hfz65_2 := blk_frozen BK327.out 2; have hfz65_3 := blk_frozen BK327.out 3)); try go_wp2_with (first | (go_at_call 20; (with_reducible refine (breaker_Step.calls kj17 x328000_2 x328001_2 x328002_2 x328003_2 a0 false false false t360 t361 t362 t363 _ A62.out).mono ?_); rintro e w64 ⟨rfl, hb⟩; have n0_ := Aside0.mk (blk_below (g := gb327) (o := .cells #[.bool x328000_2, .bool x328001_2, .int .i64 x328002_2, .bool x328003_2] 36 (0, 0)) (by (with_reducible repeat (first | refine blk_drewN ?_ _ | refine blk_drew ?_ | refine blk_alloc ?_ _)); exact BK327.out) hb); have n1_ := Aside0.mk (below_step (by repeat (first | (with_reducible first | exact HB.out | apply below_alloc | apply pw_below_drewN | apply below_drew1 | refine below_set ?_ GE327.out) | exact HB.out)) hb); clear BK327; clear HB; have BK327 := n0_; have HB := n1_; clear n0_ n1_; (try clear hb); (try clear hb2); (try clear hk); (try clear hi); have hcz65_0 : w64.cell? ⟨gb327, 0, none⟩ = some (.bool x328000_2) := (blk_cell BK327.out 0).trans rfl; have hcz65_1 : w64.cell? ⟨gb327, 1, none⟩ = some (.bool x328001_2) := (blk_cell BK327.out 1).trans rfl; have hcz65_2 : w64.cell? ⟨gb327, 2, none⟩ = some (.int .i64 x328002_2) := (blk_cell BK327.out 2).trans rfl; have hcz65_3 : w64.cell? ⟨gb327, 3, none⟩ = some (.bool x328003_2) := (blk_cell BK327.out 3).trans rfl; have hfz65_0 := blk_frozen BK327.out 0; have hfz65_1 := blk_frozen BK327.out 1; have hfz65_2 := blk_frozen BK327.out 2; have hfz65_3 := blk_frozen BK327.out 3)))
                          go_roundg kj17
                          case measure => have := HJ3.out; have := HK2.out; have := HJ17.out; omega
                          case rel => exact ⟨(wrap64 (x8_2 + 1)), (t360), (t361), (t362), (t363), (by first | rfl | (simp; done) | (simp [*]; done)), H', ⟨by have := HJ3.out; have := HK2.out; have := HJ17.out; omega⟩, ⟨by (with_reducible repeat (first | refine blk_drewN ?_ _ | refine blk_drew ?_ | refine blk_alloc ?_ _)); refine blk_put (cs := #[.bool t360, .bool t361, .int .i64 t362, .bool x328003_2]) ?_ 3 _ rfl; (with_reducible repeat (first | refine blk_drewN ?_ _ | refine blk_drew ?_ | refine blk_alloc ?_ _)); refine blk_put (cs := #[.bool t360, .bool t361, .int .i64 x328002_2, .bool x328003_2]) ?_ 2 _ rfl; (with_reducible repeat (first | refine blk_drewN ?_ _ | refine blk_drew ?_ | refine blk_alloc ?_ _)); refine blk_put (cs := #[.bool t360, .bool x328001_2, .int .i64 x328002_2, .bool x328003_2]) ?_ 1 _ rfl; (with_reducible repeat (first | refine blk_drewN ?_ _ | refine blk_drew ?_ | refine blk_alloc ?_ _)); refine blk_put (cs := #[.bool x328000_2, .bool x328001_2, .int .i64 x328002_2, .bool x328003_2]) ?_ 0 _ rfl; (with_reducible repeat (first | refine blk_drewN ?_ _ | refine blk_drew ?_ | refine blk_alloc ?_ _)); exact BK327.out⟩, ⟨by repeat (first | (with_reducible first | exact HB.out | apply below_alloc | apply pw_below_drewN | apply below_drew1 | refine below_set ?_ GE327.out) | exact HB.out)⟩⟩
            · rw [if_neg c17] at H
              have c17b0 : decide (x8_2 < a0) = false := decide_eq_false c17
              clear c17
              replace H := Option.bind_eq_some_iff.mp H
              obtain ⟨t328, A660, H⟩ := H
              replace H : (if t328 = true then (some (!x328000_2 && (!x328001_2 && (x328002_2 == 0 && (!x328003_2))))) else (some false)) = some r := H
              have A66 := Aside0.mk A660
              clear A660
              by_cases c67 : t328 = true
              · subst c67
                have H1 : (some (!x328000_2 && (!x328001_2 && (x328002_2 == 0 && (!x328003_2))))) = some r := by rw [if_pos rfl] at H; exact H
                clear H
                have H := H1
                clear H1
                obtain rfl := Option.some.inj H
                go_wp2_with (first | (go_at_call 22; (with_reducible refine (substationlaw29_known.calls k2  true _ A66.out).mono ?_); rintro e w68 ⟨rfl, hb⟩; have n0_ := Aside0.mk (blk_below (g := gb327) (o := .cells #[.bool x328000_2, .bool x328001_2, .int .i64 x328002_2, .bool x328003_2] 36 (0, 0)) (by (with_reducible repeat (first | refine blk_drewN ?_ _ | refine blk_drew ?_ | refine blk_alloc ?_ _)); exact BK327.out) hb); have n1_ := Aside0.mk (below_step (by repeat (first | (with_reducible first | exact HB.out | apply below_alloc | apply pw_below_drewN | apply below_drew1 | refine below_set ?_ GE327.out) | exact HB.out)) hb); clear BK327; clear HB; have BK327 := n0_; have HB := n1_; clear n0_ n1_; (try clear hb); (try clear hb2); (try clear hk); (try clear hi); have hcz69_0 : w68.cell? ⟨gb327, 0, none⟩ = some (.bool x328000_2) := (blk_cell BK327.out 0).trans rfl; have hcz69_1 : w68.cell? ⟨gb327, 1, none⟩ = some (.bool x328001_2) := (blk_cell BK327.out 1).trans rfl; have hcz69_2 : w68.cell? ⟨gb327, 2, none⟩ = some (.int .i64 x328002_2) := (blk_cell BK327.out 2).trans rfl; have hcz69_3 : w68.cell? ⟨gb327, 3, none⟩ = some (.bool x328003_2) := (blk_cell BK327.out 3).trans rfl; have hfz69_0 := blk_frozen BK327.out 0; have hfz69_1 := blk_frozen BK327.out 1; have hfz69_2 := blk_frozen BK327.out 2; have hfz69_3 := blk_frozen BK327.out 3))
                repeat (go_quiet (first | (go_at_call 22; (with_reducible refine (substationlaw29_known.calls k2  true _ A66.out).mono ?_); rintro e w68 ⟨rfl, hb⟩; have n0_ := Aside0.mk (blk_below (g := gb327) (o := .cells #[.bool x328000_2, .bool x328001_2, .int .i64 x328002_2, .bool x328003_2] 36 (0, 0)) (by (with_reducible repeat (first | refine blk_drewN ?_ _ | refine blk_drew ?_ | refine blk_alloc ?_ _)); exact BK327.out) hb); have n1_ := Aside0.mk (below_step (by repeat (first | (with_reducible first | exact HB.out | apply below_alloc | apply pw_below_drewN | apply below_drew1 | refine below_set ?_ GE327.out) | exact HB.out)) hb); clear BK327; clear HB; have BK327 := n0_; have HB := n1_; clear n0_ n1_; (try clear hb); (try clear hb2); (try clear hk); (try clear hi); have hcz69_0 : w68.cell? ⟨gb327, 0, none⟩ = some (.bool x328000_2) := (blk_cell BK327.out 0).trans rfl; have hcz69_1 : w68.cell? ⟨gb327, 1, none⟩ = some (.bool x328001_2) := (blk_cell BK327.out 1).trans rfl; have hcz69_2 : w68.cell? ⟨gb327, 2, none⟩ = some (.int .i64 x328002_2) := (blk_cell BK327.out 2).trans rfl; have hcz69_3 : w68.cell? ⟨gb327, 3, none⟩ = some (.bool x328003_2) := (blk_cell BK327.out 3).trans rfl; have hfz69_0 := blk_frozen BK327.out 0; have hfz69_1 := blk_frozen BK327.out 1; have hfz69_2 := blk_frozen BK327.out 2; have hfz69_3 := blk_frozen BK327.out 3)); try go_wp2_with (first | (go_at_call 22; (with_reducible refine (substationlaw29_known.calls k2  true _ A66.out).mono ?_); rintro e w68 ⟨rfl, hb⟩; have n0_ := Aside0.mk (blk_below (g := gb327) (o := .cells #[.bool x328000_2, .bool x328001_2, .int .i64 x328002_2, .bool x328003_2] 36 (0, 0)) (by (with_reducible repeat (first | refine blk_drewN ?_ _ | refine blk_drew ?_ | refine blk_alloc ?_ _)); exact BK327.out) hb); have n1_ := Aside0.mk (below_step (by repeat (first | (with_reducible first | exact HB.out | apply below_alloc | apply pw_below_drewN | apply below_drew1 | refine below_set ?_ GE327.out) | exact HB.out)) hb); clear BK327; clear HB; have BK327 := n0_; have HB := n1_; clear n0_ n1_; (try clear hb); (try clear hb2); (try clear hk); (try clear hi); have hcz69_0 : w68.cell? ⟨gb327, 0, none⟩ = some (.bool x328000_2) := (blk_cell BK327.out 0).trans rfl; have hcz69_1 : w68.cell? ⟨gb327, 1, none⟩ = some (.bool x328001_2) := (blk_cell BK327.out 1).trans rfl; have hcz69_2 : w68.cell? ⟨gb327, 2, none⟩ = some (.int .i64 x328002_2) := (blk_cell BK327.out 2).trans rfl; have hcz69_3 : w68.cell? ⟨gb327, 3, none⟩ = some (.bool x328003_2) := (blk_cell BK327.out 3).trans rfl; have hfz69_0 := blk_frozen BK327.out 0; have hfz69_1 := blk_frozen BK327.out 1; have hfz69_2 := blk_frozen BK327.out 2; have hfz69_3 := blk_frozen BK327.out 3)))
                go_ret
                exact ⟨by first | rfl | (simp [errW_none, errW_some] <;> rfl) | (simp [*, errW_none, errW_some] <;> rfl), by repeat (first | (with_reducible first | exact HB.out | apply below_alloc | apply pw_below_drewN | apply below_drew1 | refine below_set ?_ GE327.out) | exact HB.out)⟩
              · replace c67 := Bool.eq_false_iff.mpr c67
                subst c67
                have H1 : (some false) = some r := by rw [if_neg (show ¬ (false = true) by decide)] at H; exact H
                clear H
                have H := H1
                clear H1
                obtain rfl := Option.some.inj H
                go_wp2_with (first | (go_at_call 22; (with_reducible refine (substationlaw29_known.calls k2  false _ A66.out).mono ?_); rintro e w70 ⟨rfl, hb⟩; have n0_ := Aside0.mk (blk_below (g := gb327) (o := .cells #[.bool x328000_2, .bool x328001_2, .int .i64 x328002_2, .bool x328003_2] 36 (0, 0)) (by (with_reducible repeat (first | refine blk_drewN ?_ _ | refine blk_drew ?_ | refine blk_alloc ?_ _)); exact BK327.out) hb); have n1_ := Aside0.mk (below_step (by repeat (first | (with_reducible first | exact HB.out | apply below_alloc | apply pw_below_drewN | apply below_drew1 | refine below_set ?_ GE327.out) | exact HB.out)) hb); clear BK327; clear HB; have BK327 := n0_; have HB := n1_; clear n0_ n1_; (try clear hb); (try clear hb2); (try clear hk); (try clear hi)))
                repeat (go_quiet (first | (go_at_call 22; (with_reducible refine (substationlaw29_known.calls k2  false _ A66.out).mono ?_); rintro e w70 ⟨rfl, hb⟩; have n0_ := Aside0.mk (blk_below (g := gb327) (o := .cells #[.bool x328000_2, .bool x328001_2, .int .i64 x328002_2, .bool x328003_2] 36 (0, 0)) (by (with_reducible repeat (first | refine blk_drewN ?_ _ | refine blk_drew ?_ | refine blk_alloc ?_ _)); exact BK327.out) hb); have n1_ := Aside0.mk (below_step (by repeat (first | (with_reducible first | exact HB.out | apply below_alloc | apply pw_below_drewN | apply below_drew1 | refine below_set ?_ GE327.out) | exact HB.out)) hb); clear BK327; clear HB; have BK327 := n0_; have HB := n1_; clear n0_ n1_; (try clear hb); (try clear hb2); (try clear hk); (try clear hi))); try go_wp2_with (first | (go_at_call 22; (with_reducible refine (substationlaw29_known.calls k2  false _ A66.out).mono ?_); rintro e w70 ⟨rfl, hb⟩; have n0_ := Aside0.mk (blk_below (g := gb327) (o := .cells #[.bool x328000_2, .bool x328001_2, .int .i64 x328002_2, .bool x328003_2] 36 (0, 0)) (by (with_reducible repeat (first | refine blk_drewN ?_ _ | refine blk_drew ?_ | refine blk_alloc ?_ _)); exact BK327.out) hb); have n1_ := Aside0.mk (below_step (by repeat (first | (with_reducible first | exact HB.out | apply below_alloc | apply pw_below_drewN | apply below_drew1 | refine below_set ?_ GE327.out) | exact HB.out)) hb); clear BK327; clear HB; have BK327 := n0_; have HB := n1_; clear n0_ n1_; (try clear hb); (try clear hb2); (try clear hk); (try clear hi))))
                go_ret
                exact ⟨by first | rfl | (simp [errW_none, errW_some] <;> rfl) | (simp [*, errW_none, errW_some] <;> rfl), by repeat (first | (with_reducible first | exact HB.out | apply below_alloc | apply pw_below_drewN | apply below_drew1 | refine below_set ?_ GE327.out) | exact HB.out)⟩

end Go.Proofs.Ytooeljgandaelaa.PAll
