-- PRINTED BY print.sh 35421559b90ae4d0a3588c463048766b98c2df88dd9212a6774a882060cdf62d: not written by this session
import Derived.Test.YtmppijipaocfiaaPAllx0
import Derived.Test.YtmppijipaocfiaaPAllx1
import Derived.Test.YtmppijipaocfiaaPAllx2
import Derived.Test.YtmppijipaocfiaaPAllx3
import Derived.Test.YtmppijipaocfiaaPAllx9
import Derived.Test.YtmppijipaocfiaaPAllx11
namespace Go.Proofs.Ytmppijipaocfiaa.PAll
open Go.RowKit Go.Proofs.YtmppijipaocfiaaW.PrintWords Go.Proofs.YtmppijipaocfiaaW.PrintLast Go.Proofs.YtmppijipaocfiaaW.PrintMore
attribute [local go_sem] max2_int min2_int max_two min_two max_three min_three max_four min_four   -- for this text's walks alone
set_option linter.unusedVariables false
set_option linter.unusedSimpArgs false

attribute [local go_sem high] eqA25 eqA40
/-! ### substationlaw35_RecloserCycle: function 9 -/
mutual
def substationlaw35_RecloserCycle.j0 : Nat → Int → Bool → Int → Int → Int → Option (Bool)
  | 0, _, _, _, _, _ => none
  | k + 1, x1, x28, x310000, x310001, x310002 => if x28 = true then ((substationlaw35_known.f k).bind fun t311 => (some t311)) else ((breaker_New.f true).bind fun bt312 => (substationlaw35_RecloserCycle.l0 k x1 true false 0 (wrap64 ((wrap64 ((wrap64 ((wrap64 (2 * x1)) + x310001)) + x310002)) + 5)) 0 x310000 x310001 x310002 bt312.1 bt312.2.1 bt312.2.2.1 bt312.2.2.2 0 0 0))
def substationlaw35_RecloserCycle.l0 : Nat → Int → Bool → Bool → Int → Int → Int → Int → Int → Int → Bool → Bool → Int → Bool → Int → Int → Int → Option (Bool)
  | 0, _, _, _, _, _, _, _, _, _, _, _, _, _, _, _, _ => none
  | k + 1, x1, x7, x8, x9, x10, x11, x310000, x310001, x310002, x317000, x317001, x317002, x317003, x318000, x318001, x318002 => if x11 < x10 then ((breaker_Step.f k x317000 x317001 x317002 x317003 x1 false x7 x8).bind fun bt323 => ((substationlaw35_Settings_step.f x310000 x310001 x310002 x318000 x318001 x318002 (x11 == 0) false (!bt323.1) false).bind fun bt327 => (if bt327.2.2.2 = true then (substationlaw35_RecloserCycle.l0 k x1 false bt327.2.2.2 (wrap64 (x9 + 1)) x10 (wrap64 (x11 + 1)) x310000 x310001 x310002 bt323.1 bt323.2.1 bt323.2.2.1 bt323.2.2.2 bt327.1 bt327.2.1 bt327.2.2.1) else (substationlaw35_RecloserCycle.l0 k x1 false bt327.2.2.2 x9 x10 (wrap64 (x11 + 1)) x310000 x310001 x310002 bt323.1 bt323.2.1 bt323.2.2.1 bt323.2.2.2 bt327.1 bt327.2.1 bt327.2.2.1)))) else ((substationlaw35_known.f k).bind fun t318 => (if t318 = true then (if x9 = 1 then ((breaker_New.f true).bind fun bt319 => (if (x317000 == bt319.1 && (x317001 == bt319.2.1 && (x317002 == bt319.2.2.1 && (x317003 == bt319.2.2.2)))) = true then (some (x318000 == 0 && (x318001 == 0 && (x318002 == 0)))) else (some false))) else (some false)) else (some false)))
end
def substationlaw35_RecloserCycle.f (k : Nat) (a0_0 : Int) (a0_1 : Int) (a0_2 : Int) (a1 : Int) : Option (Bool) := (recloser_Valid.f k a0_0 a0_1 a0_2 0 0 0).bind fun t310 => (if t310 = true then (if a1 < 1 then (substationlaw35_RecloserCycle.j0 k a1 true a0_0 a0_1 a0_2) else (substationlaw35_RecloserCycle.j0 k a1 (decide (a1 > 6)) a0_0 a0_1 a0_2)) else (substationlaw35_RecloserCycle.j0 k a1 true a0_0 a0_1 a0_2))
theorem substationlaw35_RecloserCycle.mono_l : ∀ k, (∀ y0 y1 y2 y3 y4, LeO (substationlaw35_RecloserCycle.j0 k y0 y1 y2 y3 y4) (substationlaw35_RecloserCycle.j0 (k + 1) y0 y1 y2 y3 y4)) ∧ (∀ y0 y1 y2 y3 y4 y5 y6 y7 y8 y9 y10 y11 y12 y13 y14 y15, LeO (substationlaw35_RecloserCycle.l0 k y0 y1 y2 y3 y4 y5 y6 y7 y8 y9 y10 y11 y12 y13 y14 y15) (substationlaw35_RecloserCycle.l0 (k + 1) y0 y1 y2 y3 y4 y5 y6 y7 y8 y9 y10 y11 y12 y13 y14 y15))
  | 0 => ⟨fun _ _ _ _ _ r h => by simp [substationlaw35_RecloserCycle.j0] at h, fun _ _ _ _ _ _ _ _ _ _ _ _ _ _ _ _ r h => by simp [substationlaw35_RecloserCycle.l0] at h⟩
  | k + 1 => by
    obtain ⟨ih0, ih1⟩ := substationlaw35_RecloserCycle.mono_l k
    refine ⟨?_, ?_⟩
    · intro y0 y1 y2 y3 y4
      unfold substationlaw35_RecloserCycle.j0
      repeat' first
      | (with_reducible exact ih0 _ _ _ _ _)
      | (with_reducible exact ih1 _ _ _ _ _ _ _ _ _ _ _ _ _ _ _ _)
      | (with_reducible exact breaker_Step.mono _ _ _ _ _ _ _ _ _)
      | (with_reducible exact recloser_Valid.mono _ _ _ _ _ _ _)
      | (with_reducible exact substationlaw35_known.mono _)
      | (with_reducible exact LeO.refl _)
      | (with_reducible exact LeO.none _)
      | (with_reducible refine LeO.ite ?_ ?_)
      | (with_reducible refine LeO.bind ?_ (fun _ => ?_))
      | exact ih0 _ _ _ _ _
      | exact ih1 _ _ _ _ _ _ _ _ _ _ _ _ _ _ _ _
      | exact breaker_Step.mono _ _ _ _ _ _ _ _ _
      | exact recloser_Valid.mono _ _ _ _ _ _ _
      | exact substationlaw35_known.mono _
      | exact LeO.none _
      | refine LeO.ite ?_ ?_
      | refine LeO.bind ?_ (fun _ => ?_)
    · intro y0 y1 y2 y3 y4 y5 y6 y7 y8 y9 y10 y11 y12 y13 y14 y15
      unfold substationlaw35_RecloserCycle.l0
      repeat' first
      | (with_reducible exact ih0 _ _ _ _ _)
      | (with_reducible exact ih1 _ _ _ _ _ _ _ _ _ _ _ _ _ _ _ _)
      | (with_reducible exact breaker_Step.mono _ _ _ _ _ _ _ _ _)
      | (with_reducible exact recloser_Valid.mono _ _ _ _ _ _ _)
      | (with_reducible exact substationlaw35_known.mono _)
      | (with_reducible exact LeO.refl _)
      | (with_reducible exact LeO.none _)
      | (with_reducible refine LeO.ite ?_ ?_)
      | (with_reducible refine LeO.bind ?_ (fun _ => ?_))
      | exact ih0 _ _ _ _ _
      | exact ih1 _ _ _ _ _ _ _ _ _ _ _ _ _ _ _ _
      | exact breaker_Step.mono _ _ _ _ _ _ _ _ _
      | exact recloser_Valid.mono _ _ _ _ _ _ _
      | exact substationlaw35_known.mono _
      | exact LeO.none _
      | refine LeO.ite ?_ ?_
      | refine LeO.bind ?_ (fun _ => ?_)
theorem substationlaw35_RecloserCycle.mono : ∀ a0 a1 a2 a3 k, LeO (substationlaw35_RecloserCycle.f k a0 a1 a2 a3) (substationlaw35_RecloserCycle.f (k + 1) a0 a1 a2 a3) := by
  intro a0 a1 a2 a3 k
  obtain ⟨ih0, ih1⟩ := substationlaw35_RecloserCycle.mono_l k
  unfold substationlaw35_RecloserCycle.f
  repeat' first
      | (with_reducible exact ih0 _ _ _ _ _)
      | (with_reducible exact ih1 _ _ _ _ _ _ _ _ _ _ _ _ _ _ _ _)
      | (with_reducible exact breaker_Step.mono _ _ _ _ _ _ _ _ _)
      | (with_reducible exact recloser_Valid.mono _ _ _ _ _ _ _)
      | (with_reducible exact substationlaw35_known.mono _)
      | (with_reducible exact LeO.refl _)
      | (with_reducible exact LeO.none _)
      | (with_reducible refine LeO.ite ?_ ?_)
      | (with_reducible refine LeO.bind ?_ (fun _ => ?_))
      | exact ih0 _ _ _ _ _
      | exact ih1 _ _ _ _ _ _ _ _ _ _ _ _ _ _ _ _
      | exact breaker_Step.mono _ _ _ _ _ _ _ _ _
      | exact recloser_Valid.mono _ _ _ _ _ _ _
      | exact substationlaw35_known.mono _
      | exact LeO.none _
      | refine LeO.ite ?_ ?_
      | refine LeO.bind ?_ (fun _ => ?_)
def substationlaw35_RecloserCycle.T15 : Bool × List (List Nat × List Nat) := (true, [([], []), ([0, 0], [0]), ([1], [1]), ([2, 1], [1, 2]), ([1, 3], [1, 3]), ([4, 1], [4]), ([5], [5]), ([5, 5], [5]), ([6, 7, 5], [5, 6, 7]), ([5, 8], [5, 8]), ([9, 7], [9]), ([10], [10]), ([10], [10]), ([11, 12, 10], [10, 11, 12]), ([10, 13], [10, 13]), ([14, 10, 0, 1, 2, 3, 4, 5, 6, 7, 8, 9, 10, 11, 12, 13, 14], [14])])
def substationlaw35_RecloserCycle.B15 : List Nat := [0, 1, 3, 7, 15, 31, 63, 63, 255, 511, 1023, 2047, 2047, 8191, 16383, 32767]
theorem substationlaw35_RecloserCycle.tab15 : rtab .any (opsOf Try.f9 15) = substationlaw35_RecloserCycle.T15 := by kernel_rfl
theorem substationlaw35_RecloserCycle.bits15 : waitsOk substationlaw35_RecloserCycle.T15.2 substationlaw35_RecloserCycle.B15 = true := by kernel_rfl
set_option maxHeartbeats 8000000 in
set_option maxRecDepth 100000 in
theorem substationlaw35_RecloserCycle.calls (k : Nat) (a0_0 : Int) (a0_1 : Int) (a0_2 : Int) (a1 : Int) (r : Bool) (w : World) (h : substationlaw35_RecloserCycle.f k a0_0 a0_1 a0_2 a1 = some r) :
    Calls Try.prog 9 #[.agg #[.int .i64 a0_0, .int .i64 a0_1, .int .i64 a0_2], .int .i64 a1] w fun e w' => e = .returned (.bool r) ∧ Below w.heap.size w w' := by
  have hu23 := Try.underlying23
  have hu25 := Try.underlying25
  have hu40 := Try.underlying40
  have hu29 := Try.underlying29
  have HB := Aside0.mk (Below.refl w.heap.size w)
  have H : ((recloser_Valid.f k a0_0 a0_1 a0_2 0 0 0).bind fun t310 => (if t310 = true then (if a1 < 1 then (substationlaw35_RecloserCycle.j0 k a1 true a0_0 a0_1 a0_2) else (substationlaw35_RecloserCycle.j0 k a1 (decide (a1 > 6)) a0_0 a0_1 a0_2)) else (substationlaw35_RecloserCycle.j0 k a1 true a0_0 a0_1 a0_2))) = some r := h
  clear h
  have HC3 := Aside0.mk H
  clear H
  go_enter Try.func9, Try.ntmps9
  go_upto_region 1 with (first | ((with_reducible refine gate_dst (N := 2) rfl ?_); refine box_event ?hg (N := 2) ?hd (cs := #[.int .i64 a0_0, .int .i64 a0_1, .int .i64 a0_2]) (t := 23) ?hr ?_; (case hd => rfl); (case hg => rfl); (case hr => first | (go_simp; done) | (go_simp; rfl)); intro gb309 hg w4 hbox hb; have n0_ := Aside0.mk (below_step (by repeat (first | (with_reducible first | exact HB.out | apply below_alloc | apply pw_below_drewN | apply below_drew1) | exact HB.out)) hb); have n1_ := Aside0.mk (hbox); have n2_ := Aside0.mk ((by rw [hg]; exact (below_size (by repeat (first | (with_reducible first | exact HB.out | apply below_alloc | apply pw_below_drewN | apply below_drew1) | exact HB.out))) : w.heap.size ≤ gb309)); have n3_ := Aside0.mk ((by rw [hg]; exact (below_size (by repeat (first | (with_reducible first | exact HB.out | apply below_alloc | apply pw_below_drewN | apply below_drew1) | exact HB.out))) : w.heap.size ≤ gb309)); clear HB; have HB := n0_; have BK309 := n1_; have GW309 := n2_; have GE309 := n3_; clear n0_ n1_ n2_ n3_; clear hb hbox hg))
  (try simp only [Act.put, List.setIfInBounds_toArray, List.set_cons_zero, List.set_cons_succ])
  go_cut [28] (fun v28 wc => ∃ (kq : Nat) (x28_2 : Bool), v28 = .bool x28_2 ∧ Aside0 (substationlaw35_RecloserCycle.j0 kq a1 x28_2 a0_0 a0_1 a0_2 = some r) ∧ Aside0 (kq ≤ k) ∧ Aside0 (wc.heap[gb309]? = some (.cells #[.int .i64 a0_0, .int .i64 a0_1, .int .i64 a0_2] 23 (0, 0))) ∧ Aside0 (Below w.heap.size w wc))
  case first =>
    have H := HC3.out
    clear HC3
    replace H := Option.bind_eq_some_iff.mp H
    obtain ⟨t310, A50, H⟩ := H
    replace H : (if t310 = true then (if a1 < 1 then (substationlaw35_RecloserCycle.j0 k a1 true a0_0 a0_1 a0_2) else (substationlaw35_RecloserCycle.j0 k a1 (decide (a1 > 6)) a0_0 a0_1 a0_2)) else (substationlaw35_RecloserCycle.j0 k a1 true a0_0 a0_1 a0_2)) = some r := H
    have A5 := Aside0.mk A50
    clear A50
    by_cases c6 : t310 = true
    · subst c6
      have H1 : (if a1 < 1 then (substationlaw35_RecloserCycle.j0 k a1 true a0_0 a0_1 a0_2) else (substationlaw35_RecloserCycle.j0 k a1 (decide (a1 > 6)) a0_0 a0_1 a0_2)) = some r := by rw [if_pos rfl] at H; exact H
      clear H
      have H := H1
      clear H1
      by_cases c7 : a1 < 1
      · rw [if_pos c7] at H
        have c7b0 : decide (a1 < 1) = true := decide_eq_true c7
        clear c7
        (first | rw [c7b0] | (simp only [i64_w, i32_w]; rw [c7b0]) | skip)
        have H' := Aside0.mk H
        clear H
        have hcz8_0 : w4.cell? ⟨gb309, 0, none⟩ = some (.int .i64 a0_0) := (blk_cell BK309.out 0).trans rfl
        have hcz8_1 : w4.cell? ⟨gb309, 1, none⟩ = some (.int .i64 a0_1) := (blk_cell BK309.out 1).trans rfl
        have hcz8_2 : w4.cell? ⟨gb309, 2, none⟩ = some (.int .i64 a0_2) := (blk_cell BK309.out 2).trans rfl
        have hfz8_0 := blk_frozen BK309.out 0
        have hfz8_1 := blk_frozen BK309.out 1
        have hfz8_2 := blk_frozen BK309.out 2
        go_wp2_with (first | ((with_reducible refine gate_callee (f := 14) rfl ?_); refine goesL_ (some 19) rfl rfl Try.func14 (by kernel_rfl) rfl #[.int .i64 a0_0, .int .i64 a0_1, .int .i64 a0_2, .agg #[.int .i64 0, .int .i64 0, .int .i64 0]] rfl (by (try simp only [List.map_toArray, List.map_cons, List.map_nil]); first | done | rfl | (simp only [List.length_drop, List.length_take]; rfl)) ?_; (with_reducible refine (recloser_Valid.calls k a0_0 a0_1 a0_2 0 0 0 true _ A5.out).mono ?_); rintro e w9 ⟨rfl, hb⟩; refine ⟨_, rfl, ?_⟩; have n0_ := Aside0.mk (blk_below (g := gb309) (o := .cells #[.int .i64 a0_0, .int .i64 a0_1, .int .i64 a0_2] 23 (0, 0)) (by (with_reducible repeat (first | refine blk_drewN ?_ _ | refine blk_drew ?_ | refine blk_alloc ?_ _)); exact BK309.out) hb); have n1_ := Aside0.mk (below_step (by repeat (first | (with_reducible first | exact HB.out | apply below_alloc | apply pw_below_drewN | apply below_drew1 | refine below_set ?_ GE309.out) | exact HB.out)) hb); clear BK309; clear HB; have BK309 := n0_; have HB := n1_; clear n0_ n1_; (try clear hb); (try clear hb2); (try clear hk); (try clear hi)))
        go_meet
        case rel => exact ⟨_, (true), (by first | rfl | (simp; done) | (simp [*]; done)), H', ⟨by first | omega | exact Nat.le_refl _⟩, ⟨by (with_reducible repeat (first | refine blk_drewN ?_ _ | refine blk_drew ?_ | refine blk_alloc ?_ _)); exact BK309.out⟩, ⟨by repeat (first | (with_reducible first | exact HB.out | apply below_alloc | apply pw_below_drewN | apply below_drew1 | refine below_set ?_ GE309.out) | exact HB.out)⟩⟩
      · rw [if_neg c7] at H
        have c7b0 : decide (a1 < 1) = false := decide_eq_false c7
        clear c7
        (first | rw [c7b0] | (simp only [i64_w, i32_w]; rw [c7b0]) | skip)
        have H' := Aside0.mk H
        clear H
        have hcz10_0 : w4.cell? ⟨gb309, 0, none⟩ = some (.int .i64 a0_0) := (blk_cell BK309.out 0).trans rfl
        have hcz10_1 : w4.cell? ⟨gb309, 1, none⟩ = some (.int .i64 a0_1) := (blk_cell BK309.out 1).trans rfl
        have hcz10_2 : w4.cell? ⟨gb309, 2, none⟩ = some (.int .i64 a0_2) := (blk_cell BK309.out 2).trans rfl
        have hfz10_0 := blk_frozen BK309.out 0
        have hfz10_1 := blk_frozen BK309.out 1
        have hfz10_2 := blk_frozen BK309.out 2
        go_wp2_with (first | ((with_reducible refine gate_callee (f := 14) rfl ?_); refine goesL_ (some 19) rfl rfl Try.func14 (by kernel_rfl) rfl #[.int .i64 a0_0, .int .i64 a0_1, .int .i64 a0_2, .agg #[.int .i64 0, .int .i64 0, .int .i64 0]] rfl (by (try simp only [List.map_toArray, List.map_cons, List.map_nil]); first | done | rfl | (simp only [List.length_drop, List.length_take]; rfl)) ?_; (with_reducible refine (recloser_Valid.calls k a0_0 a0_1 a0_2 0 0 0 true _ A5.out).mono ?_); rintro e w11 ⟨rfl, hb⟩; refine ⟨_, rfl, ?_⟩; have n0_ := Aside0.mk (blk_below (g := gb309) (o := .cells #[.int .i64 a0_0, .int .i64 a0_1, .int .i64 a0_2] 23 (0, 0)) (by (with_reducible repeat (first | refine blk_drewN ?_ _ | refine blk_drew ?_ | refine blk_alloc ?_ _)); exact BK309.out) hb); have n1_ := Aside0.mk (below_step (by repeat (first | (with_reducible first | exact HB.out | apply below_alloc | apply pw_below_drewN | apply below_drew1 | refine below_set ?_ GE309.out) | exact HB.out)) hb); clear BK309; clear HB; have BK309 := n0_; have HB := n1_; clear n0_ n1_; (try clear hb); (try clear hb2); (try clear hk); (try clear hi)))
        go_meet
        case rel => exact ⟨_, (decide (a1 > 6)), (by first | rfl | (simp; done) | (simp [*]; done)), H', ⟨by first | omega | exact Nat.le_refl _⟩, ⟨by (with_reducible repeat (first | refine blk_drewN ?_ _ | refine blk_drew ?_ | refine blk_alloc ?_ _)); exact BK309.out⟩, ⟨by repeat (first | (with_reducible first | exact HB.out | apply below_alloc | apply pw_below_drewN | apply below_drew1 | refine below_set ?_ GE309.out) | exact HB.out)⟩⟩
    · replace c6 := Bool.eq_false_iff.mpr c6
      subst c6
      have H1 : (substationlaw35_RecloserCycle.j0 k a1 true a0_0 a0_1 a0_2) = some r := by rw [if_neg (show ¬ (false = true) by decide)] at H; exact H
      clear H
      have H := H1
      clear H1
      have H' := Aside0.mk H
      clear H
      have hcz12_0 : w4.cell? ⟨gb309, 0, none⟩ = some (.int .i64 a0_0) := (blk_cell BK309.out 0).trans rfl
      have hcz12_1 : w4.cell? ⟨gb309, 1, none⟩ = some (.int .i64 a0_1) := (blk_cell BK309.out 1).trans rfl
      have hcz12_2 : w4.cell? ⟨gb309, 2, none⟩ = some (.int .i64 a0_2) := (blk_cell BK309.out 2).trans rfl
      have hfz12_0 := blk_frozen BK309.out 0
      have hfz12_1 := blk_frozen BK309.out 1
      have hfz12_2 := blk_frozen BK309.out 2
      go_wp2_with (first | ((with_reducible refine gate_callee (f := 14) rfl ?_); refine goesL_ (some 19) rfl rfl Try.func14 (by kernel_rfl) rfl #[.int .i64 a0_0, .int .i64 a0_1, .int .i64 a0_2, .agg #[.int .i64 0, .int .i64 0, .int .i64 0]] rfl (by (try simp only [List.map_toArray, List.map_cons, List.map_nil]); first | done | rfl | (simp only [List.length_drop, List.length_take]; rfl)) ?_; (with_reducible refine (recloser_Valid.calls k a0_0 a0_1 a0_2 0 0 0 false _ A5.out).mono ?_); rintro e w13 ⟨rfl, hb⟩; refine ⟨_, rfl, ?_⟩; have n0_ := Aside0.mk (blk_below (g := gb309) (o := .cells #[.int .i64 a0_0, .int .i64 a0_1, .int .i64 a0_2] 23 (0, 0)) (by (with_reducible repeat (first | refine blk_drewN ?_ _ | refine blk_drew ?_ | refine blk_alloc ?_ _)); exact BK309.out) hb); have n1_ := Aside0.mk (below_step (by repeat (first | (with_reducible first | exact HB.out | apply below_alloc | apply pw_below_drewN | apply below_drew1 | refine below_set ?_ GE309.out) | exact HB.out)) hb); clear BK309; clear HB; have BK309 := n0_; have HB := n1_; clear n0_ n1_; (try clear hb); (try clear hb2); (try clear hk); (try clear hi)))
      go_meet
      case rel => exact ⟨_, (true), (by first | rfl | (simp; done) | (simp [*]; done)), H', ⟨by first | omega | exact Nat.le_refl _⟩, ⟨by (with_reducible repeat (first | refine blk_drewN ?_ _ | refine blk_drew ?_ | refine blk_alloc ?_ _)); exact BK309.out⟩, ⟨by repeat (first | (with_reducible first | exact HB.out | apply below_alloc | apply pw_below_drewN | apply below_drew1 | refine below_set ?_ GE309.out) | exact HB.out)⟩⟩
  case rest =>
    clear HC3
    try clear c1
    try clear p2
    try clear c6
    try clear c7
    try clear c7b0
    try clear c9
    try clear hcz10_0
    try clear hcz10_1
    try clear hcz10_2
    try clear hcz12_0
    try clear hcz12_1
    try clear hcz12_2
    try clear hcz8_0
    try clear hcz8_1
    try clear hcz8_2
    try clear hfz10_0
    try clear hfz10_1
    try clear hfz10_2
    try clear hfz12_0
    try clear hfz12_1
    try clear hfz12_2
    try clear hfz8_0
    try clear hfz8_1
    try clear hfz8_2
    obtain ⟨kq, x28_2, rfl, HA, HJ2, BK309, HB⟩ := hcut
    cases kq with
    | zero => exact absurd HA.out (by simp [substationlaw35_RecloserCycle.j0])
    | succ kj2 =>
      have H := HA.out
      clear HA
      simp only [substationlaw35_RecloserCycle.j0] at H
      by_cases c14 : x28_2 = true
      · subst c14
        have H1 : ((substationlaw35_known.f kj2).bind fun t311 => (some t311)) = some r := by rw [if_pos rfl] at H; exact H
        clear H
        have H := H1
        clear H1
        replace H := Option.bind_eq_some_iff.mp H
        obtain ⟨t311, A150, H⟩ := H
        replace H : (some t311) = some r := H
        have A15 := Aside0.mk A150
        clear A150
        obtain rfl := Option.some.inj H
        go_wp2_with (first | ((with_reducible refine gate_callee (f := 12) rfl ?_); refine goesL_ (some 29) rfl rfl Try.func12 (by kernel_rfl) rfl #[] rfl (by (try simp only [List.map_toArray, List.map_cons, List.map_nil]); first | done | rfl | (simp only [List.length_drop, List.length_take]; rfl)) ?_; (with_reducible refine (substationlaw35_known.calls kj2  t311 _ A15.out).mono ?_); rintro e w16 ⟨rfl, hb⟩; refine ⟨_, rfl, ?_⟩; have n0_ := Aside0.mk (blk_below (g := gb309) (o := .cells #[.int .i64 a0_0, .int .i64 a0_1, .int .i64 a0_2] 23 (0, 0)) (by (with_reducible repeat (first | refine blk_drewN ?_ _ | refine blk_drew ?_ | refine blk_alloc ?_ _)); exact BK309.out) hb); have n1_ := Aside0.mk (below_step (by repeat (first | (with_reducible first | exact HB.out | apply below_alloc | apply pw_below_drewN | apply below_drew1 | refine below_set ?_ GE309.out) | exact HB.out)) hb); clear BK309; clear HB; have BK309 := n0_; have HB := n1_; clear n0_ n1_; (try clear hb); (try clear hb2); (try clear hk); (try clear hi)))
        go_ret
        exact ⟨by first | rfl | (simp [errW_none, errW_some] <;> rfl) | (simp [*, errW_none, errW_some] <;> rfl), by repeat (first | (with_reducible first | exact HB.out | apply below_alloc | apply pw_below_drewN | apply below_drew1 | refine below_set ?_ GE309.out) | exact HB.out)⟩
      · replace c14 := Bool.eq_false_iff.mpr c14
        subst c14
        have H1 : ((breaker_New.f true).bind fun bt312 => (substationlaw35_RecloserCycle.l0 kj2 a1 true false 0 (wrap64 ((wrap64 ((wrap64 ((wrap64 (2 * a1)) + a0_1)) + a0_2)) + 5)) 0 a0_0 a0_1 a0_2 bt312.1 bt312.2.1 bt312.2.2.1 bt312.2.2.2 0 0 0)) = some r := by rw [if_neg (show ¬ (false = true) by decide)] at H; exact H
        clear H
        have H := H1
        clear H1
        replace H := Option.bind_eq_some_iff.mp H
        obtain ⟨⟨t312, t313, t314, t315⟩, A170, H⟩ := H
        replace H : (substationlaw35_RecloserCycle.l0 kj2 a1 true false 0 (wrap64 ((wrap64 ((wrap64 ((wrap64 (2 * a1)) + a0_1)) + a0_2)) + 5)) 0 a0_0 a0_1 a0_2 t312 t313 t314 t315 0 0 0) = some r := H
        have A17 := Aside0.mk A170
        clear A170
        have H' := Aside0.mk H
        clear H
        go_wp2_with (first | ((with_reducible refine gate_callee (f := 17) rfl ?_); refine goesL_ (some 30) rfl rfl Try.func17 (by kernel_rfl) rfl #[.bool true] rfl (by (try simp only [List.map_toArray, List.map_cons, List.map_nil]); first | done | rfl | (simp only [List.length_drop, List.length_take]; rfl)) ?_; (with_reducible refine (breaker_New.calls true t312 t313 t314 t315 _ A17.out).mono ?_); rintro e w18 ⟨rfl, hb⟩; refine ⟨_, rfl, ?_⟩; have n0_ := Aside0.mk (blk_below (g := gb309) (o := .cells #[.int .i64 a0_0, .int .i64 a0_1, .int .i64 a0_2] 23 (0, 0)) (by (with_reducible repeat (first | refine blk_drewN ?_ _ | refine blk_drew ?_ | refine blk_alloc ?_ _)); exact BK309.out) hb); have n1_ := Aside0.mk (below_step (by repeat (first | (with_reducible first | exact HB.out | apply below_alloc | apply pw_below_drewN | apply below_drew1 | refine below_set ?_ GE309.out) | exact HB.out)) hb); clear BK309; clear HB; have BK309 := n0_; have HB := n1_; clear n0_ n1_; (try clear hb); (try clear hb2); (try clear hk); (try clear hi)) | ((with_reducible refine gate_dst (N := 5) rfl ?_); refine box_event ?hg (N := 5) ?hd (cs := #[.bool false, .bool false, .int .i64 0, .bool false]) (t := 40) ?hr ?_; (case hd => rfl); (case hg => rfl); (case hr => first | (go_simp; done) | (go_simp; rfl)); intro gb316 hg w19 hbox hb; have n0_ := Aside0.mk (blk_below (g := gb309) (o := .cells #[.int .i64 a0_0, .int .i64 a0_1, .int .i64 a0_2] 23 (0, 0)) (by (with_reducible repeat (first | refine blk_drewN ?_ _ | refine blk_drew ?_ | refine blk_alloc ?_ _)); exact BK309.out) hb); have n1_ := Aside0.mk (below_step (by repeat (first | (with_reducible first | exact HB.out | apply below_alloc | apply pw_below_drewN | apply below_drew1 | refine below_set ?_ GE309.out) | exact HB.out)) hb); have n2_ := Aside0.mk (hbox); have n3_ := Aside0.mk ((by rw [hg]; exact (below_size (by repeat (first | (with_reducible first | exact HB.out | apply below_alloc | apply pw_below_drewN | apply below_drew1 | refine below_set ?_ GE309.out) | exact HB.out))) : w.heap.size ≤ gb316)); have n4_ := Aside0.mk ((by rw [hg]; exact (below_size (by repeat (first | (with_reducible first | exact HB.out | apply below_alloc | apply pw_below_drewN | apply below_drew1 | refine below_set ?_ GE309.out) | exact HB.out))) : w.heap.size ≤ gb316)); have n5_ := Aside0.mk ((by rw [hg]; exact Nat.ne_of_lt (blk_lt (g := gb309) (o := .cells #[.int .i64 a0_0, .int .i64 a0_1, .int .i64 a0_2] 23 (0, 0)) (by (with_reducible repeat (first | refine blk_drewN ?_ _ | refine blk_drew ?_ | refine blk_alloc ?_ _)); exact BK309.out)) : gb309 ≠ gb316)); have n6_ := Aside0.mk ((by rw [hg]; exact Nat.ne_of_gt (blk_lt (g := gb309) (o := .cells #[.int .i64 a0_0, .int .i64 a0_1, .int .i64 a0_2] 23 (0, 0)) (by (with_reducible repeat (first | refine blk_drewN ?_ _ | refine blk_drew ?_ | refine blk_alloc ?_ _)); exact BK309.out)) : gb316 ≠ gb309)); clear BK309; clear HB; have BK309 := n0_; have HB := n1_; have BK316 := n2_; have GW316 := n3_; have GE316 := n4_; have NB309_316 := n5_; have NB316_309 := n6_; clear n0_ n1_ n2_ n3_ n4_ n5_ n6_; clear hb hbox hg) | ((with_reducible refine gate_dst (N := 6) rfl ?_); refine box_event ?hg (N := 6) ?hd (cs := #[.int .i64 0, .int .i64 0, .int .i64 0]) (t := 25) ?hr ?_; (case hd => rfl); (case hg => rfl); (case hr => first | (go_simp; done) | (go_simp; rfl)); intro gb317 hg w20 hbox hb; have n0_ := Aside0.mk (blk_below (g := gb309) (o := .cells #[.int .i64 a0_0, .int .i64 a0_1, .int .i64 a0_2] 23 (0, 0)) (by (with_reducible repeat (first | refine blk_drewN ?_ _ | refine blk_drew ?_ | refine blk_alloc ?_ _)); exact BK309.out) hb); have n1_ := Aside0.mk (blk_below (g := gb316) (o := .cells #[.bool false, .bool false, .int .i64 0, .bool false] 40 (0, 0)) (by (with_reducible repeat (first | refine blk_drewN ?_ _ | refine blk_drew ?_ | refine blk_alloc ?_ _)); exact BK316.out) hb); have n2_ := Aside0.mk (below_step (by repeat (first | (with_reducible first | exact HB.out | apply below_alloc | apply pw_below_drewN | apply below_drew1 | refine below_set ?_ GE309.out | refine below_set ?_ GE316.out) | exact HB.out)) hb); have n3_ := Aside0.mk (hbox); have n4_ := Aside0.mk ((by rw [hg]; exact (below_size (by repeat (first | (with_reducible first | exact HB.out | apply below_alloc | apply pw_below_drewN | apply below_drew1 | refine below_set ?_ GE309.out | refine below_set ?_ GE316.out) | exact HB.out))) : w.heap.size ≤ gb317)); have n5_ := Aside0.mk ((by rw [hg]; exact (below_size (by repeat (first | (with_reducible first | exact HB.out | apply below_alloc | apply pw_below_drewN | apply below_drew1 | refine below_set ?_ GE309.out | refine below_set ?_ GE316.out) | exact HB.out))) : w.heap.size ≤ gb317)); have n6_ := Aside0.mk ((by rw [hg]; exact Nat.ne_of_lt (blk_lt (g := gb309) (o := .cells #[.int .i64 a0_0, .int .i64 a0_1, .int .i64 a0_2] 23 (0, 0)) (by (with_reducible repeat (first | refine blk_drewN ?_ _ | refine blk_drew ?_ | refine blk_alloc ?_ _)); exact BK309.out)) : gb309 ≠ gb317)); have n7_ := Aside0.mk ((by rw [hg]; exact Nat.ne_of_gt (blk_lt (g := gb309) (o := .cells #[.int .i64 a0_0, .int .i64 a0_1, .int .i64 a0_2] 23 (0, 0)) (by (with_reducible repeat (first | refine blk_drewN ?_ _ | refine blk_drew ?_ | refine blk_alloc ?_ _)); exact BK309.out)) : gb317 ≠ gb309)); have n8_ := Aside0.mk ((by rw [hg]; exact Nat.ne_of_lt (blk_lt (g := gb316) (o := .cells #[.bool false, .bool false, .int .i64 0, .bool false] 40 (0, 0)) (by (with_reducible repeat (first | refine blk_drewN ?_ _ | refine blk_drew ?_ | refine blk_alloc ?_ _)); exact BK316.out)) : gb316 ≠ gb317)); have n9_ := Aside0.mk ((by rw [hg]; exact Nat.ne_of_gt (blk_lt (g := gb316) (o := .cells #[.bool false, .bool false, .int .i64 0, .bool false] 40 (0, 0)) (by (with_reducible repeat (first | refine blk_drewN ?_ _ | refine blk_drew ?_ | refine blk_alloc ?_ _)); exact BK316.out)) : gb317 ≠ gb316)); clear BK309; clear BK316; clear HB; have BK309 := n0_; have BK316 := n1_; have HB := n2_; have BK317 := n3_; have GW317 := n4_; have GE317 := n5_; have NB309_317 := n6_; have NB317_309 := n7_; have NB316_317 := n8_; have NB317_316 := n9_; clear n0_ n1_ n2_ n3_ n4_ n5_ n6_ n7_ n8_ n9_; clear hb hbox hg; have hnb21 := NB316_309.out; have hnc21 := NB309_316.out; have hnb22 := NB316_317.out; have hnc22 := NB317_316.out; have hcz23_0 : w20.cell? ⟨gb316, 0, none⟩ = some (.bool false) := (blk_cell BK316.out 0).trans rfl; have hcz23_1 : w20.cell? ⟨gb316, 1, none⟩ = some (.bool false) := (blk_cell BK316.out 1).trans rfl; have hcz23_2 : w20.cell? ⟨gb316, 2, none⟩ = some (.int .i64 0) := (blk_cell BK316.out 2).trans rfl; have hcz23_3 : w20.cell? ⟨gb316, 3, none⟩ = some (.bool false) := (blk_cell BK316.out 3).trans rfl; have hfz23_0 := blk_frozen BK316.out 0; have hfz23_1 := blk_frozen BK316.out 1; have hfz23_2 := blk_frozen BK316.out 2; have hfz23_3 := blk_frozen BK316.out 3; have hnb24 := NB317_309.out; have hnc24 := NB309_317.out; have hcz25_0 : w20.cell? ⟨gb317, 0, none⟩ = some (.int .i64 0) := (blk_cell BK317.out 0).trans rfl; have hcz25_1 : w20.cell? ⟨gb317, 1, none⟩ = some (.int .i64 0) := (blk_cell BK317.out 1).trans rfl; have hcz25_2 : w20.cell? ⟨gb317, 2, none⟩ = some (.int .i64 0) := (blk_cell BK317.out 2).trans rfl; have hfz25_0 := blk_frozen BK317.out 0; have hfz25_1 := blk_frozen BK317.out 1; have hfz25_2 := blk_frozen BK317.out 2; have hcz26_0 : w20.cell? ⟨gb309, 0, none⟩ = some (.int .i64 a0_0) := (blk_cell BK309.out 0).trans rfl; have hcz26_1 : w20.cell? ⟨gb309, 1, none⟩ = some (.int .i64 a0_1) := (blk_cell BK309.out 1).trans rfl; have hcz26_2 : w20.cell? ⟨gb309, 2, none⟩ = some (.int .i64 a0_2) := (blk_cell BK309.out 2).trans rfl; have hfz26_0 := blk_frozen BK309.out 0; have hfz26_1 := blk_frozen BK309.out 1; have hfz26_2 := blk_frozen BK309.out 2))
        go_loopg [7, 8, 9, 11] kj2 (fun kq v7 v8 v9 v11 w' => ∃ (x7_2 : Bool) (x8_2 : Bool) (x9_2 : Int) (x11_2 : Int) (x317000_2 : Bool) (x317001_2 : Bool) (x317002_2 : Int) (x317003_2 : Bool) (x318000_2 : Int) (x318001_2 : Int) (x318002_2 : Int), v7 = .bool x7_2 ∧ v8 = .bool x8_2 ∧ v9 = .int .i64 x9_2 ∧ v11 = .int .i64 x11_2 ∧ Aside0 (substationlaw35_RecloserCycle.l0 kq a1 x7_2 x8_2 x9_2 (wrap64 ((wrap64 ((wrap64 ((wrap64 (2 * a1)) + a0_1)) + a0_2)) + 5)) x11_2 a0_0 a0_1 a0_2 x317000_2 x317001_2 x317002_2 x317003_2 x318000_2 x318001_2 x318002_2 = some r) ∧ Aside0 (kq ≤ kj2) ∧ Aside0 (w'.heap[gb309]? = some (.cells #[.int .i64 a0_0, .int .i64 a0_1, .int .i64 a0_2] 23 (0, 0))) ∧ Aside0 (w'.heap[gb316]? = some (.cells #[.bool x317000_2, .bool x317001_2, .int .i64 x317002_2, .bool x317003_2] 40 (0, 0))) ∧ Aside0 (w'.heap[gb317]? = some (.cells #[.int .i64 x318000_2, .int .i64 x318001_2, .int .i64 x318002_2] 25 (0, 0))) ∧ Aside0 (Below w.heap.size w w'))
        case atStart => exact ⟨(true), (false), (0), (0), (t312), (t313), (t314), (t315), (0), (0), (0), (by first | rfl | (simp; done) | (simp [*]; done)), (by first | rfl | (simp; done) | (simp [*]; done)), (by first | rfl | (simp; done) | (simp [*]; done)), (by first | rfl | (simp; done) | (simp [*]; done)), H', ⟨Nat.le_refl _⟩, ⟨by (with_reducible repeat (first | refine blk_drewN ?_ _ | refine blk_drew ?_ | refine blk_alloc ?_ _)); refine blk_far ?_ NB309_317.out _; (with_reducible repeat (first | refine blk_drewN ?_ _ | refine blk_drew ?_ | refine blk_alloc ?_ _)); refine blk_far ?_ NB309_317.out _; (with_reducible repeat (first | refine blk_drewN ?_ _ | refine blk_drew ?_ | refine blk_alloc ?_ _)); refine blk_far ?_ NB309_317.out _; (with_reducible repeat (first | refine blk_drewN ?_ _ | refine blk_drew ?_ | refine blk_alloc ?_ _)); refine blk_far ?_ NB309_316.out _; (with_reducible repeat (first | refine blk_drewN ?_ _ | refine blk_drew ?_ | refine blk_alloc ?_ _)); refine blk_far ?_ NB309_316.out _; (with_reducible repeat (first | refine blk_drewN ?_ _ | refine blk_drew ?_ | refine blk_alloc ?_ _)); refine blk_far ?_ NB309_316.out _; (with_reducible repeat (first | refine blk_drewN ?_ _ | refine blk_drew ?_ | refine blk_alloc ?_ _)); refine blk_far ?_ NB309_316.out _; (with_reducible repeat (first | refine blk_drewN ?_ _ | refine blk_drew ?_ | refine blk_alloc ?_ _)); exact BK309.out⟩, ⟨by (with_reducible repeat (first | refine blk_drewN ?_ _ | refine blk_drew ?_ | refine blk_alloc ?_ _)); refine blk_far ?_ NB316_317.out _; (with_reducible repeat (first | refine blk_drewN ?_ _ | refine blk_drew ?_ | refine blk_alloc ?_ _)); refine blk_far ?_ NB316_317.out _; (with_reducible repeat (first | refine blk_drewN ?_ _ | refine blk_drew ?_ | refine blk_alloc ?_ _)); refine blk_far ?_ NB316_317.out _; (with_reducible repeat (first | refine blk_drewN ?_ _ | refine blk_drew ?_ | refine blk_alloc ?_ _)); refine blk_put (cs := #[.bool t312, .bool t313, .int .i64 t314, .bool false]) ?_ 3 _ rfl; (with_reducible repeat (first | refine blk_drewN ?_ _ | refine blk_drew ?_ | refine blk_alloc ?_ _)); refine blk_put (cs := #[.bool t312, .bool t313, .int .i64 0, .bool false]) ?_ 2 _ rfl; (with_reducible repeat (first | refine blk_drewN ?_ _ | refine blk_drew ?_ | refine blk_alloc ?_ _)); refine blk_put (cs := #[.bool t312, .bool false, .int .i64 0, .bool false]) ?_ 1 _ rfl; (with_reducible repeat (first | refine blk_drewN ?_ _ | refine blk_drew ?_ | refine blk_alloc ?_ _)); refine blk_put (cs := #[.bool false, .bool false, .int .i64 0, .bool false]) ?_ 0 _ rfl; (with_reducible repeat (first | refine blk_drewN ?_ _ | refine blk_drew ?_ | refine blk_alloc ?_ _)); exact BK316.out⟩, ⟨by (with_reducible repeat (first | refine blk_drewN ?_ _ | refine blk_drew ?_ | refine blk_alloc ?_ _)); refine blk_put (cs := #[.int .i64 0, .int .i64 0, .int .i64 0]) ?_ 2 _ rfl; (with_reducible repeat (first | refine blk_drewN ?_ _ | refine blk_drew ?_ | refine blk_alloc ?_ _)); refine blk_put (cs := #[.int .i64 0, .int .i64 0, .int .i64 0]) ?_ 1 _ rfl; (with_reducible repeat (first | refine blk_drewN ?_ _ | refine blk_drew ?_ | refine blk_alloc ?_ _)); refine blk_put (cs := #[.int .i64 0, .int .i64 0, .int .i64 0]) ?_ 0 _ rfl; (with_reducible repeat (first | refine blk_drewN ?_ _ | refine blk_drew ?_ | refine blk_alloc ?_ _)); refine blk_far ?_ NB317_316.out _; (with_reducible repeat (first | refine blk_drewN ?_ _ | refine blk_drew ?_ | refine blk_alloc ?_ _)); refine blk_far ?_ NB317_316.out _; (with_reducible repeat (first | refine blk_drewN ?_ _ | refine blk_drew ?_ | refine blk_alloc ?_ _)); refine blk_far ?_ NB317_316.out _; (with_reducible repeat (first | refine blk_drewN ?_ _ | refine blk_drew ?_ | refine blk_alloc ?_ _)); refine blk_far ?_ NB317_316.out _; (with_reducible repeat (first | refine blk_drewN ?_ _ | refine blk_drew ?_ | refine blk_alloc ?_ _)); exact BK317.out⟩, ⟨by repeat (first | (with_reducible first | exact HB.out | apply below_alloc | apply pw_below_drewN | apply below_drew1 | refine below_set ?_ GE309.out | refine below_set ?_ GE316.out | refine below_set ?_ GE317.out) | exact HB.out)⟩⟩
        case round =>
          clear H'
          try clear c1
          try clear c2
          try clear p2
          try clear c6
          try clear p6
          try clear c7
          try clear c7b0
          try clear c9
          try clear c12
          try clear c14
          try clear c17
          try clear c21
          try clear c22
          try clear c24
          try clear hcz10_0
          try clear hcz10_1
          try clear hcz10_2
          try clear hcz12_0
          try clear hcz12_1
          try clear hcz12_2
          try clear hcz23_0
          try clear hcz23_1
          try clear hcz23_2
          try clear hcz23_3
          try clear hcz25_0
          try clear hcz25_1
          try clear hcz25_2
          try clear hcz26_0
          try clear hcz26_1
          try clear hcz26_2
          try clear hcz8_0
          try clear hcz8_1
          try clear hcz8_2
          try clear hfz10_0
          try clear hfz10_1
          try clear hfz10_2
          try clear hfz12_0
          try clear hfz12_1
          try clear hfz12_2
          try clear hfz23_0
          try clear hfz23_1
          try clear hfz23_2
          try clear hfz23_3
          try clear hfz25_0
          try clear hfz25_1
          try clear hfz25_2
          try clear hfz26_0
          try clear hfz26_1
          try clear hfz26_2
          try clear hfz8_0
          try clear hfz8_1
          try clear hfz8_2
          try clear p2
          obtain ⟨x7_2, x8_2, x9_2, x11_2, x317000_2, x317001_2, x317002_2, x317003_2, x318000_2, x318001_2, x318002_2, rfl, rfl, rfl, rfl, HA, HK2, BK309, BK316, BK317, HB⟩ := hrel
          cases gk with
          | zero => exact absurd HA.out (by simp [substationlaw35_RecloserCycle.l0])
          | succ k2 =>
            have H := HA.out
            clear HA
            simp only [substationlaw35_RecloserCycle.l0] at H
            by_cases c27 : x11_2 < (wrap64 ((wrap64 ((wrap64 ((wrap64 (2 * a1)) + a0_1)) + a0_2)) + 5))
            · rw [if_pos c27] at H
              have c27b0 : decide (x11_2 < (wrap64 ((wrap64 ((wrap64 ((wrap64 (2 * a1)) + a0_1)) + a0_2)) + 5))) = true := decide_eq_true c27
              clear c27
              replace H := Option.bind_eq_some_iff.mp H
              obtain ⟨⟨t323, t324, t325, t326⟩, A280, H⟩ := H
              replace H : ((substationlaw35_Settings_step.f a0_0 a0_1 a0_2 x318000_2 x318001_2 x318002_2 (x11_2 == 0) false (!t323) false).bind fun bt327 => (if bt327.2.2.2 = true then (substationlaw35_RecloserCycle.l0 k2 a1 false bt327.2.2.2 (wrap64 (x9_2 + 1)) (wrap64 ((wrap64 ((wrap64 ((wrap64 (2 * a1)) + a0_1)) + a0_2)) + 5)) (wrap64 (x11_2 + 1)) a0_0 a0_1 a0_2 t323 t324 t325 t326 bt327.1 bt327.2.1 bt327.2.2.1) else (substationlaw35_RecloserCycle.l0 k2 a1 false bt327.2.2.2 x9_2 (wrap64 ((wrap64 ((wrap64 ((wrap64 (2 * a1)) + a0_1)) + a0_2)) + 5)) (wrap64 (x11_2 + 1)) a0_0 a0_1 a0_2 t323 t324 t325 t326 bt327.1 bt327.2.1 bt327.2.2.1))) = some r := H
              have A28 := Aside0.mk A280
              clear A280
              replace H := Option.bind_eq_some_iff.mp H
              obtain ⟨⟨t327, t328, t329, t330⟩, A290, H⟩ := H
              replace H : (if t330 = true then (substationlaw35_RecloserCycle.l0 k2 a1 false t330 (wrap64 (x9_2 + 1)) (wrap64 ((wrap64 ((wrap64 ((wrap64 (2 * a1)) + a0_1)) + a0_2)) + 5)) (wrap64 (x11_2 + 1)) a0_0 a0_1 a0_2 t323 t324 t325 t326 t327 t328 t329) else (substationlaw35_RecloserCycle.l0 k2 a1 false t330 x9_2 (wrap64 ((wrap64 ((wrap64 ((wrap64 (2 * a1)) + a0_1)) + a0_2)) + 5)) (wrap64 (x11_2 + 1)) a0_0 a0_1 a0_2 t323 t324 t325 t326 t327 t328 t329)) = some r := H
              have A29 := Aside0.mk A290
              clear A290
              by_cases c30 : t330 = true
              · subst c30
                have H1 : (substationlaw35_RecloserCycle.l0 k2 a1 false true (wrap64 (x9_2 + 1)) (wrap64 ((wrap64 ((wrap64 ((wrap64 (2 * a1)) + a0_1)) + a0_2)) + 5)) (wrap64 (x11_2 + 1)) a0_0 a0_1 a0_2 t323 t324 t325 t326 t327 t328 t329) = some r := by rw [if_pos rfl] at H; exact H
                clear H
                have H := H1
                clear H1
                have H' := Aside0.mk H
                clear H
                have hnb31 := NB316_309.out
                have hnc31 := NB309_316.out
                have hnb32 := NB316_317.out
                have hnc32 := NB317_316.out
                have hcz33_0 : wr.cell? ⟨gb316, 0, none⟩ = some (.bool x317000_2) := (blk_cell BK316.out 0).trans rfl
                have hcz33_1 : wr.cell? ⟨gb316, 1, none⟩ = some (.bool x317001_2) := (blk_cell BK316.out 1).trans rfl
                have hcz33_2 : wr.cell? ⟨gb316, 2, none⟩ = some (.int .i64 x317002_2) := (blk_cell BK316.out 2).trans rfl
                have hcz33_3 : wr.cell? ⟨gb316, 3, none⟩ = some (.bool x317003_2) := (blk_cell BK316.out 3).trans rfl
                have hfz33_0 := blk_frozen BK316.out 0
                have hfz33_1 := blk_frozen BK316.out 1
                have hfz33_2 := blk_frozen BK316.out 2
                have hfz33_3 := blk_frozen BK316.out 3
                go_wp2_with (first | ((with_reducible refine gate_callee (f := 18) rfl ?_); refine goesL_ (some 50) rfl rfl Try.func18 (by kernel_rfl) rfl #[.agg #[.bool x317000_2, .bool x317001_2, .int .i64 x317002_2, .bool x317003_2], .int .i64 a1, .bool false, .bool x7_2, .bool x8_2] rfl (by (try simp only [List.map_toArray, List.map_cons, List.map_nil]); first | done | rfl | (simp only [List.length_drop, List.length_take]; rfl)) ?_; (with_reducible refine (breaker_Step.calls k2 x317000_2 x317001_2 x317002_2 x317003_2 a1 false x7_2 x8_2 t323 t324 t325 t326 _ A28.out).mono ?_); rintro e w34 ⟨rfl, hb⟩; refine ⟨_, rfl, ?_⟩; have n0_ := Aside0.mk (blk_below (g := gb309) (o := .cells #[.int .i64 a0_0, .int .i64 a0_1, .int .i64 a0_2] 23 (0, 0)) (by (with_reducible repeat (first | refine blk_drewN ?_ _ | refine blk_drew ?_ | refine blk_alloc ?_ _)); exact BK309.out) hb); have n1_ := Aside0.mk (blk_below (g := gb316) (o := .cells #[.bool x317000_2, .bool x317001_2, .int .i64 x317002_2, .bool x317003_2] 40 (0, 0)) (by (with_reducible repeat (first | refine blk_drewN ?_ _ | refine blk_drew ?_ | refine blk_alloc ?_ _)); exact BK316.out) hb); have n2_ := Aside0.mk (blk_below (g := gb317) (o := .cells #[.int .i64 x318000_2, .int .i64 x318001_2, .int .i64 x318002_2] 25 (0, 0)) (by (with_reducible repeat (first | refine blk_drewN ?_ _ | refine blk_drew ?_ | refine blk_alloc ?_ _)); exact BK317.out) hb); have n3_ := Aside0.mk (below_step (by repeat (first | (with_reducible first | exact HB.out | apply below_alloc | apply pw_below_drewN | apply below_drew1 | refine below_set ?_ GE309.out | refine below_set ?_ GE316.out | refine below_set ?_ GE317.out) | exact HB.out)) hb); clear BK309; clear BK316; clear BK317; clear HB; have BK309 := n0_; have BK316 := n1_; have BK317 := n2_; have HB := n3_; clear n0_ n1_ n2_ n3_; (try clear hb); (try clear hb2); (try clear hk); (try clear hi); have hcz35_0 : w34.cell? ⟨gb316, 0, none⟩ = some (.bool x317000_2) := (blk_cell BK316.out 0).trans rfl; have hcz35_1 : w34.cell? ⟨gb316, 1, none⟩ = some (.bool x317001_2) := (blk_cell BK316.out 1).trans rfl; have hcz35_2 : w34.cell? ⟨gb316, 2, none⟩ = some (.int .i64 x317002_2) := (blk_cell BK316.out 2).trans rfl; have hcz35_3 : w34.cell? ⟨gb316, 3, none⟩ = some (.bool x317003_2) := (blk_cell BK316.out 3).trans rfl; have hfz35_0 := blk_frozen BK316.out 0; have hfz35_1 := blk_frozen BK316.out 1; have hfz35_2 := blk_frozen BK316.out 2; have hfz35_3 := blk_frozen BK316.out 3; have hnb36 := NB309_317.out; have hnc36 := NB317_309.out; have hcz37_0 : w34.cell? ⟨gb309, 0, none⟩ = some (.int .i64 a0_0) := (blk_cell BK309.out 0).trans rfl; have hcz37_1 : w34.cell? ⟨gb309, 1, none⟩ = some (.int .i64 a0_1) := (blk_cell BK309.out 1).trans rfl; have hcz37_2 : w34.cell? ⟨gb309, 2, none⟩ = some (.int .i64 a0_2) := (blk_cell BK309.out 2).trans rfl; have hfz37_0 := blk_frozen BK309.out 0; have hfz37_1 := blk_frozen BK309.out 1; have hfz37_2 := blk_frozen BK309.out 2; have hcz38_0 : w34.cell? ⟨gb317, 0, none⟩ = some (.int .i64 x318000_2) := (blk_cell BK317.out 0).trans rfl; have hcz38_1 : w34.cell? ⟨gb317, 1, none⟩ = some (.int .i64 x318001_2) := (blk_cell BK317.out 1).trans rfl; have hcz38_2 : w34.cell? ⟨gb317, 2, none⟩ = some (.int .i64 x318002_2) := (blk_cell BK317.out 2).trans rfl; have hfz38_0 := blk_frozen BK317.out 0; have hfz38_1 := blk_frozen BK317.out 1; have hfz38_2 := blk_frozen BK317.out 2) | ((with_reducible refine gate_callee (f := 10) rfl ?_); refine goesL_ (some 60) rfl rfl Try.func10 (by kernel_rfl) rfl #[.agg #[.int .i64 a0_0, .int .i64 a0_1, .int .i64 a0_2], .agg #[.int .i64 x318000_2, .int .i64 x318001_2, .int .i64 x318002_2], .agg #[.bool (x11_2 == 0), .bool false, .bool (!t323), .bool false]] rfl (by (try simp only [List.map_toArray, List.map_cons, List.map_nil]); first | done | rfl | (simp only [List.length_drop, List.length_take]; rfl)) ?_; (with_reducible refine (substationlaw35_Settings_step.calls a0_0 a0_1 a0_2 x318000_2 x318001_2 x318002_2 (x11_2 == 0) false (!t323) false t327 t328 t329 true _ A29.out).mono ?_); rintro e w39 ⟨rfl, hb⟩; refine ⟨_, rfl, ?_⟩; have n0_ := Aside0.mk (blk_below (g := gb309) (o := .cells #[.int .i64 a0_0, .int .i64 a0_1, .int .i64 a0_2] 23 (0, 0)) (by (with_reducible repeat (first | refine blk_drewN ?_ _ | refine blk_drew ?_ | refine blk_alloc ?_ _)); refine blk_far ?_ NB309_316.out _; (with_reducible repeat (first | refine blk_drewN ?_ _ | refine blk_drew ?_ | refine blk_alloc ?_ _)); refine blk_far ?_ NB309_316.out _; (with_reducible repeat (first | refine blk_drewN ?_ _ | refine blk_drew ?_ | refine blk_alloc ?_ _)); refine blk_far ?_ NB309_316.out _; (with_reducible repeat (first | refine blk_drewN ?_ _ | refine blk_drew ?_ | refine blk_alloc ?_ _)); refine blk_far ?_ NB309_316.out _; (with_reducible repeat (first | refine blk_drewN ?_ _ | refine blk_drew ?_ | refine blk_alloc ?_ _)); exact BK309.out) hb); have n1_ := Aside0.mk (blk_below (g := gb316) (o := .cells #[.bool t323, .bool t324, .int .i64 t325, .bool t326] 40 (0, 0)) (by (with_reducible repeat (first | refine blk_drewN ?_ _ | refine blk_drew ?_ | refine blk_alloc ?_ _)); refine blk_put (cs := #[.bool t323, .bool t324, .int .i64 t325, .bool x317003_2]) ?_ 3 _ rfl; (with_reducible repeat (first | refine blk_drewN ?_ _ | refine blk_drew ?_ | refine blk_alloc ?_ _)); refine blk_put (cs := #[.bool t323, .bool t324, .int .i64 x317002_2, .bool x317003_2]) ?_ 2 _ rfl; (with_reducible repeat (first | refine blk_drewN ?_ _ | refine blk_drew ?_ | refine blk_alloc ?_ _)); refine blk_put (cs := #[.bool t323, .bool x317001_2, .int .i64 x317002_2, .bool x317003_2]) ?_ 1 _ rfl; (with_reducible repeat (first | refine blk_drewN ?_ _ | refine blk_drew ?_ | refine blk_alloc ?_ _)); refine blk_put (cs := #[.bool x317000_2, .bool x317001_2, .int .i64 x317002_2, .bool x317003_2]) ?_ 0 _ rfl; (with_reducible repeat (first | refine blk_drewN ?_ _ | refine blk_drew ?_ | refine blk_alloc ?_ _)); exact BK316.out) hb); have n2_ := Aside0.mk (blk_below (g := gb317) (o := .cells #[.int .i64 x318000_2, .int .i64 x318001_2, .int .i64 x318002_2] 25 (0, 0)) (by (with_reducible repeat (first | refine blk_drewN ?_ _ | refine blk_drew ?_ | refine blk_alloc ?_ _)); refine blk_far ?_ NB317_316.out _; (with_reducible repeat (first | refine blk_drewN ?_ _ | refine blk_drew ?_ | refine blk_alloc ?_ _)); refine blk_far ?_ NB317_316.out _; (with_reducible repeat (first | refine blk_drewN ?_ _ | refine blk_drew ?_ | refine blk_alloc ?_ _)); refine blk_far ?_ NB317_316.out _; (with_reducible repeat (first | refine blk_drewN ?_ _ | refine blk_drew ?_ | refine blk_alloc ?_ _)); refine blk_far ?_ NB317_316.out _; (with_reducible repeat (first | refine blk_drewN ?_ _ | refine blk_drew ?_ | refine blk_alloc ?_ _)); exact BK317.out) hb); have n3_ := Aside0.mk (below_step (by repeat (first | (with_reducible first | exact HB.out | apply below_alloc | apply pw_below_drewN | apply below_drew1 | refine below_set ?_ GE309.out | refine below_set ?_ GE316.out | refine below_set ?_ GE317.out) | exact HB.out)) hb); clear BK309; clear BK316; clear BK317; clear HB; have BK309 := n0_; have BK316 := n1_; have BK317 := n2_; have HB := n3_; clear n0_ n1_ n2_ n3_; (try clear hb); (try clear hb2); (try clear hk); (try clear hi); have hcz40_0 : w39.cell? ⟨gb317, 0, none⟩ = some (.int .i64 x318000_2) := (blk_cell BK317.out 0).trans rfl; have hcz40_1 : w39.cell? ⟨gb317, 1, none⟩ = some (.int .i64 x318001_2) := (blk_cell BK317.out 1).trans rfl; have hcz40_2 : w39.cell? ⟨gb317, 2, none⟩ = some (.int .i64 x318002_2) := (blk_cell BK317.out 2).trans rfl; have hfz40_0 := blk_frozen BK317.out 0; have hfz40_1 := blk_frozen BK317.out 1; have hfz40_2 := blk_frozen BK317.out 2))
                go_roundg k2
                case measure => have := HJ2.out; have := HK2.out; omega
                case rel => exact ⟨(false), (true), (wrap64 (x9_2 + 1)), (wrap64 (x11_2 + 1)), (t323), (t324), (t325), (t326), (t327), (t328), (t329), (by first | rfl | (simp; done) | (simp [*]; done)), (by first | rfl | (simp; done) | (simp [*]; done)), (by first | rfl | (simp; done) | (simp [*]; done)), (by first | rfl | (simp; done) | (simp [*]; done)), H', ⟨by have := HJ2.out; have := HK2.out; omega⟩, ⟨by (with_reducible repeat (first | refine blk_drewN ?_ _ | refine blk_drew ?_ | refine blk_alloc ?_ _)); refine blk_far ?_ NB309_317.out _; (with_reducible repeat (first | refine blk_drewN ?_ _ | refine blk_drew ?_ | refine blk_alloc ?_ _)); refine blk_far ?_ NB309_317.out _; (with_reducible repeat (first | refine blk_drewN ?_ _ | refine blk_drew ?_ | refine blk_alloc ?_ _)); refine blk_far ?_ NB309_317.out _; (with_reducible repeat (first | refine blk_drewN ?_ _ | refine blk_drew ?_ | refine blk_alloc ?_ _)); exact BK309.out⟩, ⟨by (with_reducible repeat (first | refine blk_drewN ?_ _ | refine blk_drew ?_ | refine blk_alloc ?_ _)); refine blk_far ?_ NB316_317.out _; (with_reducible repeat (first | refine blk_drewN ?_ _ | refine blk_drew ?_ | refine blk_alloc ?_ _)); refine blk_far ?_ NB316_317.out _; (with_reducible repeat (first | refine blk_drewN ?_ _ | refine blk_drew ?_ | refine blk_alloc ?_ _)); refine blk_far ?_ NB316_317.out _; (with_reducible repeat (first | refine blk_drewN ?_ _ | refine blk_drew ?_ | refine blk_alloc ?_ _)); exact BK316.out⟩, ⟨by (with_reducible repeat (first | refine blk_drewN ?_ _ | refine blk_drew ?_ | refine blk_alloc ?_ _)); refine blk_put (cs := #[.int .i64 t327, .int .i64 t328, .int .i64 x318002_2]) ?_ 2 _ rfl; (with_reducible repeat (first | refine blk_drewN ?_ _ | refine blk_drew ?_ | refine blk_alloc ?_ _)); refine blk_put (cs := #[.int .i64 t327, .int .i64 x318001_2, .int .i64 x318002_2]) ?_ 1 _ rfl; (with_reducible repeat (first | refine blk_drewN ?_ _ | refine blk_drew ?_ | refine blk_alloc ?_ _)); refine blk_put (cs := #[.int .i64 x318000_2, .int .i64 x318001_2, .int .i64 x318002_2]) ?_ 0 _ rfl; (with_reducible repeat (first | refine blk_drewN ?_ _ | refine blk_drew ?_ | refine blk_alloc ?_ _)); exact BK317.out⟩, ⟨by repeat (first | (with_reducible first | exact HB.out | apply below_alloc | apply pw_below_drewN | apply below_drew1 | refine below_set ?_ GE309.out | refine below_set ?_ GE316.out | refine below_set ?_ GE317.out) | exact HB.out)⟩⟩
              · replace c30 := Bool.eq_false_iff.mpr c30
                subst c30
                have H1 : (substationlaw35_RecloserCycle.l0 k2 a1 false false x9_2 (wrap64 ((wrap64 ((wrap64 ((wrap64 (2 * a1)) + a0_1)) + a0_2)) + 5)) (wrap64 (x11_2 + 1)) a0_0 a0_1 a0_2 t323 t324 t325 t326 t327 t328 t329) = some r := by rw [if_neg (show ¬ (false = true) by decide)] at H; exact H
                clear H
                have H := H1
                clear H1
                have H' := Aside0.mk H
                clear H
                have hnb41 := NB316_309.out
                have hnc41 := NB309_316.out
                have hnb42 := NB316_317.out
                have hnc42 := NB317_316.out
                have hcz43_0 : wr.cell? ⟨gb316, 0, none⟩ = some (.bool x317000_2) := (blk_cell BK316.out 0).trans rfl
                have hcz43_1 : wr.cell? ⟨gb316, 1, none⟩ = some (.bool x317001_2) := (blk_cell BK316.out 1).trans rfl
                have hcz43_2 : wr.cell? ⟨gb316, 2, none⟩ = some (.int .i64 x317002_2) := (blk_cell BK316.out 2).trans rfl
                have hcz43_3 : wr.cell? ⟨gb316, 3, none⟩ = some (.bool x317003_2) := (blk_cell BK316.out 3).trans rfl
                have hfz43_0 := blk_frozen BK316.out 0
                have hfz43_1 := blk_frozen BK316.out 1
                have hfz43_2 := blk_frozen BK316.out 2
                have hfz43_3 := blk_frozen BK316.out 3
                go_wp2_with (first | ((with_reducible refine gate_callee (f := 18) rfl ?_); refine goesL_ (some 50) rfl rfl Try.func18 (by kernel_rfl) rfl #[.agg #[.bool x317000_2, .bool x317001_2, .int .i64 x317002_2, .bool x317003_2], .int .i64 a1, .bool false, .bool x7_2, .bool x8_2] rfl (by (try simp only [List.map_toArray, List.map_cons, List.map_nil]); first | done | rfl | (simp only [List.length_drop, List.length_take]; rfl)) ?_; (with_reducible refine (breaker_Step.calls k2 x317000_2 x317001_2 x317002_2 x317003_2 a1 false x7_2 x8_2 t323 t324 t325 t326 _ A28.out).mono ?_); rintro e w44 ⟨rfl, hb⟩; refine ⟨_, rfl, ?_⟩; have n0_ := Aside0.mk (blk_below (g := gb309) (o := .cells #[.int .i64 a0_0, .int .i64 a0_1, .int .i64 a0_2] 23 (0, 0)) (by (with_reducible repeat (first | refine blk_drewN ?_ _ | refine blk_drew ?_ | refine blk_alloc ?_ _)); exact BK309.out) hb); have n1_ := Aside0.mk (blk_below (g := gb316) (o := .cells #[.bool x317000_2, .bool x317001_2, .int .i64 x317002_2, .bool x317003_2] 40 (0, 0)) (by (with_reducible repeat (first | refine blk_drewN ?_ _ | refine blk_drew ?_ | refine blk_alloc ?_ _)); exact BK316.out) hb); have n2_ := Aside0.mk (blk_below (g := gb317) (o := .cells #[.int .i64 x318000_2, .int .i64 x318001_2, .int .i64 x318002_2] 25 (0, 0)) (by (with_reducible repeat (first | refine blk_drewN ?_ _ | refine blk_drew ?_ | refine blk_alloc ?_ _)); exact BK317.out) hb); have n3_ := Aside0.mk (below_step (by repeat (first | (with_reducible first | exact HB.out | apply below_alloc | apply pw_below_drewN | apply below_drew1 | refine below_set ?_ GE309.out | refine below_set ?_ GE316.out | refine below_set ?_ GE317.out) | exact HB.out)) hb); clear BK309; clear BK316; clear BK317; clear HB; have BK309 := n0_; have BK316 := n1_; have BK317 := n2_; have HB := n3_; clear n0_ n1_ n2_ n3_; (try clear hb); (try clear hb2); (try clear hk); (try clear hi); have hcz45_0 : w44.cell? ⟨gb316, 0, none⟩ = some (.bool x317000_2) := (blk_cell BK316.out 0).trans rfl; have hcz45_1 : w44.cell? ⟨gb316, 1, none⟩ = some (.bool x317001_2) := (blk_cell BK316.out 1).trans rfl; have hcz45_2 : w44.cell? ⟨gb316, 2, none⟩ = some (.int .i64 x317002_2) := (blk_cell BK316.out 2).trans rfl; have hcz45_3 : w44.cell? ⟨gb316, 3, none⟩ = some (.bool x317003_2) := (blk_cell BK316.out 3).trans rfl; have hfz45_0 := blk_frozen BK316.out 0; have hfz45_1 := blk_frozen BK316.out 1; have hfz45_2 := blk_frozen BK316.out 2; have hfz45_3 := blk_frozen BK316.out 3; have hnb46 := NB309_317.out; have hnc46 := NB317_309.out; have hcz47_0 : w44.cell? ⟨gb309, 0, none⟩ = some (.int .i64 a0_0) := (blk_cell BK309.out 0).trans rfl; have hcz47_1 : w44.cell? ⟨gb309, 1, none⟩ = some (.int .i64 a0_1) := (blk_cell BK309.out 1).trans rfl; have hcz47_2 : w44.cell? ⟨gb309, 2, none⟩ = some (.int .i64 a0_2) := (blk_cell BK309.out 2).trans rfl; have hfz47_0 := blk_frozen BK309.out 0; have hfz47_1 := blk_frozen BK309.out 1; have hfz47_2 := blk_frozen BK309.out 2; have hcz48_0 : w44.cell? ⟨gb317, 0, none⟩ = some (.int .i64 x318000_2) := (blk_cell BK317.out 0).trans rfl; have hcz48_1 : w44.cell? ⟨gb317, 1, none⟩ = some (.int .i64 x318001_2) := (blk_cell BK317.out 1).trans rfl; have hcz48_2 : w44.cell? ⟨gb317, 2, none⟩ = some (.int .i64 x318002_2) := (blk_cell BK317.out 2).trans rfl; have hfz48_0 := blk_frozen BK317.out 0; have hfz48_1 := blk_frozen BK317.out 1; have hfz48_2 := blk_frozen BK317.out 2) | ((with_reducible refine gate_callee (f := 10) rfl ?_); refine goesL_ (some 60) rfl rfl Try.func10 (by kernel_rfl) rfl #[.agg #[.int .i64 a0_0, .int .i64 a0_1, .int .i64 a0_2], .agg #[.int .i64 x318000_2, .int .i64 x318001_2, .int .i64 x318002_2], .agg #[.bool (x11_2 == 0), .bool false, .bool (!t323), .bool false]] rfl (by (try simp only [List.map_toArray, List.map_cons, List.map_nil]); first | done | rfl | (simp only [List.length_drop, List.length_take]; rfl)) ?_; (with_reducible refine (substationlaw35_Settings_step.calls a0_0 a0_1 a0_2 x318000_2 x318001_2 x318002_2 (x11_2 == 0) false (!t323) false t327 t328 t329 false _ A29.out).mono ?_); rintro e w49 ⟨rfl, hb⟩; refine ⟨_, rfl, ?_⟩; have n0_ := Aside0.mk (blk_below (g := gb309) (o := .cells #[.int .i64 a0_0, .int .i64 a0_1, .int .i64 a0_2] 23 (0, 0)) (by (with_reducible repeat (first | refine blk_drewN ?_ _ | refine blk_drew ?_ | refine blk_alloc ?_ _)); refine blk_far ?_ NB309_316.out _; (with_reducible repeat (first | refine blk_drewN ?_ _ | refine blk_drew ?_ | refine blk_alloc ?_ _)); refine blk_far ?_ NB309_316.out _; (with_reducible repeat (first | refine blk_drewN ?_ _ | refine blk_drew ?_ | refine blk_alloc ?_ _)); refine blk_far ?_ NB309_316.out _; (with_reducible repeat (first | refine blk_drewN ?_ _ | refine blk_drew ?_ | refine blk_alloc ?_ _)); refine blk_far ?_ NB309_316.out _; (with_reducible repeat (first | refine blk_drewN ?_ _ | refine blk_drew ?_ | refine blk_alloc ?_ _)); exact BK309.out) hb); have n1_ := Aside0.mk (blk_below (g := gb316) (o := .cells #[.bool t323, .bool t324, .int .i64 t325, .bool t326] 40 (0, 0)) (by (with_reducible repeat (first | refine blk_drewN ?_ _ | refine blk_drew ?_ | refine blk_alloc ?_ _)); refine blk_put (cs := #[.bool t323, .bool t324, .int .i64 t325, .bool x317003_2]) ?_ 3 _ rfl; (with_reducible repeat (first | refine blk_drewN ?_ _ | refine blk_drew ?_ | refine blk_alloc ?_ _)); refine blk_put (cs := #[.bool t323, .bool t324, .int .i64 x317002_2, .bool x317003_2]) ?_ 2 _ rfl; (with_reducible repeat (first | refine blk_drewN ?_ _ | refine blk_drew ?_ | refine blk_alloc ?_ _)); refine blk_put (cs := #[.bool t323, .bool x317001_2, .int .i64 x317002_2, .bool x317003_2]) ?_ 1 _ rfl; (with_reducible repeat (first | refine blk_drewN ?_ _ | refine blk_drew ?_ | refine blk_alloc ?_ _)); refine blk_put (cs := #[.bool x317000_2, .bool x317001_2, .int .i64 x317002_2, .bool x317003_2]) ?_ 0 _ rfl; (with_reducible repeat (first | refine blk_drewN ?_ _ | refine blk_drew ?_ | refine blk_alloc ?_ _)); exact BK316.out) hb); have n2_ := Aside0.mk (blk_below (g := gb317) (o := .cells #[.int .i64 x318000_2, .int .i64 x318001_2, .int .i64 x318002_2] 25 (0, 0)) (by (with_reducible repeat (first | refine blk_drewN ?_ _ | refine blk_drew ?_ | refine blk_alloc ?_ _)); refine blk_far ?_ NB317_316.out _; (with_reducible repeat (first | refine blk_drewN ?_ _ | refine blk_drew ?_ | refine blk_alloc ?_ _)); refine blk_far ?_ NB317_316.out _; (with_reducible repeat (first | refine blk_drewN ?_ _ | refine blk_drew ?_ | refine blk_alloc ?_ _)); refine blk_far ?_ NB317_316.out _; (with_reducible repeat (first | refine blk_drewN ?_ _ | refine blk_drew ?_ | refine blk_alloc ?_ _)); refine blk_far ?_ NB317_316.out _; (with_reducible repeat (first | refine blk_drewN ?_ _ | refine blk_drew ?_ | refine blk_alloc ?_ _)); exact BK317.out) hb); have n3_ := Aside0.mk (below_step (by repeat (first | (with_reducible first | exact HB.out | apply below_alloc | apply pw_below_drewN | apply below_drew1 | refine below_set ?_ GE309.out | refine below_set ?_ GE316.out | refine below_set ?_ GE317.out) | exact HB.out)) hb); clear BK309; clear BK316; clear BK317; clear HB; have BK309 := n0_; have BK316 := n1_; have BK317 := n2_; have HB := n3_; clear n0_ n1_ n2_ n3_; (try clear hb); (try clear hb2); (try clear hk); (try clear hi); have hcz50_0 : w49.cell? ⟨gb317, 0, none⟩ = some (.int .i64 x318000_2) := (blk_cell BK317.out 0).trans rfl; have hcz50_1 : w49.cell? ⟨gb317, 1, none⟩ = some (.int .i64 x318001_2) := (blk_cell BK317.out 1).trans rfl; have hcz50_2 : w49.cell? ⟨gb317, 2, none⟩ = some (.int .i64 x318002_2) := (blk_cell BK317.out 2).trans rfl; have hfz50_0 := blk_frozen BK317.out 0; have hfz50_1 := blk_frozen BK317.out 1; have hfz50_2 := blk_frozen BK317.out 2))
                go_roundg k2
                case measure => have := HJ2.out; have := HK2.out; omega
                case rel => exact ⟨(false), (false), (x9_2), (wrap64 (x11_2 + 1)), (t323), (t324), (t325), (t326), (t327), (t328), (t329), (by first | rfl | (simp; done) | (simp [*]; done)), (by first | rfl | (simp; done) | (simp [*]; done)), (by first | rfl | (simp; done) | (simp [*]; done)), (by first | rfl | (simp; done) | (simp [*]; done)), H', ⟨by have := HJ2.out; have := HK2.out; omega⟩, ⟨by (with_reducible repeat (first | refine blk_drewN ?_ _ | refine blk_drew ?_ | refine blk_alloc ?_ _)); refine blk_far ?_ NB309_317.out _; (with_reducible repeat (first | refine blk_drewN ?_ _ | refine blk_drew ?_ | refine blk_alloc ?_ _)); refine blk_far ?_ NB309_317.out _; (with_reducible repeat (first | refine blk_drewN ?_ _ | refine blk_drew ?_ | refine blk_alloc ?_ _)); refine blk_far ?_ NB309_317.out _; (with_reducible repeat (first | refine blk_drewN ?_ _ | refine blk_drew ?_ | refine blk_alloc ?_ _)); exact BK309.out⟩, ⟨by (with_reducible repeat (first | refine blk_drewN ?_ _ | refine blk_drew ?_ | refine blk_alloc ?_ _)); refine blk_far ?_ NB316_317.out _; (with_reducible repeat (first | refine blk_drewN ?_ _ | refine blk_drew ?_ | refine blk_alloc ?_ _)); refine blk_far ?_ NB316_317.out _; (with_reducible repeat (first | refine blk_drewN ?_ _ | refine blk_drew ?_ | refine blk_alloc ?_ _)); refine blk_far ?_ NB316_317.out _; (with_reducible repeat (first | refine blk_drewN ?_ _ | refine blk_drew ?_ | refine blk_alloc ?_ _)); exact BK316.out⟩, ⟨by (with_reducible repeat (first | refine blk_drewN ?_ _ | refine blk_drew ?_ | refine blk_alloc ?_ _)); refine blk_put (cs := #[.int .i64 t327, .int .i64 t328, .int .i64 x318002_2]) ?_ 2 _ rfl; (with_reducible repeat (first | refine blk_drewN ?_ _ | refine blk_drew ?_ | refine blk_alloc ?_ _)); refine blk_put (cs := #[.int .i64 t327, .int .i64 x318001_2, .int .i64 x318002_2]) ?_ 1 _ rfl; (with_reducible repeat (first | refine blk_drewN ?_ _ | refine blk_drew ?_ | refine blk_alloc ?_ _)); refine blk_put (cs := #[.int .i64 x318000_2, .int .i64 x318001_2, .int .i64 x318002_2]) ?_ 0 _ rfl; (with_reducible repeat (first | refine blk_drewN ?_ _ | refine blk_drew ?_ | refine blk_alloc ?_ _)); exact BK317.out⟩, ⟨by repeat (first | (with_reducible first | exact HB.out | apply below_alloc | apply pw_below_drewN | apply below_drew1 | refine below_set ?_ GE309.out | refine below_set ?_ GE316.out | refine below_set ?_ GE317.out) | exact HB.out)⟩⟩
            · rw [if_neg c27] at H
              have c27b0 : decide (x11_2 < (wrap64 ((wrap64 ((wrap64 ((wrap64 (2 * a1)) + a0_1)) + a0_2)) + 5))) = false := decide_eq_false c27
              clear c27
              replace H := Option.bind_eq_some_iff.mp H
              obtain ⟨t318, A510, H⟩ := H
              replace H : (if t318 = true then (if x9_2 = 1 then ((breaker_New.f true).bind fun bt319 => (if (x317000_2 == bt319.1 && (x317001_2 == bt319.2.1 && (x317002_2 == bt319.2.2.1 && (x317003_2 == bt319.2.2.2)))) = true then (some (x318000_2 == 0 && (x318001_2 == 0 && (x318002_2 == 0)))) else (some false))) else (some false)) else (some false)) = some r := H
              have A51 := Aside0.mk A510
              clear A510
              by_cases c52 : t318 = true
              · subst c52
                have H1 : (if x9_2 = 1 then ((breaker_New.f true).bind fun bt319 => (if (x317000_2 == bt319.1 && (x317001_2 == bt319.2.1 && (x317002_2 == bt319.2.2.1 && (x317003_2 == bt319.2.2.2)))) = true then (some (x318000_2 == 0 && (x318001_2 == 0 && (x318002_2 == 0)))) else (some false))) else (some false)) = some r := by rw [if_pos rfl] at H; exact H
                clear H
                have H := H1
                clear H1
                by_cases c53 : x9_2 = 1
                · rw [if_pos c53] at H
                  have c53b0 : (x9_2 == 1) = true := beq_iff_eq.mpr c53
                  have c53b1 : (x9_2 != 1) = false := bne_eq_false_iff_eq.mpr c53
                  clear c53
                  replace H := Option.bind_eq_some_iff.mp H
                  obtain ⟨⟨t319, t320, t321, t322⟩, A540, H⟩ := H
                  replace H : (if (x317000_2 == t319 && (x317001_2 == t320 && (x317002_2 == t321 && (x317003_2 == t322)))) = true then (some (x318000_2 == 0 && (x318001_2 == 0 && (x318002_2 == 0)))) else (some false)) = some r := H
                  have A54 := Aside0.mk A540
                  clear A540
                  by_cases c55 : (x317000_2 == t319 && (x317001_2 == t320 && (x317002_2 == t321 && (x317003_2 == t322)))) = true
                  · rw [if_pos c55] at H
                    have c55b0 : (x317000_2 == t319 && (x317001_2 == t320 && (x317002_2 == t321 && (x317003_2 == t322)))) = true := c55
                    (try (have c55b1 : decide (x317000_2 = t319 && (x317001_2 == t320 && (x317002_2 == t321 && (x317003_2 == t322)))) = true := by simpa using c55))
                    (try (have c55b2 : (x317000_2 == t319 && (x317001_2 == t320 && (x317002_2 == t321 && (x317003_2 == t322)))) = true := by simpa using c55))
                    clear c55
                    obtain rfl := Option.some.inj H
                    try go_wp2
                    have n0_ := Aside0.mk (blk_drew BK309.out)
                    have n1_ := Aside0.mk (blk_drew BK316.out)
                    have n2_ := Aside0.mk (blk_drew BK317.out)
                    have n3_ := Aside0.mk (below_drew1 HB.out)
                    clear BK309
                    clear BK316
                    clear BK317
                    clear HB
                    have BK309 := n0_
                    have BK316 := n1_
                    have BK317 := n2_
                    have HB := n3_
                    clear n0_ n1_ n2_ n3_
                    refine start_ (n := 16) (S := fun w' => w'.cell? ⟨gb316, 0, none⟩ = some (.bool x317000_2) ∧ w'.cell? ⟨gb316, 1, none⟩ = some (.bool x317001_2) ∧ w'.cell? ⟨gb316, 2, none⟩ = some (.int .i64 x317002_2) ∧ w'.cell? ⟨gb316, 3, none⟩ = some (.bool x317003_2) ∧ w'.cell? ⟨gb317, 0, none⟩ = some (.int .i64 x318000_2) ∧ w'.cell? ⟨gb317, 1, none⟩ = some (.int .i64 x318001_2) ∧ w'.cell? ⟨gb317, 2, none⟩ = some (.int .i64 x318002_2)) (ds := []) #[false, false, false, false, false, false, false, false, false, false, false, false, false, false, false, false] (by kernel_rfl) rfl rfl ⟨(blk_cell BK316.out 0).trans rfl, (blk_cell BK316.out 1).trans rfl, (blk_cell BK316.out 2).trans rfl, (blk_cell BK316.out 3).trans rfl, (blk_cell BK317.out 0).trans rfl, (blk_cell BK317.out 1).trans rfl, (blk_cell BK317.out 2).trans rfl⟩ (fun hHeld => ?_); refine with_tabW substationlaw35_RecloserCycle.tab15 substationlaw35_RecloserCycle.bits15 (fun HT_ HW_ => ?_)
                    generalize wr.drew = w56 at BK309 BK316 BK317 HB hHeld ⊢
                    refine one_ (i := 0) (N := some 66) #[true, false, false, false, false, false, false, false, false, false, false, false, false, false, false, false] rfl rfl (one_of HT_.out (by kernel_rfl)) (by decide) (fun K hK => ?_)
                    refine goes_ Try.func12 (by kernel_rfl) rfl #[] (by rfl) rfl rfl (by (try simp only [List.map_toArray, List.map_cons, List.map_nil]); first | done | rfl | (simp only [List.length_drop, List.length_take]; rfl)) ?_
                    with_reducible refine (substationlaw35_known.calls k2  true _ A51.out).mono ?_
                    rintro e w57 ⟨rfl, hb⟩
                    refine ⟨_, rfl, ?_⟩
                    have n0_ := Aside0.mk (blk_below (g := gb309) (o := .cells #[.int .i64 a0_0, .int .i64 a0_1, .int .i64 a0_2] 23 (0, 0)) (by (with_reducible repeat (first | refine blk_drewN ?_ _ | refine blk_drew ?_ | refine blk_alloc ?_ _)); exact BK309.out) hb)
                    have n1_ := Aside0.mk (blk_below (g := gb316) (o := .cells #[.bool x317000_2, .bool x317001_2, .int .i64 x317002_2, .bool x317003_2] 40 (0, 0)) (by (with_reducible repeat (first | refine blk_drewN ?_ _ | refine blk_drew ?_ | refine blk_alloc ?_ _)); exact BK316.out) hb)
                    have n2_ := Aside0.mk (blk_below (g := gb317) (o := .cells #[.int .i64 x318000_2, .int .i64 x318001_2, .int .i64 x318002_2] 25 (0, 0)) (by (with_reducible repeat (first | refine blk_drewN ?_ _ | refine blk_drew ?_ | refine blk_alloc ?_ _)); exact BK317.out) hb)
                    have n3_ := Aside0.mk (below_step (by repeat (first | (with_reducible first | exact HB.out | apply below_alloc | apply pw_below_drewN | apply below_drew1 | refine below_set ?_ GE309.out | refine below_set ?_ GE316.out | refine below_set ?_ GE317.out) | exact HB.out)) hb)
                    clear BK309
                    clear BK316
                    clear BK317
                    clear HB
                    have BK309 := n0_
                    have BK316 := n1_
                    have BK317 := n2_
                    have HB := n3_
                    clear n0_ n1_ n2_ n3_
                    (try clear hb)
                    (try clear hb2)
                    (try clear hk)
                    (try clear hi)
                    refine hK.out _ _ ⟨(blk_cell BK316.out 0).trans rfl, (blk_cell BK316.out 1).trans rfl, (blk_cell BK316.out 2).trans rfl, (blk_cell BK316.out 3).trans rfl, (blk_cell BK317.out 0).trans rfl, (blk_cell BK317.out 1).trans rfl, (blk_cell BK317.out 2).trans rfl⟩ (fun hHeld => ?_)
                    clear hK K
                    refine norm_ (a' := ?_) ?_ ?_
                    rotate_left
                    · show Act.put _ (some 66) _ = _
                      simp only [Act.put, List.setIfInBounds_toArray, List.set_cons_zero, List.set_cons_succ, i64_w, i32_w]
                      rfl
                    refine pure_ (i := 1) (N := some 67) (v := ?_) (a' := ?_) #[true, true, false, false, false, false, false, false, false, false, false, false, false, false, false, false] rfl rfl (any_of HT_.out (by kernel_rfl)) (fun _ _ _ h => h) (Or.inl ⟨by rfl, ?_⟩) ?_ ?_
                    rotate_left
                    · intro w'
                      go_simp
                      with_reducible rfl
                    rotate_left
                    · simp only [Act.put, List.setIfInBounds_toArray, List.set_cons_zero, List.set_cons_succ, i64_w, i32_w]
                      rfl
                    refine pure_ (i := 2) (N := some 68) (v := ?_) (a' := ?_) #[true, true, true, false, false, false, false, false, false, false, false, false, false, false, false, false] rfl rfl (any_of HT_.out (by kernel_rfl)) (fun _ _ _ h => h) (Or.inl ⟨by rfl, ?_⟩) ?_ ?_
                    rotate_left
                    · intro w'
                      go_simp
                      with_reducible rfl
                    rotate_left
                    · simp only [Act.put, List.setIfInBounds_toArray, List.set_cons_zero, List.set_cons_succ, i64_w, i32_w]
                      rfl
                    refine pure_ (i := 3) (N := some 69) (v := ?_) (a' := ?_) #[true, true, true, true, false, false, false, false, false, false, false, false, false, false, false, false] rfl rfl (any_of HT_.out (by kernel_rfl)) (fun _ _ _ h => h) (Or.inl ⟨by rfl, ?_⟩) ?_ ?_
                    rotate_left
                    · intro w'
                      go_simp
                      with_reducible rfl
                    rotate_left
                    · simp only [Act.put, List.setIfInBounds_toArray, List.set_cons_zero, List.set_cons_succ, i64_w, i32_w]
                      rfl
                    refine pure_ (i := 4) (N := some 70) (v := ?_) (a' := ?_) #[true, true, true, true, true, false, false, false, false, false, false, false, false, false, false, false] rfl rfl (any_of HT_.out (by kernel_rfl)) (fun _ _ _ h => h) (Or.inl ⟨by rfl, ?_⟩) ?_ ?_
                    rotate_left
                    · intro w'
                      go_simp
                      with_reducible rfl
                    rotate_left
                    · simp only [Act.put, List.setIfInBounds_toArray, List.set_cons_zero, List.set_cons_succ, i64_w, i32_w]
                      rfl
                    refine pure_ (i := 5) (N := some 71) (v := ?_) (a' := ?_) #[true, true, true, true, true, true, false, false, false, false, false, false, false, false, false, false] rfl rfl (any_of HT_.out (by kernel_rfl)) (fun _ _ _ h => h) (Or.inl ⟨by rfl, ?_⟩) ?_ ?_
                    rotate_left
                    · intro w'
                      go_simp
                      with_reducible rfl
                    rotate_left
                    · simp only [Act.put, List.setIfInBounds_toArray, List.set_cons_zero, List.set_cons_succ, i64_w, i32_w]
                      rfl
                    refine take_ (i := 6) (N := some 72) (v := ?_) (a' := ?_) #[true, true, true, true, true, true, true, false, false, false, false, false, false, false, false, false] rfl rfl (take_ofW HT_.out HW_.out (by kernel_rfl)) (fun _ _ _ h => h) (Or.inl ⟨by rfl, ?_⟩) hHeld ?_ ?_
                    rotate_left
                    · rintro w' ⟨s0, s1, s2, s3, s4, s5, s6⟩
                      go_simp
                      with_reducible rfl
                    rotate_left
                    · simp only [Act.put, List.setIfInBounds_toArray, List.set_cons_zero, List.set_cons_succ, i64_w, i32_w]
                      rfl
                    refine one_ (i := 7) (N := some 73) #[true, true, true, true, true, true, true, true, false, false, false, false, false, false, false, false] rfl rfl (one_of HT_.out (by kernel_rfl)) (by decide) (fun K hK => ?_)
                    refine goes_ Try.func17 (by kernel_rfl) rfl #[.bool true] (by rfl) rfl rfl (by (try simp only [List.map_toArray, List.map_cons, List.map_nil]); first | done | rfl | (simp only [List.length_drop, List.length_take]; rfl)) ?_
                    with_reducible refine (breaker_New.calls true t319 t320 t321 t322 _ A54.out).mono ?_
                    rintro e w58 ⟨rfl, hb⟩
                    refine ⟨_, rfl, ?_⟩
                    have n0_ := Aside0.mk (blk_below (g := gb309) (o := .cells #[.int .i64 a0_0, .int .i64 a0_1, .int .i64 a0_2] 23 (0, 0)) (by (with_reducible repeat (first | refine blk_drewN ?_ _ | refine blk_drew ?_ | refine blk_alloc ?_ _)); exact BK309.out) hb)
                    have n1_ := Aside0.mk (blk_below (g := gb316) (o := .cells #[.bool x317000_2, .bool x317001_2, .int .i64 x317002_2, .bool x317003_2] 40 (0, 0)) (by (with_reducible repeat (first | refine blk_drewN ?_ _ | refine blk_drew ?_ | refine blk_alloc ?_ _)); exact BK316.out) hb)
                    have n2_ := Aside0.mk (blk_below (g := gb317) (o := .cells #[.int .i64 x318000_2, .int .i64 x318001_2, .int .i64 x318002_2] 25 (0, 0)) (by (with_reducible repeat (first | refine blk_drewN ?_ _ | refine blk_drew ?_ | refine blk_alloc ?_ _)); exact BK317.out) hb)
                    have n3_ := Aside0.mk (below_step (by repeat (first | (with_reducible first | exact HB.out | apply below_alloc | apply pw_below_drewN | apply below_drew1 | refine below_set ?_ GE309.out | refine below_set ?_ GE316.out | refine below_set ?_ GE317.out) | exact HB.out)) hb)
                    clear BK309
                    clear BK316
                    clear BK317
                    clear HB
                    have BK309 := n0_
                    have BK316 := n1_
                    have BK317 := n2_
                    have HB := n3_
                    clear n0_ n1_ n2_ n3_
                    (try clear hb)
                    (try clear hb2)
                    (try clear hk)
                    (try clear hi)
                    refine hK.out _ _ ⟨(blk_cell BK316.out 0).trans rfl, (blk_cell BK316.out 1).trans rfl, (blk_cell BK316.out 2).trans rfl, (blk_cell BK316.out 3).trans rfl, (blk_cell BK317.out 0).trans rfl, (blk_cell BK317.out 1).trans rfl, (blk_cell BK317.out 2).trans rfl⟩ (fun hHeld => ?_)
                    clear hK K
                    refine norm_ (a' := ?_) ?_ ?_
                    rotate_left
                    · show Act.put _ (some 73) _ = _
                      simp only [Act.put, List.setIfInBounds_toArray, List.set_cons_zero, List.set_cons_succ, i64_w, i32_w]
                      rfl
                    refine pure_ (i := 8) (N := some 74) (v := ?_) (a' := ?_) #[true, true, true, true, true, true, true, true, true, false, false, false, false, false, false, false] rfl rfl (any_of HT_.out (by kernel_rfl)) (fun _ _ _ h => h) (Or.inl ⟨by rfl, ?_⟩) ?_ ?_
                    rotate_left
                    · intro w'
                      go_simp
                      with_reducible rfl
                    rotate_left
                    · simp only [Act.put, List.setIfInBounds_toArray, List.set_cons_zero, List.set_cons_succ, i64_w, i32_w]
                      rfl
                    refine pure_ (i := 9) (N := some 75) (v := ?_) (a' := ?_) #[true, true, true, true, true, true, true, true, true, true, false, false, false, false, false, false] rfl rfl (any_of HT_.out (by kernel_rfl)) (fun _ _ _ h => h) (Or.inl ⟨by rfl, ?_⟩) ?_ ?_
                    rotate_left
                    · intro w'
                      go_simp
                      with_reducible rfl
                    rotate_left
                    · simp only [Act.put, List.setIfInBounds_toArray, List.set_cons_zero, List.set_cons_succ, i64_w, i32_w]
                      rfl
                    refine pure_ (i := 10) (N := some 76) (v := ?_) (a' := ?_) #[true, true, true, true, true, true, true, true, true, true, true, false, false, false, false, false] rfl rfl (any_of HT_.out (by kernel_rfl)) (fun _ _ _ h => h) (Or.inl ⟨by rfl, ?_⟩) ?_ ?_
                    rotate_left
                    · intro w'
                      go_simp
                      with_reducible rfl
                    rotate_left
                    · simp only [Act.put, List.setIfInBounds_toArray, List.set_cons_zero, List.set_cons_succ, i64_w, i32_w]
                      rfl
                    refine pure_ (i := 12) (N := some 78) (v := ?_) (a' := ?_) #[true, true, true, true, true, true, true, true, true, true, true, false, true, false, false, false] rfl rfl (any_of HT_.out (by kernel_rfl)) (fun _ _ _ h => h) (Or.inl ⟨by rfl, ?_⟩) ?_ ?_
                    rotate_left
                    · intro w'
                      go_simp
                      with_reducible rfl
                    rotate_left
                    · simp only [Act.put, List.setIfInBounds_toArray, List.set_cons_zero, List.set_cons_succ, i64_w, i32_w]
                      rfl
                    refine take_ (i := 11) (N := some 77) (v := ?_) (a' := ?_) #[true, true, true, true, true, true, true, true, true, true, true, true, true, false, false, false] rfl rfl (take_ofW HT_.out HW_.out (by kernel_rfl)) (fun _ _ _ h => h) (Or.inl ⟨by rfl, ?_⟩) hHeld ?_ ?_
                    rotate_left
                    · rintro w' ⟨s0, s1, s2, s3, s4, s5, s6⟩
                      go_simp
                      with_reducible rfl
                    rotate_left
                    · simp only [Act.put, List.setIfInBounds_toArray, List.set_cons_zero, List.set_cons_succ, i64_w, i32_w]
                      rfl
                    refine pure_ (i := 13) (N := some 79) (v := ?_) (a' := ?_) #[true, true, true, true, true, true, true, true, true, true, true, true, true, true, false, false] rfl rfl (any_of HT_.out (by kernel_rfl)) (fun _ _ _ h => h) (Or.inl ⟨by rfl, ?_⟩) ?_ ?_
                    rotate_left
                    · intro w'
                      go_simp
                      with_reducible rfl
                    rotate_left
                    · simp only [Act.put, List.setIfInBounds_toArray, List.set_cons_zero, List.set_cons_succ, i64_w, i32_w]
                      rfl
                    refine pure_ (i := 14) (N := some 80) (v := ?_) (a' := ?_) #[true, true, true, true, true, true, true, true, true, true, true, true, true, true, true, false] rfl rfl (any_of HT_.out (by kernel_rfl)) (fun _ _ _ h => h) (Or.inl ⟨by rfl, ?_⟩) ?_ ?_
                    rotate_left
                    · intro w'
                      go_simp
                      with_reducible rfl
                    rotate_left
                    · simp only [Act.put, List.setIfInBounds_toArray, List.set_cons_zero, List.set_cons_succ, i64_w, i32_w]
                      rfl
                    refine pure_ (i := 15) (N := some 4) (v := ?_) (a' := ?_) #[true, true, true, true, true, true, true, true, true, true, true, true, true, true, true, true] rfl rfl (any_of HT_.out (by kernel_rfl)) (fun _ _ _ h => h) (Or.inl ⟨by rfl, ?_⟩) ?_ ?_
                    rotate_left
                    · intro w'
                      go_simp
                      with_reducible rfl
                    rotate_left
                    · simp only [Act.put, List.setIfInBounds_toArray, List.set_cons_zero, List.set_cons_succ, i64_w, i32_w]
                      rfl
                    refine done_ (done_of HT_.out (by kernel_rfl)) ?_
                    try go_wp2
                    go_ret
                    exact ⟨by first | rfl | (simp [errW_none, errW_some] <;> rfl) | (simp [*, errW_none, errW_some] <;> rfl), by repeat (first | (with_reducible first | exact HB.out | apply below_alloc | apply pw_below_drewN | apply below_drew1 | refine below_set ?_ GE309.out | refine below_set ?_ GE316.out | refine below_set ?_ GE317.out) | exact HB.out)⟩
                  · rw [if_neg c55] at H
                    have c55b0 : (x317000_2 == t319 && (x317001_2 == t320 && (x317002_2 == t321 && (x317003_2 == t322)))) = false := by simpa using c55
                    (try (have c55b1 : decide (x317000_2 = t319 && (x317001_2 == t320 && (x317002_2 == t321 && (x317003_2 == t322)))) = false := by simpa using c55))
                    (try (have c55b2 : (x317000_2 == t319 && (x317001_2 == t320 && (x317002_2 == t321 && (x317003_2 == t322)))) = false := by simpa using c55))
                    (try (have c55b3 : ¬ (x317000_2 = t319 && (x317001_2 == t320 && (x317002_2 == t321 && (x317003_2 == t322)))) := by simpa using c55))
                    clear c55
                    obtain rfl := Option.some.inj H
                    try go_wp2
                    have n0_ := Aside0.mk (blk_drew BK309.out)
                    have n1_ := Aside0.mk (blk_drew BK316.out)
                    have n2_ := Aside0.mk (blk_drew BK317.out)
                    have n3_ := Aside0.mk (below_drew1 HB.out)
                    clear BK309
                    clear BK316
                    clear BK317
                    clear HB
                    have BK309 := n0_
                    have BK316 := n1_
                    have BK317 := n2_
                    have HB := n3_
                    clear n0_ n1_ n2_ n3_
                    refine start_ (n := 16) (S := fun w' => w'.cell? ⟨gb316, 0, none⟩ = some (.bool x317000_2) ∧ w'.cell? ⟨gb316, 1, none⟩ = some (.bool x317001_2) ∧ w'.cell? ⟨gb316, 2, none⟩ = some (.int .i64 x317002_2) ∧ w'.cell? ⟨gb316, 3, none⟩ = some (.bool x317003_2)) (ds := []) #[false, false, false, false, false, false, false, false, false, false, false, false, false, false, false, false] (by kernel_rfl) rfl rfl ⟨(blk_cell BK316.out 0).trans rfl, (blk_cell BK316.out 1).trans rfl, (blk_cell BK316.out 2).trans rfl, (blk_cell BK316.out 3).trans rfl⟩ (fun hHeld => ?_); refine with_tabW substationlaw35_RecloserCycle.tab15 substationlaw35_RecloserCycle.bits15 (fun HT_ HW_ => ?_)
                    generalize wr.drew = w59 at BK309 BK316 BK317 HB hHeld ⊢
                    refine one_ (i := 0) (N := some 66) #[true, false, false, false, false, false, false, false, false, false, false, false, false, false, false, false] rfl rfl (one_of HT_.out (by kernel_rfl)) (by decide) (fun K hK => ?_)
                    refine goes_ Try.func12 (by kernel_rfl) rfl #[] (by rfl) rfl rfl (by (try simp only [List.map_toArray, List.map_cons, List.map_nil]); first | done | rfl | (simp only [List.length_drop, List.length_take]; rfl)) ?_
                    with_reducible refine (substationlaw35_known.calls k2  true _ A51.out).mono ?_
                    rintro e w60 ⟨rfl, hb⟩
                    refine ⟨_, rfl, ?_⟩
                    have n0_ := Aside0.mk (blk_below (g := gb309) (o := .cells #[.int .i64 a0_0, .int .i64 a0_1, .int .i64 a0_2] 23 (0, 0)) (by (with_reducible repeat (first | refine blk_drewN ?_ _ | refine blk_drew ?_ | refine blk_alloc ?_ _)); exact BK309.out) hb)
                    have n1_ := Aside0.mk (blk_below (g := gb316) (o := .cells #[.bool x317000_2, .bool x317001_2, .int .i64 x317002_2, .bool x317003_2] 40 (0, 0)) (by (with_reducible repeat (first | refine blk_drewN ?_ _ | refine blk_drew ?_ | refine blk_alloc ?_ _)); exact BK316.out) hb)
                    have n2_ := Aside0.mk (blk_below (g := gb317) (o := .cells #[.int .i64 x318000_2, .int .i64 x318001_2, .int .i64 x318002_2] 25 (0, 0)) (by (with_reducible repeat (first | refine blk_drewN ?_ _ | refine blk_drew ?_ | refine blk_alloc ?_ _)); exact BK317.out) hb)
                    have n3_ := Aside0.mk (below_step (by repeat (first | (with_reducible first | exact HB.out | apply below_alloc | apply pw_below_drewN | apply below_drew1 | refine below_set ?_ GE309.out | refine below_set ?_ GE316.out | refine below_set ?_ GE317.out) | exact HB.out)) hb)
                    clear BK309
                    clear BK316
                    clear BK317
                    clear HB
                    have BK309 := n0_
                    have BK316 := n1_
                    have BK317 := n2_
                    have HB := n3_
                    clear n0_ n1_ n2_ n3_
                    (try clear hb)
                    (try clear hb2)
                    (try clear hk)
                    (try clear hi)
                    refine hK.out _ _ ⟨(blk_cell BK316.out 0).trans rfl, (blk_cell BK316.out 1).trans rfl, (blk_cell BK316.out 2).trans rfl, (blk_cell BK316.out 3).trans rfl⟩ (fun hHeld => ?_)
                    clear hK K
                    refine norm_ (a' := ?_) ?_ ?_
                    rotate_left
                    · show Act.put _ (some 66) _ = _
                      simp only [Act.put, List.setIfInBounds_toArray, List.set_cons_zero, List.set_cons_succ, i64_w, i32_w]
                      rfl
                    refine pure_ (i := 1) (N := some 67) (v := ?_) (a' := ?_) #[true, true, false, false, false, false, false, false, false, false, false, false, false, false, false, false] rfl rfl (any_of HT_.out (by kernel_rfl)) (fun _ _ _ h => h) (Or.inl ⟨by rfl, ?_⟩) ?_ ?_
                    rotate_left
                    · intro w'
                      go_simp
                      with_reducible rfl
                    rotate_left
                    · simp only [Act.put, List.setIfInBounds_toArray, List.set_cons_zero, List.set_cons_succ, i64_w, i32_w]
                      rfl
                    refine pure_ (i := 2) (N := some 68) (v := ?_) (a' := ?_) #[true, true, true, false, false, false, false, false, false, false, false, false, false, false, false, false] rfl rfl (any_of HT_.out (by kernel_rfl)) (fun _ _ _ h => h) (Or.inl ⟨by rfl, ?_⟩) ?_ ?_
                    rotate_left
                    · intro w'
                      go_simp
                      with_reducible rfl
                    rotate_left
                    · simp only [Act.put, List.setIfInBounds_toArray, List.set_cons_zero, List.set_cons_succ, i64_w, i32_w]
                      rfl
                    refine pure_ (i := 3) (N := some 69) (v := ?_) (a' := ?_) #[true, true, true, true, false, false, false, false, false, false, false, false, false, false, false, false] rfl rfl (any_of HT_.out (by kernel_rfl)) (fun _ _ _ h => h) (Or.inl ⟨by rfl, ?_⟩) ?_ ?_
                    rotate_left
                    · intro w'
                      go_simp
                      with_reducible rfl
                    rotate_left
                    · simp only [Act.put, List.setIfInBounds_toArray, List.set_cons_zero, List.set_cons_succ, i64_w, i32_w]
                      rfl
                    refine pure_ (i := 4) (N := some 70) (v := ?_) (a' := ?_) #[true, true, true, true, true, false, false, false, false, false, false, false, false, false, false, false] rfl rfl (any_of HT_.out (by kernel_rfl)) (fun _ _ _ h => h) (Or.inl ⟨by rfl, ?_⟩) ?_ ?_
                    rotate_left
                    · intro w'
                      go_simp
                      with_reducible rfl
                    rotate_left
                    · simp only [Act.put, List.setIfInBounds_toArray, List.set_cons_zero, List.set_cons_succ, i64_w, i32_w]
                      rfl
                    refine pure_ (i := 5) (N := some 71) (v := ?_) (a' := ?_) #[true, true, true, true, true, true, false, false, false, false, false, false, false, false, false, false] rfl rfl (any_of HT_.out (by kernel_rfl)) (fun _ _ _ h => h) (Or.inl ⟨by rfl, ?_⟩) ?_ ?_
                    rotate_left
                    · intro w'
                      go_simp
                      with_reducible rfl
                    rotate_left
                    · simp only [Act.put, List.setIfInBounds_toArray, List.set_cons_zero, List.set_cons_succ, i64_w, i32_w]
                      rfl
                    refine take_ (i := 6) (N := some 72) (v := ?_) (a' := ?_) #[true, true, true, true, true, true, true, false, false, false, false, false, false, false, false, false] rfl rfl (take_ofW HT_.out HW_.out (by kernel_rfl)) (fun _ _ _ h => h) (Or.inl ⟨by rfl, ?_⟩) hHeld ?_ ?_
                    rotate_left
                    · rintro w' ⟨s0, s1, s2, s3⟩
                      go_simp
                      with_reducible rfl
                    rotate_left
                    · simp only [Act.put, List.setIfInBounds_toArray, List.set_cons_zero, List.set_cons_succ, i64_w, i32_w]
                      rfl
                    refine one_ (i := 7) (N := some 73) #[true, true, true, true, true, true, true, true, false, false, false, false, false, false, false, false] rfl rfl (one_of HT_.out (by kernel_rfl)) (by decide) (fun K hK => ?_)
                    refine goes_ Try.func17 (by kernel_rfl) rfl #[.bool true] (by rfl) rfl rfl (by (try simp only [List.map_toArray, List.map_cons, List.map_nil]); first | done | rfl | (simp only [List.length_drop, List.length_take]; rfl)) ?_
                    with_reducible refine (breaker_New.calls true t319 t320 t321 t322 _ A54.out).mono ?_
                    rintro e w61 ⟨rfl, hb⟩
                    refine ⟨_, rfl, ?_⟩
                    have n0_ := Aside0.mk (blk_below (g := gb309) (o := .cells #[.int .i64 a0_0, .int .i64 a0_1, .int .i64 a0_2] 23 (0, 0)) (by (with_reducible repeat (first | refine blk_drewN ?_ _ | refine blk_drew ?_ | refine blk_alloc ?_ _)); exact BK309.out) hb)
                    have n1_ := Aside0.mk (blk_below (g := gb316) (o := .cells #[.bool x317000_2, .bool x317001_2, .int .i64 x317002_2, .bool x317003_2] 40 (0, 0)) (by (with_reducible repeat (first | refine blk_drewN ?_ _ | refine blk_drew ?_ | refine blk_alloc ?_ _)); exact BK316.out) hb)
                    have n2_ := Aside0.mk (blk_below (g := gb317) (o := .cells #[.int .i64 x318000_2, .int .i64 x318001_2, .int .i64 x318002_2] 25 (0, 0)) (by (with_reducible repeat (first | refine blk_drewN ?_ _ | refine blk_drew ?_ | refine blk_alloc ?_ _)); exact BK317.out) hb)
                    have n3_ := Aside0.mk (below_step (by repeat (first | (with_reducible first | exact HB.out | apply below_alloc | apply pw_below_drewN | apply below_drew1 | refine below_set ?_ GE309.out | refine below_set ?_ GE316.out | refine below_set ?_ GE317.out) | exact HB.out)) hb)
                    clear BK309
                    clear BK316
                    clear BK317
                    clear HB
                    have BK309 := n0_
                    have BK316 := n1_
                    have BK317 := n2_
                    have HB := n3_
                    clear n0_ n1_ n2_ n3_
                    (try clear hb)
                    (try clear hb2)
                    (try clear hk)
                    (try clear hi)
                    refine hK.out _ _ ⟨(blk_cell BK316.out 0).trans rfl, (blk_cell BK316.out 1).trans rfl, (blk_cell BK316.out 2).trans rfl, (blk_cell BK316.out 3).trans rfl⟩ (fun hHeld => ?_)
                    clear hK K
                    refine norm_ (a' := ?_) ?_ ?_
                    rotate_left
                    · show Act.put _ (some 73) _ = _
                      simp only [Act.put, List.setIfInBounds_toArray, List.set_cons_zero, List.set_cons_succ, i64_w, i32_w]
                      rfl
                    refine pure_ (i := 8) (N := some 74) (v := ?_) (a' := ?_) #[true, true, true, true, true, true, true, true, true, false, false, false, false, false, false, false] rfl rfl (any_of HT_.out (by kernel_rfl)) (fun _ _ _ h => h) (Or.inl ⟨by rfl, ?_⟩) ?_ ?_
                    rotate_left
                    · intro w'
                      go_simp
                      with_reducible rfl
                    rotate_left
                    · simp only [Act.put, List.setIfInBounds_toArray, List.set_cons_zero, List.set_cons_succ, i64_w, i32_w]
                      rfl
                    refine pure_ (i := 9) (N := some 75) (v := ?_) (a' := ?_) #[true, true, true, true, true, true, true, true, true, true, false, false, false, false, false, false] rfl rfl (any_of HT_.out (by kernel_rfl)) (fun _ _ _ h => h) (Or.inl ⟨by rfl, ?_⟩) ?_ ?_
                    rotate_left
                    · intro w'
                      go_simp
                      with_reducible rfl
                    rotate_left
                    · simp only [Act.put, List.setIfInBounds_toArray, List.set_cons_zero, List.set_cons_succ, i64_w, i32_w]
                      rfl
                    refine pure_ (i := 10) (N := some 76) (v := ?_) (a' := ?_) #[true, true, true, true, true, true, true, true, true, true, true, false, false, false, false, false] rfl rfl (any_of HT_.out (by kernel_rfl)) (fun _ _ _ h => h) (Or.inl ⟨by rfl, ?_⟩) ?_ ?_
                    rotate_left
                    · intro w'
                      go_simp
                      with_reducible rfl
                    rotate_left
                    · simp only [Act.put, List.setIfInBounds_toArray, List.set_cons_zero, List.set_cons_succ, i64_w, i32_w]
                      rfl
                    refine pure_ (i := 11) (N := some 77) (v := undef) (a' := ?_) #[true, true, true, true, true, true, true, true, true, true, true, true, false, false, false, false] rfl rfl (any_of HT_.out (by kernel_rfl)) (fun _ _ _ h => h) (Or.inr ⟨by rfl, rfl⟩) ?_ ?_
                    rotate_left
                    · simp only [Act.put, List.setIfInBounds_toArray, List.set_cons_zero, List.set_cons_succ, i64_w, i32_w]
                      rfl
                    refine pure_ (i := 12) (N := some 78) (v := undef) (a' := ?_) #[true, true, true, true, true, true, true, true, true, true, true, true, true, false, false, false] rfl rfl (any_of HT_.out (by kernel_rfl)) (fun _ _ _ h => h) (Or.inr ⟨by rfl, rfl⟩) ?_ ?_
                    rotate_left
                    · simp only [Act.put, List.setIfInBounds_toArray, List.set_cons_zero, List.set_cons_succ, i64_w, i32_w]
                      rfl
                    refine pure_ (i := 13) (N := some 79) (v := undef) (a' := ?_) #[true, true, true, true, true, true, true, true, true, true, true, true, true, true, false, false] rfl rfl (any_of HT_.out (by kernel_rfl)) (fun _ _ _ h => h) (Or.inr ⟨by rfl, rfl⟩) ?_ ?_
                    rotate_left
                    · simp only [Act.put, List.setIfInBounds_toArray, List.set_cons_zero, List.set_cons_succ, i64_w, i32_w]
                      rfl
                    refine pure_ (i := 14) (N := some 80) (v := ?_) (a' := ?_) #[true, true, true, true, true, true, true, true, true, true, true, true, true, true, true, false] rfl rfl (any_of HT_.out (by kernel_rfl)) (fun _ _ _ h => h) (Or.inl ⟨by rfl, ?_⟩) ?_ ?_
                    rotate_left
                    · intro w'
                      go_simp
                      with_reducible rfl
                    rotate_left
                    · simp only [Act.put, List.setIfInBounds_toArray, List.set_cons_zero, List.set_cons_succ, i64_w, i32_w]
                      rfl
                    refine pure_ (i := 15) (N := some 4) (v := ?_) (a' := ?_) #[true, true, true, true, true, true, true, true, true, true, true, true, true, true, true, true] rfl rfl (any_of HT_.out (by kernel_rfl)) (fun _ _ _ h => h) (Or.inl ⟨by rfl, ?_⟩) ?_ ?_
                    rotate_left
                    · intro w'
                      go_simp
                      with_reducible rfl
                    rotate_left
                    · simp only [Act.put, List.setIfInBounds_toArray, List.set_cons_zero, List.set_cons_succ, i64_w, i32_w]
                      rfl
                    refine done_ (done_of HT_.out (by kernel_rfl)) ?_
                    try go_wp2
                    go_ret
                    exact ⟨by first | rfl | (simp [errW_none, errW_some] <;> rfl) | (simp [*, errW_none, errW_some] <;> rfl), by repeat (first | (with_reducible first | exact HB.out | apply below_alloc | apply pw_below_drewN | apply below_drew1 | refine below_set ?_ GE309.out | refine below_set ?_ GE316.out | refine below_set ?_ GE317.out) | exact HB.out)⟩
                · rw [if_neg c53] at H
                  have c53b0 : (x9_2 == 1) = false := beq_eq_false_iff_ne.mpr c53
                  have c53b1 : (x9_2 != 1) = true := bne_iff_ne.mpr c53
                  obtain rfl := Option.some.inj H
                  try go_wp2
                  have n0_ := Aside0.mk (blk_drew BK309.out)
                  have n1_ := Aside0.mk (blk_drew BK316.out)
                  have n2_ := Aside0.mk (blk_drew BK317.out)
                  have n3_ := Aside0.mk (below_drew1 HB.out)
                  clear BK309
                  clear BK316
                  clear BK317
                  clear HB
                  have BK309 := n0_
                  have BK316 := n1_
                  have BK317 := n2_
                  have HB := n3_
                  clear n0_ n1_ n2_ n3_
                  refine start_ (n := 16) (S := fun w' => True) (ds := []) #[false, false, false, false, false, false, false, false, false, false, false, false, false, false, false, false] (by kernel_rfl) rfl rfl trivial (fun hHeld => ?_); refine with_tabW substationlaw35_RecloserCycle.tab15 substationlaw35_RecloserCycle.bits15 (fun HT_ HW_ => ?_)
                  generalize wr.drew = w62 at BK309 BK316 BK317 HB hHeld ⊢
                  refine one_ (i := 0) (N := some 66) #[true, false, false, false, false, false, false, false, false, false, false, false, false, false, false, false] rfl rfl (one_of HT_.out (by kernel_rfl)) (by decide) (fun K hK => ?_)
                  refine goes_ Try.func12 (by kernel_rfl) rfl #[] (by rfl) rfl rfl (by (try simp only [List.map_toArray, List.map_cons, List.map_nil]); first | done | rfl | (simp only [List.length_drop, List.length_take]; rfl)) ?_
                  with_reducible refine (substationlaw35_known.calls k2  true _ A51.out).mono ?_
                  rintro e w63 ⟨rfl, hb⟩
                  refine ⟨_, rfl, ?_⟩
                  have n0_ := Aside0.mk (blk_below (g := gb309) (o := .cells #[.int .i64 a0_0, .int .i64 a0_1, .int .i64 a0_2] 23 (0, 0)) (by (with_reducible repeat (first | refine blk_drewN ?_ _ | refine blk_drew ?_ | refine blk_alloc ?_ _)); exact BK309.out) hb)
                  have n1_ := Aside0.mk (blk_below (g := gb316) (o := .cells #[.bool x317000_2, .bool x317001_2, .int .i64 x317002_2, .bool x317003_2] 40 (0, 0)) (by (with_reducible repeat (first | refine blk_drewN ?_ _ | refine blk_drew ?_ | refine blk_alloc ?_ _)); exact BK316.out) hb)
                  have n2_ := Aside0.mk (blk_below (g := gb317) (o := .cells #[.int .i64 x318000_2, .int .i64 x318001_2, .int .i64 x318002_2] 25 (0, 0)) (by (with_reducible repeat (first | refine blk_drewN ?_ _ | refine blk_drew ?_ | refine blk_alloc ?_ _)); exact BK317.out) hb)
                  have n3_ := Aside0.mk (below_step (by repeat (first | (with_reducible first | exact HB.out | apply below_alloc | apply pw_below_drewN | apply below_drew1 | refine below_set ?_ GE309.out | refine below_set ?_ GE316.out | refine below_set ?_ GE317.out) | exact HB.out)) hb)
                  clear BK309
                  clear BK316
                  clear BK317
                  clear HB
                  have BK309 := n0_
                  have BK316 := n1_
                  have BK317 := n2_
                  have HB := n3_
                  clear n0_ n1_ n2_ n3_
                  (try clear hb)
                  (try clear hb2)
                  (try clear hk)
                  (try clear hi)
                  refine hK.out _ _ trivial (fun hHeld => ?_)
                  clear hK K
                  refine norm_ (a' := ?_) ?_ ?_
                  rotate_left
                  · show Act.put _ (some 66) _ = _
                    simp only [Act.put, List.setIfInBounds_toArray, List.set_cons_zero, List.set_cons_succ, i64_w, i32_w]
                    rfl
                  refine pure_ (i := 1) (N := some 67) (v := ?_) (a' := ?_) #[true, true, false, false, false, false, false, false, false, false, false, false, false, false, false, false] rfl rfl (any_of HT_.out (by kernel_rfl)) (fun _ _ _ h => h) (Or.inl ⟨by rfl, ?_⟩) ?_ ?_
                  rotate_left
                  · intro w'
                    go_simp
                    with_reducible rfl
                  rotate_left
                  · simp only [Act.put, List.setIfInBounds_toArray, List.set_cons_zero, List.set_cons_succ, i64_w, i32_w]
                    rfl
                  refine pure_ (i := 2) (N := some 68) (v := ?_) (a' := ?_) #[true, true, true, false, false, false, false, false, false, false, false, false, false, false, false, false] rfl rfl (any_of HT_.out (by kernel_rfl)) (fun _ _ _ h => h) (Or.inl ⟨by rfl, ?_⟩) ?_ ?_
                  rotate_left
                  · intro w'
                    go_simp
                    with_reducible rfl
                  rotate_left
                  · simp only [Act.put, List.setIfInBounds_toArray, List.set_cons_zero, List.set_cons_succ, i64_w, i32_w]
                    rfl
                  refine pure_ (i := 3) (N := some 69) (v := ?_) (a' := ?_) #[true, true, true, true, false, false, false, false, false, false, false, false, false, false, false, false] rfl rfl (any_of HT_.out (by kernel_rfl)) (fun _ _ _ h => h) (Or.inl ⟨by rfl, ?_⟩) ?_ ?_
                  rotate_left
                  · intro w'
                    go_simp
                    with_reducible rfl
                  rotate_left
                  · simp only [Act.put, List.setIfInBounds_toArray, List.set_cons_zero, List.set_cons_succ, i64_w, i32_w]
                    rfl
                  refine pure_ (i := 4) (N := some 70) (v := ?_) (a' := ?_) #[true, true, true, true, true, false, false, false, false, false, false, false, false, false, false, false] rfl rfl (any_of HT_.out (by kernel_rfl)) (fun _ _ _ h => h) (Or.inl ⟨by rfl, ?_⟩) ?_ ?_
                  rotate_left
                  · intro w'
                    go_simp
                    with_reducible rfl
                  rotate_left
                  · simp only [Act.put, List.setIfInBounds_toArray, List.set_cons_zero, List.set_cons_succ, i64_w, i32_w]
                    rfl
                  refine pure_ (i := 5) (N := some 71) (v := ?_) (a' := ?_) #[true, true, true, true, true, true, false, false, false, false, false, false, false, false, false, false] rfl rfl (any_of HT_.out (by kernel_rfl)) (fun _ _ _ h => h) (Or.inl ⟨by rfl, ?_⟩) ?_ ?_
                  rotate_left
                  · intro w'
                    go_simp
                    with_reducible rfl
                  rotate_left
                  · simp only [Act.put, List.setIfInBounds_toArray, List.set_cons_zero, List.set_cons_succ, i64_w, i32_w]
                    rfl
                  refine pure_ (i := 6) (N := some 72) (v := undef) (a' := ?_) #[true, true, true, true, true, true, true, false, false, false, false, false, false, false, false, false] rfl rfl (any_of HT_.out (by kernel_rfl)) (fun _ _ _ h => h) (Or.inr ⟨by rfl, rfl⟩) ?_ ?_
                  rotate_left
                  · simp only [Act.put, List.setIfInBounds_toArray, List.set_cons_zero, List.set_cons_succ, i64_w, i32_w]
                    rfl
                  refine pure_ (i := 7) (N := some 73) (v := undef) (a' := ?_) #[true, true, true, true, true, true, true, true, false, false, false, false, false, false, false, false] rfl rfl (any_of HT_.out (by kernel_rfl)) (fun _ _ _ h => h) (Or.inr ⟨by rfl, rfl⟩) ?_ ?_
                  rotate_left
                  · simp only [Act.put, List.setIfInBounds_toArray, List.set_cons_zero, List.set_cons_succ, i64_w, i32_w]
                    rfl
                  refine pure_ (i := 8) (N := some 74) (v := undef) (a' := ?_) #[true, true, true, true, true, true, true, true, true, false, false, false, false, false, false, false] rfl rfl (any_of HT_.out (by kernel_rfl)) (fun _ _ _ h => h) (Or.inr ⟨by rfl, rfl⟩) ?_ ?_
                  rotate_left
                  · simp only [Act.put, List.setIfInBounds_toArray, List.set_cons_zero, List.set_cons_succ, i64_w, i32_w]
                    rfl
                  refine pure_ (i := 9) (N := some 75) (v := ?_) (a' := ?_) #[true, true, true, true, true, true, true, true, true, true, false, false, false, false, false, false] rfl rfl (any_of HT_.out (by kernel_rfl)) (fun _ _ _ h => h) (Or.inl ⟨by rfl, ?_⟩) ?_ ?_
                  rotate_left
                  · intro w'
                    go_simp
                    with_reducible rfl
                  rotate_left
                  · simp only [Act.put, List.setIfInBounds_toArray, List.set_cons_zero, List.set_cons_succ, i64_w, i32_w]
                    rfl
                  refine pure_ (i := 10) (N := some 76) (v := ?_) (a' := ?_) #[true, true, true, true, true, true, true, true, true, true, true, false, false, false, false, false] rfl rfl (any_of HT_.out (by kernel_rfl)) (fun _ _ _ h => h) (Or.inl ⟨by rfl, ?_⟩) ?_ ?_
                  rotate_left
                  · intro w'
                    go_simp
                    with_reducible rfl
                  rotate_left
                  · simp only [Act.put, List.setIfInBounds_toArray, List.set_cons_zero, List.set_cons_succ, i64_w, i32_w]
                    rfl
                  refine pure_ (i := 11) (N := some 77) (v := undef) (a' := ?_) #[true, true, true, true, true, true, true, true, true, true, true, true, false, false, false, false] rfl rfl (any_of HT_.out (by kernel_rfl)) (fun _ _ _ h => h) (Or.inr ⟨by rfl, rfl⟩) ?_ ?_
                  rotate_left
                  · simp only [Act.put, List.setIfInBounds_toArray, List.set_cons_zero, List.set_cons_succ, i64_w, i32_w]
                    rfl
                  refine pure_ (i := 12) (N := some 78) (v := undef) (a' := ?_) #[true, true, true, true, true, true, true, true, true, true, true, true, true, false, false, false] rfl rfl (any_of HT_.out (by kernel_rfl)) (fun _ _ _ h => h) (Or.inr ⟨by rfl, rfl⟩) ?_ ?_
                  rotate_left
                  · simp only [Act.put, List.setIfInBounds_toArray, List.set_cons_zero, List.set_cons_succ, i64_w, i32_w]
                    rfl
                  refine pure_ (i := 13) (N := some 79) (v := undef) (a' := ?_) #[true, true, true, true, true, true, true, true, true, true, true, true, true, true, false, false] rfl rfl (any_of HT_.out (by kernel_rfl)) (fun _ _ _ h => h) (Or.inr ⟨by rfl, rfl⟩) ?_ ?_
                  rotate_left
                  · simp only [Act.put, List.setIfInBounds_toArray, List.set_cons_zero, List.set_cons_succ, i64_w, i32_w]
                    rfl
                  refine pure_ (i := 14) (N := some 80) (v := ?_) (a' := ?_) #[true, true, true, true, true, true, true, true, true, true, true, true, true, true, true, false] rfl rfl (any_of HT_.out (by kernel_rfl)) (fun _ _ _ h => h) (Or.inl ⟨by rfl, ?_⟩) ?_ ?_
                  rotate_left
                  · intro w'
                    go_simp
                    with_reducible rfl
                  rotate_left
                  · simp only [Act.put, List.setIfInBounds_toArray, List.set_cons_zero, List.set_cons_succ, i64_w, i32_w]
                    rfl
                  refine pure_ (i := 15) (N := some 4) (v := ?_) (a' := ?_) #[true, true, true, true, true, true, true, true, true, true, true, true, true, true, true, true] rfl rfl (any_of HT_.out (by kernel_rfl)) (fun _ _ _ h => h) (Or.inl ⟨by rfl, ?_⟩) ?_ ?_
                  rotate_left
                  · intro w'
                    go_simp
                    with_reducible rfl
                  rotate_left
                  · simp only [Act.put, List.setIfInBounds_toArray, List.set_cons_zero, List.set_cons_succ, i64_w, i32_w]
                    rfl
                  refine done_ (done_of HT_.out (by kernel_rfl)) ?_
                  try go_wp2
                  go_ret
                  exact ⟨by first | rfl | (simp [errW_none, errW_some] <;> rfl) | (simp [*, errW_none, errW_some] <;> rfl), by repeat (first | (with_reducible first | exact HB.out | apply below_alloc | apply pw_below_drewN | apply below_drew1 | refine below_set ?_ GE309.out | refine below_set ?_ GE316.out | refine below_set ?_ GE317.out) | exact HB.out)⟩
              · replace c52 := Bool.eq_false_iff.mpr c52
                subst c52
                have H1 : (some false) = some r := by rw [if_neg (show ¬ (false = true) by decide)] at H; exact H
                clear H
                have H := H1
                clear H1
                obtain rfl := Option.some.inj H
                try go_wp2
                have n0_ := Aside0.mk (blk_drew BK309.out)
                have n1_ := Aside0.mk (blk_drew BK316.out)
                have n2_ := Aside0.mk (blk_drew BK317.out)
                have n3_ := Aside0.mk (below_drew1 HB.out)
                clear BK309
                clear BK316
                clear BK317
                clear HB
                have BK309 := n0_
                have BK316 := n1_
                have BK317 := n2_
                have HB := n3_
                clear n0_ n1_ n2_ n3_
                refine start_ (n := 16) (S := fun w' => True) (ds := []) #[false, false, false, false, false, false, false, false, false, false, false, false, false, false, false, false] (by kernel_rfl) rfl rfl trivial (fun hHeld => ?_); refine with_tabW substationlaw35_RecloserCycle.tab15 substationlaw35_RecloserCycle.bits15 (fun HT_ HW_ => ?_)
                generalize wr.drew = w64 at BK309 BK316 BK317 HB hHeld ⊢
                refine one_ (i := 0) (N := some 66) #[true, false, false, false, false, false, false, false, false, false, false, false, false, false, false, false] rfl rfl (one_of HT_.out (by kernel_rfl)) (by decide) (fun K hK => ?_)
                refine goes_ Try.func12 (by kernel_rfl) rfl #[] (by rfl) rfl rfl (by (try simp only [List.map_toArray, List.map_cons, List.map_nil]); first | done | rfl | (simp only [List.length_drop, List.length_take]; rfl)) ?_
                with_reducible refine (substationlaw35_known.calls k2  false _ A51.out).mono ?_
                rintro e w65 ⟨rfl, hb⟩
                refine ⟨_, rfl, ?_⟩
                have n0_ := Aside0.mk (blk_below (g := gb309) (o := .cells #[.int .i64 a0_0, .int .i64 a0_1, .int .i64 a0_2] 23 (0, 0)) (by (with_reducible repeat (first | refine blk_drewN ?_ _ | refine blk_drew ?_ | refine blk_alloc ?_ _)); exact BK309.out) hb)
                have n1_ := Aside0.mk (blk_below (g := gb316) (o := .cells #[.bool x317000_2, .bool x317001_2, .int .i64 x317002_2, .bool x317003_2] 40 (0, 0)) (by (with_reducible repeat (first | refine blk_drewN ?_ _ | refine blk_drew ?_ | refine blk_alloc ?_ _)); exact BK316.out) hb)
                have n2_ := Aside0.mk (blk_below (g := gb317) (o := .cells #[.int .i64 x318000_2, .int .i64 x318001_2, .int .i64 x318002_2] 25 (0, 0)) (by (with_reducible repeat (first | refine blk_drewN ?_ _ | refine blk_drew ?_ | refine blk_alloc ?_ _)); exact BK317.out) hb)
                have n3_ := Aside0.mk (below_step (by repeat (first | (with_reducible first | exact HB.out | apply below_alloc | apply pw_below_drewN | apply below_drew1 | refine below_set ?_ GE309.out | refine below_set ?_ GE316.out | refine below_set ?_ GE317.out) | exact HB.out)) hb)
                clear BK309
                clear BK316
                clear BK317
                clear HB
                have BK309 := n0_
                have BK316 := n1_
                have BK317 := n2_
                have HB := n3_
                clear n0_ n1_ n2_ n3_
                (try clear hb)
                (try clear hb2)
                (try clear hk)
                (try clear hi)
                refine hK.out _ _ trivial (fun hHeld => ?_)
                clear hK K
                refine norm_ (a' := ?_) ?_ ?_
                rotate_left
                · show Act.put _ (some 66) _ = _
                  simp only [Act.put, List.setIfInBounds_toArray, List.set_cons_zero, List.set_cons_succ, i64_w, i32_w]
                  rfl
                refine pure_ (i := 1) (N := some 67) (v := ?_) (a' := ?_) #[true, true, false, false, false, false, false, false, false, false, false, false, false, false, false, false] rfl rfl (any_of HT_.out (by kernel_rfl)) (fun _ _ _ h => h) (Or.inl ⟨by rfl, ?_⟩) ?_ ?_
                rotate_left
                · intro w'
                  go_simp
                  with_reducible rfl
                rotate_left
                · simp only [Act.put, List.setIfInBounds_toArray, List.set_cons_zero, List.set_cons_succ, i64_w, i32_w]
                  rfl
                refine pure_ (i := 2) (N := some 68) (v := undef) (a' := ?_) #[true, true, true, false, false, false, false, false, false, false, false, false, false, false, false, false] rfl rfl (any_of HT_.out (by kernel_rfl)) (fun _ _ _ h => h) (Or.inr ⟨by rfl, rfl⟩) ?_ ?_
                rotate_left
                · simp only [Act.put, List.setIfInBounds_toArray, List.set_cons_zero, List.set_cons_succ, i64_w, i32_w]
                  rfl
                refine pure_ (i := 3) (N := some 69) (v := undef) (a' := ?_) #[true, true, true, true, false, false, false, false, false, false, false, false, false, false, false, false] rfl rfl (any_of HT_.out (by kernel_rfl)) (fun _ _ _ h => h) (Or.inr ⟨by rfl, rfl⟩) ?_ ?_
                rotate_left
                · simp only [Act.put, List.setIfInBounds_toArray, List.set_cons_zero, List.set_cons_succ, i64_w, i32_w]
                  rfl
                refine pure_ (i := 4) (N := some 70) (v := ?_) (a' := ?_) #[true, true, true, true, true, false, false, false, false, false, false, false, false, false, false, false] rfl rfl (any_of HT_.out (by kernel_rfl)) (fun _ _ _ h => h) (Or.inl ⟨by rfl, ?_⟩) ?_ ?_
                rotate_left
                · intro w'
                  go_simp
                  with_reducible rfl
                rotate_left
                · simp only [Act.put, List.setIfInBounds_toArray, List.set_cons_zero, List.set_cons_succ, i64_w, i32_w]
                  rfl
                refine pure_ (i := 5) (N := some 71) (v := ?_) (a' := ?_) #[true, true, true, true, true, true, false, false, false, false, false, false, false, false, false, false] rfl rfl (any_of HT_.out (by kernel_rfl)) (fun _ _ _ h => h) (Or.inl ⟨by rfl, ?_⟩) ?_ ?_
                rotate_left
                · intro w'
                  go_simp
                  with_reducible rfl
                rotate_left
                · simp only [Act.put, List.setIfInBounds_toArray, List.set_cons_zero, List.set_cons_succ, i64_w, i32_w]
                  rfl
                refine pure_ (i := 6) (N := some 72) (v := undef) (a' := ?_) #[true, true, true, true, true, true, true, false, false, false, false, false, false, false, false, false] rfl rfl (any_of HT_.out (by kernel_rfl)) (fun _ _ _ h => h) (Or.inr ⟨by rfl, rfl⟩) ?_ ?_
                rotate_left
                · simp only [Act.put, List.setIfInBounds_toArray, List.set_cons_zero, List.set_cons_succ, i64_w, i32_w]
                  rfl
                refine pure_ (i := 7) (N := some 73) (v := undef) (a' := ?_) #[true, true, true, true, true, true, true, true, false, false, false, false, false, false, false, false] rfl rfl (any_of HT_.out (by kernel_rfl)) (fun _ _ _ h => h) (Or.inr ⟨by rfl, rfl⟩) ?_ ?_
                rotate_left
                · simp only [Act.put, List.setIfInBounds_toArray, List.set_cons_zero, List.set_cons_succ, i64_w, i32_w]
                  rfl
                refine pure_ (i := 8) (N := some 74) (v := undef) (a' := ?_) #[true, true, true, true, true, true, true, true, true, false, false, false, false, false, false, false] rfl rfl (any_of HT_.out (by kernel_rfl)) (fun _ _ _ h => h) (Or.inr ⟨by rfl, rfl⟩) ?_ ?_
                rotate_left
                · simp only [Act.put, List.setIfInBounds_toArray, List.set_cons_zero, List.set_cons_succ, i64_w, i32_w]
                  rfl
                refine pure_ (i := 9) (N := some 75) (v := ?_) (a' := ?_) #[true, true, true, true, true, true, true, true, true, true, false, false, false, false, false, false] rfl rfl (any_of HT_.out (by kernel_rfl)) (fun _ _ _ h => h) (Or.inl ⟨by rfl, ?_⟩) ?_ ?_
                rotate_left
                · intro w'
                  go_simp
                  with_reducible rfl
                rotate_left
                · simp only [Act.put, List.setIfInBounds_toArray, List.set_cons_zero, List.set_cons_succ, i64_w, i32_w]
                  rfl
                refine pure_ (i := 10) (N := some 76) (v := ?_) (a' := ?_) #[true, true, true, true, true, true, true, true, true, true, true, false, false, false, false, false] rfl rfl (any_of HT_.out (by kernel_rfl)) (fun _ _ _ h => h) (Or.inl ⟨by rfl, ?_⟩) ?_ ?_
                rotate_left
                · intro w'
                  go_simp
                  with_reducible rfl
                rotate_left
                · simp only [Act.put, List.setIfInBounds_toArray, List.set_cons_zero, List.set_cons_succ, i64_w, i32_w]
                  rfl
                refine pure_ (i := 11) (N := some 77) (v := undef) (a' := ?_) #[true, true, true, true, true, true, true, true, true, true, true, true, false, false, false, false] rfl rfl (any_of HT_.out (by kernel_rfl)) (fun _ _ _ h => h) (Or.inr ⟨by rfl, rfl⟩) ?_ ?_
                rotate_left
                · simp only [Act.put, List.setIfInBounds_toArray, List.set_cons_zero, List.set_cons_succ, i64_w, i32_w]
                  rfl
                refine pure_ (i := 12) (N := some 78) (v := undef) (a' := ?_) #[true, true, true, true, true, true, true, true, true, true, true, true, true, false, false, false] rfl rfl (any_of HT_.out (by kernel_rfl)) (fun _ _ _ h => h) (Or.inr ⟨by rfl, rfl⟩) ?_ ?_
                rotate_left
                · simp only [Act.put, List.setIfInBounds_toArray, List.set_cons_zero, List.set_cons_succ, i64_w, i32_w]
                  rfl
                refine pure_ (i := 13) (N := some 79) (v := undef) (a' := ?_) #[true, true, true, true, true, true, true, true, true, true, true, true, true, true, false, false] rfl rfl (any_of HT_.out (by kernel_rfl)) (fun _ _ _ h => h) (Or.inr ⟨by rfl, rfl⟩) ?_ ?_
                rotate_left
                · simp only [Act.put, List.setIfInBounds_toArray, List.set_cons_zero, List.set_cons_succ, i64_w, i32_w]
                  rfl
                refine pure_ (i := 14) (N := some 80) (v := ?_) (a' := ?_) #[true, true, true, true, true, true, true, true, true, true, true, true, true, true, true, false] rfl rfl (any_of HT_.out (by kernel_rfl)) (fun _ _ _ h => h) (Or.inl ⟨by rfl, ?_⟩) ?_ ?_
                rotate_left
                · intro w'
                  go_simp
                  with_reducible rfl
                rotate_left
                · simp only [Act.put, List.setIfInBounds_toArray, List.set_cons_zero, List.set_cons_succ, i64_w, i32_w]
                  rfl
                refine pure_ (i := 15) (N := some 4) (v := ?_) (a' := ?_) #[true, true, true, true, true, true, true, true, true, true, true, true, true, true, true, true] rfl rfl (any_of HT_.out (by kernel_rfl)) (fun _ _ _ h => h) (Or.inl ⟨by rfl, ?_⟩) ?_ ?_
                rotate_left
                · intro w'
                  go_simp
                  with_reducible rfl
                rotate_left
                · simp only [Act.put, List.setIfInBounds_toArray, List.set_cons_zero, List.set_cons_succ, i64_w, i32_w]
                  rfl
                refine done_ (done_of HT_.out (by kernel_rfl)) ?_
                try go_wp2
                go_ret
                exact ⟨by first | rfl | (simp [errW_none, errW_some] <;> rfl) | (simp [*, errW_none, errW_some] <;> rfl), by repeat (first | (with_reducible first | exact HB.out | apply below_alloc | apply pw_below_drewN | apply below_drew1 | refine below_set ?_ GE309.out | refine below_set ?_ GE316.out | refine below_set ?_ GE317.out) | exact HB.out)⟩

end Go.Proofs.Ytmppijipaocfiaa.PAll
