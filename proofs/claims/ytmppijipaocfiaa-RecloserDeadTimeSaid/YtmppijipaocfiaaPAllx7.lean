/- The walk of one law: what it computes is its '.f'. Conditions: none. -/
import Derived.Test.YtmppijipaocfiaaPAllx0
import Derived.Test.YtmppijipaocfiaaPAllx3
namespace Go.Proofs.Ytmppijipaocfiaa.PAll
open Go.RowKit Go.Proofs.YtmppijipaocfiaaW.PrintWords Go.Proofs.YtmppijipaocfiaaW.PrintLast Go.Proofs.YtmppijipaocfiaaW.PrintMore
attribute [local go_sem] max2_int min2_int max_two min_two max_three min_three max_four min_four   -- for this text's walks alone
set_option linter.unusedVariables false
set_option linter.unusedSimpArgs false

/-! ### substationlaw35_RecloserDeadTime: function 6 -/
mutual
def substationlaw35_RecloserDeadTime.l0 : Nat → Int → List (S29) → Int → Int → Int → Int → Int → Int → Int → Int → Option (Bool)
  | 0, _, _, _, _, _, _, _, _, _, _ => none
  | k + 1, x6, x15, x16, x17, x244000, x244001, x244002, x246000, x246001, x246002 => if x17 < x16 then (if 0 ≤ x17 then (if x17 < (x15.length : Int) then ((substationlaw35_Settings_step.f x244000 x244001 x244002 x246000 x246001 x246002 ((rd_T29 x15 x17).f0) ((rd_T29 x15 x17).f1) ((rd_T29 x15 x17).f2) ((rd_T29 x15 x17).f3)).bind fun bt249 => (if ((rd_T29 x15 x17).f2 = true) then (substationlaw35_RecloserDeadTime.j1 k (wrap64 (x6 + 1)) bt249.2.2.2 x15 x16 x17 ((rd_T29 x15 x17).f1) x244000 x244001 x244002 bt249.1 bt249.2.1 bt249.2.2.1) else (substationlaw35_RecloserDeadTime.j1 k (wrap64 (x6 + 1)) bt249.2.2.2 x15 x16 x17 true x244000 x244001 x244002 bt249.1 bt249.2.1 bt249.2.2.1))) else (none)) else (none)) else ((substationlaw35_known.f k).bind fun t246 => (some t246))
def substationlaw35_RecloserDeadTime.j1 : Nat → Int → Bool → List (S29) → Int → Int → Bool → Int → Int → Int → Int → Int → Int → Option (Bool)
  | 0, _, _, _, _, _, _, _, _, _, _, _, _ => none
  | k + 1, x6, x9, x15, x16, x17, x36, x244000, x244001, x244002, x246000, x246001, x246002 => if x36 = true then (if x9 = true then (if 0 ≤ x244001 then (some false) else (substationlaw35_RecloserDeadTime.l0 k 0 x15 x16 (wrap64 (x17 + 1)) x244000 x244001 x244002 x246000 x246001 x246002)) else (substationlaw35_RecloserDeadTime.l0 k 0 x15 x16 (wrap64 (x17 + 1)) x244000 x244001 x244002 x246000 x246001 x246002)) else (if x9 = true then (if x6 ≤ x244001 then (some false) else (substationlaw35_RecloserDeadTime.l0 k x6 x15 x16 (wrap64 (x17 + 1)) x244000 x244001 x244002 x246000 x246001 x246002)) else (substationlaw35_RecloserDeadTime.l0 k x6 x15 x16 (wrap64 (x17 + 1)) x244000 x244001 x244002 x246000 x246001 x246002))
end
def substationlaw35_RecloserDeadTime.f (k : Nat) (a0_0 : Int) (a0_1 : Int) (a0_2 : Int) (l1 : List (S29)) : Option (Bool) := if (l1.length : Int) > 200 then ((substationlaw35_known.f k).bind fun t244 => (some t244)) else (substationlaw35_RecloserDeadTime.l0 k 0 l1 (l1.length : Int) 0 a0_0 a0_1 a0_2 0 0 0)
theorem substationlaw35_RecloserDeadTime.mono_l : ∀ k, (∀ y0 y1 y2 y3 y4 y5 y6 y7 y8 y9, LeO (substationlaw35_RecloserDeadTime.l0 k y0 y1 y2 y3 y4 y5 y6 y7 y8 y9) (substationlaw35_RecloserDeadTime.l0 (k + 1) y0 y1 y2 y3 y4 y5 y6 y7 y8 y9)) ∧ (∀ y0 y1 y2 y3 y4 y5 y6 y7 y8 y9 y10 y11, LeO (substationlaw35_RecloserDeadTime.j1 k y0 y1 y2 y3 y4 y5 y6 y7 y8 y9 y10 y11) (substationlaw35_RecloserDeadTime.j1 (k + 1) y0 y1 y2 y3 y4 y5 y6 y7 y8 y9 y10 y11))
  | 0 => ⟨fun _ _ _ _ _ _ _ _ _ _ r h => by simp [substationlaw35_RecloserDeadTime.l0] at h, fun _ _ _ _ _ _ _ _ _ _ _ _ r h => by simp [substationlaw35_RecloserDeadTime.j1] at h⟩
  | k + 1 => by
    obtain ⟨ih0, ih1⟩ := substationlaw35_RecloserDeadTime.mono_l k
    refine ⟨?_, ?_⟩
    · intro y0 y1 y2 y3 y4 y5 y6 y7 y8 y9
      unfold substationlaw35_RecloserDeadTime.l0
      repeat' first
      | (with_reducible exact ih0 _ _ _ _ _ _ _ _ _ _)
      | (with_reducible exact ih1 _ _ _ _ _ _ _ _ _ _ _ _)
      | (with_reducible exact substationlaw35_known.mono _)
      | (with_reducible exact LeO.refl _)
      | (with_reducible exact LeO.none _)
      | (with_reducible refine LeO.ite ?_ ?_)
      | (with_reducible refine LeO.bind ?_ (fun _ => ?_))
      | exact ih0 _ _ _ _ _ _ _ _ _ _
      | exact ih1 _ _ _ _ _ _ _ _ _ _ _ _
      | exact substationlaw35_known.mono _
      | exact LeO.none _
      | refine LeO.ite ?_ ?_
      | refine LeO.bind ?_ (fun _ => ?_)
    · intro y0 y1 y2 y3 y4 y5 y6 y7 y8 y9 y10 y11
      unfold substationlaw35_RecloserDeadTime.j1
      repeat' first
      | (with_reducible exact ih0 _ _ _ _ _ _ _ _ _ _)
      | (with_reducible exact ih1 _ _ _ _ _ _ _ _ _ _ _ _)
      | (with_reducible exact substationlaw35_known.mono _)
      | (with_reducible exact LeO.refl _)
      | (with_reducible exact LeO.none _)
      | (with_reducible refine LeO.ite ?_ ?_)
      | (with_reducible refine LeO.bind ?_ (fun _ => ?_))
      | exact ih0 _ _ _ _ _ _ _ _ _ _
      | exact ih1 _ _ _ _ _ _ _ _ _ _ _ _
      | exact substationlaw35_known.mono _
      | exact LeO.none _
      | refine LeO.ite ?_ ?_
      | refine LeO.bind ?_ (fun _ => ?_)
theorem substationlaw35_RecloserDeadTime.mono : ∀ a0 a1 a2 a3 k, LeO (substationlaw35_RecloserDeadTime.f k a0 a1 a2 a3) (substationlaw35_RecloserDeadTime.f (k + 1) a0 a1 a2 a3) := by
  intro a0 a1 a2 a3 k
  obtain ⟨ih0, ih1⟩ := substationlaw35_RecloserDeadTime.mono_l k
  unfold substationlaw35_RecloserDeadTime.f
  repeat' first
      | (with_reducible exact ih0 _ _ _ _ _ _ _ _ _ _)
      | (with_reducible exact ih1 _ _ _ _ _ _ _ _ _ _ _ _)
      | (with_reducible exact substationlaw35_known.mono _)
      | (with_reducible exact LeO.refl _)
      | (with_reducible exact LeO.none _)
      | (with_reducible refine LeO.ite ?_ ?_)
      | (with_reducible refine LeO.bind ?_ (fun _ => ?_))
      | exact ih0 _ _ _ _ _ _ _ _ _ _
      | exact ih1 _ _ _ _ _ _ _ _ _ _ _ _
      | exact substationlaw35_known.mono _
      | exact LeO.none _
      | refine LeO.ite ?_ ?_
      | refine LeO.bind ?_ (fun _ => ?_)
set_option maxHeartbeats 8000000 in
set_option maxRecDepth 100000 in
theorem substationlaw35_RecloserDeadTime.calls (k : Nat) (a0_0 : Int) (a0_1 : Int) (a0_2 : Int) (A1 : Option Addr) (c1 : Nat) (l1 : List (S29)) (r : Bool) (w : World) (hr1 : Kd.C k29 w A1 l1.length l1) (hc1 : l1.length ≤ c1) (h : substationlaw35_RecloserDeadTime.f k a0_0 a0_1 a0_2 l1 = some r) :
    Calls Try.prog 6 #[.agg #[.int .i64 a0_0, .int .i64 a0_1, .int .i64 a0_2], .slice A1 l1.length c1] w fun e w' => e = .returned (.bool r) ∧ Below w.heap.size w w' := by
  have hu23 := Try.underlying23
  have hu25 := Try.underlying25
  have hu29 := Try.underlying29
  have HR1 := Aside0.mk hr1
  have HC1 := Aside0.mk hc1
  clear hr1 hc1
  have HB := Aside0.mk (Below.refl w.heap.size w)
  have H : (if (l1.length : Int) > 200 then ((substationlaw35_known.f k).bind fun t244 => (some t244)) else (substationlaw35_RecloserDeadTime.l0 k 0 l1 (l1.length : Int) 0 a0_0 a0_1 a0_2 0 0 0)) = some r := h
  clear h
  by_cases c3 : (l1.length : Int) > 200
  · rw [if_pos c3] at H
    have c3b0 : decide (200 < (l1.length : Int)) = true := decide_eq_true c3
    have c3b1 : decide (200 < l1.length) = true := decide_eq_true (by omega)
    clear c3
    replace H := Option.bind_eq_some_iff.mp H
    obtain ⟨t244, A40, H⟩ := H
    replace H : (some t244) = some r := H
    have A4 := Aside0.mk A40
    clear A40
    obtain rfl := Option.some.inj H
    go_enter Try.func6, Try.ntmps6
    go_wp2_with (first | ((with_reducible refine gate_dst (N := 2) rfl ?_); refine box_event ?hg (N := 2) ?hd (cs := #[.int .i64 a0_0, .int .i64 a0_1, .int .i64 a0_2]) (t := 23) ?hr ?_; (case hd => rfl); (case hg => rfl); (case hr => first | (go_simp; done) | (go_simp; rfl)); intro gb243 hg w5 hbox hb; have n0_ := Aside0.mk (below_step (by repeat (first | (with_reducible first | exact HB.out | apply below_alloc | apply pw_below_drewN | apply below_drew1) | exact HB.out)) hb); have n1_ := Aside0.mk (hbox); have n2_ := Aside0.mk ((by rw [hg]; exact (below_size (by repeat (first | (with_reducible first | exact HB.out | apply below_alloc | apply pw_below_drewN | apply below_drew1) | exact HB.out))) : w.heap.size ≤ gb243)); have n3_ := Aside0.mk ((by rw [hg]; exact (below_size (by repeat (first | (with_reducible first | exact HB.out | apply below_alloc | apply pw_below_drewN | apply below_drew1) | exact HB.out))) : w.heap.size ≤ gb243)); clear HB; have HB := n0_; have BK243 := n1_; have GW243 := n2_; have GE243 := n3_; clear n0_ n1_ n2_ n3_; clear hb hbox hg) | ((with_reducible refine gate_callee (f := 12) rfl ?_); refine goesL_ (some 13) rfl rfl Try.func12 (by kernel_rfl) rfl #[] rfl (by (try simp only [List.map_toArray, List.map_cons, List.map_nil]); first | done | rfl | (simp only [List.length_drop, List.length_take]; rfl)) ?_; (with_reducible refine (substationlaw35_known.calls k  t244 _ A4.out).mono ?_); rintro e w6 ⟨rfl, hb⟩; refine ⟨_, rfl, ?_⟩; have n0_ := Aside0.mk (blk_below (g := gb243) (o := .cells #[.int .i64 a0_0, .int .i64 a0_1, .int .i64 a0_2] 23 (0, 0)) (by (with_reducible repeat (first | refine blk_drewN ?_ _ | refine blk_drew ?_ | refine blk_alloc ?_ _)); exact BK243.out) hb); have n1_ := Aside0.mk (below_step (by repeat (first | (with_reducible first | exact HB.out | apply below_alloc | apply pw_below_drewN | apply below_drew1 | refine below_set ?_ GE243.out) | exact HB.out)) hb); clear BK243; clear HB; have BK243 := n0_; have HB := n1_; clear n0_ n1_; (try clear hb); (try clear hb2); (try clear hk); (try clear hi)))
    go_ret
    exact ⟨by first | rfl | (simp [errW_none, errW_some] <;> rfl) | (simp [*, errW_none, errW_some] <;> rfl), by repeat (first | (with_reducible first | exact HB.out | apply below_alloc | apply pw_below_drewN | apply below_drew1 | refine below_set ?_ GE243.out) | exact HB.out)⟩
  · rw [if_neg c3] at H
    have c3b0 : decide (200 < (l1.length : Int)) = false := decide_eq_false c3
    have c3b1 : decide (200 < l1.length) = false := decide_eq_false (by omega)
    clear c3
    have H' := Aside0.mk H
    clear H
    go_enter Try.func6, Try.ntmps6
    go_wp2_with (first | ((with_reducible refine gate_dst (N := 2) rfl ?_); refine box_event ?hg (N := 2) ?hd (cs := #[.int .i64 a0_0, .int .i64 a0_1, .int .i64 a0_2]) (t := 23) ?hr ?_; (case hd => rfl); (case hg => rfl); (case hr => first | (go_simp; done) | (go_simp; rfl)); intro gb243 hg w7 hbox hb; have n0_ := Aside0.mk (below_step (by repeat (first | (with_reducible first | exact HB.out | apply below_alloc | apply pw_below_drewN | apply below_drew1) | exact HB.out)) hb); have n1_ := Aside0.mk (hbox); have n2_ := Aside0.mk ((by rw [hg]; exact (below_size (by repeat (first | (with_reducible first | exact HB.out | apply below_alloc | apply pw_below_drewN | apply below_drew1) | exact HB.out))) : w.heap.size ≤ gb243)); have n3_ := Aside0.mk ((by rw [hg]; exact (below_size (by repeat (first | (with_reducible first | exact HB.out | apply below_alloc | apply pw_below_drewN | apply below_drew1) | exact HB.out))) : w.heap.size ≤ gb243)); clear HB; have HB := n0_; have BK243 := n1_; have GW243 := n2_; have GE243 := n3_; clear n0_ n1_ n2_ n3_; clear hb hbox hg) | ((with_reducible refine gate_dst (N := 5) rfl ?_); refine box_event ?hg (N := 5) ?hd (cs := #[.int .i64 0, .int .i64 0, .int .i64 0]) (t := 25) ?hr ?_; (case hd => rfl); (case hg => rfl); (case hr => first | (go_simp; done) | (go_simp; rfl)); intro gb245 hg w8 hbox hb; have n0_ := Aside0.mk (blk_below (g := gb243) (o := .cells #[.int .i64 a0_0, .int .i64 a0_1, .int .i64 a0_2] 23 (0, 0)) (by (with_reducible repeat (first | refine blk_drewN ?_ _ | refine blk_drew ?_ | refine blk_alloc ?_ _)); exact BK243.out) hb); have n1_ := Aside0.mk (below_step (by repeat (first | (with_reducible first | exact HB.out | apply below_alloc | apply pw_below_drewN | apply below_drew1 | refine below_set ?_ GE243.out) | exact HB.out)) hb); have n2_ := Aside0.mk (hbox); have n3_ := Aside0.mk ((by rw [hg]; exact (below_size (by repeat (first | (with_reducible first | exact HB.out | apply below_alloc | apply pw_below_drewN | apply below_drew1 | refine below_set ?_ GE243.out) | exact HB.out))) : w.heap.size ≤ gb245)); have n4_ := Aside0.mk ((by rw [hg]; exact (below_size (by repeat (first | (with_reducible first | exact HB.out | apply below_alloc | apply pw_below_drewN | apply below_drew1 | refine below_set ?_ GE243.out) | exact HB.out))) : w.heap.size ≤ gb245)); have n5_ := Aside0.mk ((by rw [hg]; exact Nat.ne_of_lt (blk_lt (g := gb243) (o := .cells #[.int .i64 a0_0, .int .i64 a0_1, .int .i64 a0_2] 23 (0, 0)) (by (with_reducible repeat (first | refine blk_drewN ?_ _ | refine blk_drew ?_ | refine blk_alloc ?_ _)); exact BK243.out)) : gb243 ≠ gb245)); have n6_ := Aside0.mk ((by rw [hg]; exact Nat.ne_of_gt (blk_lt (g := gb243) (o := .cells #[.int .i64 a0_0, .int .i64 a0_1, .int .i64 a0_2] 23 (0, 0)) (by (with_reducible repeat (first | refine blk_drewN ?_ _ | refine blk_drew ?_ | refine blk_alloc ?_ _)); exact BK243.out)) : gb245 ≠ gb243)); clear BK243; clear HB; have BK243 := n0_; have HB := n1_; have BK245 := n2_; have GW245 := n3_; have GE245 := n4_; have NB243_245 := n5_; have NB245_243 := n6_; clear n0_ n1_ n2_ n3_ n4_ n5_ n6_; clear hb hbox hg; have hnb9 := NB245_243.out; have hnc9 := NB243_245.out; have hcz10_0 : w8.cell? ⟨gb245, 0, none⟩ = some (.int .i64 0) := (blk_cell BK245.out 0).trans rfl; have hcz10_1 : w8.cell? ⟨gb245, 1, none⟩ = some (.int .i64 0) := (blk_cell BK245.out 1).trans rfl; have hcz10_2 : w8.cell? ⟨gb245, 2, none⟩ = some (.int .i64 0) := (blk_cell BK245.out 2).trans rfl; have hfz10_0 := blk_frozen BK245.out 0; have hfz10_1 := blk_frozen BK245.out 1; have hfz10_2 := blk_frozen BK245.out 2))
    go_loopg [6, 17] k (fun kq v6 v17 w' => ∃ (x6_1 : Int) (x17_1 : Int) (x246000_1 : Int) (x246001_1 : Int) (x246002_1 : Int), v6 = .int .i64 x6_1 ∧ v17 = .int .i64 x17_1 ∧ Aside0 (substationlaw35_RecloserDeadTime.l0 kq x6_1 l1 (l1.length : Int) x17_1 a0_0 a0_1 a0_2 x246000_1 x246001_1 x246002_1 = some r) ∧ Aside0 (kq ≤ k) ∧ Aside0 (w'.heap[gb243]? = some (.cells #[.int .i64 a0_0, .int .i64 a0_1, .int .i64 a0_2] 23 (0, 0))) ∧ Aside0 (w'.heap[gb245]? = some (.cells #[.int .i64 x246000_1, .int .i64 x246001_1, .int .i64 x246002_1] 25 (0, 0))) ∧ Aside0 (Below w.heap.size w w'))
    case atStart => exact ⟨(0), (0), (0), (0), (0), (by first | rfl | (simp; done) | (simp [*]; done)), (by first | rfl | (simp; done) | (simp [*]; done)), H', ⟨Nat.le_refl _⟩, ⟨by (with_reducible repeat (first | refine blk_drewN ?_ _ | refine blk_drew ?_ | refine blk_alloc ?_ _)); refine blk_far ?_ NB243_245.out _; (with_reducible repeat (first | refine blk_drewN ?_ _ | refine blk_drew ?_ | refine blk_alloc ?_ _)); refine blk_far ?_ NB243_245.out _; (with_reducible repeat (first | refine blk_drewN ?_ _ | refine blk_drew ?_ | refine blk_alloc ?_ _)); refine blk_far ?_ NB243_245.out _; (with_reducible repeat (first | refine blk_drewN ?_ _ | refine blk_drew ?_ | refine blk_alloc ?_ _)); exact BK243.out⟩, ⟨by (with_reducible repeat (first | refine blk_drewN ?_ _ | refine blk_drew ?_ | refine blk_alloc ?_ _)); refine blk_put (cs := #[.int .i64 0, .int .i64 0, .int .i64 0]) ?_ 2 _ rfl; (with_reducible repeat (first | refine blk_drewN ?_ _ | refine blk_drew ?_ | refine blk_alloc ?_ _)); refine blk_put (cs := #[.int .i64 0, .int .i64 0, .int .i64 0]) ?_ 1 _ rfl; (with_reducible repeat (first | refine blk_drewN ?_ _ | refine blk_drew ?_ | refine blk_alloc ?_ _)); refine blk_put (cs := #[.int .i64 0, .int .i64 0, .int .i64 0]) ?_ 0 _ rfl; (with_reducible repeat (first | refine blk_drewN ?_ _ | refine blk_drew ?_ | refine blk_alloc ?_ _)); exact BK245.out⟩, ⟨by repeat (first | (with_reducible first | exact HB.out | apply below_alloc | apply pw_below_drewN | apply below_drew1 | refine below_set ?_ GE243.out | refine below_set ?_ GE245.out) | exact HB.out)⟩⟩
    case round =>
      clear H'
      try clear c1
      try clear p2
      try clear c3
      try clear c3b0
      try clear c3b1
      try clear c6
      try clear c9
      try clear hcz10_0
      try clear hcz10_1
      try clear hcz10_2
      try clear hfz10_0
      try clear hfz10_1
      try clear hfz10_2
      obtain ⟨x6_1, x17_1, x246000_1, x246001_1, x246002_1, rfl, rfl, HA, HK1, BK243, BK245, HB⟩ := hrel
      cases gk with
      | zero => exact absurd HA.out (by simp [substationlaw35_RecloserDeadTime.l0])
      | succ k1 =>
        have H := HA.out
        clear HA
        simp only [substationlaw35_RecloserDeadTime.l0] at H
        by_cases c11 : x17_1 < (l1.length : Int)
        · rw [if_pos c11] at H
          have c11b0 : decide (x17_1 < (l1.length : Int)) = true := decide_eq_true c11
          clear c11
          by_cases c12 : 0 ≤ x17_1
          · rw [if_pos c12] at H
            have c12b0 : decide (0 ≤ x17_1) = true := decide_eq_true c12
            clear c12
            by_cases c13 : x17_1 < (l1.length : Int)
            · rw [if_pos c13] at H
              have c13b0 : decide (x17_1 < (l1.length : Int)) = true := decide_eq_true c13
              clear c13
              replace H := Option.bind_eq_some_iff.mp H
              obtain ⟨⟨t249, t250, t251, t252⟩, A140, H⟩ := H
              replace H : (if ((rd_T29 l1 x17_1).f2 = true) then (substationlaw35_RecloserDeadTime.j1 k1 (wrap64 (x6_1 + 1)) t252 l1 (l1.length : Int) x17_1 ((rd_T29 l1 x17_1).f1) a0_0 a0_1 a0_2 t249 t250 t251) else (substationlaw35_RecloserDeadTime.j1 k1 (wrap64 (x6_1 + 1)) t252 l1 (l1.length : Int) x17_1 true a0_0 a0_1 a0_2 t249 t250 t251)) = some r := H
              have A14 := Aside0.mk A140
              clear A140
              have HC15 := Aside0.mk H
              clear H
              have p247 : 0 ≤ (x17_1 : Int) := of_decide_eq_true (by first | (with_reducible assumption) | assumption)
              have q247 : x17_1 < (l1.length : Int) := of_decide_eq_true (by first | (with_reducible assumption) | assumption)
              obtain ⟨ad247, e247, hx247_0, hx247_1, hx247_2, hx247_3⟩ := at_T29 HR1.out x17_1 p247 q247
              cases e247
              replace hx247_0 := (HB.out.cell (World.block_lt_of_cell? w _ hx247_0)).trans hx247_0
              replace hx247_1 := (HB.out.cell (World.block_lt_of_cell? w _ hx247_1)).trans hx247_1
              replace hx247_2 := (HB.out.cell (World.block_lt_of_cell? w _ hx247_2)).trans hx247_2
              replace hx247_3 := (HB.out.cell (World.block_lt_of_cell? w _ hx247_3)).trans hx247_3
              replace p247 := eq_true p247
              replace q247 := eq_true q247
              go_upto_region 10 with (first | ((with_reducible refine gate_dst (N := 8) rfl ?_); refine box_event ?hg (N := 8) ?hd (cs := #[.bool false, .bool false, .bool false, .bool false]) (t := 29) ?hr ?_; (case hd => rfl); (case hg => rfl); (case hr => first | (go_simp; done) | (go_simp; rfl)); intro gb248 hg w16 hbox hb; have n0_ := Aside0.mk (blk_below (g := gb243) (o := .cells #[.int .i64 a0_0, .int .i64 a0_1, .int .i64 a0_2] 23 (0, 0)) (by (with_reducible repeat (first | refine blk_drewN ?_ _ | refine blk_drew ?_ | refine blk_alloc ?_ _)); exact BK243.out) hb); have n1_ := Aside0.mk (blk_below (g := gb245) (o := .cells #[.int .i64 x246000_1, .int .i64 x246001_1, .int .i64 x246002_1] 25 (0, 0)) (by (with_reducible repeat (first | refine blk_drewN ?_ _ | refine blk_drew ?_ | refine blk_alloc ?_ _)); exact BK245.out) hb); have n2_ := Aside0.mk (below_step (by repeat (first | (with_reducible first | exact HB.out | apply below_alloc | apply pw_below_drewN | apply below_drew1 | refine below_set ?_ GE243.out | refine below_set ?_ GE245.out) | exact HB.out)) hb); have n3_ := Aside0.mk (hbox); have n4_ := Aside0.mk ((by rw [hg]; exact (below_size (by repeat (first | (with_reducible first | exact HB.out | apply below_alloc | apply pw_below_drewN | apply below_drew1 | refine below_set ?_ GE243.out | refine below_set ?_ GE245.out) | exact HB.out))) : w.heap.size ≤ gb248)); have n5_ := Aside0.mk ((by rw [hg]; exact (below_size (by repeat (first | (with_reducible first | exact HB.out | apply below_alloc | apply pw_below_drewN | apply below_drew1 | refine below_set ?_ GE243.out | refine below_set ?_ GE245.out) | exact HB.out))) : w.heap.size ≤ gb248)); have n6_ := Aside0.mk ((by rw [hg]; exact Nat.ne_of_lt (blk_lt (g := gb243) (o := .cells #[.int .i64 a0_0, .int .i64 a0_1, .int .i64 a0_2] 23 (0, 0)) (by (with_reducible repeat (first | refine blk_drewN ?_ _ | refine blk_drew ?_ | refine blk_alloc ?_ _)); exact BK243.out)) : gb243 ≠ gb248)); have n7_ := Aside0.mk ((by rw [hg]; exact Nat.ne_of_gt (blk_lt (g := gb243) (o := .cells #[.int .i64 a0_0, .int .i64 a0_1, .int .i64 a0_2] 23 (0, 0)) (by (with_reducible repeat (first | refine blk_drewN ?_ _ | refine blk_drew ?_ | refine blk_alloc ?_ _)); exact BK243.out)) : gb248 ≠ gb243)); have n8_ := Aside0.mk ((by rw [hg]; exact Nat.ne_of_lt (blk_lt (g := gb245) (o := .cells #[.int .i64 x246000_1, .int .i64 x246001_1, .int .i64 x246002_1] 25 (0, 0)) (by (with_reducible repeat (first | refine blk_drewN ?_ _ | refine blk_drew ?_ | refine blk_alloc ?_ _)); exact BK245.out)) : gb245 ≠ gb248)); have n9_ := Aside0.mk ((by rw [hg]; exact Nat.ne_of_gt (blk_lt (g := gb245) (o := .cells #[.int .i64 x246000_1, .int .i64 x246001_1, .int .i64 x246002_1] 25 (0, 0)) (by (with_reducible repeat (first | refine blk_drewN ?_ _ | refine blk_drew ?_ | refine blk_alloc ?_ _)); exact BK245.out)) : gb248 ≠ gb245)); clear BK243; clear BK245; clear HB; have BK243 := n0_; have BK245 := n1_; have HB := n2_; have BK248 := n3_; have GW248 := n4_; have GE248 := n5_; have NB243_248 := n6_; have NB248_243 := n7_; have NB245_248 := n8_; have NB248_245 := n9_; clear n0_ n1_ n2_ n3_ n4_ n5_ n6_ n7_ n8_ n9_; clear hb hbox hg; have hnb17 := NB248_243.out; have hnc17 := NB243_248.out; have hnb18 := NB248_245.out; have hnc18 := NB245_248.out; have hcz19_0 : w16.cell? ⟨gb248, 0, none⟩ = some (.bool false) := (blk_cell BK248.out 0).trans rfl; have hcz19_1 : w16.cell? ⟨gb248, 1, none⟩ = some (.bool false) := (blk_cell BK248.out 1).trans rfl; have hcz19_2 : w16.cell? ⟨gb248, 2, none⟩ = some (.bool false) := (blk_cell BK248.out 2).trans rfl; have hcz19_3 : w16.cell? ⟨gb248, 3, none⟩ = some (.bool false) := (blk_cell BK248.out 3).trans rfl; have hfz19_0 := blk_frozen BK248.out 0; have hfz19_1 := blk_frozen BK248.out 1; have hfz19_2 := blk_frozen BK248.out 2; have hfz19_3 := blk_frozen BK248.out 3; have hnb20 := NB243_245.out; have hnc20 := NB245_243.out; have hcz21_0 : w16.cell? ⟨gb243, 0, none⟩ = some (.int .i64 a0_0) := (blk_cell BK243.out 0).trans rfl; have hcz21_1 : w16.cell? ⟨gb243, 1, none⟩ = some (.int .i64 a0_1) := (blk_cell BK243.out 1).trans rfl; have hcz21_2 : w16.cell? ⟨gb243, 2, none⟩ = some (.int .i64 a0_2) := (blk_cell BK243.out 2).trans rfl; have hfz21_0 := blk_frozen BK243.out 0; have hfz21_1 := blk_frozen BK243.out 1; have hfz21_2 := blk_frozen BK243.out 2; have hcz22_0 : w16.cell? ⟨gb245, 0, none⟩ = some (.int .i64 x246000_1) := (blk_cell BK245.out 0).trans rfl; have hcz22_1 : w16.cell? ⟨gb245, 1, none⟩ = some (.int .i64 x246001_1) := (blk_cell BK245.out 1).trans rfl; have hcz22_2 : w16.cell? ⟨gb245, 2, none⟩ = some (.int .i64 x246002_1) := (blk_cell BK245.out 2).trans rfl; have hfz22_0 := blk_frozen BK245.out 0; have hfz22_1 := blk_frozen BK245.out 1; have hfz22_2 := blk_frozen BK245.out 2) | ((with_reducible refine gate_callee (f := 10) rfl ?_); refine goesL_ (some 25) rfl rfl Try.func10 (by kernel_rfl) rfl #[.agg #[.int .i64 a0_0, .int .i64 a0_1, .int .i64 a0_2], .agg #[.int .i64 x246000_1, .int .i64 x246001_1, .int .i64 x246002_1], .agg #[.bool ((rd_T29 l1 x17_1).f0), .bool ((rd_T29 l1 x17_1).f1), .bool ((rd_T29 l1 x17_1).f2), .bool ((rd_T29 l1 x17_1).f3)]] rfl (by (try simp only [List.map_toArray, List.map_cons, List.map_nil]); first | done | rfl | (simp only [List.length_drop, List.length_take]; rfl)) ?_; (with_reducible refine (substationlaw35_Settings_step.calls a0_0 a0_1 a0_2 x246000_1 x246001_1 x246002_1 ((rd_T29 l1 x17_1).f0) ((rd_T29 l1 x17_1).f1) ((rd_T29 l1 x17_1).f2) ((rd_T29 l1 x17_1).f3) t249 t250 t251 t252 _ A14.out).mono ?_); rintro e w23 ⟨rfl, hb⟩; refine ⟨_, rfl, ?_⟩; have n0_ := Aside0.mk (blk_below (g := gb243) (o := .cells #[.int .i64 a0_0, .int .i64 a0_1, .int .i64 a0_2] 23 (0, 0)) (by (with_reducible repeat (first | refine blk_drewN ?_ _ | refine blk_drew ?_ | refine blk_alloc ?_ _)); refine blk_far ?_ NB243_248.out _; (with_reducible repeat (first | refine blk_drewN ?_ _ | refine blk_drew ?_ | refine blk_alloc ?_ _)); refine blk_far ?_ NB243_248.out _; (with_reducible repeat (first | refine blk_drewN ?_ _ | refine blk_drew ?_ | refine blk_alloc ?_ _)); refine blk_far ?_ NB243_248.out _; (with_reducible repeat (first | refine blk_drewN ?_ _ | refine blk_drew ?_ | refine blk_alloc ?_ _)); refine blk_far ?_ NB243_248.out _; (with_reducible repeat (first | refine blk_drewN ?_ _ | refine blk_drew ?_ | refine blk_alloc ?_ _)); exact BK243.out) hb); have n1_ := Aside0.mk (blk_below (g := gb245) (o := .cells #[.int .i64 x246000_1, .int .i64 x246001_1, .int .i64 x246002_1] 25 (0, 0)) (by (with_reducible repeat (first | refine blk_drewN ?_ _ | refine blk_drew ?_ | refine blk_alloc ?_ _)); refine blk_far ?_ NB245_248.out _; (with_reducible repeat (first | refine blk_drewN ?_ _ | refine blk_drew ?_ | refine blk_alloc ?_ _)); refine blk_far ?_ NB245_248.out _; (with_reducible repeat (first | refine blk_drewN ?_ _ | refine blk_drew ?_ | refine blk_alloc ?_ _)); refine blk_far ?_ NB245_248.out _; (with_reducible repeat (first | refine blk_drewN ?_ _ | refine blk_drew ?_ | refine blk_alloc ?_ _)); refine blk_far ?_ NB245_248.out _; (with_reducible repeat (first | refine blk_drewN ?_ _ | refine blk_drew ?_ | refine blk_alloc ?_ _)); exact BK245.out) hb); have n2_ := Aside0.mk (blk_below (g := gb248) (o := .cells #[.bool ((rd_T29 l1 x17_1).f0), .bool ((rd_T29 l1 x17_1).f1), .bool ((rd_T29 l1 x17_1).f2), .bool ((rd_T29 l1 x17_1).f3)] 29 (0, 0)) (by (with_reducible repeat (first | refine blk_drewN ?_ _ | refine blk_drew ?_ | refine blk_alloc ?_ _)); refine blk_put (cs := #[.bool ((rd_T29 l1 x17_1).f0), .bool ((rd_T29 l1 x17_1).f1), .bool ((rd_T29 l1 x17_1).f2), .bool false]) ?_ 3 _ rfl; (with_reducible repeat (first | refine blk_drewN ?_ _ | refine blk_drew ?_ | refine blk_alloc ?_ _)); refine blk_put (cs := #[.bool ((rd_T29 l1 x17_1).f0), .bool ((rd_T29 l1 x17_1).f1), .bool false, .bool false]) ?_ 2 _ rfl; (with_reducible repeat (first | refine blk_drewN ?_ _ | refine blk_drew ?_ | refine blk_alloc ?_ _)); refine blk_put (cs := #[.bool ((rd_T29 l1 x17_1).f0), .bool false, .bool false, .bool false]) ?_ 1 _ rfl; (with_reducible repeat (first | refine blk_drewN ?_ _ | refine blk_drew ?_ | refine blk_alloc ?_ _)); refine blk_put (cs := #[.bool false, .bool false, .bool false, .bool false]) ?_ 0 _ rfl; (with_reducible repeat (first | refine blk_drewN ?_ _ | refine blk_drew ?_ | refine blk_alloc ?_ _)); exact BK248.out) hb); have n3_ := Aside0.mk (below_step (by repeat (first | (with_reducible first | exact HB.out | apply below_alloc | apply pw_below_drewN | apply below_drew1 | refine below_set ?_ GE243.out | refine below_set ?_ GE245.out | refine below_set ?_ GE248.out) | exact HB.out)) hb); clear BK243; clear BK245; clear BK248; clear HB; have BK243 := n0_; have BK245 := n1_; have BK248 := n2_; have HB := n3_; clear n0_ n1_ n2_ n3_; (try clear hb); (try clear hb2); (try clear hk); (try clear hi); have hcz24_0 : w23.cell? ⟨gb245, 0, none⟩ = some (.int .i64 x246000_1) := (blk_cell BK245.out 0).trans rfl; have hcz24_1 : w23.cell? ⟨gb245, 1, none⟩ = some (.int .i64 x246001_1) := (blk_cell BK245.out 1).trans rfl; have hcz24_2 : w23.cell? ⟨gb245, 2, none⟩ = some (.int .i64 x246002_1) := (blk_cell BK245.out 2).trans rfl; have hfz24_0 := blk_frozen BK245.out 0; have hfz24_1 := blk_frozen BK245.out 1; have hfz24_2 := blk_frozen BK245.out 2))
              (try simp only [Act.put, List.setIfInBounds_toArray, List.set_cons_zero, List.set_cons_succ])
              go_cut [36] (fun v36 wc => ∃ (kq : Nat) (x36_14 : Bool), v36 = .bool x36_14 ∧ Aside0 (substationlaw35_RecloserDeadTime.j1 kq (wrap64 (x6_1 + 1)) t252 l1 (l1.length : Int) x17_1 x36_14 a0_0 a0_1 a0_2 t249 t250 t251 = some r) ∧ Aside0 (kq ≤ k1) ∧ Aside0 (wc.heap[gb243]? = some (.cells #[.int .i64 a0_0, .int .i64 a0_1, .int .i64 a0_2] 23 (0, 0))) ∧ Aside0 (wc.heap[gb245]? = some (.cells #[.int .i64 t249, .int .i64 t250, .int .i64 t251] 25 (0, 0))) ∧ Aside0 (wc.heap[gb248]? = some (.cells #[.bool ((rd_T29 l1 x17_1).f0), .bool ((rd_T29 l1 x17_1).f1), .bool ((rd_T29 l1 x17_1).f2), .bool ((rd_T29 l1 x17_1).f3)] 29 (0, 0))) ∧ Aside0 (Below w.heap.size w wc))
              case first =>
                have H := HC15.out
                clear HC15
                obtain ⟨bq25, hbq25⟩ : ∃ b_ : Bool, b_ = ((rd_T29 l1 x17_1).f2) := ⟨_, rfl⟩
                replace H : (if (bq25 = true) then (substationlaw35_RecloserDeadTime.j1 k1 (wrap64 (x6_1 + 1)) t252 l1 (l1.length : Int) x17_1 ((rd_T29 l1 x17_1).f1) a0_0 a0_1 a0_2 t249 t250 t251) else (substationlaw35_RecloserDeadTime.j1 k1 (wrap64 (x6_1 + 1)) t252 l1 (l1.length : Int) x17_1 true a0_0 a0_1 a0_2 t249 t250 t251)) = some r := by rw [← hbq25] at H; exact H
                have Nbq25 := Aside0.mk hbq25
                clear hbq25
                (try rw [← Nbq25.out])
                by_cases c26 : (bq25 = true)
                · subst c26
                  have H1 : (substationlaw35_RecloserDeadTime.j1 k1 (wrap64 (x6_1 + 1)) t252 l1 (l1.length : Int) x17_1 ((rd_T29 l1 x17_1).f1) a0_0 a0_1 a0_2 t249 t250 t251) = some r := by rw [if_pos rfl] at H; exact H
                  clear H
                  have H := H1
                  clear H1
                  have H' := Aside0.mk H
                  clear H
                  have hnb27 := NB248_243.out
                  have hnc27 := NB243_248.out
                  have hnb28 := NB248_245.out
                  have hnc28 := NB245_248.out
                  have hcz29_0 : w23.cell? ⟨gb248, 0, none⟩ = some (.bool ((rd_T29 l1 x17_1).f0)) := (blk_cell BK248.out 0).trans rfl
                  have hcz29_1 : w23.cell? ⟨gb248, 1, none⟩ = some (.bool ((rd_T29 l1 x17_1).f1)) := (blk_cell BK248.out 1).trans rfl
                  have hcz29_2 : w23.cell? ⟨gb248, 2, none⟩ = some (.bool true) := (blk_cell BK248.out 2).trans (by rw [Nbq25.out]; rfl)
                  have hcz29_3 : w23.cell? ⟨gb248, 3, none⟩ = some (.bool ((rd_T29 l1 x17_1).f3)) := (blk_cell BK248.out 3).trans rfl
                  have hfz29_0 := blk_frozen BK248.out 0
                  have hfz29_1 := blk_frozen BK248.out 1
                  have hfz29_2 := blk_frozen BK248.out 2
                  have hfz29_3 := blk_frozen BK248.out 3
                  go_wp2
                  go_meet
                  case rel => exact ⟨_, ((rd_T29 l1 x17_1).f1), (by first | rfl | (simp; done) | (simp [*]; done)), H', ⟨by have := HK1.out; first | omega | exact Nat.le_refl _⟩, ⟨by (with_reducible repeat (first | refine blk_drewN ?_ _ | refine blk_drew ?_ | refine blk_alloc ?_ _)); refine blk_far ?_ NB243_245.out _; (with_reducible repeat (first | refine blk_drewN ?_ _ | refine blk_drew ?_ | refine blk_alloc ?_ _)); refine blk_far ?_ NB243_245.out _; (with_reducible repeat (first | refine blk_drewN ?_ _ | refine blk_drew ?_ | refine blk_alloc ?_ _)); refine blk_far ?_ NB243_245.out _; (with_reducible repeat (first | refine blk_drewN ?_ _ | refine blk_drew ?_ | refine blk_alloc ?_ _)); exact BK243.out⟩, ⟨by (with_reducible repeat (first | refine blk_drewN ?_ _ | refine blk_drew ?_ | refine blk_alloc ?_ _)); refine blk_put (cs := #[.int .i64 t249, .int .i64 t250, .int .i64 x246002_1]) ?_ 2 _ rfl; (with_reducible repeat (first | refine blk_drewN ?_ _ | refine blk_drew ?_ | refine blk_alloc ?_ _)); refine blk_put (cs := #[.int .i64 t249, .int .i64 x246001_1, .int .i64 x246002_1]) ?_ 1 _ rfl; (with_reducible repeat (first | refine blk_drewN ?_ _ | refine blk_drew ?_ | refine blk_alloc ?_ _)); refine blk_put (cs := #[.int .i64 x246000_1, .int .i64 x246001_1, .int .i64 x246002_1]) ?_ 0 _ rfl; (with_reducible repeat (first | refine blk_drewN ?_ _ | refine blk_drew ?_ | refine blk_alloc ?_ _)); exact BK245.out⟩, ⟨by (with_reducible repeat (first | refine blk_drewN ?_ _ | refine blk_drew ?_ | refine blk_alloc ?_ _)); refine blk_far ?_ NB248_245.out _; (with_reducible repeat (first | refine blk_drewN ?_ _ | refine blk_drew ?_ | refine blk_alloc ?_ _)); refine blk_far ?_ NB248_245.out _; (with_reducible repeat (first | refine blk_drewN ?_ _ | refine blk_drew ?_ | refine blk_alloc ?_ _)); refine blk_far ?_ NB248_245.out _; (with_reducible repeat (first | refine blk_drewN ?_ _ | refine blk_drew ?_ | refine blk_alloc ?_ _)); exact BK248.out⟩, ⟨by repeat (first | (with_reducible first | exact HB.out | apply below_alloc | apply pw_below_drewN | apply below_drew1 | refine below_set ?_ GE243.out | refine below_set ?_ GE245.out | refine below_set ?_ GE248.out) | exact HB.out)⟩⟩
                · replace c26 := Bool.eq_false_iff.mpr c26
                  subst c26
                  have H1 : (substationlaw35_RecloserDeadTime.j1 k1 (wrap64 (x6_1 + 1)) t252 l1 (l1.length : Int) x17_1 true a0_0 a0_1 a0_2 t249 t250 t251) = some r := by rw [if_neg (show ¬ (false = true) by decide)] at H; exact H
                  clear H
                  have H := H1
                  clear H1
                  have H' := Aside0.mk H
                  clear H
                  have hnb30 := NB248_243.out
                  have hnc30 := NB243_248.out
                  have hnb31 := NB248_245.out
                  have hnc31 := NB245_248.out
                  have hcz32_0 : w23.cell? ⟨gb248, 0, none⟩ = some (.bool ((rd_T29 l1 x17_1).f0)) := (blk_cell BK248.out 0).trans rfl
                  have hcz32_1 : w23.cell? ⟨gb248, 1, none⟩ = some (.bool ((rd_T29 l1 x17_1).f1)) := (blk_cell BK248.out 1).trans rfl
                  have hcz32_2 : w23.cell? ⟨gb248, 2, none⟩ = some (.bool false) := (blk_cell BK248.out 2).trans (by rw [Nbq25.out]; rfl)
                  have hcz32_3 : w23.cell? ⟨gb248, 3, none⟩ = some (.bool ((rd_T29 l1 x17_1).f3)) := (blk_cell BK248.out 3).trans rfl
                  have hfz32_0 := blk_frozen BK248.out 0
                  have hfz32_1 := blk_frozen BK248.out 1
                  have hfz32_2 := blk_frozen BK248.out 2
                  have hfz32_3 := blk_frozen BK248.out 3
                  go_wp2
                  go_meet
                  case rel => exact ⟨_, (true), (by first | rfl | (simp; done) | (simp [*]; done)), H', ⟨by have := HK1.out; first | omega | exact Nat.le_refl _⟩, ⟨by (with_reducible repeat (first | refine blk_drewN ?_ _ | refine blk_drew ?_ | refine blk_alloc ?_ _)); refine blk_far ?_ NB243_245.out _; (with_reducible repeat (first | refine blk_drewN ?_ _ | refine blk_drew ?_ | refine blk_alloc ?_ _)); refine blk_far ?_ NB243_245.out _; (with_reducible repeat (first | refine blk_drewN ?_ _ | refine blk_drew ?_ | refine blk_alloc ?_ _)); refine blk_far ?_ NB243_245.out _; (with_reducible repeat (first | refine blk_drewN ?_ _ | refine blk_drew ?_ | refine blk_alloc ?_ _)); exact BK243.out⟩, ⟨by (with_reducible repeat (first | refine blk_drewN ?_ _ | refine blk_drew ?_ | refine blk_alloc ?_ _)); refine blk_put (cs := #[.int .i64 t249, .int .i64 t250, .int .i64 x246002_1]) ?_ 2 _ rfl; (with_reducible repeat (first | refine blk_drewN ?_ _ | refine blk_drew ?_ | refine blk_alloc ?_ _)); refine blk_put (cs := #[.int .i64 t249, .int .i64 x246001_1, .int .i64 x246002_1]) ?_ 1 _ rfl; (with_reducible repeat (first | refine blk_drewN ?_ _ | refine blk_drew ?_ | refine blk_alloc ?_ _)); refine blk_put (cs := #[.int .i64 x246000_1, .int .i64 x246001_1, .int .i64 x246002_1]) ?_ 0 _ rfl; (with_reducible repeat (first | refine blk_drewN ?_ _ | refine blk_drew ?_ | refine blk_alloc ?_ _)); exact BK245.out⟩, ⟨by (with_reducible repeat (first | refine blk_drewN ?_ _ | refine blk_drew ?_ | refine blk_alloc ?_ _)); refine blk_far ?_ NB248_245.out _; (with_reducible repeat (first | refine blk_drewN ?_ _ | refine blk_drew ?_ | refine blk_alloc ?_ _)); refine blk_far ?_ NB248_245.out _; (with_reducible repeat (first | refine blk_drewN ?_ _ | refine blk_drew ?_ | refine blk_alloc ?_ _)); refine blk_far ?_ NB248_245.out _; (with_reducible repeat (first | refine blk_drewN ?_ _ | refine blk_drew ?_ | refine blk_alloc ?_ _)); exact BK248.out⟩, ⟨by repeat (first | (with_reducible first | exact HB.out | apply below_alloc | apply pw_below_drewN | apply below_drew1 | refine below_set ?_ GE243.out | refine below_set ?_ GE245.out | refine below_set ?_ GE248.out) | exact HB.out)⟩⟩
              case rest =>
                clear HC15
                try clear c1
                try clear c2
                try clear p2
                try clear q2
                try clear hx2
                try clear c3
                try clear c3b0
                try clear c3b1
                try clear c6
                try clear p6
                try clear c9
                try clear c10
                try clear c11
                try clear c11b0
                try clear c12
                try clear c12b0
                try clear c13
                try clear c13b0
                try clear c17
                try clear c18
                try clear c20
                try clear p24
                try clear q24
                try clear hx24
                try clear q25
                try clear c26
                try clear c27
                try clear c28
                try clear c30
                try clear c31
                try clear hcz10_0
                try clear hcz10_1
                try clear hcz10_2
                try clear hcz19_0
                try clear hcz19_1
                try clear hcz19_2
                try clear hcz19_3
                try clear hcz21_0
                try clear hcz21_1
                try clear hcz21_2
                try clear hcz22_0
                try clear hcz22_1
                try clear hcz22_2
                try clear hcz24_0
                try clear hcz24_1
                try clear hcz24_2
                try clear hcz29_0
                try clear hcz29_1
                try clear hcz29_2
                try clear hcz29_3
                try clear hcz32_0
                try clear hcz32_1
                try clear hcz32_2
                try clear hcz32_3
                try clear hfz10_0
                try clear hfz10_1
                try clear hfz10_2
                try clear hfz19_0
                try clear hfz19_1
                try clear hfz19_2
                try clear hfz19_3
                try clear hfz21_0
                try clear hfz21_1
                try clear hfz21_2
                try clear hfz22_0
                try clear hfz22_1
                try clear hfz22_2
                try clear hfz24_0
                try clear hfz24_1
                try clear hfz24_2
                try clear hfz29_0
                try clear hfz29_1
                try clear hfz29_2
                try clear hfz29_3
                try clear hfz32_0
                try clear hfz32_1
                try clear hfz32_2
                try clear hfz32_3
                try clear hx247_0
                try clear hx247_1
                try clear hx247_2
                try clear hx247_3
                try clear p2
                try clear p247
                try clear q247
                obtain ⟨kq, x36_14, rfl, HA, HJ14, BK243, BK245, BK248, HB⟩ := hcut
                cases kq with
                | zero => exact absurd HA.out (by simp [substationlaw35_RecloserDeadTime.j1])
                | succ kj14 =>
                  have H := HA.out
                  clear HA
                  simp only [substationlaw35_RecloserDeadTime.j1] at H
                  by_cases c33 : x36_14 = true
                  · subst c33
                    have H1 : (if t252 = true then (if 0 ≤ a0_1 then (some false) else (substationlaw35_RecloserDeadTime.l0 kj14 0 l1 (l1.length : Int) (wrap64 (x17_1 + 1)) a0_0 a0_1 a0_2 t249 t250 t251)) else (substationlaw35_RecloserDeadTime.l0 kj14 0 l1 (l1.length : Int) (wrap64 (x17_1 + 1)) a0_0 a0_1 a0_2 t249 t250 t251)) = some r := by rw [if_pos rfl] at H; exact H
                    clear H
                    have H := H1
                    clear H1
                    by_cases c34 : t252 = true
                    · subst c34
                      have H1 : (if 0 ≤ a0_1 then (some false) else (substationlaw35_RecloserDeadTime.l0 kj14 0 l1 (l1.length : Int) (wrap64 (x17_1 + 1)) a0_0 a0_1 a0_2 t249 t250 t251)) = some r := by rw [if_pos rfl] at H; exact H
                      clear H
                      have H := H1
                      clear H1
                      by_cases c35 : 0 ≤ a0_1
                      · rw [if_pos c35] at H
                        have c35b0 : decide (0 ≤ a0_1) = true := decide_eq_true c35
                        clear c35
                        obtain rfl := Option.some.inj H
                        have hnb36 := NB243_245.out
                        have hnc36 := NB245_243.out
                        have hnb37 := NB243_248.out
                        have hnc37 := NB248_243.out
                        have hcz38_0 : wc.cell? ⟨gb243, 0, none⟩ = some (.int .i64 a0_0) := (blk_cell BK243.out 0).trans rfl
                        have hcz38_1 : wc.cell? ⟨gb243, 1, none⟩ = some (.int .i64 a0_1) := (blk_cell BK243.out 1).trans rfl
                        have hcz38_2 : wc.cell? ⟨gb243, 2, none⟩ = some (.int .i64 a0_2) := (blk_cell BK243.out 2).trans rfl
                        have hfz38_0 := blk_frozen BK243.out 0
                        have hfz38_1 := blk_frozen BK243.out 1
                        have hfz38_2 := blk_frozen BK243.out 2
                        go_wp2
                        go_ret
                        exact ⟨by first | rfl | (simp [errW_none, errW_some] <;> rfl) | (simp [*, errW_none, errW_some] <;> rfl), by repeat (first | (with_reducible first | exact HB.out | apply below_alloc | apply pw_below_drewN | apply below_drew1 | refine below_set ?_ GE243.out | refine below_set ?_ GE245.out | refine below_set ?_ GE248.out) | exact HB.out)⟩
                      · rw [if_neg c35] at H
                        have c35b0 : decide (0 ≤ a0_1) = false := decide_eq_false c35
                        clear c35
                        have H' := Aside0.mk H
                        clear H
                        have hnb39 := NB243_245.out
                        have hnc39 := NB245_243.out
                        have hnb40 := NB243_248.out
                        have hnc40 := NB248_243.out
                        have hcz41_0 : wc.cell? ⟨gb243, 0, none⟩ = some (.int .i64 a0_0) := (blk_cell BK243.out 0).trans rfl
                        have hcz41_1 : wc.cell? ⟨gb243, 1, none⟩ = some (.int .i64 a0_1) := (blk_cell BK243.out 1).trans rfl
                        have hcz41_2 : wc.cell? ⟨gb243, 2, none⟩ = some (.int .i64 a0_2) := (blk_cell BK243.out 2).trans rfl
                        have hfz41_0 := blk_frozen BK243.out 0
                        have hfz41_1 := blk_frozen BK243.out 1
                        have hfz41_2 := blk_frozen BK243.out 2
                        go_wp2
                        go_roundg kj14
                        case measure => have := HK1.out; have := HJ14.out; omega
                        case rel => exact ⟨(0), (wrap64 (x17_1 + 1)), (t249), (t250), (t251), (by first | rfl | (simp; done) | (simp [*]; done)), (by first | rfl | (simp; done) | (simp [*]; done)), H', ⟨by have := HK1.out; have := HJ14.out; omega⟩, ⟨by (with_reducible repeat (first | refine blk_drewN ?_ _ | refine blk_drew ?_ | refine blk_alloc ?_ _)); exact BK243.out⟩, ⟨by (with_reducible repeat (first | refine blk_drewN ?_ _ | refine blk_drew ?_ | refine blk_alloc ?_ _)); exact BK245.out⟩, ⟨by repeat (first | (with_reducible first | exact HB.out | apply below_alloc | apply pw_below_drewN | apply below_drew1 | refine below_set ?_ GE243.out | refine below_set ?_ GE245.out | refine below_set ?_ GE248.out) | exact HB.out)⟩⟩
                    · replace c34 := Bool.eq_false_iff.mpr c34
                      subst c34
                      have H1 : (substationlaw35_RecloserDeadTime.l0 kj14 0 l1 (l1.length : Int) (wrap64 (x17_1 + 1)) a0_0 a0_1 a0_2 t249 t250 t251) = some r := by rw [if_neg (show ¬ (false = true) by decide)] at H; exact H
                      clear H
                      have H := H1
                      clear H1
                      have H' := Aside0.mk H
                      clear H
                      go_wp2
                      go_roundg kj14
                      case measure => have := HK1.out; have := HJ14.out; omega
                      case rel => exact ⟨(0), (wrap64 (x17_1 + 1)), (t249), (t250), (t251), (by first | rfl | (simp; done) | (simp [*]; done)), (by first | rfl | (simp; done) | (simp [*]; done)), H', ⟨by have := HK1.out; have := HJ14.out; omega⟩, ⟨by (with_reducible repeat (first | refine blk_drewN ?_ _ | refine blk_drew ?_ | refine blk_alloc ?_ _)); exact BK243.out⟩, ⟨by (with_reducible repeat (first | refine blk_drewN ?_ _ | refine blk_drew ?_ | refine blk_alloc ?_ _)); exact BK245.out⟩, ⟨by repeat (first | (with_reducible first | exact HB.out | apply below_alloc | apply pw_below_drewN | apply below_drew1 | refine below_set ?_ GE243.out | refine below_set ?_ GE245.out | refine below_set ?_ GE248.out) | exact HB.out)⟩⟩
                  · replace c33 := Bool.eq_false_iff.mpr c33
                    subst c33
                    have H1 : (if t252 = true then (if (wrap64 (x6_1 + 1)) ≤ a0_1 then (some false) else (substationlaw35_RecloserDeadTime.l0 kj14 (wrap64 (x6_1 + 1)) l1 (l1.length : Int) (wrap64 (x17_1 + 1)) a0_0 a0_1 a0_2 t249 t250 t251)) else (substationlaw35_RecloserDeadTime.l0 kj14 (wrap64 (x6_1 + 1)) l1 (l1.length : Int) (wrap64 (x17_1 + 1)) a0_0 a0_1 a0_2 t249 t250 t251)) = some r := by rw [if_neg (show ¬ (false = true) by decide)] at H; exact H
                    clear H
                    have H := H1
                    clear H1
                    by_cases c42 : t252 = true
                    · subst c42
                      have H1 : (if (wrap64 (x6_1 + 1)) ≤ a0_1 then (some false) else (substationlaw35_RecloserDeadTime.l0 kj14 (wrap64 (x6_1 + 1)) l1 (l1.length : Int) (wrap64 (x17_1 + 1)) a0_0 a0_1 a0_2 t249 t250 t251)) = some r := by rw [if_pos rfl] at H; exact H
                      clear H
                      have H := H1
                      clear H1
                      by_cases c43 : (wrap64 (x6_1 + 1)) ≤ a0_1
                      · rw [if_pos c43] at H
                        have c43b0 : decide ((wrap64 (x6_1 + 1)) ≤ a0_1) = true := decide_eq_true c43
                        clear c43
                        obtain rfl := Option.some.inj H
                        have hnb44 := NB243_245.out
                        have hnc44 := NB245_243.out
                        have hnb45 := NB243_248.out
                        have hnc45 := NB248_243.out
                        have hcz46_0 : wc.cell? ⟨gb243, 0, none⟩ = some (.int .i64 a0_0) := (blk_cell BK243.out 0).trans rfl
                        have hcz46_1 : wc.cell? ⟨gb243, 1, none⟩ = some (.int .i64 a0_1) := (blk_cell BK243.out 1).trans rfl
                        have hcz46_2 : wc.cell? ⟨gb243, 2, none⟩ = some (.int .i64 a0_2) := (blk_cell BK243.out 2).trans rfl
                        have hfz46_0 := blk_frozen BK243.out 0
                        have hfz46_1 := blk_frozen BK243.out 1
                        have hfz46_2 := blk_frozen BK243.out 2
                        go_wp2
                        go_ret
                        exact ⟨by first | rfl | (simp [errW_none, errW_some] <;> rfl) | (simp [*, errW_none, errW_some] <;> rfl), by repeat (first | (with_reducible first | exact HB.out | apply below_alloc | apply pw_below_drewN | apply below_drew1 | refine below_set ?_ GE243.out | refine below_set ?_ GE245.out | refine below_set ?_ GE248.out) | exact HB.out)⟩
                      · rw [if_neg c43] at H
                        have c43b0 : decide ((wrap64 (x6_1 + 1)) ≤ a0_1) = false := decide_eq_false c43
                        clear c43
                        have H' := Aside0.mk H
                        clear H
                        have hnb47 := NB243_245.out
                        have hnc47 := NB245_243.out
                        have hnb48 := NB243_248.out
                        have hnc48 := NB248_243.out
                        have hcz49_0 : wc.cell? ⟨gb243, 0, none⟩ = some (.int .i64 a0_0) := (blk_cell BK243.out 0).trans rfl
                        have hcz49_1 : wc.cell? ⟨gb243, 1, none⟩ = some (.int .i64 a0_1) := (blk_cell BK243.out 1).trans rfl
                        have hcz49_2 : wc.cell? ⟨gb243, 2, none⟩ = some (.int .i64 a0_2) := (blk_cell BK243.out 2).trans rfl
                        have hfz49_0 := blk_frozen BK243.out 0
                        have hfz49_1 := blk_frozen BK243.out 1
                        have hfz49_2 := blk_frozen BK243.out 2
                        go_wp2
                        go_roundg kj14
                        case measure => have := HK1.out; have := HJ14.out; omega
                        case rel => exact ⟨((wrap64 (x6_1 + 1))), (wrap64 (x17_1 + 1)), (t249), (t250), (t251), (by first | rfl | (simp; done) | (simp [*]; done)), (by first | rfl | (simp; done) | (simp [*]; done)), H', ⟨by have := HK1.out; have := HJ14.out; omega⟩, ⟨by (with_reducible repeat (first | refine blk_drewN ?_ _ | refine blk_drew ?_ | refine blk_alloc ?_ _)); exact BK243.out⟩, ⟨by (with_reducible repeat (first | refine blk_drewN ?_ _ | refine blk_drew ?_ | refine blk_alloc ?_ _)); exact BK245.out⟩, ⟨by repeat (first | (with_reducible first | exact HB.out | apply below_alloc | apply pw_below_drewN | apply below_drew1 | refine below_set ?_ GE243.out | refine below_set ?_ GE245.out | refine below_set ?_ GE248.out) | exact HB.out)⟩⟩
                    · replace c42 := Bool.eq_false_iff.mpr c42
                      subst c42
                      have H1 : (substationlaw35_RecloserDeadTime.l0 kj14 (wrap64 (x6_1 + 1)) l1 (l1.length : Int) (wrap64 (x17_1 + 1)) a0_0 a0_1 a0_2 t249 t250 t251) = some r := by rw [if_neg (show ¬ (false = true) by decide)] at H; exact H
                      clear H
                      have H := H1
                      clear H1
                      have H' := Aside0.mk H
                      clear H
                      go_wp2
                      go_roundg kj14
                      case measure => have := HK1.out; have := HJ14.out; omega
                      case rel => exact ⟨((wrap64 (x6_1 + 1))), (wrap64 (x17_1 + 1)), (t249), (t250), (t251), (by first | rfl | (simp; done) | (simp [*]; done)), (by first | rfl | (simp; done) | (simp [*]; done)), H', ⟨by have := HK1.out; have := HJ14.out; omega⟩, ⟨by (with_reducible repeat (first | refine blk_drewN ?_ _ | refine blk_drew ?_ | refine blk_alloc ?_ _)); exact BK243.out⟩, ⟨by (with_reducible repeat (first | refine blk_drewN ?_ _ | refine blk_drew ?_ | refine blk_alloc ?_ _)); exact BK245.out⟩, ⟨by repeat (first | (with_reducible first | exact HB.out | apply below_alloc | apply pw_below_drewN | apply below_drew1 | refine below_set ?_ GE243.out | refine below_set ?_ GE245.out | refine below_set ?_ GE248.out) | exact HB.out)⟩⟩
            · rw [if_neg c13] at H
              exact absurd H (by simp)
          · rw [if_neg c12] at H
            exact absurd H (by simp)
        · rw [if_neg c11] at H
          have c11b0 : decide (x17_1 < (l1.length : Int)) = false := decide_eq_false c11
          clear c11
          replace H := Option.bind_eq_some_iff.mp H
          obtain ⟨t246, A500, H⟩ := H
          replace H : (some t246) = some r := H
          have A50 := Aside0.mk A500
          clear A500
          obtain rfl := Option.some.inj H
          go_wp2_with (first | ((with_reducible refine gate_callee (f := 12) rfl ?_); refine goesL_ (some 45) rfl rfl Try.func12 (by kernel_rfl) rfl #[] rfl (by (try simp only [List.map_toArray, List.map_cons, List.map_nil]); first | done | rfl | (simp only [List.length_drop, List.length_take]; rfl)) ?_; (with_reducible refine (substationlaw35_known.calls k1  t246 _ A50.out).mono ?_); rintro e w51 ⟨rfl, hb⟩; refine ⟨_, rfl, ?_⟩; have n0_ := Aside0.mk (blk_below (g := gb243) (o := .cells #[.int .i64 a0_0, .int .i64 a0_1, .int .i64 a0_2] 23 (0, 0)) (by (with_reducible repeat (first | refine blk_drewN ?_ _ | refine blk_drew ?_ | refine blk_alloc ?_ _)); exact BK243.out) hb); have n1_ := Aside0.mk (blk_below (g := gb245) (o := .cells #[.int .i64 x246000_1, .int .i64 x246001_1, .int .i64 x246002_1] 25 (0, 0)) (by (with_reducible repeat (first | refine blk_drewN ?_ _ | refine blk_drew ?_ | refine blk_alloc ?_ _)); exact BK245.out) hb); have n2_ := Aside0.mk (below_step (by repeat (first | (with_reducible first | exact HB.out | apply below_alloc | apply pw_below_drewN | apply below_drew1 | refine below_set ?_ GE243.out | refine below_set ?_ GE245.out) | exact HB.out)) hb); clear BK243; clear BK245; clear HB; have BK243 := n0_; have BK245 := n1_; have HB := n2_; clear n0_ n1_ n2_; (try clear hb); (try clear hb2); (try clear hk); (try clear hi)))
          go_ret
          exact ⟨by first | rfl | (simp [errW_none, errW_some] <;> rfl) | (simp [*, errW_none, errW_some] <;> rfl), by repeat (first | (with_reducible first | exact HB.out | apply below_alloc | apply pw_below_drewN | apply below_drew1 | refine below_set ?_ GE243.out | refine below_set ?_ GE245.out) | exact HB.out)⟩

end Go.Proofs.Ytmppijipaocfiaa.PAll
