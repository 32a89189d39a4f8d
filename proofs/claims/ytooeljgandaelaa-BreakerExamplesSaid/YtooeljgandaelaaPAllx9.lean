-- PRINTED BY print.sh 35421559b90ae4d0a3588c463048766b98c2df88dd9212a6774a882060cdf62d: not written by this session
import Derived.Test.YtooeljgandaelaaPAllx0
import Derived.Test.YtooeljgandaelaaPAllx8
namespace Go.Proofs.Ytooeljgandaelaa.PAll
open Go.RowKit Go.Proofs.YtooeljgandaelaaW.PrintWords Go.Proofs.YtooeljgandaelaaW.PrintLast Go.Proofs.YtooeljgandaelaaW.PrintMore
attribute [local go_sem] max2_int min2_int max_two min_two max_three min_three max_four min_four   -- for this text's walks alone
set_option linter.unusedVariables false
set_option linter.unusedSimpArgs false

/-! ### substationref29_Breaker: function 25 -/
mutual
def substationref29_Breaker.j0 : Nat → Int → Bool → Bool → Bool → Bool → Bool → Int → Bool → Option (Bool × Bool × Int × Bool)
  | 0, _, _, _, _, _, _, _, _ => none
  | k + 1, x1, x2, x3, x4, x271000, x271001, x271002, x271003 => if x271002 > 0 then (if x271001 = true then (substationref29_Breaker.j1 k x1 x2 x3 x4 x3 x271000 x271001 x271002 x271003) else (substationref29_Breaker.j1 k x1 x2 x3 x4 false x271000 x271001 x271002 x271003)) else (substationref29_Breaker.j1 k x1 x2 x3 x4 false x271000 x271001 x271002 x271003)
def substationref29_Breaker.j1 : Nat → Int → Bool → Bool → Bool → Bool → Bool → Bool → Int → Bool → Option (Bool × Bool × Int × Bool)
  | 0, _, _, _, _, _, _, _, _, _ => none
  | k + 1, x1, x2, x3, x4, x34, x271000, x271001, x271002, x271003 => if x34 = true then (some (x271000, false, 0, x271003)) else (if x271002 = 0 then (if x271000 = true then (substationref29_Breaker.j2 k x1 x2 x3 x4 x3 x271000 x271001 x271002 x271003) else (substationref29_Breaker.j2 k x1 x2 x3 x4 false x271000 x271001 x271002 x271003)) else (substationref29_Breaker.j2 k x1 x2 x3 x4 false x271000 x271001 x271002 x271003))
def substationref29_Breaker.j2 : Nat → Int → Bool → Bool → Bool → Bool → Bool → Bool → Int → Bool → Option (Bool × Bool × Int × Bool)
  | 0, _, _, _, _, _, _, _, _, _ => none
  | k + 1, x1, x2, x3, x4, x47, x271000, x271001, x271002, x271003 => if x47 = true then (if x2 = true then (some (x271000, x271001, x271002, true)) else (some (x271000, x271001, x1, true))) else (if x271002 = 0 then (if x271000 = true then (some (x271000, x271001, x271002, x271003)) else (if x4 = true then (if x3 = true then (some (x271000, x271001, x271002, x271003)) else (some (x271000, true, x1, x271003))) else (some (x271000, x271001, x271002, x271003)))) else (some (x271000, x271001, x271002, x271003)))
end
def substationref29_Breaker.f (k : Nat) (a0_0 : Bool) (a0_1 : Bool) (a0_2 : Int) (a0_3 : Bool) (a1 : Int) (a2 : Bool) (a3 : Bool) (a4 : Bool) : Option (Bool × Bool × Int × Bool) := (substationref29_ValidBreaker.f k a0_0 a0_1 a0_2 a0_3 a1).bind fun t272 => (if t272 = true then (if a0_2 > 0 then (if (wrap64 (a0_2 - 1)) = 0 then (if a0_1 = true then (substationref29_Breaker.j0 k a1 a2 a3 a4 a0_1 false (wrap64 (a0_2 - 1)) a0_3) else (substationref29_Breaker.j0 k a1 a2 a3 a4 a0_1 false (wrap64 (a0_2 - 1)) false)) else (substationref29_Breaker.j0 k a1 a2 a3 a4 a0_0 a0_1 (wrap64 (a0_2 - 1)) a0_3)) else (substationref29_Breaker.j0 k a1 a2 a3 a4 a0_0 a0_1 a0_2 a0_3)) else (some (false, false, 0, false)))
theorem substationref29_Breaker.mono_l : ∀ k, (∀ y0 y1 y2 y3 y4 y5 y6 y7, LeO (substationref29_Breaker.j0 k y0 y1 y2 y3 y4 y5 y6 y7) (substationref29_Breaker.j0 (k + 1) y0 y1 y2 y3 y4 y5 y6 y7)) ∧ (∀ y0 y1 y2 y3 y4 y5 y6 y7 y8, LeO (substationref29_Breaker.j1 k y0 y1 y2 y3 y4 y5 y6 y7 y8) (substationref29_Breaker.j1 (k + 1) y0 y1 y2 y3 y4 y5 y6 y7 y8)) ∧ (∀ y0 y1 y2 y3 y4 y5 y6 y7 y8, LeO (substationref29_Breaker.j2 k y0 y1 y2 y3 y4 y5 y6 y7 y8) (substationref29_Breaker.j2 (k + 1) y0 y1 y2 y3 y4 y5 y6 y7 y8))
  | 0 => ⟨fun _ _ _ _ _ _ _ _ r h => by simp [substationref29_Breaker.j0] at h, fun _ _ _ _ _ _ _ _ _ r h => by simp [substationref29_Breaker.j1] at h, fun _ _ _ _ _ _ _ _ _ r h => by simp [substationref29_Breaker.j2] at h⟩
  | k + 1 => by
    obtain ⟨ih0, ih1, ih2⟩ := substationref29_Breaker.mono_l k
    refine ⟨?_, ?_, ?_⟩
    · intro y0 y1 y2 y3 y4 y5 y6 y7
      unfold substationref29_Breaker.j0
      repeat' first
      | (with_reducible exact ih0 _ _ _ _ _ _ _ _)
      | (with_reducible exact ih1 _ _ _ _ _ _ _ _ _)
      | (with_reducible exact ih2 _ _ _ _ _ _ _ _ _)
      | (with_reducible exact substationref29_ValidBreaker.mono _ _ _ _ _ _)
      | (with_reducible exact LeO.refl _)
      | (with_reducible exact LeO.none _)
      | (with_reducible refine LeO.ite ?_ ?_)
      | (with_reducible refine LeO.bind ?_ (fun _ => ?_))
      | exact ih0 _ _ _ _ _ _ _ _
      | exact ih1 _ _ _ _ _ _ _ _ _
      | exact ih2 _ _ _ _ _ _ _ _ _
      | exact substationref29_ValidBreaker.mono _ _ _ _ _ _
      | exact LeO.none _
      | refine LeO.ite ?_ ?_
      | refine LeO.bind ?_ (fun _ => ?_)
    · intro y0 y1 y2 y3 y4 y5 y6 y7 y8
      unfold substationref29_Breaker.j1
      repeat' first
      | (with_reducible exact ih0 _ _ _ _ _ _ _ _)
      | (with_reducible exact ih1 _ _ _ _ _ _ _ _ _)
      | (with_reducible exact ih2 _ _ _ _ _ _ _ _ _)
      | (with_reducible exact substationref29_ValidBreaker.mono _ _ _ _ _ _)
      | (with_reducible exact LeO.refl _)
      | (with_reducible exact LeO.none _)
      | (with_reducible refine LeO.ite ?_ ?_)
      | (with_reducible refine LeO.bind ?_ (fun _ => ?_))
      | exact ih0 _ _ _ _ _ _ _ _
      | exact ih1 _ _ _ _ _ _ _ _ _
      | exact ih2 _ _ _ _ _ _ _ _ _
      | exact substationref29_ValidBreaker.mono _ _ _ _ _ _
      | exact LeO.none _
      | refine LeO.ite ?_ ?_
      | refine LeO.bind ?_ (fun _ => ?_)
    · intro y0 y1 y2 y3 y4 y5 y6 y7 y8
      unfold substationref29_Breaker.j2
      repeat' first
      | (with_reducible exact ih0 _ _ _ _ _ _ _ _)
      | (with_reducible exact ih1 _ _ _ _ _ _ _ _ _)
      | (with_reducible exact ih2 _ _ _ _ _ _ _ _ _)
      | (with_reducible exact substationref29_ValidBreaker.mono _ _ _ _ _ _)
      | (with_reducible exact LeO.refl _)
      | (with_reducible exact LeO.none _)
      | (with_reducible refine LeO.ite ?_ ?_)
      | (with_reducible refine LeO.bind ?_ (fun _ => ?_))
      | exact ih0 _ _ _ _ _ _ _ _
      | exact ih1 _ _ _ _ _ _ _ _ _
      | exact ih2 _ _ _ _ _ _ _ _ _
      | exact substationref29_ValidBreaker.mono _ _ _ _ _ _
      | exact LeO.none _
      | refine LeO.ite ?_ ?_
      | refine LeO.bind ?_ (fun _ => ?_)
theorem substationref29_Breaker.mono : ∀ a0 a1 a2 a3 a4 a5 a6 a7 k, LeO (substationref29_Breaker.f k a0 a1 a2 a3 a4 a5 a6 a7) (substationref29_Breaker.f (k + 1) a0 a1 a2 a3 a4 a5 a6 a7) := by
  intro a0 a1 a2 a3 a4 a5 a6 a7 k
  obtain ⟨ih0, ih1, ih2⟩ := substationref29_Breaker.mono_l k
  unfold substationref29_Breaker.f
  repeat' first
      | (with_reducible exact ih0 _ _ _ _ _ _ _ _)
      | (with_reducible exact ih1 _ _ _ _ _ _ _ _ _)
      | (with_reducible exact ih2 _ _ _ _ _ _ _ _ _)
      | (with_reducible exact substationref29_ValidBreaker.mono _ _ _ _ _ _)
      | (with_reducible exact LeO.refl _)
      | (with_reducible exact LeO.none _)
      | (with_reducible refine LeO.ite ?_ ?_)
      | (with_reducible refine LeO.bind ?_ (fun _ => ?_))
      | exact ih0 _ _ _ _ _ _ _ _
      | exact ih1 _ _ _ _ _ _ _ _ _
      | exact ih2 _ _ _ _ _ _ _ _ _
      | exact substationref29_ValidBreaker.mono _ _ _ _ _ _
      | exact LeO.none _
      | refine LeO.ite ?_ ?_
      | refine LeO.bind ?_ (fun _ => ?_)
set_option maxHeartbeats 8000000 in
set_option maxRecDepth 100000 in
theorem substationref29_Breaker.calls (k : Nat) (a0_0 : Bool) (a0_1 : Bool) (a0_2 : Int) (a0_3 : Bool) (a1 : Int) (a2 : Bool) (a3 : Bool) (a4 : Bool) (r1 : Bool) (r2 : Bool) (r3 : Int) (r4 : Bool) (w : World) (h : substationref29_Breaker.f k a0_0 a0_1 a0_2 a0_3 a1 a2 a3 a4 = some (r1, r2, r3, r4)) :
    Calls Try.prog 25 #[.agg #[.bool a0_0, .bool a0_1, .int .i64 a0_2, .bool a0_3], .int .i64 a1, .bool a2, .bool a3, .bool a4] w fun e w' => e = .returned (.agg #[.bool r1, .bool r2, .int .i64 r3, .bool r4]) ∧ Below w.heap.size w w' := by
  have hu36 := Try.underlying36
  have HB := Aside0.mk (Below.refl w.heap.size w)
  have H : ((substationref29_ValidBreaker.f k a0_0 a0_1 a0_2 a0_3 a1).bind fun t272 => (if t272 = true then (if a0_2 > 0 then (if (wrap64 (a0_2 - 1)) = 0 then (if a0_1 = true then (substationref29_Breaker.j0 k a1 a2 a3 a4 a0_1 false (wrap64 (a0_2 - 1)) a0_3) else (substationref29_Breaker.j0 k a1 a2 a3 a4 a0_1 false (wrap64 (a0_2 - 1)) false)) else (substationref29_Breaker.j0 k a1 a2 a3 a4 a0_0 a0_1 (wrap64 (a0_2 - 1)) a0_3)) else (substationref29_Breaker.j0 k a1 a2 a3 a4 a0_0 a0_1 a0_2 a0_3)) else (some (false, false, 0, false)))) = some (r1, r2, r3, r4) := h
  clear h
  replace H := Option.bind_eq_some_iff.mp H
  obtain ⟨t272, A60, H⟩ := H
  replace H : (if t272 = true then (if a0_2 > 0 then (if (wrap64 (a0_2 - 1)) = 0 then (if a0_1 = true then (substationref29_Breaker.j0 k a1 a2 a3 a4 a0_1 false (wrap64 (a0_2 - 1)) a0_3) else (substationref29_Breaker.j0 k a1 a2 a3 a4 a0_1 false (wrap64 (a0_2 - 1)) false)) else (substationref29_Breaker.j0 k a1 a2 a3 a4 a0_0 a0_1 (wrap64 (a0_2 - 1)) a0_3)) else (substationref29_Breaker.j0 k a1 a2 a3 a4 a0_0 a0_1 a0_2 a0_3)) else (some (false, false, 0, false))) = some (r1, r2, r3, r4) := H
  have A6 := Aside0.mk A60
  clear A60
  by_cases c7 : t272 = true
  · subst c7
    have H1 : (if a0_2 > 0 then (if (wrap64 (a0_2 - 1)) = 0 then (if a0_1 = true then (substationref29_Breaker.j0 k a1 a2 a3 a4 a0_1 false (wrap64 (a0_2 - 1)) a0_3) else (substationref29_Breaker.j0 k a1 a2 a3 a4 a0_1 false (wrap64 (a0_2 - 1)) false)) else (substationref29_Breaker.j0 k a1 a2 a3 a4 a0_0 a0_1 (wrap64 (a0_2 - 1)) a0_3)) else (substationref29_Breaker.j0 k a1 a2 a3 a4 a0_0 a0_1 a0_2 a0_3)) = some (r1, r2, r3, r4) := by rw [if_pos rfl] at H; exact H
    clear H
    have H := H1
    clear H1
    have HC8 := Aside0.mk H
    clear H
    go_enter Try.func25, Try.ntmps25
    go_upto_if 18 with (first | ((with_reducible refine gate_dst (N := 5) rfl ?_); refine box_event ?hg (N := 5) ?hd (cs := #[.bool a0_0, .bool a0_1, .int .i64 a0_2, .bool a0_3]) (t := 36) ?hr ?_; (case hd => rfl); (case hg => rfl); (case hr => first | (go_simp; done) | (go_simp; rfl)); intro gb270 hg w9 hbox hb; have n0_ := Aside0.mk (below_step (by repeat (first | (with_reducible first | exact HB.out | apply below_alloc | apply pw_below_drewN | apply below_drew1) | exact HB.out)) hb); have n1_ := Aside0.mk (hbox); have n2_ := Aside0.mk ((by rw [hg]; exact (below_size (by repeat (first | (with_reducible first | exact HB.out | apply below_alloc | apply pw_below_drewN | apply below_drew1) | exact HB.out))) : w.heap.size ≤ gb270)); have n3_ := Aside0.mk ((by rw [hg]; exact (below_size (by repeat (first | (with_reducible first | exact HB.out | apply below_alloc | apply pw_below_drewN | apply below_drew1) | exact HB.out))) : w.heap.size ≤ gb270)); clear HB; have HB := n0_; have BK270 := n1_; have GW270 := n2_; have GE270 := n3_; clear n0_ n1_ n2_ n3_; clear hb hbox hg) | ((with_reducible refine gate_dst (N := 10) rfl ?_); refine box_event ?hg (N := 10) ?hd (cs := #[.bool false, .bool false, .int .i64 0, .bool false]) (t := 36) ?hr ?_; (case hd => rfl); (case hg => rfl); (case hr => first | (go_simp; done) | (go_simp; rfl)); intro gb271 hg w10 hbox hb; have n0_ := Aside0.mk (blk_below (g := gb270) (o := .cells #[.bool a0_0, .bool a0_1, .int .i64 a0_2, .bool a0_3] 36 (0, 0)) (by (with_reducible repeat (first | refine blk_drewN ?_ _ | refine blk_drew ?_ | refine blk_alloc ?_ _)); exact BK270.out) hb); have n1_ := Aside0.mk (below_step (by repeat (first | (with_reducible first | exact HB.out | apply below_alloc | apply pw_below_drewN | apply below_drew1 | refine below_set ?_ GE270.out) | exact HB.out)) hb); have n2_ := Aside0.mk (hbox); have n3_ := Aside0.mk ((by rw [hg]; exact (below_size (by repeat (first | (with_reducible first | exact HB.out | apply below_alloc | apply pw_below_drewN | apply below_drew1 | refine below_set ?_ GE270.out) | exact HB.out))) : w.heap.size ≤ gb271)); have n4_ := Aside0.mk ((by rw [hg]; exact (below_size (by repeat (first | (with_reducible first | exact HB.out | apply below_alloc | apply pw_below_drewN | apply below_drew1 | refine below_set ?_ GE270.out) | exact HB.out))) : w.heap.size ≤ gb271)); have n5_ := Aside0.mk ((by rw [hg]; exact Nat.ne_of_lt (blk_lt (g := gb270) (o := .cells #[.bool a0_0, .bool a0_1, .int .i64 a0_2, .bool a0_3] 36 (0, 0)) (by (with_reducible repeat (first | refine blk_drewN ?_ _ | refine blk_drew ?_ | refine blk_alloc ?_ _)); exact BK270.out)) : gb270 ≠ gb271)); have n6_ := Aside0.mk ((by rw [hg]; exact Nat.ne_of_gt (blk_lt (g := gb270) (o := .cells #[.bool a0_0, .bool a0_1, .int .i64 a0_2, .bool a0_3] 36 (0, 0)) (by (with_reducible repeat (first | refine blk_drewN ?_ _ | refine blk_drew ?_ | refine blk_alloc ?_ _)); exact BK270.out)) : gb271 ≠ gb270)); clear BK270; clear HB; have BK270 := n0_; have HB := n1_; have BK271 := n2_; have GW271 := n3_; have GE271 := n4_; have NB270_271 := n5_; have NB271_270 := n6_; clear n0_ n1_ n2_ n3_ n4_ n5_ n6_; clear hb hbox hg; have hnb11 := NB270_271.out; have hnc11 := NB271_270.out; have hcz12_0 : w10.cell? ⟨gb270, 0, none⟩ = some (.bool a0_0) := (blk_cell BK270.out 0).trans rfl; have hcz12_1 : w10.cell? ⟨gb270, 1, none⟩ = some (.bool a0_1) := (blk_cell BK270.out 1).trans rfl; have hcz12_2 : w10.cell? ⟨gb270, 2, none⟩ = some (.int .i64 a0_2) := (blk_cell BK270.out 2).trans rfl; have hcz12_3 : w10.cell? ⟨gb270, 3, none⟩ = some (.bool a0_3) := (blk_cell BK270.out 3).trans rfl; have hfz12_0 := blk_frozen BK270.out 0; have hfz12_1 := blk_frozen BK270.out 1; have hfz12_2 := blk_frozen BK270.out 2; have hfz12_3 := blk_frozen BK270.out 3) | ((with_reducible refine gate_callee (f := 24) rfl ?_); refine goesL_ (some 13) rfl rfl Try.func24 (by kernel_rfl) rfl #[.agg #[.bool a0_0, .bool a0_1, .int .i64 a0_2, .bool a0_3], .int .i64 a1] rfl (by (try simp only [List.map_toArray, List.map_cons, List.map_nil]); first | done | rfl | (simp only [List.length_drop, List.length_take]; rfl)) ?_; (with_reducible refine (substationref29_ValidBreaker.calls k a0_0 a0_1 a0_2 a0_3 a1 true _ A6.out).mono ?_); rintro e w13 ⟨rfl, hb⟩; refine ⟨_, rfl, ?_⟩; have n0_ := Aside0.mk (blk_below (g := gb270) (o := .cells #[.bool a0_0, .bool a0_1, .int .i64 a0_2, .bool a0_3] 36 (0, 0)) (by (with_reducible repeat (first | refine blk_drewN ?_ _ | refine blk_drew ?_ | refine blk_alloc ?_ _)); exact BK270.out) hb); have n1_ := Aside0.mk (blk_below (g := gb271) (o := .cells #[.bool false, .bool false, .int .i64 0, .bool false] 36 (0, 0)) (by (with_reducible repeat (first | refine blk_drewN ?_ _ | refine blk_drew ?_ | refine blk_alloc ?_ _)); exact BK271.out) hb); have n2_ := Aside0.mk (below_step (by repeat (first | (with_reducible first | exact HB.out | apply below_alloc | apply pw_below_drewN | apply below_drew1 | refine below_set ?_ GE270.out | refine below_set ?_ GE271.out) | exact HB.out)) hb); clear BK270; clear BK271; clear HB; have BK270 := n0_; have BK271 := n1_; have HB := n2_; clear n0_ n1_ n2_; (try clear hb); (try clear hb2); (try clear hk); (try clear hi); have hcz14_0 : w13.cell? ⟨gb270, 0, none⟩ = some (.bool a0_0) := (blk_cell BK270.out 0).trans rfl; have hcz14_1 : w13.cell? ⟨gb270, 1, none⟩ = some (.bool a0_1) := (blk_cell BK270.out 1).trans rfl; have hcz14_2 : w13.cell? ⟨gb270, 2, none⟩ = some (.int .i64 a0_2) := (blk_cell BK270.out 2).trans rfl; have hcz14_3 : w13.cell? ⟨gb270, 3, none⟩ = some (.bool a0_3) := (blk_cell BK270.out 3).trans rfl; have hfz14_0 := blk_frozen BK270.out 0; have hfz14_1 := blk_frozen BK270.out 1; have hfz14_2 := blk_frozen BK270.out 2; have hfz14_3 := blk_frozen BK270.out 3))
    (try simp only [Act.put, List.setIfInBounds_toArray, List.set_cons_zero, List.set_cons_succ])
    go_cut [] (fun wc => ∃ (kq : Nat) (x271000_7 : Bool) (x271001_7 : Bool) (x271002_7 : Int) (x271003_7 : Bool), Aside0 (substationref29_Breaker.j0 kq a1 a2 a3 a4 x271000_7 x271001_7 x271002_7 x271003_7 = some (r1, r2, r3, r4)) ∧ Aside0 (kq ≤ k) ∧ Aside0 (wc.heap[gb270]? = some (.cells #[.bool x271000_7, .bool x271001_7, .int .i64 x271002_7, .bool x271003_7] 36 (0, 0))) ∧ Aside0 (wc.heap[gb271]? = some (.cells #[.bool false, .bool false, .int .i64 0, .bool false] 36 (0, 0))) ∧ Aside0 (Below w.heap.size w wc))
    case first =>
      have H := HC8.out
      clear HC8
      by_cases c15 : a0_2 > 0
      · rw [if_pos c15] at H
        have c15b0 : decide (0 < a0_2) = true := decide_eq_true c15
        clear c15
        (first | rw [c15b0] | (simp only [i64_w, i32_w]; rw [c15b0]) | skip)
        by_cases c16 : (wrap64 (a0_2 - 1)) = 0
        · rw [if_pos c16] at H
          have c16b0 : ((wrap64 (a0_2 - 1)) == 0) = true := beq_iff_eq.mpr c16
          have c16b1 : ((wrap64 (a0_2 - 1)) != 0) = false := bne_eq_false_iff_eq.mpr c16
          clear c16
          by_cases c17 : a0_1 = true
          · subst c17
            have H1 : (substationref29_Breaker.j0 k a1 a2 a3 a4 true false (wrap64 (a0_2 - 1)) a0_3) = some (r1, r2, r3, r4) := by rw [if_pos rfl] at H; exact H
            clear H
            have H := H1
            clear H1
            have H' := Aside0.mk H
            clear H
            have hnb18 := NB270_271.out
            have hnc18 := NB271_270.out
            have hcz19_0 : w13.cell? ⟨gb270, 0, none⟩ = some (.bool a0_0) := (blk_cell BK270.out 0).trans rfl
            have hcz19_1 : w13.cell? ⟨gb270, 1, none⟩ = some (.bool true) := (blk_cell BK270.out 1).trans rfl
            have hcz19_2 : w13.cell? ⟨gb270, 2, none⟩ = some (.int .i64 a0_2) := (blk_cell BK270.out 2).trans rfl
            have hcz19_3 : w13.cell? ⟨gb270, 3, none⟩ = some (.bool a0_3) := (blk_cell BK270.out 3).trans rfl
            have hfz19_0 := blk_frozen BK270.out 0
            have hfz19_1 := blk_frozen BK270.out 1
            have hfz19_2 := blk_frozen BK270.out 2
            have hfz19_3 := blk_frozen BK270.out 3
            go_wp2
            go_meet
            case rel => exact ⟨_, (true), (false), (wrap64 (a0_2 - 1)), (a0_3), H', ⟨by first | omega | exact Nat.le_refl _⟩, ⟨by (with_reducible repeat (first | refine blk_drewN ?_ _ | refine blk_drew ?_ | refine blk_alloc ?_ _)); refine blk_put (cs := #[.bool true, .bool true, .int .i64 (wrap64 (a0_2 - 1)), .bool a0_3]) ?_ 1 _ rfl; (with_reducible repeat (first | refine blk_drewN ?_ _ | refine blk_drew ?_ | refine blk_alloc ?_ _)); refine blk_put (cs := #[.bool a0_0, .bool true, .int .i64 (wrap64 (a0_2 - 1)), .bool a0_3]) ?_ 0 _ rfl; (with_reducible repeat (first | refine blk_drewN ?_ _ | refine blk_drew ?_ | refine blk_alloc ?_ _)); refine blk_put (cs := #[.bool a0_0, .bool true, .int .i64 a0_2, .bool a0_3]) ?_ 2 _ rfl; (with_reducible repeat (first | refine blk_drewN ?_ _ | refine blk_drew ?_ | refine blk_alloc ?_ _)); exact BK270.out⟩, ⟨by (with_reducible repeat (first | refine blk_drewN ?_ _ | refine blk_drew ?_ | refine blk_alloc ?_ _)); refine blk_far ?_ NB271_270.out _; (with_reducible repeat (first | refine blk_drewN ?_ _ | refine blk_drew ?_ | refine blk_alloc ?_ _)); refine blk_far ?_ NB271_270.out _; (with_reducible repeat (first | refine blk_drewN ?_ _ | refine blk_drew ?_ | refine blk_alloc ?_ _)); refine blk_far ?_ NB271_270.out _; (with_reducible repeat (first | refine blk_drewN ?_ _ | refine blk_drew ?_ | refine blk_alloc ?_ _)); exact BK271.out⟩, ⟨by repeat (first | (with_reducible first | exact HB.out | apply below_alloc | apply pw_below_drewN | apply below_drew1 | refine below_set ?_ GE270.out | refine below_set ?_ GE271.out) | exact HB.out)⟩⟩
          · replace c17 := Bool.eq_false_iff.mpr c17
            subst c17
            have H1 : (substationref29_Breaker.j0 k a1 a2 a3 a4 false false (wrap64 (a0_2 - 1)) false) = some (r1, r2, r3, r4) := by rw [if_neg (show ¬ (false = true) by decide)] at H; exact H
            clear H
            have H := H1
            clear H1
            have H' := Aside0.mk H
            clear H
            have hnb20 := NB270_271.out
            have hnc20 := NB271_270.out
            have hcz21_0 : w13.cell? ⟨gb270, 0, none⟩ = some (.bool a0_0) := (blk_cell BK270.out 0).trans rfl
            have hcz21_1 : w13.cell? ⟨gb270, 1, none⟩ = some (.bool false) := (blk_cell BK270.out 1).trans rfl
            have hcz21_2 : w13.cell? ⟨gb270, 2, none⟩ = some (.int .i64 a0_2) := (blk_cell BK270.out 2).trans rfl
            have hcz21_3 : w13.cell? ⟨gb270, 3, none⟩ = some (.bool a0_3) := (blk_cell BK270.out 3).trans rfl
            have hfz21_0 := blk_frozen BK270.out 0
            have hfz21_1 := blk_frozen BK270.out 1
            have hfz21_2 := blk_frozen BK270.out 2
            have hfz21_3 := blk_frozen BK270.out 3
            go_wp2
            go_meet
            case rel => exact ⟨_, (false), (false), (wrap64 (a0_2 - 1)), (false), H', ⟨by first | omega | exact Nat.le_refl _⟩, ⟨by (with_reducible repeat (first | refine blk_drewN ?_ _ | refine blk_drew ?_ | refine blk_alloc ?_ _)); refine blk_put (cs := #[.bool false, .bool false, .int .i64 (wrap64 (a0_2 - 1)), .bool a0_3]) ?_ 3 _ rfl; (with_reducible repeat (first | refine blk_drewN ?_ _ | refine blk_drew ?_ | refine blk_alloc ?_ _)); refine blk_put (cs := #[.bool false, .bool false, .int .i64 (wrap64 (a0_2 - 1)), .bool a0_3]) ?_ 1 _ rfl; (with_reducible repeat (first | refine blk_drewN ?_ _ | refine blk_drew ?_ | refine blk_alloc ?_ _)); refine blk_put (cs := #[.bool a0_0, .bool false, .int .i64 (wrap64 (a0_2 - 1)), .bool a0_3]) ?_ 0 _ rfl; (with_reducible repeat (first | refine blk_drewN ?_ _ | refine blk_drew ?_ | refine blk_alloc ?_ _)); refine blk_put (cs := #[.bool a0_0, .bool false, .int .i64 a0_2, .bool a0_3]) ?_ 2 _ rfl; (with_reducible repeat (first | refine blk_drewN ?_ _ | refine blk_drew ?_ | refine blk_alloc ?_ _)); exact BK270.out⟩, ⟨by (with_reducible repeat (first | refine blk_drewN ?_ _ | refine blk_drew ?_ | refine blk_alloc ?_ _)); refine blk_far ?_ NB271_270.out _; (with_reducible repeat (first | refine blk_drewN ?_ _ | refine blk_drew ?_ | refine blk_alloc ?_ _)); refine blk_far ?_ NB271_270.out _; (with_reducible repeat (first | refine blk_drewN ?_ _ | refine blk_drew ?_ | refine blk_alloc ?_ _)); refine blk_far ?_ NB271_270.out _; (with_reducible repeat (first | refine blk_drewN ?_ _ | refine blk_drew ?_ | refine blk_alloc ?_ _)); refine blk_far ?_ NB271_270.out _; (with_reducible repeat (first | refine blk_drewN ?_ _ | refine blk_drew ?_ | refine blk_alloc ?_ _)); exact BK271.out⟩, ⟨by repeat (first | (with_reducible first | exact HB.out | apply below_alloc | apply pw_below_drewN | apply below_drew1 | refine below_set ?_ GE270.out | refine below_set ?_ GE271.out) | exact HB.out)⟩⟩
        · rw [if_neg c16] at H
          have c16b0 : ((wrap64 (a0_2 - 1)) == 0) = false := beq_eq_false_iff_ne.mpr c16
          have c16b1 : ((wrap64 (a0_2 - 1)) != 0) = true := bne_iff_ne.mpr c16
          have H' := Aside0.mk H
          clear H
          have hnb22 := NB270_271.out
          have hnc22 := NB271_270.out
          have hcz23_0 : w13.cell? ⟨gb270, 0, none⟩ = some (.bool a0_0) := (blk_cell BK270.out 0).trans rfl
          have hcz23_1 : w13.cell? ⟨gb270, 1, none⟩ = some (.bool a0_1) := (blk_cell BK270.out 1).trans rfl
          have hcz23_2 : w13.cell? ⟨gb270, 2, none⟩ = some (.int .i64 a0_2) := (blk_cell BK270.out 2).trans rfl
          have hcz23_3 : w13.cell? ⟨gb270, 3, none⟩ = some (.bool a0_3) := (blk_cell BK270.out 3).trans rfl
          have hfz23_0 := blk_frozen BK270.out 0
          have hfz23_1 := blk_frozen BK270.out 1
          have hfz23_2 := blk_frozen BK270.out 2
          have hfz23_3 := blk_frozen BK270.out 3
          go_wp2
          go_meet
          case rel => exact ⟨_, (a0_0), (a0_1), (wrap64 (a0_2 - 1)), (a0_3), H', ⟨by first | omega | exact Nat.le_refl _⟩, ⟨by (with_reducible repeat (first | refine blk_drewN ?_ _ | refine blk_drew ?_ | refine blk_alloc ?_ _)); refine blk_put (cs := #[.bool a0_0, .bool a0_1, .int .i64 a0_2, .bool a0_3]) ?_ 2 _ rfl; (with_reducible repeat (first | refine blk_drewN ?_ _ | refine blk_drew ?_ | refine blk_alloc ?_ _)); exact BK270.out⟩, ⟨by (with_reducible repeat (first | refine blk_drewN ?_ _ | refine blk_drew ?_ | refine blk_alloc ?_ _)); refine blk_far ?_ NB271_270.out _; (with_reducible repeat (first | refine blk_drewN ?_ _ | refine blk_drew ?_ | refine blk_alloc ?_ _)); exact BK271.out⟩, ⟨by repeat (first | (with_reducible first | exact HB.out | apply below_alloc | apply pw_below_drewN | apply below_drew1 | refine below_set ?_ GE270.out | refine below_set ?_ GE271.out) | exact HB.out)⟩⟩
      · rw [if_neg c15] at H
        have c15b0 : decide (0 < a0_2) = false := decide_eq_false c15
        clear c15
        (first | rw [c15b0] | (simp only [i64_w, i32_w]; rw [c15b0]) | skip)
        have H' := Aside0.mk H
        clear H
        go_wp2
        go_meet
        case rel => exact ⟨_, (a0_0), (a0_1), (a0_2), (a0_3), H', ⟨by first | omega | exact Nat.le_refl _⟩, ⟨by (with_reducible repeat (first | refine blk_drewN ?_ _ | refine blk_drew ?_ | refine blk_alloc ?_ _)); exact BK270.out⟩, ⟨by (with_reducible repeat (first | refine blk_drewN ?_ _ | refine blk_drew ?_ | refine blk_alloc ?_ _)); exact BK271.out⟩, ⟨by repeat (first | (with_reducible first | exact HB.out | apply below_alloc | apply pw_below_drewN | apply below_drew1 | refine below_set ?_ GE270.out | refine below_set ?_ GE271.out) | exact HB.out)⟩⟩
    case rest =>
      clear HC8
      try clear c1
      try clear c2
      try clear p2
      try clear p6
      try clear c7
      try clear c11
      try clear c15
      try clear c15b0
      try clear c16
      try clear c16b0
      try clear c16b1
      try clear c17
      try clear c18
      try clear c20
      try clear c22
      try clear hcz12_0
      try clear hcz12_1
      try clear hcz12_2
      try clear hcz12_3
      try clear hcz14_0
      try clear hcz14_1
      try clear hcz14_2
      try clear hcz14_3
      try clear hcz19_0
      try clear hcz19_1
      try clear hcz19_2
      try clear hcz19_3
      try clear hcz21_0
      try clear hcz21_1
      try clear hcz21_2
      try clear hcz21_3
      try clear hcz23_0
      try clear hcz23_1
      try clear hcz23_2
      try clear hcz23_3
      try clear hfz12_0
      try clear hfz12_1
      try clear hfz12_2
      try clear hfz12_3
      try clear hfz14_0
      try clear hfz14_1
      try clear hfz14_2
      try clear hfz14_3
      try clear hfz19_0
      try clear hfz19_1
      try clear hfz19_2
      try clear hfz19_3
      try clear hfz21_0
      try clear hfz21_1
      try clear hfz21_2
      try clear hfz21_3
      try clear hfz23_0
      try clear hfz23_1
      try clear hfz23_2
      try clear hfz23_3
      obtain ⟨kq, x271000_7, x271001_7, x271002_7, x271003_7, HA, HJ7, BK270, BK271, HB⟩ := hcut
      cases kq with
      | zero => exact absurd HA.out (by simp [substationref29_Breaker.j0])
      | succ kj7 =>
        have H := HA.out
        clear HA
        simp only [substationref29_Breaker.j0] at H
        have HC24 := Aside0.mk H
        clear H
        go_upto_region 10 with (fail)
        go_cut [34] (fun v34 wc => ∃ (kq : Nat) (x34_23 : Bool), v34 = .bool x34_23 ∧ Aside0 (substationref29_Breaker.j1 kq a1 a2 a3 a4 x34_23 x271000_7 x271001_7 x271002_7 x271003_7 = some (r1, r2, r3, r4)) ∧ Aside0 (kq ≤ kj7) ∧ Aside0 (wc.heap[gb270]? = some (.cells #[.bool x271000_7, .bool x271001_7, .int .i64 x271002_7, .bool x271003_7] 36 (0, 0))) ∧ Aside0 (wc.heap[gb271]? = some (.cells #[.bool false, .bool false, .int .i64 0, .bool false] 36 (0, 0))) ∧ Aside0 (Below w.heap.size w wc))
        case first =>
          have H := HC24.out
          clear HC24
          by_cases c25 : x271002_7 > 0
          · rw [if_pos c25] at H
            have c25b0 : decide (0 < x271002_7) = true := decide_eq_true c25
            clear c25
            (first | rw [c25b0] | (simp only [i64_w, i32_w]; rw [c25b0]) | skip)
            by_cases c26 : x271001_7 = true
            · subst c26
              have H1 : (substationref29_Breaker.j1 kj7 a1 a2 a3 a4 a3 x271000_7 true x271002_7 x271003_7) = some (r1, r2, r3, r4) := by rw [if_pos rfl] at H; exact H
              clear H
              have H := H1
              clear H1
              have H' := Aside0.mk H
              clear H
              have hnb27 := NB270_271.out
              have hnc27 := NB271_270.out
              have hcz28_0 : wc.cell? ⟨gb270, 0, none⟩ = some (.bool x271000_7) := (blk_cell BK270.out 0).trans rfl
              have hcz28_1 : wc.cell? ⟨gb270, 1, none⟩ = some (.bool true) := (blk_cell BK270.out 1).trans rfl
              have hcz28_2 : wc.cell? ⟨gb270, 2, none⟩ = some (.int .i64 x271002_7) := (blk_cell BK270.out 2).trans rfl
              have hcz28_3 : wc.cell? ⟨gb270, 3, none⟩ = some (.bool x271003_7) := (blk_cell BK270.out 3).trans rfl
              have hfz28_0 := blk_frozen BK270.out 0
              have hfz28_1 := blk_frozen BK270.out 1
              have hfz28_2 := blk_frozen BK270.out 2
              have hfz28_3 := blk_frozen BK270.out 3
              go_wp2
              go_meet
              case rel => exact ⟨_, (a3), (by first | rfl | (simp; done) | (simp [*]; done)), H', ⟨by have := HJ7.out; first | omega | exact Nat.le_refl _⟩, ⟨by (with_reducible repeat (first | refine blk_drewN ?_ _ | refine blk_drew ?_ | refine blk_alloc ?_ _)); exact BK270.out⟩, ⟨by (with_reducible repeat (first | refine blk_drewN ?_ _ | refine blk_drew ?_ | refine blk_alloc ?_ _)); exact BK271.out⟩, ⟨by repeat (first | (with_reducible first | exact HB.out | apply below_alloc | apply pw_below_drewN | apply below_drew1 | refine below_set ?_ GE270.out | refine below_set ?_ GE271.out) | exact HB.out)⟩⟩
            · replace c26 := Bool.eq_false_iff.mpr c26
              subst c26
              have H1 : (substationref29_Breaker.j1 kj7 a1 a2 a3 a4 false x271000_7 false x271002_7 x271003_7) = some (r1, r2, r3, r4) := by rw [if_neg (show ¬ (false = true) by decide)] at H; exact H
              clear H
              have H := H1
              clear H1
              have H' := Aside0.mk H
              clear H
              have hnb29 := NB270_271.out
              have hnc29 := NB271_270.out
              have hcz30_0 : wc.cell? ⟨gb270, 0, none⟩ = some (.bool x271000_7) := (blk_cell BK270.out 0).trans rfl
              have hcz30_1 : wc.cell? ⟨gb270, 1, none⟩ = some (.bool false) := (blk_cell BK270.out 1).trans rfl
              have hcz30_2 : wc.cell? ⟨gb270, 2, none⟩ = some (.int .i64 x271002_7) := (blk_cell BK270.out 2).trans rfl
              have hcz30_3 : wc.cell? ⟨gb270, 3, none⟩ = some (.bool x271003_7) := (blk_cell BK270.out 3).trans rfl
              have hfz30_0 := blk_frozen BK270.out 0
              have hfz30_1 := blk_frozen BK270.out 1
              have hfz30_2 := blk_frozen BK270.out 2
              have hfz30_3 := blk_frozen BK270.out 3
              go_wp2
              go_meet
              case rel => exact ⟨_, (false), (by first | rfl | (simp; done) | (simp [*]; done)), H', ⟨by have := HJ7.out; first | omega | exact Nat.le_refl _⟩, ⟨by (with_reducible repeat (first | refine blk_drewN ?_ _ | refine blk_drew ?_ | refine blk_alloc ?_ _)); exact BK270.out⟩, ⟨by (with_reducible repeat (first | refine blk_drewN ?_ _ | refine blk_drew ?_ | refine blk_alloc ?_ _)); exact BK271.out⟩, ⟨by repeat (first | (with_reducible first | exact HB.out | apply below_alloc | apply pw_below_drewN | apply below_drew1 | refine below_set ?_ GE270.out | refine below_set ?_ GE271.out) | exact HB.out)⟩⟩
          · rw [if_neg c25] at H
            have c25b0 : decide (0 < x271002_7) = false := decide_eq_false c25
            clear c25
            (first | rw [c25b0] | (simp only [i64_w, i32_w]; rw [c25b0]) | skip)
            have H' := Aside0.mk H
            clear H
            have hnb31 := NB270_271.out
            have hnc31 := NB271_270.out
            have hcz32_0 : wc.cell? ⟨gb270, 0, none⟩ = some (.bool x271000_7) := (blk_cell BK270.out 0).trans rfl
            have hcz32_1 : wc.cell? ⟨gb270, 1, none⟩ = some (.bool x271001_7) := (blk_cell BK270.out 1).trans rfl
            have hcz32_2 : wc.cell? ⟨gb270, 2, none⟩ = some (.int .i64 x271002_7) := (blk_cell BK270.out 2).trans rfl
            have hcz32_3 : wc.cell? ⟨gb270, 3, none⟩ = some (.bool x271003_7) := (blk_cell BK270.out 3).trans rfl
            have hfz32_0 := blk_frozen BK270.out 0
            have hfz32_1 := blk_frozen BK270.out 1
            have hfz32_2 := blk_frozen BK270.out 2
            have hfz32_3 := blk_frozen BK270.out 3
            go_wp2
            go_meet
            case rel => exact ⟨_, (false), (by first | rfl | (simp; done) | (simp [*]; done)), H', ⟨by have := HJ7.out; first | omega | exact Nat.le_refl _⟩, ⟨by (with_reducible repeat (first | refine blk_drewN ?_ _ | refine blk_drew ?_ | refine blk_alloc ?_ _)); exact BK270.out⟩, ⟨by (with_reducible repeat (first | refine blk_drewN ?_ _ | refine blk_drew ?_ | refine blk_alloc ?_ _)); exact BK271.out⟩, ⟨by repeat (first | (with_reducible first | exact HB.out | apply below_alloc | apply pw_below_drewN | apply below_drew1 | refine below_set ?_ GE270.out | refine below_set ?_ GE271.out) | exact HB.out)⟩⟩
        case rest =>
          clear HC24
          try clear c1
          try clear c2
          try clear p2
          try clear c3
          try clear p6
          try clear c7
          try clear c11
          try clear c15
          try clear c15b0
          try clear c16
          try clear c16b0
          try clear c16b1
          try clear c17
          try clear c18
          try clear c20
          try clear c22
          try clear c24
          try clear c25
          try clear c25b0
          try clear c26
          try clear c27
          try clear c29
          try clear c31
          try clear hcz12_0
          try clear hcz12_1
          try clear hcz12_2
          try clear hcz12_3
          try clear hcz14_0
          try clear hcz14_1
          try clear hcz14_2
          try clear hcz14_3
          try clear hcz19_0
          try clear hcz19_1
          try clear hcz19_2
          try clear hcz19_3
          try clear hcz21_0
          try clear hcz21_1
          try clear hcz21_2
          try clear hcz21_3
          try clear hcz23_0
          try clear hcz23_1
          try clear hcz23_2
          try clear hcz23_3
          try clear hcz28_0
          try clear hcz28_1
          try clear hcz28_2
          try clear hcz28_3
          try clear hcz30_0
          try clear hcz30_1
          try clear hcz30_2
          try clear hcz30_3
          try clear hcz32_0
          try clear hcz32_1
          try clear hcz32_2
          try clear hcz32_3
          try clear hfz12_0
          try clear hfz12_1
          try clear hfz12_2
          try clear hfz12_3
          try clear hfz14_0
          try clear hfz14_1
          try clear hfz14_2
          try clear hfz14_3
          try clear hfz19_0
          try clear hfz19_1
          try clear hfz19_2
          try clear hfz19_3
          try clear hfz21_0
          try clear hfz21_1
          try clear hfz21_2
          try clear hfz21_3
          try clear hfz23_0
          try clear hfz23_1
          try clear hfz23_2
          try clear hfz23_3
          try clear hfz28_0
          try clear hfz28_1
          try clear hfz28_2
          try clear hfz28_3
          try clear hfz30_0
          try clear hfz30_1
          try clear hfz30_2
          try clear hfz30_3
          try clear hfz32_0
          try clear hfz32_1
          try clear hfz32_2
          try clear hfz32_3
          try clear p2
          try clear p6
          obtain ⟨kq, x34_23, rfl, HA, HJ23, BK270, BK271, HB⟩ := hcut
          cases kq with
          | zero => exact absurd HA.out (by simp [substationref29_Breaker.j1])
          | succ kj23 =>
            have H := HA.out
            clear HA
            simp only [substationref29_Breaker.j1] at H
            by_cases c33 : x34_23 = true
            · subst c33
              have H1 : (some (x271000_7, false, 0, x271003_7)) = some (r1, r2, r3, r4) := by rw [if_pos rfl] at H; exact H
              clear H
              have H := H1
              clear H1
              simp only [Option.some.injEq, Prod.mk.injEq] at H
              obtain ⟨rfl, rfl, rfl, rfl⟩ := H
              have hnb34 := NB270_271.out
              have hnc34 := NB271_270.out
              have hcz35_0 : wc.cell? ⟨gb270, 0, none⟩ = some (.bool x271000_7) := (blk_cell BK270.out 0).trans rfl
              have hcz35_1 : wc.cell? ⟨gb270, 1, none⟩ = some (.bool x271001_7) := (blk_cell BK270.out 1).trans rfl
              have hcz35_2 : wc.cell? ⟨gb270, 2, none⟩ = some (.int .i64 x271002_7) := (blk_cell BK270.out 2).trans rfl
              have hcz35_3 : wc.cell? ⟨gb270, 3, none⟩ = some (.bool x271003_7) := (blk_cell BK270.out 3).trans rfl
              have hfz35_0 := blk_frozen BK270.out 0
              have hfz35_1 := blk_frozen BK270.out 1
              have hfz35_2 := blk_frozen BK270.out 2
              have hfz35_3 := blk_frozen BK270.out 3
              have hcz36_0 : wc.cell? ⟨gb271, 0, none⟩ = some (.bool false) := (blk_cell BK271.out 0).trans rfl
              have hcz36_1 : wc.cell? ⟨gb271, 1, none⟩ = some (.bool false) := (blk_cell BK271.out 1).trans rfl
              have hcz36_2 : wc.cell? ⟨gb271, 2, none⟩ = some (.int .i64 0) := (blk_cell BK271.out 2).trans rfl
              have hcz36_3 : wc.cell? ⟨gb271, 3, none⟩ = some (.bool false) := (blk_cell BK271.out 3).trans rfl
              have hfz36_0 := blk_frozen BK271.out 0
              have hfz36_1 := blk_frozen BK271.out 1
              have hfz36_2 := blk_frozen BK271.out 2
              have hfz36_3 := blk_frozen BK271.out 3
              go_wp2
              refine bodyPost_ret (results_cell_row rfl _ _ gb271 36 #[.bool x271000_7, .bool false, .int .i64 0, .bool x271003_7] (0, 0) _ rfl (by (with_reducible repeat (first | refine blk_drewN ?_ _ | refine blk_drew ?_ | refine blk_alloc ?_ _)); refine blk_put (cs := #[.bool x271000_7, .bool false, .int .i64 0, .bool false]) ?_ 3 _ rfl; (with_reducible repeat (first | refine blk_drewN ?_ _ | refine blk_drew ?_ | refine blk_alloc ?_ _)); refine blk_put (cs := #[.bool x271000_7, .bool false, .int .i64 0, .bool false]) ?_ 2 _ rfl; (with_reducible repeat (first | refine blk_drewN ?_ _ | refine blk_drew ?_ | refine blk_alloc ?_ _)); refine blk_put (cs := #[.bool x271000_7, .bool false, .int .i64 0, .bool false]) ?_ 1 _ rfl; (with_reducible repeat (first | refine blk_drewN ?_ _ | refine blk_drew ?_ | refine blk_alloc ?_ _)); refine blk_put (cs := #[.bool false, .bool false, .int .i64 0, .bool false]) ?_ 0 _ rfl; (with_reducible repeat (first | refine blk_drewN ?_ _ | refine blk_drew ?_ | refine blk_alloc ?_ _)); refine blk_far ?_ NB271_270.out _; (with_reducible repeat (first | refine blk_drewN ?_ _ | refine blk_drew ?_ | refine blk_alloc ?_ _)); refine blk_far ?_ NB271_270.out _; (with_reducible repeat (first | refine blk_drewN ?_ _ | refine blk_drew ?_ | refine blk_alloc ?_ _)); exact BK271.out) Try.underlying36 rfl (by kernel_rfl)) rfl ?_
              exact ⟨by first | rfl | (simp [errW_none, errW_some] <;> rfl) | (simp [*, errW_none, errW_some] <;> rfl), by repeat (first | (with_reducible first | exact HB.out | apply below_alloc | apply pw_below_drewN | apply below_drew1 | refine below_set ?_ GE270.out | refine below_set ?_ GE271.out) | exact HB.out)⟩
            · replace c33 := Bool.eq_false_iff.mpr c33
              subst c33
              have H1 : (if x271002_7 = 0 then (if x271000_7 = true then (substationref29_Breaker.j2 kj23 a1 a2 a3 a4 a3 x271000_7 x271001_7 x271002_7 x271003_7) else (substationref29_Breaker.j2 kj23 a1 a2 a3 a4 false x271000_7 x271001_7 x271002_7 x271003_7)) else (substationref29_Breaker.j2 kj23 a1 a2 a3 a4 false x271000_7 x271001_7 x271002_7 x271003_7)) = some (r1, r2, r3, r4) := by rw [if_neg (show ¬ (false = true) by decide)] at H; exact H
              clear H
              have H := H1
              clear H1
              have HC37 := Aside0.mk H
              clear H
              go_upto_region 12 with (fail)
              go_cut [47] (fun v47 wc => ∃ (kq : Nat) (x47_36 : Bool), v47 = .bool x47_36 ∧ Aside0 (substationref29_Breaker.j2 kq a1 a2 a3 a4 x47_36 x271000_7 x271001_7 x271002_7 x271003_7 = some (r1, r2, r3, r4)) ∧ Aside0 (kq ≤ kj23) ∧ Aside0 (wc.heap[gb270]? = some (.cells #[.bool x271000_7, .bool x271001_7, .int .i64 x271002_7, .bool x271003_7] 36 (0, 0))) ∧ Aside0 (wc.heap[gb271]? = some (.cells #[.bool false, .bool false, .int .i64 0, .bool false] 36 (0, 0))) ∧ Aside0 (Below w.heap.size w wc))
              case first =>
                have H := HC37.out
                clear HC37
                by_cases c38 : x271002_7 = 0
                · rw [if_pos c38] at H
                  have c38b0 : (x271002_7 == 0) = true := beq_iff_eq.mpr c38
                  have c38b1 : (x271002_7 != 0) = false := bne_eq_false_iff_eq.mpr c38
                  clear c38
                  (first | rw [c38b0] | (simp only [i64_w, i32_w]; rw [c38b0]) | skip)
                  by_cases c39 : x271000_7 = true
                  · subst c39
                    have H1 : (substationref29_Breaker.j2 kj23 a1 a2 a3 a4 a3 true x271001_7 x271002_7 x271003_7) = some (r1, r2, r3, r4) := by rw [if_pos rfl] at H; exact H
                    clear H
                    have H := H1
                    clear H1
                    have H' := Aside0.mk H
                    clear H
                    have hnb40 := NB270_271.out
                    have hnc40 := NB271_270.out
                    have hcz41_0 : wc.cell? ⟨gb270, 0, none⟩ = some (.bool true) := (blk_cell BK270.out 0).trans rfl
                    have hcz41_1 : wc.cell? ⟨gb270, 1, none⟩ = some (.bool x271001_7) := (blk_cell BK270.out 1).trans rfl
                    have hcz41_2 : wc.cell? ⟨gb270, 2, none⟩ = some (.int .i64 x271002_7) := (blk_cell BK270.out 2).trans rfl
                    have hcz41_3 : wc.cell? ⟨gb270, 3, none⟩ = some (.bool x271003_7) := (blk_cell BK270.out 3).trans rfl
                    have hfz41_0 := blk_frozen BK270.out 0
                    have hfz41_1 := blk_frozen BK270.out 1
                    have hfz41_2 := blk_frozen BK270.out 2
                    have hfz41_3 := blk_frozen BK270.out 3
                    go_wp2
                    go_meet
                    case rel => exact ⟨_, (a3), (by first | rfl | (simp; done) | (simp [*]; done)), H', ⟨by have := HJ7.out; have := HJ23.out; first | omega | exact Nat.le_refl _⟩, ⟨by (with_reducible repeat (first | refine blk_drewN ?_ _ | refine blk_drew ?_ | refine blk_alloc ?_ _)); exact BK270.out⟩, ⟨by (with_reducible repeat (first | refine blk_drewN ?_ _ | refine blk_drew ?_ | refine blk_alloc ?_ _)); exact BK271.out⟩, ⟨by repeat (first | (with_reducible first | exact HB.out | apply below_alloc | apply pw_below_drewN | apply below_drew1 | refine below_set ?_ GE270.out | refine below_set ?_ GE271.out) | exact HB.out)⟩⟩
                  · replace c39 := Bool.eq_false_iff.mpr c39
                    subst c39
                    have H1 : (substationref29_Breaker.j2 kj23 a1 a2 a3 a4 false false x271001_7 x271002_7 x271003_7) = some (r1, r2, r3, r4) := by rw [if_neg (show ¬ (false = true) by decide)] at H; exact H
                    clear H
                    have H := H1
                    clear H1
                    have H' := Aside0.mk H
                    clear H
                    have hnb42 := NB270_271.out
                    have hnc42 := NB271_270.out
                    have hcz43_0 : wc.cell? ⟨gb270, 0, none⟩ = some (.bool false) := (blk_cell BK270.out 0).trans rfl
                    have hcz43_1 : wc.cell? ⟨gb270, 1, none⟩ = some (.bool x271001_7) := (blk_cell BK270.out 1).trans rfl
                    have hcz43_2 : wc.cell? ⟨gb270, 2, none⟩ = some (.int .i64 x271002_7) := (blk_cell BK270.out 2).trans rfl
                    have hcz43_3 : wc.cell? ⟨gb270, 3, none⟩ = some (.bool x271003_7) := (blk_cell BK270.out 3).trans rfl
                    have hfz43_0 := blk_frozen BK270.out 0
                    have hfz43_1 := blk_frozen BK270.out 1
                    have hfz43_2 := blk_frozen BK270.out 2
                    have hfz43_3 := blk_frozen BK270.out 3
                    go_wp2
                    go_meet
                    case rel => exact ⟨_, (false), (by first | rfl | (simp; done) | (simp [*]; done)), H', ⟨by have := HJ7.out; have := HJ23.out; first | omega | exact Nat.le_refl _⟩, ⟨by (with_reducible repeat (first | refine blk_drewN ?_ _ | refine blk_drew ?_ | refine blk_alloc ?_ _)); exact BK270.out⟩, ⟨by (with_reducible repeat (first | refine blk_drewN ?_ _ | refine blk_drew ?_ | refine blk_alloc ?_ _)); exact BK271.out⟩, ⟨by repeat (first | (with_reducible first | exact HB.out | apply below_alloc | apply pw_below_drewN | apply below_drew1 | refine below_set ?_ GE270.out | refine below_set ?_ GE271.out) | exact HB.out)⟩⟩
                · rw [if_neg c38] at H
                  have c38b0 : (x271002_7 == 0) = false := beq_eq_false_iff_ne.mpr c38
                  have c38b1 : (x271002_7 != 0) = true := bne_iff_ne.mpr c38
                  (first | rw [c38b0] | (simp only [i64_w, i32_w]; rw [c38b0]) | skip)
                  have H' := Aside0.mk H
                  clear H
                  have hnb44 := NB270_271.out
                  have hnc44 := NB271_270.out
                  have hcz45_0 : wc.cell? ⟨gb270, 0, none⟩ = some (.bool x271000_7) := (blk_cell BK270.out 0).trans rfl
                  have hcz45_1 : wc.cell? ⟨gb270, 1, none⟩ = some (.bool x271001_7) := (blk_cell BK270.out 1).trans rfl
                  have hcz45_2 : wc.cell? ⟨gb270, 2, none⟩ = some (.int .i64 x271002_7) := (blk_cell BK270.out 2).trans rfl
                  have hcz45_3 : wc.cell? ⟨gb270, 3, none⟩ = some (.bool x271003_7) := (blk_cell BK270.out 3).trans rfl
                  have hfz45_0 := blk_frozen BK270.out 0
                  have hfz45_1 := blk_frozen BK270.out 1
                  have hfz45_2 := blk_frozen BK270.out 2
                  have hfz45_3 := blk_frozen BK270.out 3
                  go_wp2
                  go_meet
                  case rel => exact ⟨_, (false), (by first | rfl | (simp; done) | (simp [*]; done)), H', ⟨by have := HJ7.out; have := HJ23.out; first | omega | exact Nat.le_refl _⟩, ⟨by (with_reducible repeat (first | refine blk_drewN ?_ _ | refine blk_drew ?_ | refine blk_alloc ?_ _)); exact BK270.out⟩, ⟨by (with_reducible repeat (first | refine blk_drewN ?_ _ | refine blk_drew ?_ | refine blk_alloc ?_ _)); exact BK271.out⟩, ⟨by repeat (first | (with_reducible first | exact HB.out | apply below_alloc | apply pw_below_drewN | apply below_drew1 | refine below_set ?_ GE270.out | refine below_set ?_ GE271.out) | exact HB.out)⟩⟩
              case rest =>
                clear HC37
                try clear c1
                try clear c2
                try clear p2
                try clear c3
                try clear c4
                try clear p6
                try clear c7
                try clear c11
                try clear c15
                try clear c15b0
                try clear c16
                try clear c16b0
                try clear c16b1
                try clear c17
                try clear c18
                try clear c20
                try clear c22
                try clear c24
                try clear c25
                try clear c25b0
                try clear c26
                try clear c27
                try clear c29
                try clear c31
                try clear c33
                try clear c34
                try clear c38
                try clear c38b0
                try clear c38b1
                try clear c39
                try clear c40
                try clear c42
                try clear c44
                try clear hcz12_0
                try clear hcz12_1
                try clear hcz12_2
                try clear hcz12_3
                try clear hcz14_0
                try clear hcz14_1
                try clear hcz14_2
                try clear hcz14_3
                try clear hcz19_0
                try clear hcz19_1
                try clear hcz19_2
                try clear hcz19_3
                try clear hcz21_0
                try clear hcz21_1
                try clear hcz21_2
                try clear hcz21_3
                try clear hcz23_0
                try clear hcz23_1
                try clear hcz23_2
                try clear hcz23_3
                try clear hcz28_0
                try clear hcz28_1
                try clear hcz28_2
                try clear hcz28_3
                try clear hcz30_0
                try clear hcz30_1
                try clear hcz30_2
                try clear hcz30_3
                try clear hcz32_0
                try clear hcz32_1
                try clear hcz32_2
                try clear hcz32_3
                try clear hcz35_0
                try clear hcz35_1
                try clear hcz35_2
                try clear hcz35_3
                try clear hcz36_0
                try clear hcz36_1
                try clear hcz36_2
                try clear hcz36_3
                try clear hcz41_0
                try clear hcz41_1
                try clear hcz41_2
                try clear hcz41_3
                try clear hcz43_0
                try clear hcz43_1
                try clear hcz43_2
                try clear hcz43_3
                try clear hcz45_0
                try clear hcz45_1
                try clear hcz45_2
                try clear hcz45_3
                try clear hfz12_0
                try clear hfz12_1
                try clear hfz12_2
                try clear hfz12_3
                try clear hfz14_0
                try clear hfz14_1
                try clear hfz14_2
                try clear hfz14_3
                try clear hfz19_0
                try clear hfz19_1
                try clear hfz19_2
                try clear hfz19_3
                try clear hfz21_0
                try clear hfz21_1
                try clear hfz21_2
                try clear hfz21_3
                try clear hfz23_0
                try clear hfz23_1
                try clear hfz23_2
                try clear hfz23_3
                try clear hfz28_0
                try clear hfz28_1
                try clear hfz28_2
                try clear hfz28_3
                try clear hfz30_0
                try clear hfz30_1
                try clear hfz30_2
                try clear hfz30_3
                try clear hfz32_0
                try clear hfz32_1
                try clear hfz32_2
                try clear hfz32_3
                try clear hfz35_0
                try clear hfz35_1
                try clear hfz35_2
                try clear hfz35_3
                try clear hfz36_0
                try clear hfz36_1
                try clear hfz36_2
                try clear hfz36_3
                try clear hfz41_0
                try clear hfz41_1
                try clear hfz41_2
                try clear hfz41_3
                try clear hfz43_0
                try clear hfz43_1
                try clear hfz43_2
                try clear hfz43_3
                try clear hfz45_0
                try clear hfz45_1
                try clear hfz45_2
                try clear hfz45_3
                try clear p2
                try clear p6
                obtain ⟨kq, x47_36, rfl, HA, HJ36, BK270, BK271, HB⟩ := hcut
                cases kq with
                | zero => exact absurd HA.out (by simp [substationref29_Breaker.j2])
                | succ kj36 =>
                  have H := HA.out
                  clear HA
                  simp only [substationref29_Breaker.j2] at H
                  by_cases c46 : x47_36 = true
                  · subst c46
                    have H1 : (if a2 = true then (some (x271000_7, x271001_7, x271002_7, true)) else (some (x271000_7, x271001_7, a1, true))) = some (r1, r2, r3, r4) := by rw [if_pos rfl] at H; exact H
                    clear H
                    have H := H1
                    clear H1
                    by_cases c47 : a2 = true
                    · subst c47
                      have H1 : (some (x271000_7, x271001_7, x271002_7, true)) = some (r1, r2, r3, r4) := by rw [if_pos rfl] at H; exact H
                      clear H
                      have H := H1
                      clear H1
                      simp only [Option.some.injEq, Prod.mk.injEq] at H
                      obtain ⟨rfl, rfl, rfl, rfl⟩ := H
                      have hnb48 := NB270_271.out
                      have hnc48 := NB271_270.out
                      have hcz49_0 : wc.cell? ⟨gb270, 0, none⟩ = some (.bool x271000_7) := (blk_cell BK270.out 0).trans rfl
                      have hcz49_1 : wc.cell? ⟨gb270, 1, none⟩ = some (.bool x271001_7) := (blk_cell BK270.out 1).trans rfl
                      have hcz49_2 : wc.cell? ⟨gb270, 2, none⟩ = some (.int .i64 x271002_7) := (blk_cell BK270.out 2).trans rfl
                      have hcz49_3 : wc.cell? ⟨gb270, 3, none⟩ = some (.bool x271003_7) := (blk_cell BK270.out 3).trans rfl
                      have hfz49_0 := blk_frozen BK270.out 0
                      have hfz49_1 := blk_frozen BK270.out 1
                      have hfz49_2 := blk_frozen BK270.out 2
                      have hfz49_3 := blk_frozen BK270.out 3
                      have hcz50_0 : wc.cell? ⟨gb271, 0, none⟩ = some (.bool false) := (blk_cell BK271.out 0).trans rfl
                      have hcz50_1 : wc.cell? ⟨gb271, 1, none⟩ = some (.bool false) := (blk_cell BK271.out 1).trans rfl
                      have hcz50_2 : wc.cell? ⟨gb271, 2, none⟩ = some (.int .i64 0) := (blk_cell BK271.out 2).trans rfl
                      have hcz50_3 : wc.cell? ⟨gb271, 3, none⟩ = some (.bool false) := (blk_cell BK271.out 3).trans rfl
                      have hfz50_0 := blk_frozen BK271.out 0
                      have hfz50_1 := blk_frozen BK271.out 1
                      have hfz50_2 := blk_frozen BK271.out 2
                      have hfz50_3 := blk_frozen BK271.out 3
                      go_wp2
                      refine bodyPost_ret (results_cell_row rfl _ _ gb271 36 #[.bool x271000_7, .bool x271001_7, .int .i64 x271002_7, .bool true] (0, 0) _ rfl (by (with_reducible repeat (first | refine blk_drewN ?_ _ | refine blk_drew ?_ | refine blk_alloc ?_ _)); refine blk_put (cs := #[.bool x271000_7, .bool x271001_7, .int .i64 x271002_7, .bool false]) ?_ 3 _ rfl; (with_reducible repeat (first | refine blk_drewN ?_ _ | refine blk_drew ?_ | refine blk_alloc ?_ _)); refine blk_put (cs := #[.bool x271000_7, .bool x271001_7, .int .i64 0, .bool false]) ?_ 2 _ rfl; (with_reducible repeat (first | refine blk_drewN ?_ _ | refine blk_drew ?_ | refine blk_alloc ?_ _)); refine blk_put (cs := #[.bool x271000_7, .bool false, .int .i64 0, .bool false]) ?_ 1 _ rfl; (with_reducible repeat (first | refine blk_drewN ?_ _ | refine blk_drew ?_ | refine blk_alloc ?_ _)); refine blk_put (cs := #[.bool false, .bool false, .int .i64 0, .bool false]) ?_ 0 _ rfl; (with_reducible repeat (first | refine blk_drewN ?_ _ | refine blk_drew ?_ | refine blk_alloc ?_ _)); refine blk_far ?_ NB271_270.out _; (with_reducible repeat (first | refine blk_drewN ?_ _ | refine blk_drew ?_ | refine blk_alloc ?_ _)); exact BK271.out) Try.underlying36 rfl (by kernel_rfl)) rfl ?_
                      exact ⟨by first | rfl | (simp [errW_none, errW_some] <;> rfl) | (simp [*, errW_none, errW_some] <;> rfl), by repeat (first | (with_reducible first | exact HB.out | apply below_alloc | apply pw_below_drewN | apply below_drew1 | refine below_set ?_ GE270.out | refine below_set ?_ GE271.out) | exact HB.out)⟩
                    · replace c47 := Bool.eq_false_iff.mpr c47
                      subst c47
                      have H1 : (some (x271000_7, x271001_7, a1, true)) = some (r1, r2, r3, r4) := by rw [if_neg (show ¬ (false = true) by decide)] at H; exact H
                      clear H
                      have H := H1
                      clear H1
                      simp only [Option.some.injEq, Prod.mk.injEq] at H
                      obtain ⟨rfl, rfl, rfl, rfl⟩ := H
                      have hnb51 := NB270_271.out
                      have hnc51 := NB271_270.out
                      have hcz52_0 : wc.cell? ⟨gb270, 0, none⟩ = some (.bool x271000_7) := (blk_cell BK270.out 0).trans rfl
                      have hcz52_1 : wc.cell? ⟨gb270, 1, none⟩ = some (.bool x271001_7) := (blk_cell BK270.out 1).trans rfl
                      have hcz52_2 : wc.cell? ⟨gb270, 2, none⟩ = some (.int .i64 x271002_7) := (blk_cell BK270.out 2).trans rfl
                      have hcz52_3 : wc.cell? ⟨gb270, 3, none⟩ = some (.bool x271003_7) := (blk_cell BK270.out 3).trans rfl
                      have hfz52_0 := blk_frozen BK270.out 0
                      have hfz52_1 := blk_frozen BK270.out 1
                      have hfz52_2 := blk_frozen BK270.out 2
                      have hfz52_3 := blk_frozen BK270.out 3
                      have hcz53_0 : wc.cell? ⟨gb271, 0, none⟩ = some (.bool false) := (blk_cell BK271.out 0).trans rfl
                      have hcz53_1 : wc.cell? ⟨gb271, 1, none⟩ = some (.bool false) := (blk_cell BK271.out 1).trans rfl
                      have hcz53_2 : wc.cell? ⟨gb271, 2, none⟩ = some (.int .i64 0) := (blk_cell BK271.out 2).trans rfl
                      have hcz53_3 : wc.cell? ⟨gb271, 3, none⟩ = some (.bool false) := (blk_cell BK271.out 3).trans rfl
                      have hfz53_0 := blk_frozen BK271.out 0
                      have hfz53_1 := blk_frozen BK271.out 1
                      have hfz53_2 := blk_frozen BK271.out 2
                      have hfz53_3 := blk_frozen BK271.out 3
                      go_wp2
                      refine bodyPost_ret (results_cell_row rfl _ _ gb271 36 #[.bool x271000_7, .bool x271001_7, .int .i64 a1, .bool true] (0, 0) _ rfl (by (with_reducible repeat (first | refine blk_drewN ?_ _ | refine blk_drew ?_ | refine blk_alloc ?_ _)); refine blk_put (cs := #[.bool x271000_7, .bool x271001_7, .int .i64 a1, .bool false]) ?_ 3 _ rfl; (with_reducible repeat (first | refine blk_drewN ?_ _ | refine blk_drew ?_ | refine blk_alloc ?_ _)); refine blk_put (cs := #[.bool x271000_7, .bool x271001_7, .int .i64 0, .bool false]) ?_ 2 _ rfl; (with_reducible repeat (first | refine blk_drewN ?_ _ | refine blk_drew ?_ | refine blk_alloc ?_ _)); refine blk_put (cs := #[.bool x271000_7, .bool false, .int .i64 0, .bool false]) ?_ 1 _ rfl; (with_reducible repeat (first | refine blk_drewN ?_ _ | refine blk_drew ?_ | refine blk_alloc ?_ _)); refine blk_put (cs := #[.bool false, .bool false, .int .i64 0, .bool false]) ?_ 0 _ rfl; (with_reducible repeat (first | refine blk_drewN ?_ _ | refine blk_drew ?_ | refine blk_alloc ?_ _)); refine blk_far ?_ NB271_270.out _; (with_reducible repeat (first | refine blk_drewN ?_ _ | refine blk_drew ?_ | refine blk_alloc ?_ _)); refine blk_far ?_ NB271_270.out _; (with_reducible repeat (first | refine blk_drewN ?_ _ | refine blk_drew ?_ | refine blk_alloc ?_ _)); exact BK271.out) Try.underlying36 rfl (by kernel_rfl)) rfl ?_
                      exact ⟨by first | rfl | (simp [errW_none, errW_some] <;> rfl) | (simp [*, errW_none, errW_some] <;> rfl), by repeat (first | (with_reducible first | exact HB.out | apply below_alloc | apply pw_below_drewN | apply below_drew1 | refine below_set ?_ GE270.out | refine below_set ?_ GE271.out) | exact HB.out)⟩
                  · replace c46 := Bool.eq_false_iff.mpr c46
                    subst c46
                    have H1 : (if x271002_7 = 0 then (if x271000_7 = true then (some (x271000_7, x271001_7, x271002_7, x271003_7)) else (if a4 = true then (if a3 = true then (some (x271000_7, x271001_7, x271002_7, x271003_7)) else (some (x271000_7, true, a1, x271003_7))) else (some (x271000_7, x271001_7, x271002_7, x271003_7)))) else (some (x271000_7, x271001_7, x271002_7, x271003_7))) = some (r1, r2, r3, r4) := by rw [if_neg (show ¬ (false = true) by decide)] at H; exact H
                    clear H
                    have H := H1
                    clear H1
                    by_cases c54 : x271002_7 = 0
                    · rw [if_pos c54] at H
                      have c54b0 : (x271002_7 == 0) = true := beq_iff_eq.mpr c54
                      have c54b1 : (x271002_7 != 0) = false := bne_eq_false_iff_eq.mpr c54
                      clear c54
                      by_cases c55 : x271000_7 = true
                      · subst c55
                        have H1 : (some (true, x271001_7, x271002_7, x271003_7)) = some (r1, r2, r3, r4) := by rw [if_pos rfl] at H; exact H
                        clear H
                        have H := H1
                        clear H1
                        simp only [Option.some.injEq, Prod.mk.injEq] at H
                        obtain ⟨rfl, rfl, rfl, rfl⟩ := H
                        have hnb56 := NB270_271.out
                        have hnc56 := NB271_270.out
                        have hcz57_0 : wc.cell? ⟨gb270, 0, none⟩ = some (.bool true) := (blk_cell BK270.out 0).trans rfl
                        have hcz57_1 : wc.cell? ⟨gb270, 1, none⟩ = some (.bool x271001_7) := (blk_cell BK270.out 1).trans rfl
                        have hcz57_2 : wc.cell? ⟨gb270, 2, none⟩ = some (.int .i64 x271002_7) := (blk_cell BK270.out 2).trans rfl
                        have hcz57_3 : wc.cell? ⟨gb270, 3, none⟩ = some (.bool x271003_7) := (blk_cell BK270.out 3).trans rfl
                        have hfz57_0 := blk_frozen BK270.out 0
                        have hfz57_1 := blk_frozen BK270.out 1
                        have hfz57_2 := blk_frozen BK270.out 2
                        have hfz57_3 := blk_frozen BK270.out 3
                        have hcz58_0 : wc.cell? ⟨gb271, 0, none⟩ = some (.bool false) := (blk_cell BK271.out 0).trans rfl
                        have hcz58_1 : wc.cell? ⟨gb271, 1, none⟩ = some (.bool false) := (blk_cell BK271.out 1).trans rfl
                        have hcz58_2 : wc.cell? ⟨gb271, 2, none⟩ = some (.int .i64 0) := (blk_cell BK271.out 2).trans rfl
                        have hcz58_3 : wc.cell? ⟨gb271, 3, none⟩ = some (.bool false) := (blk_cell BK271.out 3).trans rfl
                        have hfz58_0 := blk_frozen BK271.out 0
                        have hfz58_1 := blk_frozen BK271.out 1
                        have hfz58_2 := blk_frozen BK271.out 2
                        have hfz58_3 := blk_frozen BK271.out 3
                        go_wp2
                        refine bodyPost_ret (results_cell_row rfl _ _ gb271 36 #[.bool true, .bool x271001_7, .int .i64 x271002_7, .bool x271003_7] (0, 0) _ rfl (by (with_reducible repeat (first | refine blk_drewN ?_ _ | refine blk_drew ?_ | refine blk_alloc ?_ _)); refine blk_put (cs := #[.bool true, .bool x271001_7, .int .i64 x271002_7, .bool false]) ?_ 3 _ rfl; (with_reducible repeat (first | refine blk_drewN ?_ _ | refine blk_drew ?_ | refine blk_alloc ?_ _)); refine blk_put (cs := #[.bool true, .bool x271001_7, .int .i64 0, .bool false]) ?_ 2 _ rfl; (with_reducible repeat (first | refine blk_drewN ?_ _ | refine blk_drew ?_ | refine blk_alloc ?_ _)); refine blk_put (cs := #[.bool true, .bool false, .int .i64 0, .bool false]) ?_ 1 _ rfl; (with_reducible repeat (first | refine blk_drewN ?_ _ | refine blk_drew ?_ | refine blk_alloc ?_ _)); refine blk_put (cs := #[.bool false, .bool false, .int .i64 0, .bool false]) ?_ 0 _ rfl; (with_reducible repeat (first | refine blk_drewN ?_ _ | refine blk_drew ?_ | refine blk_alloc ?_ _)); exact BK271.out) Try.underlying36 rfl (by kernel_rfl)) rfl ?_
                        exact ⟨by first | rfl | (simp [errW_none, errW_some] <;> rfl) | (simp [*, errW_none, errW_some] <;> rfl), by repeat (first | (with_reducible first | exact HB.out | apply below_alloc | apply pw_below_drewN | apply below_drew1 | refine below_set ?_ GE270.out | refine below_set ?_ GE271.out) | exact HB.out)⟩
                      · replace c55 := Bool.eq_false_iff.mpr c55
                        subst c55
                        have H1 : (if a4 = true then (if a3 = true then (some (false, x271001_7, x271002_7, x271003_7)) else (some (false, true, a1, x271003_7))) else (some (false, x271001_7, x271002_7, x271003_7))) = some (r1, r2, r3, r4) := by rw [if_neg (show ¬ (false = true) by decide)] at H; exact H
                        clear H
                        have H := H1
                        clear H1
                        by_cases c59 : a4 = true
                        · subst c59
                          have H1 : (if a3 = true then (some (false, x271001_7, x271002_7, x271003_7)) else (some (false, true, a1, x271003_7))) = some (r1, r2, r3, r4) := by rw [if_pos rfl] at H; exact H
                          clear H
                          have H := H1
                          clear H1
                          by_cases c60 : a3 = true
                          · subst c60
                            have H1 : (some (false, x271001_7, x271002_7, x271003_7)) = some (r1, r2, r3, r4) := by rw [if_pos rfl] at H; exact H
                            clear H
                            have H := H1
                            clear H1
                            simp only [Option.some.injEq, Prod.mk.injEq] at H
                            obtain ⟨rfl, rfl, rfl, rfl⟩ := H
                            have hnb61 := NB270_271.out
                            have hnc61 := NB271_270.out
                            have hcz62_0 : wc.cell? ⟨gb270, 0, none⟩ = some (.bool false) := (blk_cell BK270.out 0).trans rfl
                            have hcz62_1 : wc.cell? ⟨gb270, 1, none⟩ = some (.bool x271001_7) := (blk_cell BK270.out 1).trans rfl
                            have hcz62_2 : wc.cell? ⟨gb270, 2, none⟩ = some (.int .i64 x271002_7) := (blk_cell BK270.out 2).trans rfl
                            have hcz62_3 : wc.cell? ⟨gb270, 3, none⟩ = some (.bool x271003_7) := (blk_cell BK270.out 3).trans rfl
                            have hfz62_0 := blk_frozen BK270.out 0
                            have hfz62_1 := blk_frozen BK270.out 1
                            have hfz62_2 := blk_frozen BK270.out 2
                            have hfz62_3 := blk_frozen BK270.out 3
                            have hcz63_0 : wc.cell? ⟨gb271, 0, none⟩ = some (.bool false) := (blk_cell BK271.out 0).trans rfl
                            have hcz63_1 : wc.cell? ⟨gb271, 1, none⟩ = some (.bool false) := (blk_cell BK271.out 1).trans rfl
                            have hcz63_2 : wc.cell? ⟨gb271, 2, none⟩ = some (.int .i64 0) := (blk_cell BK271.out 2).trans rfl
                            have hcz63_3 : wc.cell? ⟨gb271, 3, none⟩ = some (.bool false) := (blk_cell BK271.out 3).trans rfl
                            have hfz63_0 := blk_frozen BK271.out 0
                            have hfz63_1 := blk_frozen BK271.out 1
                            have hfz63_2 := blk_frozen BK271.out 2
                            have hfz63_3 := blk_frozen BK271.out 3
                            go_wp2
                            refine bodyPost_ret (results_cell_row rfl _ _ gb271 36 #[.bool false, .bool x271001_7, .int .i64 x271002_7, .bool x271003_7] (0, 0) _ rfl (by (with_reducible repeat (first | refine blk_drewN ?_ _ | refine blk_drew ?_ | refine blk_alloc ?_ _)); refine blk_put (cs := #[.bool false, .bool x271001_7, .int .i64 x271002_7, .bool false]) ?_ 3 _ rfl; (with_reducible repeat (first | refine blk_drewN ?_ _ | refine blk_drew ?_ | refine blk_alloc ?_ _)); refine blk_put (cs := #[.bool false, .bool x271001_7, .int .i64 0, .bool false]) ?_ 2 _ rfl; (with_reducible repeat (first | refine blk_drewN ?_ _ | refine blk_drew ?_ | refine blk_alloc ?_ _)); refine blk_put (cs := #[.bool false, .bool false, .int .i64 0, .bool false]) ?_ 1 _ rfl; (with_reducible repeat (first | refine blk_drewN ?_ _ | refine blk_drew ?_ | refine blk_alloc ?_ _)); refine blk_put (cs := #[.bool false, .bool false, .int .i64 0, .bool false]) ?_ 0 _ rfl; (with_reducible repeat (first | refine blk_drewN ?_ _ | refine blk_drew ?_ | refine blk_alloc ?_ _)); exact BK271.out) Try.underlying36 rfl (by kernel_rfl)) rfl ?_
                            exact ⟨by first | rfl | (simp [errW_none, errW_some] <;> rfl) | (simp [*, errW_none, errW_some] <;> rfl), by repeat (first | (with_reducible first | exact HB.out | apply below_alloc | apply pw_below_drewN | apply below_drew1 | refine below_set ?_ GE270.out | refine below_set ?_ GE271.out) | exact HB.out)⟩
                          · replace c60 := Bool.eq_false_iff.mpr c60
                            subst c60
                            have H1 : (some (false, true, a1, x271003_7)) = some (r1, r2, r3, r4) := by rw [if_neg (show ¬ (false = true) by decide)] at H; exact H
                            clear H
                            have H := H1
                            clear H1
                            simp only [Option.some.injEq, Prod.mk.injEq] at H
                            obtain ⟨rfl, rfl, rfl, rfl⟩ := H
                            have hnb64 := NB270_271.out
                            have hnc64 := NB271_270.out
                            have hcz65_0 : wc.cell? ⟨gb270, 0, none⟩ = some (.bool false) := (blk_cell BK270.out 0).trans rfl
                            have hcz65_1 : wc.cell? ⟨gb270, 1, none⟩ = some (.bool x271001_7) := (blk_cell BK270.out 1).trans rfl
                            have hcz65_2 : wc.cell? ⟨gb270, 2, none⟩ = some (.int .i64 x271002_7) := (blk_cell BK270.out 2).trans rfl
                            have hcz65_3 : wc.cell? ⟨gb270, 3, none⟩ = some (.bool x271003_7) := (blk_cell BK270.out 3).trans rfl
                            have hfz65_0 := blk_frozen BK270.out 0
                            have hfz65_1 := blk_frozen BK270.out 1
                            have hfz65_2 := blk_frozen BK270.out 2
                            have hfz65_3 := blk_frozen BK270.out 3
                            have hcz66_0 : wc.cell? ⟨gb271, 0, none⟩ = some (.bool false) := (blk_cell BK271.out 0).trans rfl
                            have hcz66_1 : wc.cell? ⟨gb271, 1, none⟩ = some (.bool false) := (blk_cell BK271.out 1).trans rfl
                            have hcz66_2 : wc.cell? ⟨gb271, 2, none⟩ = some (.int .i64 0) := (blk_cell BK271.out 2).trans rfl
                            have hcz66_3 : wc.cell? ⟨gb271, 3, none⟩ = some (.bool false) := (blk_cell BK271.out 3).trans rfl
                            have hfz66_0 := blk_frozen BK271.out 0
                            have hfz66_1 := blk_frozen BK271.out 1
                            have hfz66_2 := blk_frozen BK271.out 2
                            have hfz66_3 := blk_frozen BK271.out 3
                            go_wp2
                            refine bodyPost_ret (results_cell_row rfl _ _ gb271 36 #[.bool false, .bool true, .int .i64 a1, .bool x271003_7] (0, 0) _ rfl (by (with_reducible repeat (first | refine blk_drewN ?_ _ | refine blk_drew ?_ | refine blk_alloc ?_ _)); refine blk_put (cs := #[.bool false, .bool true, .int .i64 a1, .bool false]) ?_ 3 _ rfl; (with_reducible repeat (first | refine blk_drewN ?_ _ | refine blk_drew ?_ | refine blk_alloc ?_ _)); refine blk_put (cs := #[.bool false, .bool true, .int .i64 0, .bool false]) ?_ 2 _ rfl; (with_reducible repeat (first | refine blk_drewN ?_ _ | refine blk_drew ?_ | refine blk_alloc ?_ _)); refine blk_put (cs := #[.bool false, .bool false, .int .i64 0, .bool false]) ?_ 1 _ rfl; (with_reducible repeat (first | refine blk_drewN ?_ _ | refine blk_drew ?_ | refine blk_alloc ?_ _)); refine blk_put (cs := #[.bool false, .bool false, .int .i64 0, .bool false]) ?_ 0 _ rfl; (with_reducible repeat (first | refine blk_drewN ?_ _ | refine blk_drew ?_ | refine blk_alloc ?_ _)); refine blk_far ?_ NB271_270.out _; (with_reducible repeat (first | refine blk_drewN ?_ _ | refine blk_drew ?_ | refine blk_alloc ?_ _)); refine blk_far ?_ NB271_270.out _; (with_reducible repeat (first | refine blk_drewN ?_ _ | refine blk_drew ?_ | refine blk_alloc ?_ _)); exact BK271.out) Try.underlying36 rfl (by kernel_rfl)) rfl ?_
                            exact ⟨by first | rfl | (simp [errW_none, errW_some] <;> rfl) | (simp [*, errW_none, errW_some] <;> rfl), by repeat (first | (with_reducible first | exact HB.out | apply below_alloc | apply pw_below_drewN | apply below_drew1 | refine below_set ?_ GE270.out | refine below_set ?_ GE271.out) | exact HB.out)⟩
                        · replace c59 := Bool.eq_false_iff.mpr c59
                          subst c59
                          have H1 : (some (false, x271001_7, x271002_7, x271003_7)) = some (r1, r2, r3, r4) := by rw [if_neg (show ¬ (false = true) by decide)] at H; exact H
                          clear H
                          have H := H1
                          clear H1
                          simp only [Option.some.injEq, Prod.mk.injEq] at H
                          obtain ⟨rfl, rfl, rfl, rfl⟩ := H
                          have hnb67 := NB270_271.out
                          have hnc67 := NB271_270.out
                          have hcz68_0 : wc.cell? ⟨gb270, 0, none⟩ = some (.bool false) := (blk_cell BK270.out 0).trans rfl
                          have hcz68_1 : wc.cell? ⟨gb270, 1, none⟩ = some (.bool x271001_7) := (blk_cell BK270.out 1).trans rfl
                          have hcz68_2 : wc.cell? ⟨gb270, 2, none⟩ = some (.int .i64 x271002_7) := (blk_cell BK270.out 2).trans rfl
                          have hcz68_3 : wc.cell? ⟨gb270, 3, none⟩ = some (.bool x271003_7) := (blk_cell BK270.out 3).trans rfl
                          have hfz68_0 := blk_frozen BK270.out 0
                          have hfz68_1 := blk_frozen BK270.out 1
                          have hfz68_2 := blk_frozen BK270.out 2
                          have hfz68_3 := blk_frozen BK270.out 3
                          have hcz69_0 : wc.cell? ⟨gb271, 0, none⟩ = some (.bool false) := (blk_cell BK271.out 0).trans rfl
                          have hcz69_1 : wc.cell? ⟨gb271, 1, none⟩ = some (.bool false) := (blk_cell BK271.out 1).trans rfl
                          have hcz69_2 : wc.cell? ⟨gb271, 2, none⟩ = some (.int .i64 0) := (blk_cell BK271.out 2).trans rfl
                          have hcz69_3 : wc.cell? ⟨gb271, 3, none⟩ = some (.bool false) := (blk_cell BK271.out 3).trans rfl
                          have hfz69_0 := blk_frozen BK271.out 0
                          have hfz69_1 := blk_frozen BK271.out 1
                          have hfz69_2 := blk_frozen BK271.out 2
                          have hfz69_3 := blk_frozen BK271.out 3
                          go_wp2
                          refine bodyPost_ret (results_cell_row rfl _ _ gb271 36 #[.bool false, .bool x271001_7, .int .i64 x271002_7, .bool x271003_7] (0, 0) _ rfl (by (with_reducible repeat (first | refine blk_drewN ?_ _ | refine blk_drew ?_ | refine blk_alloc ?_ _)); refine blk_put (cs := #[.bool false, .bool x271001_7, .int .i64 x271002_7, .bool false]) ?_ 3 _ rfl; (with_reducible repeat (first | refine blk_drewN ?_ _ | refine blk_drew ?_ | refine blk_alloc ?_ _)); refine blk_put (cs := #[.bool false, .bool x271001_7, .int .i64 0, .bool false]) ?_ 2 _ rfl; (with_reducible repeat (first | refine blk_drewN ?_ _ | refine blk_drew ?_ | refine blk_alloc ?_ _)); refine blk_put (cs := #[.bool false, .bool false, .int .i64 0, .bool false]) ?_ 1 _ rfl; (with_reducible repeat (first | refine blk_drewN ?_ _ | refine blk_drew ?_ | refine blk_alloc ?_ _)); refine blk_put (cs := #[.bool false, .bool false, .int .i64 0, .bool false]) ?_ 0 _ rfl; (with_reducible repeat (first | refine blk_drewN ?_ _ | refine blk_drew ?_ | refine blk_alloc ?_ _)); exact BK271.out) Try.underlying36 rfl (by kernel_rfl)) rfl ?_
                          exact ⟨by first | rfl | (simp [errW_none, errW_some] <;> rfl) | (simp [*, errW_none, errW_some] <;> rfl), by repeat (first | (with_reducible first | exact HB.out | apply below_alloc | apply pw_below_drewN | apply below_drew1 | refine below_set ?_ GE270.out | refine below_set ?_ GE271.out) | exact HB.out)⟩
                    · rw [if_neg c54] at H
                      have c54b0 : (x271002_7 == 0) = false := beq_eq_false_iff_ne.mpr c54
                      have c54b1 : (x271002_7 != 0) = true := bne_iff_ne.mpr c54
                      simp only [Option.some.injEq, Prod.mk.injEq] at H
                      obtain ⟨rfl, rfl, rfl, rfl⟩ := H
                      have hnb70 := NB270_271.out
                      have hnc70 := NB271_270.out
                      have hcz71_0 : wc.cell? ⟨gb270, 0, none⟩ = some (.bool x271000_7) := (blk_cell BK270.out 0).trans rfl
                      have hcz71_1 : wc.cell? ⟨gb270, 1, none⟩ = some (.bool x271001_7) := (blk_cell BK270.out 1).trans rfl
                      have hcz71_2 : wc.cell? ⟨gb270, 2, none⟩ = some (.int .i64 x271002_7) := (blk_cell BK270.out 2).trans rfl
                      have hcz71_3 : wc.cell? ⟨gb270, 3, none⟩ = some (.bool x271003_7) := (blk_cell BK270.out 3).trans rfl
                      have hfz71_0 := blk_frozen BK270.out 0
                      have hfz71_1 := blk_frozen BK270.out 1
                      have hfz71_2 := blk_frozen BK270.out 2
                      have hfz71_3 := blk_frozen BK270.out 3
                      have hcz72_0 : wc.cell? ⟨gb271, 0, none⟩ = some (.bool false) := (blk_cell BK271.out 0).trans rfl
                      have hcz72_1 : wc.cell? ⟨gb271, 1, none⟩ = some (.bool false) := (blk_cell BK271.out 1).trans rfl
                      have hcz72_2 : wc.cell? ⟨gb271, 2, none⟩ = some (.int .i64 0) := (blk_cell BK271.out 2).trans rfl
                      have hcz72_3 : wc.cell? ⟨gb271, 3, none⟩ = some (.bool false) := (blk_cell BK271.out 3).trans rfl
                      have hfz72_0 := blk_frozen BK271.out 0
                      have hfz72_1 := blk_frozen BK271.out 1
                      have hfz72_2 := blk_frozen BK271.out 2
                      have hfz72_3 := blk_frozen BK271.out 3
                      go_wp2
                      refine bodyPost_ret (results_cell_row rfl _ _ gb271 36 #[.bool x271000_7, .bool x271001_7, .int .i64 x271002_7, .bool x271003_7] (0, 0) _ rfl (by (with_reducible repeat (first | refine blk_drewN ?_ _ | refine blk_drew ?_ | refine blk_alloc ?_ _)); refine blk_put (cs := #[.bool x271000_7, .bool x271001_7, .int .i64 x271002_7, .bool false]) ?_ 3 _ rfl; (with_reducible repeat (first | refine blk_drewN ?_ _ | refine blk_drew ?_ | refine blk_alloc ?_ _)); refine blk_put (cs := #[.bool x271000_7, .bool x271001_7, .int .i64 0, .bool false]) ?_ 2 _ rfl; (with_reducible repeat (first | refine blk_drewN ?_ _ | refine blk_drew ?_ | refine blk_alloc ?_ _)); refine blk_put (cs := #[.bool x271000_7, .bool false, .int .i64 0, .bool false]) ?_ 1 _ rfl; (with_reducible repeat (first | refine blk_drewN ?_ _ | refine blk_drew ?_ | refine blk_alloc ?_ _)); refine blk_put (cs := #[.bool false, .bool false, .int .i64 0, .bool false]) ?_ 0 _ rfl; (with_reducible repeat (first | refine blk_drewN ?_ _ | refine blk_drew ?_ | refine blk_alloc ?_ _)); exact BK271.out) Try.underlying36 rfl (by kernel_rfl)) rfl ?_
                      exact ⟨by first | rfl | (simp [errW_none, errW_some] <;> rfl) | (simp [*, errW_none, errW_some] <;> rfl), by repeat (first | (with_reducible first | exact HB.out | apply below_alloc | apply pw_below_drewN | apply below_drew1 | refine below_set ?_ GE270.out | refine below_set ?_ GE271.out) | exact HB.out)⟩
  · replace c7 := Bool.eq_false_iff.mpr c7
    subst c7
    have H1 : (some (false, false, 0, false)) = some (r1, r2, r3, r4) := by rw [if_neg (show ¬ (false = true) by decide)] at H; exact H
    clear H
    have H := H1
    clear H1
    simp only [Option.some.injEq, Prod.mk.injEq] at H
    obtain ⟨rfl, rfl, rfl, rfl⟩ := H
    go_enter Try.func25, Try.ntmps25
    go_wp2_with (first | ((with_reducible refine gate_dst (N := 5) rfl ?_); refine box_event ?hg (N := 5) ?hd (cs := #[.bool a0_0, .bool a0_1, .int .i64 a0_2, .bool a0_3]) (t := 36) ?hr ?_; (case hd => rfl); (case hg => rfl); (case hr => first | (go_simp; done) | (go_simp; rfl)); intro gb270 hg w73 hbox hb; have n0_ := Aside0.mk (below_step (by repeat (first | (with_reducible first | exact HB.out | apply below_alloc | apply pw_below_drewN | apply below_drew1) | exact HB.out)) hb); have n1_ := Aside0.mk (hbox); have n2_ := Aside0.mk ((by rw [hg]; exact (below_size (by repeat (first | (with_reducible first | exact HB.out | apply below_alloc | apply pw_below_drewN | apply below_drew1) | exact HB.out))) : w.heap.size ≤ gb270)); have n3_ := Aside0.mk ((by rw [hg]; exact (below_size (by repeat (first | (with_reducible first | exact HB.out | apply below_alloc | apply pw_below_drewN | apply below_drew1) | exact HB.out))) : w.heap.size ≤ gb270)); clear HB; have HB := n0_; have BK270 := n1_; have GW270 := n2_; have GE270 := n3_; clear n0_ n1_ n2_ n3_; clear hb hbox hg) | ((with_reducible refine gate_dst (N := 10) rfl ?_); refine box_event ?hg (N := 10) ?hd (cs := #[.bool false, .bool false, .int .i64 0, .bool false]) (t := 36) ?hr ?_; (case hd => rfl); (case hg => rfl); (case hr => first | (go_simp; done) | (go_simp; rfl)); intro gb271 hg w74 hbox hb; have n0_ := Aside0.mk (blk_below (g := gb270) (o := .cells #[.bool a0_0, .bool a0_1, .int .i64 a0_2, .bool a0_3] 36 (0, 0)) (by (with_reducible repeat (first | refine blk_drewN ?_ _ | refine blk_drew ?_ | refine blk_alloc ?_ _)); exact BK270.out) hb); have n1_ := Aside0.mk (below_step (by repeat (first | (with_reducible first | exact HB.out | apply below_alloc | apply pw_below_drewN | apply below_drew1 | refine below_set ?_ GE270.out) | exact HB.out)) hb); have n2_ := Aside0.mk (hbox); have n3_ := Aside0.mk ((by rw [hg]; exact (below_size (by repeat (first | (with_reducible first | exact HB.out | apply below_alloc | apply pw_below_drewN | apply below_drew1 | refine below_set ?_ GE270.out) | exact HB.out))) : w.heap.size ≤ gb271)); have n4_ := Aside0.mk ((by rw [hg]; exact (below_size (by repeat (first | (with_reducible first | exact HB.out | apply below_alloc | apply pw_below_drewN | apply below_drew1 | refine below_set ?_ GE270.out) | exact HB.out))) : w.heap.size ≤ gb271)); have n5_ := Aside0.mk ((by rw [hg]; exact Nat.ne_of_lt (blk_lt (g := gb270) (o := .cells #[.bool a0_0, .bool a0_1, .int .i64 a0_2, .bool a0_3] 36 (0, 0)) (by (with_reducible repeat (first | refine blk_drewN ?_ _ | refine blk_drew ?_ | refine blk_alloc ?_ _)); exact BK270.out)) : gb270 ≠ gb271)); have n6_ := Aside0.mk ((by rw [hg]; exact Nat.ne_of_gt (blk_lt (g := gb270) (o := .cells #[.bool a0_0, .bool a0_1, .int .i64 a0_2, .bool a0_3] 36 (0, 0)) (by (with_reducible repeat (first | refine blk_drewN ?_ _ | refine blk_drew ?_ | refine blk_alloc ?_ _)); exact BK270.out)) : gb271 ≠ gb270)); clear BK270; clear HB; have BK270 := n0_; have HB := n1_; have BK271 := n2_; have GW271 := n3_; have GE271 := n4_; have NB270_271 := n5_; have NB271_270 := n6_; clear n0_ n1_ n2_ n3_ n4_ n5_ n6_; clear hb hbox hg; have hnb75 := NB270_271.out; have hnc75 := NB271_270.out; have hcz76_0 : w74.cell? ⟨gb270, 0, none⟩ = some (.bool a0_0) := (blk_cell BK270.out 0).trans rfl; have hcz76_1 : w74.cell? ⟨gb270, 1, none⟩ = some (.bool a0_1) := (blk_cell BK270.out 1).trans rfl; have hcz76_2 : w74.cell? ⟨gb270, 2, none⟩ = some (.int .i64 a0_2) := (blk_cell BK270.out 2).trans rfl; have hcz76_3 : w74.cell? ⟨gb270, 3, none⟩ = some (.bool a0_3) := (blk_cell BK270.out 3).trans rfl; have hfz76_0 := blk_frozen BK270.out 0; have hfz76_1 := blk_frozen BK270.out 1; have hfz76_2 := blk_frozen BK270.out 2; have hfz76_3 := blk_frozen BK270.out 3) | ((with_reducible refine gate_callee (f := 24) rfl ?_); refine goesL_ (some 13) rfl rfl Try.func24 (by kernel_rfl) rfl #[.agg #[.bool a0_0, .bool a0_1, .int .i64 a0_2, .bool a0_3], .int .i64 a1] rfl (by (try simp only [List.map_toArray, List.map_cons, List.map_nil]); first | done | rfl | (simp only [List.length_drop, List.length_take]; rfl)) ?_; (with_reducible refine (substationref29_ValidBreaker.calls k a0_0 a0_1 a0_2 a0_3 a1 false _ A6.out).mono ?_); rintro e w77 ⟨rfl, hb⟩; refine ⟨_, rfl, ?_⟩; have n0_ := Aside0.mk (blk_below (g := gb270) (o := .cells #[.bool a0_0, .bool a0_1, .int .i64 a0_2, .bool a0_3] 36 (0, 0)) (by (with_reducible repeat (first | refine blk_drewN ?_ _ | refine blk_drew ?_ | refine blk_alloc ?_ _)); exact BK270.out) hb); have n1_ := Aside0.mk (blk_below (g := gb271) (o := .cells #[.bool false, .bool false, .int .i64 0, .bool false] 36 (0, 0)) (by (with_reducible repeat (first | refine blk_drewN ?_ _ | refine blk_drew ?_ | refine blk_alloc ?_ _)); exact BK271.out) hb); have n2_ := Aside0.mk (below_step (by repeat (first | (with_reducible first | exact HB.out | apply below_alloc | apply pw_below_drewN | apply below_drew1 | refine below_set ?_ GE270.out | refine below_set ?_ GE271.out) | exact HB.out)) hb); clear BK270; clear BK271; clear HB; have BK270 := n0_; have BK271 := n1_; have HB := n2_; clear n0_ n1_ n2_; (try clear hb); (try clear hb2); (try clear hk); (try clear hi); have hcz78_0 : w77.cell? ⟨gb271, 0, none⟩ = some (.bool false) := (blk_cell BK271.out 0).trans rfl; have hcz78_1 : w77.cell? ⟨gb271, 1, none⟩ = some (.bool false) := (blk_cell BK271.out 1).trans rfl; have hcz78_2 : w77.cell? ⟨gb271, 2, none⟩ = some (.int .i64 0) := (blk_cell BK271.out 2).trans rfl; have hcz78_3 : w77.cell? ⟨gb271, 3, none⟩ = some (.bool false) := (blk_cell BK271.out 3).trans rfl; have hfz78_0 := blk_frozen BK271.out 0; have hfz78_1 := blk_frozen BK271.out 1; have hfz78_2 := blk_frozen BK271.out 2; have hfz78_3 := blk_frozen BK271.out 3))
    refine bodyPost_ret (results_cell_row rfl _ _ gb271 36 #[.bool false, .bool false, .int .i64 0, .bool false] (0, 0) _ rfl (by (with_reducible repeat (first | refine blk_drewN ?_ _ | refine blk_drew ?_ | refine blk_alloc ?_ _)); refine blk_put (cs := #[.bool false, .bool false, .int .i64 0, .bool false]) ?_ 3 _ rfl; (with_reducible repeat (first | refine blk_drewN ?_ _ | refine blk_drew ?_ | refine blk_alloc ?_ _)); refine blk_put (cs := #[.bool false, .bool false, .int .i64 0, .bool false]) ?_ 2 _ rfl; (with_reducible repeat (first | refine blk_drewN ?_ _ | refine blk_drew ?_ | refine blk_alloc ?_ _)); refine blk_put (cs := #[.bool false, .bool false, .int .i64 0, .bool false]) ?_ 1 _ rfl; (with_reducible repeat (first | refine blk_drewN ?_ _ | refine blk_drew ?_ | refine blk_alloc ?_ _)); refine blk_put (cs := #[.bool false, .bool false, .int .i64 0, .bool false]) ?_ 0 _ rfl; (with_reducible repeat (first | refine blk_drewN ?_ _ | refine blk_drew ?_ | refine blk_alloc ?_ _)); exact BK271.out) Try.underlying36 rfl (by kernel_rfl)) rfl ?_
    exact ⟨by first | rfl | (simp [errW_none, errW_some] <;> rfl) | (simp [*, errW_none, errW_some] <;> rfl), by repeat (first | (with_reducible first | exact HB.out | apply below_alloc | apply pw_below_drewN | apply below_drew1 | refine below_set ?_ GE270.out | refine below_set ?_ GE271.out) | exact HB.out)⟩

end Go.Proofs.Ytooeljgandaelaa.PAll
