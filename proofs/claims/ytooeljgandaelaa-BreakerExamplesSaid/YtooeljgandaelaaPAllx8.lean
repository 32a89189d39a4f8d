-- PRINTED BY print.sh 35421559b90ae4d0a3588c463048766b98c2df88dd9212a6774a882060cdf62d: not written by this session
import Derived.Test.YtooeljgandaelaaPAllx0
import Derived.Test.YtooeljgandaelaaPAllx1
import Derived.Test.YtooeljgandaelaaPAllx4
import Derived.Test.YtooeljgandaelaaPAllx5
import Derived.Test.YtooeljgandaelaaPAllx6
namespace Go.Proofs.Ytooeljgandaelaa.PAll
open Go.RowKit Go.Proofs.YtooeljgandaelaaW.PrintWords Go.Proofs.YtooeljgandaelaaW.PrintLast Go.Proofs.YtooeljgandaelaaW.PrintMore
attribute [local go_sem] max2_int min2_int max_two min_two max_three min_three max_four min_four   -- for this text's walks alone
set_option linter.unusedVariables false
set_option linter.unusedSimpArgs false

attribute [local go_sem high] eqA36
/-! ### breaker_Run: function 21 -/
mutual
def breaker_Run.j0 : Nat → Int → Bool → List Bool → List Bool → Bool → Bool → Bool → Int → Bool → Option ((List (S36)))
  | 0, _, _, _, _, _, _, _, _, _ => none
  | k + 1, x1, x2, x3, x4, x26, x199000, x199001, x199002, x199003 => if x26 = true then (some ([] : List (S36))) else (breaker_Run.l0 k x1 x2 x3 x4 ([] : List (S36)) (x3.length : Int) 0 x199000 x199001 x199002 x199003)
def breaker_Run.l0 : Nat → Int → Bool → List Bool → List Bool → List (S36) → Int → Int → Bool → Bool → Int → Bool → Option ((List (S36)))
  | 0, _, _, _, _, _, _, _, _, _, _, _ => none
  | k + 1, x1, x2, x3, x4, x12, x28, x29, x199000, x199001, x199002, x199003 => if x29 < x28 then (if 0 ≤ x29 then (if x29 < (x3.length : Int) then (if x29 < (x4.length : Int) then ((breaker_Step.f k x199000 x199001 x199002 x199003 x1 x2 (rdOf false x3 x29) (rdOf false x4 x29)).bind fun bt202 => (if x12.length < 5864062014805 then (breaker_Run.l0 k x1 x2 x3 x4 (x12 ++ [(⟨bt202.1, bt202.2.1, bt202.2.2.1, bt202.2.2.2⟩ : S36)]) x28 (wrap64 (x29 + 1)) bt202.1 bt202.2.1 bt202.2.2.1 bt202.2.2.2) else (none))) else (none)) else (none)) else (none)) else (some x12)
end
def breaker_Run.f (k : Nat) (a0 : Bool) (a1 : Int) (a2 : Bool) (l3 : List Bool) (l4 : List Bool) : Option ((List (S36))) := (breaker_New.f a0).bind fun bt194 => ((breaker_Valid.f k bt194.1 bt194.2.1 bt194.2.2.1 bt194.2.2.2 a1).bind fun t199 => (if t199 = true then (breaker_Run.j0 k a1 a2 l3 l4 ((l3.length : Int) != (l4.length : Int)) bt194.1 bt194.2.1 bt194.2.2.1 bt194.2.2.2) else (breaker_Run.j0 k a1 a2 l3 l4 true bt194.1 bt194.2.1 bt194.2.2.1 bt194.2.2.2)))
theorem breaker_Run.mono_l : ∀ k, (∀ y0 y1 y2 y3 y4 y5 y6 y7 y8, LeO (breaker_Run.j0 k y0 y1 y2 y3 y4 y5 y6 y7 y8) (breaker_Run.j0 (k + 1) y0 y1 y2 y3 y4 y5 y6 y7 y8)) ∧ (∀ y0 y1 y2 y3 y4 y5 y6 y7 y8 y9 y10, LeO (breaker_Run.l0 k y0 y1 y2 y3 y4 y5 y6 y7 y8 y9 y10) (breaker_Run.l0 (k + 1) y0 y1 y2 y3 y4 y5 y6 y7 y8 y9 y10))
  | 0 => ⟨fun _ _ _ _ _ _ _ _ _ r h => by simp [breaker_Run.j0] at h, fun _ _ _ _ _ _ _ _ _ _ _ r h => by simp [breaker_Run.l0] at h⟩
  | k + 1 => by
    obtain ⟨ih0, ih1⟩ := breaker_Run.mono_l k
    refine ⟨?_, ?_⟩
    · intro y0 y1 y2 y3 y4 y5 y6 y7 y8
      unfold breaker_Run.j0
      repeat' first
      | (with_reducible exact ih0 _ _ _ _ _ _ _ _ _)
      | (with_reducible exact ih1 _ _ _ _ _ _ _ _ _ _ _)
      | (with_reducible exact breaker_Step.mono _ _ _ _ _ _ _ _ _)
      | (with_reducible exact breaker_Valid.mono _ _ _ _ _ _)
      | (with_reducible exact LeO.refl _)
      | (with_reducible exact LeO.none _)
      | (with_reducible refine LeO.ite ?_ ?_)
      | (with_reducible refine LeO.bind ?_ (fun _ => ?_))
      | exact ih0 _ _ _ _ _ _ _ _ _
      | exact ih1 _ _ _ _ _ _ _ _ _ _ _
      | exact breaker_Step.mono _ _ _ _ _ _ _ _ _
      | exact breaker_Valid.mono _ _ _ _ _ _
      | exact LeO.none _
      | refine LeO.ite ?_ ?_
      | refine LeO.bind ?_ (fun _ => ?_)
    · intro y0 y1 y2 y3 y4 y5 y6 y7 y8 y9 y10
      unfold breaker_Run.l0
      repeat' first
      | (with_reducible exact ih0 _ _ _ _ _ _ _ _ _)
      | (with_reducible exact ih1 _ _ _ _ _ _ _ _ _ _ _)
      | (with_reducible exact breaker_Step.mono _ _ _ _ _ _ _ _ _)
      | (with_reducible exact breaker_Valid.mono _ _ _ _ _ _)
      | (with_reducible exact LeO.refl _)
      | (with_reducible exact LeO.none _)
      | (with_reducible refine LeO.ite ?_ ?_)
      | (with_reducible refine LeO.bind ?_ (fun _ => ?_))
      | exact ih0 _ _ _ _ _ _ _ _ _
      | exact ih1 _ _ _ _ _ _ _ _ _ _ _
      | exact breaker_Step.mono _ _ _ _ _ _ _ _ _
      | exact breaker_Valid.mono _ _ _ _ _ _
      | exact LeO.none _
      | refine LeO.ite ?_ ?_
      | refine LeO.bind ?_ (fun _ => ?_)
theorem breaker_Run.mono : ∀ a0 a1 a2 a3 a4 k, LeO (breaker_Run.f k a0 a1 a2 a3 a4) (breaker_Run.f (k + 1) a0 a1 a2 a3 a4) := by
  intro a0 a1 a2 a3 a4 k
  obtain ⟨ih0, ih1⟩ := breaker_Run.mono_l k
  unfold breaker_Run.f
  repeat' first
      | (with_reducible exact ih0 _ _ _ _ _ _ _ _ _)
      | (with_reducible exact ih1 _ _ _ _ _ _ _ _ _ _ _)
      | (with_reducible exact breaker_Step.mono _ _ _ _ _ _ _ _ _)
      | (with_reducible exact breaker_Valid.mono _ _ _ _ _ _)
      | (with_reducible exact LeO.refl _)
      | (with_reducible exact LeO.none _)
      | (with_reducible refine LeO.ite ?_ ?_)
      | (with_reducible refine LeO.bind ?_ (fun _ => ?_))
      | exact ih0 _ _ _ _ _ _ _ _ _
      | exact ih1 _ _ _ _ _ _ _ _ _ _ _
      | exact breaker_Step.mono _ _ _ _ _ _ _ _ _
      | exact breaker_Valid.mono _ _ _ _ _ _
      | exact LeO.none _
      | refine LeO.ite ?_ ?_
      | refine LeO.bind ?_ (fun _ => ?_)
def breaker_Run.T8 : Bool × List (List Nat × List Nat) := (true, [([], []), ([], []), ([], []), ([], []), ([], []), ([3, 4], [3, 4]), ([5], [5]), ([], []), ([], []), ([7, 8], [7, 8]), ([9], [9]), ([0, 1, 2, 6, 10], [0, 1, 2, 6, 10]), ([11, 11, 0, 1, 2, 3, 4, 5, 6, 7, 8, 9, 10, 11], [11])])
def breaker_Run.B8 : List Nat := [0, 0, 0, 0, 0, 24, 56, 0, 0, 384, 896, 2047, 4095]
theorem breaker_Run.tab8 : rtab .any (opsOf Try.f21 8) = breaker_Run.T8 := by kernel_rfl
theorem breaker_Run.bits8 : waitsOk breaker_Run.T8.2 breaker_Run.B8 = true := by kernel_rfl
set_option maxHeartbeats 8000000 in
set_option maxRecDepth 100000 in
theorem breaker_Run.calls (k : Nat) (a0 : Bool) (a1 : Int) (a2 : Bool) (A3 : Option Addr) (c3 : Nat) (l3 : List Bool) (A4 : Option Addr) (c4 : Nat) (l4 : List Bool) (r : List (S36)) (w : World) (hr3 : Kd.C Kd.bool w A3 l3.length l3) (hc3 : l3.length ≤ c3) (hr4 : Kd.C Kd.bool w A4 l4.length l4) (hc4 : l4.length ≤ c4) (h : breaker_Run.f k a0 a1 a2 l3 l4 = some r) :
    Calls Try.prog 21 #[.bool a0, .int .i64 a1, .bool a2, .slice A3 l3.length c3, .slice A4 l4.length c4] w fun e w' => ∃ v0_ : Value, e = .returned (v0_) ∧ Kd.R k36 36 w' w.heap.size (fun _ => True) v0_ r ∧ Below w.heap.size w w' := by
  have hu36 := Try.underlying36
  have HR3 := Aside0.mk hr3
  have HC3 := Aside0.mk hc3
  clear hr3 hc3
  have HR4 := Aside0.mk hr4
  have HC4 := Aside0.mk hc4
  clear hr4 hc4
  have HB := Aside0.mk (Below.refl w.heap.size w)
  have H : ((breaker_New.f a0).bind fun bt194 => ((breaker_Valid.f k bt194.1 bt194.2.1 bt194.2.2.1 bt194.2.2.2 a1).bind fun t199 => (if t199 = true then (breaker_Run.j0 k a1 a2 l3 l4 ((l3.length : Int) != (l4.length : Int)) bt194.1 bt194.2.1 bt194.2.2.1 bt194.2.2.2) else (breaker_Run.j0 k a1 a2 l3 l4 true bt194.1 bt194.2.1 bt194.2.2.1 bt194.2.2.2)))) = some r := h
  clear h
  replace H := Option.bind_eq_some_iff.mp H
  obtain ⟨⟨t194, t195, t196, t197⟩, A60, H⟩ := H
  replace H : ((breaker_Valid.f k t194 t195 t196 t197 a1).bind fun t199 => (if t199 = true then (breaker_Run.j0 k a1 a2 l3 l4 ((l3.length : Int) != (l4.length : Int)) t194 t195 t196 t197) else (breaker_Run.j0 k a1 a2 l3 l4 true t194 t195 t196 t197))) = some r := H
  have A6 := Aside0.mk A60
  clear A60
  have HC7 := Aside0.mk H
  clear H
  go_enter Try.func21, Try.ntmps21
  go_upto_region 2 with (first | ((with_reducible refine gate_callee (f := 19) rfl ?_); refine goesL_ (some 15) rfl rfl Try.func19 (by kernel_rfl) rfl #[.bool a0] rfl (by (try simp only [List.map_toArray, List.map_cons, List.map_nil]); first | done | rfl | (simp only [List.length_drop, List.length_take]; rfl)) ?_; (with_reducible refine (breaker_New.calls a0 t194 t195 t196 t197 _ A6.out).mono ?_); rintro e w8 ⟨rfl, hb⟩; refine ⟨_, rfl, ?_⟩; have n0_ := Aside0.mk (below_step (by repeat (first | (with_reducible first | exact HB.out | apply below_alloc | apply pw_below_drewN | apply below_drew1) | exact HB.out)) hb); clear HB; have HB := n0_; clear n0_; (try clear hb); (try clear hb2); (try clear hk); (try clear hi)) | ((with_reducible refine gate_dst (N := 11) rfl ?_); (try (refine gate_guard (by rfl) ?_; dsimp only)); refine box_event ?hg (N := 11) ?hd (cs := #[.bool false, .bool false, .int .i64 0, .bool false]) (t := 36) ?hr ?_; (case hd => rfl); (case hg => rfl); (case hr => first | (go_simp; done) | (go_simp; rfl)); intro gb198 hg w9 hbox hb; have n0_ := Aside0.mk (below_step (by repeat (first | (with_reducible first | exact HB.out | apply below_alloc | apply pw_below_drewN | apply below_drew1) | exact HB.out)) hb); have n1_ := Aside0.mk (hbox); have n2_ := Aside0.mk ((by rw [hg]; exact (below_size (by repeat (first | (with_reducible first | exact HB.out | apply below_alloc | apply pw_below_drewN | apply below_drew1) | exact HB.out))) : w.heap.size ≤ gb198)); have n3_ := Aside0.mk ((by rw [hg]; exact (below_size (by repeat (first | (with_reducible first | exact HB.out | apply below_alloc | apply pw_below_drewN | apply below_drew1) | exact HB.out))) : w.heap.size ≤ gb198)); clear HB; have HB := n0_; have BK198 := n1_; have GW198 := n2_; have GE198 := n3_; clear n0_ n1_ n2_ n3_; clear hb hbox hg; have hcz10_0 : w9.cell? ⟨gb198, 0, none⟩ = some (.bool false) := (blk_cell BK198.out 0).trans rfl; have hcz10_1 : w9.cell? ⟨gb198, 1, none⟩ = some (.bool false) := (blk_cell BK198.out 1).trans rfl; have hcz10_2 : w9.cell? ⟨gb198, 2, none⟩ = some (.int .i64 0) := (blk_cell BK198.out 2).trans rfl; have hcz10_3 : w9.cell? ⟨gb198, 3, none⟩ = some (.bool false) := (blk_cell BK198.out 3).trans rfl; have hfz10_0 := blk_frozen BK198.out 0; have hfz10_1 := blk_frozen BK198.out 1; have hfz10_2 := blk_frozen BK198.out 2; have hfz10_3 := blk_frozen BK198.out 3))
  (try simp only [Act.put, List.setIfInBounds_toArray, List.set_cons_zero, List.set_cons_succ])
  go_cut [26] (fun v26 wc => ∃ (kq : Nat) (x26_6 : Bool), v26 = .bool x26_6 ∧ Aside0 (breaker_Run.j0 kq a1 a2 l3 l4 x26_6 t194 t195 t196 t197 = some r) ∧ Aside0 (kq ≤ k) ∧ Aside0 (wc.heap[gb198]? = some (.cells #[.bool t194, .bool t195, .int .i64 t196, .bool t197] 36 (0, 0))) ∧ Aside0 (Below w.heap.size w wc))
  case first =>
    have H := HC7.out
    clear HC7
    replace H := Option.bind_eq_some_iff.mp H
    obtain ⟨t199, A110, H⟩ := H
    replace H : (if t199 = true then (breaker_Run.j0 k a1 a2 l3 l4 ((l3.length : Int) != (l4.length : Int)) t194 t195 t196 t197) else (breaker_Run.j0 k a1 a2 l3 l4 true t194 t195 t196 t197)) = some r := H
    have A11 := Aside0.mk A110
    clear A110
    by_cases c12 : t199 = true
    · subst c12
      have H1 : (breaker_Run.j0 k a1 a2 l3 l4 ((l3.length : Int) != (l4.length : Int)) t194 t195 t196 t197) = some r := by rw [if_pos rfl] at H; exact H
      clear H
      have H := H1
      clear H1
      have H' := Aside0.mk H
      clear H
      have hcz13_0 : w9.cell? ⟨gb198, 0, none⟩ = some (.bool false) := (blk_cell BK198.out 0).trans rfl
      have hcz13_1 : w9.cell? ⟨gb198, 1, none⟩ = some (.bool false) := (blk_cell BK198.out 1).trans rfl
      have hcz13_2 : w9.cell? ⟨gb198, 2, none⟩ = some (.int .i64 0) := (blk_cell BK198.out 2).trans rfl
      have hcz13_3 : w9.cell? ⟨gb198, 3, none⟩ = some (.bool false) := (blk_cell BK198.out 3).trans rfl
      have hfz13_0 := blk_frozen BK198.out 0
      have hfz13_1 := blk_frozen BK198.out 1
      have hfz13_2 := blk_frozen BK198.out 2
      have hfz13_3 := blk_frozen BK198.out 3
      go_wp2_with (first | ((with_reducible refine gate_callee (f := 23) rfl ?_); refine goesL_ (some 18) rfl rfl Try.func23 (by kernel_rfl) rfl #[.agg #[.bool t194, .bool t195, .int .i64 t196, .bool t197], .int .i64 a1] rfl (by (try simp only [List.map_toArray, List.map_cons, List.map_nil]); first | done | rfl | (simp only [List.length_drop, List.length_take]; rfl)) ?_; (with_reducible refine (breaker_Valid.calls k t194 t195 t196 t197 a1 true _ A11.out).mono ?_); rintro e w14 ⟨rfl, hb⟩; refine ⟨_, rfl, ?_⟩; have n0_ := Aside0.mk (blk_below (g := gb198) (o := .cells #[.bool t194, .bool t195, .int .i64 t196, .bool t197] 36 (0, 0)) (by (with_reducible repeat (first | refine blk_drewN ?_ _ | refine blk_drew ?_ | refine blk_alloc ?_ _)); refine blk_put (cs := #[.bool t194, .bool t195, .int .i64 t196, .bool false]) ?_ 3 _ rfl; (with_reducible repeat (first | refine blk_drewN ?_ _ | refine blk_drew ?_ | refine blk_alloc ?_ _)); refine blk_put (cs := #[.bool t194, .bool t195, .int .i64 0, .bool false]) ?_ 2 _ rfl; (with_reducible repeat (first | refine blk_drewN ?_ _ | refine blk_drew ?_ | refine blk_alloc ?_ _)); refine blk_put (cs := #[.bool t194, .bool false, .int .i64 0, .bool false]) ?_ 1 _ rfl; (with_reducible repeat (first | refine blk_drewN ?_ _ | refine blk_drew ?_ | refine blk_alloc ?_ _)); refine blk_put (cs := #[.bool false, .bool false, .int .i64 0, .bool false]) ?_ 0 _ rfl; (with_reducible repeat (first | refine blk_drewN ?_ _ | refine blk_drew ?_ | refine blk_alloc ?_ _)); exact BK198.out) hb); have n1_ := Aside0.mk (below_step (by repeat (first | (with_reducible first | exact HB.out | apply below_alloc | apply pw_below_drewN | apply below_drew1 | refine below_set ?_ GE198.out) | exact HB.out)) hb); clear BK198; clear HB; have BK198 := n0_; have HB := n1_; clear n0_ n1_; (try clear hb); (try clear hb2); (try clear hk); (try clear hi)))
      go_meet
      case rel => exact ⟨_, (((l3.length : Int) != (l4.length : Int))), (by first | rfl | (simp; done) | (simp [*]; done)), H', ⟨by first | omega | exact Nat.le_refl _⟩, ⟨by (with_reducible repeat (first | refine blk_drewN ?_ _ | refine blk_drew ?_ | refine blk_alloc ?_ _)); exact BK198.out⟩, ⟨by repeat (first | (with_reducible first | exact HB.out | apply below_alloc | apply pw_below_drewN | apply below_drew1 | refine below_set ?_ GE198.out) | exact HB.out)⟩⟩
    · replace c12 := Bool.eq_false_iff.mpr c12
      subst c12
      have H1 : (breaker_Run.j0 k a1 a2 l3 l4 true t194 t195 t196 t197) = some r := by rw [if_neg (show ¬ (false = true) by decide)] at H; exact H
      clear H
      have H := H1
      clear H1
      have H' := Aside0.mk H
      clear H
      have hcz15_0 : w9.cell? ⟨gb198, 0, none⟩ = some (.bool false) := (blk_cell BK198.out 0).trans rfl
      have hcz15_1 : w9.cell? ⟨gb198, 1, none⟩ = some (.bool false) := (blk_cell BK198.out 1).trans rfl
      have hcz15_2 : w9.cell? ⟨gb198, 2, none⟩ = some (.int .i64 0) := (blk_cell BK198.out 2).trans rfl
      have hcz15_3 : w9.cell? ⟨gb198, 3, none⟩ = some (.bool false) := (blk_cell BK198.out 3).trans rfl
      have hfz15_0 := blk_frozen BK198.out 0
      have hfz15_1 := blk_frozen BK198.out 1
      have hfz15_2 := blk_frozen BK198.out 2
      have hfz15_3 := blk_frozen BK198.out 3
      go_wp2_with (first | ((with_reducible refine gate_callee (f := 23) rfl ?_); refine goesL_ (some 18) rfl rfl Try.func23 (by kernel_rfl) rfl #[.agg #[.bool t194, .bool t195, .int .i64 t196, .bool t197], .int .i64 a1] rfl (by (try simp only [List.map_toArray, List.map_cons, List.map_nil]); first | done | rfl | (simp only [List.length_drop, List.length_take]; rfl)) ?_; (with_reducible refine (breaker_Valid.calls k t194 t195 t196 t197 a1 false _ A11.out).mono ?_); rintro e w16 ⟨rfl, hb⟩; refine ⟨_, rfl, ?_⟩; have n0_ := Aside0.mk (blk_below (g := gb198) (o := .cells #[.bool t194, .bool t195, .int .i64 t196, .bool t197] 36 (0, 0)) (by (with_reducible repeat (first | refine blk_drewN ?_ _ | refine blk_drew ?_ | refine blk_alloc ?_ _)); refine blk_put (cs := #[.bool t194, .bool t195, .int .i64 t196, .bool false]) ?_ 3 _ rfl; (with_reducible repeat (first | refine blk_drewN ?_ _ | refine blk_drew ?_ | refine blk_alloc ?_ _)); refine blk_put (cs := #[.bool t194, .bool t195, .int .i64 0, .bool false]) ?_ 2 _ rfl; (with_reducible repeat (first | refine blk_drewN ?_ _ | refine blk_drew ?_ | refine blk_alloc ?_ _)); refine blk_put (cs := #[.bool t194, .bool false, .int .i64 0, .bool false]) ?_ 1 _ rfl; (with_reducible repeat (first | refine blk_drewN ?_ _ | refine blk_drew ?_ | refine blk_alloc ?_ _)); refine blk_put (cs := #[.bool false, .bool false, .int .i64 0, .bool false]) ?_ 0 _ rfl; (with_reducible repeat (first | refine blk_drewN ?_ _ | refine blk_drew ?_ | refine blk_alloc ?_ _)); exact BK198.out) hb); have n1_ := Aside0.mk (below_step (by repeat (first | (with_reducible first | exact HB.out | apply below_alloc | apply pw_below_drewN | apply below_drew1 | refine below_set ?_ GE198.out) | exact HB.out)) hb); clear BK198; clear HB; have BK198 := n0_; have HB := n1_; clear n0_ n1_; (try clear hb); (try clear hb2); (try clear hk); (try clear hi)))
      go_meet
      case rel => exact ⟨_, (true), (by first | rfl | (simp; done) | (simp [*]; done)), H', ⟨by first | omega | exact Nat.le_refl _⟩, ⟨by (with_reducible repeat (first | refine blk_drewN ?_ _ | refine blk_drew ?_ | refine blk_alloc ?_ _)); exact BK198.out⟩, ⟨by repeat (first | (with_reducible first | exact HB.out | apply below_alloc | apply pw_below_drewN | apply below_drew1 | refine below_set ?_ GE198.out) | exact HB.out)⟩⟩
  case rest =>
    clear HC7
    try clear c1
    try clear c2
    try clear p2
    try clear c3
    try clear c4
    try clear c12
    try clear hcz10_0
    try clear hcz10_1
    try clear hcz10_2
    try clear hcz10_3
    try clear hcz13_0
    try clear hcz13_1
    try clear hcz13_2
    try clear hcz13_3
    try clear hcz15_0
    try clear hcz15_1
    try clear hcz15_2
    try clear hcz15_3
    try clear hfz10_0
    try clear hfz10_1
    try clear hfz10_2
    try clear hfz10_3
    try clear hfz13_0
    try clear hfz13_1
    try clear hfz13_2
    try clear hfz13_3
    try clear hfz15_0
    try clear hfz15_1
    try clear hfz15_2
    try clear hfz15_3
    obtain ⟨kq, x26_6, rfl, HA, HJ6, BK198, HB⟩ := hcut
    cases kq with
    | zero => exact absurd HA.out (by simp [breaker_Run.j0])
    | succ kj6 =>
      have H := HA.out
      clear HA
      simp only [breaker_Run.j0] at H
      by_cases c17 : x26_6 = true
      · subst c17
        have H1 : (some ([] : List (S36))) = some r := by rw [if_pos rfl] at H; exact H
        clear H
        have H := H1
        clear H1
        obtain rfl := Option.some.inj H
        go_wp2
        go_ret
        exact ⟨_, by first | rfl | (simp [errW_none, errW_some] <;> rfl) | (simp [*, errW_none, errW_some] <;> rfl), by first | exact Kd.R_nil _ _ _ _ _ | exact Kd.N_nil _ _ _ _ _ | exact Kd.V_nil _ _ _ _ _ | exact Kd.Q_nil _ _ _ _ _ | exact Kd.S_nil _ _ _ _ _, by repeat (first | (with_reducible first | exact HB.out | apply below_alloc | apply pw_below_drewN | apply below_drew1 | refine below_set ?_ GE198.out) | exact HB.out)⟩
      · replace c17 := Bool.eq_false_iff.mpr c17
        subst c17
        have H1 : (breaker_Run.l0 kj6 a1 a2 l3 l4 ([] : List (S36)) (l3.length : Int) 0 t194 t195 t196 t197) = some r := by rw [if_neg (show ¬ (false = true) by decide)] at H; exact H
        clear H
        have H := H1
        clear H1
        have H' := Aside0.mk H
        clear H
        go_wp2
        go_loopg [12, 29] kj6 (fun kq v12 v29 w' => ∃ (x12_2 : List (S36)) (x29_2 : Int) (x199000_2 : Bool) (x199001_2 : Bool) (x199002_2 : Int) (x199003_2 : Bool), v29 = .int .i64 x29_2 ∧ Aside0 (breaker_Run.l0 kq a1 a2 l3 l4 x12_2 (l3.length : Int) x29_2 x199000_2 x199001_2 x199002_2 x199003_2 = some r) ∧ Aside0 (kq ≤ kj6) ∧ Aside0 (Kd.R k36 36 w' w.heap.size (fun k_ => k_ ≠ gb198) v12 x12_2) ∧ Aside0 (w'.heap[gb198]? = some (.cells #[.bool x199000_2, .bool x199001_2, .int .i64 x199002_2, .bool x199003_2] 36 (0, 0))) ∧ Aside0 (Below w.heap.size w w'))
        case atStart => exact ⟨(([] : List (S36))), (0), (t194), (t195), (t196), (t197), (by first | rfl | (simp; done) | (simp [*]; done)), H', ⟨Nat.le_refl _⟩, ⟨by first | exact Kd.R_nil _ _ _ _ _ | exact Kd.N_nil _ _ _ _ _ | exact Kd.V_nil _ _ _ _ _ | exact Kd.Q_nil _ _ _ _ _ | exact Kd.S_nil _ _ _ _ _⟩, ⟨by (with_reducible repeat (first | refine blk_drewN ?_ _ | refine blk_drew ?_ | refine blk_alloc ?_ _)); exact BK198.out⟩, ⟨by repeat (first | (with_reducible first | exact HB.out | apply below_alloc | apply pw_below_drewN | apply below_drew1 | refine below_set ?_ GE198.out) | exact HB.out)⟩⟩
        case round =>
          clear H'
          try clear c1
          try clear c2
          try clear p2
          try clear c3
          try clear c4
          try clear c12
          try clear c17
          try clear hcz10_0
          try clear hcz10_1
          try clear hcz10_2
          try clear hcz10_3
          try clear hcz13_0
          try clear hcz13_1
          try clear hcz13_2
          try clear hcz13_3
          try clear hcz15_0
          try clear hcz15_1
          try clear hcz15_2
          try clear hcz15_3
          try clear hfz10_0
          try clear hfz10_1
          try clear hfz10_2
          try clear hfz10_3
          try clear hfz13_0
          try clear hfz13_1
          try clear hfz13_2
          try clear hfz13_3
          try clear hfz15_0
          try clear hfz15_1
          try clear hfz15_2
          try clear hfz15_3
          try clear p2
          obtain ⟨x12_2, x29_2, x199000_2, x199001_2, x199002_2, x199003_2, rfl, HA, HK2, HO_12, BK198, HB⟩ := hrel
          cases gk with
          | zero => exact absurd HA.out (by simp [breaker_Run.l0])
          | succ k2 =>
            have H := HA.out
            clear HA
            simp only [breaker_Run.l0] at H
            by_cases c18 : x29_2 < (l3.length : Int)
            · rw [if_pos c18] at H
              have c18b0 : decide (x29_2 < (l3.length : Int)) = true := decide_eq_true c18
              clear c18
              by_cases c19 : 0 ≤ x29_2
              · rw [if_pos c19] at H
                have c19b0 : decide (0 ≤ x29_2) = true := decide_eq_true c19
                clear c19
                by_cases c20 : x29_2 < (l3.length : Int)
                · rw [if_pos c20] at H
                  have c20b0 : decide (x29_2 < (l3.length : Int)) = true := decide_eq_true c20
                  clear c20
                  by_cases c21 : x29_2 < (l4.length : Int)
                  · rw [if_pos c21] at H
                    have c21b0 : decide (x29_2 < (l4.length : Int)) = true := decide_eq_true c21
                    clear c21
                    replace H := Option.bind_eq_some_iff.mp H
                    obtain ⟨⟨t202, t203, t204, t205⟩, A220, H⟩ := H
                    replace H : (if x12_2.length < 5864062014805 then (breaker_Run.l0 k2 a1 a2 l3 l4 (x12_2 ++ [(⟨t202, t203, t204, t205⟩ : S36)]) (l3.length : Int) (wrap64 (x29_2 + 1)) t202 t203 t204 t205) else (none)) = some r := H
                    have A22 := Aside0.mk A220
                    clear A220
                    by_cases c23 : x12_2.length < 5864062014805
                    · rw [if_pos c23] at H
                      have LMc23 := Aside0.mk c23
                      clear c23
                      obtain ⟨y206, hy206⟩ : ∃ y_ : List (S36), y_ = (x12_2 ++ [(⟨t202, t203, t204, t205⟩ : S36)]) := ⟨_, rfl⟩
                      replace H : (breaker_Run.l0 k2 a1 a2 l3 l4 y206 (l3.length : Int) (wrap64 (x29_2 + 1)) t202 t203 t204 t205) = some r := by first | (rw [hy206]; with_reducible exact H) | (have H2_ := (Option.bind_some _ _).symm.trans H; rw [hy206]; with_reducible exact H2_) | (have H2_ := (Option.bind_some _ _).symm.trans H; with_reducible exact H2_) | with_reducible exact H | (rw [hy206]; exact H) | exact H
                      have Ny206 := Aside0.mk hy206
                      clear hy206
                      have H' := Aside0.mk H
                      clear H
                      try go_wp2
                      have n0_ := Aside0.mk (Kd.R_drew HO_12.out)
                      have n1_ := Aside0.mk (blk_drew BK198.out)
                      have n2_ := Aside0.mk (below_drew1 HB.out)
                      clear HO_12
                      clear BK198
                      clear HB
                      have HO_12 := n0_
                      have BK198 := n1_
                      have HB := n2_
                      clear n0_ n1_ n2_
                      have p200 : 0 ≤ (x29_2 : Int) := of_decide_eq_true (by first | (with_reducible assumption) | assumption)
                      have q200 : x29_2 < (l3.length : Int) := of_decide_eq_true (by first | (with_reducible assumption) | assumption)
                      obtain ⟨ad200, e200, hx200_0⟩ := Kd.at_bool HR3.out x29_2 p200 q200
                      have hw200_0 := hx200_0
                      cases e200
                      replace hx200_0 := (HB.out.cell (World.block_lt_of_cell? w _ hx200_0)).trans hx200_0
                      replace p200 := eq_true p200
                      replace q200 := eq_true q200
                      have p201 : 0 ≤ (x29_2 : Int) := of_decide_eq_true (by first | (with_reducible assumption) | assumption)
                      have q201 : x29_2 < (l4.length : Int) := of_decide_eq_true (by first | (with_reducible assumption) | assumption)
                      obtain ⟨ad201, e201, hx201_0⟩ := Kd.at_bool HR4.out x29_2 p201 q201
                      have hw201_0 := hx201_0
                      cases e201
                      replace hx201_0 := (HB.out.cell (World.block_lt_of_cell? w _ hx201_0)).trans hx201_0
                      replace p201 := eq_true p201
                      replace q201 := eq_true q201
                      refine start_ (n := 13) (S := fun w' => w'.cell? ⟨gb198, 0, none⟩ = some (.bool x199000_2) ∧ w'.cell? ⟨gb198, 1, none⟩ = some (.bool x199001_2) ∧ w'.cell? ⟨gb198, 2, none⟩ = some (.int .i64 x199002_2) ∧ w'.cell? ⟨gb198, 3, none⟩ = some (.bool x199003_2) ∧ w'.cell? (ad200.add (x29_2).toNat) = some (.bool (rdOf false l3 x29_2)) ∧ w'.cell? (ad201.add (x29_2).toNat) = some (.bool (rdOf false l4 x29_2))) (ds := [12]) #[false, false, false, false, false, false, false, false, false, false, false, false, false] (by kernel_rfl) rfl rfl ⟨(blk_cell BK198.out 0).trans rfl, (blk_cell BK198.out 1).trans rfl, (blk_cell BK198.out 2).trans rfl, (blk_cell BK198.out 3).trans rfl, ((HB.out.cell (World.block_lt_of_cell? w _ hw200_0)).trans hw200_0), ((HB.out.cell (World.block_lt_of_cell? w _ hw201_0)).trans hw201_0)⟩ (fun hHeld => ?_); refine with_tabW breaker_Run.tab8 breaker_Run.bits8 (fun HT_ HW_ => ?_)
                      generalize wr.drew = w24 at HO_12 BK198 HB hx200_0 hx201_0 hHeld ⊢
                      refine pure_ (i := 1) (N := some 33) (v := ?_) (a' := ?_) #[false, true, false, false, false, false, false, false, false, false, false, false, false] rfl rfl (any_of HT_.out (by kernel_rfl)) (fun _ _ _ h => h) (Or.inl ⟨by rfl, ?_⟩) ?_ ?_
                      rotate_left
                      · intro w'
                        go_simp
                        with_reducible rfl
                      rotate_left
                      · simp only [Act.put, List.setIfInBounds_toArray, List.set_cons_zero, List.set_cons_succ, i64_w, i32_w]
                        rfl
                      refine pure_ (i := 2) (N := some 34) (v := ?_) (a' := ?_) #[false, true, true, false, false, false, false, false, false, false, false, false, false] rfl rfl (any_of HT_.out (by kernel_rfl)) (fun _ _ _ h => h) (Or.inl ⟨by rfl, ?_⟩) ?_ ?_
                      rotate_left
                      · intro w'
                        go_simp
                        with_reducible rfl
                      rotate_left
                      · simp only [Act.put, List.setIfInBounds_toArray, List.set_cons_zero, List.set_cons_succ, i64_w, i32_w]
                        rfl
                      refine pure_ (i := 3) (N := some 35) (v := ?_) (a' := ?_) #[false, true, true, true, false, false, false, false, false, false, false, false, false] rfl rfl (any_of HT_.out (by kernel_rfl)) (fun _ _ _ h => h) (Or.inl ⟨by rfl, ?_⟩) ?_ ?_
                      rotate_left
                      · intro w'
                        go_simp
                        with_reducible rfl
                      rotate_left
                      · simp only [Act.put, List.setIfInBounds_toArray, List.set_cons_zero, List.set_cons_succ, i64_w, i32_w]
                        rfl
                      refine pure_ (i := 4) (N := some 36) (v := ?_) (a' := ?_) #[false, true, true, true, true, false, false, false, false, false, false, false, false] rfl rfl (any_of HT_.out (by kernel_rfl)) (fun _ _ _ h => h) (Or.inl ⟨by rfl, ?_⟩) ?_ ?_
                      rotate_left
                      · intro w'
                        go_simp
                        with_reducible rfl
                      rotate_left
                      · simp only [Act.put, List.setIfInBounds_toArray, List.set_cons_zero, List.set_cons_succ, i64_w, i32_w]
                        rfl
                      refine pure_ (i := 5) (N := some 37) (v := ?_) (a' := ?_) #[false, true, true, true, true, true, false, false, false, false, false, false, false] rfl rfl (any_of HT_.out (by kernel_rfl)) (fun _ _ _ h => h) (Or.inl ⟨by rfl, ?_⟩) ?_ ?_
                      rotate_left
                      · intro w'
                        go_simp
                        with_reducible rfl
                      rotate_left
                      · simp only [Act.put, List.setIfInBounds_toArray, List.set_cons_zero, List.set_cons_succ, i64_w, i32_w]
                        rfl
                      refine pure_ (i := 7) (N := some 39) (v := ?_) (a' := ?_) #[false, true, true, true, true, true, false, true, false, false, false, false, false] rfl rfl (any_of HT_.out (by kernel_rfl)) (fun _ _ _ h => h) (Or.inl ⟨by rfl, ?_⟩) ?_ ?_
                      rotate_left
                      · intro w'
                        go_simp
                        with_reducible rfl
                      rotate_left
                      · simp only [Act.put, List.setIfInBounds_toArray, List.set_cons_zero, List.set_cons_succ, i64_w, i32_w]
                        rfl
                      refine pure_ (i := 8) (N := some 40) (v := ?_) (a' := ?_) #[false, true, true, true, true, true, false, true, true, false, false, false, false] rfl rfl (any_of HT_.out (by kernel_rfl)) (fun _ _ _ h => h) (Or.inl ⟨by rfl, ?_⟩) ?_ ?_
                      rotate_left
                      · intro w'
                        go_simp
                        with_reducible rfl
                      rotate_left
                      · simp only [Act.put, List.setIfInBounds_toArray, List.set_cons_zero, List.set_cons_succ, i64_w, i32_w]
                        rfl
                      refine pure_ (i := 9) (N := some 41) (v := ?_) (a' := ?_) #[false, true, true, true, true, true, false, true, true, true, false, false, false] rfl rfl (any_of HT_.out (by kernel_rfl)) (fun _ _ _ h => h) (Or.inl ⟨by rfl, ?_⟩) ?_ ?_
                      rotate_left
                      · intro w'
                        go_simp
                        with_reducible rfl
                      rotate_left
                      · simp only [Act.put, List.setIfInBounds_toArray, List.set_cons_zero, List.set_cons_succ, i64_w, i32_w]
                        rfl
                      refine take_ (i := 0) (N := some 32) (v := ?_) (a' := ?_) #[true, true, true, true, true, true, false, true, true, true, false, false, false] rfl rfl (take_ofW HT_.out HW_.out (by kernel_rfl)) (fun _ _ _ h => h) (Or.inl ⟨by rfl, ?_⟩) hHeld ?_ ?_
                      rotate_left
                      · rintro w' ⟨s0, s1, s2, s3, s4, s5⟩
                        go_simp
                        with_reducible rfl
                      rotate_left
                      · simp only [Act.put, List.setIfInBounds_toArray, List.set_cons_zero, List.set_cons_succ, i64_w, i32_w]
                        rfl
                      refine take_ (i := 6) (N := some 38) (v := ?_) (a' := ?_) #[true, true, true, true, true, true, true, true, true, true, false, false, false] rfl rfl (take_ofW HT_.out HW_.out (by kernel_rfl)) (fun _ _ _ h => h) (Or.inl ⟨by rfl, ?_⟩) hHeld ?_ ?_
                      rotate_left
                      · rintro w' ⟨s0, s1, s2, s3, s4, s5⟩
                        go_simp
                        with_reducible rfl
                      rotate_left
                      · simp only [Act.put, List.setIfInBounds_toArray, List.set_cons_zero, List.set_cons_succ, i64_w, i32_w]
                        rfl
                      refine take_ (i := 10) (N := some 42) (v := ?_) (a' := ?_) #[true, true, true, true, true, true, true, true, true, true, true, false, false] rfl rfl (take_ofW HT_.out HW_.out (by kernel_rfl)) (fun _ _ _ h => h) (Or.inl ⟨by rfl, ?_⟩) hHeld ?_ ?_
                      rotate_left
                      · rintro w' ⟨s0, s1, s2, s3, s4, s5⟩
                        go_simp
                        with_reducible rfl
                      rotate_left
                      · simp only [Act.put, List.setIfInBounds_toArray, List.set_cons_zero, List.set_cons_succ, i64_w, i32_w]
                        rfl
                      refine one_ (i := 11) (N := some 43) #[true, true, true, true, true, true, true, true, true, true, true, true, false] rfl rfl (one_of HT_.out (by kernel_rfl)) (by decide) (fun K hK => ?_)
                      refine goes_ Try.func20 (by kernel_rfl) rfl #[.agg #[.bool x199000_2, .bool x199001_2, .int .i64 x199002_2, .bool x199003_2], .int .i64 a1, .bool a2, .bool (rdOf false l3 x29_2), .bool (rdOf false l4 x29_2)] (by rfl) rfl rfl (by (try simp only [List.map_toArray, List.map_cons, List.map_nil]); first | done | rfl | (simp only [List.length_drop, List.length_take]; rfl)) ?_
                      with_reducible refine (breaker_Step.calls k2 x199000_2 x199001_2 x199002_2 x199003_2 a1 a2 (rdOf false l3 x29_2) (rdOf false l4 x29_2) t202 t203 t204 t205 _ A22.out).mono ?_
                      rintro e w25 ⟨rfl, hb⟩
                      refine ⟨_, rfl, ?_⟩
                      have n0_ := Aside0.mk (Kd.R_below (by (with_reducible repeat (first | apply Kd.R_alloc | apply Kd.R_drewN | apply Kd.R_drew)); exact HO_12.out) hb)
                      have n1_ := Aside0.mk (blk_below (g := gb198) (o := .cells #[.bool x199000_2, .bool x199001_2, .int .i64 x199002_2, .bool x199003_2] 36 (0, 0)) (by (with_reducible repeat (first | refine blk_drewN ?_ _ | refine blk_drew ?_ | refine blk_alloc ?_ _)); exact BK198.out) hb)
                      have n2_ := Aside0.mk (below_step (by repeat (first | (with_reducible first | exact HB.out | apply below_alloc | apply pw_below_drewN | apply below_drew1 | refine below_set ?_ GE198.out) | exact HB.out)) hb)
                      clear HO_12
                      clear BK198
                      clear HB
                      have HO_12 := n0_
                      have BK198 := n1_
                      have HB := n2_
                      clear n0_ n1_ n2_
                      (try clear hb)
                      (try clear hb2)
                      (try clear hk)
                      (try clear hi)
                      refine hK.out _ _ ⟨(blk_cell BK198.out 0).trans rfl, (blk_cell BK198.out 1).trans rfl, (blk_cell BK198.out 2).trans rfl, (blk_cell BK198.out 3).trans rfl, ((HB.out.cell (World.block_lt_of_cell? w _ hw200_0)).trans hw200_0), ((HB.out.cell (World.block_lt_of_cell? w _ hw201_0)).trans hw201_0)⟩ (fun hHeld => ?_)
                      clear hK K
                      refine norm_ (a' := ?_) ?_ ?_
                      rotate_left
                      · show Act.put _ (some 43) _ = _
                        simp only [Act.put, List.setIfInBounds_toArray, List.set_cons_zero, List.set_cons_succ, i64_w, i32_w]
                        rfl
                      refine last_ (i := 12) (N := none) #[true, true, true, true, true, true, true, true, true, true, true, true, true] rfl rfl (one_of HT_.out (by kernel_rfl)) (by decide) (fun K hK => ?_)
                      have hs26 : w25.cell? ⟨gb198, 0, none⟩ = some (.bool x199000_2) := (blk_cell BK198.out 0).trans rfl
                      have hfs26 := blk_frozen BK198.out 0
                      have hs27 : w25.cell? ⟨gb198, 1, none⟩ = some (.bool x199001_2) := (blk_cell BK198.out 1).trans rfl
                      have hfs27 := blk_frozen BK198.out 1
                      have hs28 : w25.cell? ⟨gb198, 2, none⟩ = some (.int .i64 x199002_2) := (blk_cell BK198.out 2).trans rfl
                      have hfs28 := blk_frozen BK198.out 2
                      have hs29 : w25.cell? ⟨gb198, 3, none⟩ = some (.bool x199003_2) := (blk_cell BK198.out 3).trans rfl
                      have hfs29 := blk_frozen BK198.out 3
                      refine skip_ (w1 := ?_) (by rfl) rfl ?_ ?_
                      rotate_left
                      · go_simp
                        rfl
                      refine hK.out _ _ ?_
                      clear hK K
                      refine done_ (done_of HT_.out (by kernel_rfl)) ?_
                      have hcz30_0 : w25.cell? ⟨gb198, 0, none⟩ = some (.bool x199000_2) := (blk_cell BK198.out 0).trans rfl
                      have hcz30_1 : w25.cell? ⟨gb198, 1, none⟩ = some (.bool x199001_2) := (blk_cell BK198.out 1).trans rfl
                      have hcz30_2 : w25.cell? ⟨gb198, 2, none⟩ = some (.int .i64 x199002_2) := (blk_cell BK198.out 2).trans rfl
                      have hcz30_3 : w25.cell? ⟨gb198, 3, none⟩ = some (.bool x199003_2) := (blk_cell BK198.out 3).trans rfl
                      have hfz30_0 := blk_frozen BK198.out 0
                      have hfz30_1 := blk_frozen BK198.out 1
                      have hfz30_2 := blk_frozen BK198.out 2
                      have hfz30_3 := blk_frozen BK198.out 3
                      try go_wp2_with (first | ((with_reducible refine gate_builtin (b := .append) (xs := #[.tmp 44, .tmp 46]) rfl ?_); (try (refine gate_guard (by rfl) ?_; dsimp only)); at_builtin; refine Kd.R_append k36 (w0 := w) w.heap.size rfl (.tmp 44) (.tmp 46) 41 36 (.agg #[(.bool false), (.bool false), (.int .i64 0), (.bool false)]) 24 rfl Try.underlying41 info36 rfl (by decide) (by omega) u12 x12_2 (⟨t202, t203, t204, t205⟩ : S36) [.bool t202, .bool t203, .int .i64 t204, .bool t205] (fun k_ => k_ ≠ gb198) (fun _ => False) rfl (by first | (go_simp; done) | (go_simp; rfl)) ?aP (fun _ hk => hk.elim) ?aF ?aO ?aB ?aS ?aL ?_; (case aP => exact k36_mkM _ _ _ (⟨t202, t203, t204, t205⟩ : S36)); (case aB => exact (by repeat (first | (with_reducible first | exact HB.out | apply below_alloc | apply pw_below_drewN | apply below_drew1 | refine below_set ?_ GE198.out) | exact HB.out))); (case aF => exact (fun k_ hk => Kd.freshB (g := gb198) (o := .cells #[.bool t202, .bool t203, .int .i64 t204, .bool t205] 36 (0, 0)) (by (with_reducible repeat (first | refine blk_drewN ?_ _ | refine blk_drew ?_ | refine blk_alloc ?_ _)); refine blk_put (cs := #[.bool t202, .bool t203, .int .i64 t204, .bool x199003_2]) ?_ 3 _ rfl; (with_reducible repeat (first | refine blk_drewN ?_ _ | refine blk_drew ?_ | refine blk_alloc ?_ _)); refine blk_put (cs := #[.bool t202, .bool t203, .int .i64 x199002_2, .bool x199003_2]) ?_ 2 _ rfl; (with_reducible repeat (first | refine blk_drewN ?_ _ | refine blk_drew ?_ | refine blk_alloc ?_ _)); refine blk_put (cs := #[.bool t202, .bool x199001_2, .int .i64 x199002_2, .bool x199003_2]) ?_ 1 _ rfl; (with_reducible repeat (first | refine blk_drewN ?_ _ | refine blk_drew ?_ | refine blk_alloc ?_ _)); refine blk_put (cs := #[.bool x199000_2, .bool x199001_2, .int .i64 x199002_2, .bool x199003_2]) ?_ 0 _ rfl; (with_reducible repeat (first | refine blk_drewN ?_ _ | refine blk_drew ?_ | refine blk_alloc ?_ _)); exact BK198.out) k_ hk)); (case aO => exact (by (with_reducible repeat (first | apply Kd.R_alloc | apply Kd.R_drewN | apply Kd.R_drew)); exact Kd.R_mono (Kd.R_far (p := ⟨gb198, 3, none⟩) (Kd.R_far (p := ⟨gb198, 2, none⟩) (Kd.R_far (p := ⟨gb198, 1, none⟩) (Kd.R_far (p := ⟨gb198, 0, none⟩) (Kd.R_mono HO_12.out (fun k_ hk => (⟨hk, hk⟩ : _ ∧ k_ ≠ gb198))) (fun _ hk => hk.2) (.bool t202)) (fun _ hk => hk.2) (.bool t203)) (fun _ hk => hk.2) (.int .i64 t204)) (fun _ hk => hk.2) (.bool t205)) (fun _ hk => hk.1))); (case aS => exact (below_size (by repeat (first | (with_reducible first | exact HB.out | apply below_alloc | apply pw_below_drewN | apply below_drew1 | refine below_set ?_ GE198.out) | exact HB.out)))); (case aL => have := LMc23.out; omega); intro v207 w31 ho hb hg hat; rw [← Ny206.out] at ho; have n0_ := Aside0.mk (blk_grown (g := gb198) (o := .cells #[.bool t202, .bool t203, .int .i64 t204, .bool t205] 36 (0, 0)) (by (with_reducible repeat (first | refine blk_drewN ?_ _ | refine blk_drew ?_ | refine blk_alloc ?_ _)); refine blk_put (cs := #[.bool t202, .bool t203, .int .i64 t204, .bool x199003_2]) ?_ 3 _ rfl; (with_reducible repeat (first | refine blk_drewN ?_ _ | refine blk_drew ?_ | refine blk_alloc ?_ _)); refine blk_put (cs := #[.bool t202, .bool t203, .int .i64 x199002_2, .bool x199003_2]) ?_ 2 _ rfl; (with_reducible repeat (first | refine blk_drewN ?_ _ | refine blk_drew ?_ | refine blk_alloc ?_ _)); refine blk_put (cs := #[.bool t202, .bool x199001_2, .int .i64 x199002_2, .bool x199003_2]) ?_ 1 _ rfl; (with_reducible repeat (first | refine blk_drewN ?_ _ | refine blk_drew ?_ | refine blk_alloc ?_ _)); refine blk_put (cs := #[.bool x199000_2, .bool x199001_2, .int .i64 x199002_2, .bool x199003_2]) ?_ 0 _ rfl; (with_reducible repeat (first | refine blk_drewN ?_ _ | refine blk_drew ?_ | refine blk_alloc ?_ _)); exact BK198.out) hg (Kd.R_away HO_12.out (fun _ hk => hk))); have n1_ := Aside0.mk (hb); have n2_ := Aside0.mk (ho); clear BK198; clear HB; clear HO_12; have BK198 := n0_; have HB := n1_; have HO208 := n2_; clear n0_ n1_ n2_; clear ho hb hg hat))
                      go_roundg k2
                      case measure => have := HJ6.out; have := HK2.out; omega
                      case rel => exact ⟨(y206), (wrap64 (x29_2 + 1)), (t202), (t203), (t204), (t205), (by first | rfl | (simp; done) | (simp [*]; done)), H', ⟨by have := HJ6.out; have := HK2.out; omega⟩, ⟨by (with_reducible repeat (first | apply Kd.R_alloc | apply Kd.R_drewN | apply Kd.R_drew)); exact HO208.out⟩, ⟨by (with_reducible repeat (first | refine blk_drewN ?_ _ | refine blk_drew ?_ | refine blk_alloc ?_ _)); exact BK198.out⟩, ⟨by repeat (first | (with_reducible first | exact HB.out | apply below_alloc | apply pw_below_drewN | apply below_drew1 | refine below_set ?_ GE198.out) | exact HB.out)⟩⟩
                    · rw [if_neg c23] at H
                      exact absurd H (by simp)
                  · rw [if_neg c21] at H
                    exact absurd H (by simp)
                · rw [if_neg c20] at H
                  exact absurd H (by simp)
              · rw [if_neg c19] at H
                exact absurd H (by simp)
            · rw [if_neg c18] at H
              have c18b0 : decide (x29_2 < (l3.length : Int)) = false := decide_eq_false c18
              clear c18
              obtain rfl := Option.some.inj H
              go_wp2
              go_ret
              exact ⟨_, by first | rfl | (simp [errW_none, errW_some] <;> rfl) | (simp [*, errW_none, errW_some] <;> rfl), by (with_reducible repeat (first | apply Kd.R_alloc | apply Kd.R_drewN | apply Kd.R_drew)); exact Kd.R_mono HO_12.out (fun _ hk => trivial), by repeat (first | (with_reducible first | exact HB.out | apply below_alloc | apply pw_below_drewN | apply below_drew1 | refine below_set ?_ GE198.out) | exact HB.out)⟩

/-! ### substationlaw29_known: function 22 -/
def substationlaw29_known.f (k : Nat)  : Option (Bool) := (breaker_Run.f k true 2 false (([true, false, false] : List Bool)) (([false, false, false] : List Bool))).bind fun t215 => (if (t215.length : Int) = 3 then (if 0 < (t215.length : Int) then (if (rd_T36 t215 0).f0 = true then (if ((rd_T36 t215 0).f2) = 2 then (if 1 < (t215.length : Int) then (if (rd_T36 t215 1).f0 = true then (if ((rd_T36 t215 1).f2) = 1 then (if 2 < (t215.length : Int) then (some (!((rd_T36 t215 2).f0) && (!((rd_T36 t215 2).f1) && (((rd_T36 t215 2).f2) == 0 && (!((rd_T36 t215 2).f3)))))) else (none)) else (some false)) else (some false)) else (none)) else (some false)) else (some false)) else (none)) else (some false))
theorem substationlaw29_known.mono : ∀ k, LeO (substationlaw29_known.f k ) (substationlaw29_known.f (k + 1) ) := by
  intro  k
  unfold substationlaw29_known.f
  repeat' first
      | (with_reducible exact breaker_Run.mono _ _ _ _ _ _)
      | (with_reducible exact LeO.refl _)
      | (with_reducible exact LeO.none _)
      | (with_reducible refine LeO.ite ?_ ?_)
      | (with_reducible refine LeO.bind ?_ (fun _ => ?_))
      | exact breaker_Run.mono _ _ _ _ _ _
      | exact LeO.none _
      | refine LeO.ite ?_ ?_
      | refine LeO.bind ?_ (fun _ => ?_)
set_option maxHeartbeats 8000000 in
set_option maxRecDepth 100000 in
theorem substationlaw29_known.calls (k : Nat)  (r : Bool) (w : World) (h : substationlaw29_known.f k  = some r) :
    Calls Try.prog 22 #[] w fun e w' => e = .returned (.bool r) ∧ Below w.heap.size w w' := by
  have hu36 := Try.underlying36
  have HB := Aside0.mk (Below.refl w.heap.size w)
  have H : ((breaker_Run.f k true 2 false (([true, false, false] : List Bool)) (([false, false, false] : List Bool))).bind fun t215 => (if (t215.length : Int) = 3 then (if 0 < (t215.length : Int) then (if (rd_T36 t215 0).f0 = true then (if ((rd_T36 t215 0).f2) = 2 then (if 1 < (t215.length : Int) then (if (rd_T36 t215 1).f0 = true then (if ((rd_T36 t215 1).f2) = 1 then (if 2 < (t215.length : Int) then (some (!((rd_T36 t215 2).f0) && (!((rd_T36 t215 2).f1) && (((rd_T36 t215 2).f2) == 0 && (!((rd_T36 t215 2).f3)))))) else (none)) else (some false)) else (some false)) else (none)) else (some false)) else (some false)) else (none)) else (some false))) = some r := h
  clear h
  obtain ⟨y209, hy209⟩ : ∃ y_ : List Bool, y_ = (([true, false, false] : List Bool)) := ⟨_, rfl⟩
  replace H : ((breaker_Run.f k true 2 false y209 (([false, false, false] : List Bool))).bind fun t215 => (if (t215.length : Int) = 3 then (if 0 < (t215.length : Int) then (if (rd_T36 t215 0).f0 = true then (if ((rd_T36 t215 0).f2) = 2 then (if 1 < (t215.length : Int) then (if (rd_T36 t215 1).f0 = true then (if ((rd_T36 t215 1).f2) = 1 then (if 2 < (t215.length : Int) then (some (!((rd_T36 t215 2).f0) && (!((rd_T36 t215 2).f1) && (((rd_T36 t215 2).f2) == 0 && (!((rd_T36 t215 2).f3)))))) else (none)) else (some false)) else (some false)) else (none)) else (some false)) else (some false)) else (none)) else (some false))) = some r := by first | (rw [hy209]; with_reducible exact H) | (have H2_ := (Option.bind_some _ _).symm.trans H; rw [hy209]; with_reducible exact H2_) | (have H2_ := (Option.bind_some _ _).symm.trans H; with_reducible exact H2_) | with_reducible exact H | (rw [hy209]; exact H) | exact H
  have Ny209 := Aside0.mk hy209
  clear hy209
  obtain ⟨y212, hy212⟩ : ∃ y_ : List Bool, y_ = (([false, false, false] : List Bool)) := ⟨_, rfl⟩
  replace H : ((breaker_Run.f k true 2 false y209 y212).bind fun t215 => (if (t215.length : Int) = 3 then (if 0 < (t215.length : Int) then (if (rd_T36 t215 0).f0 = true then (if ((rd_T36 t215 0).f2) = 2 then (if 1 < (t215.length : Int) then (if (rd_T36 t215 1).f0 = true then (if ((rd_T36 t215 1).f2) = 1 then (if 2 < (t215.length : Int) then (some (!((rd_T36 t215 2).f0) && (!((rd_T36 t215 2).f1) && (((rd_T36 t215 2).f2) == 0 && (!((rd_T36 t215 2).f3)))))) else (none)) else (some false)) else (some false)) else (none)) else (some false)) else (some false)) else (none)) else (some false))) = some r := by first | (rw [hy212]; with_reducible exact H) | (have H2_ := (Option.bind_some _ _).symm.trans H; rw [hy212]; with_reducible exact H2_) | (have H2_ := (Option.bind_some _ _).symm.trans H; with_reducible exact H2_) | with_reducible exact H | (rw [hy212]; exact H) | exact H
  have Ny212 := Aside0.mk hy212
  clear hy212
  replace H := Option.bind_eq_some_iff.mp H
  obtain ⟨t215, A10, H⟩ := H
  replace H : (if (t215.length : Int) = 3 then (if 0 < (t215.length : Int) then (if (rd_T36 t215 0).f0 = true then (if ((rd_T36 t215 0).f2) = 2 then (if 1 < (t215.length : Int) then (if (rd_T36 t215 1).f0 = true then (if ((rd_T36 t215 1).f2) = 1 then (if 2 < (t215.length : Int) then (some (!((rd_T36 t215 2).f0) && (!((rd_T36 t215 2).f1) && (((rd_T36 t215 2).f2) == 0 && (!((rd_T36 t215 2).f3)))))) else (none)) else (some false)) else (some false)) else (none)) else (some false)) else (some false)) else (none)) else (some false)) = some r := H
  have A1 := Aside0.mk A10
  clear A10
  by_cases c2 : (t215.length : Int) = 3
  · rw [if_pos c2] at H
    have c2b0 : ((t215.length : Int) == 3) = true := beq_iff_eq.mpr c2
    have c2b1 : ((t215.length : Int) != 3) = false := bne_eq_false_iff_eq.mpr c2
    clear c2
    by_cases c3 : 0 < (t215.length : Int)
    · rw [if_pos c3] at H
      have c3b0 : decide (0 < (t215.length : Int)) = true := decide_eq_true c3
      have c3b1 : decide (0 < t215.length) = true := decide_eq_true (by omega)
      clear c3
      obtain ⟨bq4, hbq4⟩ : ∃ b_ : Bool, b_ = ((rd_T36 t215 0).f0) := ⟨_, rfl⟩
      replace H : (if bq4 = true then (if ((rd_T36 t215 0).f2) = 2 then (if 1 < (t215.length : Int) then (if (rd_T36 t215 1).f0 = true then (if ((rd_T36 t215 1).f2) = 1 then (if 2 < (t215.length : Int) then (some (!((rd_T36 t215 2).f0) && (!((rd_T36 t215 2).f1) && (((rd_T36 t215 2).f2) == 0 && (!((rd_T36 t215 2).f3)))))) else (none)) else (some false)) else (some false)) else (none)) else (some false)) else (some false)) = some r := by rw [← hbq4] at H; exact H
      have Nbq4 := Aside0.mk hbq4
      clear hbq4
      by_cases c5 : bq4 = true
      · subst c5
        have H1 : (if ((rd_T36 t215 0).f2) = 2 then (if 1 < (t215.length : Int) then (if (rd_T36 t215 1).f0 = true then (if ((rd_T36 t215 1).f2) = 1 then (if 2 < (t215.length : Int) then (some (!((rd_T36 t215 2).f0) && (!((rd_T36 t215 2).f1) && (((rd_T36 t215 2).f2) == 0 && (!((rd_T36 t215 2).f3)))))) else (none)) else (some false)) else (some false)) else (none)) else (some false)) = some r := by rw [if_pos rfl] at H; exact H
        clear H
        have H := H1
        clear H1
        by_cases c6 : ((rd_T36 t215 0).f2) = 2
        · rw [if_pos c6] at H
          have c6b0 : (((rd_T36 t215 0).f2) == 2) = true := beq_iff_eq.mpr c6
          have c6b1 : (((rd_T36 t215 0).f2) != 2) = false := bne_eq_false_iff_eq.mpr c6
          clear c6
          by_cases c7 : 1 < (t215.length : Int)
          · rw [if_pos c7] at H
            have c7b0 : decide (1 < (t215.length : Int)) = true := decide_eq_true c7
            have c7b1 : decide (1 < t215.length) = true := decide_eq_true (by omega)
            clear c7
            obtain ⟨bq8, hbq8⟩ : ∃ b_ : Bool, b_ = ((rd_T36 t215 1).f0) := ⟨_, rfl⟩
            replace H : (if bq8 = true then (if ((rd_T36 t215 1).f2) = 1 then (if 2 < (t215.length : Int) then (some (!((rd_T36 t215 2).f0) && (!((rd_T36 t215 2).f1) && (((rd_T36 t215 2).f2) == 0 && (!((rd_T36 t215 2).f3)))))) else (none)) else (some false)) else (some false)) = some r := by rw [← hbq8] at H; exact H
            have Nbq8 := Aside0.mk hbq8
            clear hbq8
            by_cases c9 : bq8 = true
            · subst c9
              have H1 : (if ((rd_T36 t215 1).f2) = 1 then (if 2 < (t215.length : Int) then (some (!((rd_T36 t215 2).f0) && (!((rd_T36 t215 2).f1) && (((rd_T36 t215 2).f2) == 0 && (!((rd_T36 t215 2).f3)))))) else (none)) else (some false)) = some r := by rw [if_pos rfl] at H; exact H
              clear H
              have H := H1
              clear H1
              by_cases c10 : ((rd_T36 t215 1).f2) = 1
              · rw [if_pos c10] at H
                have c10b0 : (((rd_T36 t215 1).f2) == 1) = true := beq_iff_eq.mpr c10
                have c10b1 : (((rd_T36 t215 1).f2) != 1) = false := bne_eq_false_iff_eq.mpr c10
                clear c10
                by_cases c11 : 2 < (t215.length : Int)
                · rw [if_pos c11] at H
                  have c11b0 : decide (2 < (t215.length : Int)) = true := decide_eq_true c11
                  have c11b1 : decide (2 < t215.length) = true := decide_eq_true (by omega)
                  clear c11
                  obtain rfl := Option.some.inj H
                  go_enter Try.func22, Try.ntmps22
                  go_wp2_with (first | ((with_reducible refine gate_dst (N := 2) rfl ?_); refine Kd.R_lit Kd.bool _ 4 ?hg (N := 2) ?hd (xs := ([true, false, false] : List Bool)) (inner := [.bool true, .bool false, .bool false]) (ok := fun _ => True) (okp := fun _ => True) ?hr ?hp (fun _ hk => hk) trivial (Below.refl _ _) (Nat.le_refl _) (by simp) ?_; (case hd => rfl); (case hg => rfl); (case hr => first | (go_simp; done) | (go_simp; rfl)); (case hp => exact (Reps.one (show Kd.M Kd.bool _ _ _ true [.bool true] from rfl) (Reps.one (show Kd.M Kd.bool _ _ _ false [.bool false] from rfl) (Reps.one (show Kd.M Kd.bool _ _ _ false [.bool false] from rfl) (Reps.none _ _))))); intro v210 w12 ho13 hb hg_ hnew_; clear hg_ hnew_; (first | rw [← Ny209.out] at ho13 | (simp only [Int.reduceToNat] at ho13; rw [← Ny209.out] at ho13)); have n0_ := Aside0.mk (Kd.R_lower ho13 (below_size (by repeat (first | (with_reducible first | exact HB.out | apply below_alloc | apply pw_below_drewN | apply below_drew1) | exact HB.out)))); have n1_ := Aside0.mk (below_step (by repeat (first | (with_reducible first | exact HB.out | apply below_alloc | apply pw_below_drewN | apply below_drew1) | exact HB.out)) hb); clear HB; have HO211 := n0_; have HB := n1_; clear n0_ n1_; clear hb ho13) | ((with_reducible refine gate_dst (N := 3) rfl ?_); refine Kd.R_lit Kd.bool _ 4 ?hg (N := 3) ?hd (xs := ([false, false, false] : List Bool)) (inner := [.bool false, .bool false, .bool false]) (ok := fun _ => True) (okp := fun _ => True) ?hr ?hp (fun _ hk => hk) trivial (Below.refl _ _) (Nat.le_refl _) (by simp) ?_; (case hd => rfl); (case hg => rfl); (case hr => first | (go_simp; done) | (go_simp; rfl)); (case hp => exact (Reps.one (show Kd.M Kd.bool _ _ _ false [.bool false] from rfl) (Reps.one (show Kd.M Kd.bool _ _ _ false [.bool false] from rfl) (Reps.one (show Kd.M Kd.bool _ _ _ false [.bool false] from rfl) (Reps.none _ _))))); intro v213 w14 ho15 hb hg_ hnew_; clear hg_ hnew_; (first | rw [← Ny212.out] at ho15 | (simp only [Int.reduceToNat] at ho15; rw [← Ny212.out] at ho15)); have n0_ := Aside0.mk (Kd.R_elder' (by (with_reducible repeat (first | apply Kd.R_alloc | apply Kd.R_drewN | apply Kd.R_drew)); exact HO211.out) (Kd.R_base ho15) hb); have n1_ := Aside0.mk (Kd.R_lower (Kd.R_new' ho15 (Kd.R_lt (by (with_reducible repeat (first | apply Kd.R_alloc | apply Kd.R_drewN | apply Kd.R_drew)); exact HO211.out))) (below_size (by repeat (first | (with_reducible first | exact HB.out | apply below_alloc | apply pw_below_drewN | apply below_drew1) | exact HB.out)))); have n2_ := Aside0.mk (below_step (by repeat (first | (with_reducible first | exact HB.out | apply below_alloc | apply pw_below_drewN | apply below_drew1) | exact HB.out)) hb); clear HO211; clear HB; have HO211 := n0_; have HO214 := n1_; have HB := n2_; clear n0_ n1_ n2_; clear hb ho15; obtain ⟨Ao16, co16, eo16⟩ := Kd.R_slice HO211.out; subst eo16; obtain ⟨Ao17, co17, eo17⟩ := Kd.R_slice HO214.out; subst eo17) | ((with_reducible refine gate_callee (f := 21) rfl ?_); refine goesL_ (some 4) rfl rfl Try.func21 (by kernel_rfl) rfl #[.bool true, .int .i64 2, .bool false, .slice Ao16 y209.length co16, .slice Ao17 y212.length co17] rfl (by (try simp only [List.map_toArray, List.map_cons, List.map_nil]); first | done | rfl | (simp only [List.length_drop, List.length_take]; rfl)) ?_; (with_reducible refine (breaker_Run.calls k true 2 false _ _ y209 _ _ y212 t215 _ ?side1 ?side2 ?side3 ?side4 A1.out).mono ?_); (case side1 => repeat (first | exact (Kd.R_reads' HO211.out).2.2 | (with_reducible refine Kd.C_alloc ?_ _) | (with_reducible refine Kd.C_drewN ?_ _) | (with_reducible refine Kd.C_drew ?_))); (case side2 => exact (Kd.R_reads' HO211.out).2.1); (case side3 => repeat (first | exact (Kd.R_reads' HO214.out).2.2 | (with_reducible refine Kd.C_alloc ?_ _) | (with_reducible refine Kd.C_drewN ?_ _) | (with_reducible refine Kd.C_drew ?_))); (case side4 => exact (Kd.R_reads' HO214.out).2.1); rintro e w18 ⟨v216, rfl, ho0, hb⟩; refine ⟨_, rfl, ?_⟩; have n0_ := Aside0.mk (Kd.R_below (by (with_reducible repeat (first | apply Kd.R_alloc | apply Kd.R_drewN | apply Kd.R_drew)); exact HO211.out) hb); have n1_ := Aside0.mk (Kd.R_below (by (with_reducible repeat (first | apply Kd.R_alloc | apply Kd.R_drewN | apply Kd.R_drew)); exact HO214.out) hb); have n2_ := Aside0.mk (Kd.R_lower ho0 (below_size (by repeat (first | (with_reducible first | exact HB.out | apply below_alloc | apply pw_below_drewN | apply below_drew1) | exact HB.out)))); have n3_ := Aside0.mk (below_step (by repeat (first | (with_reducible first | exact HB.out | apply below_alloc | apply pw_below_drewN | apply below_drew1) | exact HB.out)) hb); clear HO211; clear HO214; clear HB; have HO211 := n0_; have HO214 := n1_; have HO217 := n2_; have HB := n3_; clear n0_ n1_ n2_ n3_; (try clear hb); (try clear hb2); (try clear hk); (try clear hi); (try clear ho0); obtain ⟨Ao19, co19, eo19⟩ := Kd.R_slice HO217.out; subst eo19; have p218 : 0 ≤ (0 : Int) := (by omega); have q218 : 0 < (t215.length : Int) := of_decide_eq_true (by first | (with_reducible assumption) | assumption); obtain ⟨ad218, e218, hx218_0, hx218_1, hx218_2, hx218_3⟩ := at_T36 (Kd.R_reads' HO217.out).2.2 0 p218 q218; (try rw [← Nbq4.out] at hx218_0); (try rw [← Nbq8.out] at hx218_0); (try rw [← Nbq4.out] at hx218_1); (try rw [← Nbq8.out] at hx218_1); (try rw [← Nbq4.out] at hx218_3); (try rw [← Nbq8.out] at hx218_3); cases e218; have qi218 : (0 < t215.length) = True := eq_true (by omega); (try rw [show ((0 : Int)).toNat = 0 from rfl] at hx218_0); (try rw [show 0 * 4 = 0 from rfl] at hx218_0); (try rw [Addr.add_zero'] at hx218_0); (try rw [show ((0 : Int)).toNat = 0 from rfl] at hx218_1); (try rw [show 0 * 4 = 0 from rfl] at hx218_1); (try rw [Addr.add_zero'] at hx218_1); (try rw [show ((0 : Int)).toNat = 0 from rfl] at hx218_2); (try rw [show 0 * 4 = 0 from rfl] at hx218_2); (try rw [Addr.add_zero'] at hx218_2); (try rw [show ((0 : Int)).toNat = 0 from rfl] at hx218_3); (try rw [show 0 * 4 = 0 from rfl] at hx218_3); (try rw [Addr.add_zero'] at hx218_3); replace p218 := eq_true p218; replace q218 := eq_true q218; have p219 : 0 ≤ (0 : Int) := (by omega); have q219 : 0 < (t215.length : Int) := of_decide_eq_true (by first | (with_reducible assumption) | assumption); obtain ⟨ad219, e219, hx219_0, hx219_1, hx219_2, hx219_3⟩ := at_T36 (Kd.R_reads' HO217.out).2.2 0 p219 q219; (try rw [← Nbq4.out] at hx219_0); (try rw [← Nbq8.out] at hx219_0); (try rw [← Nbq4.out] at hx219_1); (try rw [← Nbq8.out] at hx219_1); (try rw [← Nbq4.out] at hx219_3); (try rw [← Nbq8.out] at hx219_3); obtain rfl : ad218 = ad219 := (by injection e219); have qi219 : (0 < t215.length) = True := eq_true (by omega); (try rw [show ((0 : Int)).toNat = 0 from rfl] at hx219_0); (try rw [show 0 * 4 = 0 from rfl] at hx219_0); (try rw [Addr.add_zero'] at hx219_0); (try rw [show ((0 : Int)).toNat = 0 from rfl] at hx219_1); (try rw [show 0 * 4 = 0 from rfl] at hx219_1); (try rw [Addr.add_zero'] at hx219_1); (try rw [show ((0 : Int)).toNat = 0 from rfl] at hx219_2); (try rw [show 0 * 4 = 0 from rfl] at hx219_2); (try rw [Addr.add_zero'] at hx219_2); (try rw [show ((0 : Int)).toNat = 0 from rfl] at hx219_3); (try rw [show 0 * 4 = 0 from rfl] at hx219_3); (try rw [Addr.add_zero'] at hx219_3); replace p219 := eq_true p219; replace q219 := eq_true q219; have p220 : 0 ≤ (1 : Int) := (by omega); have q220 : 1 < (t215.length : Int) := of_decide_eq_true (by first | (with_reducible assumption) | assumption); obtain ⟨ad220, e220, hx220_0, hx220_1, hx220_2, hx220_3⟩ := at_T36 (Kd.R_reads' HO217.out).2.2 1 p220 q220; (try rw [← Nbq4.out] at hx220_0); (try rw [← Nbq8.out] at hx220_0); (try rw [← Nbq4.out] at hx220_1); (try rw [← Nbq8.out] at hx220_1); (try rw [← Nbq4.out] at hx220_3); (try rw [← Nbq8.out] at hx220_3); obtain rfl : ad218 = ad220 := (by injection e220); (try simp only [show (1 : Int).toNat = 1 from rfl, Nat.reduceMul, Nat.reduceEqDiff, Go.Addr.add, ↓reduceIte] at hx220_0); (try simp only [show (1 : Int).toNat = 1 from rfl, Nat.reduceMul, Nat.reduceEqDiff, Go.Addr.add, ↓reduceIte] at hx220_1); (try simp only [show (1 : Int).toNat = 1 from rfl, Nat.reduceMul, Nat.reduceEqDiff, Go.Addr.add, ↓reduceIte] at hx220_2); (try simp only [show (1 : Int).toNat = 1 from rfl, Nat.reduceMul, Nat.reduceEqDiff, Go.Addr.add, ↓reduceIte] at hx220_3); have qi220 : (1 < t215.length) = True := eq_true (by omega); (try rw [show ((1 : Int)).toNat = 1 from rfl] at hx220_0); (try rw [show 1 * 4 = 4 from rfl] at hx220_0); (try rw [show ((1 : Int)).toNat = 1 from rfl] at hx220_1); (try rw [show 1 * 4 = 4 from rfl] at hx220_1); (try rw [show ((1 : Int)).toNat = 1 from rfl] at hx220_2); (try rw [show 1 * 4 = 4 from rfl] at hx220_2); (try rw [show ((1 : Int)).toNat = 1 from rfl] at hx220_3); (try rw [show 1 * 4 = 4 from rfl] at hx220_3); replace p220 := eq_true p220; replace q220 := eq_true q220; have p221 : 0 ≤ (1 : Int) := (by omega); have q221 : 1 < (t215.length : Int) := of_decide_eq_true (by first | (with_reducible assumption) | assumption); obtain ⟨ad221, e221, hx221_0, hx221_1, hx221_2, hx221_3⟩ := at_T36 (Kd.R_reads' HO217.out).2.2 1 p221 q221; (try rw [← Nbq4.out] at hx221_0); (try rw [← Nbq8.out] at hx221_0); (try rw [← Nbq4.out] at hx221_1); (try rw [← Nbq8.out] at hx221_1); (try rw [← Nbq4.out] at hx221_3); (try rw [← Nbq8.out] at hx221_3); obtain rfl : ad218 = ad221 := (by injection e221); (try simp only [show (1 : Int).toNat = 1 from rfl, Nat.reduceMul, Nat.reduceEqDiff, Go.Addr.add, ↓reduceIte] at hx221_0); (try simp only [show (1 : Int).toNat = 1 from rfl, Nat.reduceMul, Nat.reduceEqDiff, Go.Addr.add, ↓reduceIte] at hx221_1); (try simp only [show (1 : Int).toNat = 1 from rfl, Nat.reduceMul, Nat.reduceEqDiff, Go.Addr.add, ↓reduceIte] at hx221_2); (try simp only [show (1 : Int).toNat = 1 from rfl, Nat.reduceMul, Nat.reduceEqDiff, Go.Addr.add, ↓reduceIte] at hx221_3); have qi221 : (1 < t215.length) = True := eq_true (by omega); (try rw [show ((1 : Int)).toNat = 1 from rfl] at hx221_0); (try rw [show 1 * 4 = 4 from rfl] at hx221_0); (try rw [show ((1 : Int)).toNat = 1 from rfl] at hx221_1); (try rw [show 1 * 4 = 4 from rfl] at hx221_1); (try rw [show ((1 : Int)).toNat = 1 from rfl] at hx221_2); (try rw [show 1 * 4 = 4 from rfl] at hx221_2); (try rw [show ((1 : Int)).toNat = 1 from rfl] at hx221_3); (try rw [show 1 * 4 = 4 from rfl] at hx221_3); replace p221 := eq_true p221; replace q221 := eq_true q221; have p222 : 0 ≤ (2 : Int) := (by omega); have q222 : 2 < (t215.length : Int) := of_decide_eq_true (by first | (with_reducible assumption) | assumption); obtain ⟨ad222, e222, hx222_0, hx222_1, hx222_2, hx222_3⟩ := at_T36 (Kd.R_reads' HO217.out).2.2 2 p222 q222; (try rw [← Nbq4.out] at hx222_0); (try rw [← Nbq8.out] at hx222_0); (try rw [← Nbq4.out] at hx222_1); (try rw [← Nbq8.out] at hx222_1); (try rw [← Nbq4.out] at hx222_3); (try rw [← Nbq8.out] at hx222_3); obtain rfl : ad218 = ad222 := (by injection e222); (try simp only [show (2 : Int).toNat = 2 from rfl, Nat.reduceMul, Nat.reduceEqDiff, Go.Addr.add, ↓reduceIte] at hx222_0); (try simp only [show (2 : Int).toNat = 2 from rfl, Nat.reduceMul, Nat.reduceEqDiff, Go.Addr.add, ↓reduceIte] at hx222_1); (try simp only [show (2 : Int).toNat = 2 from rfl, Nat.reduceMul, Nat.reduceEqDiff, Go.Addr.add, ↓reduceIte] at hx222_2); (try simp only [show (2 : Int).toNat = 2 from rfl, Nat.reduceMul, Nat.reduceEqDiff, Go.Addr.add, ↓reduceIte] at hx222_3); have qi222 : (2 < t215.length) = True := eq_true (by omega); (try rw [show ((2 : Int)).toNat = 2 from rfl] at hx222_0); (try rw [show 2 * 4 = 8 from rfl] at hx222_0); (try rw [show ((2 : Int)).toNat = 2 from rfl] at hx222_1); (try rw [show 2 * 4 = 8 from rfl] at hx222_1); (try rw [show ((2 : Int)).toNat = 2 from rfl] at hx222_2); (try rw [show 2 * 4 = 8 from rfl] at hx222_2); (try rw [show ((2 : Int)).toNat = 2 from rfl] at hx222_3); (try rw [show 2 * 4 = 8 from rfl] at hx222_3); replace p222 := eq_true p222; replace q222 := eq_true q222))
                  go_ret
                  exact ⟨by first | rfl | (simp [errW_none, errW_some] <;> rfl) | (simp [*, errW_none, errW_some] <;> rfl), by repeat (first | (with_reducible first | exact HB.out | apply below_alloc | apply pw_below_drewN | apply below_drew1) | exact HB.out)⟩
                · rw [if_neg c11] at H
                  exact absurd H (by simp)
              · rw [if_neg c10] at H
                have c10b0 : (((rd_T36 t215 1).f2) == 1) = false := beq_eq_false_iff_ne.mpr c10
                have c10b1 : (((rd_T36 t215 1).f2) != 1) = true := bne_iff_ne.mpr c10
                obtain rfl := Option.some.inj H
                go_enter Try.func22, Try.ntmps22
                go_wp2_with (first | ((with_reducible refine gate_dst (N := 2) rfl ?_); refine Kd.R_lit Kd.bool _ 4 ?hg (N := 2) ?hd (xs := ([true, false, false] : List Bool)) (inner := [.bool true, .bool false, .bool false]) (ok := fun _ => True) (okp := fun _ => True) ?hr ?hp (fun _ hk => hk) trivial (Below.refl _ _) (Nat.le_refl _) (by simp) ?_; (case hd => rfl); (case hg => rfl); (case hr => first | (go_simp; done) | (go_simp; rfl)); (case hp => exact (Reps.one (show Kd.M Kd.bool _ _ _ true [.bool true] from rfl) (Reps.one (show Kd.M Kd.bool _ _ _ false [.bool false] from rfl) (Reps.one (show Kd.M Kd.bool _ _ _ false [.bool false] from rfl) (Reps.none _ _))))); intro v210 w20 ho21 hb hg_ hnew_; clear hg_ hnew_; (first | rw [← Ny209.out] at ho21 | (simp only [Int.reduceToNat] at ho21; rw [← Ny209.out] at ho21)); have n0_ := Aside0.mk (Kd.R_lower ho21 (below_size (by repeat (first | (with_reducible first | exact HB.out | apply below_alloc | apply pw_below_drewN | apply below_drew1) | exact HB.out)))); have n1_ := Aside0.mk (below_step (by repeat (first | (with_reducible first | exact HB.out | apply below_alloc | apply pw_below_drewN | apply below_drew1) | exact HB.out)) hb); clear HB; have HO211 := n0_; have HB := n1_; clear n0_ n1_; clear hb ho21) | ((with_reducible refine gate_dst (N := 3) rfl ?_); refine Kd.R_lit Kd.bool _ 4 ?hg (N := 3) ?hd (xs := ([false, false, false] : List Bool)) (inner := [.bool false, .bool false, .bool false]) (ok := fun _ => True) (okp := fun _ => True) ?hr ?hp (fun _ hk => hk) trivial (Below.refl _ _) (Nat.le_refl _) (by simp) ?_; (case hd => rfl); (case hg => rfl); (case hr => first | (go_simp; done) | (go_simp; rfl)); (case hp => exact (Reps.one (show Kd.M Kd.bool _ _ _ false [.bool false] from rfl) (Reps.one (show Kd.M Kd.bool _ _ _ false [.bool false] from rfl) (Reps.one (show Kd.M Kd.bool _ _ _ false [.bool false] from rfl) (Reps.none _ _))))); intro v213 w22 ho23 hb hg_ hnew_; clear hg_ hnew_; (first | rw [← Ny212.out] at ho23 | (simp only [Int.reduceToNat] at ho23; rw [← Ny212.out] at ho23)); have n0_ := Aside0.mk (Kd.R_elder' (by (with_reducible repeat (first | apply Kd.R_alloc | apply Kd.R_drewN | apply Kd.R_drew)); exact HO211.out) (Kd.R_base ho23) hb); have n1_ := Aside0.mk (Kd.R_lower (Kd.R_new' ho23 (Kd.R_lt (by (with_reducible repeat (first | apply Kd.R_alloc | apply Kd.R_drewN | apply Kd.R_drew)); exact HO211.out))) (below_size (by repeat (first | (with_reducible first | exact HB.out | apply below_alloc | apply pw_below_drewN | apply below_drew1) | exact HB.out)))); have n2_ := Aside0.mk (below_step (by repeat (first | (with_reducible first | exact HB.out | apply below_alloc | apply pw_below_drewN | apply below_drew1) | exact HB.out)) hb); clear HO211; clear HB; have HO211 := n0_; have HO214 := n1_; have HB := n2_; clear n0_ n1_ n2_; clear hb ho23; obtain ⟨Ao24, co24, eo24⟩ := Kd.R_slice HO211.out; subst eo24; obtain ⟨Ao25, co25, eo25⟩ := Kd.R_slice HO214.out; subst eo25) | ((with_reducible refine gate_callee (f := 21) rfl ?_); refine goesL_ (some 4) rfl rfl Try.func21 (by kernel_rfl) rfl #[.bool true, .int .i64 2, .bool false, .slice Ao24 y209.length co24, .slice Ao25 y212.length co25] rfl (by (try simp only [List.map_toArray, List.map_cons, List.map_nil]); first | done | rfl | (simp only [List.length_drop, List.length_take]; rfl)) ?_; (with_reducible refine (breaker_Run.calls k true 2 false _ _ y209 _ _ y212 t215 _ ?side1 ?side2 ?side3 ?side4 A1.out).mono ?_); (case side1 => repeat (first | exact (Kd.R_reads' HO211.out).2.2 | (with_reducible refine Kd.C_alloc ?_ _) | (with_reducible refine Kd.C_drewN ?_ _) | (with_reducible refine Kd.C_drew ?_))); (case side2 => exact (Kd.R_reads' HO211.out).2.1); (case side3 => repeat (first | exact (Kd.R_reads' HO214.out).2.2 | (with_reducible refine Kd.C_alloc ?_ _) | (with_reducible refine Kd.C_drewN ?_ _) | (with_reducible refine Kd.C_drew ?_))); (case side4 => exact (Kd.R_reads' HO214.out).2.1); rintro e w26 ⟨v216, rfl, ho0, hb⟩; refine ⟨_, rfl, ?_⟩; have n0_ := Aside0.mk (Kd.R_below (by (with_reducible repeat (first | apply Kd.R_alloc | apply Kd.R_drewN | apply Kd.R_drew)); exact HO211.out) hb); have n1_ := Aside0.mk (Kd.R_below (by (with_reducible repeat (first | apply Kd.R_alloc | apply Kd.R_drewN | apply Kd.R_drew)); exact HO214.out) hb); have n2_ := Aside0.mk (Kd.R_lower ho0 (below_size (by repeat (first | (with_reducible first | exact HB.out | apply below_alloc | apply pw_below_drewN | apply below_drew1) | exact HB.out)))); have n3_ := Aside0.mk (below_step (by repeat (first | (with_reducible first | exact HB.out | apply below_alloc | apply pw_below_drewN | apply below_drew1) | exact HB.out)) hb); clear HO211; clear HO214; clear HB; have HO211 := n0_; have HO214 := n1_; have HO217 := n2_; have HB := n3_; clear n0_ n1_ n2_ n3_; (try clear hb); (try clear hb2); (try clear hk); (try clear hi); (try clear ho0); obtain ⟨Ao27, co27, eo27⟩ := Kd.R_slice HO217.out; subst eo27; have p218 : 0 ≤ (0 : Int) := (by omega); have q218 : 0 < (t215.length : Int) := of_decide_eq_true (by first | (with_reducible assumption) | assumption); obtain ⟨ad218, e218, hx218_0, hx218_1, hx218_2, hx218_3⟩ := at_T36 (Kd.R_reads' HO217.out).2.2 0 p218 q218; (try rw [← Nbq4.out] at hx218_0); (try rw [← Nbq8.out] at hx218_0); (try rw [← Nbq4.out] at hx218_1); (try rw [← Nbq8.out] at hx218_1); (try rw [← Nbq4.out] at hx218_3); (try rw [← Nbq8.out] at hx218_3); cases e218; have qi218 : (0 < t215.length) = True := eq_true (by omega); (try rw [show ((0 : Int)).toNat = 0 from rfl] at hx218_0); (try rw [show 0 * 4 = 0 from rfl] at hx218_0); (try rw [Addr.add_zero'] at hx218_0); (try rw [show ((0 : Int)).toNat = 0 from rfl] at hx218_1); (try rw [show 0 * 4 = 0 from rfl] at hx218_1); (try rw [Addr.add_zero'] at hx218_1); (try rw [show ((0 : Int)).toNat = 0 from rfl] at hx218_2); (try rw [show 0 * 4 = 0 from rfl] at hx218_2); (try rw [Addr.add_zero'] at hx218_2); (try rw [show ((0 : Int)).toNat = 0 from rfl] at hx218_3); (try rw [show 0 * 4 = 0 from rfl] at hx218_3); (try rw [Addr.add_zero'] at hx218_3); replace p218 := eq_true p218; replace q218 := eq_true q218; have p219 : 0 ≤ (0 : Int) := (by omega); have q219 : 0 < (t215.length : Int) := of_decide_eq_true (by first | (with_reducible assumption) | assumption); obtain ⟨ad219, e219, hx219_0, hx219_1, hx219_2, hx219_3⟩ := at_T36 (Kd.R_reads' HO217.out).2.2 0 p219 q219; (try rw [← Nbq4.out] at hx219_0); (try rw [← Nbq8.out] at hx219_0); (try rw [← Nbq4.out] at hx219_1); (try rw [← Nbq8.out] at hx219_1); (try rw [← Nbq4.out] at hx219_3); (try rw [← Nbq8.out] at hx219_3); obtain rfl : ad218 = ad219 := (by injection e219); have qi219 : (0 < t215.length) = True := eq_true (by omega); (try rw [show ((0 : Int)).toNat = 0 from rfl] at hx219_0); (try rw [show 0 * 4 = 0 from rfl] at hx219_0); (try rw [Addr.add_zero'] at hx219_0); (try rw [show ((0 : Int)).toNat = 0 from rfl] at hx219_1); (try rw [show 0 * 4 = 0 from rfl] at hx219_1); (try rw [Addr.add_zero'] at hx219_1); (try rw [show ((0 : Int)).toNat = 0 from rfl] at hx219_2); (try rw [show 0 * 4 = 0 from rfl] at hx219_2); (try rw [Addr.add_zero'] at hx219_2); (try rw [show ((0 : Int)).toNat = 0 from rfl] at hx219_3); (try rw [show 0 * 4 = 0 from rfl] at hx219_3); (try rw [Addr.add_zero'] at hx219_3); replace p219 := eq_true p219; replace q219 := eq_true q219; have p220 : 0 ≤ (1 : Int) := (by omega); have q220 : 1 < (t215.length : Int) := of_decide_eq_true (by first | (with_reducible assumption) | assumption); obtain ⟨ad220, e220, hx220_0, hx220_1, hx220_2, hx220_3⟩ := at_T36 (Kd.R_reads' HO217.out).2.2 1 p220 q220; (try rw [← Nbq4.out] at hx220_0); (try rw [← Nbq8.out] at hx220_0); (try rw [← Nbq4.out] at hx220_1); (try rw [← Nbq8.out] at hx220_1); (try rw [← Nbq4.out] at hx220_3); (try rw [← Nbq8.out] at hx220_3); obtain rfl : ad218 = ad220 := (by injection e220); (try simp only [show (1 : Int).toNat = 1 from rfl, Nat.reduceMul, Nat.reduceEqDiff, Go.Addr.add, ↓reduceIte] at hx220_0); (try simp only [show (1 : Int).toNat = 1 from rfl, Nat.reduceMul, Nat.reduceEqDiff, Go.Addr.add, ↓reduceIte] at hx220_1); (try simp only [show (1 : Int).toNat = 1 from rfl, Nat.reduceMul, Nat.reduceEqDiff, Go.Addr.add, ↓reduceIte] at hx220_2); (try simp only [show (1 : Int).toNat = 1 from rfl, Nat.reduceMul, Nat.reduceEqDiff, Go.Addr.add, ↓reduceIte] at hx220_3); have qi220 : (1 < t215.length) = True := eq_true (by omega); (try rw [show ((1 : Int)).toNat = 1 from rfl] at hx220_0); (try rw [show 1 * 4 = 4 from rfl] at hx220_0); (try rw [show ((1 : Int)).toNat = 1 from rfl] at hx220_1); (try rw [show 1 * 4 = 4 from rfl] at hx220_1); (try rw [show ((1 : Int)).toNat = 1 from rfl] at hx220_2); (try rw [show 1 * 4 = 4 from rfl] at hx220_2); (try rw [show ((1 : Int)).toNat = 1 from rfl] at hx220_3); (try rw [show 1 * 4 = 4 from rfl] at hx220_3); replace p220 := eq_true p220; replace q220 := eq_true q220; have p221 : 0 ≤ (1 : Int) := (by omega); have q221 : 1 < (t215.length : Int) := of_decide_eq_true (by first | (with_reducible assumption) | assumption); obtain ⟨ad221, e221, hx221_0, hx221_1, hx221_2, hx221_3⟩ := at_T36 (Kd.R_reads' HO217.out).2.2 1 p221 q221; (try rw [← Nbq4.out] at hx221_0); (try rw [← Nbq8.out] at hx221_0); (try rw [← Nbq4.out] at hx221_1); (try rw [← Nbq8.out] at hx221_1); (try rw [← Nbq4.out] at hx221_3); (try rw [← Nbq8.out] at hx221_3); obtain rfl : ad218 = ad221 := (by injection e221); (try simp only [show (1 : Int).toNat = 1 from rfl, Nat.reduceMul, Nat.reduceEqDiff, Go.Addr.add, ↓reduceIte] at hx221_0); (try simp only [show (1 : Int).toNat = 1 from rfl, Nat.reduceMul, Nat.reduceEqDiff, Go.Addr.add, ↓reduceIte] at hx221_1); (try simp only [show (1 : Int).toNat = 1 from rfl, Nat.reduceMul, Nat.reduceEqDiff, Go.Addr.add, ↓reduceIte] at hx221_2); (try simp only [show (1 : Int).toNat = 1 from rfl, Nat.reduceMul, Nat.reduceEqDiff, Go.Addr.add, ↓reduceIte] at hx221_3); have qi221 : (1 < t215.length) = True := eq_true (by omega); (try rw [show ((1 : Int)).toNat = 1 from rfl] at hx221_0); (try rw [show 1 * 4 = 4 from rfl] at hx221_0); (try rw [show ((1 : Int)).toNat = 1 from rfl] at hx221_1); (try rw [show 1 * 4 = 4 from rfl] at hx221_1); (try rw [show ((1 : Int)).toNat = 1 from rfl] at hx221_2); (try rw [show 1 * 4 = 4 from rfl] at hx221_2); (try rw [show ((1 : Int)).toNat = 1 from rfl] at hx221_3); (try rw [show 1 * 4 = 4 from rfl] at hx221_3); replace p221 := eq_true p221; replace q221 := eq_true q221))
                go_ret
                exact ⟨by first | rfl | (simp [errW_none, errW_some] <;> rfl) | (simp [*, errW_none, errW_some] <;> rfl), by repeat (first | (with_reducible first | exact HB.out | apply below_alloc | apply pw_below_drewN | apply below_drew1) | exact HB.out)⟩
            · replace c9 := Bool.eq_false_iff.mpr c9
              subst c9
              have H1 : (some false) = some r := by rw [if_neg (show ¬ (false = true) by decide)] at H; exact H
              clear H
              have H := H1
              clear H1
              obtain rfl := Option.some.inj H
              go_enter Try.func22, Try.ntmps22
              go_wp2_with (first | ((with_reducible refine gate_dst (N := 2) rfl ?_); refine Kd.R_lit Kd.bool _ 4 ?hg (N := 2) ?hd (xs := ([true, false, false] : List Bool)) (inner := [.bool true, .bool false, .bool false]) (ok := fun _ => True) (okp := fun _ => True) ?hr ?hp (fun _ hk => hk) trivial (Below.refl _ _) (Nat.le_refl _) (by simp) ?_; (case hd => rfl); (case hg => rfl); (case hr => first | (go_simp; done) | (go_simp; rfl)); (case hp => exact (Reps.one (show Kd.M Kd.bool _ _ _ true [.bool true] from rfl) (Reps.one (show Kd.M Kd.bool _ _ _ false [.bool false] from rfl) (Reps.one (show Kd.M Kd.bool _ _ _ false [.bool false] from rfl) (Reps.none _ _))))); intro v210 w28 ho29 hb hg_ hnew_; clear hg_ hnew_; (first | rw [← Ny209.out] at ho29 | (simp only [Int.reduceToNat] at ho29; rw [← Ny209.out] at ho29)); have n0_ := Aside0.mk (Kd.R_lower ho29 (below_size (by repeat (first | (with_reducible first | exact HB.out | apply below_alloc | apply pw_below_drewN | apply below_drew1) | exact HB.out)))); have n1_ := Aside0.mk (below_step (by repeat (first | (with_reducible first | exact HB.out | apply below_alloc | apply pw_below_drewN | apply below_drew1) | exact HB.out)) hb); clear HB; have HO211 := n0_; have HB := n1_; clear n0_ n1_; clear hb ho29) | ((with_reducible refine gate_dst (N := 3) rfl ?_); refine Kd.R_lit Kd.bool _ 4 ?hg (N := 3) ?hd (xs := ([false, false, false] : List Bool)) (inner := [.bool false, .bool false, .bool false]) (ok := fun _ => True) (okp := fun _ => True) ?hr ?hp (fun _ hk => hk) trivial (Below.refl _ _) (Nat.le_refl _) (by simp) ?_; (case hd => rfl); (case hg => rfl); (case hr => first | (go_simp; done) | (go_simp; rfl)); (case hp => exact (Reps.one (show Kd.M Kd.bool _ _ _ false [.bool false] from rfl) (Reps.one (show Kd.M Kd.bool _ _ _ false [.bool false] from rfl) (Reps.one (show Kd.M Kd.bool _ _ _ false [.bool false] from rfl) (Reps.none _ _))))); intro v213 w30 ho31 hb hg_ hnew_; clear hg_ hnew_; (first | rw [← Ny212.out] at ho31 | (simp only [Int.reduceToNat] at ho31; rw [← Ny212.out] at ho31)); have n0_ := Aside0.mk (Kd.R_elder' (by (with_reducible repeat (first | apply Kd.R_alloc | apply Kd.R_drewN | apply Kd.R_drew)); exact HO211.out) (Kd.R_base ho31) hb); have n1_ := Aside0.mk (Kd.R_lower (Kd.R_new' ho31 (Kd.R_lt (by (with_reducible repeat (first | apply Kd.R_alloc | apply Kd.R_drewN | apply Kd.R_drew)); exact HO211.out))) (below_size (by repeat (first | (with_reducible first | exact HB.out | apply below_alloc | apply pw_below_drewN | apply below_drew1) | exact HB.out)))); have n2_ := Aside0.mk (below_step (by repeat (first | (with_reducible first | exact HB.out | apply below_alloc | apply pw_below_drewN | apply below_drew1) | exact HB.out)) hb); clear HO211; clear HB; have HO211 := n0_; have HO214 := n1_; have HB := n2_; clear n0_ n1_ n2_; clear hb ho31; obtain ⟨Ao32, co32, eo32⟩ := Kd.R_slice HO211.out; subst eo32; obtain ⟨Ao33, co33, eo33⟩ := Kd.R_slice HO214.out; subst eo33) | ((with_reducible refine gate_callee (f := 21) rfl ?_); refine goesL_ (some 4) rfl rfl Try.func21 (by kernel_rfl) rfl #[.bool true, .int .i64 2, .bool false, .slice Ao32 y209.length co32, .slice Ao33 y212.length co33] rfl (by (try simp only [List.map_toArray, List.map_cons, List.map_nil]); first | done | rfl | (simp only [List.length_drop, List.length_take]; rfl)) ?_; (with_reducible refine (breaker_Run.calls k true 2 false _ _ y209 _ _ y212 t215 _ ?side1 ?side2 ?side3 ?side4 A1.out).mono ?_); (case side1 => repeat (first | exact (Kd.R_reads' HO211.out).2.2 | (with_reducible refine Kd.C_alloc ?_ _) | (with_reducible refine Kd.C_drewN ?_ _) | (with_reducible refine Kd.C_drew ?_))); (case side2 => exact (Kd.R_reads' HO211.out).2.1); (case side3 => repeat (first | exact (Kd.R_reads' HO214.out).2.2 | (with_reducible refine Kd.C_alloc ?_ _) | (with_reducible refine Kd.C_drewN ?_ _) | (with_reducible refine Kd.C_drew ?_))); (case side4 => exact (Kd.R_reads' HO214.out).2.1); rintro e w34 ⟨v216, rfl, ho0, hb⟩; refine ⟨_, rfl, ?_⟩; have n0_ := Aside0.mk (Kd.R_below (by (with_reducible repeat (first | apply Kd.R_alloc | apply Kd.R_drewN | apply Kd.R_drew)); exact HO211.out) hb); have n1_ := Aside0.mk (Kd.R_below (by (with_reducible repeat (first | apply Kd.R_alloc | apply Kd.R_drewN | apply Kd.R_drew)); exact HO214.out) hb); have n2_ := Aside0.mk (Kd.R_lower ho0 (below_size (by repeat (first | (with_reducible first | exact HB.out | apply below_alloc | apply pw_below_drewN | apply below_drew1) | exact HB.out)))); have n3_ := Aside0.mk (below_step (by repeat (first | (with_reducible first | exact HB.out | apply below_alloc | apply pw_below_drewN | apply below_drew1) | exact HB.out)) hb); clear HO211; clear HO214; clear HB; have HO211 := n0_; have HO214 := n1_; have HO217 := n2_; have HB := n3_; clear n0_ n1_ n2_ n3_; (try clear hb); (try clear hb2); (try clear hk); (try clear hi); (try clear ho0); obtain ⟨Ao35, co35, eo35⟩ := Kd.R_slice HO217.out; subst eo35; have p218 : 0 ≤ (0 : Int) := (by omega); have q218 : 0 < (t215.length : Int) := of_decide_eq_true (by first | (with_reducible assumption) | assumption); obtain ⟨ad218, e218, hx218_0, hx218_1, hx218_2, hx218_3⟩ := at_T36 (Kd.R_reads' HO217.out).2.2 0 p218 q218; (try rw [← Nbq4.out] at hx218_0); (try rw [← Nbq8.out] at hx218_0); (try rw [← Nbq4.out] at hx218_1); (try rw [← Nbq8.out] at hx218_1); (try rw [← Nbq4.out] at hx218_3); (try rw [← Nbq8.out] at hx218_3); cases e218; have qi218 : (0 < t215.length) = True := eq_true (by omega); (try rw [show ((0 : Int)).toNat = 0 from rfl] at hx218_0); (try rw [show 0 * 4 = 0 from rfl] at hx218_0); (try rw [Addr.add_zero'] at hx218_0); (try rw [show ((0 : Int)).toNat = 0 from rfl] at hx218_1); (try rw [show 0 * 4 = 0 from rfl] at hx218_1); (try rw [Addr.add_zero'] at hx218_1); (try rw [show ((0 : Int)).toNat = 0 from rfl] at hx218_2); (try rw [show 0 * 4 = 0 from rfl] at hx218_2); (try rw [Addr.add_zero'] at hx218_2); (try rw [show ((0 : Int)).toNat = 0 from rfl] at hx218_3); (try rw [show 0 * 4 = 0 from rfl] at hx218_3); (try rw [Addr.add_zero'] at hx218_3); replace p218 := eq_true p218; replace q218 := eq_true q218; have p219 : 0 ≤ (0 : Int) := (by omega); have q219 : 0 < (t215.length : Int) := of_decide_eq_true (by first | (with_reducible assumption) | assumption); obtain ⟨ad219, e219, hx219_0, hx219_1, hx219_2, hx219_3⟩ := at_T36 (Kd.R_reads' HO217.out).2.2 0 p219 q219; (try rw [← Nbq4.out] at hx219_0); (try rw [← Nbq8.out] at hx219_0); (try rw [← Nbq4.out] at hx219_1); (try rw [← Nbq8.out] at hx219_1); (try rw [← Nbq4.out] at hx219_3); (try rw [← Nbq8.out] at hx219_3); obtain rfl : ad218 = ad219 := (by injection e219); have qi219 : (0 < t215.length) = True := eq_true (by omega); (try rw [show ((0 : Int)).toNat = 0 from rfl] at hx219_0); (try rw [show 0 * 4 = 0 from rfl] at hx219_0); (try rw [Addr.add_zero'] at hx219_0); (try rw [show ((0 : Int)).toNat = 0 from rfl] at hx219_1); (try rw [show 0 * 4 = 0 from rfl] at hx219_1); (try rw [Addr.add_zero'] at hx219_1); (try rw [show ((0 : Int)).toNat = 0 from rfl] at hx219_2); (try rw [show 0 * 4 = 0 from rfl] at hx219_2); (try rw [Addr.add_zero'] at hx219_2); (try rw [show ((0 : Int)).toNat = 0 from rfl] at hx219_3); (try rw [show 0 * 4 = 0 from rfl] at hx219_3); (try rw [Addr.add_zero'] at hx219_3); replace p219 := eq_true p219; replace q219 := eq_true q219; have p220 : 0 ≤ (1 : Int) := (by omega); have q220 : 1 < (t215.length : Int) := of_decide_eq_true (by first | (with_reducible assumption) | assumption); obtain ⟨ad220, e220, hx220_0, hx220_1, hx220_2, hx220_3⟩ := at_T36 (Kd.R_reads' HO217.out).2.2 1 p220 q220; (try rw [← Nbq4.out] at hx220_0); (try rw [← Nbq8.out] at hx220_0); (try rw [← Nbq4.out] at hx220_1); (try rw [← Nbq8.out] at hx220_1); (try rw [← Nbq4.out] at hx220_3); (try rw [← Nbq8.out] at hx220_3); obtain rfl : ad218 = ad220 := (by injection e220); (try simp only [show (1 : Int).toNat = 1 from rfl, Nat.reduceMul, Nat.reduceEqDiff, Go.Addr.add, ↓reduceIte] at hx220_0); (try simp only [show (1 : Int).toNat = 1 from rfl, Nat.reduceMul, Nat.reduceEqDiff, Go.Addr.add, ↓reduceIte] at hx220_1); (try simp only [show (1 : Int).toNat = 1 from rfl, Nat.reduceMul, Nat.reduceEqDiff, Go.Addr.add, ↓reduceIte] at hx220_2); (try simp only [show (1 : Int).toNat = 1 from rfl, Nat.reduceMul, Nat.reduceEqDiff, Go.Addr.add, ↓reduceIte] at hx220_3); have qi220 : (1 < t215.length) = True := eq_true (by omega); (try rw [show ((1 : Int)).toNat = 1 from rfl] at hx220_0); (try rw [show 1 * 4 = 4 from rfl] at hx220_0); (try rw [show ((1 : Int)).toNat = 1 from rfl] at hx220_1); (try rw [show 1 * 4 = 4 from rfl] at hx220_1); (try rw [show ((1 : Int)).toNat = 1 from rfl] at hx220_2); (try rw [show 1 * 4 = 4 from rfl] at hx220_2); (try rw [show ((1 : Int)).toNat = 1 from rfl] at hx220_3); (try rw [show 1 * 4 = 4 from rfl] at hx220_3); replace p220 := eq_true p220; replace q220 := eq_true q220))
              go_ret
              exact ⟨by first | rfl | (simp [errW_none, errW_some] <;> rfl) | (simp [*, errW_none, errW_some] <;> rfl), by repeat (first | (with_reducible first | exact HB.out | apply below_alloc | apply pw_below_drewN | apply below_drew1) | exact HB.out)⟩
          · rw [if_neg c7] at H
            exact absurd H (by simp)
        · rw [if_neg c6] at H
          have c6b0 : (((rd_T36 t215 0).f2) == 2) = false := beq_eq_false_iff_ne.mpr c6
          have c6b1 : (((rd_T36 t215 0).f2) != 2) = true := bne_iff_ne.mpr c6
          obtain rfl := Option.some.inj H
          go_enter Try.func22, Try.ntmps22
          go_wp2_with (first | ((with_reducible refine gate_dst (N := 2) rfl ?_); refine Kd.R_lit Kd.bool _ 4 ?hg (N := 2) ?hd (xs := ([true, false, false] : List Bool)) (inner := [.bool true, .bool false, .bool false]) (ok := fun _ => True) (okp := fun _ => True) ?hr ?hp (fun _ hk => hk) trivial (Below.refl _ _) (Nat.le_refl _) (by simp) ?_; (case hd => rfl); (case hg => rfl); (case hr => first | (go_simp; done) | (go_simp; rfl)); (case hp => exact (Reps.one (show Kd.M Kd.bool _ _ _ true [.bool true] from rfl) (Reps.one (show Kd.M Kd.bool _ _ _ false [.bool false] from rfl) (Reps.one (show Kd.M Kd.bool _ _ _ false [.bool false] from rfl) (Reps.none _ _))))); intro v210 w36 ho37 hb hg_ hnew_; clear hg_ hnew_; (first | rw [← Ny209.out] at ho37 | (simp only [Int.reduceToNat] at ho37; rw [← Ny209.out] at ho37)); have n0_ := Aside0.mk (Kd.R_lower ho37 (below_size (by repeat (first | (with_reducible first | exact HB.out | apply below_alloc | apply pw_below_drewN | apply below_drew1) | exact HB.out)))); have n1_ := Aside0.mk (below_step (by repeat (first | (with_reducible first | exact HB.out | apply below_alloc | apply pw_below_drewN | apply below_drew1) | exact HB.out)) hb); clear HB; have HO211 := n0_; have HB := n1_; clear n0_ n1_; clear hb ho37) | ((with_reducible refine gate_dst (N := 3) rfl ?_); refine Kd.R_lit Kd.bool _ 4 ?hg (N := 3) ?hd (xs := ([false, false, false] : List Bool)) (inner := [.bool false, .bool false, .bool false]) (ok := fun _ => True) (okp := fun _ => True) ?hr ?hp (fun _ hk => hk) trivial (Below.refl _ _) (Nat.le_refl _) (by simp) ?_; (case hd => rfl); (case hg => rfl); (case hr => first | (go_simp; done) | (go_simp; rfl)); (case hp => exact (Reps.one (show Kd.M Kd.bool _ _ _ false [.bool false] from rfl) (Reps.one (show Kd.M Kd.bool _ _ _ false [.bool false] from rfl) (Reps.one (show Kd.M Kd.bool _ _ _ false [.bool false] from rfl) (Reps.none _ _))))); intro v213 w38 ho39 hb hg_ hnew_; clear hg_ hnew_; (first | rw [← Ny212.out] at ho39 | (simp only [Int.reduceToNat] at ho39; rw [← Ny212.out] at ho39)); have n0_ := Aside0.mk (Kd.R_elder' (by (with_reducible repeat (first | apply Kd.R_alloc | apply Kd.R_drewN | apply Kd.R_drew)); exact HO211.out) (Kd.R_base ho39) hb); have n1_ := Aside0.mk (Kd.R_lower (Kd.R_new' ho39 (Kd.R_lt (by (with_reducible repeat (first | apply Kd.R_alloc | apply Kd.R_drewN | apply Kd.R_drew)); exact HO211.out))) (below_size (by repeat (first | (with_reducible first | exact HB.out | apply below_alloc | apply pw_below_drewN | apply below_drew1) | exact HB.out)))); have n2_ := Aside0.mk (below_step (by repeat (first | (with_reducible first | exact HB.out | apply below_alloc | apply pw_below_drewN | apply below_drew1) | exact HB.out)) hb); clear HO211; clear HB; have HO211 := n0_; have HO214 := n1_; have HB := n2_; clear n0_ n1_ n2_; clear hb ho39; obtain ⟨Ao40, co40, eo40⟩ := Kd.R_slice HO211.out; subst eo40; obtain ⟨Ao41, co41, eo41⟩ := Kd.R_slice HO214.out; subst eo41) | ((with_reducible refine gate_callee (f := 21) rfl ?_); refine goesL_ (some 4) rfl rfl Try.func21 (by kernel_rfl) rfl #[.bool true, .int .i64 2, .bool false, .slice Ao40 y209.length co40, .slice Ao41 y212.length co41] rfl (by (try simp only [List.map_toArray, List.map_cons, List.map_nil]); first | done | rfl | (simp only [List.length_drop, List.length_take]; rfl)) ?_; (with_reducible refine (breaker_Run.calls k true 2 false _ _ y209 _ _ y212 t215 _ ?side1 ?side2 ?side3 ?side4 A1.out).mono ?_); (case side1 => repeat (first | exact (Kd.R_reads' HO211.out).2.2 | (with_reducible refine Kd.C_alloc ?_ _) | (with_reducible refine Kd.C_drewN ?_ _) | (with_reducible refine Kd.C_drew ?_))); (case side2 => exact (Kd.R_reads' HO211.out).2.1); (case side3 => repeat (first | exact (Kd.R_reads' HO214.out).2.2 | (with_reducible refine Kd.C_alloc ?_ _) | (with_reducible refine Kd.C_drewN ?_ _) | (with_reducible refine Kd.C_drew ?_))); (case side4 => exact (Kd.R_reads' HO214.out).2.1); rintro e w42 ⟨v216, rfl, ho0, hb⟩; refine ⟨_, rfl, ?_⟩; have n0_ := Aside0.mk (Kd.R_below (by (with_reducible repeat (first | apply Kd.R_alloc | apply Kd.R_drewN | apply Kd.R_drew)); exact HO211.out) hb); have n1_ := Aside0.mk (Kd.R_below (by (with_reducible repeat (first | apply Kd.R_alloc | apply Kd.R_drewN | apply Kd.R_drew)); exact HO214.out) hb); have n2_ := Aside0.mk (Kd.R_lower ho0 (below_size (by repeat (first | (with_reducible first | exact HB.out | apply below_alloc | apply pw_below_drewN | apply below_drew1) | exact HB.out)))); have n3_ := Aside0.mk (below_step (by repeat (first | (with_reducible first | exact HB.out | apply below_alloc | apply pw_below_drewN | apply below_drew1) | exact HB.out)) hb); clear HO211; clear HO214; clear HB; have HO211 := n0_; have HO214 := n1_; have HO217 := n2_; have HB := n3_; clear n0_ n1_ n2_ n3_; (try clear hb); (try clear hb2); (try clear hk); (try clear hi); (try clear ho0); obtain ⟨Ao43, co43, eo43⟩ := Kd.R_slice HO217.out; subst eo43; have p218 : 0 ≤ (0 : Int) := (by omega); have q218 : 0 < (t215.length : Int) := of_decide_eq_true (by first | (with_reducible assumption) | assumption); obtain ⟨ad218, e218, hx218_0, hx218_1, hx218_2, hx218_3⟩ := at_T36 (Kd.R_reads' HO217.out).2.2 0 p218 q218; (try rw [← Nbq4.out] at hx218_0); (try rw [← Nbq4.out] at hx218_1); (try rw [← Nbq4.out] at hx218_3); cases e218; have qi218 : (0 < t215.length) = True := eq_true (by omega); (try rw [show ((0 : Int)).toNat = 0 from rfl] at hx218_0); (try rw [show 0 * 4 = 0 from rfl] at hx218_0); (try rw [Addr.add_zero'] at hx218_0); (try rw [show ((0 : Int)).toNat = 0 from rfl] at hx218_1); (try rw [show 0 * 4 = 0 from rfl] at hx218_1); (try rw [Addr.add_zero'] at hx218_1); (try rw [show ((0 : Int)).toNat = 0 from rfl] at hx218_2); (try rw [show 0 * 4 = 0 from rfl] at hx218_2); (try rw [Addr.add_zero'] at hx218_2); (try rw [show ((0 : Int)).toNat = 0 from rfl] at hx218_3); (try rw [show 0 * 4 = 0 from rfl] at hx218_3); (try rw [Addr.add_zero'] at hx218_3); replace p218 := eq_true p218; replace q218 := eq_true q218; have p219 : 0 ≤ (0 : Int) := (by omega); have q219 : 0 < (t215.length : Int) := of_decide_eq_true (by first | (with_reducible assumption) | assumption); obtain ⟨ad219, e219, hx219_0, hx219_1, hx219_2, hx219_3⟩ := at_T36 (Kd.R_reads' HO217.out).2.2 0 p219 q219; (try rw [← Nbq4.out] at hx219_0); (try rw [← Nbq4.out] at hx219_1); (try rw [← Nbq4.out] at hx219_3); obtain rfl : ad218 = ad219 := (by injection e219); have qi219 : (0 < t215.length) = True := eq_true (by omega); (try rw [show ((0 : Int)).toNat = 0 from rfl] at hx219_0); (try rw [show 0 * 4 = 0 from rfl] at hx219_0); (try rw [Addr.add_zero'] at hx219_0); (try rw [show ((0 : Int)).toNat = 0 from rfl] at hx219_1); (try rw [show 0 * 4 = 0 from rfl] at hx219_1); (try rw [Addr.add_zero'] at hx219_1); (try rw [show ((0 : Int)).toNat = 0 from rfl] at hx219_2); (try rw [show 0 * 4 = 0 from rfl] at hx219_2); (try rw [Addr.add_zero'] at hx219_2); (try rw [show ((0 : Int)).toNat = 0 from rfl] at hx219_3); (try rw [show 0 * 4 = 0 from rfl] at hx219_3); (try rw [Addr.add_zero'] at hx219_3); replace p219 := eq_true p219; replace q219 := eq_true q219))
          go_ret
          exact ⟨by first | rfl | (simp [errW_none, errW_some] <;> rfl) | (simp [*, errW_none, errW_some] <;> rfl), by repeat (first | (with_reducible first | exact HB.out | apply below_alloc | apply pw_below_drewN | apply below_drew1) | exact HB.out)⟩
      · replace c5 := Bool.eq_false_iff.mpr c5
        subst c5
        have H1 : (some false) = some r := by rw [if_neg (show ¬ (false = true) by decide)] at H; exact H
        clear H
        have H := H1
        clear H1
        obtain rfl := Option.some.inj H
        go_enter Try.func22, Try.ntmps22
        go_wp2_with (first | ((with_reducible refine gate_dst (N := 2) rfl ?_); refine Kd.R_lit Kd.bool _ 4 ?hg (N := 2) ?hd (xs := ([true, false, false] : List Bool)) (inner := [.bool true, .bool false, .bool false]) (ok := fun _ => True) (okp := fun _ => True) ?hr ?hp (fun _ hk => hk) trivial (Below.refl _ _) (Nat.le_refl _) (by simp) ?_; (case hd => rfl); (case hg => rfl); (case hr => first | (go_simp; done) | (go_simp; rfl)); (case hp => exact (Reps.one (show Kd.M Kd.bool _ _ _ true [.bool true] from rfl) (Reps.one (show Kd.M Kd.bool _ _ _ false [.bool false] from rfl) (Reps.one (show Kd.M Kd.bool _ _ _ false [.bool false] from rfl) (Reps.none _ _))))); intro v210 w44 ho45 hb hg_ hnew_; clear hg_ hnew_; (first | rw [← Ny209.out] at ho45 | (simp only [Int.reduceToNat] at ho45; rw [← Ny209.out] at ho45)); have n0_ := Aside0.mk (Kd.R_lower ho45 (below_size (by repeat (first | (with_reducible first | exact HB.out | apply below_alloc | apply pw_below_drewN | apply below_drew1) | exact HB.out)))); have n1_ := Aside0.mk (below_step (by repeat (first | (with_reducible first | exact HB.out | apply below_alloc | apply pw_below_drewN | apply below_drew1) | exact HB.out)) hb); clear HB; have HO211 := n0_; have HB := n1_; clear n0_ n1_; clear hb ho45) | ((with_reducible refine gate_dst (N := 3) rfl ?_); refine Kd.R_lit Kd.bool _ 4 ?hg (N := 3) ?hd (xs := ([false, false, false] : List Bool)) (inner := [.bool false, .bool false, .bool false]) (ok := fun _ => True) (okp := fun _ => True) ?hr ?hp (fun _ hk => hk) trivial (Below.refl _ _) (Nat.le_refl _) (by simp) ?_; (case hd => rfl); (case hg => rfl); (case hr => first | (go_simp; done) | (go_simp; rfl)); (case hp => exact (Reps.one (show Kd.M Kd.bool _ _ _ false [.bool false] from rfl) (Reps.one (show Kd.M Kd.bool _ _ _ false [.bool false] from rfl) (Reps.one (show Kd.M Kd.bool _ _ _ false [.bool false] from rfl) (Reps.none _ _))))); intro v213 w46 ho47 hb hg_ hnew_; clear hg_ hnew_; (first | rw [← Ny212.out] at ho47 | (simp only [Int.reduceToNat] at ho47; rw [← Ny212.out] at ho47)); have n0_ := Aside0.mk (Kd.R_elder' (by (with_reducible repeat (first | apply Kd.R_alloc | apply Kd.R_drewN | apply Kd.R_drew)); exact HO211.out) (Kd.R_base ho47) hb); have n1_ := Aside0.mk (Kd.R_lower (Kd.R_new' ho47 (Kd.R_lt (by (with_reducible repeat (first | apply Kd.R_alloc | apply Kd.R_drewN | apply Kd.R_drew)); exact HO211.out))) (below_size (by repeat (first | (with_reducible first | exact HB.out | apply below_alloc | apply pw_below_drewN | apply below_drew1) | exact HB.out)))); have n2_ := Aside0.mk (below_step (by repeat (first | (with_reducible first | exact HB.out | apply below_alloc | apply pw_below_drewN | apply below_drew1) | exact HB.out)) hb); clear HO211; clear HB; have HO211 := n0_; have HO214 := n1_; have HB := n2_; clear n0_ n1_ n2_; clear hb ho47; obtain ⟨Ao48, co48, eo48⟩ := Kd.R_slice HO211.out; subst eo48; obtain ⟨Ao49, co49, eo49⟩ := Kd.R_slice HO214.out; subst eo49) | ((with_reducible refine gate_callee (f := 21) rfl ?_); refine goesL_ (some 4) rfl rfl Try.func21 (by kernel_rfl) rfl #[.bool true, .int .i64 2, .bool false, .slice Ao48 y209.length co48, .slice Ao49 y212.length co49] rfl (by (try simp only [List.map_toArray, List.map_cons, List.map_nil]); first | done | rfl | (simp only [List.length_drop, List.length_take]; rfl)) ?_; (with_reducible refine (breaker_Run.calls k true 2 false _ _ y209 _ _ y212 t215 _ ?side1 ?side2 ?side3 ?side4 A1.out).mono ?_); (case side1 => repeat (first | exact (Kd.R_reads' HO211.out).2.2 | (with_reducible refine Kd.C_alloc ?_ _) | (with_reducible refine Kd.C_drewN ?_ _) | (with_reducible refine Kd.C_drew ?_))); (case side2 => exact (Kd.R_reads' HO211.out).2.1); (case side3 => repeat (first | exact (Kd.R_reads' HO214.out).2.2 | (with_reducible refine Kd.C_alloc ?_ _) | (with_reducible refine Kd.C_drewN ?_ _) | (with_reducible refine Kd.C_drew ?_))); (case side4 => exact (Kd.R_reads' HO214.out).2.1); rintro e w50 ⟨v216, rfl, ho0, hb⟩; refine ⟨_, rfl, ?_⟩; have n0_ := Aside0.mk (Kd.R_below (by (with_reducible repeat (first | apply Kd.R_alloc | apply Kd.R_drewN | apply Kd.R_drew)); exact HO211.out) hb); have n1_ := Aside0.mk (Kd.R_below (by (with_reducible repeat (first | apply Kd.R_alloc | apply Kd.R_drewN | apply Kd.R_drew)); exact HO214.out) hb); have n2_ := Aside0.mk (Kd.R_lower ho0 (below_size (by repeat (first | (with_reducible first | exact HB.out | apply below_alloc | apply pw_below_drewN | apply below_drew1) | exact HB.out)))); have n3_ := Aside0.mk (below_step (by repeat (first | (with_reducible first | exact HB.out | apply below_alloc | apply pw_below_drewN | apply below_drew1) | exact HB.out)) hb); clear HO211; clear HO214; clear HB; have HO211 := n0_; have HO214 := n1_; have HO217 := n2_; have HB := n3_; clear n0_ n1_ n2_ n3_; (try clear hb); (try clear hb2); (try clear hk); (try clear hi); (try clear ho0); obtain ⟨Ao51, co51, eo51⟩ := Kd.R_slice HO217.out; subst eo51; have p218 : 0 ≤ (0 : Int) := (by omega); have q218 : 0 < (t215.length : Int) := of_decide_eq_true (by first | (with_reducible assumption) | assumption); obtain ⟨ad218, e218, hx218_0, hx218_1, hx218_2, hx218_3⟩ := at_T36 (Kd.R_reads' HO217.out).2.2 0 p218 q218; (try rw [← Nbq4.out] at hx218_0); (try rw [← Nbq4.out] at hx218_1); (try rw [← Nbq4.out] at hx218_3); cases e218; have qi218 : (0 < t215.length) = True := eq_true (by omega); (try rw [show ((0 : Int)).toNat = 0 from rfl] at hx218_0); (try rw [show 0 * 4 = 0 from rfl] at hx218_0); (try rw [Addr.add_zero'] at hx218_0); (try rw [show ((0 : Int)).toNat = 0 from rfl] at hx218_1); (try rw [show 0 * 4 = 0 from rfl] at hx218_1); (try rw [Addr.add_zero'] at hx218_1); (try rw [show ((0 : Int)).toNat = 0 from rfl] at hx218_2); (try rw [show 0 * 4 = 0 from rfl] at hx218_2); (try rw [Addr.add_zero'] at hx218_2); (try rw [show ((0 : Int)).toNat = 0 from rfl] at hx218_3); (try rw [show 0 * 4 = 0 from rfl] at hx218_3); (try rw [Addr.add_zero'] at hx218_3); replace p218 := eq_true p218; replace q218 := eq_true q218))
        go_ret
        exact ⟨by first | rfl | (simp [errW_none, errW_some] <;> rfl) | (simp [*, errW_none, errW_some] <;> rfl), by repeat (first | (with_reducible first | exact HB.out | apply below_alloc | apply pw_below_drewN | apply below_drew1) | exact HB.out)⟩
    · rw [if_neg c3] at H
      exact absurd H (by simp)
  · rw [if_neg c2] at H
    have c2b0 : ((t215.length : Int) == 3) = false := beq_eq_false_iff_ne.mpr c2
    have c2b1 : ((t215.length : Int) != 3) = true := bne_iff_ne.mpr c2
    obtain rfl := Option.some.inj H
    go_enter Try.func22, Try.ntmps22
    go_wp2_with (first | ((with_reducible refine gate_dst (N := 2) rfl ?_); refine Kd.R_lit Kd.bool _ 4 ?hg (N := 2) ?hd (xs := ([true, false, false] : List Bool)) (inner := [.bool true, .bool false, .bool false]) (ok := fun _ => True) (okp := fun _ => True) ?hr ?hp (fun _ hk => hk) trivial (Below.refl _ _) (Nat.le_refl _) (by simp) ?_; (case hd => rfl); (case hg => rfl); (case hr => first | (go_simp; done) | (go_simp; rfl)); (case hp => exact (Reps.one (show Kd.M Kd.bool _ _ _ true [.bool true] from rfl) (Reps.one (show Kd.M Kd.bool _ _ _ false [.bool false] from rfl) (Reps.one (show Kd.M Kd.bool _ _ _ false [.bool false] from rfl) (Reps.none _ _))))); intro v210 w52 ho53 hb hg_ hnew_; clear hg_ hnew_; (first | rw [← Ny209.out] at ho53 | (simp only [Int.reduceToNat] at ho53; rw [← Ny209.out] at ho53)); have n0_ := Aside0.mk (Kd.R_lower ho53 (below_size (by repeat (first | (with_reducible first | exact HB.out | apply below_alloc | apply pw_below_drewN | apply below_drew1) | exact HB.out)))); have n1_ := Aside0.mk (below_step (by repeat (first | (with_reducible first | exact HB.out | apply below_alloc | apply pw_below_drewN | apply below_drew1) | exact HB.out)) hb); clear HB; have HO211 := n0_; have HB := n1_; clear n0_ n1_; clear hb ho53) | ((with_reducible refine gate_dst (N := 3) rfl ?_); refine Kd.R_lit Kd.bool _ 4 ?hg (N := 3) ?hd (xs := ([false, false, false] : List Bool)) (inner := [.bool false, .bool false, .bool false]) (ok := fun _ => True) (okp := fun _ => True) ?hr ?hp (fun _ hk => hk) trivial (Below.refl _ _) (Nat.le_refl _) (by simp) ?_; (case hd => rfl); (case hg => rfl); (case hr => first | (go_simp; done) | (go_simp; rfl)); (case hp => exact (Reps.one (show Kd.M Kd.bool _ _ _ false [.bool false] from rfl) (Reps.one (show Kd.M Kd.bool _ _ _ false [.bool false] from rfl) (Reps.one (show Kd.M Kd.bool _ _ _ false [.bool false] from rfl) (Reps.none _ _))))); intro v213 w54 ho55 hb hg_ hnew_; clear hg_ hnew_; (first | rw [← Ny212.out] at ho55 | (simp only [Int.reduceToNat] at ho55; rw [← Ny212.out] at ho55)); have n0_ := Aside0.mk (Kd.R_elder' (by (with_reducible repeat (first | apply Kd.R_alloc | apply Kd.R_drewN | apply Kd.R_drew)); exact HO211.out) (Kd.R_base ho55) hb); have n1_ := Aside0.mk (Kd.R_lower (Kd.R_new' ho55 (Kd.R_lt (by (with_reducible repeat (first | apply Kd.R_alloc | apply Kd.R_drewN | apply Kd.R_drew)); exact HO211.out))) (below_size (by repeat (first | (with_reducible first | exact HB.out | apply below_alloc | apply pw_below_drewN | apply below_drew1) | exact HB.out)))); have n2_ := Aside0.mk (below_step (by repeat (first | (with_reducible first | exact HB.out | apply below_alloc | apply pw_below_drewN | apply below_drew1) | exact HB.out)) hb); clear HO211; clear HB; have HO211 := n0_; have HO214 := n1_; have HB := n2_; clear n0_ n1_ n2_; clear hb ho55; obtain ⟨Ao56, co56, eo56⟩ := Kd.R_slice HO211.out; subst eo56; obtain ⟨Ao57, co57, eo57⟩ := Kd.R_slice HO214.out; subst eo57) | ((with_reducible refine gate_callee (f := 21) rfl ?_); refine goesL_ (some 4) rfl rfl Try.func21 (by kernel_rfl) rfl #[.bool true, .int .i64 2, .bool false, .slice Ao56 y209.length co56, .slice Ao57 y212.length co57] rfl (by (try simp only [List.map_toArray, List.map_cons, List.map_nil]); first | done | rfl | (simp only [List.length_drop, List.length_take]; rfl)) ?_; (with_reducible refine (breaker_Run.calls k true 2 false _ _ y209 _ _ y212 t215 _ ?side1 ?side2 ?side3 ?side4 A1.out).mono ?_); (case side1 => repeat (first | exact (Kd.R_reads' HO211.out).2.2 | (with_reducible refine Kd.C_alloc ?_ _) | (with_reducible refine Kd.C_drewN ?_ _) | (with_reducible refine Kd.C_drew ?_))); (case side2 => exact (Kd.R_reads' HO211.out).2.1); (case side3 => repeat (first | exact (Kd.R_reads' HO214.out).2.2 | (with_reducible refine Kd.C_alloc ?_ _) | (with_reducible refine Kd.C_drewN ?_ _) | (with_reducible refine Kd.C_drew ?_))); (case side4 => exact (Kd.R_reads' HO214.out).2.1); rintro e w58 ⟨v216, rfl, ho0, hb⟩; refine ⟨_, rfl, ?_⟩; have n0_ := Aside0.mk (Kd.R_below (by (with_reducible repeat (first | apply Kd.R_alloc | apply Kd.R_drewN | apply Kd.R_drew)); exact HO211.out) hb); have n1_ := Aside0.mk (Kd.R_below (by (with_reducible repeat (first | apply Kd.R_alloc | apply Kd.R_drewN | apply Kd.R_drew)); exact HO214.out) hb); have n2_ := Aside0.mk (Kd.R_lower ho0 (below_size (by repeat (first | (with_reducible first | exact HB.out | apply below_alloc | apply pw_below_drewN | apply below_drew1) | exact HB.out)))); have n3_ := Aside0.mk (below_step (by repeat (first | (with_reducible first | exact HB.out | apply below_alloc | apply pw_below_drewN | apply below_drew1) | exact HB.out)) hb); clear HO211; clear HO214; clear HB; have HO211 := n0_; have HO214 := n1_; have HO217 := n2_; have HB := n3_; clear n0_ n1_ n2_ n3_; (try clear hb); (try clear hb2); (try clear hk); (try clear hi); (try clear ho0); obtain ⟨Ao59, co59, eo59⟩ := Kd.R_slice HO217.out; subst eo59))
    go_ret
    exact ⟨by first | rfl | (simp [errW_none, errW_some] <;> rfl) | (simp [*, errW_none, errW_some] <;> rfl), by repeat (first | (with_reducible first | exact HB.out | apply below_alloc | apply pw_below_drewN | apply below_drew1) | exact HB.out)⟩

-- NOT PRINTED: function 7 (substationlaw29_BreakerExamples)

/-! ### substationref29_ValidBreaker: function 24 -/
def substationref29_ValidBreaker.j0 : Nat → Bool → Bool → Bool → Int → Bool → Option (Bool)
  | 0, _, _, _, _, _ => none
  | k + 1, x30, x270000, x270001, x270002, x270003 => if x30 = true then (some false) else (if x270002 = 0 then (some (!x270001)) else (some (x270000 != x270001)))
def substationref29_ValidBreaker.f (k : Nat) (a0_0 : Bool) (a0_1 : Bool) (a0_2 : Int) (a0_3 : Bool) (a1 : Int) : Option (Bool) := if a1 < 1 then (substationref29_ValidBreaker.j0 k true a0_0 a0_1 a0_2 a0_3) else (if a1 > 6 then (substationref29_ValidBreaker.j0 k true a0_0 a0_1 a0_2 a0_3) else (if a0_2 < 0 then (substationref29_ValidBreaker.j0 k true a0_0 a0_1 a0_2 a0_3) else (if a0_2 > a1 then (substationref29_ValidBreaker.j0 k true a0_0 a0_1 a0_2 a0_3) else (if a0_3 = true then (substationref29_ValidBreaker.j0 k (!a0_0) a0_0 a0_1 a0_2 a0_3) else (substationref29_ValidBreaker.j0 k false a0_0 a0_1 a0_2 a0_3)))))
theorem substationref29_ValidBreaker.mono_l : ∀ k, (∀ y0 y1 y2 y3 y4, LeO (substationref29_ValidBreaker.j0 k y0 y1 y2 y3 y4) (substationref29_ValidBreaker.j0 (k + 1) y0 y1 y2 y3 y4))
  | 0 => fun _ _ _ _ _ r h => by simp [substationref29_ValidBreaker.j0] at h
  | k + 1 => by
    have ih0 := substationref29_ValidBreaker.mono_l k
    · intro y0 y1 y2 y3 y4
      unfold substationref29_ValidBreaker.j0
      repeat' first
      | (with_reducible exact ih0 _ _ _ _ _)
      | (with_reducible exact LeO.refl _)
      | (with_reducible exact LeO.none _)
      | (with_reducible refine LeO.ite ?_ ?_)
      | (with_reducible refine LeO.bind ?_ (fun _ => ?_))
      | exact ih0 _ _ _ _ _
      | exact LeO.none _
      | refine LeO.ite ?_ ?_
      | refine LeO.bind ?_ (fun _ => ?_)
theorem substationref29_ValidBreaker.mono : ∀ a0 a1 a2 a3 a4 k, LeO (substationref29_ValidBreaker.f k a0 a1 a2 a3 a4) (substationref29_ValidBreaker.f (k + 1) a0 a1 a2 a3 a4) := by
  intro a0 a1 a2 a3 a4 k
  have ih0 := substationref29_ValidBreaker.mono_l k
  unfold substationref29_ValidBreaker.f
  repeat' first
      | (with_reducible exact ih0 _ _ _ _ _)
      | (with_reducible exact LeO.refl _)
      | (with_reducible exact LeO.none _)
      | (with_reducible refine LeO.ite ?_ ?_)
      | (with_reducible refine LeO.bind ?_ (fun _ => ?_))
      | exact ih0 _ _ _ _ _
      | exact LeO.none _
      | refine LeO.ite ?_ ?_
      | refine LeO.bind ?_ (fun _ => ?_)
set_option maxHeartbeats 8000000 in
set_option maxRecDepth 100000 in
theorem substationref29_ValidBreaker.calls (k : Nat) (a0_0 : Bool) (a0_1 : Bool) (a0_2 : Int) (a0_3 : Bool) (a1 : Int) (r : Bool) (w : World) (h : substationref29_ValidBreaker.f k a0_0 a0_1 a0_2 a0_3 a1 = some r) :
    Calls Try.prog 24 #[.agg #[.bool a0_0, .bool a0_1, .int .i64 a0_2, .bool a0_3], .int .i64 a1] w fun e w' => e = .returned (.bool r) ∧ Below w.heap.size w w' := by
  have hu36 := Try.underlying36
  have HB := Aside0.mk (Below.refl w.heap.size w)
  have H : (if a1 < 1 then (substationref29_ValidBreaker.j0 k true a0_0 a0_1 a0_2 a0_3) else (if a1 > 6 then (substationref29_ValidBreaker.j0 k true a0_0 a0_1 a0_2 a0_3) else (if a0_2 < 0 then (substationref29_ValidBreaker.j0 k true a0_0 a0_1 a0_2 a0_3) else (if a0_2 > a1 then (substationref29_ValidBreaker.j0 k true a0_0 a0_1 a0_2 a0_3) else (if a0_3 = true then (substationref29_ValidBreaker.j0 k (!a0_0) a0_0 a0_1 a0_2 a0_3) else (substationref29_ValidBreaker.j0 k false a0_0 a0_1 a0_2 a0_3)))))) = some r := h
  clear h
  have HC3 := Aside0.mk H
  clear H
  go_enter Try.func24, Try.ntmps24
  go_upto_region 1 with (first | ((with_reducible refine gate_dst (N := 2) rfl ?_); refine box_event ?hg (N := 2) ?hd (cs := #[.bool a0_0, .bool a0_1, .int .i64 a0_2, .bool a0_3]) (t := 36) ?hr ?_; (case hd => rfl); (case hg => rfl); (case hr => first | (go_simp; done) | (go_simp; rfl)); intro gb269 hg w4 hbox hb; have n0_ := Aside0.mk (below_step (by repeat (first | (with_reducible first | exact HB.out | apply below_alloc | apply pw_below_drewN | apply below_drew1) | exact HB.out)) hb); have n1_ := Aside0.mk (hbox); have n2_ := Aside0.mk ((by rw [hg]; exact (below_size (by repeat (first | (with_reducible first | exact HB.out | apply below_alloc | apply pw_below_drewN | apply below_drew1) | exact HB.out))) : w.heap.size ≤ gb269)); have n3_ := Aside0.mk ((by rw [hg]; exact (below_size (by repeat (first | (with_reducible first | exact HB.out | apply below_alloc | apply pw_below_drewN | apply below_drew1) | exact HB.out))) : w.heap.size ≤ gb269)); clear HB; have HB := n0_; have BK269 := n1_; have GW269 := n2_; have GE269 := n3_; clear n0_ n1_ n2_ n3_; clear hb hbox hg))
  (try simp only [Act.put, List.setIfInBounds_toArray, List.set_cons_zero, List.set_cons_succ])
  go_cut [30] (fun v30 wc => ∃ (kq : Nat) (x30_2 : Bool), v30 = .bool x30_2 ∧ Aside0 (substationref29_ValidBreaker.j0 kq x30_2 a0_0 a0_1 a0_2 a0_3 = some r) ∧ Aside0 (kq ≤ k) ∧ Aside0 (wc.heap[gb269]? = some (.cells #[.bool a0_0, .bool a0_1, .int .i64 a0_2, .bool a0_3] 36 (0, 0))) ∧ Aside0 (Below w.heap.size w wc))
  case first =>
    have H := HC3.out
    clear HC3
    by_cases c5 : a1 < 1
    · rw [if_pos c5] at H
      have c5b0 : decide (a1 < 1) = true := decide_eq_true c5
      clear c5
      (first | rw [c5b0] | (simp only [i64_w, i32_w]; rw [c5b0]) | skip)
      have H' := Aside0.mk H
      clear H
      go_wp2
      go_meet
      case rel => exact ⟨_, (true), (by first | rfl | (simp; done) | (simp [*]; done)), H', ⟨by first | omega | exact Nat.le_refl _⟩, ⟨by (with_reducible repeat (first | refine blk_drewN ?_ _ | refine blk_drew ?_ | refine blk_alloc ?_ _)); exact BK269.out⟩, ⟨by repeat (first | (with_reducible first | exact HB.out | apply below_alloc | apply pw_below_drewN | apply below_drew1 | refine below_set ?_ GE269.out) | exact HB.out)⟩⟩
    · rw [if_neg c5] at H
      have c5b0 : decide (a1 < 1) = false := decide_eq_false c5
      clear c5
      (first | rw [c5b0] | (simp only [i64_w, i32_w]; rw [c5b0]) | skip)
      by_cases c6 : a1 > 6
      · rw [if_pos c6] at H
        have c6b0 : decide (6 < a1) = true := decide_eq_true c6
        clear c6
        have H' := Aside0.mk H
        clear H
        go_wp2
        go_meet
        case rel => exact ⟨_, (true), (by first | rfl | (simp; done) | (simp [*]; done)), H', ⟨by first | omega | exact Nat.le_refl _⟩, ⟨by (with_reducible repeat (first | refine blk_drewN ?_ _ | refine blk_drew ?_ | refine blk_alloc ?_ _)); exact BK269.out⟩, ⟨by repeat (first | (with_reducible first | exact HB.out | apply below_alloc | apply pw_below_drewN | apply below_drew1 | refine below_set ?_ GE269.out) | exact HB.out)⟩⟩
      · rw [if_neg c6] at H
        have c6b0 : decide (6 < a1) = false := decide_eq_false c6
        clear c6
        by_cases c7 : a0_2 < 0
        · rw [if_pos c7] at H
          have c7b0 : decide (a0_2 < 0) = true := decide_eq_true c7
          clear c7
          have H' := Aside0.mk H
          clear H
          have hcz8_0 : w4.cell? ⟨gb269, 0, none⟩ = some (.bool a0_0) := (blk_cell BK269.out 0).trans rfl
          have hcz8_1 : w4.cell? ⟨gb269, 1, none⟩ = some (.bool a0_1) := (blk_cell BK269.out 1).trans rfl
          have hcz8_2 : w4.cell? ⟨gb269, 2, none⟩ = some (.int .i64 a0_2) := (blk_cell BK269.out 2).trans rfl
          have hcz8_3 : w4.cell? ⟨gb269, 3, none⟩ = some (.bool a0_3) := (blk_cell BK269.out 3).trans rfl
          have hfz8_0 := blk_frozen BK269.out 0
          have hfz8_1 := blk_frozen BK269.out 1
          have hfz8_2 := blk_frozen BK269.out 2
          have hfz8_3 := blk_frozen BK269.out 3
          go_wp2
          go_meet
          case rel => exact ⟨_, (true), (by first | rfl | (simp; done) | (simp [*]; done)), H', ⟨by first | omega | exact Nat.le_refl _⟩, ⟨by (with_reducible repeat (first | refine blk_drewN ?_ _ | refine blk_drew ?_ | refine blk_alloc ?_ _)); exact BK269.out⟩, ⟨by repeat (first | (with_reducible first | exact HB.out | apply below_alloc | apply pw_below_drewN | apply below_drew1 | refine below_set ?_ GE269.out) | exact HB.out)⟩⟩
        · rw [if_neg c7] at H
          have c7b0 : decide (a0_2 < 0) = false := decide_eq_false c7
          clear c7
          by_cases c9 : a0_2 > a1
          · rw [if_pos c9] at H
            have c9b0 : decide (a1 < a0_2) = true := decide_eq_true c9
            clear c9
            have H' := Aside0.mk H
            clear H
            have hcz10_0 : w4.cell? ⟨gb269, 0, none⟩ = some (.bool a0_0) := (blk_cell BK269.out 0).trans rfl
            have hcz10_1 : w4.cell? ⟨gb269, 1, none⟩ = some (.bool a0_1) := (blk_cell BK269.out 1).trans rfl
            have hcz10_2 : w4.cell? ⟨gb269, 2, none⟩ = some (.int .i64 a0_2) := (blk_cell BK269.out 2).trans rfl
            have hcz10_3 : w4.cell? ⟨gb269, 3, none⟩ = some (.bool a0_3) := (blk_cell BK269.out 3).trans rfl
            have hfz10_0 := blk_frozen BK269.out 0
            have hfz10_1 := blk_frozen BK269.out 1
            have hfz10_2 := blk_frozen BK269.out 2
            have hfz10_3 := blk_frozen BK269.out 3
            go_wp2
            go_meet
            case rel => exact ⟨_, (true), (by first | rfl | (simp; done) | (simp [*]; done)), H', ⟨by first | omega | exact Nat.le_refl _⟩, ⟨by (with_reducible repeat (first | refine blk_drewN ?_ _ | refine blk_drew ?_ | refine blk_alloc ?_ _)); exact BK269.out⟩, ⟨by repeat (first | (with_reducible first | exact HB.out | apply below_alloc | apply pw_below_drewN | apply below_drew1 | refine below_set ?_ GE269.out) | exact HB.out)⟩⟩
          · rw [if_neg c9] at H
            have c9b0 : decide (a1 < a0_2) = false := decide_eq_false c9
            clear c9
            by_cases c11 : a0_3 = true
            · subst c11
              have H1 : (substationref29_ValidBreaker.j0 k (!a0_0) a0_0 a0_1 a0_2 true) = some r := by rw [if_pos rfl] at H; exact H
              clear H
              have H := H1
              clear H1
              have H' := Aside0.mk H
              clear H
              have hcz12_0 : w4.cell? ⟨gb269, 0, none⟩ = some (.bool a0_0) := (blk_cell BK269.out 0).trans rfl
              have hcz12_1 : w4.cell? ⟨gb269, 1, none⟩ = some (.bool a0_1) := (blk_cell BK269.out 1).trans rfl
              have hcz12_2 : w4.cell? ⟨gb269, 2, none⟩ = some (.int .i64 a0_2) := (blk_cell BK269.out 2).trans rfl
              have hcz12_3 : w4.cell? ⟨gb269, 3, none⟩ = some (.bool true) := (blk_cell BK269.out 3).trans rfl
              have hfz12_0 := blk_frozen BK269.out 0
              have hfz12_1 := blk_frozen BK269.out 1
              have hfz12_2 := blk_frozen BK269.out 2
              have hfz12_3 := blk_frozen BK269.out 3
              go_wp2
              go_meet
              case rel => exact ⟨_, (!a0_0), (by first | rfl | (simp; done) | (simp [*]; done)), H', ⟨by first | omega | exact Nat.le_refl _⟩, ⟨by (with_reducible repeat (first | refine blk_drewN ?_ _ | refine blk_drew ?_ | refine blk_alloc ?_ _)); exact BK269.out⟩, ⟨by repeat (first | (with_reducible first | exact HB.out | apply below_alloc | apply pw_below_drewN | apply below_drew1 | refine below_set ?_ GE269.out) | exact HB.out)⟩⟩
            · replace c11 := Bool.eq_false_iff.mpr c11
              subst c11
              have H1 : (substationref29_ValidBreaker.j0 k false a0_0 a0_1 a0_2 false) = some r := by rw [if_neg (show ¬ (false = true) by decide)] at H; exact H
              clear H
              have H := H1
              clear H1
              have H' := Aside0.mk H
              clear H
              have hcz13_0 : w4.cell? ⟨gb269, 0, none⟩ = some (.bool a0_0) := (blk_cell BK269.out 0).trans rfl
              have hcz13_1 : w4.cell? ⟨gb269, 1, none⟩ = some (.bool a0_1) := (blk_cell BK269.out 1).trans rfl
              have hcz13_2 : w4.cell? ⟨gb269, 2, none⟩ = some (.int .i64 a0_2) := (blk_cell BK269.out 2).trans rfl
              have hcz13_3 : w4.cell? ⟨gb269, 3, none⟩ = some (.bool false) := (blk_cell BK269.out 3).trans rfl
              have hfz13_0 := blk_frozen BK269.out 0
              have hfz13_1 := blk_frozen BK269.out 1
              have hfz13_2 := blk_frozen BK269.out 2
              have hfz13_3 := blk_frozen BK269.out 3
              go_wp2
              go_meet
              case rel => exact ⟨_, (false), (by first | rfl | (simp; done) | (simp [*]; done)), H', ⟨by first | omega | exact Nat.le_refl _⟩, ⟨by (with_reducible repeat (first | refine blk_drewN ?_ _ | refine blk_drew ?_ | refine blk_alloc ?_ _)); exact BK269.out⟩, ⟨by repeat (first | (with_reducible first | exact HB.out | apply below_alloc | apply pw_below_drewN | apply below_drew1 | refine below_set ?_ GE269.out) | exact HB.out)⟩⟩
  case rest =>
    clear HC3
    try clear c1
    try clear c2
    try clear p2
    try clear c5
    try clear c5b0
    try clear c6
    try clear c6b0
    try clear c7
    try clear c7b0
    try clear c9
    try clear c9b0
    try clear c11
    try clear hcz10_0
    try clear hcz10_1
    try clear hcz10_2
    try clear hcz10_3
    try clear hcz12_0
    try clear hcz12_1
    try clear hcz12_2
    try clear hcz12_3
    try clear hcz13_0
    try clear hcz13_1
    try clear hcz13_2
    try clear hcz13_3
    try clear hcz8_0
    try clear hcz8_1
    try clear hcz8_2
    try clear hcz8_3
    try clear hfz10_0
    try clear hfz10_1
    try clear hfz10_2
    try clear hfz10_3
    try clear hfz12_0
    try clear hfz12_1
    try clear hfz12_2
    try clear hfz12_3
    try clear hfz13_0
    try clear hfz13_1
    try clear hfz13_2
    try clear hfz13_3
    try clear hfz8_0
    try clear hfz8_1
    try clear hfz8_2
    try clear hfz8_3
    obtain ⟨kq, x30_2, rfl, HA, HJ2, BK269, HB⟩ := hcut
    cases kq with
    | zero => exact absurd HA.out (by simp [substationref29_ValidBreaker.j0])
    | succ kj2 =>
      have H := HA.out
      clear HA
      simp only [substationref29_ValidBreaker.j0] at H
      by_cases c14 : x30_2 = true
      · subst c14
        have H1 : (some false) = some r := by rw [if_pos rfl] at H; exact H
        clear H
        have H := H1
        clear H1
        obtain rfl := Option.some.inj H
        go_wp2
        go_ret
        exact ⟨by first | rfl | (simp [errW_none, errW_some] <;> rfl) | (simp [*, errW_none, errW_some] <;> rfl), by repeat (first | (with_reducible first | exact HB.out | apply below_alloc | apply pw_below_drewN | apply below_drew1 | refine below_set ?_ GE269.out) | exact HB.out)⟩
      · replace c14 := Bool.eq_false_iff.mpr c14
        subst c14
        have H1 : (if a0_2 = 0 then (some (!a0_1)) else (some (a0_0 != a0_1))) = some r := by rw [if_neg (show ¬ (false = true) by decide)] at H; exact H
        clear H
        have H := H1
        clear H1
        by_cases c15 : a0_2 = 0
        · rw [if_pos c15] at H
          have c15b0 : (a0_2 == 0) = true := beq_iff_eq.mpr c15
          have c15b1 : (a0_2 != 0) = false := bne_eq_false_iff_eq.mpr c15
          clear c15
          obtain rfl := Option.some.inj H
          have hcz16_0 : wc.cell? ⟨gb269, 0, none⟩ = some (.bool a0_0) := (blk_cell BK269.out 0).trans rfl
          have hcz16_1 : wc.cell? ⟨gb269, 1, none⟩ = some (.bool a0_1) := (blk_cell BK269.out 1).trans rfl
          have hcz16_2 : wc.cell? ⟨gb269, 2, none⟩ = some (.int .i64 a0_2) := (blk_cell BK269.out 2).trans rfl
          have hcz16_3 : wc.cell? ⟨gb269, 3, none⟩ = some (.bool a0_3) := (blk_cell BK269.out 3).trans rfl
          have hfz16_0 := blk_frozen BK269.out 0
          have hfz16_1 := blk_frozen BK269.out 1
          have hfz16_2 := blk_frozen BK269.out 2
          have hfz16_3 := blk_frozen BK269.out 3
          go_wp2
          go_ret
          exact ⟨by first | rfl | (simp [errW_none, errW_some] <;> rfl) | (simp [*, errW_none, errW_some] <;> rfl), by repeat (first | (with_reducible first | exact HB.out | apply below_alloc | apply pw_below_drewN | apply below_drew1 | refine below_set ?_ GE269.out) | exact HB.out)⟩
        · rw [if_neg c15] at H
          have c15b0 : (a0_2 == 0) = false := beq_eq_false_iff_ne.mpr c15
          have c15b1 : (a0_2 != 0) = true := bne_iff_ne.mpr c15
          obtain rfl := Option.some.inj H
          have hcz17_0 : wc.cell? ⟨gb269, 0, none⟩ = some (.bool a0_0) := (blk_cell BK269.out 0).trans rfl
          have hcz17_1 : wc.cell? ⟨gb269, 1, none⟩ = some (.bool a0_1) := (blk_cell BK269.out 1).trans rfl
          have hcz17_2 : wc.cell? ⟨gb269, 2, none⟩ = some (.int .i64 a0_2) := (blk_cell BK269.out 2).trans rfl
          have hcz17_3 : wc.cell? ⟨gb269, 3, none⟩ = some (.bool a0_3) := (blk_cell BK269.out 3).trans rfl
          have hfz17_0 := blk_frozen BK269.out 0
          have hfz17_1 := blk_frozen BK269.out 1
          have hfz17_2 := blk_frozen BK269.out 2
          have hfz17_3 := blk_frozen BK269.out 3
          go_wp2
          go_ret
          exact ⟨by first | rfl | (simp [errW_none, errW_some] <;> rfl) | (simp [*, errW_none, errW_some] <;> rfl), by repeat (first | (with_reducible first | exact HB.out | apply below_alloc | apply pw_below_drewN | apply below_drew1 | refine below_set ?_ GE269.out) | exact HB.out)⟩

end Go.Proofs.Ytooeljgandaelaa.PAll
