-- PRINTED BY print.sh 35421559b90ae4d0a3588c463048766b98c2df88dd9212a6774a882060cdf62d: not written by this session
import Derived.Test.YtmppijipaocfiaaPAllx0
import Derived.Test.YtmppijipaocfiaaPAllx4
namespace Go.Proofs.Ytmppijipaocfiaa.PAll
open Go.RowKit Go.Proofs.YtmppijipaocfiaaW.PrintWords Go.Proofs.YtmppijipaocfiaaW.PrintLast Go.Proofs.YtmppijipaocfiaaW.PrintMore
attribute [local go_sem] max2_int min2_int max_two min_two max_three min_three max_four min_four   -- for this text's walks alone
set_option linter.unusedVariables false
set_option linter.unusedSimpArgs false

/-! ### substationref29_Recloser: function 13 -/
mutual
def substationref29_Recloser.j0 : Nat → Int → Int → Int → Bool → Bool → Bool → Int → Int → Int → Int → Int → Int → Option (Int × Int × Int × Bool)
  | 0, _, _, _, _, _, _, _, _, _, _, _, _ => none
  | k + 1, x0, x1, x2, x6, x7, x39, x207000, x207001, x207002, x210000, x210001, x210002 => if x39 = true then (if x7 = true then (some (x210000, x210001, x210002, false)) else (if x207001 = x0 then (some (x210000, x210001, x210002, false)) else (some (1, wrap64 (x207001 + 1), 0, false)))) else (if x207000 = 0 then (if x6 = true then (some (x210000, x210001, x210002, false)) else (some (x207000, x207001, x207002, false))) else (if x207000 = 1 then (substationref29_Recloser.j1 k x1 x2 x6 x7 x207000 (x207000 == 1) x207000 x207001 x207002 x210000 x210001 x210002) else (substationref29_Recloser.j1 k x1 x2 x6 x7 x207000 (x207000 == 3) x207000 x207001 x207002 x210000 x210001 x210002)))
def substationref29_Recloser.j1 : Nat → Int → Int → Bool → Bool → Int → Bool → Int → Int → Int → Int → Int → Int → Option (Int × Int × Int × Bool)
  | 0, _, _, _, _, _, _, _, _, _, _, _, _ => none
  | k + 1, x1, x2, x6, x7, x53, x64, x207000, x207001, x207002, x210000, x210001, x210002 => if x64 = true then (if (x6 == (x207000 == 1)) = true then (some (wrap64 (x207000 + 1), x207001, 0, false)) else (if x207002 = 20 then (some (x210000, x210001, x210002, false)) else (some (x207000, x207001, wrap64 (x207002 + 1), false)))) else (if x53 = 2 then (if x6 = true then (if x7 = true then (some (x207000, x207001, x207002, false)) else (if x207002 = (wrap64 (x1 - 1)) then (some (3, x207001, 0, true)) else (some (x207000, x207001, wrap64 (x207002 + 1), false)))) else (some (x210000, x210001, x210002, false))) else (if x53 = 4 then (if x6 = true then (some (x210000, x210001, x210002, false)) else ((substationref29_counted.f x207000 x207001 x207002 x2 x7).bind fun bt210 => (some (bt210.1, bt210.2.1, bt210.2.2, false)))) else (if x6 = true then (some (x210000, x210001, x210002, false)) else ((substationref29_counted.f x207000 x207001 x207002 x2 x7).bind fun bt213 => (some (bt213.1, bt213.2.1, bt213.2.2, false))))))
end
def substationref29_Recloser.f (k : Nat) (a0 : Int) (a1 : Int) (a2 : Int) (a3_0 : Int) (a3_1 : Int) (a3_2 : Int) (a4 : Bool) (a5 : Bool) (a6 : Bool) (a7 : Bool) : Option (Int × Int × Int × Bool) := (substationref29_ValidRecloser.f k a0 a1 a2 a3_0 a3_1 a3_2).bind fun t208 => (if t208 = true then (if a5 = true then (some (5, 0, 0, false)) else (if a4 = true then (if a3_0 = 0 then (substationref29_Recloser.j0 k a0 a1 a2 a6 a7 true a3_0 a3_1 a3_2 5 0 0) else (substationref29_Recloser.j0 k a0 a1 a2 a6 a7 (a3_0 == 4) a3_0 a3_1 a3_2 5 0 0)) else (substationref29_Recloser.j0 k a0 a1 a2 a6 a7 false a3_0 a3_1 a3_2 5 0 0))) else (some (0, 0, 0, false)))
theorem substationref29_Recloser.mono_l : ∀ k, (∀ y0 y1 y2 y3 y4 y5 y6 y7 y8 y9 y10 y11, LeO (substationref29_Recloser.j0 k y0 y1 y2 y3 y4 y5 y6 y7 y8 y9 y10 y11) (substationref29_Recloser.j0 (k + 1) y0 y1 y2 y3 y4 y5 y6 y7 y8 y9 y10 y11)) ∧ (∀ y0 y1 y2 y3 y4 y5 y6 y7 y8 y9 y10 y11, LeO (substationref29_Recloser.j1 k y0 y1 y2 y3 y4 y5 y6 y7 y8 y9 y10 y11) (substationref29_Recloser.j1 (k + 1) y0 y1 y2 y3 y4 y5 y6 y7 y8 y9 y10 y11))
  | 0 => ⟨fun _ _ _ _ _ _ _ _ _ _ _ _ r h => by simp [substationref29_Recloser.j0] at h, fun _ _ _ _ _ _ _ _ _ _ _ _ r h => by simp [substationref29_Recloser.j1] at h⟩
  | k + 1 => by
    obtain ⟨ih0, ih1⟩ := substationref29_Recloser.mono_l k
    refine ⟨?_, ?_⟩
    · intro y0 y1 y2 y3 y4 y5 y6 y7 y8 y9 y10 y11
      unfold substationref29_Recloser.j0
      repeat' first
      | (with_reducible exact ih0 _ _ _ _ _ _ _ _ _ _ _ _)
      | (with_reducible exact ih1 _ _ _ _ _ _ _ _ _ _ _ _)
      | (with_reducible exact substationref29_ValidRecloser.mono _ _ _ _ _ _ _)
      | (with_reducible exact LeO.refl _)
      | (with_reducible exact LeO.none _)
      | (with_reducible refine LeO.ite ?_ ?_)
      | (with_reducible refine LeO.bind ?_ (fun _ => ?_))
      | exact ih0 _ _ _ _ _ _ _ _ _ _ _ _
      | exact ih1 _ _ _ _ _ _ _ _ _ _ _ _
      | exact substationref29_ValidRecloser.mono _ _ _ _ _ _ _
      | exact LeO.none _
      | refine LeO.ite ?_ ?_
      | refine LeO.bind ?_ (fun _ => ?_)
    · intro y0 y1 y2 y3 y4 y5 y6 y7 y8 y9 y10 y11
      unfold substationref29_Recloser.j1
      repeat' first
      | (with_reducible exact ih0 _ _ _ _ _ _ _ _ _ _ _ _)
      | (with_reducible exact ih1 _ _ _ _ _ _ _ _ _ _ _ _)
      | (with_reducible exact substationref29_ValidRecloser.mono _ _ _ _ _ _ _)
      | (with_reducible exact LeO.refl _)
      | (with_reducible exact LeO.none _)
      | (with_reducible refine LeO.ite ?_ ?_)
      | (with_reducible refine LeO.bind ?_ (fun _ => ?_))
      | exact ih0 _ _ _ _ _ _ _ _ _ _ _ _
      | exact ih1 _ _ _ _ _ _ _ _ _ _ _ _
      | exact substationref29_ValidRecloser.mono _ _ _ _ _ _ _
      | exact LeO.none _
      | refine LeO.ite ?_ ?_
      | refine LeO.bind ?_ (fun _ => ?_)
theorem substationref29_Recloser.mono : ∀ a0 a1 a2 a3 a4 a5 a6 a7 a8 a9 k, LeO (substationref29_Recloser.f k a0 a1 a2 a3 a4 a5 a6 a7 a8 a9) (substationref29_Recloser.f (k + 1) a0 a1 a2 a3 a4 a5 a6 a7 a8 a9) := by
  intro a0 a1 a2 a3 a4 a5 a6 a7 a8 a9 k
  obtain ⟨ih0, ih1⟩ := substationref29_Recloser.mono_l k
  unfold substationref29_Recloser.f
  repeat' first
      | (with_reducible exact ih0 _ _ _ _ _ _ _ _ _ _ _ _)
      | (with_reducible exact ih1 _ _ _ _ _ _ _ _ _ _ _ _)
      | (with_reducible exact substationref29_ValidRecloser.mono _ _ _ _ _ _ _)
      | (with_reducible exact LeO.refl _)
      | (with_reducible exact LeO.none _)
      | (with_reducible refine LeO.ite ?_ ?_)
      | (with_reducible refine LeO.bind ?_ (fun _ => ?_))
      | exact ih0 _ _ _ _ _ _ _ _ _ _ _ _
      | exact ih1 _ _ _ _ _ _ _ _ _ _ _ _
      | exact substationref29_ValidRecloser.mono _ _ _ _ _ _ _
      | exact LeO.none _
      | refine LeO.ite ?_ ?_
      | refine LeO.bind ?_ (fun _ => ?_)
set_option maxHeartbeats 8000000 in
set_option maxRecDepth 100000 in
theorem substationref29_Recloser.calls (k : Nat) (a0 : Int) (a1 : Int) (a2 : Int) (a3_0 : Int) (a3_1 : Int) (a3_2 : Int) (a4 : Bool) (a5 : Bool) (a6 : Bool) (a7 : Bool) (r1 : Int) (r2 : Int) (r3 : Int) (r4 : Bool) (w : World) (h : substationref29_Recloser.f k a0 a1 a2 a3_0 a3_1 a3_2 a4 a5 a6 a7 = some (r1, r2, r3, r4)) :
    Calls Try.prog 13 #[.int .i64 a0, .int .i64 a1, .int .i64 a2, .agg #[.int .i64 a3_0, .int .i64 a3_1, .int .i64 a3_2], .bool a4, .bool a5, .bool a6, .bool a7] w fun e w' => e = .returned (.tuple #[.agg #[.int .i64 r1, .int .i64 r2, .int .i64 r3], .bool r4]) ∧ Below w.heap.size w w' := by
  have hu25 := Try.underlying25
  have HB := Aside0.mk (Below.refl w.heap.size w)
  have H : ((substationref29_ValidRecloser.f k a0 a1 a2 a3_0 a3_1 a3_2).bind fun t208 => (if t208 = true then (if a5 = true then (some (5, 0, 0, false)) else (if a4 = true then (if a3_0 = 0 then (substationref29_Recloser.j0 k a0 a1 a2 a6 a7 true a3_0 a3_1 a3_2 5 0 0) else (substationref29_Recloser.j0 k a0 a1 a2 a6 a7 (a3_0 == 4) a3_0 a3_1 a3_2 5 0 0)) else (substationref29_Recloser.j0 k a0 a1 a2 a6 a7 false a3_0 a3_1 a3_2 5 0 0))) else (some (0, 0, 0, false)))) = some (r1, r2, r3, r4) := h
  clear h
  replace H := Option.bind_eq_some_iff.mp H
  obtain ⟨t208, A90, H⟩ := H
  replace H : (if t208 = true then (if a5 = true then (some (5, 0, 0, false)) else (if a4 = true then (if a3_0 = 0 then (substationref29_Recloser.j0 k a0 a1 a2 a6 a7 true a3_0 a3_1 a3_2 5 0 0) else (substationref29_Recloser.j0 k a0 a1 a2 a6 a7 (a3_0 == 4) a3_0 a3_1 a3_2 5 0 0)) else (substationref29_Recloser.j0 k a0 a1 a2 a6 a7 false a3_0 a3_1 a3_2 5 0 0))) else (some (0, 0, 0, false))) = some (r1, r2, r3, r4) := H
  have A9 := Aside0.mk A90
  clear A90
  by_cases c10 : t208 = true
  · subst c10
    have H1 : (if a5 = true then (some (5, 0, 0, false)) else (if a4 = true then (if a3_0 = 0 then (substationref29_Recloser.j0 k a0 a1 a2 a6 a7 true a3_0 a3_1 a3_2 5 0 0) else (substationref29_Recloser.j0 k a0 a1 a2 a6 a7 (a3_0 == 4) a3_0 a3_1 a3_2 5 0 0)) else (substationref29_Recloser.j0 k a0 a1 a2 a6 a7 false a3_0 a3_1 a3_2 5 0 0))) = some (r1, r2, r3, r4) := by rw [if_pos rfl] at H; exact H
    clear H
    have H := H1
    clear H1
    by_cases c11 : a5 = true
    · subst c11
      have H1 : (some (5, 0, 0, false)) = some (r1, r2, r3, r4) := by rw [if_pos rfl] at H; exact H
      clear H
      have H := H1
      clear H1
      simp only [Option.some.injEq, Prod.mk.injEq] at H
      obtain ⟨rfl, rfl, rfl, rfl⟩ := H
      go_enter Try.func13, Try.ntmps13
      go_wp2_with (first | ((with_reducible refine gate_dst (N := 11) rfl ?_); refine box_event ?hg (N := 11) ?hd (cs := #[.int .i64 a3_0, .int .i64 a3_1, .int .i64 a3_2]) (t := 25) ?hr ?_; (case hd => rfl); (case hg => rfl); (case hr => first | (go_simp; done) | (go_simp; rfl)); intro gb206 hg w12 hbox hb; have n0_ := Aside0.mk (below_step (by repeat (first | (with_reducible first | exact HB.out | apply below_alloc | apply pw_below_drewN | apply below_drew1) | exact HB.out)) hb); have n1_ := Aside0.mk (hbox); have n2_ := Aside0.mk ((by rw [hg]; exact (below_size (by repeat (first | (with_reducible first | exact HB.out | apply below_alloc | apply pw_below_drewN | apply below_drew1) | exact HB.out))) : w.heap.size ≤ gb206)); have n3_ := Aside0.mk ((by rw [hg]; exact (below_size (by repeat (first | (with_reducible first | exact HB.out | apply below_alloc | apply pw_below_drewN | apply below_drew1) | exact HB.out))) : w.heap.size ≤ gb206)); clear HB; have HB := n0_; have BK206 := n1_; have GW206 := n2_; have GE206 := n3_; clear n0_ n1_ n2_ n3_; clear hb hbox hg) | ((with_reducible refine gate_dst (N := 16) rfl ?_); refine box_event ?hg (N := 16) ?hd (cs := #[.int .i64 0, .int .i64 0, .int .i64 0]) (t := 25) ?hr ?_; (case hd => rfl); (case hg => rfl); (case hr => first | (go_simp; done) | (go_simp; rfl)); intro gb207 hg w13 hbox hb; have n0_ := Aside0.mk (blk_below (g := gb206) (o := .cells #[.int .i64 a3_0, .int .i64 a3_1, .int .i64 a3_2] 25 (0, 0)) (by (with_reducible repeat (first | refine blk_drewN ?_ _ | refine blk_drew ?_ | refine blk_alloc ?_ _)); exact BK206.out) hb); have n1_ := Aside0.mk (below_step (by repeat (first | (with_reducible first | exact HB.out | apply below_alloc | apply pw_below_drewN | apply below_drew1 | refine below_set ?_ GE206.out) | exact HB.out)) hb); have n2_ := Aside0.mk (hbox); have n3_ := Aside0.mk ((by rw [hg]; exact (below_size (by repeat (first | (with_reducible first | exact HB.out | apply below_alloc | apply pw_below_drewN | apply below_drew1 | refine below_set ?_ GE206.out) | exact HB.out))) : w.heap.size ≤ gb207)); have n4_ := Aside0.mk ((by rw [hg]; exact (below_size (by repeat (first | (with_reducible first | exact HB.out | apply below_alloc | apply pw_below_drewN | apply below_drew1 | refine below_set ?_ GE206.out) | exact HB.out))) : w.heap.size ≤ gb207)); have n5_ := Aside0.mk ((by rw [hg]; exact Nat.ne_of_lt (blk_lt (g := gb206) (o := .cells #[.int .i64 a3_0, .int .i64 a3_1, .int .i64 a3_2] 25 (0, 0)) (by (with_reducible repeat (first | refine blk_drewN ?_ _ | refine blk_drew ?_ | refine blk_alloc ?_ _)); exact BK206.out)) : gb206 ≠ gb207)); have n6_ := Aside0.mk ((by rw [hg]; exact Nat.ne_of_gt (blk_lt (g := gb206) (o := .cells #[.int .i64 a3_0, .int .i64 a3_1, .int .i64 a3_2] 25 (0, 0)) (by (with_reducible repeat (first | refine blk_drewN ?_ _ | refine blk_drew ?_ | refine blk_alloc ?_ _)); exact BK206.out)) : gb207 ≠ gb206)); clear BK206; clear HB; have BK206 := n0_; have HB := n1_; have BK207 := n2_; have GW207 := n3_; have GE207 := n4_; have NB206_207 := n5_; have NB207_206 := n6_; clear n0_ n1_ n2_ n3_ n4_ n5_ n6_; clear hb hbox hg; have hnb14 := NB206_207.out; have hnc14 := NB207_206.out; have hcz15_0 : w13.cell? ⟨gb206, 0, none⟩ = some (.int .i64 a3_0) := (blk_cell BK206.out 0).trans rfl; have hcz15_1 : w13.cell? ⟨gb206, 1, none⟩ = some (.int .i64 a3_1) := (blk_cell BK206.out 1).trans rfl; have hcz15_2 : w13.cell? ⟨gb206, 2, none⟩ = some (.int .i64 a3_2) := (blk_cell BK206.out 2).trans rfl; have hfz15_0 := blk_frozen BK206.out 0; have hfz15_1 := blk_frozen BK206.out 1; have hfz15_2 := blk_frozen BK206.out 2) | ((with_reducible refine gate_callee (f := 15) rfl ?_); refine goesL_ (some 23) rfl rfl Try.func15 (by kernel_rfl) rfl #[.int .i64 a0, .int .i64 a1, .int .i64 a2, .agg #[.int .i64 a3_0, .int .i64 a3_1, .int .i64 a3_2]] rfl (by (try simp only [List.map_toArray, List.map_cons, List.map_nil]); first | done | rfl | (simp only [List.length_drop, List.length_take]; rfl)) ?_; (with_reducible refine (substationref29_ValidRecloser.calls k a0 a1 a2 a3_0 a3_1 a3_2 true _ A9.out).mono ?_); rintro e w16 ⟨rfl, hb⟩; refine ⟨_, rfl, ?_⟩; have n0_ := Aside0.mk (blk_below (g := gb206) (o := .cells #[.int .i64 a3_0, .int .i64 a3_1, .int .i64 a3_2] 25 (0, 0)) (by (with_reducible repeat (first | refine blk_drewN ?_ _ | refine blk_drew ?_ | refine blk_alloc ?_ _)); exact BK206.out) hb); have n1_ := Aside0.mk (blk_below (g := gb207) (o := .cells #[.int .i64 0, .int .i64 0, .int .i64 0] 25 (0, 0)) (by (with_reducible repeat (first | refine blk_drewN ?_ _ | refine blk_drew ?_ | refine blk_alloc ?_ _)); exact BK207.out) hb); have n2_ := Aside0.mk (below_step (by repeat (first | (with_reducible first | exact HB.out | apply below_alloc | apply pw_below_drewN | apply below_drew1 | refine below_set ?_ GE206.out | refine below_set ?_ GE207.out) | exact HB.out)) hb); clear BK206; clear BK207; clear HB; have BK206 := n0_; have BK207 := n1_; have HB := n2_; clear n0_ n1_ n2_; (try clear hb); (try clear hb2); (try clear hk); (try clear hi)) | ((with_reducible refine gate_dst (N := 18) rfl ?_); refine box_event ?hg (N := 18) ?hd (cs := #[.int .i64 0, .int .i64 0, .int .i64 0]) (t := 25) ?hr ?_; (case hd => rfl); (case hg => rfl); (case hr => first | (go_simp; done) | (go_simp; rfl)); intro gb209 hg w17 hbox hb; have n0_ := Aside0.mk (blk_below (g := gb206) (o := .cells #[.int .i64 a3_0, .int .i64 a3_1, .int .i64 a3_2] 25 (0, 0)) (by (with_reducible repeat (first | refine blk_drewN ?_ _ | refine blk_drew ?_ | refine blk_alloc ?_ _)); exact BK206.out) hb); have n1_ := Aside0.mk (blk_below (g := gb207) (o := .cells #[.int .i64 0, .int .i64 0, .int .i64 0] 25 (0, 0)) (by (with_reducible repeat (first | refine blk_drewN ?_ _ | refine blk_drew ?_ | refine blk_alloc ?_ _)); exact BK207.out) hb); have n2_ := Aside0.mk (below_step (by repeat (first | (with_reducible first | exact HB.out | apply below_alloc | apply pw_below_drewN | apply below_drew1 | refine below_set ?_ GE206.out | refine below_set ?_ GE207.out) | exact HB.out)) hb); have n3_ := Aside0.mk (hbox); have n4_ := Aside0.mk ((by rw [hg]; exact (below_size (by repeat (first | (with_reducible first | exact HB.out | apply below_alloc | apply pw_below_drewN | apply below_drew1 | refine below_set ?_ GE206.out | refine below_set ?_ GE207.out) | exact HB.out))) : w.heap.size ≤ gb209)); have n5_ := Aside0.mk ((by rw [hg]; exact (below_size (by repeat (first | (with_reducible first | exact HB.out | apply below_alloc | apply pw_below_drewN | apply below_drew1 | refine below_set ?_ GE206.out | refine below_set ?_ GE207.out) | exact HB.out))) : w.heap.size ≤ gb209)); have n6_ := Aside0.mk ((by rw [hg]; exact Nat.ne_of_lt (blk_lt (g := gb206) (o := .cells #[.int .i64 a3_0, .int .i64 a3_1, .int .i64 a3_2] 25 (0, 0)) (by (with_reducible repeat (first | refine blk_drewN ?_ _ | refine blk_drew ?_ | refine blk_alloc ?_ _)); exact BK206.out)) : gb206 ≠ gb209)); have n7_ := Aside0.mk ((by rw [hg]; exact Nat.ne_of_gt (blk_lt (g := gb206) (o := .cells #[.int .i64 a3_0, .int .i64 a3_1, .int .i64 a3_2] 25 (0, 0)) (by (with_reducible repeat (first | refine blk_drewN ?_ _ | refine blk_drew ?_ | refine blk_alloc ?_ _)); exact BK206.out)) : gb209 ≠ gb206)); have n8_ := Aside0.mk ((by rw [hg]; exact Nat.ne_of_lt (blk_lt (g := gb207) (o := .cells #[.int .i64 0, .int .i64 0, .int .i64 0] 25 (0, 0)) (by (with_reducible repeat (first | refine blk_drewN ?_ _ | refine blk_drew ?_ | refine blk_alloc ?_ _)); exact BK207.out)) : gb207 ≠ gb209)); have n9_ := Aside0.mk ((by rw [hg]; exact Nat.ne_of_gt (blk_lt (g := gb207) (o := .cells #[.int .i64 0, .int .i64 0, .int .i64 0] 25 (0, 0)) (by (with_reducible repeat (first | refine blk_drewN ?_ _ | refine blk_drew ?_ | refine blk_alloc ?_ _)); exact BK207.out)) : gb209 ≠ gb207)); clear BK206; clear BK207; clear HB; have BK206 := n0_; have BK207 := n1_; have HB := n2_; have BK209 := n3_; have GW209 := n4_; have GE209 := n5_; have NB206_209 := n6_; have NB209_206 := n7_; have NB207_209 := n8_; have NB209_207 := n9_; clear n0_ n1_ n2_ n3_ n4_ n5_ n6_ n7_ n8_ n9_; clear hb hbox hg; have hnb18 := NB209_206.out; have hnc18 := NB206_209.out; have hnb19 := NB209_207.out; have hnc19 := NB207_209.out; have hcz20_0 : w17.cell? ⟨gb209, 0, none⟩ = some (.int .i64 0) := (blk_cell BK209.out 0).trans rfl; have hcz20_1 : w17.cell? ⟨gb209, 1, none⟩ = some (.int .i64 0) := (blk_cell BK209.out 1).trans rfl; have hcz20_2 : w17.cell? ⟨gb209, 2, none⟩ = some (.int .i64 0) := (blk_cell BK209.out 2).trans rfl; have hfz20_0 := blk_frozen BK209.out 0; have hfz20_1 := blk_frozen BK209.out 1; have hfz20_2 := blk_frozen BK209.out 2; have hcz21_0 : w17.cell? ⟨gb207, 0, none⟩ = some (.int .i64 0) := (blk_cell BK207.out 0).trans rfl; have hcz21_1 : w17.cell? ⟨gb207, 1, none⟩ = some (.int .i64 0) := (blk_cell BK207.out 1).trans rfl; have hcz21_2 : w17.cell? ⟨gb207, 2, none⟩ = some (.int .i64 0) := (blk_cell BK207.out 2).trans rfl; have hfz21_0 := blk_frozen BK207.out 0; have hfz21_1 := blk_frozen BK207.out 1; have hfz21_2 := blk_frozen BK207.out 2))
      refine bodyPost_ret (results_ct rfl _ _ gb207 25 #[.int .i64 5, .int .i64 0, .int .i64 0] (0, 0) _ rfl (by (with_reducible repeat (first | refine blk_drewN ?_ _ | refine blk_drew ?_ | refine blk_alloc ?_ _)); refine blk_put (cs := #[.int .i64 5, .int .i64 0, .int .i64 0]) ?_ 2 _ rfl; (with_reducible repeat (first | refine blk_drewN ?_ _ | refine blk_drew ?_ | refine blk_alloc ?_ _)); refine blk_put (cs := #[.int .i64 5, .int .i64 0, .int .i64 0]) ?_ 1 _ rfl; (with_reducible repeat (first | refine blk_drewN ?_ _ | refine blk_drew ?_ | refine blk_alloc ?_ _)); refine blk_put (cs := #[.int .i64 0, .int .i64 0, .int .i64 0]) ?_ 0 _ rfl; (with_reducible repeat (first | refine blk_drewN ?_ _ | refine blk_drew ?_ | refine blk_alloc ?_ _)); refine blk_far ?_ NB207_209.out _; (with_reducible repeat (first | refine blk_drewN ?_ _ | refine blk_drew ?_ | refine blk_alloc ?_ _)); refine blk_far ?_ NB207_209.out _; (with_reducible repeat (first | refine blk_drewN ?_ _ | refine blk_drew ?_ | refine blk_alloc ?_ _)); refine blk_far ?_ NB207_209.out _; (with_reducible repeat (first | refine blk_drewN ?_ _ | refine blk_drew ?_ | refine blk_alloc ?_ _)); exact BK207.out) Try.underlying25 rfl (by kernel_rfl)) rfl ?_
      exact ⟨by first | rfl | (simp [errW_none, errW_some] <;> rfl) | (simp [*, errW_none, errW_some] <;> rfl), by repeat (first | (with_reducible first | exact HB.out | apply below_alloc | apply pw_below_drewN | apply below_drew1 | refine below_set ?_ GE206.out | refine below_set ?_ GE207.out | refine below_set ?_ GE209.out) | exact HB.out)⟩
    · replace c11 := Bool.eq_false_iff.mpr c11
      subst c11
      have H1 : (if a4 = true then (if a3_0 = 0 then (substationref29_Recloser.j0 k a0 a1 a2 a6 a7 true a3_0 a3_1 a3_2 5 0 0) else (substationref29_Recloser.j0 k a0 a1 a2 a6 a7 (a3_0 == 4) a3_0 a3_1 a3_2 5 0 0)) else (substationref29_Recloser.j0 k a0 a1 a2 a6 a7 false a3_0 a3_1 a3_2 5 0 0)) = some (r1, r2, r3, r4) := by rw [if_neg (show ¬ (false = true) by decide)] at H; exact H
      clear H
      have H := H1
      clear H1
      have HC22 := Aside0.mk H
      clear H
      go_enter Try.func13, Try.ntmps13
      go_upto_region 6 with (first | ((with_reducible refine gate_dst (N := 11) rfl ?_); refine box_event ?hg (N := 11) ?hd (cs := #[.int .i64 a3_0, .int .i64 a3_1, .int .i64 a3_2]) (t := 25) ?hr ?_; (case hd => rfl); (case hg => rfl); (case hr => first | (go_simp; done) | (go_simp; rfl)); intro gb206 hg w23 hbox hb; have n0_ := Aside0.mk (below_step (by repeat (first | (with_reducible first | exact HB.out | apply below_alloc | apply pw_below_drewN | apply below_drew1) | exact HB.out)) hb); have n1_ := Aside0.mk (hbox); have n2_ := Aside0.mk ((by rw [hg]; exact (below_size (by repeat (first | (with_reducible first | exact HB.out | apply below_alloc | apply pw_below_drewN | apply below_drew1) | exact HB.out))) : w.heap.size ≤ gb206)); have n3_ := Aside0.mk ((by rw [hg]; exact (below_size (by repeat (first | (with_reducible first | exact HB.out | apply below_alloc | apply pw_below_drewN | apply below_drew1) | exact HB.out))) : w.heap.size ≤ gb206)); clear HB; have HB := n0_; have BK206 := n1_; have GW206 := n2_; have GE206 := n3_; clear n0_ n1_ n2_ n3_; clear hb hbox hg) | ((with_reducible refine gate_dst (N := 16) rfl ?_); refine box_event ?hg (N := 16) ?hd (cs := #[.int .i64 0, .int .i64 0, .int .i64 0]) (t := 25) ?hr ?_; (case hd => rfl); (case hg => rfl); (case hr => first | (go_simp; done) | (go_simp; rfl)); intro gb207 hg w24 hbox hb; have n0_ := Aside0.mk (blk_below (g := gb206) (o := .cells #[.int .i64 a3_0, .int .i64 a3_1, .int .i64 a3_2] 25 (0, 0)) (by (with_reducible repeat (first | refine blk_drewN ?_ _ | refine blk_drew ?_ | refine blk_alloc ?_ _)); exact BK206.out) hb); have n1_ := Aside0.mk (below_step (by repeat (first | (with_reducible first | exact HB.out | apply below_alloc | apply pw_below_drewN | apply below_drew1 | refine below_set ?_ GE206.out) | exact HB.out)) hb); have n2_ := Aside0.mk (hbox); have n3_ := Aside0.mk ((by rw [hg]; exact (below_size (by repeat (first | (with_reducible first | exact HB.out | apply below_alloc | apply pw_below_drewN | apply below_drew1 | refine below_set ?_ GE206.out) | exact HB.out))) : w.heap.size ≤ gb207)); have n4_ := Aside0.mk ((by rw [hg]; exact (below_size (by repeat (first | (with_reducible first | exact HB.out | apply below_alloc | apply pw_below_drewN | apply below_drew1 | refine below_set ?_ GE206.out) | exact HB.out))) : w.heap.size ≤ gb207)); have n5_ := Aside0.mk ((by rw [hg]; exact Nat.ne_of_lt (blk_lt (g := gb206) (o := .cells #[.int .i64 a3_0, .int .i64 a3_1, .int .i64 a3_2] 25 (0, 0)) (by (with_reducible repeat (first | refine blk_drewN ?_ _ | refine blk_drew ?_ | refine blk_alloc ?_ _)); exact BK206.out)) : gb206 ≠ gb207)); have n6_ := Aside0.mk ((by rw [hg]; exact Nat.ne_of_gt (blk_lt (g := gb206) (o := .cells #[.int .i64 a3_0, .int .i64 a3_1, .int .i64 a3_2] 25 (0, 0)) (by (with_reducible repeat (first | refine blk_drewN ?_ _ | refine blk_drew ?_ | refine blk_alloc ?_ _)); exact BK206.out)) : gb207 ≠ gb206)); clear BK206; clear HB; have BK206 := n0_; have HB := n1_; have BK207 := n2_; have GW207 := n3_; have GE207 := n4_; have NB206_207 := n5_; have NB207_206 := n6_; clear n0_ n1_ n2_ n3_ n4_ n5_ n6_; clear hb hbox hg; have hnb25 := NB206_207.out; have hnc25 := NB207_206.out; have hcz26_0 : w24.cell? ⟨gb206, 0, none⟩ = some (.int .i64 a3_0) := (blk_cell BK206.out 0).trans rfl; have hcz26_1 : w24.cell? ⟨gb206, 1, none⟩ = some (.int .i64 a3_1) := (blk_cell BK206.out 1).trans rfl; have hcz26_2 : w24.cell? ⟨gb206, 2, none⟩ = some (.int .i64 a3_2) := (blk_cell BK206.out 2).trans rfl; have hfz26_0 := blk_frozen BK206.out 0; have hfz26_1 := blk_frozen BK206.out 1; have hfz26_2 := blk_frozen BK206.out 2) | ((with_reducible refine gate_callee (f := 15) rfl ?_); refine goesL_ (some 23) rfl rfl Try.func15 (by kernel_rfl) rfl #[.int .i64 a0, .int .i64 a1, .int .i64 a2, .agg #[.int .i64 a3_0, .int .i64 a3_1, .int .i64 a3_2]] rfl (by (try simp only [List.map_toArray, List.map_cons, List.map_nil]); first | done | rfl | (simp only [List.length_drop, List.length_take]; rfl)) ?_; (with_reducible refine (substationref29_ValidRecloser.calls k a0 a1 a2 a3_0 a3_1 a3_2 true _ A9.out).mono ?_); rintro e w27 ⟨rfl, hb⟩; refine ⟨_, rfl, ?_⟩; have n0_ := Aside0.mk (blk_below (g := gb206) (o := .cells #[.int .i64 a3_0, .int .i64 a3_1, .int .i64 a3_2] 25 (0, 0)) (by (with_reducible repeat (first | refine blk_drewN ?_ _ | refine blk_drew ?_ | refine blk_alloc ?_ _)); exact BK206.out) hb); have n1_ := Aside0.mk (blk_below (g := gb207) (o := .cells #[.int .i64 0, .int .i64 0, .int .i64 0] 25 (0, 0)) (by (with_reducible repeat (first | refine blk_drewN ?_ _ | refine blk_drew ?_ | refine blk_alloc ?_ _)); exact BK207.out) hb); have n2_ := Aside0.mk (below_step (by repeat (first | (with_reducible first | exact HB.out | apply below_alloc | apply pw_below_drewN | apply below_drew1 | refine below_set ?_ GE206.out | refine below_set ?_ GE207.out) | exact HB.out)) hb); clear BK206; clear BK207; clear HB; have BK206 := n0_; have BK207 := n1_; have HB := n2_; clear n0_ n1_ n2_; (try clear hb); (try clear hb2); (try clear hk); (try clear hi)) | ((with_reducible refine gate_dst (N := 18) rfl ?_); refine box_event ?hg (N := 18) ?hd (cs := #[.int .i64 0, .int .i64 0, .int .i64 0]) (t := 25) ?hr ?_; (case hd => rfl); (case hg => rfl); (case hr => first | (go_simp; done) | (go_simp; rfl)); intro gb209 hg w28 hbox hb; have n0_ := Aside0.mk (blk_below (g := gb206) (o := .cells #[.int .i64 a3_0, .int .i64 a3_1, .int .i64 a3_2] 25 (0, 0)) (by (with_reducible repeat (first | refine blk_drewN ?_ _ | refine blk_drew ?_ | refine blk_alloc ?_ _)); exact BK206.out) hb); have n1_ := Aside0.mk (blk_below (g := gb207) (o := .cells #[.int .i64 0, .int .i64 0, .int .i64 0] 25 (0, 0)) (by (with_reducible repeat (first | refine blk_drewN ?_ _ | refine blk_drew ?_ | refine blk_alloc ?_ _)); exact BK207.out) hb); have n2_ := Aside0.mk (below_step (by repeat (first | (with_reducible first | exact HB.out | apply below_alloc | apply pw_below_drewN | apply below_drew1 | refine below_set ?_ GE206.out | refine below_set ?_ GE207.out) | exact HB.out)) hb); have n3_ := Aside0.mk (hbox); have n4_ := Aside0.mk ((by rw [hg]; exact (below_size (by repeat (first | (with_reducible first | exact HB.out | apply below_alloc | apply pw_below_drewN | apply below_drew1 | refine below_set ?_ GE206.out | refine below_set ?_ GE207.out) | exact HB.out))) : w.heap.size ≤ gb209)); have n5_ := Aside0.mk ((by rw [hg]; exact (below_size (by repeat (first | (with_reducible first | exact HB.out | apply below_alloc | apply pw_below_drewN | apply below_drew1 | refine below_set ?_ GE206.out | refine below_set ?_ GE207.out) | exact HB.out))) : w.heap.size ≤ gb209)); have n6_ := Aside0.mk ((by rw [hg]; exact Nat.ne_of_lt (blk_lt (g := gb206) (o := .cells #[.int .i64 a3_0, .int .i64 a3_1, .int .i64 a3_2] 25 (0, 0)) (by (with_reducible repeat (first | refine blk_drewN ?_ _ | refine blk_drew ?_ | refine blk_alloc ?_ _)); exact BK206.out)) : gb206 ≠ gb209)); have n7_ := Aside0.mk ((by rw [hg]; exact Nat.ne_of_gt (blk_lt (g := gb206) (o := .cells #[.int .i64 a3_0, .int .i64 a3_1, .int .i64 a3_2] 25 (0, 0)) (by (with_reducible repeat (first | refine blk_drewN ?_ _ | refine blk_drew ?_ | refine blk_alloc ?_ _)); exact BK206.out)) : gb209 ≠ gb206)); have n8_ := Aside0.mk ((by rw [hg]; exact Nat.ne_of_lt (blk_lt (g := gb207) (o := .cells #[.int .i64 0, .int .i64 0, .int .i64 0] 25 (0, 0)) (by (with_reducible repeat (first | refine blk_drewN ?_ _ | refine blk_drew ?_ | refine blk_alloc ?_ _)); exact BK207.out)) : gb207 ≠ gb209)); have n9_ := Aside0.mk ((by rw [hg]; exact Nat.ne_of_gt (blk_lt (g := gb207) (o := .cells #[.int .i64 0, .int .i64 0, .int .i64 0] 25 (0, 0)) (by (with_reducible repeat (first | refine blk_drewN ?_ _ | refine blk_drew ?_ | refine blk_alloc ?_ _)); exact BK207.out)) : gb209 ≠ gb207)); clear BK206; clear BK207; clear HB; have BK206 := n0_; have BK207 := n1_; have HB := n2_; have BK209 := n3_; have GW209 := n4_; have GE209 := n5_; have NB206_209 := n6_; have NB209_206 := n7_; have NB207_209 := n8_; have NB209_207 := n9_; clear n0_ n1_ n2_ n3_ n4_ n5_ n6_ n7_ n8_ n9_; clear hb hbox hg; have hnb29 := NB209_206.out; have hnc29 := NB206_209.out; have hnb30 := NB209_207.out; have hnc30 := NB207_209.out; have hcz31_0 : w28.cell? ⟨gb209, 0, none⟩ = some (.int .i64 0) := (blk_cell BK209.out 0).trans rfl; have hcz31_1 : w28.cell? ⟨gb209, 1, none⟩ = some (.int .i64 0) := (blk_cell BK209.out 1).trans rfl; have hcz31_2 : w28.cell? ⟨gb209, 2, none⟩ = some (.int .i64 0) := (blk_cell BK209.out 2).trans rfl; have hfz31_0 := blk_frozen BK209.out 0; have hfz31_1 := blk_frozen BK209.out 1; have hfz31_2 := blk_frozen BK209.out 2))
      (try simp only [Act.put, List.setIfInBounds_toArray, List.set_cons_zero, List.set_cons_succ])
      go_cut [39] (fun v39 wc => ∃ (kq : Nat) (x39_21 : Bool), v39 = .bool x39_21 ∧ Aside0 (substationref29_Recloser.j0 kq a0 a1 a2 a6 a7 x39_21 a3_0 a3_1 a3_2 5 0 0 = some (r1, r2, r3, r4)) ∧ Aside0 (kq ≤ k) ∧ Aside0 (wc.heap[gb206]? = some (.cells #[.int .i64 a3_0, .int .i64 a3_1, .int .i64 a3_2] 25 (0, 0))) ∧ Aside0 (wc.heap[gb207]? = some (.cells #[.int .i64 0, .int .i64 0, .int .i64 0] 25 (0, 0))) ∧ Aside0 (wc.heap[gb209]? = some (.cells #[.int .i64 5, .int .i64 0, .int .i64 0] 25 (0, 0))) ∧ Aside0 (Below w.heap.size w wc))
      case first =>
        have H := HC22.out
        clear HC22
        by_cases c32 : a4 = true
        · subst c32
          have H1 : (if a3_0 = 0 then (substationref29_Recloser.j0 k a0 a1 a2 a6 a7 true a3_0 a3_1 a3_2 5 0 0) else (substationref29_Recloser.j0 k a0 a1 a2 a6 a7 (a3_0 == 4) a3_0 a3_1 a3_2 5 0 0)) = some (r1, r2, r3, r4) := by rw [if_pos rfl] at H; exact H
          clear H
          have H := H1
          clear H1
          by_cases c33 : a3_0 = 0
          · rw [if_pos c33] at H
            have c33b0 : (a3_0 == 0) = true := beq_iff_eq.mpr c33
            have c33b1 : (a3_0 != 0) = false := bne_eq_false_iff_eq.mpr c33
            clear c33
            (first | rw [c33b0] | (simp only [i64_w, i32_w]; rw [c33b0]) | skip)
            have H' := Aside0.mk H
            clear H
            have hnb34 := NB206_207.out
            have hnc34 := NB207_206.out
            have hnb35 := NB206_209.out
            have hnc35 := NB209_206.out
            have hcz36_0 : w28.cell? ⟨gb206, 0, none⟩ = some (.int .i64 a3_0) := (blk_cell BK206.out 0).trans rfl
            have hcz36_1 : w28.cell? ⟨gb206, 1, none⟩ = some (.int .i64 a3_1) := (blk_cell BK206.out 1).trans rfl
            have hcz36_2 : w28.cell? ⟨gb206, 2, none⟩ = some (.int .i64 a3_2) := (blk_cell BK206.out 2).trans rfl
            have hfz36_0 := blk_frozen BK206.out 0
            have hfz36_1 := blk_frozen BK206.out 1
            have hfz36_2 := blk_frozen BK206.out 2
            go_wp2
            go_meet
            case rel => exact ⟨_, (true), (by first | rfl | (simp; done) | (simp [*]; done)), H', ⟨by first | omega | exact Nat.le_refl _⟩, ⟨by (with_reducible repeat (first | refine blk_drewN ?_ _ | refine blk_drew ?_ | refine blk_alloc ?_ _)); refine blk_far ?_ NB206_209.out _; (with_reducible repeat (first | refine blk_drewN ?_ _ | refine blk_drew ?_ | refine blk_alloc ?_ _)); refine blk_far ?_ NB206_209.out _; (with_reducible repeat (first | refine blk_drewN ?_ _ | refine blk_drew ?_ | refine blk_alloc ?_ _)); refine blk_far ?_ NB206_209.out _; (with_reducible repeat (first | refine blk_drewN ?_ _ | refine blk_drew ?_ | refine blk_alloc ?_ _)); exact BK206.out⟩, ⟨by (with_reducible repeat (first | refine blk_drewN ?_ _ | refine blk_drew ?_ | refine blk_alloc ?_ _)); refine blk_far ?_ NB207_209.out _; (with_reducible repeat (first | refine blk_drewN ?_ _ | refine blk_drew ?_ | refine blk_alloc ?_ _)); refine blk_far ?_ NB207_209.out _; (with_reducible repeat (first | refine blk_drewN ?_ _ | refine blk_drew ?_ | refine blk_alloc ?_ _)); refine blk_far ?_ NB207_209.out _; (with_reducible repeat (first | refine blk_drewN ?_ _ | refine blk_drew ?_ | refine blk_alloc ?_ _)); exact BK207.out⟩, ⟨by (with_reducible repeat (first | refine blk_drewN ?_ _ | refine blk_drew ?_ | refine blk_alloc ?_ _)); refine blk_put (cs := #[.int .i64 5, .int .i64 0, .int .i64 0]) ?_ 2 _ rfl; (with_reducible repeat (first | refine blk_drewN ?_ _ | refine blk_drew ?_ | refine blk_alloc ?_ _)); refine blk_put (cs := #[.int .i64 5, .int .i64 0, .int .i64 0]) ?_ 1 _ rfl; (with_reducible repeat (first | refine blk_drewN ?_ _ | refine blk_drew ?_ | refine blk_alloc ?_ _)); refine blk_put (cs := #[.int .i64 0, .int .i64 0, .int .i64 0]) ?_ 0 _ rfl; (with_reducible repeat (first | refine blk_drewN ?_ _ | refine blk_drew ?_ | refine blk_alloc ?_ _)); exact BK209.out⟩, ⟨by repeat (first | (with_reducible first | exact HB.out | apply below_alloc | apply pw_below_drewN | apply below_drew1 | refine below_set ?_ GE206.out | refine below_set ?_ GE207.out | refine below_set ?_ GE209.out) | exact HB.out)⟩⟩
          · rw [if_neg c33] at H
            have c33b0 : (a3_0 == 0) = false := beq_eq_false_iff_ne.mpr c33
            have c33b1 : (a3_0 != 0) = true := bne_iff_ne.mpr c33
            (first | rw [c33b0] | (simp only [i64_w, i32_w]; rw [c33b0]) | skip)
            have H' := Aside0.mk H
            clear H
            have hnb37 := NB206_207.out
            have hnc37 := NB207_206.out
            have hnb38 := NB206_209.out
            have hnc38 := NB209_206.out
            have hcz39_0 : w28.cell? ⟨gb206, 0, none⟩ = some (.int .i64 a3_0) := (blk_cell BK206.out 0).trans rfl
            have hcz39_1 : w28.cell? ⟨gb206, 1, none⟩ = some (.int .i64 a3_1) := (blk_cell BK206.out 1).trans rfl
            have hcz39_2 : w28.cell? ⟨gb206, 2, none⟩ = some (.int .i64 a3_2) := (blk_cell BK206.out 2).trans rfl
            have hfz39_0 := blk_frozen BK206.out 0
            have hfz39_1 := blk_frozen BK206.out 1
            have hfz39_2 := blk_frozen BK206.out 2
            go_wp2
            go_meet
            case rel => exact ⟨_, ((a3_0 == 4)), (by first | rfl | (simp; done) | (simp [*]; done)), H', ⟨by first | omega | exact Nat.le_refl _⟩, ⟨by (with_reducible repeat (first | refine blk_drewN ?_ _ | refine blk_drew ?_ | refine blk_alloc ?_ _)); refine blk_far ?_ NB206_209.out _; (with_reducible repeat (first | refine blk_drewN ?_ _ | refine blk_drew ?_ | refine blk_alloc ?_ _)); refine blk_far ?_ NB206_209.out _; (with_reducible repeat (first | refine blk_drewN ?_ _ | refine blk_drew ?_ | refine blk_alloc ?_ _)); refine blk_far ?_ NB206_209.out _; (with_reducible repeat (first | refine blk_drewN ?_ _ | refine blk_drew ?_ | refine blk_alloc ?_ _)); exact BK206.out⟩, ⟨by (with_reducible repeat (first | refine blk_drewN ?_ _ | refine blk_drew ?_ | refine blk_alloc ?_ _)); refine blk_far ?_ NB207_209.out _; (with_reducible repeat (first | refine blk_drewN ?_ _ | refine blk_drew ?_ | refine blk_alloc ?_ _)); refine blk_far ?_ NB207_209.out _; (with_reducible repeat (first | refine blk_drewN ?_ _ | refine blk_drew ?_ | refine blk_alloc ?_ _)); refine blk_far ?_ NB207_209.out _; (with_reducible repeat (first | refine blk_drewN ?_ _ | refine blk_drew ?_ | refine blk_alloc ?_ _)); exact BK207.out⟩, ⟨by (with_reducible repeat (first | refine blk_drewN ?_ _ | refine blk_drew ?_ | refine blk_alloc ?_ _)); refine blk_put (cs := #[.int .i64 5, .int .i64 0, .int .i64 0]) ?_ 2 _ rfl; (with_reducible repeat (first | refine blk_drewN ?_ _ | refine blk_drew ?_ | refine blk_alloc ?_ _)); refine blk_put (cs := #[.int .i64 5, .int .i64 0, .int .i64 0]) ?_ 1 _ rfl; (with_reducible repeat (first | refine blk_drewN ?_ _ | refine blk_drew ?_ | refine blk_alloc ?_ _)); refine blk_put (cs := #[.int .i64 0, .int .i64 0, .int .i64 0]) ?_ 0 _ rfl; (with_reducible repeat (first | refine blk_drewN ?_ _ | refine blk_drew ?_ | refine blk_alloc ?_ _)); exact BK209.out⟩, ⟨by repeat (first | (with_reducible first | exact HB.out | apply below_alloc | apply pw_below_drewN | apply below_drew1 | refine below_set ?_ GE206.out | refine below_set ?_ GE207.out | refine below_set ?_ GE209.out) | exact HB.out)⟩⟩
        · replace c32 := Bool.eq_false_iff.mpr c32
          subst c32
          have H1 : (substationref29_Recloser.j0 k a0 a1 a2 a6 a7 false a3_0 a3_1 a3_2 5 0 0) = some (r1, r2, r3, r4) := by rw [if_neg (show ¬ (false = true) by decide)] at H; exact H
          clear H
          have H := H1
          clear H1
          have H' := Aside0.mk H
          clear H
          go_wp2
          go_meet
          case rel => exact ⟨_, (false), (by first | rfl | (simp; done) | (simp [*]; done)), H', ⟨by first | omega | exact Nat.le_refl _⟩, ⟨by (with_reducible repeat (first | refine blk_drewN ?_ _ | refine blk_drew ?_ | refine blk_alloc ?_ _)); refine blk_far ?_ NB206_209.out _; (with_reducible repeat (first | refine blk_drewN ?_ _ | refine blk_drew ?_ | refine blk_alloc ?_ _)); refine blk_far ?_ NB206_209.out _; (with_reducible repeat (first | refine blk_drewN ?_ _ | refine blk_drew ?_ | refine blk_alloc ?_ _)); refine blk_far ?_ NB206_209.out _; (with_reducible repeat (first | refine blk_drewN ?_ _ | refine blk_drew ?_ | refine blk_alloc ?_ _)); exact BK206.out⟩, ⟨by (with_reducible repeat (first | refine blk_drewN ?_ _ | refine blk_drew ?_ | refine blk_alloc ?_ _)); refine blk_far ?_ NB207_209.out _; (with_reducible repeat (first | refine blk_drewN ?_ _ | refine blk_drew ?_ | refine blk_alloc ?_ _)); refine blk_far ?_ NB207_209.out _; (with_reducible repeat (first | refine blk_drewN ?_ _ | refine blk_drew ?_ | refine blk_alloc ?_ _)); refine blk_far ?_ NB207_209.out _; (with_reducible repeat (first | refine blk_drewN ?_ _ | refine blk_drew ?_ | refine blk_alloc ?_ _)); exact BK207.out⟩, ⟨by (with_reducible repeat (first | refine blk_drewN ?_ _ | refine blk_drew ?_ | refine blk_alloc ?_ _)); refine blk_put (cs := #[.int .i64 5, .int .i64 0, .int .i64 0]) ?_ 2 _ rfl; (with_reducible repeat (first | refine blk_drewN ?_ _ | refine blk_drew ?_ | refine blk_alloc ?_ _)); refine blk_put (cs := #[.int .i64 5, .int .i64 0, .int .i64 0]) ?_ 1 _ rfl; (with_reducible repeat (first | refine blk_drewN ?_ _ | refine blk_drew ?_ | refine blk_alloc ?_ _)); refine blk_put (cs := #[.int .i64 0, .int .i64 0, .int .i64 0]) ?_ 0 _ rfl; (with_reducible repeat (first | refine blk_drewN ?_ _ | refine blk_drew ?_ | refine blk_alloc ?_ _)); exact BK209.out⟩, ⟨by repeat (first | (with_reducible first | exact HB.out | apply below_alloc | apply pw_below_drewN | apply below_drew1 | refine below_set ?_ GE206.out | refine below_set ?_ GE207.out | refine below_set ?_ GE209.out) | exact HB.out)⟩⟩
      case rest =>
        clear HC22
        try clear c1
        try clear c2
        try clear p2
        try clear c3
        try clear c10
        try clear c11
        try clear c13
        try clear c14
        try clear c15
        try clear c18
        try clear c19
        try clear c25
        try clear c29
        try clear c30
        try clear c32
        try clear c33
        try clear c33b0
        try clear c33b1
        try clear c34
        try clear c35
        try clear c37
        try clear c38
        try clear hcz15_0
        try clear hcz15_1
        try clear hcz15_2
        try clear hcz20_0
        try clear hcz20_1
        try clear hcz20_2
        try clear hcz21_0
        try clear hcz21_1
        try clear hcz21_2
        try clear hcz26_0
        try clear hcz26_1
        try clear hcz26_2
        try clear hcz31_0
        try clear hcz31_1
        try clear hcz31_2
        try clear hcz36_0
        try clear hcz36_1
        try clear hcz36_2
        try clear hcz39_0
        try clear hcz39_1
        try clear hcz39_2
        try clear hfz15_0
        try clear hfz15_1
        try clear hfz15_2
        try clear hfz20_0
        try clear hfz20_1
        try clear hfz20_2
        try clear hfz21_0
        try clear hfz21_1
        try clear hfz21_2
        try clear hfz26_0
        try clear hfz26_1
        try clear hfz26_2
        try clear hfz31_0
        try clear hfz31_1
        try clear hfz31_2
        try clear hfz36_0
        try clear hfz36_1
        try clear hfz36_2
        try clear hfz39_0
        try clear hfz39_1
        try clear hfz39_2
        obtain ⟨kq, x39_21, rfl, HA, HJ21, BK206, BK207, BK209, HB⟩ := hcut
        cases kq with
        | zero => exact absurd HA.out (by simp [substationref29_Recloser.j0])
        | succ kj21 =>
          have H := HA.out
          clear HA
          simp only [substationref29_Recloser.j0] at H
          by_cases c40 : x39_21 = true
          · subst c40
            have H1 : (if a7 = true then (some (5, 0, 0, false)) else (if a3_1 = a0 then (some (5, 0, 0, false)) else (some (1, wrap64 (a3_1 + 1), 0, false)))) = some (r1, r2, r3, r4) := by rw [if_pos rfl] at H; exact H
            clear H
            have H := H1
            clear H1
            by_cases c41 : a7 = true
            · subst c41
              have H1 : (some (5, 0, 0, false)) = some (r1, r2, r3, r4) := by rw [if_pos rfl] at H; exact H
              clear H
              have H := H1
              clear H1
              simp only [Option.some.injEq, Prod.mk.injEq] at H
              obtain ⟨rfl, rfl, rfl, rfl⟩ := H
              have hnb42 := NB209_206.out
              have hnc42 := NB206_209.out
              have hnb43 := NB209_207.out
              have hnc43 := NB207_209.out
              have hcz44_0 : wc.cell? ⟨gb209, 0, none⟩ = some (.int .i64 5) := (blk_cell BK209.out 0).trans rfl
              have hcz44_1 : wc.cell? ⟨gb209, 1, none⟩ = some (.int .i64 0) := (blk_cell BK209.out 1).trans rfl
              have hcz44_2 : wc.cell? ⟨gb209, 2, none⟩ = some (.int .i64 0) := (blk_cell BK209.out 2).trans rfl
              have hfz44_0 := blk_frozen BK209.out 0
              have hfz44_1 := blk_frozen BK209.out 1
              have hfz44_2 := blk_frozen BK209.out 2
              have hnb45 := NB207_206.out
              have hnc45 := NB206_207.out
              have hcz46_0 : wc.cell? ⟨gb207, 0, none⟩ = some (.int .i64 0) := (blk_cell BK207.out 0).trans rfl
              have hcz46_1 : wc.cell? ⟨gb207, 1, none⟩ = some (.int .i64 0) := (blk_cell BK207.out 1).trans rfl
              have hcz46_2 : wc.cell? ⟨gb207, 2, none⟩ = some (.int .i64 0) := (blk_cell BK207.out 2).trans rfl
              have hfz46_0 := blk_frozen BK207.out 0
              have hfz46_1 := blk_frozen BK207.out 1
              have hfz46_2 := blk_frozen BK207.out 2
              go_wp2
              refine bodyPost_ret (results_ct rfl _ _ gb207 25 #[.int .i64 5, .int .i64 0, .int .i64 0] (0, 0) _ rfl (by (with_reducible repeat (first | refine blk_drewN ?_ _ | refine blk_drew ?_ | refine blk_alloc ?_ _)); refine blk_put (cs := #[.int .i64 5, .int .i64 0, .int .i64 0]) ?_ 2 _ rfl; (with_reducible repeat (first | refine blk_drewN ?_ _ | refine blk_drew ?_ | refine blk_alloc ?_ _)); refine blk_put (cs := #[.int .i64 5, .int .i64 0, .int .i64 0]) ?_ 1 _ rfl; (with_reducible repeat (first | refine blk_drewN ?_ _ | refine blk_drew ?_ | refine blk_alloc ?_ _)); refine blk_put (cs := #[.int .i64 0, .int .i64 0, .int .i64 0]) ?_ 0 _ rfl; (with_reducible repeat (first | refine blk_drewN ?_ _ | refine blk_drew ?_ | refine blk_alloc ?_ _)); exact BK207.out) Try.underlying25 rfl (by kernel_rfl)) rfl ?_
              exact ⟨by first | rfl | (simp [errW_none, errW_some] <;> rfl) | (simp [*, errW_none, errW_some] <;> rfl), by repeat (first | (with_reducible first | exact HB.out | apply below_alloc | apply pw_below_drewN | apply below_drew1 | refine below_set ?_ GE206.out | refine below_set ?_ GE207.out | refine below_set ?_ GE209.out) | exact HB.out)⟩
            · replace c41 := Bool.eq_false_iff.mpr c41
              subst c41
              have H1 : (if a3_1 = a0 then (some (5, 0, 0, false)) else (some (1, wrap64 (a3_1 + 1), 0, false))) = some (r1, r2, r3, r4) := by rw [if_neg (show ¬ (false = true) by decide)] at H; exact H
              clear H
              have H := H1
              clear H1
              by_cases c47 : a3_1 = a0
              · rw [if_pos c47] at H
                have c47b0 : (a3_1 == a0) = true := beq_iff_eq.mpr c47
                have c47b1 : (a3_1 != a0) = false := bne_eq_false_iff_eq.mpr c47
                clear c47
                simp only [Option.some.injEq, Prod.mk.injEq] at H
                obtain ⟨rfl, rfl, rfl, rfl⟩ := H
                have hnb48 := NB206_207.out
                have hnc48 := NB207_206.out
                have hnb49 := NB206_209.out
                have hnc49 := NB209_206.out
                have hcz50_0 : wc.cell? ⟨gb206, 0, none⟩ = some (.int .i64 a3_0) := (blk_cell BK206.out 0).trans rfl
                have hcz50_1 : wc.cell? ⟨gb206, 1, none⟩ = some (.int .i64 a3_1) := (blk_cell BK206.out 1).trans rfl
                have hcz50_2 : wc.cell? ⟨gb206, 2, none⟩ = some (.int .i64 a3_2) := (blk_cell BK206.out 2).trans rfl
                have hfz50_0 := blk_frozen BK206.out 0
                have hfz50_1 := blk_frozen BK206.out 1
                have hfz50_2 := blk_frozen BK206.out 2
                have hnb51 := NB209_207.out
                have hnc51 := NB207_209.out
                have hcz52_0 : wc.cell? ⟨gb209, 0, none⟩ = some (.int .i64 5) := (blk_cell BK209.out 0).trans rfl
                have hcz52_1 : wc.cell? ⟨gb209, 1, none⟩ = some (.int .i64 0) := (blk_cell BK209.out 1).trans rfl
                have hcz52_2 : wc.cell? ⟨gb209, 2, none⟩ = some (.int .i64 0) := (blk_cell BK209.out 2).trans rfl
                have hfz52_0 := blk_frozen BK209.out 0
                have hfz52_1 := blk_frozen BK209.out 1
                have hfz52_2 := blk_frozen BK209.out 2
                have hcz53_0 : wc.cell? ⟨gb207, 0, none⟩ = some (.int .i64 0) := (blk_cell BK207.out 0).trans rfl
                have hcz53_1 : wc.cell? ⟨gb207, 1, none⟩ = some (.int .i64 0) := (blk_cell BK207.out 1).trans rfl
                have hcz53_2 : wc.cell? ⟨gb207, 2, none⟩ = some (.int .i64 0) := (blk_cell BK207.out 2).trans rfl
                have hfz53_0 := blk_frozen BK207.out 0
                have hfz53_1 := blk_frozen BK207.out 1
                have hfz53_2 := blk_frozen BK207.out 2
                go_wp2
                refine bodyPost_ret (results_ct rfl _ _ gb207 25 #[.int .i64 5, .int .i64 0, .int .i64 0] (0, 0) _ rfl (by (with_reducible repeat (first | refine blk_drewN ?_ _ | refine blk_drew ?_ | refine blk_alloc ?_ _)); refine blk_put (cs := #[.int .i64 5, .int .i64 0, .int .i64 0]) ?_ 2 _ rfl; (with_reducible repeat (first | refine blk_drewN ?_ _ | refine blk_drew ?_ | refine blk_alloc ?_ _)); refine blk_put (cs := #[.int .i64 5, .int .i64 0, .int .i64 0]) ?_ 1 _ rfl; (with_reducible repeat (first | refine blk_drewN ?_ _ | refine blk_drew ?_ | refine blk_alloc ?_ _)); refine blk_put (cs := #[.int .i64 0, .int .i64 0, .int .i64 0]) ?_ 0 _ rfl; (with_reducible repeat (first | refine blk_drewN ?_ _ | refine blk_drew ?_ | refine blk_alloc ?_ _)); exact BK207.out) Try.underlying25 rfl (by kernel_rfl)) rfl ?_
                exact ⟨by first | rfl | (simp [errW_none, errW_some] <;> rfl) | (simp [*, errW_none, errW_some] <;> rfl), by repeat (first | (with_reducible first | exact HB.out | apply below_alloc | apply pw_below_drewN | apply below_drew1 | refine below_set ?_ GE206.out | refine below_set ?_ GE207.out | refine below_set ?_ GE209.out) | exact HB.out)⟩
              · rw [if_neg c47] at H
                have c47b0 : (a3_1 == a0) = false := beq_eq_false_iff_ne.mpr c47
                have c47b1 : (a3_1 != a0) = true := bne_iff_ne.mpr c47
                simp only [Option.some.injEq, Prod.mk.injEq] at H
                obtain ⟨rfl, rfl, rfl, rfl⟩ := H
                have hnb54 := NB206_207.out
                have hnc54 := NB207_206.out
                have hnb55 := NB206_209.out
                have hnc55 := NB209_206.out
                have hcz56_0 : wc.cell? ⟨gb206, 0, none⟩ = some (.int .i64 a3_0) := (blk_cell BK206.out 0).trans rfl
                have hcz56_1 : wc.cell? ⟨gb206, 1, none⟩ = some (.int .i64 a3_1) := (blk_cell BK206.out 1).trans rfl
                have hcz56_2 : wc.cell? ⟨gb206, 2, none⟩ = some (.int .i64 a3_2) := (blk_cell BK206.out 2).trans rfl
                have hfz56_0 := blk_frozen BK206.out 0
                have hfz56_1 := blk_frozen BK206.out 1
                have hfz56_2 := blk_frozen BK206.out 2
                have hnb57 := NB207_209.out
                have hnc57 := NB209_207.out
                have hcz58_0 : wc.cell? ⟨gb207, 0, none⟩ = some (.int .i64 0) := (blk_cell BK207.out 0).trans rfl
                have hcz58_1 : wc.cell? ⟨gb207, 1, none⟩ = some (.int .i64 0) := (blk_cell BK207.out 1).trans rfl
                have hcz58_2 : wc.cell? ⟨gb207, 2, none⟩ = some (.int .i64 0) := (blk_cell BK207.out 2).trans rfl
                have hfz58_0 := blk_frozen BK207.out 0
                have hfz58_1 := blk_frozen BK207.out 1
                have hfz58_2 := blk_frozen BK207.out 2
                go_wp2
                refine bodyPost_ret (results_ct rfl _ _ gb207 25 #[.int .i64 1, .int .i64 (wrap64 (a3_1 + 1)), .int .i64 0] (0, 0) _ rfl (by (with_reducible repeat (first | refine blk_drewN ?_ _ | refine blk_drew ?_ | refine blk_alloc ?_ _)); refine blk_put (cs := #[.int .i64 1, .int .i64 (wrap64 (a3_1 + 1)), .int .i64 0]) ?_ 2 _ rfl; (with_reducible repeat (first | refine blk_drewN ?_ _ | refine blk_drew ?_ | refine blk_alloc ?_ _)); refine blk_put (cs := #[.int .i64 1, .int .i64 0, .int .i64 0]) ?_ 1 _ rfl; (with_reducible repeat (first | refine blk_drewN ?_ _ | refine blk_drew ?_ | refine blk_alloc ?_ _)); refine blk_put (cs := #[.int .i64 0, .int .i64 0, .int .i64 0]) ?_ 0 _ rfl; (with_reducible repeat (first | refine blk_drewN ?_ _ | refine blk_drew ?_ | refine blk_alloc ?_ _)); exact BK207.out) Try.underlying25 rfl (by kernel_rfl)) rfl ?_
                exact ⟨by first | rfl | (simp [errW_none, errW_some] <;> rfl) | (simp [*, errW_none, errW_some] <;> rfl), by repeat (first | (with_reducible first | exact HB.out | apply below_alloc | apply pw_below_drewN | apply below_drew1 | refine below_set ?_ GE206.out | refine below_set ?_ GE207.out | refine below_set ?_ GE209.out) | exact HB.out)⟩
          · replace c40 := Bool.eq_false_iff.mpr c40
            subst c40
            have H1 : (if a3_0 = 0 then (if a6 = true then (some (5, 0, 0, false)) else (some (a3_0, a3_1, a3_2, false))) else (if a3_0 = 1 then (substationref29_Recloser.j1 kj21 a1 a2 a6 a7 a3_0 (a3_0 == 1) a3_0 a3_1 a3_2 5 0 0) else (substationref29_Recloser.j1 kj21 a1 a2 a6 a7 a3_0 (a3_0 == 3) a3_0 a3_1 a3_2 5 0 0))) = some (r1, r2, r3, r4) := by rw [if_neg (show ¬ (false = true) by decide)] at H; exact H
            clear H
            have H := H1
            clear H1
            by_cases c59 : a3_0 = 0
            · rw [if_pos c59] at H
              have c59b0 : (a3_0 == 0) = true := beq_iff_eq.mpr c59
              have c59b1 : (a3_0 != 0) = false := bne_eq_false_iff_eq.mpr c59
              clear c59
              by_cases c60 : a6 = true
              · subst c60
                have H1 : (some (5, 0, 0, false)) = some (r1, r2, r3, r4) := by rw [if_pos rfl] at H; exact H
                clear H
                have H := H1
                clear H1
                simp only [Option.some.injEq, Prod.mk.injEq] at H
                obtain ⟨rfl, rfl, rfl, rfl⟩ := H
                have hnb61 := NB206_207.out
                have hnc61 := NB207_206.out
                have hnb62 := NB206_209.out
                have hnc62 := NB209_206.out
                have hcz63_0 : wc.cell? ⟨gb206, 0, none⟩ = some (.int .i64 a3_0) := (blk_cell BK206.out 0).trans rfl
                have hcz63_1 : wc.cell? ⟨gb206, 1, none⟩ = some (.int .i64 a3_1) := (blk_cell BK206.out 1).trans rfl
                have hcz63_2 : wc.cell? ⟨gb206, 2, none⟩ = some (.int .i64 a3_2) := (blk_cell BK206.out 2).trans rfl
                have hfz63_0 := blk_frozen BK206.out 0
                have hfz63_1 := blk_frozen BK206.out 1
                have hfz63_2 := blk_frozen BK206.out 2
                have hnb64 := NB209_207.out
                have hnc64 := NB207_209.out
                have hcz65_0 : wc.cell? ⟨gb209, 0, none⟩ = some (.int .i64 5) := (blk_cell BK209.out 0).trans rfl
                have hcz65_1 : wc.cell? ⟨gb209, 1, none⟩ = some (.int .i64 0) := (blk_cell BK209.out 1).trans rfl
                have hcz65_2 : wc.cell? ⟨gb209, 2, none⟩ = some (.int .i64 0) := (blk_cell BK209.out 2).trans rfl
                have hfz65_0 := blk_frozen BK209.out 0
                have hfz65_1 := blk_frozen BK209.out 1
                have hfz65_2 := blk_frozen BK209.out 2
                have hcz66_0 : wc.cell? ⟨gb207, 0, none⟩ = some (.int .i64 0) := (blk_cell BK207.out 0).trans rfl
                have hcz66_1 : wc.cell? ⟨gb207, 1, none⟩ = some (.int .i64 0) := (blk_cell BK207.out 1).trans rfl
                have hcz66_2 : wc.cell? ⟨gb207, 2, none⟩ = some (.int .i64 0) := (blk_cell BK207.out 2).trans rfl
                have hfz66_0 := blk_frozen BK207.out 0
                have hfz66_1 := blk_frozen BK207.out 1
                have hfz66_2 := blk_frozen BK207.out 2
                go_wp2
                refine bodyPost_ret (results_ct rfl _ _ gb207 25 #[.int .i64 5, .int .i64 0, .int .i64 0] (0, 0) _ rfl (by (with_reducible repeat (first | refine blk_drewN ?_ _ | refine blk_drew ?_ | refine blk_alloc ?_ _)); refine blk_put (cs := #[.int .i64 5, .int .i64 0, .int .i64 0]) ?_ 2 _ rfl; (with_reducible repeat (first | refine blk_drewN ?_ _ | refine blk_drew ?_ | refine blk_alloc ?_ _)); refine blk_put (cs := #[.int .i64 5, .int .i64 0, .int .i64 0]) ?_ 1 _ rfl; (with_reducible repeat (first | refine blk_drewN ?_ _ | refine blk_drew ?_ | refine blk_alloc ?_ _)); refine blk_put (cs := #[.int .i64 0, .int .i64 0, .int .i64 0]) ?_ 0 _ rfl; (with_reducible repeat (first | refine blk_drewN ?_ _ | refine blk_drew ?_ | refine blk_alloc ?_ _)); exact BK207.out) Try.underlying25 rfl (by kernel_rfl)) rfl ?_
                exact ⟨by first | rfl | (simp [errW_none, errW_some] <;> rfl) | (simp [*, errW_none, errW_some] <;> rfl), by repeat (first | (with_reducible first | exact HB.out | apply below_alloc | apply pw_below_drewN | apply below_drew1 | refine below_set ?_ GE206.out | refine below_set ?_ GE207.out | refine below_set ?_ GE209.out) | exact HB.out)⟩
              · replace c60 := Bool.eq_false_iff.mpr c60
                subst c60
                have H1 : (some (a3_0, a3_1, a3_2, false)) = some (r1, r2, r3, r4) := by rw [if_neg (show ¬ (false = true) by decide)] at H; exact H
                clear H
                have H := H1
                clear H1
                simp only [Option.some.injEq, Prod.mk.injEq] at H
                obtain ⟨rfl, rfl, rfl, rfl⟩ := H
                have hnb67 := NB206_207.out
                have hnc67 := NB207_206.out
                have hnb68 := NB206_209.out
                have hnc68 := NB209_206.out
                have hcz69_0 : wc.cell? ⟨gb206, 0, none⟩ = some (.int .i64 a3_0) := (blk_cell BK206.out 0).trans rfl
                have hcz69_1 : wc.cell? ⟨gb206, 1, none⟩ = some (.int .i64 a3_1) := (blk_cell BK206.out 1).trans rfl
                have hcz69_2 : wc.cell? ⟨gb206, 2, none⟩ = some (.int .i64 a3_2) := (blk_cell BK206.out 2).trans rfl
                have hfz69_0 := blk_frozen BK206.out 0
                have hfz69_1 := blk_frozen BK206.out 1
                have hfz69_2 := blk_frozen BK206.out 2
                have hnb70 := NB207_209.out
                have hnc70 := NB209_207.out
                have hcz71_0 : wc.cell? ⟨gb207, 0, none⟩ = some (.int .i64 0) := (blk_cell BK207.out 0).trans rfl
                have hcz71_1 : wc.cell? ⟨gb207, 1, none⟩ = some (.int .i64 0) := (blk_cell BK207.out 1).trans rfl
                have hcz71_2 : wc.cell? ⟨gb207, 2, none⟩ = some (.int .i64 0) := (blk_cell BK207.out 2).trans rfl
                have hfz71_0 := blk_frozen BK207.out 0
                have hfz71_1 := blk_frozen BK207.out 1
                have hfz71_2 := blk_frozen BK207.out 2
                go_wp2
                refine bodyPost_ret (results_ct rfl _ _ gb207 25 #[.int .i64 a3_0, .int .i64 a3_1, .int .i64 a3_2] (0, 0) _ rfl (by (with_reducible repeat (first | refine blk_drewN ?_ _ | refine blk_drew ?_ | refine blk_alloc ?_ _)); refine blk_put (cs := #[.int .i64 a3_0, .int .i64 a3_1, .int .i64 0]) ?_ 2 _ rfl; (with_reducible repeat (first | refine blk_drewN ?_ _ | refine blk_drew ?_ | refine blk_alloc ?_ _)); refine blk_put (cs := #[.int .i64 a3_0, .int .i64 0, .int .i64 0]) ?_ 1 _ rfl; (with_reducible repeat (first | refine blk_drewN ?_ _ | refine blk_drew ?_ | refine blk_alloc ?_ _)); refine blk_put (cs := #[.int .i64 0, .int .i64 0, .int .i64 0]) ?_ 0 _ rfl; (with_reducible repeat (first | refine blk_drewN ?_ _ | refine blk_drew ?_ | refine blk_alloc ?_ _)); exact BK207.out) Try.underlying25 rfl (by kernel_rfl)) rfl ?_
                exact ⟨by first | rfl | (simp [errW_none, errW_some] <;> rfl) | (simp [*, errW_none, errW_some] <;> rfl), by repeat (first | (with_reducible first | exact HB.out | apply below_alloc | apply pw_below_drewN | apply below_drew1 | refine below_set ?_ GE206.out | refine below_set ?_ GE207.out | refine below_set ?_ GE209.out) | exact HB.out)⟩
            · rw [if_neg c59] at H
              have c59b0 : (a3_0 == 0) = false := beq_eq_false_iff_ne.mpr c59
              have c59b1 : (a3_0 != 0) = true := bne_iff_ne.mpr c59
              have HC72 := Aside0.mk H
              clear H
              have hnb73 := NB206_207.out
              have hnc73 := NB207_206.out
              have hnb74 := NB206_209.out
              have hnc74 := NB209_206.out
              have hcz75_0 : wc.cell? ⟨gb206, 0, none⟩ = some (.int .i64 a3_0) := (blk_cell BK206.out 0).trans rfl
              have hcz75_1 : wc.cell? ⟨gb206, 1, none⟩ = some (.int .i64 a3_1) := (blk_cell BK206.out 1).trans rfl
              have hcz75_2 : wc.cell? ⟨gb206, 2, none⟩ = some (.int .i64 a3_2) := (blk_cell BK206.out 2).trans rfl
              have hfz75_0 := blk_frozen BK206.out 0
              have hfz75_1 := blk_frozen BK206.out 1
              have hfz75_2 := blk_frozen BK206.out 2
              go_upto_if 64 with (fail)
              go_cut [64] (fun v64 wc => ∃ (kq : Nat) (x64_71 : Bool), v64 = .bool x64_71 ∧ Aside0 (substationref29_Recloser.j1 kq a1 a2 a6 a7 a3_0 x64_71 a3_0 a3_1 a3_2 5 0 0 = some (r1, r2, r3, r4)) ∧ Aside0 (kq ≤ kj21) ∧ Aside0 (wc.heap[gb206]? = some (.cells #[.int .i64 a3_0, .int .i64 a3_1, .int .i64 a3_2] 25 (0, 0))) ∧ Aside0 (wc.heap[gb207]? = some (.cells #[.int .i64 0, .int .i64 0, .int .i64 0] 25 (0, 0))) ∧ Aside0 (wc.heap[gb209]? = some (.cells #[.int .i64 5, .int .i64 0, .int .i64 0] 25 (0, 0))) ∧ Aside0 (Below w.heap.size w wc))
              case first =>
                have H := HC72.out
                clear HC72
                by_cases c76 : a3_0 = 1
                · rw [if_pos c76] at H
                  have c76b0 : (a3_0 == 1) = true := beq_iff_eq.mpr c76
                  have c76b1 : (a3_0 != 1) = false := bne_eq_false_iff_eq.mpr c76
                  clear c76
                  (first | rw [c76b0] | (simp only [i64_w, i32_w]; rw [c76b0]) | skip)
                  have H' := Aside0.mk H
                  clear H
                  go_wp2
                  go_meet
                  case rel => exact ⟨_, ((a3_0 == 1)), (by first | rfl | (simp; done) | (simp [*]; done)), H', ⟨by have := HJ21.out; first | omega | exact Nat.le_refl _⟩, ⟨by (with_reducible repeat (first | refine blk_drewN ?_ _ | refine blk_drew ?_ | refine blk_alloc ?_ _)); exact BK206.out⟩, ⟨by (with_reducible repeat (first | refine blk_drewN ?_ _ | refine blk_drew ?_ | refine blk_alloc ?_ _)); exact BK207.out⟩, ⟨by (with_reducible repeat (first | refine blk_drewN ?_ _ | refine blk_drew ?_ | refine blk_alloc ?_ _)); exact BK209.out⟩, ⟨by repeat (first | (with_reducible first | exact HB.out | apply below_alloc | apply pw_below_drewN | apply below_drew1 | refine below_set ?_ GE206.out | refine below_set ?_ GE207.out | refine below_set ?_ GE209.out) | exact HB.out)⟩⟩
                · rw [if_neg c76] at H
                  have c76b0 : (a3_0 == 1) = false := beq_eq_false_iff_ne.mpr c76
                  have c76b1 : (a3_0 != 1) = true := bne_iff_ne.mpr c76
                  (first | rw [c76b0] | (simp only [i64_w, i32_w]; rw [c76b0]) | skip)
                  have H' := Aside0.mk H
                  clear H
                  go_wp2
                  go_meet
                  case rel => exact ⟨_, ((a3_0 == 3)), (by first | rfl | (simp; done) | (simp [*]; done)), H', ⟨by have := HJ21.out; first | omega | exact Nat.le_refl _⟩, ⟨by (with_reducible repeat (first | refine blk_drewN ?_ _ | refine blk_drew ?_ | refine blk_alloc ?_ _)); exact BK206.out⟩, ⟨by (with_reducible repeat (first | refine blk_drewN ?_ _ | refine blk_drew ?_ | refine blk_alloc ?_ _)); exact BK207.out⟩, ⟨by (with_reducible repeat (first | refine blk_drewN ?_ _ | refine blk_drew ?_ | refine blk_alloc ?_ _)); exact BK209.out⟩, ⟨by repeat (first | (with_reducible first | exact HB.out | apply below_alloc | apply pw_below_drewN | apply below_drew1 | refine below_set ?_ GE206.out | refine below_set ?_ GE207.out | refine below_set ?_ GE209.out) | exact HB.out)⟩⟩
              case rest =>
                clear HC72
                try clear c1
                try clear c2
                try clear p2
                try clear c3
                try clear c4
                try clear c5
                try clear c6
                try clear p6
                try clear c7
                try clear c10
                try clear c11
                try clear c13
                try clear c14
                try clear c15
                try clear c18
                try clear c19
                try clear c25
                try clear c29
                try clear c30
                try clear c32
                try clear c33
                try clear c33b0
                try clear c33b1
                try clear c34
                try clear c35
                try clear c37
                try clear c38
                try clear c40
                try clear c41
                try clear c42
                try clear c43
                try clear c45
                try clear c47
                try clear c47b0
                try clear c47b1
                try clear c48
                try clear c49
                try clear c51
                try clear c54
                try clear c55
                try clear c57
                try clear c59
                try clear c59b0
                try clear c59b1
                try clear c60
                try clear c61
                try clear c62
                try clear c64
                try clear p64
                try clear c67
                try clear c68
                try clear c70
                try clear c73
                try clear c74
                try clear c76
                try clear c76b0
                try clear c76b1
                try clear hcz15_0
                try clear hcz15_1
                try clear hcz15_2
                try clear hcz20_0
                try clear hcz20_1
                try clear hcz20_2
                try clear hcz21_0
                try clear hcz21_1
                try clear hcz21_2
                try clear hcz26_0
                try clear hcz26_1
                try clear hcz26_2
                try clear hcz31_0
                try clear hcz31_1
                try clear hcz31_2
                try clear hcz36_0
                try clear hcz36_1
                try clear hcz36_2
                try clear hcz39_0
                try clear hcz39_1
                try clear hcz39_2
                try clear hcz44_0
                try clear hcz44_1
                try clear hcz44_2
                try clear hcz46_0
                try clear hcz46_1
                try clear hcz46_2
                try clear hcz50_0
                try clear hcz50_1
                try clear hcz50_2
                try clear hcz52_0
                try clear hcz52_1
                try clear hcz52_2
                try clear hcz53_0
                try clear hcz53_1
                try clear hcz53_2
                try clear hcz56_0
                try clear hcz56_1
                try clear hcz56_2
                try clear hcz58_0
                try clear hcz58_1
                try clear hcz58_2
                try clear hcz63_0
                try clear hcz63_1
                try clear hcz63_2
                try clear hcz65_0
                try clear hcz65_1
                try clear hcz65_2
                try clear hcz66_0
                try clear hcz66_1
                try clear hcz66_2
                try clear hcz69_0
                try clear hcz69_1
                try clear hcz69_2
                try clear hcz71_0
                try clear hcz71_1
                try clear hcz71_2
                try clear hcz75_0
                try clear hcz75_1
                try clear hcz75_2
                try clear hfz15_0
                try clear hfz15_1
                try clear hfz15_2
                try clear hfz20_0
                try clear hfz20_1
                try clear hfz20_2
                try clear hfz21_0
                try clear hfz21_1
                try clear hfz21_2
                try clear hfz26_0
                try clear hfz26_1
                try clear hfz26_2
                try clear hfz31_0
                try clear hfz31_1
                try clear hfz31_2
                try clear hfz36_0
                try clear hfz36_1
                try clear hfz36_2
                try clear hfz39_0
                try clear hfz39_1
                try clear hfz39_2
                try clear hfz44_0
                try clear hfz44_1
                try clear hfz44_2
                try clear hfz46_0
                try clear hfz46_1
                try clear hfz46_2
                try clear hfz50_0
                try clear hfz50_1
                try clear hfz50_2
                try clear hfz52_0
                try clear hfz52_1
                try clear hfz52_2
                try clear hfz53_0
                try clear hfz53_1
                try clear hfz53_2
                try clear hfz56_0
                try clear hfz56_1
                try clear hfz56_2
                try clear hfz58_0
                try clear hfz58_1
                try clear hfz58_2
                try clear hfz63_0
                try clear hfz63_1
                try clear hfz63_2
                try clear hfz65_0
                try clear hfz65_1
                try clear hfz65_2
                try clear hfz66_0
                try clear hfz66_1
                try clear hfz66_2
                try clear hfz69_0
                try clear hfz69_1
                try clear hfz69_2
                try clear hfz71_0
                try clear hfz71_1
                try clear hfz71_2
                try clear hfz75_0
                try clear hfz75_1
                try clear hfz75_2
                try clear p2
                obtain ⟨kq, x64_71, rfl, HA, HJ71, BK206, BK207, BK209, HB⟩ := hcut
                cases kq with
                | zero => exact absurd HA.out (by simp [substationref29_Recloser.j1])
                | succ kj71 =>
                  have H := HA.out
                  clear HA
                  simp only [substationref29_Recloser.j1] at H
                  by_cases c77 : x64_71 = true
                  · subst c77
                    have H1 : (if (a6 == (a3_0 == 1)) = true then (some (wrap64 (a3_0 + 1), a3_1, 0, false)) else (if a3_2 = 20 then (some (5, 0, 0, false)) else (some (a3_0, a3_1, wrap64 (a3_2 + 1), false)))) = some (r1, r2, r3, r4) := by rw [if_pos rfl] at H; exact H
                    clear H
                    have H := H1
                    clear H1
                    by_cases c78 : (a6 == (a3_0 == 1)) = true
                    · rw [if_pos c78] at H
                      have c78b0 : (a6 == (a3_0 == 1)) = true := c78
                      (try (have c78b1 : decide (a6 = (a3_0 == 1)) = true := by simpa using c78))
                      (try (have c78b2 : (a6 == (a3_0 == 1)) = true := by simpa using c78))
                      clear c78
                      simp only [Option.some.injEq, Prod.mk.injEq] at H
                      obtain ⟨rfl, rfl, rfl, rfl⟩ := H
                      have hnb79 := NB206_207.out
                      have hnc79 := NB207_206.out
                      have hnb80 := NB206_209.out
                      have hnc80 := NB209_206.out
                      have hcz81_0 : wc.cell? ⟨gb206, 0, none⟩ = some (.int .i64 a3_0) := (blk_cell BK206.out 0).trans rfl
                      have hcz81_1 : wc.cell? ⟨gb206, 1, none⟩ = some (.int .i64 a3_1) := (blk_cell BK206.out 1).trans rfl
                      have hcz81_2 : wc.cell? ⟨gb206, 2, none⟩ = some (.int .i64 a3_2) := (blk_cell BK206.out 2).trans rfl
                      have hfz81_0 := blk_frozen BK206.out 0
                      have hfz81_1 := blk_frozen BK206.out 1
                      have hfz81_2 := blk_frozen BK206.out 2
                      have hnb82 := NB207_209.out
                      have hnc82 := NB209_207.out
                      have hcz83_0 : wc.cell? ⟨gb207, 0, none⟩ = some (.int .i64 0) := (blk_cell BK207.out 0).trans rfl
                      have hcz83_1 : wc.cell? ⟨gb207, 1, none⟩ = some (.int .i64 0) := (blk_cell BK207.out 1).trans rfl
                      have hcz83_2 : wc.cell? ⟨gb207, 2, none⟩ = some (.int .i64 0) := (blk_cell BK207.out 2).trans rfl
                      have hfz83_0 := blk_frozen BK207.out 0
                      have hfz83_1 := blk_frozen BK207.out 1
                      have hfz83_2 := blk_frozen BK207.out 2
                      go_wp2
                      refine bodyPost_ret (results_ct rfl _ _ gb207 25 #[.int .i64 (wrap64 (a3_0 + 1)), .int .i64 a3_1, .int .i64 0] (0, 0) _ rfl (by (with_reducible repeat (first | refine blk_drewN ?_ _ | refine blk_drew ?_ | refine blk_alloc ?_ _)); refine blk_put (cs := #[.int .i64 (wrap64 (a3_0 + 1)), .int .i64 a3_1, .int .i64 0]) ?_ 2 _ rfl; (with_reducible repeat (first | refine blk_drewN ?_ _ | refine blk_drew ?_ | refine blk_alloc ?_ _)); refine blk_put (cs := #[.int .i64 (wrap64 (a3_0 + 1)), .int .i64 0, .int .i64 0]) ?_ 1 _ rfl; (with_reducible repeat (first | refine blk_drewN ?_ _ | refine blk_drew ?_ | refine blk_alloc ?_ _)); refine blk_put (cs := #[.int .i64 0, .int .i64 0, .int .i64 0]) ?_ 0 _ rfl; (with_reducible repeat (first | refine blk_drewN ?_ _ | refine blk_drew ?_ | refine blk_alloc ?_ _)); exact BK207.out) Try.underlying25 rfl (by kernel_rfl)) rfl ?_
                      exact ⟨by first | rfl | (simp [errW_none, errW_some] <;> rfl) | (simp [*, errW_none, errW_some] <;> rfl), by repeat (first | (with_reducible first | exact HB.out | apply below_alloc | apply pw_below_drewN | apply below_drew1 | refine below_set ?_ GE206.out | refine below_set ?_ GE207.out | refine below_set ?_ GE209.out) | exact HB.out)⟩
                    · rw [if_neg c78] at H
                      have c78b0 : (a6 == (a3_0 == 1)) = false := by simpa using c78
                      (try (have c78b1 : decide (a6 = (a3_0 == 1)) = false := by simpa using c78))
                      (try (have c78b2 : (a6 == (a3_0 == 1)) = false := by simpa using c78))
                      (try (have c78b3 : ¬ (a6 = (a3_0 == 1)) := by simpa using c78))
                      clear c78
                      by_cases c84 : a3_2 = 20
                      · rw [if_pos c84] at H
                        have c84b0 : (a3_2 == 20) = true := beq_iff_eq.mpr c84
                        have c84b1 : (a3_2 != 20) = false := bne_eq_false_iff_eq.mpr c84
                        clear c84
                        simp only [Option.some.injEq, Prod.mk.injEq] at H
                        obtain ⟨rfl, rfl, rfl, rfl⟩ := H
                        have hnb85 := NB206_207.out
                        have hnc85 := NB207_206.out
                        have hnb86 := NB206_209.out
                        have hnc86 := NB209_206.out
                        have hcz87_0 : wc.cell? ⟨gb206, 0, none⟩ = some (.int .i64 a3_0) := (blk_cell BK206.out 0).trans rfl
                        have hcz87_1 : wc.cell? ⟨gb206, 1, none⟩ = some (.int .i64 a3_1) := (blk_cell BK206.out 1).trans rfl
                        have hcz87_2 : wc.cell? ⟨gb206, 2, none⟩ = some (.int .i64 a3_2) := (blk_cell BK206.out 2).trans rfl
                        have hfz87_0 := blk_frozen BK206.out 0
                        have hfz87_1 := blk_frozen BK206.out 1
                        have hfz87_2 := blk_frozen BK206.out 2
                        have hnb88 := NB209_207.out
                        have hnc88 := NB207_209.out
                        have hcz89_0 : wc.cell? ⟨gb209, 0, none⟩ = some (.int .i64 5) := (blk_cell BK209.out 0).trans rfl
                        have hcz89_1 : wc.cell? ⟨gb209, 1, none⟩ = some (.int .i64 0) := (blk_cell BK209.out 1).trans rfl
                        have hcz89_2 : wc.cell? ⟨gb209, 2, none⟩ = some (.int .i64 0) := (blk_cell BK209.out 2).trans rfl
                        have hfz89_0 := blk_frozen BK209.out 0
                        have hfz89_1 := blk_frozen BK209.out 1
                        have hfz89_2 := blk_frozen BK209.out 2
                        have hcz90_0 : wc.cell? ⟨gb207, 0, none⟩ = some (.int .i64 0) := (blk_cell BK207.out 0).trans rfl
                        have hcz90_1 : wc.cell? ⟨gb207, 1, none⟩ = some (.int .i64 0) := (blk_cell BK207.out 1).trans rfl
                        have hcz90_2 : wc.cell? ⟨gb207, 2, none⟩ = some (.int .i64 0) := (blk_cell BK207.out 2).trans rfl
                        have hfz90_0 := blk_frozen BK207.out 0
                        have hfz90_1 := blk_frozen BK207.out 1
                        have hfz90_2 := blk_frozen BK207.out 2
                        go_wp2
                        refine bodyPost_ret (results_ct rfl _ _ gb207 25 #[.int .i64 5, .int .i64 0, .int .i64 0] (0, 0) _ rfl (by (with_reducible repeat (first | refine blk_drewN ?_ _ | refine blk_drew ?_ | refine blk_alloc ?_ _)); refine blk_put (cs := #[.int .i64 5, .int .i64 0, .int .i64 0]) ?_ 2 _ rfl; (with_reducible repeat (first | refine blk_drewN ?_ _ | refine blk_drew ?_ | refine blk_alloc ?_ _)); refine blk_put (cs := #[.int .i64 5, .int .i64 0, .int .i64 0]) ?_ 1 _ rfl; (with_reducible repeat (first | refine blk_drewN ?_ _ | refine blk_drew ?_ | refine blk_alloc ?_ _)); refine blk_put (cs := #[.int .i64 0, .int .i64 0, .int .i64 0]) ?_ 0 _ rfl; (with_reducible repeat (first | refine blk_drewN ?_ _ | refine blk_drew ?_ | refine blk_alloc ?_ _)); exact BK207.out) Try.underlying25 rfl (by kernel_rfl)) rfl ?_
                        exact ⟨by first | rfl | (simp [errW_none, errW_some] <;> rfl) | (simp [*, errW_none, errW_some] <;> rfl), by repeat (first | (with_reducible first | exact HB.out | apply below_alloc | apply pw_below_drewN | apply below_drew1 | refine below_set ?_ GE206.out | refine below_set ?_ GE207.out | refine below_set ?_ GE209.out) | exact HB.out)⟩
                      · rw [if_neg c84] at H
                        have c84b0 : (a3_2 == 20) = false := beq_eq_false_iff_ne.mpr c84
                        have c84b1 : (a3_2 != 20) = true := bne_iff_ne.mpr c84
                        simp only [Option.some.injEq, Prod.mk.injEq] at H
                        obtain ⟨rfl, rfl, rfl, rfl⟩ := H
                        have hnb91 := NB206_207.out
                        have hnc91 := NB207_206.out
                        have hnb92 := NB206_209.out
                        have hnc92 := NB209_206.out
                        have hcz93_0 : wc.cell? ⟨gb206, 0, none⟩ = some (.int .i64 a3_0) := (blk_cell BK206.out 0).trans rfl
                        have hcz93_1 : wc.cell? ⟨gb206, 1, none⟩ = some (.int .i64 a3_1) := (blk_cell BK206.out 1).trans rfl
                        have hcz93_2 : wc.cell? ⟨gb206, 2, none⟩ = some (.int .i64 a3_2) := (blk_cell BK206.out 2).trans rfl
                        have hfz93_0 := blk_frozen BK206.out 0
                        have hfz93_1 := blk_frozen BK206.out 1
                        have hfz93_2 := blk_frozen BK206.out 2
                        have hnb94 := NB207_209.out
                        have hnc94 := NB209_207.out
                        have hcz95_0 : wc.cell? ⟨gb207, 0, none⟩ = some (.int .i64 0) := (blk_cell BK207.out 0).trans rfl
                        have hcz95_1 : wc.cell? ⟨gb207, 1, none⟩ = some (.int .i64 0) := (blk_cell BK207.out 1).trans rfl
                        have hcz95_2 : wc.cell? ⟨gb207, 2, none⟩ = some (.int .i64 0) := (blk_cell BK207.out 2).trans rfl
                        have hfz95_0 := blk_frozen BK207.out 0
                        have hfz95_1 := blk_frozen BK207.out 1
                        have hfz95_2 := blk_frozen BK207.out 2
                        go_wp2
                        refine bodyPost_ret (results_ct rfl _ _ gb207 25 #[.int .i64 a3_0, .int .i64 a3_1, .int .i64 (wrap64 (a3_2 + 1))] (0, 0) _ rfl (by (with_reducible repeat (first | refine blk_drewN ?_ _ | refine blk_drew ?_ | refine blk_alloc ?_ _)); refine blk_put (cs := #[.int .i64 a3_0, .int .i64 a3_1, .int .i64 0]) ?_ 2 _ rfl; (with_reducible repeat (first | refine blk_drewN ?_ _ | refine blk_drew ?_ | refine blk_alloc ?_ _)); refine blk_put (cs := #[.int .i64 a3_0, .int .i64 0, .int .i64 0]) ?_ 1 _ rfl; (with_reducible repeat (first | refine blk_drewN ?_ _ | refine blk_drew ?_ | refine blk_alloc ?_ _)); refine blk_put (cs := #[.int .i64 0, .int .i64 0, .int .i64 0]) ?_ 0 _ rfl; (with_reducible repeat (first | refine blk_drewN ?_ _ | refine blk_drew ?_ | refine blk_alloc ?_ _)); refine blk_far ?_ NB207_206.out _; (with_reducible repeat (first | refine blk_drewN ?_ _ | refine blk_drew ?_ | refine blk_alloc ?_ _)); exact BK207.out) Try.underlying25 rfl (by kernel_rfl)) rfl ?_
                        exact ⟨by first | rfl | (simp [errW_none, errW_some] <;> rfl) | (simp [*, errW_none, errW_some] <;> rfl), by repeat (first | (with_reducible first | exact HB.out | apply below_alloc | apply pw_below_drewN | apply below_drew1 | refine below_set ?_ GE206.out | refine below_set ?_ GE207.out | refine below_set ?_ GE209.out) | exact HB.out)⟩
                  · replace c77 := Bool.eq_false_iff.mpr c77
                    subst c77
                    have H1 : (if a3_0 = 2 then (if a6 = true then (if a7 = true then (some (a3_0, a3_1, a3_2, false)) else (if a3_2 = (wrap64 (a1 - 1)) then (some (3, a3_1, 0, true)) else (some (a3_0, a3_1, wrap64 (a3_2 + 1), false)))) else (some (5, 0, 0, false))) else (if a3_0 = 4 then (if a6 = true then (some (5, 0, 0, false)) else ((substationref29_counted.f a3_0 a3_1 a3_2 a2 a7).bind fun bt210 => (some (bt210.1, bt210.2.1, bt210.2.2, false)))) else (if a6 = true then (some (5, 0, 0, false)) else ((substationref29_counted.f a3_0 a3_1 a3_2 a2 a7).bind fun bt213 => (some (bt213.1, bt213.2.1, bt213.2.2, false)))))) = some (r1, r2, r3, r4) := by rw [if_neg (show ¬ (false = true) by decide)] at H; exact H
                    clear H
                    have H := H1
                    clear H1
                    by_cases c96 : a3_0 = 2
                    · rw [if_pos c96] at H
                      have c96b0 : (a3_0 == 2) = true := beq_iff_eq.mpr c96
                      have c96b1 : (a3_0 != 2) = false := bne_eq_false_iff_eq.mpr c96
                      clear c96
                      by_cases c97 : a6 = true
                      · subst c97
                        have H1 : (if a7 = true then (some (a3_0, a3_1, a3_2, false)) else (if a3_2 = (wrap64 (a1 - 1)) then (some (3, a3_1, 0, true)) else (some (a3_0, a3_1, wrap64 (a3_2 + 1), false)))) = some (r1, r2, r3, r4) := by rw [if_pos rfl] at H; exact H
                        clear H
                        have H := H1
                        clear H1
                        by_cases c98 : a7 = true
                        · subst c98
                          have H1 : (some (a3_0, a3_1, a3_2, false)) = some (r1, r2, r3, r4) := by rw [if_pos rfl] at H; exact H
                          clear H
                          have H := H1
                          clear H1
                          simp only [Option.some.injEq, Prod.mk.injEq] at H
                          obtain ⟨rfl, rfl, rfl, rfl⟩ := H
                          have hnb99 := NB206_207.out
                          have hnc99 := NB207_206.out
                          have hnb100 := NB206_209.out
                          have hnc100 := NB209_206.out
                          have hcz101_0 : wc.cell? ⟨gb206, 0, none⟩ = some (.int .i64 a3_0) := (blk_cell BK206.out 0).trans rfl
                          have hcz101_1 : wc.cell? ⟨gb206, 1, none⟩ = some (.int .i64 a3_1) := (blk_cell BK206.out 1).trans rfl
                          have hcz101_2 : wc.cell? ⟨gb206, 2, none⟩ = some (.int .i64 a3_2) := (blk_cell BK206.out 2).trans rfl
                          have hfz101_0 := blk_frozen BK206.out 0
                          have hfz101_1 := blk_frozen BK206.out 1
                          have hfz101_2 := blk_frozen BK206.out 2
                          have hnb102 := NB207_209.out
                          have hnc102 := NB209_207.out
                          have hcz103_0 : wc.cell? ⟨gb207, 0, none⟩ = some (.int .i64 0) := (blk_cell BK207.out 0).trans rfl
                          have hcz103_1 : wc.cell? ⟨gb207, 1, none⟩ = some (.int .i64 0) := (blk_cell BK207.out 1).trans rfl
                          have hcz103_2 : wc.cell? ⟨gb207, 2, none⟩ = some (.int .i64 0) := (blk_cell BK207.out 2).trans rfl
                          have hfz103_0 := blk_frozen BK207.out 0
                          have hfz103_1 := blk_frozen BK207.out 1
                          have hfz103_2 := blk_frozen BK207.out 2
                          go_wp2
                          refine bodyPost_ret (results_ct rfl _ _ gb207 25 #[.int .i64 a3_0, .int .i64 a3_1, .int .i64 a3_2] (0, 0) _ rfl (by (with_reducible repeat (first | refine blk_drewN ?_ _ | refine blk_drew ?_ | refine blk_alloc ?_ _)); refine blk_put (cs := #[.int .i64 a3_0, .int .i64 a3_1, .int .i64 0]) ?_ 2 _ rfl; (with_reducible repeat (first | refine blk_drewN ?_ _ | refine blk_drew ?_ | refine blk_alloc ?_ _)); refine blk_put (cs := #[.int .i64 a3_0, .int .i64 0, .int .i64 0]) ?_ 1 _ rfl; (with_reducible repeat (first | refine blk_drewN ?_ _ | refine blk_drew ?_ | refine blk_alloc ?_ _)); refine blk_put (cs := #[.int .i64 0, .int .i64 0, .int .i64 0]) ?_ 0 _ rfl; (with_reducible repeat (first | refine blk_drewN ?_ _ | refine blk_drew ?_ | refine blk_alloc ?_ _)); exact BK207.out) Try.underlying25 rfl (by kernel_rfl)) rfl ?_
                          exact ⟨by first | rfl | (simp [errW_none, errW_some] <;> rfl) | (simp [*, errW_none, errW_some] <;> rfl), by repeat (first | (with_reducible first | exact HB.out | apply below_alloc | apply pw_below_drewN | apply below_drew1 | refine below_set ?_ GE206.out | refine below_set ?_ GE207.out | refine below_set ?_ GE209.out) | exact HB.out)⟩
                        · replace c98 := Bool.eq_false_iff.mpr c98
                          subst c98
                          have H1 : (if a3_2 = (wrap64 (a1 - 1)) then (some (3, a3_1, 0, true)) else (some (a3_0, a3_1, wrap64 (a3_2 + 1), false))) = some (r1, r2, r3, r4) := by rw [if_neg (show ¬ (false = true) by decide)] at H; exact H
                          clear H
                          have H := H1
                          clear H1
                          by_cases c104 : a3_2 = (wrap64 (a1 - 1))
                          · rw [if_pos c104] at H
                            have c104b0 : (a3_2 == (wrap64 (a1 - 1))) = true := beq_iff_eq.mpr c104
                            have c104b1 : (a3_2 != (wrap64 (a1 - 1))) = false := bne_eq_false_iff_eq.mpr c104
                            clear c104
                            simp only [Option.some.injEq, Prod.mk.injEq] at H
                            obtain ⟨rfl, rfl, rfl, rfl⟩ := H
                            have hnb105 := NB206_207.out
                            have hnc105 := NB207_206.out
                            have hnb106 := NB206_209.out
                            have hnc106 := NB209_206.out
                            have hcz107_0 : wc.cell? ⟨gb206, 0, none⟩ = some (.int .i64 a3_0) := (blk_cell BK206.out 0).trans rfl
                            have hcz107_1 : wc.cell? ⟨gb206, 1, none⟩ = some (.int .i64 a3_1) := (blk_cell BK206.out 1).trans rfl
                            have hcz107_2 : wc.cell? ⟨gb206, 2, none⟩ = some (.int .i64 a3_2) := (blk_cell BK206.out 2).trans rfl
                            have hfz107_0 := blk_frozen BK206.out 0
                            have hfz107_1 := blk_frozen BK206.out 1
                            have hfz107_2 := blk_frozen BK206.out 2
                            have hnb108 := NB207_209.out
                            have hnc108 := NB209_207.out
                            have hcz109_0 : wc.cell? ⟨gb207, 0, none⟩ = some (.int .i64 0) := (blk_cell BK207.out 0).trans rfl
                            have hcz109_1 : wc.cell? ⟨gb207, 1, none⟩ = some (.int .i64 0) := (blk_cell BK207.out 1).trans rfl
                            have hcz109_2 : wc.cell? ⟨gb207, 2, none⟩ = some (.int .i64 0) := (blk_cell BK207.out 2).trans rfl
                            have hfz109_0 := blk_frozen BK207.out 0
                            have hfz109_1 := blk_frozen BK207.out 1
                            have hfz109_2 := blk_frozen BK207.out 2
                            go_wp2
                            refine bodyPost_ret (results_ct rfl _ _ gb207 25 #[.int .i64 3, .int .i64 a3_1, .int .i64 0] (0, 0) _ rfl (by (with_reducible repeat (first | refine blk_drewN ?_ _ | refine blk_drew ?_ | refine blk_alloc ?_ _)); refine blk_put (cs := #[.int .i64 3, .int .i64 a3_1, .int .i64 0]) ?_ 2 _ rfl; (with_reducible repeat (first | refine blk_drewN ?_ _ | refine blk_drew ?_ | refine blk_alloc ?_ _)); refine blk_put (cs := #[.int .i64 3, .int .i64 0, .int .i64 0]) ?_ 1 _ rfl; (with_reducible repeat (first | refine blk_drewN ?_ _ | refine blk_drew ?_ | refine blk_alloc ?_ _)); refine blk_put (cs := #[.int .i64 0, .int .i64 0, .int .i64 0]) ?_ 0 _ rfl; (with_reducible repeat (first | refine blk_drewN ?_ _ | refine blk_drew ?_ | refine blk_alloc ?_ _)); exact BK207.out) Try.underlying25 rfl (by kernel_rfl)) rfl ?_
                            exact ⟨by first | rfl | (simp [errW_none, errW_some] <;> rfl) | (simp [*, errW_none, errW_some] <;> rfl), by repeat (first | (with_reducible first | exact HB.out | apply below_alloc | apply pw_below_drewN | apply below_drew1 | refine below_set ?_ GE206.out | refine below_set ?_ GE207.out | refine below_set ?_ GE209.out) | exact HB.out)⟩
                          · rw [if_neg c104] at H
                            have c104b0 : (a3_2 == (wrap64 (a1 - 1))) = false := beq_eq_false_iff_ne.mpr c104
                            have c104b1 : (a3_2 != (wrap64 (a1 - 1))) = true := bne_iff_ne.mpr c104
                            simp only [Option.some.injEq, Prod.mk.injEq] at H
                            obtain ⟨rfl, rfl, rfl, rfl⟩ := H
                            have hnb110 := NB206_207.out
                            have hnc110 := NB207_206.out
                            have hnb111 := NB206_209.out
                            have hnc111 := NB209_206.out
                            have hcz112_0 : wc.cell? ⟨gb206, 0, none⟩ = some (.int .i64 a3_0) := (blk_cell BK206.out 0).trans rfl
                            have hcz112_1 : wc.cell? ⟨gb206, 1, none⟩ = some (.int .i64 a3_1) := (blk_cell BK206.out 1).trans rfl
                            have hcz112_2 : wc.cell? ⟨gb206, 2, none⟩ = some (.int .i64 a3_2) := (blk_cell BK206.out 2).trans rfl
                            have hfz112_0 := blk_frozen BK206.out 0
                            have hfz112_1 := blk_frozen BK206.out 1
                            have hfz112_2 := blk_frozen BK206.out 2
                            have hnb113 := NB207_209.out
                            have hnc113 := NB209_207.out
                            have hcz114_0 : wc.cell? ⟨gb207, 0, none⟩ = some (.int .i64 0) := (blk_cell BK207.out 0).trans rfl
                            have hcz114_1 : wc.cell? ⟨gb207, 1, none⟩ = some (.int .i64 0) := (blk_cell BK207.out 1).trans rfl
                            have hcz114_2 : wc.cell? ⟨gb207, 2, none⟩ = some (.int .i64 0) := (blk_cell BK207.out 2).trans rfl
                            have hfz114_0 := blk_frozen BK207.out 0
                            have hfz114_1 := blk_frozen BK207.out 1
                            have hfz114_2 := blk_frozen BK207.out 2
                            go_wp2
                            refine bodyPost_ret (results_ct rfl _ _ gb207 25 #[.int .i64 a3_0, .int .i64 a3_1, .int .i64 (wrap64 (a3_2 + 1))] (0, 0) _ rfl (by (with_reducible repeat (first | refine blk_drewN ?_ _ | refine blk_drew ?_ | refine blk_alloc ?_ _)); refine blk_put (cs := #[.int .i64 a3_0, .int .i64 a3_1, .int .i64 0]) ?_ 2 _ rfl; (with_reducible repeat (first | refine blk_drewN ?_ _ | refine blk_drew ?_ | refine blk_alloc ?_ _)); refine blk_put (cs := #[.int .i64 a3_0, .int .i64 0, .int .i64 0]) ?_ 1 _ rfl; (with_reducible repeat (first | refine blk_drewN ?_ _ | refine blk_drew ?_ | refine blk_alloc ?_ _)); refine blk_put (cs := #[.int .i64 0, .int .i64 0, .int .i64 0]) ?_ 0 _ rfl; (with_reducible repeat (first | refine blk_drewN ?_ _ | refine blk_drew ?_ | refine blk_alloc ?_ _)); refine blk_far ?_ NB207_206.out _; (with_reducible repeat (first | refine blk_drewN ?_ _ | refine blk_drew ?_ | refine blk_alloc ?_ _)); exact BK207.out) Try.underlying25 rfl (by kernel_rfl)) rfl ?_
                            exact ⟨by first | rfl | (simp [errW_none, errW_some] <;> rfl) | (simp [*, errW_none, errW_some] <;> rfl), by repeat (first | (with_reducible first | exact HB.out | apply below_alloc | apply pw_below_drewN | apply below_drew1 | refine below_set ?_ GE206.out | refine below_set ?_ GE207.out | refine below_set ?_ GE209.out) | exact HB.out)⟩
                      · replace c97 := Bool.eq_false_iff.mpr c97
                        subst c97
                        have H1 : (some (5, 0, 0, false)) = some (r1, r2, r3, r4) := by rw [if_neg (show ¬ (false = true) by decide)] at H; exact H
                        clear H
                        have H := H1
                        clear H1
                        simp only [Option.some.injEq, Prod.mk.injEq] at H
                        obtain ⟨rfl, rfl, rfl, rfl⟩ := H
                        have hnb115 := NB209_206.out
                        have hnc115 := NB206_209.out
                        have hnb116 := NB209_207.out
                        have hnc116 := NB207_209.out
                        have hcz117_0 : wc.cell? ⟨gb209, 0, none⟩ = some (.int .i64 5) := (blk_cell BK209.out 0).trans rfl
                        have hcz117_1 : wc.cell? ⟨gb209, 1, none⟩ = some (.int .i64 0) := (blk_cell BK209.out 1).trans rfl
                        have hcz117_2 : wc.cell? ⟨gb209, 2, none⟩ = some (.int .i64 0) := (blk_cell BK209.out 2).trans rfl
                        have hfz117_0 := blk_frozen BK209.out 0
                        have hfz117_1 := blk_frozen BK209.out 1
                        have hfz117_2 := blk_frozen BK209.out 2
                        have hnb118 := NB207_206.out
                        have hnc118 := NB206_207.out
                        have hcz119_0 : wc.cell? ⟨gb207, 0, none⟩ = some (.int .i64 0) := (blk_cell BK207.out 0).trans rfl
                        have hcz119_1 : wc.cell? ⟨gb207, 1, none⟩ = some (.int .i64 0) := (blk_cell BK207.out 1).trans rfl
                        have hcz119_2 : wc.cell? ⟨gb207, 2, none⟩ = some (.int .i64 0) := (blk_cell BK207.out 2).trans rfl
                        have hfz119_0 := blk_frozen BK207.out 0
                        have hfz119_1 := blk_frozen BK207.out 1
                        have hfz119_2 := blk_frozen BK207.out 2
                        go_wp2
                        refine bodyPost_ret (results_ct rfl _ _ gb207 25 #[.int .i64 5, .int .i64 0, .int .i64 0] (0, 0) _ rfl (by (with_reducible repeat (first | refine blk_drewN ?_ _ | refine blk_drew ?_ | refine blk_alloc ?_ _)); refine blk_put (cs := #[.int .i64 5, .int .i64 0, .int .i64 0]) ?_ 2 _ rfl; (with_reducible repeat (first | refine blk_drewN ?_ _ | refine blk_drew ?_ | refine blk_alloc ?_ _)); refine blk_put (cs := #[.int .i64 5, .int .i64 0, .int .i64 0]) ?_ 1 _ rfl; (with_reducible repeat (first | refine blk_drewN ?_ _ | refine blk_drew ?_ | refine blk_alloc ?_ _)); refine blk_put (cs := #[.int .i64 0, .int .i64 0, .int .i64 0]) ?_ 0 _ rfl; (with_reducible repeat (first | refine blk_drewN ?_ _ | refine blk_drew ?_ | refine blk_alloc ?_ _)); exact BK207.out) Try.underlying25 rfl (by kernel_rfl)) rfl ?_
                        exact ⟨by first | rfl | (simp [errW_none, errW_some] <;> rfl) | (simp [*, errW_none, errW_some] <;> rfl), by repeat (first | (with_reducible first | exact HB.out | apply below_alloc | apply pw_below_drewN | apply below_drew1 | refine below_set ?_ GE206.out | refine below_set ?_ GE207.out | refine below_set ?_ GE209.out) | exact HB.out)⟩
                    · rw [if_neg c96] at H
                      have c96b0 : (a3_0 == 2) = false := beq_eq_false_iff_ne.mpr c96
                      have c96b1 : (a3_0 != 2) = true := bne_iff_ne.mpr c96
                      by_cases c120 : a3_0 = 4
                      · rw [if_pos c120] at H
                        have c120b0 : (a3_0 == 4) = true := beq_iff_eq.mpr c120
                        have c120b1 : (a3_0 != 4) = false := bne_eq_false_iff_eq.mpr c120
                        clear c120
                        by_cases c121 : a6 = true
                        · subst c121
                          have H1 : (some (5, 0, 0, false)) = some (r1, r2, r3, r4) := by rw [if_pos rfl] at H; exact H
                          clear H
                          have H := H1
                          clear H1
                          simp only [Option.some.injEq, Prod.mk.injEq] at H
                          obtain ⟨rfl, rfl, rfl, rfl⟩ := H
                          have hnb122 := NB209_206.out
                          have hnc122 := NB206_209.out
                          have hnb123 := NB209_207.out
                          have hnc123 := NB207_209.out
                          have hcz124_0 : wc.cell? ⟨gb209, 0, none⟩ = some (.int .i64 5) := (blk_cell BK209.out 0).trans rfl
                          have hcz124_1 : wc.cell? ⟨gb209, 1, none⟩ = some (.int .i64 0) := (blk_cell BK209.out 1).trans rfl
                          have hcz124_2 : wc.cell? ⟨gb209, 2, none⟩ = some (.int .i64 0) := (blk_cell BK209.out 2).trans rfl
                          have hfz124_0 := blk_frozen BK209.out 0
                          have hfz124_1 := blk_frozen BK209.out 1
                          have hfz124_2 := blk_frozen BK209.out 2
                          have hnb125 := NB207_206.out
                          have hnc125 := NB206_207.out
                          have hcz126_0 : wc.cell? ⟨gb207, 0, none⟩ = some (.int .i64 0) := (blk_cell BK207.out 0).trans rfl
                          have hcz126_1 : wc.cell? ⟨gb207, 1, none⟩ = some (.int .i64 0) := (blk_cell BK207.out 1).trans rfl
                          have hcz126_2 : wc.cell? ⟨gb207, 2, none⟩ = some (.int .i64 0) := (blk_cell BK207.out 2).trans rfl
                          have hfz126_0 := blk_frozen BK207.out 0
                          have hfz126_1 := blk_frozen BK207.out 1
                          have hfz126_2 := blk_frozen BK207.out 2
                          go_wp2
                          refine bodyPost_ret (results_ct rfl _ _ gb207 25 #[.int .i64 5, .int .i64 0, .int .i64 0] (0, 0) _ rfl (by (with_reducible repeat (first | refine blk_drewN ?_ _ | refine blk_drew ?_ | refine blk_alloc ?_ _)); refine blk_put (cs := #[.int .i64 5, .int .i64 0, .int .i64 0]) ?_ 2 _ rfl; (with_reducible repeat (first | refine blk_drewN ?_ _ | refine blk_drew ?_ | refine blk_alloc ?_ _)); refine blk_put (cs := #[.int .i64 5, .int .i64 0, .int .i64 0]) ?_ 1 _ rfl; (with_reducible repeat (first | refine blk_drewN ?_ _ | refine blk_drew ?_ | refine blk_alloc ?_ _)); refine blk_put (cs := #[.int .i64 0, .int .i64 0, .int .i64 0]) ?_ 0 _ rfl; (with_reducible repeat (first | refine blk_drewN ?_ _ | refine blk_drew ?_ | refine blk_alloc ?_ _)); exact BK207.out) Try.underlying25 rfl (by kernel_rfl)) rfl ?_
                          exact ⟨by first | rfl | (simp [errW_none, errW_some] <;> rfl) | (simp [*, errW_none, errW_some] <;> rfl), by repeat (first | (with_reducible first | exact HB.out | apply below_alloc | apply pw_below_drewN | apply below_drew1 | refine below_set ?_ GE206.out | refine below_set ?_ GE207.out | refine below_set ?_ GE209.out) | exact HB.out)⟩
                        · replace c121 := Bool.eq_false_iff.mpr c121
                          subst c121
                          have H1 : ((substationref29_counted.f a3_0 a3_1 a3_2 a2 a7).bind fun bt210 => (some (bt210.1, bt210.2.1, bt210.2.2, false))) = some (r1, r2, r3, r4) := by rw [if_neg (show ¬ (false = true) by decide)] at H; exact H
                          clear H
                          have H := H1
                          clear H1
                          replace H := Option.bind_eq_some_iff.mp H
                          obtain ⟨⟨t210, t211, t212⟩, A1270, H⟩ := H
                          replace H : (some (t210, t211, t212, false)) = some (r1, r2, r3, r4) := H
                          have A127 := Aside0.mk A1270
                          clear A1270
                          simp only [Option.some.injEq, Prod.mk.injEq] at H
                          obtain ⟨rfl, rfl, rfl, rfl⟩ := H
                          have hnb128 := NB206_207.out
                          have hnc128 := NB207_206.out
                          have hnb129 := NB206_209.out
                          have hnc129 := NB209_206.out
                          have hcz130_0 : wc.cell? ⟨gb206, 0, none⟩ = some (.int .i64 a3_0) := (blk_cell BK206.out 0).trans rfl
                          have hcz130_1 : wc.cell? ⟨gb206, 1, none⟩ = some (.int .i64 a3_1) := (blk_cell BK206.out 1).trans rfl
                          have hcz130_2 : wc.cell? ⟨gb206, 2, none⟩ = some (.int .i64 a3_2) := (blk_cell BK206.out 2).trans rfl
                          have hfz130_0 := blk_frozen BK206.out 0
                          have hfz130_1 := blk_frozen BK206.out 1
                          have hfz130_2 := blk_frozen BK206.out 2
                          go_wp2_with (first | ((with_reducible refine gate_callee (f := 23) rfl ?_); refine goesL_ (some 112) rfl rfl Try.func23 (by kernel_rfl) rfl #[.agg #[.int .i64 a3_0, .int .i64 a3_1, .int .i64 a3_2], .int .i64 a2, .bool a7] rfl (by (try simp only [List.map_toArray, List.map_cons, List.map_nil]); first | done | rfl | (simp only [List.length_drop, List.length_take]; rfl)) ?_; (with_reducible refine (substationref29_counted.calls a3_0 a3_1 a3_2 a2 a7 t210 t211 t212 _ A127.out).mono ?_); rintro e w131 ⟨rfl, hb⟩; refine ⟨_, rfl, ?_⟩; have n0_ := Aside0.mk (blk_below (g := gb206) (o := .cells #[.int .i64 a3_0, .int .i64 a3_1, .int .i64 a3_2] 25 (0, 0)) (by (with_reducible repeat (first | refine blk_drewN ?_ _ | refine blk_drew ?_ | refine blk_alloc ?_ _)); exact BK206.out) hb); have n1_ := Aside0.mk (blk_below (g := gb207) (o := .cells #[.int .i64 0, .int .i64 0, .int .i64 0] 25 (0, 0)) (by (with_reducible repeat (first | refine blk_drewN ?_ _ | refine blk_drew ?_ | refine blk_alloc ?_ _)); exact BK207.out) hb); have n2_ := Aside0.mk (blk_below (g := gb209) (o := .cells #[.int .i64 5, .int .i64 0, .int .i64 0] 25 (0, 0)) (by (with_reducible repeat (first | refine blk_drewN ?_ _ | refine blk_drew ?_ | refine blk_alloc ?_ _)); exact BK209.out) hb); have n3_ := Aside0.mk (below_step (by repeat (first | (with_reducible first | exact HB.out | apply below_alloc | apply pw_below_drewN | apply below_drew1 | refine below_set ?_ GE206.out | refine below_set ?_ GE207.out | refine below_set ?_ GE209.out) | exact HB.out)) hb); clear BK206; clear BK207; clear BK209; clear HB; have BK206 := n0_; have BK207 := n1_; have BK209 := n2_; have HB := n3_; clear n0_ n1_ n2_ n3_; (try clear hb); (try clear hb2); (try clear hk); (try clear hi); have hnb132 := NB207_209.out; have hnc132 := NB209_207.out; have hcz133_0 : w131.cell? ⟨gb207, 0, none⟩ = some (.int .i64 0) := (blk_cell BK207.out 0).trans rfl; have hcz133_1 : w131.cell? ⟨gb207, 1, none⟩ = some (.int .i64 0) := (blk_cell BK207.out 1).trans rfl; have hcz133_2 : w131.cell? ⟨gb207, 2, none⟩ = some (.int .i64 0) := (blk_cell BK207.out 2).trans rfl; have hfz133_0 := blk_frozen BK207.out 0; have hfz133_1 := blk_frozen BK207.out 1; have hfz133_2 := blk_frozen BK207.out 2))
                          refine bodyPost_ret (results_ct rfl _ _ gb207 25 #[.int .i64 t210, .int .i64 t211, .int .i64 t212] (0, 0) _ rfl (by (with_reducible repeat (first | refine blk_drewN ?_ _ | refine blk_drew ?_ | refine blk_alloc ?_ _)); refine blk_put (cs := #[.int .i64 t210, .int .i64 t211, .int .i64 0]) ?_ 2 _ rfl; (with_reducible repeat (first | refine blk_drewN ?_ _ | refine blk_drew ?_ | refine blk_alloc ?_ _)); refine blk_put (cs := #[.int .i64 t210, .int .i64 0, .int .i64 0]) ?_ 1 _ rfl; (with_reducible repeat (first | refine blk_drewN ?_ _ | refine blk_drew ?_ | refine blk_alloc ?_ _)); refine blk_put (cs := #[.int .i64 0, .int .i64 0, .int .i64 0]) ?_ 0 _ rfl; (with_reducible repeat (first | refine blk_drewN ?_ _ | refine blk_drew ?_ | refine blk_alloc ?_ _)); exact BK207.out) Try.underlying25 rfl (by kernel_rfl)) rfl ?_
                          exact ⟨by first | rfl | (simp [errW_none, errW_some] <;> rfl) | (simp [*, errW_none, errW_some] <;> rfl), by repeat (first | (with_reducible first | exact HB.out | apply below_alloc | apply pw_below_drewN | apply below_drew1 | refine below_set ?_ GE206.out | refine below_set ?_ GE207.out | refine below_set ?_ GE209.out) | exact HB.out)⟩
                      · rw [if_neg c120] at H
                        have c120b0 : (a3_0 == 4) = false := beq_eq_false_iff_ne.mpr c120
                        have c120b1 : (a3_0 != 4) = true := bne_iff_ne.mpr c120
                        by_cases c134 : a6 = true
                        · subst c134
                          have H1 : (some (5, 0, 0, false)) = some (r1, r2, r3, r4) := by rw [if_pos rfl] at H; exact H
                          clear H
                          have H := H1
                          clear H1
                          simp only [Option.some.injEq, Prod.mk.injEq] at H
                          obtain ⟨rfl, rfl, rfl, rfl⟩ := H
                          have hnb135 := NB209_206.out
                          have hnc135 := NB206_209.out
                          have hnb136 := NB209_207.out
                          have hnc136 := NB207_209.out
                          have hcz137_0 : wc.cell? ⟨gb209, 0, none⟩ = some (.int .i64 5) := (blk_cell BK209.out 0).trans rfl
                          have hcz137_1 : wc.cell? ⟨gb209, 1, none⟩ = some (.int .i64 0) := (blk_cell BK209.out 1).trans rfl
                          have hcz137_2 : wc.cell? ⟨gb209, 2, none⟩ = some (.int .i64 0) := (blk_cell BK209.out 2).trans rfl
                          have hfz137_0 := blk_frozen BK209.out 0
                          have hfz137_1 := blk_frozen BK209.out 1
                          have hfz137_2 := blk_frozen BK209.out 2
                          have hnb138 := NB207_206.out
                          have hnc138 := NB206_207.out
                          have hcz139_0 : wc.cell? ⟨gb207, 0, none⟩ = some (.int .i64 0) := (blk_cell BK207.out 0).trans rfl
                          have hcz139_1 : wc.cell? ⟨gb207, 1, none⟩ = some (.int .i64 0) := (blk_cell BK207.out 1).trans rfl
                          have hcz139_2 : wc.cell? ⟨gb207, 2, none⟩ = some (.int .i64 0) := (blk_cell BK207.out 2).trans rfl
                          have hfz139_0 := blk_frozen BK207.out 0
                          have hfz139_1 := blk_frozen BK207.out 1
                          have hfz139_2 := blk_frozen BK207.out 2
                          go_wp2
                          refine bodyPost_ret (results_ct rfl _ _ gb207 25 #[.int .i64 5, .int .i64 0, .int .i64 0] (0, 0) _ rfl (by (with_reducible repeat (first | refine blk_drewN ?_ _ | refine blk_drew ?_ | refine blk_alloc ?_ _)); refine blk_put (cs := #[.int .i64 5, .int .i64 0, .int .i64 0]) ?_ 2 _ rfl; (with_reducible repeat (first | refine blk_drewN ?_ _ | refine blk_drew ?_ | refine blk_alloc ?_ _)); refine blk_put (cs := #[.int .i64 5, .int .i64 0, .int .i64 0]) ?_ 1 _ rfl; (with_reducible repeat (first | refine blk_drewN ?_ _ | refine blk_drew ?_ | refine blk_alloc ?_ _)); refine blk_put (cs := #[.int .i64 0, .int .i64 0, .int .i64 0]) ?_ 0 _ rfl; (with_reducible repeat (first | refine blk_drewN ?_ _ | refine blk_drew ?_ | refine blk_alloc ?_ _)); exact BK207.out) Try.underlying25 rfl (by kernel_rfl)) rfl ?_
                          exact ⟨by first | rfl | (simp [errW_none, errW_some] <;> rfl) | (simp [*, errW_none, errW_some] <;> rfl), by repeat (first | (with_reducible first | exact HB.out | apply below_alloc | apply pw_below_drewN | apply below_drew1 | refine below_set ?_ GE206.out | refine below_set ?_ GE207.out | refine below_set ?_ GE209.out) | exact HB.out)⟩
                        · replace c134 := Bool.eq_false_iff.mpr c134
                          subst c134
                          have H1 : ((substationref29_counted.f a3_0 a3_1 a3_2 a2 a7).bind fun bt213 => (some (bt213.1, bt213.2.1, bt213.2.2, false))) = some (r1, r2, r3, r4) := by rw [if_neg (show ¬ (false = true) by decide)] at H; exact H
                          clear H
                          have H := H1
                          clear H1
                          replace H := Option.bind_eq_some_iff.mp H
                          obtain ⟨⟨t213, t214, t215⟩, A1400, H⟩ := H
                          replace H : (some (t213, t214, t215, false)) = some (r1, r2, r3, r4) := H
                          have A140 := Aside0.mk A1400
                          clear A1400
                          simp only [Option.some.injEq, Prod.mk.injEq] at H
                          obtain ⟨rfl, rfl, rfl, rfl⟩ := H
                          have hnb141 := NB206_207.out
                          have hnc141 := NB207_206.out
                          have hnb142 := NB206_209.out
                          have hnc142 := NB209_206.out
                          have hcz143_0 : wc.cell? ⟨gb206, 0, none⟩ = some (.int .i64 a3_0) := (blk_cell BK206.out 0).trans rfl
                          have hcz143_1 : wc.cell? ⟨gb206, 1, none⟩ = some (.int .i64 a3_1) := (blk_cell BK206.out 1).trans rfl
                          have hcz143_2 : wc.cell? ⟨gb206, 2, none⟩ = some (.int .i64 a3_2) := (blk_cell BK206.out 2).trans rfl
                          have hfz143_0 := blk_frozen BK206.out 0
                          have hfz143_1 := blk_frozen BK206.out 1
                          have hfz143_2 := blk_frozen BK206.out 2
                          go_wp2_with (first | ((with_reducible refine gate_callee (f := 23) rfl ?_); refine goesL_ (some 59) rfl rfl Try.func23 (by kernel_rfl) rfl #[.agg #[.int .i64 a3_0, .int .i64 a3_1, .int .i64 a3_2], .int .i64 a2, .bool a7] rfl (by (try simp only [List.map_toArray, List.map_cons, List.map_nil]); first | done | rfl | (simp only [List.length_drop, List.length_take]; rfl)) ?_; (with_reducible refine (substationref29_counted.calls a3_0 a3_1 a3_2 a2 a7 t213 t214 t215 _ A140.out).mono ?_); rintro e w144 ⟨rfl, hb⟩; refine ⟨_, rfl, ?_⟩; have n0_ := Aside0.mk (blk_below (g := gb206) (o := .cells #[.int .i64 a3_0, .int .i64 a3_1, .int .i64 a3_2] 25 (0, 0)) (by (with_reducible repeat (first | refine blk_drewN ?_ _ | refine blk_drew ?_ | refine blk_alloc ?_ _)); exact BK206.out) hb); have n1_ := Aside0.mk (blk_below (g := gb207) (o := .cells #[.int .i64 0, .int .i64 0, .int .i64 0] 25 (0, 0)) (by (with_reducible repeat (first | refine blk_drewN ?_ _ | refine blk_drew ?_ | refine blk_alloc ?_ _)); exact BK207.out) hb); have n2_ := Aside0.mk (blk_below (g := gb209) (o := .cells #[.int .i64 5, .int .i64 0, .int .i64 0] 25 (0, 0)) (by (with_reducible repeat (first | refine blk_drewN ?_ _ | refine blk_drew ?_ | refine blk_alloc ?_ _)); exact BK209.out) hb); have n3_ := Aside0.mk (below_step (by repeat (first | (with_reducible first | exact HB.out | apply below_alloc | apply pw_below_drewN | apply below_drew1 | refine below_set ?_ GE206.out | refine below_set ?_ GE207.out | refine below_set ?_ GE209.out) | exact HB.out)) hb); clear BK206; clear BK207; clear BK209; clear HB; have BK206 := n0_; have BK207 := n1_; have BK209 := n2_; have HB := n3_; clear n0_ n1_ n2_ n3_; (try clear hb); (try clear hb2); (try clear hk); (try clear hi); have hnb145 := NB207_209.out; have hnc145 := NB209_207.out; have hcz146_0 : w144.cell? ⟨gb207, 0, none⟩ = some (.int .i64 0) := (blk_cell BK207.out 0).trans rfl; have hcz146_1 : w144.cell? ⟨gb207, 1, none⟩ = some (.int .i64 0) := (blk_cell BK207.out 1).trans rfl; have hcz146_2 : w144.cell? ⟨gb207, 2, none⟩ = some (.int .i64 0) := (blk_cell BK207.out 2).trans rfl; have hfz146_0 := blk_frozen BK207.out 0; have hfz146_1 := blk_frozen BK207.out 1; have hfz146_2 := blk_frozen BK207.out 2))
                          refine bodyPost_ret (results_ct rfl _ _ gb207 25 #[.int .i64 t213, .int .i64 t214, .int .i64 t215] (0, 0) _ rfl (by (with_reducible repeat (first | refine blk_drewN ?_ _ | refine blk_drew ?_ | refine blk_alloc ?_ _)); refine blk_put (cs := #[.int .i64 t213, .int .i64 t214, .int .i64 0]) ?_ 2 _ rfl; (with_reducible repeat (first | refine blk_drewN ?_ _ | refine blk_drew ?_ | refine blk_alloc ?_ _)); refine blk_put (cs := #[.int .i64 t213, .int .i64 0, .int .i64 0]) ?_ 1 _ rfl; (with_reducible repeat (first | refine blk_drewN ?_ _ | refine blk_drew ?_ | refine blk_alloc ?_ _)); refine blk_put (cs := #[.int .i64 0, .int .i64 0, .int .i64 0]) ?_ 0 _ rfl; (with_reducible repeat (first | refine blk_drewN ?_ _ | refine blk_drew ?_ | refine blk_alloc ?_ _)); exact BK207.out) Try.underlying25 rfl (by kernel_rfl)) rfl ?_
                          exact ⟨by first | rfl | (simp [errW_none, errW_some] <;> rfl) | (simp [*, errW_none, errW_some] <;> rfl), by repeat (first | (with_reducible first | exact HB.out | apply below_alloc | apply pw_below_drewN | apply below_drew1 | refine below_set ?_ GE206.out | refine below_set ?_ GE207.out | refine below_set ?_ GE209.out) | exact HB.out)⟩
  · replace c10 := Bool.eq_false_iff.mpr c10
    subst c10
    have H1 : (some (0, 0, 0, false)) = some (r1, r2, r3, r4) := by rw [if_neg (show ¬ (false = true) by decide)] at H; exact H
    clear H
    have H := H1
    clear H1
    simp only [Option.some.injEq, Prod.mk.injEq] at H
    obtain ⟨rfl, rfl, rfl, rfl⟩ := H
    go_enter Try.func13, Try.ntmps13
    go_wp2_with (first | ((with_reducible refine gate_dst (N := 11) rfl ?_); refine box_event ?hg (N := 11) ?hd (cs := #[.int .i64 a3_0, .int .i64 a3_1, .int .i64 a3_2]) (t := 25) ?hr ?_; (case hd => rfl); (case hg => rfl); (case hr => first | (go_simp; done) | (go_simp; rfl)); intro gb206 hg w147 hbox hb; have n0_ := Aside0.mk (below_step (by repeat (first | (with_reducible first | exact HB.out | apply below_alloc | apply pw_below_drewN | apply below_drew1) | exact HB.out)) hb); have n1_ := Aside0.mk (hbox); have n2_ := Aside0.mk ((by rw [hg]; exact (below_size (by repeat (first | (with_reducible first | exact HB.out | apply below_alloc | apply pw_below_drewN | apply below_drew1) | exact HB.out))) : w.heap.size ≤ gb206)); have n3_ := Aside0.mk ((by rw [hg]; exact (below_size (by repeat (first | (with_reducible first | exact HB.out | apply below_alloc | apply pw_below_drewN | apply below_drew1) | exact HB.out))) : w.heap.size ≤ gb206)); clear HB; have HB := n0_; have BK206 := n1_; have GW206 := n2_; have GE206 := n3_; clear n0_ n1_ n2_ n3_; clear hb hbox hg) | ((with_reducible refine gate_dst (N := 16) rfl ?_); refine box_event ?hg (N := 16) ?hd (cs := #[.int .i64 0, .int .i64 0, .int .i64 0]) (t := 25) ?hr ?_; (case hd => rfl); (case hg => rfl); (case hr => first | (go_simp; done) | (go_simp; rfl)); intro gb207 hg w148 hbox hb; have n0_ := Aside0.mk (blk_below (g := gb206) (o := .cells #[.int .i64 a3_0, .int .i64 a3_1, .int .i64 a3_2] 25 (0, 0)) (by (with_reducible repeat (first | refine blk_drewN ?_ _ | refine blk_drew ?_ | refine blk_alloc ?_ _)); exact BK206.out) hb); have n1_ := Aside0.mk (below_step (by repeat (first | (with_reducible first | exact HB.out | apply below_alloc | apply pw_below_drewN | apply below_drew1 | refine below_set ?_ GE206.out) | exact HB.out)) hb); have n2_ := Aside0.mk (hbox); have n3_ := Aside0.mk ((by rw [hg]; exact (below_size (by repeat (first | (with_reducible first | exact HB.out | apply below_alloc | apply pw_below_drewN | apply below_drew1 | refine below_set ?_ GE206.out) | exact HB.out))) : w.heap.size ≤ gb207)); have n4_ := Aside0.mk ((by rw [hg]; exact (below_size (by repeat (first | (with_reducible first | exact HB.out | apply below_alloc | apply pw_below_drewN | apply below_drew1 | refine below_set ?_ GE206.out) | exact HB.out))) : w.heap.size ≤ gb207)); have n5_ := Aside0.mk ((by rw [hg]; exact Nat.ne_of_lt (blk_lt (g := gb206) (o := .cells #[.int .i64 a3_0, .int .i64 a3_1, .int .i64 a3_2] 25 (0, 0)) (by (with_reducible repeat (first | refine blk_drewN ?_ _ | refine blk_drew ?_ | refine blk_alloc ?_ _)); exact BK206.out)) : gb206 ≠ gb207)); have n6_ := Aside0.mk ((by rw [hg]; exact Nat.ne_of_gt (blk_lt (g := gb206) (o := .cells #[.int .i64 a3_0, .int .i64 a3_1, .int .i64 a3_2] 25 (0, 0)) (by (with_reducible repeat (first | refine blk_drewN ?_ _ | refine blk_drew ?_ | refine blk_alloc ?_ _)); exact BK206.out)) : gb207 ≠ gb206)); clear BK206; clear HB; have BK206 := n0_; have HB := n1_; have BK207 := n2_; have GW207 := n3_; have GE207 := n4_; have NB206_207 := n5_; have NB207_206 := n6_; clear n0_ n1_ n2_ n3_ n4_ n5_ n6_; clear hb hbox hg; have hnb149 := NB206_207.out; have hnc149 := NB207_206.out; have hcz150_0 : w148.cell? ⟨gb206, 0, none⟩ = some (.int .i64 a3_0) := (blk_cell BK206.out 0).trans rfl; have hcz150_1 : w148.cell? ⟨gb206, 1, none⟩ = some (.int .i64 a3_1) := (blk_cell BK206.out 1).trans rfl; have hcz150_2 : w148.cell? ⟨gb206, 2, none⟩ = some (.int .i64 a3_2) := (blk_cell BK206.out 2).trans rfl; have hfz150_0 := blk_frozen BK206.out 0; have hfz150_1 := blk_frozen BK206.out 1; have hfz150_2 := blk_frozen BK206.out 2) | ((with_reducible refine gate_callee (f := 15) rfl ?_); refine goesL_ (some 23) rfl rfl Try.func15 (by kernel_rfl) rfl #[.int .i64 a0, .int .i64 a1, .int .i64 a2, .agg #[.int .i64 a3_0, .int .i64 a3_1, .int .i64 a3_2]] rfl (by (try simp only [List.map_toArray, List.map_cons, List.map_nil]); first | done | rfl | (simp only [List.length_drop, List.length_take]; rfl)) ?_; (with_reducible refine (substationref29_ValidRecloser.calls k a0 a1 a2 a3_0 a3_1 a3_2 false _ A9.out).mono ?_); rintro e w151 ⟨rfl, hb⟩; refine ⟨_, rfl, ?_⟩; have n0_ := Aside0.mk (blk_below (g := gb206) (o := .cells #[.int .i64 a3_0, .int .i64 a3_1, .int .i64 a3_2] 25 (0, 0)) (by (with_reducible repeat (first | refine blk_drewN ?_ _ | refine blk_drew ?_ | refine blk_alloc ?_ _)); exact BK206.out) hb); have n1_ := Aside0.mk (blk_below (g := gb207) (o := .cells #[.int .i64 0, .int .i64 0, .int .i64 0] 25 (0, 0)) (by (with_reducible repeat (first | refine blk_drewN ?_ _ | refine blk_drew ?_ | refine blk_alloc ?_ _)); exact BK207.out) hb); have n2_ := Aside0.mk (below_step (by repeat (first | (with_reducible first | exact HB.out | apply below_alloc | apply pw_below_drewN | apply below_drew1 | refine below_set ?_ GE206.out | refine below_set ?_ GE207.out) | exact HB.out)) hb); clear BK206; clear BK207; clear HB; have BK206 := n0_; have BK207 := n1_; have HB := n2_; clear n0_ n1_ n2_; (try clear hb); (try clear hb2); (try clear hk); (try clear hi); have hcz152_0 : w151.cell? ⟨gb207, 0, none⟩ = some (.int .i64 0) := (blk_cell BK207.out 0).trans rfl; have hcz152_1 : w151.cell? ⟨gb207, 1, none⟩ = some (.int .i64 0) := (blk_cell BK207.out 1).trans rfl; have hcz152_2 : w151.cell? ⟨gb207, 2, none⟩ = some (.int .i64 0) := (blk_cell BK207.out 2).trans rfl; have hfz152_0 := blk_frozen BK207.out 0; have hfz152_1 := blk_frozen BK207.out 1; have hfz152_2 := blk_frozen BK207.out 2))
    refine bodyPost_ret (results_ct rfl _ _ gb207 25 #[.int .i64 0, .int .i64 0, .int .i64 0] (0, 0) _ rfl (by (with_reducible repeat (first | refine blk_drewN ?_ _ | refine blk_drew ?_ | refine blk_alloc ?_ _)); refine blk_put (cs := #[.int .i64 0, .int .i64 0, .int .i64 0]) ?_ 2 _ rfl; (with_reducible repeat (first | refine blk_drewN ?_ _ | refine blk_drew ?_ | refine blk_alloc ?_ _)); refine blk_put (cs := #[.int .i64 0, .int .i64 0, .int .i64 0]) ?_ 1 _ rfl; (with_reducible repeat (first | refine blk_drewN ?_ _ | refine blk_drew ?_ | refine blk_alloc ?_ _)); refine blk_put (cs := #[.int .i64 0, .int .i64 0, .int .i64 0]) ?_ 0 _ rfl; (with_reducible repeat (first | refine blk_drewN ?_ _ | refine blk_drew ?_ | refine blk_alloc ?_ _)); exact BK207.out) Try.underlying25 rfl (by kernel_rfl)) rfl ?_
    exact ⟨by first | rfl | (simp [errW_none, errW_some] <;> rfl) | (simp [*, errW_none, errW_some] <;> rfl), by repeat (first | (with_reducible first | exact HB.out | apply below_alloc | apply pw_below_drewN | apply below_drew1 | refine below_set ?_ GE206.out | refine below_set ?_ GE207.out) | exact HB.out)⟩

end Go.Proofs.Ytmppijipaocfiaa.PAll
