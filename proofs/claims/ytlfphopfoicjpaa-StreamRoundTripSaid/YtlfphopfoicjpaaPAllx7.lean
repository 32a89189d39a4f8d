-- PRINTED BY print.sh 35421559b90ae4d0a3588c463048766b98c2df88dd9212a6774a882060cdf62d: not written by this session
import Derived.Test.YtlfphopfoicjpaaPAllx0
import Derived.Test.YtlfphopfoicjpaaPAllx3
import Derived.Test.YtlfphopfoicjpaaPAllx6
namespace Go.Proofs.Ytlfphopfoicjpaa.PAll
open Go.RowKit Go.Proofs.YtlfphopfoicjpaaW.PrintWords Go.Proofs.YtlfphopfoicjpaaW.PrintLast Go.Proofs.YtlfphopfoicjpaaW.PrintMore
attribute [local go_sem] max2_int min2_int max_two min_two max_three min_three max_four min_four   -- for this text's walks alone
set_option linter.unusedVariables false
set_option linter.unusedSimpArgs false

/-! ### substationref15_Decode: function 20 -/
mutual
def substationref15_Decode.j0 : Nat → List Int → Bool → Option (Int × Int × Bool × List Int × List Int × Int)
  | 0, _, _ => none
  | k + 1, x0, x22 => if x22 = true then (some (0, 0, false, ([] : List Int), ([] : List Int), 15)) else (if 6 < (x0.length : Int) then (if (rd x0 6) > 1 then (some (0, 0, false, ([] : List Int), ([] : List Int), 16)) else (if 7 < (x0.length : Int) then (if (x0.length : Int) < (wrap64 (8 + (wrap64 (3 * (wrap64 (rd x0 7)))))) then (some (0, 0, false, ([] : List Int), ([] : List Int), 13)) else (if (x0.length : Int) > (wrap64 (8 + (wrap64 (3 * (wrap64 (rd x0 7)))))) then (some (0, 0, false, ([] : List Int), ([] : List Int), 14)) else (if 2 ≤ (x0.length : Int) then ((substationref15_two.f (x0.drop 2)).bind fun t249 => (if 4 ≤ (x0.length : Int) then ((substationref15_two.f (x0.drop 4)).bind fun t251 => (substationref15_Decode.l0 k x0 (wrap64 (rd x0 7)) 0 t249 t251 ((rd x0 6) == 1) ([] : List Int) ([] : List Int))) else (none))) else (none)))) else (none))) else (none))
def substationref15_Decode.l0 : Nat → List Int → Int → Int → Int → Int → Bool → List Int → List Int → Option (Int × Int × Bool × List Int × List Int × Int)
  | 0, _, _, _, _, _, _, _, _ => none
  | k + 1, x0, x4, x6, x254000, x254001, x254002, x254003, x254004 => if x6 < x4 then (if 0 ≤ (wrap64 (8 + (wrap64 (3 * x6)))) then (if (wrap64 (8 + (wrap64 (3 * x6)))) ≤ (x0.length : Int) then ((substationref15_two.f (x0.drop ((wrap64 (8 + (wrap64 (3 * x6)))) : Int).toNat)).bind fun t255 => (if t255 ≥ 32768 then (if x254003.length < 17592186044416 then (if 0 ≤ (wrap64 (10 + (wrap64 (3 * x6)))) then (if (wrap64 (10 + (wrap64 (3 * x6)))) < (x0.length : Int) then (if x254004.length < 17592186044416 then (substationref15_Decode.l0 k x0 x4 (wrap64 (x6 + 1)) x254000 x254001 x254002 (x254003 ++ [wrap64 (t255 - 65536)]) (x254004 ++ [wrap64 (rd x0 (wrap64 (10 + (wrap64 (3 * x6)))))])) else (none)) else (none)) else (none)) else (none)) else (if x254003.length < 17592186044416 then (if 0 ≤ (wrap64 (10 + (wrap64 (3 * x6)))) then (if (wrap64 (10 + (wrap64 (3 * x6)))) < (x0.length : Int) then (if x254004.length < 17592186044416 then (substationref15_Decode.l0 k x0 x4 (wrap64 (x6 + 1)) x254000 x254001 x254002 (x254003 ++ [t255]) (x254004 ++ [wrap64 (rd x0 (wrap64 (10 + (wrap64 (3 * x6)))))])) else (none)) else (none)) else (none)) else (none)))) else (none)) else (none)) else ((substationref15_Check.f k x254000 x254001 x254002 x254003 x254004).bind fun t270 => (if t270 = 0 then (some (x254000, x254001, x254002, x254003, x254004, 0)) else (some (0, 0, false, ([] : List Int), ([] : List Int), t270))))
end
def substationref15_Decode.f (k : Nat) (l0 : List Int) : Option (Int × Int × Bool × List Int × List Int × Int) := if (l0.length : Int) < 8 then (some (0, 0, false, ([] : List Int), ([] : List Int), 13)) else (if 0 < (l0.length : Int) then (if (rd l0 0) = 136 then (if 1 < (l0.length : Int) then (substationref15_Decode.j0 k l0 ((rd l0 1) != 186)) else (none)) else (substationref15_Decode.j0 k l0 true)) else (none))
theorem substationref15_Decode.mono_l : ∀ k, (∀ y0 y1, LeO (substationref15_Decode.j0 k y0 y1) (substationref15_Decode.j0 (k + 1) y0 y1)) ∧ (∀ y0 y1 y2 y3 y4 y5 y6 y7, LeO (substationref15_Decode.l0 k y0 y1 y2 y3 y4 y5 y6 y7) (substationref15_Decode.l0 (k + 1) y0 y1 y2 y3 y4 y5 y6 y7))
  | 0 => ⟨fun _ _ r h => by simp [substationref15_Decode.j0] at h, fun _ _ _ _ _ _ _ _ r h => by simp [substationref15_Decode.l0] at h⟩
  | k + 1 => by
    obtain ⟨ih0, ih1⟩ := substationref15_Decode.mono_l k
    refine ⟨?_, ?_⟩
    · intro y0 y1
      unfold substationref15_Decode.j0
      repeat' first
      | (with_reducible exact ih0 _ _)
      | (with_reducible exact ih1 _ _ _ _ _ _ _ _)
      | (with_reducible exact substationref15_Check.mono _ _ _ _ _ _)
      | (with_reducible exact LeO.refl _)
      | (with_reducible exact LeO.none _)
      | (with_reducible refine LeO.ite ?_ ?_)
      | (with_reducible refine LeO.bind ?_ (fun _ => ?_))
      | exact ih0 _ _
      | exact ih1 _ _ _ _ _ _ _ _
      | exact substationref15_Check.mono _ _ _ _ _ _
      | exact LeO.none _
      | refine LeO.ite ?_ ?_
      | refine LeO.bind ?_ (fun _ => ?_)
    · intro y0 y1 y2 y3 y4 y5 y6 y7
      unfold substationref15_Decode.l0
      repeat' first
      | (with_reducible exact ih0 _ _)
      | (with_reducible exact ih1 _ _ _ _ _ _ _ _)
      | (with_reducible exact substationref15_Check.mono _ _ _ _ _ _)
      | (with_reducible exact LeO.refl _)
      | (with_reducible exact LeO.none _)
      | (with_reducible refine LeO.ite ?_ ?_)
      | (with_reducible refine LeO.bind ?_ (fun _ => ?_))
      | exact ih0 _ _
      | exact ih1 _ _ _ _ _ _ _ _
      | exact substationref15_Check.mono _ _ _ _ _ _
      | exact LeO.none _
      | refine LeO.ite ?_ ?_
      | refine LeO.bind ?_ (fun _ => ?_)
theorem substationref15_Decode.mono : ∀ a0 k, LeO (substationref15_Decode.f k a0) (substationref15_Decode.f (k + 1) a0) := by
  intro a0 k
  obtain ⟨ih0, ih1⟩ := substationref15_Decode.mono_l k
  unfold substationref15_Decode.f
  repeat' first
      | (with_reducible exact ih0 _ _)
      | (with_reducible exact ih1 _ _ _ _ _ _ _ _)
      | (with_reducible exact substationref15_Check.mono _ _ _ _ _ _)
      | (with_reducible exact LeO.refl _)
      | (with_reducible exact LeO.none _)
      | (with_reducible refine LeO.ite ?_ ?_)
      | (with_reducible refine LeO.bind ?_ (fun _ => ?_))
      | exact ih0 _ _
      | exact ih1 _ _ _ _ _ _ _ _
      | exact substationref15_Check.mono _ _ _ _ _ _
      | exact LeO.none _
      | refine LeO.ite ?_ ?_
      | refine LeO.bind ?_ (fun _ => ?_)
def substationref15_Decode.T12 : Bool × List (List Nat × List Nat) := (true, [([], []), ([0], [0]), ([1], [1]), ([], []), ([3], [3]), ([4, 2], [4]), ([], []), ([6], [6]), ([7], [7]), ([8], [8]), ([2, 5, 9], [2, 5, 9]), ([], []), ([11, 10, 5, 0, 1, 2, 3, 4, 5, 6, 7, 8, 9, 10, 11], [10, 11])])
def substationref15_Decode.B12 : List Nat := [0, 1, 3, 0, 8, 31, 0, 64, 192, 448, 1023, 0, 4095]
theorem substationref15_Decode.tab12 : rtab .any (opsOf Try.f20 12) = substationref15_Decode.T12 := by kernel_rfl
theorem substationref15_Decode.bits12 : waitsOk substationref15_Decode.T12.2 substationref15_Decode.B12 = true := by kernel_rfl
def substationref15_Decode.T20 : Bool × List (List Nat × List Nat) := (true, [([], []), ([0], [0]), ([], []), ([], []), ([3], [3]), ([4], [4]), ([2, 5], [2, 5]), ([6], [6]), ([7], [7]), ([8], [8]), ([1, 9], [1, 9]), ([0, 1, 2, 3, 4, 5, 6, 7, 8, 9, 10], []), ([11, 10, 10, 0, 1, 2, 3, 4, 5, 6, 7, 8, 9, 10], [10, 11])])
def substationref15_Decode.B20 : List Nat := [0, 1, 0, 0, 8, 24, 60, 124, 252, 508, 1023, 2047, 4095]
theorem substationref15_Decode.tab20 : rtab .any (opsOf Try.f20 20) = substationref15_Decode.T20 := by kernel_rfl
theorem substationref15_Decode.bits20 : waitsOk substationref15_Decode.T20.2 substationref15_Decode.B20 = true := by kernel_rfl
set_option maxHeartbeats 8000000 in
set_option maxRecDepth 100000 in
theorem substationref15_Decode.calls (k : Nat) (A0 : Option Addr) (c0 : Nat) (l0 : List Int) (r1 : Int) (r2 : Int) (r3 : Bool) (r4 : List Int) (r5 : List Int) (r6 : Int) (w : World) (hr0 : Kd.C (Kd.int .u8) w A0 l0.length l0) (hc0 : l0.length ≤ c0) (h : substationref15_Decode.f k l0 = some (r1, r2, r3, r4, r5, r6)) :
    Calls Try.prog 20 #[.slice A0 l0.length c0] w fun e w' => ∃ v3_ v4_ : Value, e = .returned (.tuple #[.agg #[.int .i64 r1, .int .i64 r2, .bool r3, v3_, v4_], .int .i64 r6]) ∧ Kd.R (Kd.int .i64) 3 w' w.heap.size (fun k_ => some k_ ≠ (v4_ : Value).ownBlock) v3_ r4 ∧ Kd.R (Kd.int .i64) 3 w' w.heap.size (fun k_ => some k_ ≠ (v3_ : Value).ownBlock) v4_ r5 ∧ Below w.heap.size w w' := by
  have hu29 := Try.underlying29
  have HR0 := Aside0.mk hr0
  have HC0 := Aside0.mk hc0
  clear hr0 hc0
  have HB := Aside0.mk (Below.refl w.heap.size w)
  have H : (if (l0.length : Int) < 8 then (some (0, 0, false, ([] : List Int), ([] : List Int), 13)) else (if 0 < (l0.length : Int) then (if (rd l0 0) = 136 then (if 1 < (l0.length : Int) then (substationref15_Decode.j0 k l0 ((rd l0 1) != 186)) else (none)) else (substationref15_Decode.j0 k l0 true)) else (none))) = some (r1, r2, r3, r4, r5, r6) := h
  clear h
  by_cases c2 : (l0.length : Int) < 8
  · rw [if_pos c2] at H
    have c2b0 : decide ((l0.length : Int) < 8) = true := decide_eq_true c2
    have c2b1 : decide (l0.length < 8) = true := decide_eq_true (by omega)
    clear c2
    simp only [Option.some.injEq, Prod.mk.injEq] at H
    obtain ⟨rfl, rfl, rfl, rfl, rfl, rfl⟩ := H
    go_enter Try.func20, Try.ntmps20
    go_wp2_with (first | ((with_reducible refine gate_dst (N := 2) rfl ?_); refine box_event ?hg (N := 2) ?hd (cs := #[.int .i64 0, .int .i64 0, .bool false, .slice none 0 0, .slice none 0 0]) (t := 29) ?hr ?_; (case hd => rfl); (case hg => rfl); (case hr => first | (go_simp; done) | (go_simp; rfl)); intro gb243 hg w3 hbox hb; have n0_ := Aside0.mk (below_step (by repeat (first | (with_reducible first | exact HB.out | apply below_alloc | apply pw_below_drewN | apply below_drew1) | exact HB.out)) hb); have n1_ := Aside0.mk (hbox); have n2_ := Aside0.mk ((by rw [hg]; exact (below_size (by repeat (first | (with_reducible first | exact HB.out | apply below_alloc | apply pw_below_drewN | apply below_drew1) | exact HB.out))) : w.heap.size ≤ gb243)); have n3_ := Aside0.mk ((by rw [hg]; exact (below_size (by repeat (first | (with_reducible first | exact HB.out | apply below_alloc | apply pw_below_drewN | apply below_drew1) | exact HB.out))) : w.heap.size ≤ gb243)); clear HB; have HB := n0_; have BK243 := n1_; have GW243 := n2_; have GE243 := n3_; clear n0_ n1_ n2_ n3_; clear hb hbox hg; have hcz4_0 : w3.cell? ⟨gb243, 0, none⟩ = some (.int .i64 0) := (blk_cell BK243.out 0).trans rfl; have hcz4_1 : w3.cell? ⟨gb243, 1, none⟩ = some (.int .i64 0) := (blk_cell BK243.out 1).trans rfl; have hcz4_2 : w3.cell? ⟨gb243, 2, none⟩ = some (.bool false) := (blk_cell BK243.out 2).trans rfl; have hcz4_3 : w3.cell? ⟨gb243, 3, none⟩ = some (.slice none 0 0) := (blk_cell BK243.out 3).trans rfl; have hcz4_4 : w3.cell? ⟨gb243, 4, none⟩ = some (.slice none 0 0) := (blk_cell BK243.out 4).trans rfl; have hfz4_0 := blk_frozen BK243.out 0; have hfz4_1 := blk_frozen BK243.out 1; have hfz4_2 := blk_frozen BK243.out 2; have hfz4_3 := blk_frozen BK243.out 3; have hfz4_4 := blk_frozen BK243.out 4))
    refine bodyPost_ret (results_ct rfl _ _ gb243 29 #[.int .i64 0, .int .i64 0, .bool false, .slice none 0 0, .slice none 0 0] (0, 0) _ rfl (by (with_reducible repeat (first | refine blk_drewN ?_ _ | refine blk_drew ?_ | refine blk_alloc ?_ _)); refine blk_put (cs := #[.int .i64 0, .int .i64 0, .bool false, .slice none 0 0, .slice none 0 0]) ?_ 4 _ rfl; (with_reducible repeat (first | refine blk_drewN ?_ _ | refine blk_drew ?_ | refine blk_alloc ?_ _)); refine blk_put (cs := #[.int .i64 0, .int .i64 0, .bool false, .slice none 0 0, .slice none 0 0]) ?_ 3 _ rfl; (with_reducible repeat (first | refine blk_drewN ?_ _ | refine blk_drew ?_ | refine blk_alloc ?_ _)); refine blk_put (cs := #[.int .i64 0, .int .i64 0, .bool false, .slice none 0 0, .slice none 0 0]) ?_ 2 _ rfl; (with_reducible repeat (first | refine blk_drewN ?_ _ | refine blk_drew ?_ | refine blk_alloc ?_ _)); refine blk_put (cs := #[.int .i64 0, .int .i64 0, .bool false, .slice none 0 0, .slice none 0 0]) ?_ 1 _ rfl; (with_reducible repeat (first | refine blk_drewN ?_ _ | refine blk_drew ?_ | refine blk_alloc ?_ _)); refine blk_put (cs := #[.int .i64 0, .int .i64 0, .bool false, .slice none 0 0, .slice none 0 0]) ?_ 0 _ rfl; (with_reducible repeat (first | refine blk_drewN ?_ _ | refine blk_drew ?_ | refine blk_alloc ?_ _)); exact BK243.out) Try.underlying29 rfl (by kernel_rfl)) rfl ?_
    exact ⟨_, _, by first | rfl | (simp [errW_none, errW_some] <;> rfl) | (simp [*, errW_none, errW_some] <;> rfl), by first | exact Kd.R_nil _ _ _ _ _ | exact Kd.N_nil _ _ _ _ _ | exact Kd.V_nil _ _ _ _ _ | exact Kd.Q_nil _ _ _ _ _ | exact Kd.S_nil _ _ _ _ _, by first | exact Kd.R_nil _ _ _ _ _ | exact Kd.N_nil _ _ _ _ _ | exact Kd.V_nil _ _ _ _ _ | exact Kd.Q_nil _ _ _ _ _ | exact Kd.S_nil _ _ _ _ _, by repeat (first | (with_reducible first | exact HB.out | apply below_alloc | apply pw_below_drewN | apply below_drew1 | refine below_set ?_ GE243.out) | exact HB.out)⟩
  · rw [if_neg c2] at H
    have c2b0 : decide ((l0.length : Int) < 8) = false := decide_eq_false c2
    have c2b1 : decide (l0.length < 8) = false := decide_eq_false (by omega)
    clear c2
    have HC5 := Aside0.mk H
    clear H
    go_enter Try.func20, Try.ntmps20
    go_upto_region 3 with (first | ((with_reducible refine gate_dst (N := 2) rfl ?_); refine box_event ?hg (N := 2) ?hd (cs := #[.int .i64 0, .int .i64 0, .bool false, .slice none 0 0, .slice none 0 0]) (t := 29) ?hr ?_; (case hd => rfl); (case hg => rfl); (case hr => first | (go_simp; done) | (go_simp; rfl)); intro gb243 hg w6 hbox hb; have n0_ := Aside0.mk (below_step (by repeat (first | (with_reducible first | exact HB.out | apply below_alloc | apply pw_below_drewN | apply below_drew1) | exact HB.out)) hb); have n1_ := Aside0.mk (hbox); have n2_ := Aside0.mk ((by rw [hg]; exact (below_size (by repeat (first | (with_reducible first | exact HB.out | apply below_alloc | apply pw_below_drewN | apply below_drew1) | exact HB.out))) : w.heap.size ≤ gb243)); have n3_ := Aside0.mk ((by rw [hg]; exact (below_size (by repeat (first | (with_reducible first | exact HB.out | apply below_alloc | apply pw_below_drewN | apply below_drew1) | exact HB.out))) : w.heap.size ≤ gb243)); clear HB; have HB := n0_; have BK243 := n1_; have GW243 := n2_; have GE243 := n3_; clear n0_ n1_ n2_ n3_; clear hb hbox hg))
    (try simp only [Act.put, List.setIfInBounds_toArray, List.set_cons_zero, List.set_cons_succ])
    go_cut [22] (fun v22 wc => ∃ (kq : Nat) (x22_4 : Bool), v22 = .bool x22_4 ∧ Aside0 (substationref15_Decode.j0 kq l0 x22_4 = some (r1, r2, r3, r4, r5, r6)) ∧ Aside0 (kq ≤ k) ∧ Aside0 (wc.heap[gb243]? = some (.cells #[.int .i64 0, .int .i64 0, .bool false, (.slice none 0 0), (.slice none 0 0)] 29 (0, 0))) ∧ Aside0 (Below w.heap.size w wc))
    case first =>
      have H := HC5.out
      clear HC5
      by_cases c7 : 0 < (l0.length : Int)
      · rw [if_pos c7] at H
        have c7b0 : decide (0 < (l0.length : Int)) = true := decide_eq_true c7
        have c7b1 : decide (0 < l0.length) = true := decide_eq_true (by omega)
        clear c7
        (first | rw [c7b0] | (simp only [i64_w, i32_w]; rw [c7b0]) | skip)
        by_cases c8 : (rd l0 0) = 136
        · rw [if_pos c8] at H
          have c8b0 : ((rd l0 0) == 136) = true := beq_iff_eq.mpr c8
          have c8b1 : ((rd l0 0) != 136) = false := bne_eq_false_iff_eq.mpr c8
          clear c8
          by_cases c9 : 1 < (l0.length : Int)
          · rw [if_pos c9] at H
            have c9b0 : decide (1 < (l0.length : Int)) = true := decide_eq_true c9
            have c9b1 : decide (1 < l0.length) = true := decide_eq_true (by omega)
            clear c9
            have H' := Aside0.mk H
            clear H
            have p244 : 0 ≤ (0 : Int) := (by omega)
            have q244 : 0 < (l0.length : Int) := of_decide_eq_true (by first | (with_reducible assumption) | assumption)
            obtain ⟨ad244, e244, hx244_0⟩ := Kd.at_int HR0.out 0 p244 q244
            cases e244
            have qi244 : (0 < l0.length) = True := eq_true (by omega)
            (try rw [show ((0 : Int)).toNat = 0 from rfl] at hx244_0)
            (try rw [Addr.add_zero'] at hx244_0)
            replace hx244_0 := (HB.out.cell (World.block_lt_of_cell? w _ hx244_0)).trans hx244_0
            replace p244 := eq_true p244
            replace q244 := eq_true q244
            have p245 : 0 ≤ (1 : Int) := (by omega)
            have q245 : 1 < (l0.length : Int) := of_decide_eq_true (by first | (with_reducible assumption) | assumption)
            obtain ⟨ad245, e245, hx245_0⟩ := Kd.at_int HR0.out 1 p245 q245
            obtain rfl : ad244 = ad245 := (by injection e245)
            (try simp only [show (1 : Int).toNat = 1 from rfl, Nat.reduceMul, Nat.reduceEqDiff, Go.Addr.add, ↓reduceIte] at hx245_0)
            have qi245 : (1 < l0.length) = True := eq_true (by omega)
            (try rw [show ((1 : Int)).toNat = 1 from rfl] at hx245_0)
            replace hx245_0 := (HB.out.cell (World.block_lt_of_cell? w _ hx245_0)).trans hx245_0
            replace p245 := eq_true p245
            replace q245 := eq_true q245
            go_wp2
            go_meet
            case rel => exact ⟨_, (((rd l0 1) != 186)), (by first | rfl | (simp; done) | (simp [*]; done)), H', ⟨by first | omega | exact Nat.le_refl _⟩, ⟨by (with_reducible repeat (first | refine blk_drewN ?_ _ | refine blk_drew ?_ | refine blk_alloc ?_ _)); exact BK243.out⟩, ⟨by repeat (first | (with_reducible first | exact HB.out | apply below_alloc | apply pw_below_drewN | apply below_drew1 | refine below_set ?_ GE243.out) | exact HB.out)⟩⟩
          · rw [if_neg c9] at H
            exact absurd H (by simp)
        · rw [if_neg c8] at H
          have c8b0 : ((rd l0 0) == 136) = false := beq_eq_false_iff_ne.mpr c8
          have c8b1 : ((rd l0 0) != 136) = true := bne_iff_ne.mpr c8
          have H' := Aside0.mk H
          clear H
          have p244 : 0 ≤ (0 : Int) := (by omega)
          have q244 : 0 < (l0.length : Int) := of_decide_eq_true (by first | (with_reducible assumption) | assumption)
          obtain ⟨ad244, e244, hx244_0⟩ := Kd.at_int HR0.out 0 p244 q244
          cases e244
          have qi244 : (0 < l0.length) = True := eq_true (by omega)
          (try rw [show ((0 : Int)).toNat = 0 from rfl] at hx244_0)
          (try rw [Addr.add_zero'] at hx244_0)
          replace hx244_0 := (HB.out.cell (World.block_lt_of_cell? w _ hx244_0)).trans hx244_0
          replace p244 := eq_true p244
          replace q244 := eq_true q244
          go_wp2
          go_meet
          case rel => exact ⟨_, (true), (by first | rfl | (simp; done) | (simp [*]; done)), H', ⟨by first | omega | exact Nat.le_refl _⟩, ⟨by (with_reducible repeat (first | refine blk_drewN ?_ _ | refine blk_drew ?_ | refine blk_alloc ?_ _)); exact BK243.out⟩, ⟨by repeat (first | (with_reducible first | exact HB.out | apply below_alloc | apply pw_below_drewN | apply below_drew1 | refine below_set ?_ GE243.out) | exact HB.out)⟩⟩
      · rw [if_neg c7] at H
        exact absurd H (by simp)
    case rest =>
      clear HC5
      try clear c2
      try clear c2b0
      try clear c2b1
      try clear p2
      try clear q2
      try clear hx2
      try clear qi2
      try clear c7
      try clear c7b0
      try clear c7b1
      try clear c8
      try clear c8b0
      try clear c8b1
      try clear c9
      try clear c9b0
      try clear c9b1
      try clear hcz4_0
      try clear hcz4_1
      try clear hcz4_2
      try clear hcz4_3
      try clear hcz4_4
      try clear hfz4_0
      try clear hfz4_1
      try clear hfz4_2
      try clear hfz4_3
      try clear hfz4_4
      try clear hx244_0
      try clear hx245_0
      try clear p244
      try clear p245
      try clear q244
      try clear q245
      obtain ⟨kq, x22_4, rfl, HA, HJ4, BK243, HB⟩ := hcut
      cases kq with
      | zero => exact absurd HA.out (by simp [substationref15_Decode.j0])
      | succ kj4 =>
        have H := HA.out
        clear HA
        simp only [substationref15_Decode.j0] at H
        by_cases c10 : x22_4 = true
        · subst c10
          have H1 : (some (0, 0, false, ([] : List Int), ([] : List Int), 15)) = some (r1, r2, r3, r4, r5, r6) := by rw [if_pos rfl] at H; exact H
          clear H
          have H := H1
          clear H1
          simp only [Option.some.injEq, Prod.mk.injEq] at H
          obtain ⟨rfl, rfl, rfl, rfl, rfl, rfl⟩ := H
          have hcz11_0 : wc.cell? ⟨gb243, 0, none⟩ = some (.int .i64 0) := (blk_cell BK243.out 0).trans rfl
          have hcz11_1 : wc.cell? ⟨gb243, 1, none⟩ = some (.int .i64 0) := (blk_cell BK243.out 1).trans rfl
          have hcz11_2 : wc.cell? ⟨gb243, 2, none⟩ = some (.bool false) := (blk_cell BK243.out 2).trans rfl
          have hcz11_3 : wc.cell? ⟨gb243, 3, none⟩ = some (.slice none 0 0) := (blk_cell BK243.out 3).trans rfl
          have hcz11_4 : wc.cell? ⟨gb243, 4, none⟩ = some (.slice none 0 0) := (blk_cell BK243.out 4).trans rfl
          have hfz11_0 := blk_frozen BK243.out 0
          have hfz11_1 := blk_frozen BK243.out 1
          have hfz11_2 := blk_frozen BK243.out 2
          have hfz11_3 := blk_frozen BK243.out 3
          have hfz11_4 := blk_frozen BK243.out 4
          go_wp2
          refine bodyPost_ret (results_ct rfl _ _ gb243 29 #[.int .i64 0, .int .i64 0, .bool false, .slice none 0 0, .slice none 0 0] (0, 0) _ rfl (by (with_reducible repeat (first | refine blk_drewN ?_ _ | refine blk_drew ?_ | refine blk_alloc ?_ _)); refine blk_put (cs := #[.int .i64 0, .int .i64 0, .bool false, .slice none 0 0, .slice none 0 0]) ?_ 4 _ rfl; (with_reducible repeat (first | refine blk_drewN ?_ _ | refine blk_drew ?_ | refine blk_alloc ?_ _)); refine blk_put (cs := #[.int .i64 0, .int .i64 0, .bool false, .slice none 0 0, .slice none 0 0]) ?_ 3 _ rfl; (with_reducible repeat (first | refine blk_drewN ?_ _ | refine blk_drew ?_ | refine blk_alloc ?_ _)); refine blk_put (cs := #[.int .i64 0, .int .i64 0, .bool false, .slice none 0 0, .slice none 0 0]) ?_ 2 _ rfl; (with_reducible repeat (first | refine blk_drewN ?_ _ | refine blk_drew ?_ | refine blk_alloc ?_ _)); refine blk_put (cs := #[.int .i64 0, .int .i64 0, .bool false, .slice none 0 0, .slice none 0 0]) ?_ 1 _ rfl; (with_reducible repeat (first | refine blk_drewN ?_ _ | refine blk_drew ?_ | refine blk_alloc ?_ _)); refine blk_put (cs := #[.int .i64 0, .int .i64 0, .bool false, .slice none 0 0, .slice none 0 0]) ?_ 0 _ rfl; (with_reducible repeat (first | refine blk_drewN ?_ _ | refine blk_drew ?_ | refine blk_alloc ?_ _)); exact BK243.out) Try.underlying29 rfl (by kernel_rfl)) rfl ?_
          exact ⟨_, _, by first | rfl | (simp [errW_none, errW_some] <;> rfl) | (simp [*, errW_none, errW_some] <;> rfl), by first | exact Kd.R_nil _ _ _ _ _ | exact Kd.N_nil _ _ _ _ _ | exact Kd.V_nil _ _ _ _ _ | exact Kd.Q_nil _ _ _ _ _ | exact Kd.S_nil _ _ _ _ _, by first | exact Kd.R_nil _ _ _ _ _ | exact Kd.N_nil _ _ _ _ _ | exact Kd.V_nil _ _ _ _ _ | exact Kd.Q_nil _ _ _ _ _ | exact Kd.S_nil _ _ _ _ _, by repeat (first | (with_reducible first | exact HB.out | apply below_alloc | apply pw_below_drewN | apply below_drew1 | refine below_set ?_ GE243.out) | exact HB.out)⟩
        · replace c10 := Bool.eq_false_iff.mpr c10
          subst c10
          have H1 : (if 6 < (l0.length : Int) then (if (rd l0 6) > 1 then (some (0, 0, false, ([] : List Int), ([] : List Int), 16)) else (if 7 < (l0.length : Int) then (if (l0.length : Int) < (wrap64 (8 + (wrap64 (3 * (wrap64 (rd l0 7)))))) then (some (0, 0, false, ([] : List Int), ([] : List Int), 13)) else (if (l0.length : Int) > (wrap64 (8 + (wrap64 (3 * (wrap64 (rd l0 7)))))) then (some (0, 0, false, ([] : List Int), ([] : List Int), 14)) else (if 2 ≤ (l0.length : Int) then ((substationref15_two.f (l0.drop 2)).bind fun t249 => (if 4 ≤ (l0.length : Int) then ((substationref15_two.f (l0.drop 4)).bind fun t251 => (substationref15_Decode.l0 kj4 l0 (wrap64 (rd l0 7)) 0 t249 t251 ((rd l0 6) == 1) ([] : List Int) ([] : List Int))) else (none))) else (none)))) else (none))) else (none)) = some (r1, r2, r3, r4, r5, r6) := by rw [if_neg (show ¬ (false = true) by decide)] at H; exact H
          clear H
          have H := H1
          clear H1
          by_cases c12 : 6 < (l0.length : Int)
          · rw [if_pos c12] at H
            have c12b0 : decide (6 < (l0.length : Int)) = true := decide_eq_true c12
            have c12b1 : decide (6 < l0.length) = true := decide_eq_true (by omega)
            clear c12
            by_cases c13 : (rd l0 6) > 1
            · rw [if_pos c13] at H
              have c13b0 : decide (1 < (rd l0 6)) = true := decide_eq_true c13
              clear c13
              simp only [Option.some.injEq, Prod.mk.injEq] at H
              obtain ⟨rfl, rfl, rfl, rfl, rfl, rfl⟩ := H
              have p246 : 0 ≤ (6 : Int) := (by omega)
              have q246 : 6 < (l0.length : Int) := of_decide_eq_true (by first | (with_reducible assumption) | assumption)
              obtain ⟨ad246, e246, hx246_0⟩ := Kd.at_int HR0.out 6 p246 q246
              cases e246
              (try simp only [show (6 : Int).toNat = 6 from rfl, Nat.reduceMul, Nat.reduceEqDiff, Go.Addr.add, ↓reduceIte] at hx246_0)
              have qi246 : (6 < l0.length) = True := eq_true (by omega)
              (try rw [show ((6 : Int)).toNat = 6 from rfl] at hx246_0)
              replace hx246_0 := (HB.out.cell (World.block_lt_of_cell? w _ hx246_0)).trans hx246_0
              replace p246 := eq_true p246
              replace q246 := eq_true q246
              have hcz14_0 : wc.cell? ⟨gb243, 0, none⟩ = some (.int .i64 0) := (blk_cell BK243.out 0).trans rfl
              have hcz14_1 : wc.cell? ⟨gb243, 1, none⟩ = some (.int .i64 0) := (blk_cell BK243.out 1).trans rfl
              have hcz14_2 : wc.cell? ⟨gb243, 2, none⟩ = some (.bool false) := (blk_cell BK243.out 2).trans rfl
              have hcz14_3 : wc.cell? ⟨gb243, 3, none⟩ = some (.slice none 0 0) := (blk_cell BK243.out 3).trans rfl
              have hcz14_4 : wc.cell? ⟨gb243, 4, none⟩ = some (.slice none 0 0) := (blk_cell BK243.out 4).trans rfl
              have hfz14_0 := blk_frozen BK243.out 0
              have hfz14_1 := blk_frozen BK243.out 1
              have hfz14_2 := blk_frozen BK243.out 2
              have hfz14_3 := blk_frozen BK243.out 3
              have hfz14_4 := blk_frozen BK243.out 4
              go_wp2
              refine bodyPost_ret (results_ct rfl _ _ gb243 29 #[.int .i64 0, .int .i64 0, .bool false, .slice none 0 0, .slice none 0 0] (0, 0) _ rfl (by (with_reducible repeat (first | refine blk_drewN ?_ _ | refine blk_drew ?_ | refine blk_alloc ?_ _)); refine blk_put (cs := #[.int .i64 0, .int .i64 0, .bool false, .slice none 0 0, .slice none 0 0]) ?_ 4 _ rfl; (with_reducible repeat (first | refine blk_drewN ?_ _ | refine blk_drew ?_ | refine blk_alloc ?_ _)); refine blk_put (cs := #[.int .i64 0, .int .i64 0, .bool false, .slice none 0 0, .slice none 0 0]) ?_ 3 _ rfl; (with_reducible repeat (first | refine blk_drewN ?_ _ | refine blk_drew ?_ | refine blk_alloc ?_ _)); refine blk_put (cs := #[.int .i64 0, .int .i64 0, .bool false, .slice none 0 0, .slice none 0 0]) ?_ 2 _ rfl; (with_reducible repeat (first | refine blk_drewN ?_ _ | refine blk_drew ?_ | refine blk_alloc ?_ _)); refine blk_put (cs := #[.int .i64 0, .int .i64 0, .bool false, .slice none 0 0, .slice none 0 0]) ?_ 1 _ rfl; (with_reducible repeat (first | refine blk_drewN ?_ _ | refine blk_drew ?_ | refine blk_alloc ?_ _)); refine blk_put (cs := #[.int .i64 0, .int .i64 0, .bool false, .slice none 0 0, .slice none 0 0]) ?_ 0 _ rfl; (with_reducible repeat (first | refine blk_drewN ?_ _ | refine blk_drew ?_ | refine blk_alloc ?_ _)); exact BK243.out) Try.underlying29 rfl (by kernel_rfl)) rfl ?_
              exact ⟨_, _, by first | rfl | (simp [errW_none, errW_some] <;> rfl) | (simp [*, errW_none, errW_some] <;> rfl), by first | exact Kd.R_nil _ _ _ _ _ | exact Kd.N_nil _ _ _ _ _ | exact Kd.V_nil _ _ _ _ _ | exact Kd.Q_nil _ _ _ _ _ | exact Kd.S_nil _ _ _ _ _, by first | exact Kd.R_nil _ _ _ _ _ | exact Kd.N_nil _ _ _ _ _ | exact Kd.V_nil _ _ _ _ _ | exact Kd.Q_nil _ _ _ _ _ | exact Kd.S_nil _ _ _ _ _, by repeat (first | (with_reducible first | exact HB.out | apply below_alloc | apply pw_below_drewN | apply below_drew1 | refine below_set ?_ GE243.out) | exact HB.out)⟩
            · rw [if_neg c13] at H
              have c13b0 : decide (1 < (rd l0 6)) = false := decide_eq_false c13
              clear c13
              by_cases c15 : 7 < (l0.length : Int)
              · rw [if_pos c15] at H
                have c15b0 : decide (7 < (l0.length : Int)) = true := decide_eq_true c15
                have c15b1 : decide (7 < l0.length) = true := decide_eq_true (by omega)
                clear c15
                by_cases c16 : (l0.length : Int) < (wrap64 (8 + (wrap64 (3 * (wrap64 (rd l0 7))))))
                · rw [if_pos c16] at H
                  have c16b0 : decide ((l0.length : Int) < (wrap64 (8 + (wrap64 (3 * (wrap64 (rd l0 7))))))) = true := decide_eq_true c16
                  clear c16
                  simp only [Option.some.injEq, Prod.mk.injEq] at H
                  obtain ⟨rfl, rfl, rfl, rfl, rfl, rfl⟩ := H
                  have p246 : 0 ≤ (6 : Int) := (by omega)
                  have q246 : 6 < (l0.length : Int) := of_decide_eq_true (by first | (with_reducible assumption) | assumption)
                  obtain ⟨ad246, e246, hx246_0⟩ := Kd.at_int HR0.out 6 p246 q246
                  cases e246
                  (try simp only [show (6 : Int).toNat = 6 from rfl, Nat.reduceMul, Nat.reduceEqDiff, Go.Addr.add, ↓reduceIte] at hx246_0)
                  have qi246 : (6 < l0.length) = True := eq_true (by omega)
                  (try rw [show ((6 : Int)).toNat = 6 from rfl] at hx246_0)
                  replace hx246_0 := (HB.out.cell (World.block_lt_of_cell? w _ hx246_0)).trans hx246_0
                  replace p246 := eq_true p246
                  replace q246 := eq_true q246
                  have p247 : 0 ≤ (7 : Int) := (by omega)
                  have q247 : 7 < (l0.length : Int) := of_decide_eq_true (by first | (with_reducible assumption) | assumption)
                  obtain ⟨ad247, e247, hx247_0⟩ := Kd.at_int HR0.out 7 p247 q247
                  obtain rfl : ad246 = ad247 := (by injection e247)
                  (try simp only [show (7 : Int).toNat = 7 from rfl, Nat.reduceMul, Nat.reduceEqDiff, Go.Addr.add, ↓reduceIte] at hx247_0)
                  have qi247 : (7 < l0.length) = True := eq_true (by omega)
                  (try rw [show ((7 : Int)).toNat = 7 from rfl] at hx247_0)
                  replace hx247_0 := (HB.out.cell (World.block_lt_of_cell? w _ hx247_0)).trans hx247_0
                  replace p247 := eq_true p247
                  replace q247 := eq_true q247
                  have hcz17_0 : wc.cell? ⟨gb243, 0, none⟩ = some (.int .i64 0) := (blk_cell BK243.out 0).trans rfl
                  have hcz17_1 : wc.cell? ⟨gb243, 1, none⟩ = some (.int .i64 0) := (blk_cell BK243.out 1).trans rfl
                  have hcz17_2 : wc.cell? ⟨gb243, 2, none⟩ = some (.bool false) := (blk_cell BK243.out 2).trans rfl
                  have hcz17_3 : wc.cell? ⟨gb243, 3, none⟩ = some (.slice none 0 0) := (blk_cell BK243.out 3).trans rfl
                  have hcz17_4 : wc.cell? ⟨gb243, 4, none⟩ = some (.slice none 0 0) := (blk_cell BK243.out 4).trans rfl
                  have hfz17_0 := blk_frozen BK243.out 0
                  have hfz17_1 := blk_frozen BK243.out 1
                  have hfz17_2 := blk_frozen BK243.out 2
                  have hfz17_3 := blk_frozen BK243.out 3
                  have hfz17_4 := blk_frozen BK243.out 4
                  go_wp2
                  refine bodyPost_ret (results_ct rfl _ _ gb243 29 #[.int .i64 0, .int .i64 0, .bool false, .slice none 0 0, .slice none 0 0] (0, 0) _ rfl (by (with_reducible repeat (first | refine blk_drewN ?_ _ | refine blk_drew ?_ | refine blk_alloc ?_ _)); refine blk_put (cs := #[.int .i64 0, .int .i64 0, .bool false, .slice none 0 0, .slice none 0 0]) ?_ 4 _ rfl; (with_reducible repeat (first | refine blk_drewN ?_ _ | refine blk_drew ?_ | refine blk_alloc ?_ _)); refine blk_put (cs := #[.int .i64 0, .int .i64 0, .bool false, .slice none 0 0, .slice none 0 0]) ?_ 3 _ rfl; (with_reducible repeat (first | refine blk_drewN ?_ _ | refine blk_drew ?_ | refine blk_alloc ?_ _)); refine blk_put (cs := #[.int .i64 0, .int .i64 0, .bool false, .slice none 0 0, .slice none 0 0]) ?_ 2 _ rfl; (with_reducible repeat (first | refine blk_drewN ?_ _ | refine blk_drew ?_ | refine blk_alloc ?_ _)); refine blk_put (cs := #[.int .i64 0, .int .i64 0, .bool false, .slice none 0 0, .slice none 0 0]) ?_ 1 _ rfl; (with_reducible repeat (first | refine blk_drewN ?_ _ | refine blk_drew ?_ | refine blk_alloc ?_ _)); refine blk_put (cs := #[.int .i64 0, .int .i64 0, .bool false, .slice none 0 0, .slice none 0 0]) ?_ 0 _ rfl; (with_reducible repeat (first | refine blk_drewN ?_ _ | refine blk_drew ?_ | refine blk_alloc ?_ _)); exact BK243.out) Try.underlying29 rfl (by kernel_rfl)) rfl ?_
                  exact ⟨_, _, by first | rfl | (simp [errW_none, errW_some] <;> rfl) | (simp [*, errW_none, errW_some] <;> rfl), by first | exact Kd.R_nil _ _ _ _ _ | exact Kd.N_nil _ _ _ _ _ | exact Kd.V_nil _ _ _ _ _ | exact Kd.Q_nil _ _ _ _ _ | exact Kd.S_nil _ _ _ _ _, by first | exact Kd.R_nil _ _ _ _ _ | exact Kd.N_nil _ _ _ _ _ | exact Kd.V_nil _ _ _ _ _ | exact Kd.Q_nil _ _ _ _ _ | exact Kd.S_nil _ _ _ _ _, by repeat (first | (with_reducible first | exact HB.out | apply below_alloc | apply pw_below_drewN | apply below_drew1 | refine below_set ?_ GE243.out) | exact HB.out)⟩
                · rw [if_neg c16] at H
                  have c16b0 : decide ((l0.length : Int) < (wrap64 (8 + (wrap64 (3 * (wrap64 (rd l0 7))))))) = false := decide_eq_false c16
                  clear c16
                  by_cases c18 : (l0.length : Int) > (wrap64 (8 + (wrap64 (3 * (wrap64 (rd l0 7))))))
                  · rw [if_pos c18] at H
                    have c18b0 : decide ((wrap64 (8 + (wrap64 (3 * (wrap64 (rd l0 7)))))) < (l0.length : Int)) = true := decide_eq_true c18
                    clear c18
                    simp only [Option.some.injEq, Prod.mk.injEq] at H
                    obtain ⟨rfl, rfl, rfl, rfl, rfl, rfl⟩ := H
                    have p246 : 0 ≤ (6 : Int) := (by omega)
                    have q246 : 6 < (l0.length : Int) := of_decide_eq_true (by first | (with_reducible assumption) | assumption)
                    obtain ⟨ad246, e246, hx246_0⟩ := Kd.at_int HR0.out 6 p246 q246
                    cases e246
                    (try simp only [show (6 : Int).toNat = 6 from rfl, Nat.reduceMul, Nat.reduceEqDiff, Go.Addr.add, ↓reduceIte] at hx246_0)
                    have qi246 : (6 < l0.length) = True := eq_true (by omega)
                    (try rw [show ((6 : Int)).toNat = 6 from rfl] at hx246_0)
                    replace hx246_0 := (HB.out.cell (World.block_lt_of_cell? w _ hx246_0)).trans hx246_0
                    replace p246 := eq_true p246
                    replace q246 := eq_true q246
                    have p247 : 0 ≤ (7 : Int) := (by omega)
                    have q247 : 7 < (l0.length : Int) := of_decide_eq_true (by first | (with_reducible assumption) | assumption)
                    obtain ⟨ad247, e247, hx247_0⟩ := Kd.at_int HR0.out 7 p247 q247
                    obtain rfl : ad246 = ad247 := (by injection e247)
                    (try simp only [show (7 : Int).toNat = 7 from rfl, Nat.reduceMul, Nat.reduceEqDiff, Go.Addr.add, ↓reduceIte] at hx247_0)
                    have qi247 : (7 < l0.length) = True := eq_true (by omega)
                    (try rw [show ((7 : Int)).toNat = 7 from rfl] at hx247_0)
                    replace hx247_0 := (HB.out.cell (World.block_lt_of_cell? w _ hx247_0)).trans hx247_0
                    replace p247 := eq_true p247
                    replace q247 := eq_true q247
                    have hcz19_0 : wc.cell? ⟨gb243, 0, none⟩ = some (.int .i64 0) := (blk_cell BK243.out 0).trans rfl
                    have hcz19_1 : wc.cell? ⟨gb243, 1, none⟩ = some (.int .i64 0) := (blk_cell BK243.out 1).trans rfl
                    have hcz19_2 : wc.cell? ⟨gb243, 2, none⟩ = some (.bool false) := (blk_cell BK243.out 2).trans rfl
                    have hcz19_3 : wc.cell? ⟨gb243, 3, none⟩ = some (.slice none 0 0) := (blk_cell BK243.out 3).trans rfl
                    have hcz19_4 : wc.cell? ⟨gb243, 4, none⟩ = some (.slice none 0 0) := (blk_cell BK243.out 4).trans rfl
                    have hfz19_0 := blk_frozen BK243.out 0
                    have hfz19_1 := blk_frozen BK243.out 1
                    have hfz19_2 := blk_frozen BK243.out 2
                    have hfz19_3 := blk_frozen BK243.out 3
                    have hfz19_4 := blk_frozen BK243.out 4
                    go_wp2
                    refine bodyPost_ret (results_ct rfl _ _ gb243 29 #[.int .i64 0, .int .i64 0, .bool false, .slice none 0 0, .slice none 0 0] (0, 0) _ rfl (by (with_reducible repeat (first | refine blk_drewN ?_ _ | refine blk_drew ?_ | refine blk_alloc ?_ _)); refine blk_put (cs := #[.int .i64 0, .int .i64 0, .bool false, .slice none 0 0, .slice none 0 0]) ?_ 4 _ rfl; (with_reducible repeat (first | refine blk_drewN ?_ _ | refine blk_drew ?_ | refine blk_alloc ?_ _)); refine blk_put (cs := #[.int .i64 0, .int .i64 0, .bool false, .slice none 0 0, .slice none 0 0]) ?_ 3 _ rfl; (with_reducible repeat (first | refine blk_drewN ?_ _ | refine blk_drew ?_ | refine blk_alloc ?_ _)); refine blk_put (cs := #[.int .i64 0, .int .i64 0, .bool false, .slice none 0 0, .slice none 0 0]) ?_ 2 _ rfl; (with_reducible repeat (first | refine blk_drewN ?_ _ | refine blk_drew ?_ | refine blk_alloc ?_ _)); refine blk_put (cs := #[.int .i64 0, .int .i64 0, .bool false, .slice none 0 0, .slice none 0 0]) ?_ 1 _ rfl; (with_reducible repeat (first | refine blk_drewN ?_ _ | refine blk_drew ?_ | refine blk_alloc ?_ _)); refine blk_put (cs := #[.int .i64 0, .int .i64 0, .bool false, .slice none 0 0, .slice none 0 0]) ?_ 0 _ rfl; (with_reducible repeat (first | refine blk_drewN ?_ _ | refine blk_drew ?_ | refine blk_alloc ?_ _)); exact BK243.out) Try.underlying29 rfl (by kernel_rfl)) rfl ?_
                    exact ⟨_, _, by first | rfl | (simp [errW_none, errW_some] <;> rfl) | (simp [*, errW_none, errW_some] <;> rfl), by first | exact Kd.R_nil _ _ _ _ _ | exact Kd.N_nil _ _ _ _ _ | exact Kd.V_nil _ _ _ _ _ | exact Kd.Q_nil _ _ _ _ _ | exact Kd.S_nil _ _ _ _ _, by first | exact Kd.R_nil _ _ _ _ _ | exact Kd.N_nil _ _ _ _ _ | exact Kd.V_nil _ _ _ _ _ | exact Kd.Q_nil _ _ _ _ _ | exact Kd.S_nil _ _ _ _ _, by repeat (first | (with_reducible first | exact HB.out | apply below_alloc | apply pw_below_drewN | apply below_drew1 | refine below_set ?_ GE243.out) | exact HB.out)⟩
                  · rw [if_neg c18] at H
                    have c18b0 : decide ((wrap64 (8 + (wrap64 (3 * (wrap64 (rd l0 7)))))) < (l0.length : Int)) = false := decide_eq_false c18
                    clear c18
                    by_cases c20 : 2 ≤ (l0.length : Int)
                    · rw [if_pos c20] at H
                      have c20b0 := eq_true c20
                      have c20b1 : decide (2 ≤ (l0.length : Int)) = true := decide_eq_true c20
                      clear c20
                      replace H := Option.bind_eq_some_iff.mp H
                      obtain ⟨t249, A210, H⟩ := H
                      replace H : (if 4 ≤ (l0.length : Int) then ((substationref15_two.f (l0.drop 4)).bind fun t251 => (substationref15_Decode.l0 kj4 l0 (wrap64 (rd l0 7)) 0 t249 t251 ((rd l0 6) == 1) ([] : List Int) ([] : List Int))) else (none)) = some (r1, r2, r3, r4, r5, r6) := H
                      have A21 := Aside0.mk A210
                      clear A210
                      by_cases c22 : 4 ≤ (l0.length : Int)
                      · rw [if_pos c22] at H
                        have c22b0 := eq_true c22
                        have c22b1 : decide (4 ≤ (l0.length : Int)) = true := decide_eq_true c22
                        clear c22
                        replace H := Option.bind_eq_some_iff.mp H
                        obtain ⟨t251, A230, H⟩ := H
                        replace H : (substationref15_Decode.l0 kj4 l0 (wrap64 (rd l0 7)) 0 t249 t251 ((rd l0 6) == 1) ([] : List Int) ([] : List Int)) = some (r1, r2, r3, r4, r5, r6) := H
                        have A23 := Aside0.mk A230
                        clear A230
                        have H' := Aside0.mk H
                        clear H
                        have p246 : 0 ≤ (6 : Int) := (by omega)
                        have q246 : 6 < (l0.length : Int) := of_decide_eq_true (by first | (with_reducible assumption) | assumption)
                        obtain ⟨ad246, e246, hx246_0⟩ := Kd.at_int HR0.out 6 p246 q246
                        cases e246
                        (try simp only [show (6 : Int).toNat = 6 from rfl, Nat.reduceMul, Nat.reduceEqDiff, Go.Addr.add, ↓reduceIte] at hx246_0)
                        have qi246 : (6 < l0.length) = True := eq_true (by omega)
                        (try rw [show ((6 : Int)).toNat = 6 from rfl] at hx246_0)
                        replace hx246_0 := (HB.out.cell (World.block_lt_of_cell? w _ hx246_0)).trans hx246_0
                        replace p246 := eq_true p246
                        replace q246 := eq_true q246
                        have p247 : 0 ≤ (7 : Int) := (by omega)
                        have q247 : 7 < (l0.length : Int) := of_decide_eq_true (by first | (with_reducible assumption) | assumption)
                        obtain ⟨ad247, e247, hx247_0⟩ := Kd.at_int HR0.out 7 p247 q247
                        obtain rfl : ad246 = ad247 := (by injection e247)
                        (try simp only [show (7 : Int).toNat = 7 from rfl, Nat.reduceMul, Nat.reduceEqDiff, Go.Addr.add, ↓reduceIte] at hx247_0)
                        have qi247 : (7 < l0.length) = True := eq_true (by omega)
                        (try rw [show ((7 : Int)).toNat = 7 from rfl] at hx247_0)
                        replace hx247_0 := (HB.out.cell (World.block_lt_of_cell? w _ hx247_0)).trans hx247_0
                        replace p247 := eq_true p247
                        replace q247 := eq_true q247
                        try go_wp2
                        have n0_ := Aside0.mk (blk_drew BK243.out)
                        have n1_ := Aside0.mk (below_drew1 HB.out)
                        clear BK243
                        clear HB
                        have BK243 := n0_
                        have HB := n1_
                        clear n0_ n1_
                        obtain ⟨i025, hi025, _, hsz25, _⟩ := info_parts info5
                        obtain ⟨A25, hcut25, hA25, hC25⟩ := print_drop_of (P := Try.prog) (Value.int .u8) 0 35 5 .i64 Try.underlying35 hi025 hsz25 (some ad246) c0 l0 2 (by omega) (of_decide_eq_true (by first | (with_reducible assumption) | assumption)) HC0.out
                        have HR248 := Aside0.mk (Kd.C_of_reads (h1 := fun _ => rfl) (hA25 _ (Kd.reads_of_C HR0.out)))
                        have HC248 := Aside0.mk hC25
                        clear hA25 hC25 hi025 hsz25
                        obtain ⟨i026, hi026, _, hsz26, _⟩ := info_parts info5
                        obtain ⟨A26, hcut26, hA26, hC26⟩ := print_drop_of (P := Try.prog) (Value.int .u8) 0 35 5 .i64 Try.underlying35 hi026 hsz26 (some ad246) c0 l0 4 (by omega) (of_decide_eq_true (by first | (with_reducible assumption) | assumption)) HC0.out
                        have HR250 := Aside0.mk (Kd.C_of_reads (h1 := fun _ => rfl) (hA26 _ (Kd.reads_of_C HR0.out)))
                        have HC250 := Aside0.mk hC26
                        clear hA26 hC26 hi026 hsz26
                        have p252 : 0 ≤ (6 : Int) := (by omega)
                        have q252 : 6 < (l0.length : Int) := of_decide_eq_true (by first | (with_reducible assumption) | assumption)
                        obtain ⟨ad252, e252, hx252_0⟩ := Kd.at_int HR0.out 6 p252 q252
                        have hw252_0 := hx252_0
                        (try rw [show ((6 : Int)).toNat = 6 from rfl] at hw252_0)
                        (try rw [show 6 * 1 = 6 from rfl] at hw252_0)
                        (try simp only [Nat.reduceMul, Nat.reduceEqDiff, Go.Addr.add, ↓reduceIte] at hw252_0)
                        obtain rfl : ad246 = ad252 := (by injection e252)
                        (try simp only [show (6 : Int).toNat = 6 from rfl, Nat.reduceMul, Nat.reduceEqDiff, Go.Addr.add, ↓reduceIte] at hx252_0)
                        have qi252 : (6 < l0.length) = True := eq_true (by omega)
                        (try rw [show ((6 : Int)).toNat = 6 from rfl] at hx252_0)
                        replace hx252_0 := (HB.out.cell (World.block_lt_of_cell? w _ hx252_0)).trans hx252_0
                        replace p252 := eq_true p252
                        replace q252 := eq_true q252
                        refine start_ (n := 13) (S := fun w' => w'.cell? ⟨ad246.block, ad246.off + 6, none⟩ = some (.int .u8 (rd l0 6))) (ds := []) #[false, false, false, false, false, false, false, false, false, false, false, false, false] (by kernel_rfl) rfl rfl (((HB.out.cell (World.block_lt_of_cell? w _ hw252_0)).trans hw252_0)) (fun hHeld => ?_); refine with_tabW substationref15_Decode.tab12 substationref15_Decode.bits12 (fun HT_ HW_ => ?_)
                        generalize wc.drew = w24 at BK243 HB HR248 HR250 hx252_0 hHeld ⊢
                        refine pure_ (i := 0) (N := some 47) (v := ?_) (a' := ?_) #[true, false, false, false, false, false, false, false, false, false, false, false, false] rfl rfl (any_of HT_.out (by kernel_rfl)) (fun _ _ _ h => h) (Or.inl ⟨by rfl, ?_⟩) ?_ ?_
                        rotate_left
                        · intro w'
                          go_simp
                          with_reducible rfl
                        rotate_left
                        · simp only [Act.put, List.setIfInBounds_toArray, List.set_cons_zero, List.set_cons_succ, i64_w, i32_w]
                          rfl
                        refine pure_ (i := 1) (N := some 48) (v := ?_) (a' := ?_) #[true, true, false, false, false, false, false, false, false, false, false, false, false] rfl rfl (any_of HT_.out (by kernel_rfl)) (fun _ _ _ h => h) (Or.inl ⟨by rfl, ?_⟩) ?_ ?_
                        rotate_left
                        · intro w'
                          go_simp
                          with_reducible rfl
                        rotate_left
                        · simp only [Act.put, List.setIfInBounds_toArray, List.set_cons_zero, List.set_cons_succ, i64_w, i32_w]
                          rfl
                        refine pure_ (i := 3) (N := some 50) (v := ?_) (a' := ?_) #[true, true, false, true, false, false, false, false, false, false, false, false, false] rfl rfl (any_of HT_.out (by kernel_rfl)) (fun _ _ _ h => h) (Or.inl ⟨by rfl, ?_⟩) ?_ ?_
                        rotate_left
                        · intro w'
                          go_simp
                          with_reducible rfl
                        rotate_left
                        · simp only [Act.put, List.setIfInBounds_toArray, List.set_cons_zero, List.set_cons_succ, i64_w, i32_w]
                          rfl
                        refine pure_ (i := 4) (N := some 51) (v := ?_) (a' := ?_) #[true, true, false, true, true, false, false, false, false, false, false, false, false] rfl rfl (any_of HT_.out (by kernel_rfl)) (fun _ _ _ h => h) (Or.inl ⟨by rfl, ?_⟩) ?_ ?_
                        rotate_left
                        · intro w'
                          go_simp
                          with_reducible rfl
                        rotate_left
                        · simp only [Act.put, List.setIfInBounds_toArray, List.set_cons_zero, List.set_cons_succ, i64_w, i32_w]
                          rfl
                        refine pure_ (i := 6) (N := some 53) (v := ?_) (a' := ?_) #[true, true, false, true, true, false, true, false, false, false, false, false, false] rfl rfl (any_of HT_.out (by kernel_rfl)) (fun _ _ _ h => h) (Or.inl ⟨by rfl, ?_⟩) ?_ ?_
                        rotate_left
                        · intro w'
                          go_simp
                          with_reducible rfl
                        rotate_left
                        · simp only [Act.put, List.setIfInBounds_toArray, List.set_cons_zero, List.set_cons_succ, i64_w, i32_w]
                          rfl
                        refine pure_ (i := 7) (N := some 54) (v := ?_) (a' := ?_) #[true, true, false, true, true, false, true, true, false, false, false, false, false] rfl rfl (any_of HT_.out (by kernel_rfl)) (fun _ _ _ h => h) (Or.inl ⟨by rfl, ?_⟩) ?_ ?_
                        rotate_left
                        · intro w'
                          go_simp
                          with_reducible rfl
                        rotate_left
                        · simp only [Act.put, List.setIfInBounds_toArray, List.set_cons_zero, List.set_cons_succ, i64_w, i32_w]
                          rfl
                        refine take_ (i := 8) (N := some 55) (v := ?_) (a' := ?_) #[true, true, false, true, true, false, true, true, true, false, false, false, false] rfl rfl (take_ofW HT_.out HW_.out (by kernel_rfl)) (fun _ _ _ h => h) (Or.inl ⟨by rfl, ?_⟩) hHeld ?_ ?_
                        rotate_left
                        · intro w' s0
                          go_simp
                          with_reducible rfl
                        rotate_left
                        · simp only [Act.put, List.setIfInBounds_toArray, List.set_cons_zero, List.set_cons_succ, i64_w, i32_w]
                          rfl
                        refine pure_ (i := 9) (N := some 56) (v := ?_) (a' := ?_) #[true, true, false, true, true, false, true, true, true, true, false, false, false] rfl rfl (any_of HT_.out (by kernel_rfl)) (fun _ _ _ h => h) (Or.inl ⟨by rfl, ?_⟩) ?_ ?_
                        rotate_left
                        · intro w'
                          go_simp
                          with_reducible rfl
                        rotate_left
                        · simp only [Act.put, List.setIfInBounds_toArray, List.set_cons_zero, List.set_cons_succ, i64_w, i32_w]
                          rfl
                        refine join_ (σ := Nat) 1 #[true, true, true, true, true, true, true, true, true, true, true, true, false] (fun s_ => [(49, .int .i64 t249), (52, .int .i64 t251), (5, .pointer (some ⟨s_, 0, none⟩)), (57, .agg #[.int .i64 t249, .int .i64 t251, .bool ((rd l0 6) == 1), .slice none 0 0, .slice none 0 0])]) (fun s_ w' => (w'.cell? ⟨ad246.block, ad246.off + 6, none⟩ = some (.int .u8 (rd l0 6))) ∧ (w'.heap[gb243]? = some (.cells #[.int .i64 0, .int .i64 0, .bool false, .slice none 0 0, .slice none 0 0] 29 (0, 0))) ∧ (w'.heap[s_]? = some (.cells #[.int .i64 0, .int .i64 0, .bool false, .slice none 0 0, .slice none 0 0] 29 (0, 0))) ∧ (w.heap.size ≤ s_) ∧ (w.heap.size ≤ s_) ∧ (gb243 ≠ s_) ∧ (s_ ≠ gb243) ∧ (Below w.heap.size w w')) ?_ ?_
                        rotate_left
                        · intro hCont
                          refine two_ (i := 2) (j := 11) (Ni := some 49) (Nj := some 5) #[true, true, true, true, true, false, true, true, true, true, false, false, false] #[true, true, false, true, true, false, true, true, true, true, false, true, false] rfl rfl rfl rfl (two_of HT_.out (by kernel_rfl)) (by decide) (by decide) (fun K hK => ?_) (fun K hK => ?_)
                          · skip
                            refine goes_ Try.func35 (by kernel_rfl) rfl #[.slice A25 (l0.drop 2).length (c0 - 2)] (by rfl) rfl rfl (by (try simp only [List.map_toArray, List.map_cons, List.map_nil]); first | done | (rw [show (l0.drop 2).length = (l0.length - 2) from List.length_drop] <;> rfl) | rfl | (simp only [List.length_drop, List.length_take]; rfl)) ?_
                            with_reducible refine (substationref15_two.calls _ _ (l0.drop 2) t249 _ ?side1 ?side2 A21.out).mono ?_
                            (case side1 => repeat (first | exact (Kd.C_below HR248.out HB.out) | (with_reducible refine Kd.C_alloc ?_ _) | (with_reducible refine Kd.C_drewN ?_ _) | (with_reducible refine Kd.C_drew ?_)))
                            (case side2 => exact HC248.out)
                            rintro e w' ⟨rfl, ⟨nd, rfl⟩⟩
                            refine ⟨_, rfl, ?_⟩
                            refine hK.out _ _ (((HB.out.cell (World.block_lt_of_cell? w _ hw252_0)).trans hw252_0)) (fun hHeld => ?_)
                            clear hK K
                            refine norm_ (a' := ?_) ?_ ?_
                            rotate_left
                            · show Act.put _ (some 49) _ = _
                              simp only [Act.put, List.setIfInBounds_toArray, List.set_cons_zero, List.set_cons_succ, i64_w, i32_w]
                              rfl
                            refine two_ (i := 5) (j := 11) (Ni := some 52) (Nj := some 5) #[true, true, true, true, true, true, true, true, true, true, false, false, false] #[true, true, true, true, true, false, true, true, true, true, false, true, false] rfl rfl rfl rfl (two_of HT_.out (by kernel_rfl)) (by decide) (by decide) (fun K hK => ?_) (fun K hK => ?_)
                            · skip
                              refine goes_ Try.func35 (by kernel_rfl) rfl #[.slice A26 (l0.drop 4).length (c0 - 4)] (by rfl) rfl rfl (by (try simp only [List.map_toArray, List.map_cons, List.map_nil]); first | done | (rw [show (l0.drop 4).length = (l0.length - 4) from List.length_drop] <;> rfl) | rfl | (simp only [List.length_drop, List.length_take]; rfl)) ?_
                              with_reducible refine (substationref15_two.calls _ _ (l0.drop 4) t251 _ ?side1 ?side2 A23.out).mono ?_
                              (case side1 => repeat (first | exact (Kd.C_below HR250.out (by repeat (first | (with_reducible first | exact HB.out | apply below_alloc | apply pw_below_drewN | apply below_drew1 | refine below_set ?_ GE243.out) | exact HB.out))) | (with_reducible refine Kd.C_alloc ?_ _) | (with_reducible refine Kd.C_drewN ?_ _) | (with_reducible refine Kd.C_drew ?_)))
                              (case side2 => exact HC250.out)
                              rintro e w' ⟨rfl, ⟨nd, rfl⟩⟩
                              refine ⟨_, rfl, ?_⟩
                              refine hK.out _ _ (((HB.out.cell (World.block_lt_of_cell? w _ hw252_0)).trans hw252_0)) (fun hHeld => ?_)
                              clear hK K
                              refine norm_ (a' := ?_) ?_ ?_
                              rotate_left
                              · show Act.put _ (some 52) _ = _
                                simp only [Act.put, List.setIfInBounds_toArray, List.set_cons_zero, List.set_cons_succ, i64_w, i32_w]
                                rfl
                              refine pure_ (i := 10) (N := some 57) (v := ?_) (a' := ?_) #[true, true, true, true, true, true, true, true, true, true, true, false, false] rfl rfl (any_of HT_.out (by kernel_rfl)) (fun _ _ _ h => h) (Or.inl ⟨by rfl, ?_⟩) ?_ ?_
                              rotate_left
                              · intro w'
                                go_simp
                                with_reducible rfl
                              rotate_left
                              · simp only [Act.put, List.setIfInBounds_toArray, List.set_cons_zero, List.set_cons_succ, i64_w, i32_w]
                                rfl
                              refine one_ (i := 11) (N := some 5) #[true, true, true, true, true, true, true, true, true, true, true, true, false] rfl rfl (one_of HT_.out (by kernel_rfl)) (by decide) (fun K hK => ?_)
                              refine box_step ?hg (N := 5) ?hd (cs := #[.int .i64 0, .int .i64 0, .bool false, .slice none 0 0, .slice none 0 0]) (t := 29) ?hr ?_; (case hd => rfl); (case hg => rfl); (case hr => first | (go_simp; done) | (go_simp; rfl))
                              intro gb253 hg w27 hbox hb
                              have n0_ := Aside0.mk (blk_below (g := gb243) (o := .cells #[.int .i64 0, .int .i64 0, .bool false, .slice none 0 0, .slice none 0 0] 29 (0, 0)) (by (with_reducible repeat (first | refine blk_drewN ?_ _ | refine blk_drew ?_ | refine blk_alloc ?_ _)); exact BK243.out) hb)
                              have n1_ := Aside0.mk (below_step (by repeat (first | (with_reducible first | exact HB.out | apply below_alloc | apply pw_below_drewN | apply below_drew1 | refine below_set ?_ GE243.out) | exact HB.out)) hb)
                              have n2_ := Aside0.mk (hbox)
                              have n3_ := Aside0.mk ((by rw [hg]; exact (below_size (by repeat (first | (with_reducible first | exact HB.out | apply below_alloc | apply pw_below_drewN | apply below_drew1 | refine below_set ?_ GE243.out) | exact HB.out))) : w.heap.size ≤ gb253))
                              have n4_ := Aside0.mk ((by rw [hg]; exact (below_size (by repeat (first | (with_reducible first | exact HB.out | apply below_alloc | apply pw_below_drewN | apply below_drew1 | refine below_set ?_ GE243.out) | exact HB.out))) : w.heap.size ≤ gb253))
                              have n5_ := Aside0.mk ((by rw [hg]; exact Nat.ne_of_lt (blk_lt (g := gb243) (o := .cells #[.int .i64 0, .int .i64 0, .bool false, .slice none 0 0, .slice none 0 0] 29 (0, 0)) (by (with_reducible repeat (first | refine blk_drewN ?_ _ | refine blk_drew ?_ | refine blk_alloc ?_ _)); exact BK243.out)) : gb243 ≠ gb253))
                              have n6_ := Aside0.mk ((by rw [hg]; exact Nat.ne_of_gt (blk_lt (g := gb243) (o := .cells #[.int .i64 0, .int .i64 0, .bool false, .slice none 0 0, .slice none 0 0] 29 (0, 0)) (by (with_reducible repeat (first | refine blk_drewN ?_ _ | refine blk_drew ?_ | refine blk_alloc ?_ _)); exact BK243.out)) : gb253 ≠ gb243))
                              clear BK243
                              clear HB
                              have BK243 := n0_
                              have HB := n1_
                              have BK253 := n2_
                              have GW253 := n3_
                              have GE253 := n4_
                              have NB243_253 := n5_
                              have NB253_243 := n6_
                              clear n0_ n1_ n2_ n3_ n4_ n5_ n6_
                              clear hb hbox hg
                              refine hK.out _ _ (((HB.out.cell (World.block_lt_of_cell? w _ hw252_0)).trans hw252_0)) (fun hHeld => ?_)
                              clear hK K
                              refine norm_ (a' := ?_) ?_ ?_
                              rotate_left
                              · show Act.put _ (some 5) _ = _
                                simp only [Act.put, List.setIfInBounds_toArray, List.set_cons_zero, List.set_cons_succ, i64_w, i32_w]
                                rfl
                              exact norm_ (by simp only [putAll, Act.put, List.setIfInBounds_toArray, List.set_cons_zero, List.set_cons_succ]) (hCont (gb253) _ ⟨hHeld, (by (with_reducible repeat (first | refine blk_drewN ?_ _ | refine blk_drew ?_ | refine blk_alloc ?_ _)); exact BK243.out), (by (with_reducible repeat (first | refine blk_drewN ?_ _ | refine blk_drew ?_ | refine blk_alloc ?_ _)); exact BK253.out), GW253.out, GE253.out, NB243_253.out, NB253_243.out, (by repeat (first | (with_reducible first | exact HB.out | apply below_alloc | apply pw_below_drewN | apply below_drew1 | refine below_set ?_ GE243.out | refine below_set ?_ GE253.out) | exact HB.out))⟩)
                            · skip
                              refine box_step ?hg (N := 5) ?hd (cs := #[.int .i64 0, .int .i64 0, .bool false, .slice none 0 0, .slice none 0 0]) (t := 29) ?hr ?_; (case hd => rfl); (case hg => rfl); (case hr => first | (go_simp; done) | (go_simp; rfl))
                              intro gb253 hg w27 hbox hb
                              have n0_ := Aside0.mk (blk_below (g := gb243) (o := .cells #[.int .i64 0, .int .i64 0, .bool false, .slice none 0 0, .slice none 0 0] 29 (0, 0)) (by (with_reducible repeat (first | refine blk_drewN ?_ _ | refine blk_drew ?_ | refine blk_alloc ?_ _)); exact BK243.out) hb)
                              have n1_ := Aside0.mk (below_step (by repeat (first | (with_reducible first | exact HB.out | apply below_alloc | apply pw_below_drewN | apply below_drew1 | refine below_set ?_ GE243.out) | exact HB.out)) hb)
                              have n2_ := Aside0.mk (hbox)
                              have n3_ := Aside0.mk ((by rw [hg]; exact (below_size (by repeat (first | (with_reducible first | exact HB.out | apply below_alloc | apply pw_below_drewN | apply below_drew1 | refine below_set ?_ GE243.out) | exact HB.out))) : w.heap.size ≤ gb253))
                              have n4_ := Aside0.mk ((by rw [hg]; exact (below_size (by repeat (first | (with_reducible first | exact HB.out | apply below_alloc | apply pw_below_drewN | apply below_drew1 | refine below_set ?_ GE243.out) | exact HB.out))) : w.heap.size ≤ gb253))
                              have n5_ := Aside0.mk ((by rw [hg]; exact Nat.ne_of_lt (blk_lt (g := gb243) (o := .cells #[.int .i64 0, .int .i64 0, .bool false, .slice none 0 0, .slice none 0 0] 29 (0, 0)) (by (with_reducible repeat (first | refine blk_drewN ?_ _ | refine blk_drew ?_ | refine blk_alloc ?_ _)); exact BK243.out)) : gb243 ≠ gb253))
                              have n6_ := Aside0.mk ((by rw [hg]; exact Nat.ne_of_gt (blk_lt (g := gb243) (o := .cells #[.int .i64 0, .int .i64 0, .bool false, .slice none 0 0, .slice none 0 0] 29 (0, 0)) (by (with_reducible repeat (first | refine blk_drewN ?_ _ | refine blk_drew ?_ | refine blk_alloc ?_ _)); exact BK243.out)) : gb253 ≠ gb243))
                              clear BK243
                              clear HB
                              have BK243 := n0_
                              have HB := n1_
                              have BK253 := n2_
                              have GW253 := n3_
                              have GE253 := n4_
                              have NB243_253 := n5_
                              have NB253_243 := n6_
                              clear n0_ n1_ n2_ n3_ n4_ n5_ n6_
                              clear hb hbox hg
                              refine hK.out _ _ (((HB.out.cell (World.block_lt_of_cell? w _ hw252_0)).trans hw252_0)) (fun hHeld => ?_)
                              clear hK K
                              refine norm_ (a' := ?_) ?_ ?_
                              rotate_left
                              · show Act.put _ (some 5) _ = _
                                simp only [Act.put, List.setIfInBounds_toArray, List.set_cons_zero, List.set_cons_succ, i64_w, i32_w]
                                rfl
                              refine one_ (i := 5) (N := some 52) #[true, true, true, true, true, true, true, true, true, true, false, true, false] rfl rfl (one_of HT_.out (by kernel_rfl)) (by decide) (fun K hK => ?_)
                              refine goes_ Try.func35 (by kernel_rfl) rfl #[.slice A26 (l0.drop 4).length (c0 - 4)] (by rfl) rfl rfl (by (try simp only [List.map_toArray, List.map_cons, List.map_nil]); first | done | (rw [show (l0.drop 4).length = (l0.length - 4) from List.length_drop] <;> rfl) | rfl | (simp only [List.length_drop, List.length_take]; rfl)) ?_
                              with_reducible refine (substationref15_two.calls _ _ (l0.drop 4) t251 _ ?side1 ?side2 A23.out).mono ?_
                              (case side1 => repeat (first | exact (Kd.C_below HR250.out HB.out) | (with_reducible refine Kd.C_alloc ?_ _) | (with_reducible refine Kd.C_drewN ?_ _) | (with_reducible refine Kd.C_drew ?_)))
                              (case side2 => exact HC250.out)
                              rintro e w' ⟨rfl, ⟨nd, rfl⟩⟩
                              refine ⟨_, rfl, ?_⟩
                              refine hK.out _ _ (((HB.out.cell (World.block_lt_of_cell? w _ hw252_0)).trans hw252_0)) (fun hHeld => ?_)
                              clear hK K
                              refine norm_ (a' := ?_) ?_ ?_
                              rotate_left
                              · show Act.put _ (some 52) _ = _
                                simp only [Act.put, List.setIfInBounds_toArray, List.set_cons_zero, List.set_cons_succ, i64_w, i32_w]
                                rfl
                              refine pure_ (i := 10) (N := some 57) (v := ?_) (a' := ?_) #[true, true, true, true, true, true, true, true, true, true, true, true, false] rfl rfl (any_of HT_.out (by kernel_rfl)) (fun _ _ _ h => h) (Or.inl ⟨by rfl, ?_⟩) ?_ ?_
                              rotate_left
                              · intro w'
                                go_simp
                                with_reducible rfl
                              rotate_left
                              · simp only [Act.put, List.setIfInBounds_toArray, List.set_cons_zero, List.set_cons_succ, i64_w, i32_w]
                                rfl
                              exact norm_ (by simp only [putAll, Act.put, List.setIfInBounds_toArray, List.set_cons_zero, List.set_cons_succ]) (hCont (gb253) _ ⟨hHeld, (by (with_reducible repeat (first | refine blk_drewN ?_ _ | refine blk_drew ?_ | refine blk_alloc ?_ _)); exact BK243.out), (by (with_reducible repeat (first | refine blk_drewN ?_ _ | refine blk_drew ?_ | refine blk_alloc ?_ _)); exact BK253.out), GW253.out, GE253.out, NB243_253.out, NB253_243.out, (by repeat (first | (with_reducible first | exact HB.out | apply below_alloc | apply pw_below_drewN | apply below_drew1 | refine below_set ?_ GE243.out | refine below_set ?_ GE253.out) | exact HB.out))⟩)
                          · skip
                            refine box_step ?hg (N := 5) ?hd (cs := #[.int .i64 0, .int .i64 0, .bool false, .slice none 0 0, .slice none 0 0]) (t := 29) ?hr ?_; (case hd => rfl); (case hg => rfl); (case hr => first | (go_simp; done) | (go_simp; rfl))
                            intro gb253 hg w27 hbox hb
                            have n0_ := Aside0.mk (blk_below (g := gb243) (o := .cells #[.int .i64 0, .int .i64 0, .bool false, .slice none 0 0, .slice none 0 0] 29 (0, 0)) (by (with_reducible repeat (first | refine blk_drewN ?_ _ | refine blk_drew ?_ | refine blk_alloc ?_ _)); exact BK243.out) hb)
                            have n1_ := Aside0.mk (below_step (by repeat (first | (with_reducible first | exact HB.out | apply below_alloc | apply pw_below_drewN | apply below_drew1 | refine below_set ?_ GE243.out) | exact HB.out)) hb)
                            have n2_ := Aside0.mk (hbox)
                            have n3_ := Aside0.mk ((by rw [hg]; exact (below_size (by repeat (first | (with_reducible first | exact HB.out | apply below_alloc | apply pw_below_drewN | apply below_drew1 | refine below_set ?_ GE243.out) | exact HB.out))) : w.heap.size ≤ gb253))
                            have n4_ := Aside0.mk ((by rw [hg]; exact (below_size (by repeat (first | (with_reducible first | exact HB.out | apply below_alloc | apply pw_below_drewN | apply below_drew1 | refine below_set ?_ GE243.out) | exact HB.out))) : w.heap.size ≤ gb253))
                            have n5_ := Aside0.mk ((by rw [hg]; exact Nat.ne_of_lt (blk_lt (g := gb243) (o := .cells #[.int .i64 0, .int .i64 0, .bool false, .slice none 0 0, .slice none 0 0] 29 (0, 0)) (by (with_reducible repeat (first | refine blk_drewN ?_ _ | refine blk_drew ?_ | refine blk_alloc ?_ _)); exact BK243.out)) : gb243 ≠ gb253))
                            have n6_ := Aside0.mk ((by rw [hg]; exact Nat.ne_of_gt (blk_lt (g := gb243) (o := .cells #[.int .i64 0, .int .i64 0, .bool false, .slice none 0 0, .slice none 0 0] 29 (0, 0)) (by (with_reducible repeat (first | refine blk_drewN ?_ _ | refine blk_drew ?_ | refine blk_alloc ?_ _)); exact BK243.out)) : gb253 ≠ gb243))
                            clear BK243
                            clear HB
                            have BK243 := n0_
                            have HB := n1_
                            have BK253 := n2_
                            have GW253 := n3_
                            have GE253 := n4_
                            have NB243_253 := n5_
                            have NB253_243 := n6_
                            clear n0_ n1_ n2_ n3_ n4_ n5_ n6_
                            clear hb hbox hg
                            refine hK.out _ _ (((HB.out.cell (World.block_lt_of_cell? w _ hw252_0)).trans hw252_0)) (fun hHeld => ?_)
                            clear hK K
                            refine norm_ (a' := ?_) ?_ ?_
                            rotate_left
                            · show Act.put _ (some 5) _ = _
                              simp only [Act.put, List.setIfInBounds_toArray, List.set_cons_zero, List.set_cons_succ, i64_w, i32_w]
                              rfl
                            refine one_ (i := 2) (N := some 49) #[true, true, true, true, true, false, true, true, true, true, false, true, false] rfl rfl (one_of HT_.out (by kernel_rfl)) (by decide) (fun K hK => ?_)
                            refine goes_ Try.func35 (by kernel_rfl) rfl #[.slice A25 (l0.drop 2).length (c0 - 2)] (by rfl) rfl rfl (by (try simp only [List.map_toArray, List.map_cons, List.map_nil]); first | done | (rw [show (l0.drop 2).length = (l0.length - 2) from List.length_drop] <;> rfl) | rfl | (simp only [List.length_drop, List.length_take]; rfl)) ?_
                            with_reducible refine (substationref15_two.calls _ _ (l0.drop 2) t249 _ ?side1 ?side2 A21.out).mono ?_
                            (case side1 => repeat (first | exact (Kd.C_below HR248.out HB.out) | (with_reducible refine Kd.C_alloc ?_ _) | (with_reducible refine Kd.C_drewN ?_ _) | (with_reducible refine Kd.C_drew ?_)))
                            (case side2 => exact HC248.out)
                            rintro e w' ⟨rfl, ⟨nd, rfl⟩⟩
                            refine ⟨_, rfl, ?_⟩
                            refine hK.out _ _ (((HB.out.cell (World.block_lt_of_cell? w _ hw252_0)).trans hw252_0)) (fun hHeld => ?_)
                            clear hK K
                            refine norm_ (a' := ?_) ?_ ?_
                            rotate_left
                            · show Act.put _ (some 49) _ = _
                              simp only [Act.put, List.setIfInBounds_toArray, List.set_cons_zero, List.set_cons_succ, i64_w, i32_w]
                              rfl
                            refine one_ (i := 5) (N := some 52) #[true, true, true, true, true, true, true, true, true, true, false, true, false] rfl rfl (one_of HT_.out (by kernel_rfl)) (by decide) (fun K hK => ?_)
                            refine goes_ Try.func35 (by kernel_rfl) rfl #[.slice A26 (l0.drop 4).length (c0 - 4)] (by rfl) rfl rfl (by (try simp only [List.map_toArray, List.map_cons, List.map_nil]); first | done | (rw [show (l0.drop 4).length = (l0.length - 4) from List.length_drop] <;> rfl) | rfl | (simp only [List.length_drop, List.length_take]; rfl)) ?_
                            with_reducible refine (substationref15_two.calls _ _ (l0.drop 4) t251 _ ?side1 ?side2 A23.out).mono ?_
                            (case side1 => repeat (first | exact (Kd.C_below HR250.out (by repeat (first | (with_reducible first | exact HB.out | apply below_alloc | apply pw_below_drewN | apply below_drew1 | refine below_set ?_ GE243.out | refine below_set ?_ GE253.out) | exact HB.out))) | (with_reducible refine Kd.C_alloc ?_ _) | (with_reducible refine Kd.C_drewN ?_ _) | (with_reducible refine Kd.C_drew ?_)))
                            (case side2 => exact HC250.out)
                            rintro e w' ⟨rfl, ⟨nd, rfl⟩⟩
                            refine ⟨_, rfl, ?_⟩
                            refine hK.out _ _ (((HB.out.cell (World.block_lt_of_cell? w _ hw252_0)).trans hw252_0)) (fun hHeld => ?_)
                            clear hK K
                            refine norm_ (a' := ?_) ?_ ?_
                            rotate_left
                            · show Act.put _ (some 52) _ = _
                              simp only [Act.put, List.setIfInBounds_toArray, List.set_cons_zero, List.set_cons_succ, i64_w, i32_w]
                              rfl
                            refine pure_ (i := 10) (N := some 57) (v := ?_) (a' := ?_) #[true, true, true, true, true, true, true, true, true, true, true, true, false] rfl rfl (any_of HT_.out (by kernel_rfl)) (fun _ _ _ h => h) (Or.inl ⟨by rfl, ?_⟩) ?_ ?_
                            rotate_left
                            · intro w'
                              go_simp
                              with_reducible rfl
                            rotate_left
                            · simp only [Act.put, List.setIfInBounds_toArray, List.set_cons_zero, List.set_cons_succ, i64_w, i32_w]
                              rfl
                            exact norm_ (by simp only [putAll, Act.put, List.setIfInBounds_toArray, List.set_cons_zero, List.set_cons_succ]) (hCont (gb253) _ ⟨hHeld, (by (with_reducible repeat (first | refine blk_drewN ?_ _ | refine blk_drew ?_ | refine blk_alloc ?_ _)); exact BK243.out), (by (with_reducible repeat (first | refine blk_drewN ?_ _ | refine blk_drew ?_ | refine blk_alloc ?_ _)); exact BK253.out), GW253.out, GE253.out, NB243_253.out, NB253_243.out, (by repeat (first | (with_reducible first | exact HB.out | apply below_alloc | apply pw_below_drewN | apply below_drew1 | refine below_set ?_ GE243.out | refine below_set ?_ GE253.out) | exact HB.out))⟩)
                        rintro gb253 w28 ⟨hS_, h0_, h1_, h2_, h3_, h4_, h5_, h6_⟩
                        have n0_ : Aside0 (w28.heap[gb243]? = some (.cells #[.int .i64 0, .int .i64 0, .bool false, .slice none 0 0, .slice none 0 0] 29 (0, 0))) := ⟨h0_⟩
                        have n1_ : Aside0 (w28.heap[gb253]? = some (.cells #[.int .i64 0, .int .i64 0, .bool false, .slice none 0 0, .slice none 0 0] 29 (0, 0))) := ⟨h1_⟩
                        have n2_ : Aside0 (w.heap.size ≤ gb253) := ⟨h2_⟩
                        have n3_ : Aside0 (w.heap.size ≤ gb253) := ⟨h3_⟩
                        have n4_ : Aside0 (gb243 ≠ gb253) := ⟨h4_⟩
                        have n5_ : Aside0 (gb253 ≠ gb243) := ⟨h5_⟩
                        have n6_ : Aside0 (Below w.heap.size w w28) := ⟨h6_⟩
                        clear BK243
                        clear HB
                        clear h0_ h1_ h2_ h3_ h4_ h5_ h6_
                        have BK243 := n0_
                        have BK253 := n1_
                        have GW253 := n2_
                        have GE253 := n3_
                        have NB243_253 := n4_
                        have NB253_243 := n5_
                        have HB := n6_
                        clear n0_ n1_ n2_ n3_ n4_ n5_ n6_
                        have hHeld : w28.cell? ⟨ad246.block, ad246.off + 6, none⟩ = some (.int .u8 (rd l0 6)) := hS_
                        refine norm_ (a' := ?_) ?_ ?_
                        rotate_left
                        · simp only [putAll, Act.put, List.setIfInBounds_toArray, List.set_cons_zero, List.set_cons_succ]
                          rfl
                        refine one_ (i := 12) (N := none) #[true, true, true, true, true, true, true, true, true, true, true, true, true] rfl rfl (one_of HT_.out (by kernel_rfl)) (by decide) (fun K hK => ?_)
                        have hs29 : w28.cell? ⟨gb253, 0, none⟩ = some (.int .i64 0) := (blk_cell BK253.out 0).trans rfl
                        have hfs29 := blk_frozen BK253.out 0
                        have hns29_0 := NB243_253.out
                        have hms29_0 := NB253_243.out
                        have hs30 : w28.cell? ⟨gb253, 1, none⟩ = some (.int .i64 0) := (blk_cell BK253.out 1).trans rfl
                        have hfs30 := blk_frozen BK253.out 1
                        have hns30_0 := NB243_253.out
                        have hms30_0 := NB253_243.out
                        have hs31 : w28.cell? ⟨gb253, 2, none⟩ = some (.bool false) := (blk_cell BK253.out 2).trans rfl
                        have hfs31 := blk_frozen BK253.out 2
                        have hns31_0 := NB243_253.out
                        have hms31_0 := NB253_243.out
                        have hs32 : w28.cell? ⟨gb253, 3, none⟩ = some (.slice none 0 0) := (blk_cell BK253.out 3).trans rfl
                        have hfs32 := blk_frozen BK253.out 3
                        have hns32_0 := NB243_253.out
                        have hms32_0 := NB253_243.out
                        have hs33 : w28.cell? ⟨gb253, 4, none⟩ = some (.slice none 0 0) := (blk_cell BK253.out 4).trans rfl
                        have hfs33 := blk_frozen BK253.out 4
                        have hns33_0 := NB243_253.out
                        have hms33_0 := NB253_243.out
                        refine skip_ (w1 := ?_) (by rfl) rfl ?_ ?_
                        rotate_left
                        · go_simp
                          rfl
                        refine hK.out _ _ (((cell_far (p := ⟨gb253, _, none⟩) (by first | exact Nat.ne_of_lt (Nat.lt_of_lt_of_le (by have := World.block_lt_of_cell? _ _ hw252_0; first | rwa [add_block] at this | exact this) GW253.out) | (rw [add_block]; exact Nat.ne_of_lt (Nat.lt_of_lt_of_le (by have := World.block_lt_of_cell? _ _ hw252_0; first | rwa [add_block] at this | exact this) GW253.out)) | (show (Addr.add _ _).block ≠ _; rw [add_block]; exact Nat.ne_of_lt (Nat.lt_of_lt_of_le (by have := World.block_lt_of_cell? _ _ hw252_0; first | rwa [add_block] at this | exact this) GW253.out)) | (dsimp only; exact Nat.ne_of_lt (Nat.lt_of_lt_of_le (by have := World.block_lt_of_cell? _ _ hw252_0; first | rwa [add_block] at this | exact this) GW253.out))) _).trans (((cell_far (p := ⟨gb253, _, none⟩) (by first | exact Nat.ne_of_lt (Nat.lt_of_lt_of_le (by have := World.block_lt_of_cell? _ _ hw252_0; first | rwa [add_block] at this | exact this) GW253.out) | (rw [add_block]; exact Nat.ne_of_lt (Nat.lt_of_lt_of_le (by have := World.block_lt_of_cell? _ _ hw252_0; first | rwa [add_block] at this | exact this) GW253.out)) | (show (Addr.add _ _).block ≠ _; rw [add_block]; exact Nat.ne_of_lt (Nat.lt_of_lt_of_le (by have := World.block_lt_of_cell? _ _ hw252_0; first | rwa [add_block] at this | exact this) GW253.out)) | (dsimp only; exact Nat.ne_of_lt (Nat.lt_of_lt_of_le (by have := World.block_lt_of_cell? _ _ hw252_0; first | rwa [add_block] at this | exact this) GW253.out))) _).trans (((cell_far (p := ⟨gb253, _, none⟩) (by first | exact Nat.ne_of_lt (Nat.lt_of_lt_of_le (by have := World.block_lt_of_cell? _ _ hw252_0; first | rwa [add_block] at this | exact this) GW253.out) | (rw [add_block]; exact Nat.ne_of_lt (Nat.lt_of_lt_of_le (by have := World.block_lt_of_cell? _ _ hw252_0; first | rwa [add_block] at this | exact this) GW253.out)) | (show (Addr.add _ _).block ≠ _; rw [add_block]; exact Nat.ne_of_lt (Nat.lt_of_lt_of_le (by have := World.block_lt_of_cell? _ _ hw252_0; first | rwa [add_block] at this | exact this) GW253.out)) | (dsimp only; exact Nat.ne_of_lt (Nat.lt_of_lt_of_le (by have := World.block_lt_of_cell? _ _ hw252_0; first | rwa [add_block] at this | exact this) GW253.out))) _).trans (((cell_far (p := ⟨gb253, _, none⟩) (by first | exact Nat.ne_of_lt (Nat.lt_of_lt_of_le (by have := World.block_lt_of_cell? _ _ hw252_0; first | rwa [add_block] at this | exact this) GW253.out) | (rw [add_block]; exact Nat.ne_of_lt (Nat.lt_of_lt_of_le (by have := World.block_lt_of_cell? _ _ hw252_0; first | rwa [add_block] at this | exact this) GW253.out)) | (show (Addr.add _ _).block ≠ _; rw [add_block]; exact Nat.ne_of_lt (Nat.lt_of_lt_of_le (by have := World.block_lt_of_cell? _ _ hw252_0; first | rwa [add_block] at this | exact this) GW253.out)) | (dsimp only; exact Nat.ne_of_lt (Nat.lt_of_lt_of_le (by have := World.block_lt_of_cell? _ _ hw252_0; first | rwa [add_block] at this | exact this) GW253.out))) _).trans (((cell_far (p := ⟨gb253, _, none⟩) (by first | exact Nat.ne_of_lt (Nat.lt_of_lt_of_le (by have := World.block_lt_of_cell? _ _ hw252_0; first | rwa [add_block] at this | exact this) GW253.out) | (rw [add_block]; exact Nat.ne_of_lt (Nat.lt_of_lt_of_le (by have := World.block_lt_of_cell? _ _ hw252_0; first | rwa [add_block] at this | exact this) GW253.out)) | (show (Addr.add _ _).block ≠ _; rw [add_block]; exact Nat.ne_of_lt (Nat.lt_of_lt_of_le (by have := World.block_lt_of_cell? _ _ hw252_0; first | rwa [add_block] at this | exact this) GW253.out)) | (dsimp only; exact Nat.ne_of_lt (Nat.lt_of_lt_of_le (by have := World.block_lt_of_cell? _ _ hw252_0; first | rwa [add_block] at this | exact this) GW253.out))) _).trans (hHeld))))))))))) (fun hHeld => ?_)
                        clear hK K
                        refine done_ (done_of HT_.out (by kernel_rfl)) ?_
                        try go_wp2
                        go_loopg [6] kj4 (fun kq v6 w' => ∃ (x6_2 : Int) (x254003_2 : List Int) (x254004_2 : List Int) (u254003 : Value) (u254004 : Value), v6 = .int .i64 x6_2 ∧ Aside0 (substationref15_Decode.l0 kq l0 (wrap64 (rd l0 7)) x6_2 t249 t251 ((rd l0 6) == 1) x254003_2 x254004_2 = some (r1, r2, r3, r4, r5, r6)) ∧ Aside0 (kq ≤ kj4) ∧ Aside0 (Kd.R (Kd.int .i64) 3 w' w.heap.size (fun k_ => some k_ ≠ (u254004 : Value).ownBlock) u254003 x254003_2) ∧ Aside0 (Kd.R (Kd.int .i64) 3 w' w.heap.size (fun k_ => some k_ ≠ (u254003 : Value).ownBlock) u254004 x254004_2) ∧ Aside0 (w'.heap[gb243]? = some (.cells #[.int .i64 0, .int .i64 0, .bool false, (.slice none 0 0), (.slice none 0 0)] 29 (0, 0))) ∧ Aside0 (w'.heap[gb253]? = some (.cells #[.int .i64 t249, .int .i64 t251, .bool ((rd l0 6) == 1), u254003, u254004] 29 (0, 0))) ∧ Aside0 (Below w.heap.size w w'))
                        case atStart => exact ⟨(0), (([] : List Int)), (([] : List Int)), (.slice none 0 0), (.slice none 0 0), (by first | rfl | (simp; done) | (simp [*]; done)), H', ⟨Nat.le_refl _⟩, ⟨by first | exact Kd.R_nil _ _ _ _ _ | exact Kd.N_nil _ _ _ _ _ | exact Kd.V_nil _ _ _ _ _ | exact Kd.Q_nil _ _ _ _ _ | exact Kd.S_nil _ _ _ _ _⟩, ⟨by first | exact Kd.R_nil _ _ _ _ _ | exact Kd.N_nil _ _ _ _ _ | exact Kd.V_nil _ _ _ _ _ | exact Kd.Q_nil _ _ _ _ _ | exact Kd.S_nil _ _ _ _ _⟩, ⟨by (with_reducible repeat (first | refine blk_drewN ?_ _ | refine blk_drew ?_ | refine blk_alloc ?_ _)); refine blk_far ?_ NB243_253.out _; (with_reducible repeat (first | refine blk_drewN ?_ _ | refine blk_drew ?_ | refine blk_alloc ?_ _)); refine blk_far ?_ NB243_253.out _; (with_reducible repeat (first | refine blk_drewN ?_ _ | refine blk_drew ?_ | refine blk_alloc ?_ _)); refine blk_far ?_ NB243_253.out _; (with_reducible repeat (first | refine blk_drewN ?_ _ | refine blk_drew ?_ | refine blk_alloc ?_ _)); refine blk_far ?_ NB243_253.out _; (with_reducible repeat (first | refine blk_drewN ?_ _ | refine blk_drew ?_ | refine blk_alloc ?_ _)); refine blk_far ?_ NB243_253.out _; (with_reducible repeat (first | refine blk_drewN ?_ _ | refine blk_drew ?_ | refine blk_alloc ?_ _)); exact BK243.out⟩, ⟨by (with_reducible repeat (first | refine blk_drewN ?_ _ | refine blk_drew ?_ | refine blk_alloc ?_ _)); refine blk_put (cs := #[.int .i64 t249, .int .i64 t251, .bool ((rd l0 6) == 1), .slice none 0 0, .slice none 0 0]) ?_ 4 _ rfl; (with_reducible repeat (first | refine blk_drewN ?_ _ | refine blk_drew ?_ | refine blk_alloc ?_ _)); refine blk_put (cs := #[.int .i64 t249, .int .i64 t251, .bool ((rd l0 6) == 1), .slice none 0 0, .slice none 0 0]) ?_ 3 _ rfl; (with_reducible repeat (first | refine blk_drewN ?_ _ | refine blk_drew ?_ | refine blk_alloc ?_ _)); refine blk_put (cs := #[.int .i64 t249, .int .i64 t251, .bool false, .slice none 0 0, .slice none 0 0]) ?_ 2 _ rfl; (with_reducible repeat (first | refine blk_drewN ?_ _ | refine blk_drew ?_ | refine blk_alloc ?_ _)); refine blk_put (cs := #[.int .i64 t249, .int .i64 0, .bool false, .slice none 0 0, .slice none 0 0]) ?_ 1 _ rfl; (with_reducible repeat (first | refine blk_drewN ?_ _ | refine blk_drew ?_ | refine blk_alloc ?_ _)); refine blk_put (cs := #[.int .i64 0, .int .i64 0, .bool false, .slice none 0 0, .slice none 0 0]) ?_ 0 _ rfl; (with_reducible repeat (first | refine blk_drewN ?_ _ | refine blk_drew ?_ | refine blk_alloc ?_ _)); exact BK253.out⟩, ⟨by repeat (first | (with_reducible first | exact HB.out | apply below_alloc | apply pw_below_drewN | apply below_drew1 | refine below_set ?_ GE243.out | refine below_set ?_ GE253.out) | exact HB.out)⟩⟩
                        case round =>
                          clear H'
                          try clear c1
                          try clear c2
                          try clear c2b0
                          try clear c2b1
                          try clear p2
                          try clear q2
                          try clear hx2
                          try clear qi2
                          try clear c3
                          try clear p6
                          try clear c7
                          try clear c7b0
                          try clear c7b1
                          try clear c8
                          try clear c8b0
                          try clear c8b1
                          try clear c9
                          try clear c9b0
                          try clear c9b1
                          try clear c10
                          try clear c12
                          try clear c12b0
                          try clear c12b1
                          try clear c13
                          try clear c13b0
                          try clear c15
                          try clear c15b0
                          try clear c15b1
                          try clear c16
                          try clear c16b0
                          try clear c18
                          try clear c18b0
                          try clear c20
                          try clear c20b0
                          try clear c20b1
                          try clear c22
                          try clear c22b0
                          try clear c22b1
                          try clear p24
                          try clear q24
                          try clear hx24
                          try clear qi24
                          try clear p25
                          try clear q25
                          try clear hx25
                          try clear qi25
                          try clear hcz11_0
                          try clear hcz11_1
                          try clear hcz11_2
                          try clear hcz11_3
                          try clear hcz11_4
                          try clear hcz14_0
                          try clear hcz14_1
                          try clear hcz14_2
                          try clear hcz14_3
                          try clear hcz14_4
                          try clear hcz17_0
                          try clear hcz17_1
                          try clear hcz17_2
                          try clear hcz17_3
                          try clear hcz17_4
                          try clear hcz19_0
                          try clear hcz19_1
                          try clear hcz19_2
                          try clear hcz19_3
                          try clear hcz19_4
                          try clear hcz4_0
                          try clear hcz4_1
                          try clear hcz4_2
                          try clear hcz4_3
                          try clear hcz4_4
                          try clear hfz11_0
                          try clear hfz11_1
                          try clear hfz11_2
                          try clear hfz11_3
                          try clear hfz11_4
                          try clear hfz14_0
                          try clear hfz14_1
                          try clear hfz14_2
                          try clear hfz14_3
                          try clear hfz14_4
                          try clear hfz17_0
                          try clear hfz17_1
                          try clear hfz17_2
                          try clear hfz17_3
                          try clear hfz17_4
                          try clear hfz19_0
                          try clear hfz19_1
                          try clear hfz19_2
                          try clear hfz19_3
                          try clear hfz19_4
                          try clear hfz4_0
                          try clear hfz4_1
                          try clear hfz4_2
                          try clear hfz4_3
                          try clear hfz4_4
                          try clear hx244_0
                          try clear hx245_0
                          try clear hx246_0
                          try clear hx247_0
                          try clear hx252_0
                          try clear p2
                          try clear p244
                          try clear p245
                          try clear p246
                          try clear p247
                          try clear p252
                          try clear q2
                          try clear q244
                          try clear q245
                          try clear q246
                          try clear q247
                          try clear q252
                          obtain ⟨x6_2, x254003_2, x254004_2, u254003, u254004, rfl, HA, HK2, HO_254003, HO_254004, BK243, BK253, HB⟩ := hrel
                          cases gk with
                          | zero => exact absurd HA.out (by simp [substationref15_Decode.l0])
                          | succ k2 =>
                            have H := HA.out
                            clear HA
                            simp only [substationref15_Decode.l0] at H
                            by_cases c34 : x6_2 < (wrap64 (rd l0 7))
                            · rw [if_pos c34] at H
                              have c34b0 : decide (x6_2 < (wrap64 (rd l0 7))) = true := decide_eq_true c34
                              clear c34
                              obtain ⟨ji35, hji35⟩ : ∃ j_ : Int, (wrap64 (8 + (wrap64 (3 * x6_2)))) = j_ := ⟨_, rfl⟩
                              replace H : (if 0 ≤ (ji35) then (if (ji35) ≤ (l0.length : Int) then ((substationref15_two.f (l0.drop ((ji35) : Int).toNat)).bind fun t255 => (if t255 ≥ 32768 then (if x254003_2.length < 17592186044416 then (if 0 ≤ (wrap64 (10 + (wrap64 (3 * x6_2)))) then (if (wrap64 (10 + (wrap64 (3 * x6_2)))) < (l0.length : Int) then (if x254004_2.length < 17592186044416 then (substationref15_Decode.l0 k2 l0 (wrap64 (rd l0 7)) (wrap64 (x6_2 + 1)) t249 t251 ((rd l0 6) == 1) (x254003_2 ++ [wrap64 (t255 - 65536)]) (x254004_2 ++ [wrap64 (rd l0 (wrap64 (10 + (wrap64 (3 * x6_2)))))])) else (none)) else (none)) else (none)) else (none)) else (if x254003_2.length < 17592186044416 then (if 0 ≤ (wrap64 (10 + (wrap64 (3 * x6_2)))) then (if (wrap64 (10 + (wrap64 (3 * x6_2)))) < (l0.length : Int) then (if x254004_2.length < 17592186044416 then (substationref15_Decode.l0 k2 l0 (wrap64 (rd l0 7)) (wrap64 (x6_2 + 1)) t249 t251 ((rd l0 6) == 1) (x254003_2 ++ [t255]) (x254004_2 ++ [wrap64 (rd l0 (wrap64 (10 + (wrap64 (3 * x6_2)))))])) else (none)) else (none)) else (none)) else (none)))) else (none)) else (none)) = some (r1, r2, r3, r4, r5, r6) := by first | (rw [hji35] at H; exact H) | (simp only [hji35] at H ⊢; exact H)
                              have hji35w : (IntKind.i64.wrap (8 + (wrap64 (3 * x6_2)))) = ji35 := (i64_w _).trans hji35
                              by_cases c36 : 0 ≤ (ji35)
                              · rw [if_pos c36] at H
                                have c36b0 := eq_true c36
                                have c36b1 : decide (0 ≤ (ji35)) = true := decide_eq_true c36
                                clear c36
                                by_cases c37 : (ji35) ≤ (l0.length : Int)
                                · rw [if_pos c37] at H
                                  have c37b0 := eq_true c37
                                  have c37b1 : decide ((ji35) ≤ (l0.length : Int)) = true := decide_eq_true c37
                                  clear c37
                                  replace H := Option.bind_eq_some_iff.mp H
                                  obtain ⟨t255, A380, H⟩ := H
                                  replace H : (if t255 ≥ 32768 then (if x254003_2.length < 17592186044416 then (if 0 ≤ (wrap64 (10 + (wrap64 (3 * x6_2)))) then (if (wrap64 (10 + (wrap64 (3 * x6_2)))) < (l0.length : Int) then (if x254004_2.length < 17592186044416 then (substationref15_Decode.l0 k2 l0 (wrap64 (rd l0 7)) (wrap64 (x6_2 + 1)) t249 t251 ((rd l0 6) == 1) (x254003_2 ++ [wrap64 (t255 - 65536)]) (x254004_2 ++ [wrap64 (rd l0 (wrap64 (10 + (wrap64 (3 * x6_2)))))])) else (none)) else (none)) else (none)) else (none)) else (if x254003_2.length < 17592186044416 then (if 0 ≤ (wrap64 (10 + (wrap64 (3 * x6_2)))) then (if (wrap64 (10 + (wrap64 (3 * x6_2)))) < (l0.length : Int) then (if x254004_2.length < 17592186044416 then (substationref15_Decode.l0 k2 l0 (wrap64 (rd l0 7)) (wrap64 (x6_2 + 1)) t249 t251 ((rd l0 6) == 1) (x254003_2 ++ [t255]) (x254004_2 ++ [wrap64 (rd l0 (wrap64 (10 + (wrap64 (3 * x6_2)))))])) else (none)) else (none)) else (none)) else (none))) = some (r1, r2, r3, r4, r5, r6) := H
                                  have A38 := Aside0.mk A380
                                  clear A380
                                  by_cases c39 : t255 ≥ 32768
                                  · rw [if_pos c39] at H
                                    have c39b0 : decide (32768 ≤ t255) = true := decide_eq_true c39
                                    clear c39
                                    by_cases c40 : x254003_2.length < 17592186044416
                                    · rw [if_pos c40] at H
                                      have LMc40 := Aside0.mk c40
                                      clear c40
                                      obtain ⟨y256, hy256⟩ : ∃ y_ : List Int, y_ = (x254003_2 ++ [wrap64 (t255 - 65536)]) := ⟨_, rfl⟩
                                      replace H : (if 0 ≤ (wrap64 (10 + (wrap64 (3 * x6_2)))) then (if (wrap64 (10 + (wrap64 (3 * x6_2)))) < (l0.length : Int) then (if x254004_2.length < 17592186044416 then (substationref15_Decode.l0 k2 l0 (wrap64 (rd l0 7)) (wrap64 (x6_2 + 1)) t249 t251 ((rd l0 6) == 1) y256 (x254004_2 ++ [wrap64 (rd l0 (wrap64 (10 + (wrap64 (3 * x6_2)))))])) else (none)) else (none)) else (none)) = some (r1, r2, r3, r4, r5, r6) := by first | (rw [hy256]; with_reducible exact H) | (have H2_ := (Option.bind_some _ _).symm.trans H; rw [hy256]; with_reducible exact H2_) | (have H2_ := (Option.bind_some _ _).symm.trans H; with_reducible exact H2_) | with_reducible exact H | (rw [hy256]; exact H) | exact H
                                      have Ny256 := Aside0.mk hy256
                                      clear hy256
                                      obtain ⟨ji41, hji41⟩ : ∃ j_ : Int, (wrap64 (10 + (wrap64 (3 * x6_2)))) = j_ := ⟨_, rfl⟩
                                      replace H : (if 0 ≤ (ji41) then (if (ji41) < (l0.length : Int) then (if x254004_2.length < 17592186044416 then (substationref15_Decode.l0 k2 l0 (wrap64 (rd l0 7)) (wrap64 (x6_2 + 1)) t249 t251 ((rd l0 6) == 1) y256 (x254004_2 ++ [wrap64 (rd l0 (ji41))])) else (none)) else (none)) else (none)) = some (r1, r2, r3, r4, r5, r6) := by first | (rw [hji41] at H; exact H) | (simp only [hji41] at H ⊢; exact H)
                                      (try rw [hji41] at A38)
                                      have hji41w : (IntKind.i64.wrap (10 + (wrap64 (3 * x6_2)))) = ji41 := (i64_w _).trans hji41
                                      by_cases c42 : 0 ≤ (ji41)
                                      · rw [if_pos c42] at H
                                        have c42b0 : decide (0 ≤ (ji41)) = true := decide_eq_true c42
                                        clear c42
                                        by_cases c43 : (ji41) < (l0.length : Int)
                                        · rw [if_pos c43] at H
                                          have c43b0 : decide ((ji41) < (l0.length : Int)) = true := decide_eq_true c43
                                          clear c43
                                          by_cases c44 : x254004_2.length < 17592186044416
                                          · rw [if_pos c44] at H
                                            have LMc44 := Aside0.mk c44
                                            clear c44
                                            obtain ⟨y260, hy260⟩ : ∃ y_ : List Int, y_ = (x254004_2 ++ [wrap64 (rd l0 (ji41))]) := ⟨_, rfl⟩
                                            replace H : (substationref15_Decode.l0 k2 l0 (wrap64 (rd l0 7)) (wrap64 (x6_2 + 1)) t249 t251 ((rd l0 6) == 1) y256 y260) = some (r1, r2, r3, r4, r5, r6) := by first | (rw [hy260]; with_reducible exact H) | (have H2_ := (Option.bind_some _ _).symm.trans H; rw [hy260]; with_reducible exact H2_) | (have H2_ := (Option.bind_some _ _).symm.trans H; with_reducible exact H2_) | with_reducible exact H | (rw [hy260]; exact H) | exact H
                                            have Ny260 := Aside0.mk hy260
                                            clear hy260
                                            have H' := Aside0.mk H
                                            clear H
                                            obtain ⟨i045, hi045, _, hsz45, _⟩ := info_parts info5
                                            obtain ⟨A45, hcut45, hA45, hC45⟩ := print_drop_of (P := Try.prog) (Value.int .u8) 0 35 5 .i64 Try.underlying35 hi045 hsz45 (some ad246) c0 l0 (ji35) (of_decide_eq_true (by first | (with_reducible assumption) | assumption)) (of_decide_eq_true (by first | (with_reducible assumption) | assumption)) HC0.out
                                            have HR254 := Aside0.mk (Kd.C_of_reads (h1 := fun _ => rfl) (hA45 _ (Kd.reads_of_C HR0.out)))
                                            have HC254 := Aside0.mk hC45
                                            clear hA45 hC45 hi045 hsz45
                                            try go_wp2_with (first | ((with_reducible refine gate_callee (f := 35) rfl ?_); refine goesL_ (some 68) rfl rfl Try.func35 (by kernel_rfl) rfl #[.slice A45 (l0.drop ((ji35) : Int).toNat).length (c0 - (ji35).toNat)] rfl (by (try simp only [List.map_toArray, List.map_cons, List.map_nil]); first | done | (rw [show (l0.drop ((ji35) : Int).toNat).length = (l0.length - (ji35).toNat) from List.length_drop] <;> rfl) | (simp only [hji35]; rfl) | rfl | (simp only [List.length_drop, List.length_take]; rfl)) ?_; (with_reducible refine (substationref15_two.calls _ _ (l0.drop ((ji35) : Int).toNat) t255 _ ?side1 ?side2 A38.out).mono ?_); (case side1 => repeat (first | exact (Kd.C_below HR254.out HB.out) | (with_reducible refine Kd.C_alloc ?_ _) | (with_reducible refine Kd.C_drewN ?_ _) | (with_reducible refine Kd.C_drew ?_))); (case side2 => exact HC254.out); rintro e w' ⟨rfl, ⟨nd, rfl⟩⟩; refine ⟨_, rfl, ?_⟩; (try (rw [drewN_self wr]; generalize hq_ : World.drewN wr _ = wr; have n0_ : Aside0 (Kd.R (Kd.int .i64) 3 wr w.heap.size (fun k_ => some k_ ≠ (u254004 : Value).ownBlock) u254003 x254003_2) := ⟨by rw [← hq_]; exact (by (with_reducible repeat (first | apply Kd.R_alloc | apply Kd.R_drewN | apply Kd.R_drew)); exact HO_254003.out)⟩; have n1_ : Aside0 (Kd.R (Kd.int .i64) 3 wr w.heap.size (fun k_ => some k_ ≠ (u254003 : Value).ownBlock) u254004 x254004_2) := ⟨by rw [← hq_]; exact (by (with_reducible repeat (first | apply Kd.R_alloc | apply Kd.R_drewN | apply Kd.R_drew)); exact HO_254004.out)⟩; have n2_ : Aside0 (wr.heap[gb243]? = some (.cells #[.int .i64 0, .int .i64 0, .bool false, .slice none 0 0, .slice none 0 0] 29 (0, 0))) := ⟨by rw [← hq_]; exact (by (with_reducible repeat (first | refine blk_drewN ?_ _ | refine blk_drew ?_ | refine blk_alloc ?_ _)); exact BK243.out)⟩; have n3_ : Aside0 (wr.heap[gb253]? = some (.cells #[.int .i64 t249, .int .i64 t251, .bool ((rd l0 6) == 1), u254003, u254004] 29 (0, 0))) := ⟨by rw [← hq_]; exact (by (with_reducible repeat (first | refine blk_drewN ?_ _ | refine blk_drew ?_ | refine blk_alloc ?_ _)); exact BK253.out)⟩; have n4_ : Aside0 (Below w.heap.size w wr) := ⟨by rw [← hq_]; exact (by repeat (first | (with_reducible first | exact HB.out | apply below_alloc | apply pw_below_drewN | apply below_drew1 | refine below_set ?_ GE243.out | refine below_set ?_ GE253.out) | exact HB.out))⟩; clear HO_254003 HO_254004 BK243 BK253 HB hq_; have HO_254003 := n0_; have HO_254004 := n1_; have BK243 := n2_; have BK253 := n3_; have HB := n4_; clear n0_ n1_ n2_ n3_ n4_)); have hnb46 := NB253_243.out; have hnc46 := NB243_253.out; have hcz47_0 : wr.cell? ⟨gb253, 0, none⟩ = some (.int .i64 t249) := (blk_cell BK253.out 0).trans rfl; have hcz47_1 : wr.cell? ⟨gb253, 1, none⟩ = some (.int .i64 t251) := (blk_cell BK253.out 1).trans rfl; have hcz47_2 : wr.cell? ⟨gb253, 2, none⟩ = some (.bool ((rd l0 6) == 1)) := (blk_cell BK253.out 2).trans rfl; have hcz47_3 : wr.cell? ⟨gb253, 3, none⟩ = some (u254003) := (blk_cell BK253.out 3).trans rfl; have hcz47_4 : wr.cell? ⟨gb253, 4, none⟩ = some (u254004) := (blk_cell BK253.out 4).trans rfl; have hfz47_0 := blk_frozen BK253.out 0; have hfz47_1 := blk_frozen BK253.out 1; have hfz47_2 := blk_frozen BK253.out 2; have hfz47_3 := blk_frozen BK253.out 3; have hfz47_4 := blk_frozen BK253.out 4) | ((with_reducible refine gate_builtin (b := .append) (xs := #[.tmp 74, .tmp 76]) rfl ?_); at_builtin; refine Kd.R_append (Kd.int .i64) (w0 := w) w.heap.size rfl (.tmp 74) (.tmp 76) 22 3 (.int .i64 0) 8 rfl Try.underlying22 info3 rfl (by decide) (by omega) u254003 x254003_2 (wrap64 (t255 - 65536)) [.int .i64 (wrap64 (t255 - 65536))] (fun k_ => some k_ ≠ (u254004 : Value).ownBlock) (fun _ => False) rfl rfl ?aP (fun _ hk => hk.elim) ?aF ?aO ?aB ?aS ?aL ?_; (case aP => exact rfl); (case aB => exact (by repeat (first | (with_reducible first | exact HB.out | apply below_alloc | apply pw_below_drewN | apply below_drew1 | refine below_set ?_ GE243.out | refine below_set ?_ GE253.out) | exact HB.out))); (case aF => exact (fun k_ hk => Kd.fresh' (Kd.R_lt (by (with_reducible repeat (first | apply Kd.R_alloc | apply Kd.R_drewN | apply Kd.R_drew)); exact HO_254004.out)) k_ hk)); (case aO => exact (by (with_reducible repeat (first | apply Kd.R_alloc | apply Kd.R_drewN | apply Kd.R_drew)); exact HO_254003.out)); (case aS => exact (below_size (by repeat (first | (with_reducible first | exact HB.out | apply below_alloc | apply pw_below_drewN | apply below_drew1 | refine below_set ?_ GE243.out | refine below_set ?_ GE253.out) | exact HB.out)))); (case aL => have := LMc40.out; omega); intro v257 w48 ho hb hg hat; rw [← Ny256.out] at ho; have n0_ := Aside0.mk (Kd.R_after (ok := (fun _ => True)) (by (with_reducible repeat (first | apply Kd.R_alloc | apply Kd.R_drewN | apply Kd.R_drew)); exact Kd.R_mono HO_254004.out (fun _ hk => ⟨trivial, hk⟩)) hg hat); have n1_ := Aside0.mk (blk_grown (g := gb243) (o := .cells #[.int .i64 0, .int .i64 0, .bool false, .slice none 0 0, .slice none 0 0] 29 (0, 0)) (by (with_reducible repeat (first | refine blk_drewN ?_ _ | refine blk_drew ?_ | refine blk_alloc ?_ _)); exact BK243.out) hg (Kd.R_ne HO_254003.out BK243.out (by decide))); have n2_ := Aside0.mk (blk_grown (g := gb253) (o := .cells #[.int .i64 t249, .int .i64 t251, .bool ((rd l0 6) == 1), u254003, u254004] 29 (0, 0)) (by (with_reducible repeat (first | refine blk_drewN ?_ _ | refine blk_drew ?_ | refine blk_alloc ?_ _)); exact BK253.out) hg (Kd.R_ne HO_254003.out BK253.out (by decide))); have n3_ := Aside0.mk (hb); have n4_ := Aside0.mk (ho); clear HO_254004; clear BK243; clear BK253; clear HB; clear HO_254003; have HO_254004 := n0_; have BK243 := n1_; have BK253 := n2_; have HB := n3_; have HO258 := n4_; clear n0_ n1_ n2_ n3_ n4_; clear ho hb hg hat; obtain ⟨Ao49, co49, eo49⟩ := Kd.R_slice HO258.out; subst eo49; have hcz50_0 : w48.cell? ⟨gb253, 0, none⟩ = some (.int .i64 t249) := (blk_cell BK253.out 0).trans rfl; have hcz50_1 : w48.cell? ⟨gb253, 1, none⟩ = some (.int .i64 t251) := (blk_cell BK253.out 1).trans rfl; have hcz50_2 : w48.cell? ⟨gb253, 2, none⟩ = some (.bool ((rd l0 6) == 1)) := (blk_cell BK253.out 2).trans rfl; have hcz50_3 : w48.cell? ⟨gb253, 3, none⟩ = some (u254003) := (blk_cell BK253.out 3).trans rfl; have hcz50_4 : w48.cell? ⟨gb253, 4, none⟩ = some (u254004) := (blk_cell BK253.out 4).trans rfl; have hfz50_0 := blk_frozen BK253.out 0; have hfz50_1 := blk_frozen BK253.out 1; have hfz50_2 := blk_frozen BK253.out 2; have hfz50_3 := blk_frozen BK253.out 3; have hfz50_4 := blk_frozen BK253.out 4))
                                            have n0_ : Aside0 (Kd.R (Kd.int .i64) 3 (w48.setCell ⟨gb253, 3, none⟩ (.slice Ao49 y256.length co49)) w.heap.size (fun k_ => some k_ ≠ (.slice Ao49 y256.length co49 : Value).ownBlock) u254004 x254004_2) := ⟨by (with_reducible repeat (first | apply Kd.R_alloc | apply Kd.R_drewN | apply Kd.R_drew)); exact Kd.R_mono (Kd.R_far (p := ⟨gb253, 3, none⟩) (Kd.R_types HO_254004.out BK253.out (by decide)) (fun _ hk => hk.2) (.slice Ao49 y256.length co49)) (fun _ hk => hk.1.2)⟩
                                            have n1_ : Aside0 (Kd.R (Kd.int .i64) 3 (w48.setCell ⟨gb253, 3, none⟩ (.slice Ao49 y256.length co49)) w.heap.size (fun k_ => some k_ ≠ (u254004 : Value).ownBlock) (.slice Ao49 y256.length co49) y256) := ⟨by (with_reducible repeat (first | apply Kd.R_alloc | apply Kd.R_drewN | apply Kd.R_drew)); exact Kd.R_mono (Kd.R_far (p := ⟨gb253, 3, none⟩) (Kd.R_types HO258.out BK253.out (by decide)) (fun _ hk => hk.2) (.slice Ao49 y256.length co49)) (fun _ hk => hk.1)⟩
                                            have n2_ : Aside0 ((w48.setCell ⟨gb253, 3, none⟩ (.slice Ao49 y256.length co49)).heap[gb243]? = some (.cells #[.int .i64 0, .int .i64 0, .bool false, .slice none 0 0, .slice none 0 0] 29 (0, 0))) := ⟨by (with_reducible repeat (first | refine blk_drewN ?_ _ | refine blk_drew ?_ | refine blk_alloc ?_ _)); refine blk_far ?_ NB243_253.out _; (with_reducible repeat (first | refine blk_drewN ?_ _ | refine blk_drew ?_ | refine blk_alloc ?_ _)); exact BK243.out⟩
                                            have n3_ : Aside0 ((w48.setCell ⟨gb253, 3, none⟩ (.slice Ao49 y256.length co49)).heap[gb253]? = some (.cells #[.int .i64 t249, .int .i64 t251, .bool ((rd l0 6) == 1), .slice Ao49 y256.length co49, u254004] 29 (0, 0))) := ⟨by (with_reducible repeat (first | refine blk_drewN ?_ _ | refine blk_drew ?_ | refine blk_alloc ?_ _)); refine blk_put (cs := #[.int .i64 t249, .int .i64 t251, .bool ((rd l0 6) == 1), u254003, u254004]) ?_ 3 _ rfl; (with_reducible repeat (first | refine blk_drewN ?_ _ | refine blk_drew ?_ | refine blk_alloc ?_ _)); exact BK253.out⟩
                                            have n4_ : Aside0 (Below w.heap.size w (w48.setCell ⟨gb253, 3, none⟩ (.slice Ao49 y256.length co49))) := ⟨by repeat (first | (with_reducible first | exact HB.out | apply below_alloc | apply pw_below_drewN | apply below_drew1 | refine below_set ?_ GE243.out | refine below_set ?_ GE253.out) | exact HB.out)⟩
                                            (try clear HO_254004)
                                            (try clear HO258)
                                            (try clear BK243)
                                            (try clear BK253)
                                            (try clear HB)
                                            generalize (w48.setCell ⟨gb253, 3, none⟩ (.slice Ao49 y256.length co49)) = w51 at n0_ n1_ n2_ n3_ n4_ ⊢
                                            have HO_254004 := n0_
                                            have HO258 := n1_
                                            have BK243 := n2_
                                            have BK253 := n3_
                                            have HB := n4_
                                            clear n0_ n1_ n2_ n3_ n4_
                                            have n0_ := Aside0.mk (Kd.R_drew HO_254004.out)
                                            have n1_ := Aside0.mk (Kd.R_drew HO258.out)
                                            have n2_ := Aside0.mk (blk_drew BK243.out)
                                            have n3_ := Aside0.mk (blk_drew BK253.out)
                                            have n4_ := Aside0.mk (below_drew1 HB.out)
                                            clear HO_254004
                                            clear HO258
                                            clear BK243
                                            clear BK253
                                            clear HB
                                            have HO_254004 := n0_
                                            have HO258 := n1_
                                            have BK243 := n2_
                                            have BK253 := n3_
                                            have HB := n4_
                                            clear n0_ n1_ n2_ n3_ n4_
                                            have p259 : 0 ≤ ((ji41) : Int) := of_decide_eq_true (by first | (with_reducible assumption) | assumption)
                                            have q259 : (ji41) < (l0.length : Int) := of_decide_eq_true (by first | (with_reducible assumption) | assumption)
                                            obtain ⟨ad259, e259, hx259_0⟩ := Kd.at_int HR0.out (ji41) p259 q259
                                            have hw259_0 := hx259_0
                                            obtain rfl : ad246 = ad259 := (by injection e259)
                                            replace hx259_0 := (HB.out.cell (World.block_lt_of_cell? w _ hx259_0)).trans hx259_0
                                            replace p259 := eq_true p259
                                            replace q259 := eq_true q259
                                            refine start_ (n := 13) (S := fun w' => w'.cell? ⟨gb253, 0, none⟩ = some (.int .i64 t249) ∧ w'.cell? ⟨gb253, 1, none⟩ = some (.int .i64 t251) ∧ w'.cell? ⟨gb253, 2, none⟩ = some (.bool ((rd l0 6) == 1)) ∧ w'.cell? ⟨gb253, 3, none⟩ = some (.slice Ao49 y256.length co49) ∧ w'.cell? ⟨gb253, 4, none⟩ = some (u254004) ∧ w'.cell? (ad246.add ((ji41)).toNat) = some (.int .u8 (rd l0 (ji41)))) (ds := [12]) #[false, false, false, false, false, false, false, false, false, false, false, false, false] (by kernel_rfl) rfl rfl ⟨(blk_cell BK253.out 0).trans rfl, (blk_cell BK253.out 1).trans rfl, (blk_cell BK253.out 2).trans rfl, (blk_cell BK253.out 3).trans rfl, (blk_cell BK253.out 4).trans rfl, ((HB.out.cell (World.block_lt_of_cell? w _ hw259_0)).trans hw259_0)⟩ (fun hHeld => ?_); refine with_tabW substationref15_Decode.tab20 substationref15_Decode.bits20 (fun HT_ HW_ => ?_)
                                            generalize w51.drew = w52 at HO_254004 HO258 BK243 BK253 HB hx259_0 hHeld ⊢
                                            refine pure_ (i := 0) (N := some 79) (v := ?_) (a' := ?_) #[true, false, false, false, false, false, false, false, false, false, false, false, false] rfl rfl (any_of HT_.out (by kernel_rfl)) (fun _ _ _ h => h) (Or.inl ⟨by rfl, ?_⟩) ?_ ?_
                                            rotate_left
                                            · intro w'
                                              go_simp
                                              with_reducible rfl
                                            rotate_left
                                            · simp only [Act.put, List.setIfInBounds_toArray, List.set_cons_zero, List.set_cons_succ, i64_w, i32_w]
                                              rfl
                                            refine pure_ (i := 2) (N := some 81) (v := ?_) (a' := ?_) #[true, false, true, false, false, false, false, false, false, false, false, false, false] rfl rfl (any_of HT_.out (by kernel_rfl)) (fun _ _ _ h => h) (Or.inl ⟨by rfl, ?_⟩) ?_ ?_
                                            rotate_left
                                            · intro w'
                                              go_simp
                                              with_reducible rfl
                                            rotate_left
                                            · simp only [Act.put, List.setIfInBounds_toArray, List.set_cons_zero, List.set_cons_succ, i64_w, i32_w]
                                              rfl
                                            refine pure_ (i := 3) (N := some 82) (v := ?_) (a' := ?_) #[true, false, true, true, false, false, false, false, false, false, false, false, false] rfl rfl (any_of HT_.out (by kernel_rfl)) (fun _ _ _ h => h) (Or.inl ⟨by rfl, ?_⟩) ?_ ?_
                                            rotate_left
                                            · intro w'
                                              go_simp
                                              with_reducible rfl
                                            rotate_left
                                            · simp only [Act.put, List.setIfInBounds_toArray, List.set_cons_zero, List.set_cons_succ, i64_w, i32_w]
                                              rfl
                                            refine pure_ (i := 4) (N := some 83) (v := ?_) (a' := ?_) #[true, false, true, true, true, false, false, false, false, false, false, false, false] rfl rfl (any_of HT_.out (by kernel_rfl)) (fun _ _ _ h => h) (Or.inl ⟨by rfl, ?_⟩) ?_ ?_
                                            rotate_left
                                            · intro w'
                                              go_simp
                                              with_reducible rfl
                                            rotate_left
                                            · simp only [Act.put, List.setIfInBounds_toArray, List.set_cons_zero, List.set_cons_succ, i64_w, i32_w]
                                              rfl
                                            refine pure_ (i := 5) (N := some 84) (v := ?_) (a' := ?_) #[true, false, true, true, true, true, false, false, false, false, false, false, false] rfl rfl (any_of HT_.out (by kernel_rfl)) (fun _ _ _ h => h) (Or.inl ⟨by rfl, ?_⟩) ?_ ?_
                                            rotate_left
                                            · intro w'
                                              go_simp
                                              with_reducible rfl
                                            rotate_left
                                            · simp only [Act.put, List.setIfInBounds_toArray, List.set_cons_zero, List.set_cons_succ, i64_w, i32_w]
                                              rfl
                                            refine pure_ (i := 6) (N := some 85) (v := ?_) (a' := ?_) #[true, false, true, true, true, true, true, false, false, false, false, false, false] rfl rfl (any_of HT_.out (by kernel_rfl)) (fun _ _ _ h => h) (Or.inl ⟨by rfl, ?_⟩) ?_ ?_
                                            rotate_left
                                            · intro w'
                                              go_simp
                                              with_reducible rfl
                                            rotate_left
                                            · simp only [Act.put, List.setIfInBounds_toArray, List.set_cons_zero, List.set_cons_succ, i64_w, i32_w]
                                              rfl
                                            refine take_ (i := 1) (N := some 80) (v := ?_) (a' := ?_) #[true, true, true, true, true, true, true, false, false, false, false, false, false] rfl rfl (take_ofW HT_.out HW_.out (by kernel_rfl)) (fun _ _ _ h => h) (Or.inl ⟨by rfl, ?_⟩) hHeld ?_ ?_
                                            rotate_left
                                            · rintro w' ⟨s0, s1, s2, s3, s4, s5⟩
                                              go_simp
                                              with_reducible rfl
                                            rotate_left
                                            · simp only [Act.put, List.setIfInBounds_toArray, List.set_cons_zero, List.set_cons_succ, i64_w, i32_w]
                                              rfl
                                            refine take_ (i := 7) (N := some 86) (v := ?_) (a' := ?_) #[true, true, true, true, true, true, true, true, false, false, false, false, false] rfl rfl (take_ofW HT_.out HW_.out (by kernel_rfl)) (fun _ _ _ h => h) (Or.inl ⟨by rfl, ?_⟩) hHeld ?_ ?_
                                            rotate_left
                                            · rintro w' ⟨s0, s1, s2, s3, s4, s5⟩
                                              go_simp
                                              with_reducible rfl
                                            rotate_left
                                            · simp only [Act.put, List.setIfInBounds_toArray, List.set_cons_zero, List.set_cons_succ, i64_w, i32_w]
                                              rfl
                                            refine pure_ (i := 8) (N := some 87) (v := ?_) (a' := ?_) #[true, true, true, true, true, true, true, true, true, false, false, false, false] rfl rfl (any_of HT_.out (by kernel_rfl)) (fun _ _ _ h => h) (Or.inl ⟨by rfl, ?_⟩) ?_ ?_
                                            rotate_left
                                            · intro w'
                                              go_simp
                                              with_reducible rfl
                                            rotate_left
                                            · simp only [Act.put, List.setIfInBounds_toArray, List.set_cons_zero, List.set_cons_succ, i64_w, i32_w]
                                              rfl
                                            refine one_ (i := 9) (N := some 88) #[true, true, true, true, true, true, true, true, true, true, false, false, false] rfl rfl (one_of HT_.out (by kernel_rfl)) (by decide) (fun K hK => ?_)
                                            refine value_ (w1 := ?_) (v := ?_) (by rfl) rfl ?_ ?_
                                            rotate_left 2
                                            · go_simp
                                              constructor
                                              · rfl
                                              · rfl
                                            refine hK.out _ _ ⟨(blk_cell (blk_alloc BK253.out _) 0).trans rfl, (blk_cell (blk_alloc BK253.out _) 1).trans rfl, (blk_cell (blk_alloc BK253.out _) 2).trans rfl, (blk_cell (blk_alloc BK253.out _) 3).trans rfl, (blk_cell (blk_alloc BK253.out _) 4).trans rfl, (World.cell?_alloc_lt _ _ _ (World.block_lt_of_cell? _ _ (((HB.out.cell (World.block_lt_of_cell? w _ hw259_0)).trans hw259_0)))).trans (((HB.out.cell (World.block_lt_of_cell? w _ hw259_0)).trans hw259_0))⟩ (fun hHeld => ?_)
                                            clear hK K
                                            refine norm_ (a' := ?_) ?_ ?_
                                            rotate_left
                                            · show Act.put _ (some 88) _ = _
                                              simp only [Act.put, List.setIfInBounds_toArray, List.set_cons_zero, List.set_cons_succ, i64_w, i32_w]
                                              rfl
                                            refine one_ (i := 10) (N := some 89) #[true, true, true, true, true, true, true, true, true, true, true, false, false] rfl rfl (one_of HT_.out (by kernel_rfl)) (by decide) (fun K hK => ?_)
                                            refine Kd.R_append_step (Kd.int .i64) (w0 := w) w.heap.size (by rfl) (.tmp 80) (.tmp 88) 22 3 (.int .i64 0) 8 rfl Try.underlying22 info3 rfl (by decide) (by omega) u254004 x254004_2 (wrap64 (rd l0 (ji41))) [.int .i64 (wrap64 (rd l0 (ji41)))] (fun k_ => some k_ ≠ (.slice Ao49 y256.length co49 : Value).ownBlock) (fun _ => False) rfl rfl ?aP (fun _ hk => hk.elim) ?aF ?aO ?aB ?aS ?aL ?_
                                            (case aP => exact rfl)
                                            (case aB => exact (by repeat (first | (with_reducible first | exact HB.out | apply below_alloc | apply pw_below_drewN | apply below_drew1 | refine below_set ?_ GE243.out | refine below_set ?_ GE253.out) | exact HB.out)))
                                            (case aF => exact (fun k_ hk => Kd.fresh' (Kd.R_lt (by (with_reducible repeat (first | apply Kd.R_alloc | apply Kd.R_drewN | apply Kd.R_drew)); exact HO258.out)) k_ hk))
                                            (case aO => exact (by (with_reducible repeat (first | apply Kd.R_alloc | apply Kd.R_drewN | apply Kd.R_drew)); exact HO_254004.out))
                                            (case aS => exact (below_size (by repeat (first | (with_reducible first | exact HB.out | apply below_alloc | apply pw_below_drewN | apply below_drew1 | refine below_set ?_ GE243.out | refine below_set ?_ GE253.out) | exact HB.out))))
                                            (case aL => have := LMc44.out; omega)
                                            intro v261 w53 ho hb hg hat
                                            rw [← Ny260.out] at ho
                                            have n0_ := Aside0.mk (blk_grown (g := gb243) (o := .cells #[.int .i64 0, .int .i64 0, .bool false, .slice none 0 0, .slice none 0 0] 29 (0, 0)) (by (with_reducible repeat (first | refine blk_drewN ?_ _ | refine blk_drew ?_ | refine blk_alloc ?_ _)); exact BK243.out) hg (Kd.R_ne HO_254004.out BK243.out (by decide)))
                                            have n1_ := Aside0.mk (blk_grown (g := gb253) (o := .cells #[.int .i64 t249, .int .i64 t251, .bool ((rd l0 6) == 1), .slice Ao49 y256.length co49, u254004] 29 (0, 0)) (by (with_reducible repeat (first | refine blk_drewN ?_ _ | refine blk_drew ?_ | refine blk_alloc ?_ _)); exact BK253.out) hg (Kd.R_ne HO_254004.out BK253.out (by decide)))
                                            have n2_ := Aside0.mk (Kd.R_after (ok := (fun _ => True)) (by (with_reducible repeat (first | apply Kd.R_alloc | apply Kd.R_drewN | apply Kd.R_drew)); exact Kd.R_mono HO258.out (fun _ hk => ⟨trivial, hk⟩)) hg hat)
                                            have n3_ := Aside0.mk (hb)
                                            have n4_ := Aside0.mk (ho)
                                            clear BK243
                                            clear BK253
                                            clear HO258
                                            clear HB
                                            clear HO_254004
                                            have BK243 := n0_
                                            have BK253 := n1_
                                            have HO258 := n2_
                                            have HB := n3_
                                            have HO262 := n4_
                                            clear n0_ n1_ n2_ n3_ n4_
                                            clear ho hb hg hat
                                            obtain ⟨Ao54, co54, eo54⟩ := Kd.R_slice HO262.out
                                            (first | subst eo54 | (injection eo54 with f1_ f2_ f3_; have f4_ := f1_.symm; have f5_ := f3_.symm; clear f1_ f2_ f3_; subst f4_; subst f5_))
                                            refine hK.out _ _ ⟨(blk_cell BK253.out 0).trans rfl, (blk_cell BK253.out 1).trans rfl, (blk_cell BK253.out 2).trans rfl, (blk_cell BK253.out 3).trans rfl, (blk_cell BK253.out 4).trans rfl, ((HB.out.cell (World.block_lt_of_cell? w _ hw259_0)).trans hw259_0)⟩ (fun hHeld => ?_)
                                            clear hK K
                                            refine norm_ (a' := ?_) ?_ ?_
                                            rotate_left
                                            · show Act.put _ (some 89) _ = _
                                              simp only [Act.put, List.setIfInBounds_toArray, List.set_cons_zero, List.set_cons_succ, i64_w, i32_w]
                                              rfl
                                            refine pure_ (i := 11) (N := some 90) (v := ?_) (a' := ?_) #[true, true, true, true, true, true, true, true, true, true, true, true, false] rfl rfl (any_of HT_.out (by kernel_rfl)) (fun _ _ _ h => h) (Or.inl ⟨by rfl, ?_⟩) ?_ ?_
                                            rotate_left
                                            · intro w'
                                              go_simp
                                              with_reducible rfl
                                            rotate_left
                                            · simp only [Act.put, List.setIfInBounds_toArray, List.set_cons_zero, List.set_cons_succ, i64_w, i32_w]
                                              rfl
                                            refine last_ (i := 12) (N := none) #[true, true, true, true, true, true, true, true, true, true, true, true, true] rfl rfl (one_of HT_.out (by kernel_rfl)) (by decide) (fun K hK => ?_)
                                            have hs55 : w53.cell? ⟨gb253, 4, none⟩ = some (u254004) := (blk_cell BK253.out 4).trans rfl
                                            have hfs55 := blk_frozen BK253.out 4
                                            have hns55_0 := NB243_253.out
                                            have hms55_0 := NB253_243.out
                                            refine skip_ (w1 := ?_) (by rfl) rfl ?_ ?_
                                            rotate_left
                                            · go_simp
                                              rfl
                                            refine hK.out _ _ ?_
                                            clear hK K
                                            refine done_ (done_of HT_.out (by kernel_rfl)) ?_
                                            try go_wp2
                                            go_roundg k2
                                            case measure => have := HJ4.out; have := HK2.out; omega
                                            case rel => exact ⟨(wrap64 (x6_2 + 1)), (y256), (y260), (.slice Ao49 y256.length co49), (.slice Ao54 y260.length co54), (by first | rfl | (simp; done) | (simp [*]; done)), H', ⟨by have := HJ4.out; have := HK2.out; omega⟩, ⟨by (with_reducible repeat (first | apply Kd.R_alloc | apply Kd.R_drewN | apply Kd.R_drew)); exact Kd.R_mono (Kd.R_far (p := ⟨gb253, 4, none⟩) (Kd.R_types HO258.out BK253.out (by decide)) (fun _ hk => hk.2) (.slice Ao54 y260.length co54)) (fun _ hk => hk.1.2)⟩, ⟨by (with_reducible repeat (first | apply Kd.R_alloc | apply Kd.R_drewN | apply Kd.R_drew)); exact Kd.R_mono (Kd.R_far (p := ⟨gb253, 4, none⟩) (Kd.R_types HO262.out BK253.out (by decide)) (fun _ hk => hk.2) (.slice Ao54 y260.length co54)) (fun _ hk => hk.1)⟩, ⟨by (with_reducible repeat (first | refine blk_drewN ?_ _ | refine blk_drew ?_ | refine blk_alloc ?_ _)); refine blk_far ?_ NB243_253.out _; (with_reducible repeat (first | refine blk_drewN ?_ _ | refine blk_drew ?_ | refine blk_alloc ?_ _)); exact BK243.out⟩, ⟨by (with_reducible repeat (first | refine blk_drewN ?_ _ | refine blk_drew ?_ | refine blk_alloc ?_ _)); refine blk_put (cs := #[.int .i64 t249, .int .i64 t251, .bool ((rd l0 6) == 1), .slice Ao49 y256.length co49, u254004]) ?_ 4 _ rfl; (with_reducible repeat (first | refine blk_drewN ?_ _ | refine blk_drew ?_ | refine blk_alloc ?_ _)); exact BK253.out⟩, ⟨by repeat (first | (with_reducible first | exact HB.out | apply below_alloc | apply pw_below_drewN | apply below_drew1 | refine below_set ?_ GE243.out | refine below_set ?_ GE253.out) | exact HB.out)⟩⟩
                                          · rw [if_neg c44] at H
                                            exact absurd H (by simp)
                                        · rw [if_neg c43] at H
                                          exact absurd H (by simp)
                                      · rw [if_neg c42] at H
                                        exact absurd H (by simp)
                                    · rw [if_neg c40] at H
                                      exact absurd H (by simp)
                                  · rw [if_neg c39] at H
                                    have c39b0 : decide (32768 ≤ t255) = false := decide_eq_false c39
                                    clear c39
                                    by_cases c56 : x254003_2.length < 17592186044416
                                    · rw [if_pos c56] at H
                                      have LMc56 := Aside0.mk c56
                                      clear c56
                                      obtain ⟨y263, hy263⟩ : ∃ y_ : List Int, y_ = (x254003_2 ++ [t255]) := ⟨_, rfl⟩
                                      replace H : (if 0 ≤ (wrap64 (10 + (wrap64 (3 * x6_2)))) then (if (wrap64 (10 + (wrap64 (3 * x6_2)))) < (l0.length : Int) then (if x254004_2.length < 17592186044416 then (substationref15_Decode.l0 k2 l0 (wrap64 (rd l0 7)) (wrap64 (x6_2 + 1)) t249 t251 ((rd l0 6) == 1) y263 (x254004_2 ++ [wrap64 (rd l0 (wrap64 (10 + (wrap64 (3 * x6_2)))))])) else (none)) else (none)) else (none)) = some (r1, r2, r3, r4, r5, r6) := by first | (rw [hy263]; with_reducible exact H) | (have H2_ := (Option.bind_some _ _).symm.trans H; rw [hy263]; with_reducible exact H2_) | (have H2_ := (Option.bind_some _ _).symm.trans H; with_reducible exact H2_) | with_reducible exact H | (rw [hy263]; exact H) | exact H
                                      have Ny263 := Aside0.mk hy263
                                      clear hy263
                                      obtain ⟨ji57, hji57⟩ : ∃ j_ : Int, (wrap64 (10 + (wrap64 (3 * x6_2)))) = j_ := ⟨_, rfl⟩
                                      replace H : (if 0 ≤ (ji57) then (if (ji57) < (l0.length : Int) then (if x254004_2.length < 17592186044416 then (substationref15_Decode.l0 k2 l0 (wrap64 (rd l0 7)) (wrap64 (x6_2 + 1)) t249 t251 ((rd l0 6) == 1) y263 (x254004_2 ++ [wrap64 (rd l0 (ji57))])) else (none)) else (none)) else (none)) = some (r1, r2, r3, r4, r5, r6) := by first | (rw [hji57] at H; exact H) | (simp only [hji57] at H ⊢; exact H)
                                      (try rw [hji57] at A38)
                                      have hji57w : (IntKind.i64.wrap (10 + (wrap64 (3 * x6_2)))) = ji57 := (i64_w _).trans hji57
                                      by_cases c58 : 0 ≤ (ji57)
                                      · rw [if_pos c58] at H
                                        have c58b0 : decide (0 ≤ (ji57)) = true := decide_eq_true c58
                                        clear c58
                                        by_cases c59 : (ji57) < (l0.length : Int)
                                        · rw [if_pos c59] at H
                                          have c59b0 : decide ((ji57) < (l0.length : Int)) = true := decide_eq_true c59
                                          clear c59
                                          by_cases c60 : x254004_2.length < 17592186044416
                                          · rw [if_pos c60] at H
                                            have LMc60 := Aside0.mk c60
                                            clear c60
                                            obtain ⟨y267, hy267⟩ : ∃ y_ : List Int, y_ = (x254004_2 ++ [wrap64 (rd l0 (ji57))]) := ⟨_, rfl⟩
                                            replace H : (substationref15_Decode.l0 k2 l0 (wrap64 (rd l0 7)) (wrap64 (x6_2 + 1)) t249 t251 ((rd l0 6) == 1) y263 y267) = some (r1, r2, r3, r4, r5, r6) := by first | (rw [hy267]; with_reducible exact H) | (have H2_ := (Option.bind_some _ _).symm.trans H; rw [hy267]; with_reducible exact H2_) | (have H2_ := (Option.bind_some _ _).symm.trans H; with_reducible exact H2_) | with_reducible exact H | (rw [hy267]; exact H) | exact H
                                            have Ny267 := Aside0.mk hy267
                                            clear hy267
                                            have H' := Aside0.mk H
                                            clear H
                                            obtain ⟨i061, hi061, _, hsz61, _⟩ := info_parts info5
                                            obtain ⟨A61, hcut61, hA61, hC61⟩ := print_drop_of (P := Try.prog) (Value.int .u8) 0 35 5 .i64 Try.underlying35 hi061 hsz61 (some ad246) c0 l0 (ji35) (of_decide_eq_true (by first | (with_reducible assumption) | assumption)) (of_decide_eq_true (by first | (with_reducible assumption) | assumption)) HC0.out
                                            have HR254 := Aside0.mk (Kd.C_of_reads (h1 := fun _ => rfl) (hA61 _ (Kd.reads_of_C HR0.out)))
                                            have HC254 := Aside0.mk hC61
                                            clear hA61 hC61 hi061 hsz61
                                            try go_wp2_with (first | ((with_reducible refine gate_callee (f := 35) rfl ?_); refine goesL_ (some 68) rfl rfl Try.func35 (by kernel_rfl) rfl #[.slice A61 (l0.drop ((ji35) : Int).toNat).length (c0 - (ji35).toNat)] rfl (by (try simp only [List.map_toArray, List.map_cons, List.map_nil]); first | done | (rw [show (l0.drop ((ji35) : Int).toNat).length = (l0.length - (ji35).toNat) from List.length_drop] <;> rfl) | (simp only [hji35]; rfl) | rfl | (simp only [List.length_drop, List.length_take]; rfl)) ?_; (with_reducible refine (substationref15_two.calls _ _ (l0.drop ((ji35) : Int).toNat) t255 _ ?side1 ?side2 A38.out).mono ?_); (case side1 => repeat (first | exact (Kd.C_below HR254.out HB.out) | (with_reducible refine Kd.C_alloc ?_ _) | (with_reducible refine Kd.C_drewN ?_ _) | (with_reducible refine Kd.C_drew ?_))); (case side2 => exact HC254.out); rintro e w' ⟨rfl, ⟨nd, rfl⟩⟩; refine ⟨_, rfl, ?_⟩; (try (rw [drewN_self wr]; generalize hq_ : World.drewN wr _ = wr; have n0_ : Aside0 (Kd.R (Kd.int .i64) 3 wr w.heap.size (fun k_ => some k_ ≠ (u254004 : Value).ownBlock) u254003 x254003_2) := ⟨by rw [← hq_]; exact (by (with_reducible repeat (first | apply Kd.R_alloc | apply Kd.R_drewN | apply Kd.R_drew)); exact HO_254003.out)⟩; have n1_ : Aside0 (Kd.R (Kd.int .i64) 3 wr w.heap.size (fun k_ => some k_ ≠ (u254003 : Value).ownBlock) u254004 x254004_2) := ⟨by rw [← hq_]; exact (by (with_reducible repeat (first | apply Kd.R_alloc | apply Kd.R_drewN | apply Kd.R_drew)); exact HO_254004.out)⟩; have n2_ : Aside0 (wr.heap[gb243]? = some (.cells #[.int .i64 0, .int .i64 0, .bool false, .slice none 0 0, .slice none 0 0] 29 (0, 0))) := ⟨by rw [← hq_]; exact (by (with_reducible repeat (first | refine blk_drewN ?_ _ | refine blk_drew ?_ | refine blk_alloc ?_ _)); exact BK243.out)⟩; have n3_ : Aside0 (wr.heap[gb253]? = some (.cells #[.int .i64 t249, .int .i64 t251, .bool ((rd l0 6) == 1), u254003, u254004] 29 (0, 0))) := ⟨by rw [← hq_]; exact (by (with_reducible repeat (first | refine blk_drewN ?_ _ | refine blk_drew ?_ | refine blk_alloc ?_ _)); exact BK253.out)⟩; have n4_ : Aside0 (Below w.heap.size w wr) := ⟨by rw [← hq_]; exact (by repeat (first | (with_reducible first | exact HB.out | apply below_alloc | apply pw_below_drewN | apply below_drew1 | refine below_set ?_ GE243.out | refine below_set ?_ GE253.out) | exact HB.out))⟩; clear HO_254003 HO_254004 BK243 BK253 HB hq_; have HO_254003 := n0_; have HO_254004 := n1_; have BK243 := n2_; have BK253 := n3_; have HB := n4_; clear n0_ n1_ n2_ n3_ n4_)); have hnb62 := NB253_243.out; have hnc62 := NB243_253.out; have hcz63_0 : wr.cell? ⟨gb253, 0, none⟩ = some (.int .i64 t249) := (blk_cell BK253.out 0).trans rfl; have hcz63_1 : wr.cell? ⟨gb253, 1, none⟩ = some (.int .i64 t251) := (blk_cell BK253.out 1).trans rfl; have hcz63_2 : wr.cell? ⟨gb253, 2, none⟩ = some (.bool ((rd l0 6) == 1)) := (blk_cell BK253.out 2).trans rfl; have hcz63_3 : wr.cell? ⟨gb253, 3, none⟩ = some (u254003) := (blk_cell BK253.out 3).trans rfl; have hcz63_4 : wr.cell? ⟨gb253, 4, none⟩ = some (u254004) := (blk_cell BK253.out 4).trans rfl; have hfz63_0 := blk_frozen BK253.out 0; have hfz63_1 := blk_frozen BK253.out 1; have hfz63_2 := blk_frozen BK253.out 2; have hfz63_3 := blk_frozen BK253.out 3; have hfz63_4 := blk_frozen BK253.out 4) | ((with_reducible refine gate_builtin (b := .append) (xs := #[.tmp 74, .tmp 76]) rfl ?_); at_builtin; refine Kd.R_append (Kd.int .i64) (w0 := w) w.heap.size rfl (.tmp 74) (.tmp 76) 22 3 (.int .i64 0) 8 rfl Try.underlying22 info3 rfl (by decide) (by omega) u254003 x254003_2 t255 [.int .i64 t255] (fun k_ => some k_ ≠ (u254004 : Value).ownBlock) (fun _ => False) rfl rfl ?aP (fun _ hk => hk.elim) ?aF ?aO ?aB ?aS ?aL ?_; (case aP => exact rfl); (case aB => exact (by repeat (first | (with_reducible first | exact HB.out | apply below_alloc | apply pw_below_drewN | apply below_drew1 | refine below_set ?_ GE243.out | refine below_set ?_ GE253.out) | exact HB.out))); (case aF => exact (fun k_ hk => Kd.fresh' (Kd.R_lt (by (with_reducible repeat (first | apply Kd.R_alloc | apply Kd.R_drewN | apply Kd.R_drew)); exact HO_254004.out)) k_ hk)); (case aO => exact (by (with_reducible repeat (first | apply Kd.R_alloc | apply Kd.R_drewN | apply Kd.R_drew)); exact HO_254003.out)); (case aS => exact (below_size (by repeat (first | (with_reducible first | exact HB.out | apply below_alloc | apply pw_below_drewN | apply below_drew1 | refine below_set ?_ GE243.out | refine below_set ?_ GE253.out) | exact HB.out)))); (case aL => have := LMc56.out; omega); intro v264 w64 ho hb hg hat; rw [← Ny263.out] at ho; have n0_ := Aside0.mk (Kd.R_after (ok := (fun _ => True)) (by (with_reducible repeat (first | apply Kd.R_alloc | apply Kd.R_drewN | apply Kd.R_drew)); exact Kd.R_mono HO_254004.out (fun _ hk => ⟨trivial, hk⟩)) hg hat); have n1_ := Aside0.mk (blk_grown (g := gb243) (o := .cells #[.int .i64 0, .int .i64 0, .bool false, .slice none 0 0, .slice none 0 0] 29 (0, 0)) (by (with_reducible repeat (first | refine blk_drewN ?_ _ | refine blk_drew ?_ | refine blk_alloc ?_ _)); exact BK243.out) hg (Kd.R_ne HO_254003.out BK243.out (by decide))); have n2_ := Aside0.mk (blk_grown (g := gb253) (o := .cells #[.int .i64 t249, .int .i64 t251, .bool ((rd l0 6) == 1), u254003, u254004] 29 (0, 0)) (by (with_reducible repeat (first | refine blk_drewN ?_ _ | refine blk_drew ?_ | refine blk_alloc ?_ _)); exact BK253.out) hg (Kd.R_ne HO_254003.out BK253.out (by decide))); have n3_ := Aside0.mk (hb); have n4_ := Aside0.mk (ho); clear HO_254004; clear BK243; clear BK253; clear HB; clear HO_254003; have HO_254004 := n0_; have BK243 := n1_; have BK253 := n2_; have HB := n3_; have HO265 := n4_; clear n0_ n1_ n2_ n3_ n4_; clear ho hb hg hat; obtain ⟨Ao65, co65, eo65⟩ := Kd.R_slice HO265.out; subst eo65; have hcz66_0 : w64.cell? ⟨gb253, 0, none⟩ = some (.int .i64 t249) := (blk_cell BK253.out 0).trans rfl; have hcz66_1 : w64.cell? ⟨gb253, 1, none⟩ = some (.int .i64 t251) := (blk_cell BK253.out 1).trans rfl; have hcz66_2 : w64.cell? ⟨gb253, 2, none⟩ = some (.bool ((rd l0 6) == 1)) := (blk_cell BK253.out 2).trans rfl; have hcz66_3 : w64.cell? ⟨gb253, 3, none⟩ = some (u254003) := (blk_cell BK253.out 3).trans rfl; have hcz66_4 : w64.cell? ⟨gb253, 4, none⟩ = some (u254004) := (blk_cell BK253.out 4).trans rfl; have hfz66_0 := blk_frozen BK253.out 0; have hfz66_1 := blk_frozen BK253.out 1; have hfz66_2 := blk_frozen BK253.out 2; have hfz66_3 := blk_frozen BK253.out 3; have hfz66_4 := blk_frozen BK253.out 4))
                                            have n0_ : Aside0 (Kd.R (Kd.int .i64) 3 (w64.setCell ⟨gb253, 3, none⟩ (.slice Ao65 y263.length co65)) w.heap.size (fun k_ => some k_ ≠ (.slice Ao65 y263.length co65 : Value).ownBlock) u254004 x254004_2) := ⟨by (with_reducible repeat (first | apply Kd.R_alloc | apply Kd.R_drewN | apply Kd.R_drew)); exact Kd.R_mono (Kd.R_far (p := ⟨gb253, 3, none⟩) (Kd.R_types HO_254004.out BK253.out (by decide)) (fun _ hk => hk.2) (.slice Ao65 y263.length co65)) (fun _ hk => hk.1.2)⟩
                                            have n1_ : Aside0 (Kd.R (Kd.int .i64) 3 (w64.setCell ⟨gb253, 3, none⟩ (.slice Ao65 y263.length co65)) w.heap.size (fun k_ => some k_ ≠ (u254004 : Value).ownBlock) (.slice Ao65 y263.length co65) y263) := ⟨by (with_reducible repeat (first | apply Kd.R_alloc | apply Kd.R_drewN | apply Kd.R_drew)); exact Kd.R_mono (Kd.R_far (p := ⟨gb253, 3, none⟩) (Kd.R_types HO265.out BK253.out (by decide)) (fun _ hk => hk.2) (.slice Ao65 y263.length co65)) (fun _ hk => hk.1)⟩
                                            have n2_ : Aside0 ((w64.setCell ⟨gb253, 3, none⟩ (.slice Ao65 y263.length co65)).heap[gb243]? = some (.cells #[.int .i64 0, .int .i64 0, .bool false, .slice none 0 0, .slice none 0 0] 29 (0, 0))) := ⟨by (with_reducible repeat (first | refine blk_drewN ?_ _ | refine blk_drew ?_ | refine blk_alloc ?_ _)); refine blk_far ?_ NB243_253.out _; (with_reducible repeat (first | refine blk_drewN ?_ _ | refine blk_drew ?_ | refine blk_alloc ?_ _)); exact BK243.out⟩
                                            have n3_ : Aside0 ((w64.setCell ⟨gb253, 3, none⟩ (.slice Ao65 y263.length co65)).heap[gb253]? = some (.cells #[.int .i64 t249, .int .i64 t251, .bool ((rd l0 6) == 1), .slice Ao65 y263.length co65, u254004] 29 (0, 0))) := ⟨by (with_reducible repeat (first | refine blk_drewN ?_ _ | refine blk_drew ?_ | refine blk_alloc ?_ _)); refine blk_put (cs := #[.int .i64 t249, .int .i64 t251, .bool ((rd l0 6) == 1), u254003, u254004]) ?_ 3 _ rfl; (with_reducible repeat (first | refine blk_drewN ?_ _ | refine blk_drew ?_ | refine blk_alloc ?_ _)); exact BK253.out⟩
                                            have n4_ : Aside0 (Below w.heap.size w (w64.setCell ⟨gb253, 3, none⟩ (.slice Ao65 y263.length co65))) := ⟨by repeat (first | (with_reducible first | exact HB.out | apply below_alloc | apply pw_below_drewN | apply below_drew1 | refine below_set ?_ GE243.out | refine below_set ?_ GE253.out) | exact HB.out)⟩
                                            (try clear HO_254004)
                                            (try clear HO265)
                                            (try clear BK243)
                                            (try clear BK253)
                                            (try clear HB)
                                            generalize (w64.setCell ⟨gb253, 3, none⟩ (.slice Ao65 y263.length co65)) = w67 at n0_ n1_ n2_ n3_ n4_ ⊢
                                            have HO_254004 := n0_
                                            have HO265 := n1_
                                            have BK243 := n2_
                                            have BK253 := n3_
                                            have HB := n4_
                                            clear n0_ n1_ n2_ n3_ n4_
                                            have n0_ := Aside0.mk (Kd.R_drew HO_254004.out)
                                            have n1_ := Aside0.mk (Kd.R_drew HO265.out)
                                            have n2_ := Aside0.mk (blk_drew BK243.out)
                                            have n3_ := Aside0.mk (blk_drew BK253.out)
                                            have n4_ := Aside0.mk (below_drew1 HB.out)
                                            clear HO_254004
                                            clear HO265
                                            clear BK243
                                            clear BK253
                                            clear HB
                                            have HO_254004 := n0_
                                            have HO265 := n1_
                                            have BK243 := n2_
                                            have BK253 := n3_
                                            have HB := n4_
                                            clear n0_ n1_ n2_ n3_ n4_
                                            have p266 : 0 ≤ ((ji57) : Int) := of_decide_eq_true (by first | (with_reducible assumption) | assumption)
                                            have q266 : (ji57) < (l0.length : Int) := of_decide_eq_true (by first | (with_reducible assumption) | assumption)
                                            obtain ⟨ad266, e266, hx266_0⟩ := Kd.at_int HR0.out (ji57) p266 q266
                                            have hw266_0 := hx266_0
                                            obtain rfl : ad246 = ad266 := (by injection e266)
                                            replace hx266_0 := (HB.out.cell (World.block_lt_of_cell? w _ hx266_0)).trans hx266_0
                                            replace p266 := eq_true p266
                                            replace q266 := eq_true q266
                                            refine start_ (n := 13) (S := fun w' => w'.cell? ⟨gb253, 0, none⟩ = some (.int .i64 t249) ∧ w'.cell? ⟨gb253, 1, none⟩ = some (.int .i64 t251) ∧ w'.cell? ⟨gb253, 2, none⟩ = some (.bool ((rd l0 6) == 1)) ∧ w'.cell? ⟨gb253, 3, none⟩ = some (.slice Ao65 y263.length co65) ∧ w'.cell? ⟨gb253, 4, none⟩ = some (u254004) ∧ w'.cell? (ad246.add ((ji57)).toNat) = some (.int .u8 (rd l0 (ji57)))) (ds := [12]) #[false, false, false, false, false, false, false, false, false, false, false, false, false] (by kernel_rfl) rfl rfl ⟨(blk_cell BK253.out 0).trans rfl, (blk_cell BK253.out 1).trans rfl, (blk_cell BK253.out 2).trans rfl, (blk_cell BK253.out 3).trans rfl, (blk_cell BK253.out 4).trans rfl, ((HB.out.cell (World.block_lt_of_cell? w _ hw266_0)).trans hw266_0)⟩ (fun hHeld => ?_); refine with_tabW substationref15_Decode.tab20 substationref15_Decode.bits20 (fun HT_ HW_ => ?_)
                                            generalize w67.drew = w68 at HO_254004 HO265 BK243 BK253 HB hx266_0 hHeld ⊢
                                            refine pure_ (i := 0) (N := some 79) (v := ?_) (a' := ?_) #[true, false, false, false, false, false, false, false, false, false, false, false, false] rfl rfl (any_of HT_.out (by kernel_rfl)) (fun _ _ _ h => h) (Or.inl ⟨by rfl, ?_⟩) ?_ ?_
                                            rotate_left
                                            · intro w'
                                              go_simp
                                              with_reducible rfl
                                            rotate_left
                                            · simp only [Act.put, List.setIfInBounds_toArray, List.set_cons_zero, List.set_cons_succ, i64_w, i32_w]
                                              rfl
                                            refine pure_ (i := 2) (N := some 81) (v := ?_) (a' := ?_) #[true, false, true, false, false, false, false, false, false, false, false, false, false] rfl rfl (any_of HT_.out (by kernel_rfl)) (fun _ _ _ h => h) (Or.inl ⟨by rfl, ?_⟩) ?_ ?_
                                            rotate_left
                                            · intro w'
                                              go_simp
                                              with_reducible rfl
                                            rotate_left
                                            · simp only [Act.put, List.setIfInBounds_toArray, List.set_cons_zero, List.set_cons_succ, i64_w, i32_w]
                                              rfl
                                            refine pure_ (i := 3) (N := some 82) (v := ?_) (a' := ?_) #[true, false, true, true, false, false, false, false, false, false, false, false, false] rfl rfl (any_of HT_.out (by kernel_rfl)) (fun _ _ _ h => h) (Or.inl ⟨by rfl, ?_⟩) ?_ ?_
                                            rotate_left
                                            · intro w'
                                              go_simp
                                              with_reducible rfl
                                            rotate_left
                                            · simp only [Act.put, List.setIfInBounds_toArray, List.set_cons_zero, List.set_cons_succ, i64_w, i32_w]
                                              rfl
                                            refine pure_ (i := 4) (N := some 83) (v := ?_) (a' := ?_) #[true, false, true, true, true, false, false, false, false, false, false, false, false] rfl rfl (any_of HT_.out (by kernel_rfl)) (fun _ _ _ h => h) (Or.inl ⟨by rfl, ?_⟩) ?_ ?_
                                            rotate_left
                                            · intro w'
                                              go_simp
                                              with_reducible rfl
                                            rotate_left
                                            · simp only [Act.put, List.setIfInBounds_toArray, List.set_cons_zero, List.set_cons_succ, i64_w, i32_w]
                                              rfl
                                            refine pure_ (i := 5) (N := some 84) (v := ?_) (a' := ?_) #[true, false, true, true, true, true, false, false, false, false, false, false, false] rfl rfl (any_of HT_.out (by kernel_rfl)) (fun _ _ _ h => h) (Or.inl ⟨by rfl, ?_⟩) ?_ ?_
                                            rotate_left
                                            · intro w'
                                              go_simp
                                              with_reducible rfl
                                            rotate_left
                                            · simp only [Act.put, List.setIfInBounds_toArray, List.set_cons_zero, List.set_cons_succ, i64_w, i32_w]
                                              rfl
                                            refine pure_ (i := 6) (N := some 85) (v := ?_) (a' := ?_) #[true, false, true, true, true, true, true, false, false, false, false, false, false] rfl rfl (any_of HT_.out (by kernel_rfl)) (fun _ _ _ h => h) (Or.inl ⟨by rfl, ?_⟩) ?_ ?_
                                            rotate_left
                                            · intro w'
                                              go_simp
                                              with_reducible rfl
                                            rotate_left
                                            · simp only [Act.put, List.setIfInBounds_toArray, List.set_cons_zero, List.set_cons_succ, i64_w, i32_w]
                                              rfl
                                            refine take_ (i := 1) (N := some 80) (v := ?_) (a' := ?_) #[true, true, true, true, true, true, true, false, false, false, false, false, false] rfl rfl (take_ofW HT_.out HW_.out (by kernel_rfl)) (fun _ _ _ h => h) (Or.inl ⟨by rfl, ?_⟩) hHeld ?_ ?_
                                            rotate_left
                                            · rintro w' ⟨s0, s1, s2, s3, s4, s5⟩
                                              go_simp
                                              with_reducible rfl
                                            rotate_left
                                            · simp only [Act.put, List.setIfInBounds_toArray, List.set_cons_zero, List.set_cons_succ, i64_w, i32_w]
                                              rfl
                                            refine take_ (i := 7) (N := some 86) (v := ?_) (a' := ?_) #[true, true, true, true, true, true, true, true, false, false, false, false, false] rfl rfl (take_ofW HT_.out HW_.out (by kernel_rfl)) (fun _ _ _ h => h) (Or.inl ⟨by rfl, ?_⟩) hHeld ?_ ?_
                                            rotate_left
                                            · rintro w' ⟨s0, s1, s2, s3, s4, s5⟩
                                              go_simp
                                              with_reducible rfl
                                            rotate_left
                                            · simp only [Act.put, List.setIfInBounds_toArray, List.set_cons_zero, List.set_cons_succ, i64_w, i32_w]
                                              rfl
                                            refine pure_ (i := 8) (N := some 87) (v := ?_) (a' := ?_) #[true, true, true, true, true, true, true, true, true, false, false, false, false] rfl rfl (any_of HT_.out (by kernel_rfl)) (fun _ _ _ h => h) (Or.inl ⟨by rfl, ?_⟩) ?_ ?_
                                            rotate_left
                                            · intro w'
                                              go_simp
                                              with_reducible rfl
                                            rotate_left
                                            · simp only [Act.put, List.setIfInBounds_toArray, List.set_cons_zero, List.set_cons_succ, i64_w, i32_w]
                                              rfl
                                            refine one_ (i := 9) (N := some 88) #[true, true, true, true, true, true, true, true, true, true, false, false, false] rfl rfl (one_of HT_.out (by kernel_rfl)) (by decide) (fun K hK => ?_)
                                            refine value_ (w1 := ?_) (v := ?_) (by rfl) rfl ?_ ?_
                                            rotate_left 2
                                            · go_simp
                                              constructor
                                              · rfl
                                              · rfl
                                            refine hK.out _ _ ⟨(blk_cell (blk_alloc BK253.out _) 0).trans rfl, (blk_cell (blk_alloc BK253.out _) 1).trans rfl, (blk_cell (blk_alloc BK253.out _) 2).trans rfl, (blk_cell (blk_alloc BK253.out _) 3).trans rfl, (blk_cell (blk_alloc BK253.out _) 4).trans rfl, (World.cell?_alloc_lt _ _ _ (World.block_lt_of_cell? _ _ (((HB.out.cell (World.block_lt_of_cell? w _ hw266_0)).trans hw266_0)))).trans (((HB.out.cell (World.block_lt_of_cell? w _ hw266_0)).trans hw266_0))⟩ (fun hHeld => ?_)
                                            clear hK K
                                            refine norm_ (a' := ?_) ?_ ?_
                                            rotate_left
                                            · show Act.put _ (some 88) _ = _
                                              simp only [Act.put, List.setIfInBounds_toArray, List.set_cons_zero, List.set_cons_succ, i64_w, i32_w]
                                              rfl
                                            refine one_ (i := 10) (N := some 89) #[true, true, true, true, true, true, true, true, true, true, true, false, false] rfl rfl (one_of HT_.out (by kernel_rfl)) (by decide) (fun K hK => ?_)
                                            refine Kd.R_append_step (Kd.int .i64) (w0 := w) w.heap.size (by rfl) (.tmp 80) (.tmp 88) 22 3 (.int .i64 0) 8 rfl Try.underlying22 info3 rfl (by decide) (by omega) u254004 x254004_2 (wrap64 (rd l0 (ji57))) [.int .i64 (wrap64 (rd l0 (ji57)))] (fun k_ => some k_ ≠ (.slice Ao65 y263.length co65 : Value).ownBlock) (fun _ => False) rfl rfl ?aP (fun _ hk => hk.elim) ?aF ?aO ?aB ?aS ?aL ?_
                                            (case aP => exact rfl)
                                            (case aB => exact (by repeat (first | (with_reducible first | exact HB.out | apply below_alloc | apply pw_below_drewN | apply below_drew1 | refine below_set ?_ GE243.out | refine below_set ?_ GE253.out) | exact HB.out)))
                                            (case aF => exact (fun k_ hk => Kd.fresh' (Kd.R_lt (by (with_reducible repeat (first | apply Kd.R_alloc | apply Kd.R_drewN | apply Kd.R_drew)); exact HO265.out)) k_ hk))
                                            (case aO => exact (by (with_reducible repeat (first | apply Kd.R_alloc | apply Kd.R_drewN | apply Kd.R_drew)); exact HO_254004.out))
                                            (case aS => exact (below_size (by repeat (first | (with_reducible first | exact HB.out | apply below_alloc | apply pw_below_drewN | apply below_drew1 | refine below_set ?_ GE243.out | refine below_set ?_ GE253.out) | exact HB.out))))
                                            (case aL => have := LMc60.out; omega)
                                            intro v268 w69 ho hb hg hat
                                            rw [← Ny267.out] at ho
                                            have n0_ := Aside0.mk (blk_grown (g := gb243) (o := .cells #[.int .i64 0, .int .i64 0, .bool false, .slice none 0 0, .slice none 0 0] 29 (0, 0)) (by (with_reducible repeat (first | refine blk_drewN ?_ _ | refine blk_drew ?_ | refine blk_alloc ?_ _)); exact BK243.out) hg (Kd.R_ne HO_254004.out BK243.out (by decide)))
                                            have n1_ := Aside0.mk (blk_grown (g := gb253) (o := .cells #[.int .i64 t249, .int .i64 t251, .bool ((rd l0 6) == 1), .slice Ao65 y263.length co65, u254004] 29 (0, 0)) (by (with_reducible repeat (first | refine blk_drewN ?_ _ | refine blk_drew ?_ | refine blk_alloc ?_ _)); exact BK253.out) hg (Kd.R_ne HO_254004.out BK253.out (by decide)))
                                            have n2_ := Aside0.mk (Kd.R_after (ok := (fun _ => True)) (by (with_reducible repeat (first | apply Kd.R_alloc | apply Kd.R_drewN | apply Kd.R_drew)); exact Kd.R_mono HO265.out (fun _ hk => ⟨trivial, hk⟩)) hg hat)
                                            have n3_ := Aside0.mk (hb)
                                            have n4_ := Aside0.mk (ho)
                                            clear BK243
                                            clear BK253
                                            clear HO265
                                            clear HB
                                            clear HO_254004
                                            have BK243 := n0_
                                            have BK253 := n1_
                                            have HO265 := n2_
                                            have HB := n3_
                                            have HO269 := n4_
                                            clear n0_ n1_ n2_ n3_ n4_
                                            clear ho hb hg hat
                                            obtain ⟨Ao70, co70, eo70⟩ := Kd.R_slice HO269.out
                                            (first | subst eo70 | (injection eo70 with f1_ f2_ f3_; have f4_ := f1_.symm; have f5_ := f3_.symm; clear f1_ f2_ f3_; subst f4_; subst f5_))
                                            refine hK.out _ _ ⟨(blk_cell BK253.out 0).trans rfl, (blk_cell BK253.out 1).trans rfl, (blk_cell BK253.out 2).trans rfl, (blk_cell BK253.out 3).trans rfl, (blk_cell BK253.out 4).trans rfl, ((HB.out.cell (World.block_lt_of_cell? w _ hw266_0)).trans hw266_0)⟩ (fun hHeld => ?_)
                                            clear hK K
                                            refine norm_ (a' := ?_) ?_ ?_
                                            rotate_left
                                            · show Act.put _ (some 89) _ = _
                                              simp only [Act.put, List.setIfInBounds_toArray, List.set_cons_zero, List.set_cons_succ, i64_w, i32_w]
                                              rfl
                                            refine pure_ (i := 11) (N := some 90) (v := ?_) (a' := ?_) #[true, true, true, true, true, true, true, true, true, true, true, true, false] rfl rfl (any_of HT_.out (by kernel_rfl)) (fun _ _ _ h => h) (Or.inl ⟨by rfl, ?_⟩) ?_ ?_
                                            rotate_left
                                            · intro w'
                                              go_simp
                                              with_reducible rfl
                                            rotate_left
                                            · simp only [Act.put, List.setIfInBounds_toArray, List.set_cons_zero, List.set_cons_succ, i64_w, i32_w]
                                              rfl
                                            refine last_ (i := 12) (N := none) #[true, true, true, true, true, true, true, true, true, true, true, true, true] rfl rfl (one_of HT_.out (by kernel_rfl)) (by decide) (fun K hK => ?_)
                                            have hs71 : w69.cell? ⟨gb253, 4, none⟩ = some (u254004) := (blk_cell BK253.out 4).trans rfl
                                            have hfs71 := blk_frozen BK253.out 4
                                            have hns71_0 := NB243_253.out
                                            have hms71_0 := NB253_243.out
                                            refine skip_ (w1 := ?_) (by rfl) rfl ?_ ?_
                                            rotate_left
                                            · go_simp
                                              rfl
                                            refine hK.out _ _ ?_
                                            clear hK K
                                            refine done_ (done_of HT_.out (by kernel_rfl)) ?_
                                            try go_wp2
                                            go_roundg k2
                                            case measure => have := HJ4.out; have := HK2.out; omega
                                            case rel => exact ⟨(wrap64 (x6_2 + 1)), (y263), (y267), (.slice Ao65 y263.length co65), (.slice Ao70 y267.length co70), (by first | rfl | (simp; done) | (simp [*]; done)), H', ⟨by have := HJ4.out; have := HK2.out; omega⟩, ⟨by (with_reducible repeat (first | apply Kd.R_alloc | apply Kd.R_drewN | apply Kd.R_drew)); exact Kd.R_mono (Kd.R_far (p := ⟨gb253, 4, none⟩) (Kd.R_types HO265.out BK253.out (by decide)) (fun _ hk => hk.2) (.slice Ao70 y267.length co70)) (fun _ hk => hk.1.2)⟩, ⟨by (with_reducible repeat (first | apply Kd.R_alloc | apply Kd.R_drewN | apply Kd.R_drew)); exact Kd.R_mono (Kd.R_far (p := ⟨gb253, 4, none⟩) (Kd.R_types HO269.out BK253.out (by decide)) (fun _ hk => hk.2) (.slice Ao70 y267.length co70)) (fun _ hk => hk.1)⟩, ⟨by (with_reducible repeat (first | refine blk_drewN ?_ _ | refine blk_drew ?_ | refine blk_alloc ?_ _)); refine blk_far ?_ NB243_253.out _; (with_reducible repeat (first | refine blk_drewN ?_ _ | refine blk_drew ?_ | refine blk_alloc ?_ _)); exact BK243.out⟩, ⟨by (with_reducible repeat (first | refine blk_drewN ?_ _ | refine blk_drew ?_ | refine blk_alloc ?_ _)); refine blk_put (cs := #[.int .i64 t249, .int .i64 t251, .bool ((rd l0 6) == 1), .slice Ao65 y263.length co65, u254004]) ?_ 4 _ rfl; (with_reducible repeat (first | refine blk_drewN ?_ _ | refine blk_drew ?_ | refine blk_alloc ?_ _)); exact BK253.out⟩, ⟨by repeat (first | (with_reducible first | exact HB.out | apply below_alloc | apply pw_below_drewN | apply below_drew1 | refine below_set ?_ GE243.out | refine below_set ?_ GE253.out) | exact HB.out)⟩⟩
                                          · rw [if_neg c60] at H
                                            exact absurd H (by simp)
                                        · rw [if_neg c59] at H
                                          exact absurd H (by simp)
                                      · rw [if_neg c58] at H
                                        exact absurd H (by simp)
                                    · rw [if_neg c56] at H
                                      exact absurd H (by simp)
                                · rw [if_neg c37] at H
                                  exact absurd H (by simp)
                              · rw [if_neg c36] at H
                                exact absurd H (by simp)
                            · rw [if_neg c34] at H
                              have c34b0 : decide (x6_2 < (wrap64 (rd l0 7))) = false := decide_eq_false c34
                              clear c34
                              replace H := Option.bind_eq_some_iff.mp H
                              obtain ⟨t270, A720, H⟩ := H
                              replace H : (if t270 = 0 then (some (t249, t251, ((rd l0 6) == 1), x254003_2, x254004_2, 0)) else (some (0, 0, false, ([] : List Int), ([] : List Int), t270))) = some (r1, r2, r3, r4, r5, r6) := H
                              have A72 := Aside0.mk A720
                              clear A720
                              by_cases c73 : t270 = 0
                              · rw [if_pos c73] at H
                                have c73b0 : (t270 == 0) = true := beq_iff_eq.mpr c73
                                have c73b1 : (t270 != 0) = false := bne_eq_false_iff_eq.mpr c73
                                clear c73
                                simp only [Option.some.injEq, Prod.mk.injEq] at H
                                obtain ⟨rfl, rfl, rfl, rfl, rfl, rfl⟩ := H
                                have hnb74 := NB253_243.out
                                have hnc74 := NB243_253.out
                                have hcz75_0 : wr.cell? ⟨gb253, 0, none⟩ = some (.int .i64 t249) := (blk_cell BK253.out 0).trans rfl
                                have hcz75_1 : wr.cell? ⟨gb253, 1, none⟩ = some (.int .i64 t251) := (blk_cell BK253.out 1).trans rfl
                                have hcz75_2 : wr.cell? ⟨gb253, 2, none⟩ = some (.bool ((rd l0 6) == 1)) := (blk_cell BK253.out 2).trans rfl
                                have hcz75_3 : wr.cell? ⟨gb253, 3, none⟩ = some (u254003) := (blk_cell BK253.out 3).trans rfl
                                have hcz75_4 : wr.cell? ⟨gb253, 4, none⟩ = some (u254004) := (blk_cell BK253.out 4).trans rfl
                                have hfz75_0 := blk_frozen BK253.out 0
                                have hfz75_1 := blk_frozen BK253.out 1
                                have hfz75_2 := blk_frozen BK253.out 2
                                have hfz75_3 := blk_frozen BK253.out 3
                                have hfz75_4 := blk_frozen BK253.out 4
                                obtain ⟨Ao76, co76, eo76⟩ := Kd.R_slice HO_254003.out
                                subst eo76
                                obtain ⟨Ao77, co77, eo77⟩ := Kd.R_slice HO_254004.out
                                subst eo77
                                go_wp2_with (first | ((with_reducible refine gate_callee (f := 11) rfl ?_); refine goesL_ (some 92) rfl rfl Try.func11 (by kernel_rfl) rfl #[.agg #[.int .i64 t249, .int .i64 t251, .bool ((rd l0 6) == 1), .slice Ao76 x254003_2.length co76, .slice Ao77 x254004_2.length co77]] rfl (by (try simp only [List.map_toArray, List.map_cons, List.map_nil]); first | done | rfl | (simp only [List.length_drop, List.length_take]; rfl)) ?_; (with_reducible refine (substationref15_Check.calls k2 t249 t251 ((rd l0 6) == 1) _ _ x254003_2 _ _ x254004_2 t270 _ ?side1 ?side2 ?side3 ?side4 A72.out).mono ?_); (case side1 => repeat (first | exact (Kd.R_reads' HO_254003.out).2.2 | (with_reducible refine Kd.C_alloc ?_ _) | (with_reducible refine Kd.C_drewN ?_ _) | (with_reducible refine Kd.C_drew ?_))); (case side2 => exact (Kd.R_reads' HO_254003.out).2.1); (case side3 => repeat (first | exact (Kd.R_reads' HO_254004.out).2.2 | (with_reducible refine Kd.C_alloc ?_ _) | (with_reducible refine Kd.C_drewN ?_ _) | (with_reducible refine Kd.C_drew ?_))); (case side4 => exact (Kd.R_reads' HO_254004.out).2.1); rintro e w78 ⟨rfl, hb⟩; refine ⟨_, rfl, ?_⟩; have n0_ := Aside0.mk (Kd.R_below (by (with_reducible repeat (first | apply Kd.R_alloc | apply Kd.R_drewN | apply Kd.R_drew)); exact HO_254003.out) hb); have n1_ := Aside0.mk (Kd.R_below (by (with_reducible repeat (first | apply Kd.R_alloc | apply Kd.R_drewN | apply Kd.R_drew)); exact HO_254004.out) hb); have n2_ := Aside0.mk (blk_below (g := gb243) (o := .cells #[.int .i64 0, .int .i64 0, .bool false, .slice none 0 0, .slice none 0 0] 29 (0, 0)) (by (with_reducible repeat (first | refine blk_drewN ?_ _ | refine blk_drew ?_ | refine blk_alloc ?_ _)); exact BK243.out) hb); have n3_ := Aside0.mk (blk_below (g := gb253) (o := .cells #[.int .i64 t249, .int .i64 t251, .bool ((rd l0 6) == 1), .slice Ao76 x254003_2.length co76, .slice Ao77 x254004_2.length co77] 29 (0, 0)) (by (with_reducible repeat (first | refine blk_drewN ?_ _ | refine blk_drew ?_ | refine blk_alloc ?_ _)); exact BK253.out) hb); have n4_ := Aside0.mk (below_step (by repeat (first | (with_reducible first | exact HB.out | apply below_alloc | apply pw_below_drewN | apply below_drew1 | refine below_set ?_ GE243.out | refine below_set ?_ GE253.out) | exact HB.out)) hb); clear HO_254003; clear HO_254004; clear BK243; clear BK253; clear HB; have HO_254003 := n0_; have HO_254004 := n1_; have BK243 := n2_; have BK253 := n3_; have HB := n4_; clear n0_ n1_ n2_ n3_ n4_; (try clear hb); (try clear hb2); (try clear hk); (try clear hi); have hcz79_0 : w78.cell? ⟨gb253, 0, none⟩ = some (.int .i64 t249) := (blk_cell BK253.out 0).trans rfl; have hcz79_1 : w78.cell? ⟨gb253, 1, none⟩ = some (.int .i64 t251) := (blk_cell BK253.out 1).trans rfl; have hcz79_2 : w78.cell? ⟨gb253, 2, none⟩ = some (.bool ((rd l0 6) == 1)) := (blk_cell BK253.out 2).trans rfl; have hcz79_3 : w78.cell? ⟨gb253, 3, none⟩ = some (.slice Ao76 x254003_2.length co76) := (blk_cell BK253.out 3).trans rfl; have hcz79_4 : w78.cell? ⟨gb253, 4, none⟩ = some (.slice Ao77 x254004_2.length co77) := (blk_cell BK253.out 4).trans rfl; have hfz79_0 := blk_frozen BK253.out 0; have hfz79_1 := blk_frozen BK253.out 1; have hfz79_2 := blk_frozen BK253.out 2; have hfz79_3 := blk_frozen BK253.out 3; have hfz79_4 := blk_frozen BK253.out 4; have hcz80_0 : w78.cell? ⟨gb243, 0, none⟩ = some (.int .i64 0) := (blk_cell BK243.out 0).trans rfl; have hcz80_1 : w78.cell? ⟨gb243, 1, none⟩ = some (.int .i64 0) := (blk_cell BK243.out 1).trans rfl; have hcz80_2 : w78.cell? ⟨gb243, 2, none⟩ = some (.bool false) := (blk_cell BK243.out 2).trans rfl; have hcz80_3 : w78.cell? ⟨gb243, 3, none⟩ = some (.slice none 0 0) := (blk_cell BK243.out 3).trans rfl; have hcz80_4 : w78.cell? ⟨gb243, 4, none⟩ = some (.slice none 0 0) := (blk_cell BK243.out 4).trans rfl; have hfz80_0 := blk_frozen BK243.out 0; have hfz80_1 := blk_frozen BK243.out 1; have hfz80_2 := blk_frozen BK243.out 2; have hfz80_3 := blk_frozen BK243.out 3; have hfz80_4 := blk_frozen BK243.out 4))
                                refine bodyPost_ret (results_ct rfl _ _ gb243 29 #[.int .i64 t249, .int .i64 t251, .bool ((rd l0 6) == 1), .slice Ao76 x254003_2.length co76, .slice Ao77 x254004_2.length co77] (0, 0) _ rfl (by (with_reducible repeat (first | refine blk_drewN ?_ _ | refine blk_drew ?_ | refine blk_alloc ?_ _)); refine blk_put (cs := #[.int .i64 t249, .int .i64 t251, .bool ((rd l0 6) == 1), .slice Ao76 x254003_2.length co76, .slice none 0 0]) ?_ 4 _ rfl; (with_reducible repeat (first | refine blk_drewN ?_ _ | refine blk_drew ?_ | refine blk_alloc ?_ _)); refine blk_put (cs := #[.int .i64 t249, .int .i64 t251, .bool ((rd l0 6) == 1), .slice none 0 0, .slice none 0 0]) ?_ 3 _ rfl; (with_reducible repeat (first | refine blk_drewN ?_ _ | refine blk_drew ?_ | refine blk_alloc ?_ _)); refine blk_put (cs := #[.int .i64 t249, .int .i64 t251, .bool false, .slice none 0 0, .slice none 0 0]) ?_ 2 _ rfl; (with_reducible repeat (first | refine blk_drewN ?_ _ | refine blk_drew ?_ | refine blk_alloc ?_ _)); refine blk_put (cs := #[.int .i64 t249, .int .i64 0, .bool false, .slice none 0 0, .slice none 0 0]) ?_ 1 _ rfl; (with_reducible repeat (first | refine blk_drewN ?_ _ | refine blk_drew ?_ | refine blk_alloc ?_ _)); refine blk_put (cs := #[.int .i64 0, .int .i64 0, .bool false, .slice none 0 0, .slice none 0 0]) ?_ 0 _ rfl; (with_reducible repeat (first | refine blk_drewN ?_ _ | refine blk_drew ?_ | refine blk_alloc ?_ _)); exact BK243.out) Try.underlying29 rfl (by kernel_rfl)) rfl ?_
                                exact ⟨_, _, by first | rfl | (simp [errW_none, errW_some] <;> rfl) | (simp [*, errW_none, errW_some] <;> rfl), by (with_reducible repeat (first | apply Kd.R_alloc | apply Kd.R_drewN | apply Kd.R_drew)); exact Kd.R_mono (Kd.R_far (p := ⟨gb243, 4, none⟩) (Kd.R_far (p := ⟨gb243, 3, none⟩) (Kd.R_far (p := ⟨gb243, 2, none⟩) (Kd.R_far (p := ⟨gb243, 1, none⟩) (Kd.R_far (p := ⟨gb243, 0, none⟩) (Kd.R_types HO_254003.out BK243.out (by decide)) (fun _ hk => hk.2) (.int .i64 t249)) (fun _ hk => hk.2) (.int .i64 t251)) (fun _ hk => hk.2) (.bool ((rd l0 6) == 1))) (fun _ hk => hk.2) (.slice Ao76 x254003_2.length co76)) (fun _ hk => hk.2) (.slice Ao77 x254004_2.length co77)) (fun _ hk => hk.1), by (with_reducible repeat (first | apply Kd.R_alloc | apply Kd.R_drewN | apply Kd.R_drew)); exact Kd.R_mono (Kd.R_far (p := ⟨gb243, 4, none⟩) (Kd.R_far (p := ⟨gb243, 3, none⟩) (Kd.R_far (p := ⟨gb243, 2, none⟩) (Kd.R_far (p := ⟨gb243, 1, none⟩) (Kd.R_far (p := ⟨gb243, 0, none⟩) (Kd.R_types HO_254004.out BK243.out (by decide)) (fun _ hk => hk.2) (.int .i64 t249)) (fun _ hk => hk.2) (.int .i64 t251)) (fun _ hk => hk.2) (.bool ((rd l0 6) == 1))) (fun _ hk => hk.2) (.slice Ao76 x254003_2.length co76)) (fun _ hk => hk.2) (.slice Ao77 x254004_2.length co77)) (fun _ hk => hk.1), by repeat (first | (with_reducible first | exact HB.out | apply below_alloc | apply pw_below_drewN | apply below_drew1 | refine below_set ?_ GE243.out | refine below_set ?_ GE253.out) | exact HB.out)⟩
                              · rw [if_neg c73] at H
                                have c73b0 : (t270 == 0) = false := beq_eq_false_iff_ne.mpr c73
                                have c73b1 : (t270 != 0) = true := bne_iff_ne.mpr c73
                                simp only [Option.some.injEq, Prod.mk.injEq] at H
                                obtain ⟨rfl, rfl, rfl, rfl, rfl, rfl⟩ := H
                                have hnb81 := NB253_243.out
                                have hnc81 := NB243_253.out
                                have hcz82_0 : wr.cell? ⟨gb253, 0, none⟩ = some (.int .i64 t249) := (blk_cell BK253.out 0).trans rfl
                                have hcz82_1 : wr.cell? ⟨gb253, 1, none⟩ = some (.int .i64 t251) := (blk_cell BK253.out 1).trans rfl
                                have hcz82_2 : wr.cell? ⟨gb253, 2, none⟩ = some (.bool ((rd l0 6) == 1)) := (blk_cell BK253.out 2).trans rfl
                                have hcz82_3 : wr.cell? ⟨gb253, 3, none⟩ = some (u254003) := (blk_cell BK253.out 3).trans rfl
                                have hcz82_4 : wr.cell? ⟨gb253, 4, none⟩ = some (u254004) := (blk_cell BK253.out 4).trans rfl
                                have hfz82_0 := blk_frozen BK253.out 0
                                have hfz82_1 := blk_frozen BK253.out 1
                                have hfz82_2 := blk_frozen BK253.out 2
                                have hfz82_3 := blk_frozen BK253.out 3
                                have hfz82_4 := blk_frozen BK253.out 4
                                obtain ⟨Ao83, co83, eo83⟩ := Kd.R_slice HO_254003.out
                                subst eo83
                                obtain ⟨Ao84, co84, eo84⟩ := Kd.R_slice HO_254004.out
                                subst eo84
                                go_wp2_with (first | ((with_reducible refine gate_callee (f := 11) rfl ?_); refine goesL_ (some 92) rfl rfl Try.func11 (by kernel_rfl) rfl #[.agg #[.int .i64 t249, .int .i64 t251, .bool ((rd l0 6) == 1), .slice Ao83 x254003_2.length co83, .slice Ao84 x254004_2.length co84]] rfl (by (try simp only [List.map_toArray, List.map_cons, List.map_nil]); first | done | rfl | (simp only [List.length_drop, List.length_take]; rfl)) ?_; (with_reducible refine (substationref15_Check.calls k2 t249 t251 ((rd l0 6) == 1) _ _ x254003_2 _ _ x254004_2 t270 _ ?side1 ?side2 ?side3 ?side4 A72.out).mono ?_); (case side1 => repeat (first | exact (Kd.R_reads' HO_254003.out).2.2 | (with_reducible refine Kd.C_alloc ?_ _) | (with_reducible refine Kd.C_drewN ?_ _) | (with_reducible refine Kd.C_drew ?_))); (case side2 => exact (Kd.R_reads' HO_254003.out).2.1); (case side3 => repeat (first | exact (Kd.R_reads' HO_254004.out).2.2 | (with_reducible refine Kd.C_alloc ?_ _) | (with_reducible refine Kd.C_drewN ?_ _) | (with_reducible refine Kd.C_drew ?_))); (case side4 => exact (Kd.R_reads' HO_254004.out).2.1); rintro e w85 ⟨rfl, hb⟩; refine ⟨_, rfl, ?_⟩; have n0_ := Aside0.mk (Kd.R_below (by (with_reducible repeat (first | apply Kd.R_alloc | apply Kd.R_drewN | apply Kd.R_drew)); exact HO_254003.out) hb); have n1_ := Aside0.mk (Kd.R_below (by (with_reducible repeat (first | apply Kd.R_alloc | apply Kd.R_drewN | apply Kd.R_drew)); exact HO_254004.out) hb); have n2_ := Aside0.mk (blk_below (g := gb243) (o := .cells #[.int .i64 0, .int .i64 0, .bool false, .slice none 0 0, .slice none 0 0] 29 (0, 0)) (by (with_reducible repeat (first | refine blk_drewN ?_ _ | refine blk_drew ?_ | refine blk_alloc ?_ _)); exact BK243.out) hb); have n3_ := Aside0.mk (blk_below (g := gb253) (o := .cells #[.int .i64 t249, .int .i64 t251, .bool ((rd l0 6) == 1), .slice Ao83 x254003_2.length co83, .slice Ao84 x254004_2.length co84] 29 (0, 0)) (by (with_reducible repeat (first | refine blk_drewN ?_ _ | refine blk_drew ?_ | refine blk_alloc ?_ _)); exact BK253.out) hb); have n4_ := Aside0.mk (below_step (by repeat (first | (with_reducible first | exact HB.out | apply below_alloc | apply pw_below_drewN | apply below_drew1 | refine below_set ?_ GE243.out | refine below_set ?_ GE253.out) | exact HB.out)) hb); clear HO_254003; clear HO_254004; clear BK243; clear BK253; clear HB; have HO_254003 := n0_; have HO_254004 := n1_; have BK243 := n2_; have BK253 := n3_; have HB := n4_; clear n0_ n1_ n2_ n3_ n4_; (try clear hb); (try clear hb2); (try clear hk); (try clear hi); have hcz86_0 : w85.cell? ⟨gb243, 0, none⟩ = some (.int .i64 0) := (blk_cell BK243.out 0).trans rfl; have hcz86_1 : w85.cell? ⟨gb243, 1, none⟩ = some (.int .i64 0) := (blk_cell BK243.out 1).trans rfl; have hcz86_2 : w85.cell? ⟨gb243, 2, none⟩ = some (.bool false) := (blk_cell BK243.out 2).trans rfl; have hcz86_3 : w85.cell? ⟨gb243, 3, none⟩ = some (.slice none 0 0) := (blk_cell BK243.out 3).trans rfl; have hcz86_4 : w85.cell? ⟨gb243, 4, none⟩ = some (.slice none 0 0) := (blk_cell BK243.out 4).trans rfl; have hfz86_0 := blk_frozen BK243.out 0; have hfz86_1 := blk_frozen BK243.out 1; have hfz86_2 := blk_frozen BK243.out 2; have hfz86_3 := blk_frozen BK243.out 3; have hfz86_4 := blk_frozen BK243.out 4))
                                refine bodyPost_ret (results_ct rfl _ _ gb243 29 #[.int .i64 0, .int .i64 0, .bool false, .slice none 0 0, .slice none 0 0] (0, 0) _ rfl (by (with_reducible repeat (first | refine blk_drewN ?_ _ | refine blk_drew ?_ | refine blk_alloc ?_ _)); refine blk_put (cs := #[.int .i64 0, .int .i64 0, .bool false, .slice none 0 0, .slice none 0 0]) ?_ 4 _ rfl; (with_reducible repeat (first | refine blk_drewN ?_ _ | refine blk_drew ?_ | refine blk_alloc ?_ _)); refine blk_put (cs := #[.int .i64 0, .int .i64 0, .bool false, .slice none 0 0, .slice none 0 0]) ?_ 3 _ rfl; (with_reducible repeat (first | refine blk_drewN ?_ _ | refine blk_drew ?_ | refine blk_alloc ?_ _)); refine blk_put (cs := #[.int .i64 0, .int .i64 0, .bool false, .slice none 0 0, .slice none 0 0]) ?_ 2 _ rfl; (with_reducible repeat (first | refine blk_drewN ?_ _ | refine blk_drew ?_ | refine blk_alloc ?_ _)); refine blk_put (cs := #[.int .i64 0, .int .i64 0, .bool false, .slice none 0 0, .slice none 0 0]) ?_ 1 _ rfl; (with_reducible repeat (first | refine blk_drewN ?_ _ | refine blk_drew ?_ | refine blk_alloc ?_ _)); refine blk_put (cs := #[.int .i64 0, .int .i64 0, .bool false, .slice none 0 0, .slice none 0 0]) ?_ 0 _ rfl; (with_reducible repeat (first | refine blk_drewN ?_ _ | refine blk_drew ?_ | refine blk_alloc ?_ _)); exact BK243.out) Try.underlying29 rfl (by kernel_rfl)) rfl ?_
                                exact ⟨_, _, by first | rfl | (simp [errW_none, errW_some] <;> rfl) | (simp [*, errW_none, errW_some] <;> rfl), by first | exact Kd.R_nil _ _ _ _ _ | exact Kd.N_nil _ _ _ _ _ | exact Kd.V_nil _ _ _ _ _ | exact Kd.Q_nil _ _ _ _ _ | exact Kd.S_nil _ _ _ _ _, by first | exact Kd.R_nil _ _ _ _ _ | exact Kd.N_nil _ _ _ _ _ | exact Kd.V_nil _ _ _ _ _ | exact Kd.Q_nil _ _ _ _ _ | exact Kd.S_nil _ _ _ _ _, by repeat (first | (with_reducible first | exact HB.out | apply below_alloc | apply pw_below_drewN | apply below_drew1 | refine below_set ?_ GE243.out | refine below_set ?_ GE253.out) | exact HB.out)⟩
                      · rw [if_neg c22] at H
                        exact absurd H (by simp)
                    · rw [if_neg c20] at H
                      exact absurd H (by simp)
              · rw [if_neg c15] at H
                exact absurd H (by simp)
          · rw [if_neg c12] at H
            exact absurd H (by simp)

end Go.Proofs.Ytlfphopfoicjpaa.PAll
