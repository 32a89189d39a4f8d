-- PRINTED BY print.sh 35421559b90ae4d0a3588c463048766b98c2df88dd9212a6774a882060cdf62d: not written by this session
import Derived.Test.YtlfphopfoicjpaaPAllx0
import Derived.Test.YtlfphopfoicjpaaPAllx1
namespace Go.Proofs.Ytlfphopfoicjpaa.PAll
open Go.RowKit Go.Proofs.YtlfphopfoicjpaaW.PrintWords Go.Proofs.YtlfphopfoicjpaaW.PrintLast Go.Proofs.YtlfphopfoicjpaaW.PrintMore
attribute [local go_sem] max2_int min2_int max_two min_two max_three min_three max_four min_four   -- for this text's walks alone
set_option linter.unusedVariables false
set_option linter.unusedSimpArgs false

/-! ### stream_Encode: function 17 -/
mutual
def stream_Encode.j0 : Nat → Int → Int → Int → Bool → List Int → List Int → Option (List Int × Int)
  | 0, _, _, _, _, _, _ => none
  | k + 1, x5, x126000, x126001, x126002, x126003, x126004 => stream_Encode.l0 k (([136, 186, (x126000 / 256) % 256, (x126000) % 256, (x126001 / 256) % 256, (x126001) % 256, x5, ((x126003.length : Int)) % 256] : List Int)) x126003 (x126003.length : Int) 0 x126000 x126001 x126002 x126003 x126004
def stream_Encode.l0 : Nat → List Int → List Int → Int → Int → Int → Int → Bool → List Int → List Int → Option (List Int × Int)
  | 0, _, _, _, _, _, _, _, _, _ => none
  | k + 1, x6, x37, x38, x39, x126000, x126001, x126002, x126003, x126004 => if x39 < x38 then (if 0 ≤ x39 then (if x39 < (x37.length : Int) then (if x39 < (x126004.length : Int) then ((some (([((rd x37 x39) / 256) % 256, (rd x37 x39) % 256, (rd x126004 x39) % 256] : List Int) : List Int)).bind fun y132 => (if x6.length + y132.length < 140737488355328 then (stream_Encode.l0 k (x6 ++ y132) x37 x38 (wrap64 (x39 + 1)) x126000 x126001 x126002 x126003 x126004) else (none))) else (none)) else (none)) else (none)) else (some (x6, 0))
end
def stream_Encode.f (k : Nat) (a0_0 : Int) (a0_1 : Int) (a0_2 : Bool) (l0_3 : List Int) (l0_4 : List Int) : Option (List Int × Int) := (stream_Check.f k a0_0 a0_1 a0_2 l0_3 l0_4).bind fun t126 => (if t126 = 0 then (if a0_2 = true then (stream_Encode.j0 k 1 a0_0 a0_1 a0_2 l0_3 l0_4) else (stream_Encode.j0 k 0 a0_0 a0_1 a0_2 l0_3 l0_4)) else (some (([] : List Int), t126)))
theorem stream_Encode.mono_l : ∀ k, (∀ y0 y1 y2 y3 y4 y5, LeO (stream_Encode.j0 k y0 y1 y2 y3 y4 y5) (stream_Encode.j0 (k + 1) y0 y1 y2 y3 y4 y5)) ∧ (∀ y0 y1 y2 y3 y4 y5 y6 y7 y8, LeO (stream_Encode.l0 k y0 y1 y2 y3 y4 y5 y6 y7 y8) (stream_Encode.l0 (k + 1) y0 y1 y2 y3 y4 y5 y6 y7 y8))
  | 0 => ⟨fun _ _ _ _ _ _ r h => by simp [stream_Encode.j0] at h, fun _ _ _ _ _ _ _ _ _ r h => by simp [stream_Encode.l0] at h⟩
  | k + 1 => by
    obtain ⟨ih0, ih1⟩ := stream_Encode.mono_l k
    refine ⟨?_, ?_⟩
    · intro y0 y1 y2 y3 y4 y5
      unfold stream_Encode.j0
      repeat' first
      | (with_reducible exact ih0 _ _ _ _ _ _)
      | (with_reducible exact ih1 _ _ _ _ _ _ _ _ _)
      | (with_reducible exact stream_Check.mono _ _ _ _ _ _)
      | (with_reducible exact LeO.refl _)
      | (with_reducible exact LeO.none _)
      | (with_reducible refine LeO.ite ?_ ?_)
      | (with_reducible refine LeO.bind ?_ (fun _ => ?_))
      | exact ih0 _ _ _ _ _ _
      | exact ih1 _ _ _ _ _ _ _ _ _
      | exact stream_Check.mono _ _ _ _ _ _
      | exact LeO.none _
      | refine LeO.ite ?_ ?_
      | refine LeO.bind ?_ (fun _ => ?_)
    · intro y0 y1 y2 y3 y4 y5 y6 y7 y8
      unfold stream_Encode.l0
      repeat' first
      | (with_reducible exact ih0 _ _ _ _ _ _)
      | (with_reducible exact ih1 _ _ _ _ _ _ _ _ _)
      | (with_reducible exact stream_Check.mono _ _ _ _ _ _)
      | (with_reducible exact LeO.refl _)
      | (with_reducible exact LeO.none _)
      | (with_reducible refine LeO.ite ?_ ?_)
      | (with_reducible refine LeO.bind ?_ (fun _ => ?_))
      | exact ih0 _ _ _ _ _ _
      | exact ih1 _ _ _ _ _ _ _ _ _
      | exact stream_Check.mono _ _ _ _ _ _
      | exact LeO.none _
      | refine LeO.ite ?_ ?_
      | refine LeO.bind ?_ (fun _ => ?_)
theorem stream_Encode.mono : ∀ a0 a1 a2 a3 a4 k, LeO (stream_Encode.f k a0 a1 a2 a3 a4) (stream_Encode.f (k + 1) a0 a1 a2 a3 a4) := by
  intro a0 a1 a2 a3 a4 k
  obtain ⟨ih0, ih1⟩ := stream_Encode.mono_l k
  unfold stream_Encode.f
  repeat' first
      | (with_reducible exact ih0 _ _ _ _ _ _)
      | (with_reducible exact ih1 _ _ _ _ _ _ _ _ _)
      | (with_reducible exact stream_Check.mono _ _ _ _ _ _)
      | (with_reducible exact LeO.refl _)
      | (with_reducible exact LeO.none _)
      | (with_reducible refine LeO.ite ?_ ?_)
      | (with_reducible refine LeO.bind ?_ (fun _ => ?_))
      | exact ih0 _ _ _ _ _ _
      | exact ih1 _ _ _ _ _ _ _ _ _
      | exact stream_Check.mono _ _ _ _ _ _
      | exact LeO.none _
      | refine LeO.ite ?_ ?_
      | refine LeO.bind ?_ (fun _ => ?_)
set_option maxHeartbeats 8000000 in
set_option maxRecDepth 100000 in
theorem stream_Encode.calls (k : Nat) (a0_0 : Int) (a0_1 : Int) (a0_2 : Bool) (A0_3 : Option Addr) (c0_3 : Nat) (l0_3 : List Int) (A0_4 : Option Addr) (c0_4 : Nat) (l0_4 : List Int) (r1 : List Int) (r2 : Int) (w : World) (hr0_3 : Kd.C (Kd.int .i64) w A0_3 l0_3.length l0_3) (hc0_3 : l0_3.length ≤ c0_3) (hr0_4 : Kd.C (Kd.int .i64) w A0_4 l0_4.length l0_4) (hc0_4 : l0_4.length ≤ c0_4) (h : stream_Encode.f k a0_0 a0_1 a0_2 l0_3 l0_4 = some (r1, r2)) :
    Calls Try.prog 17 #[.agg #[.int .i64 a0_0, .int .i64 a0_1, .bool a0_2, .slice A0_3 l0_3.length c0_3, .slice A0_4 l0_4.length c0_4]] w fun e w' => ∃ v0_ : Value, e = .returned (.tuple #[v0_, .int .i64 r2]) ∧ Kd.R (Kd.int .u8) 5 w' w.heap.size (fun _ => True) v0_ r1 ∧ Below w.heap.size w w' := by
  have hu24 := Try.underlying24
  have HR0_3 := Aside0.mk hr0_3
  have HC0_3 := Aside0.mk hc0_3
  clear hr0_3 hc0_3
  have HR0_4 := Aside0.mk hr0_4
  have HC0_4 := Aside0.mk hc0_4
  clear hr0_4 hc0_4
  have HB := Aside0.mk (Below.refl w.heap.size w)
  have H : ((stream_Check.f k a0_0 a0_1 a0_2 l0_3 l0_4).bind fun t126 => (if t126 = 0 then (if a0_2 = true then (stream_Encode.j0 k 1 a0_0 a0_1 a0_2 l0_3 l0_4) else (stream_Encode.j0 k 0 a0_0 a0_1 a0_2 l0_3 l0_4)) else (some (([] : List Int), t126)))) = some (r1, r2) := h
  clear h
  replace H := Option.bind_eq_some_iff.mp H
  obtain ⟨t126, A20, H⟩ := H
  replace H : (if t126 = 0 then (if a0_2 = true then (stream_Encode.j0 k 1 a0_0 a0_1 a0_2 l0_3 l0_4) else (stream_Encode.j0 k 0 a0_0 a0_1 a0_2 l0_3 l0_4)) else (some (([] : List Int), t126))) = some (r1, r2) := H
  have A2 := Aside0.mk A20
  clear A20
  by_cases c3 : t126 = 0
  · rw [if_pos c3] at H
    have c3b0 : (t126 == 0) = true := beq_iff_eq.mpr c3
    have c3b1 : (t126 != 0) = false := bne_eq_false_iff_eq.mpr c3
    clear c3
    have HC4 := Aside0.mk H
    clear H
    go_enter Try.func17, Try.ntmps17
    go_upto_if 15 with (first | ((with_reducible refine gate_dst (N := 1) rfl ?_); refine box_event ?hg (N := 1) ?hd (cs := #[.int .i64 a0_0, .int .i64 a0_1, .bool a0_2, .slice A0_3 l0_3.length c0_3, .slice A0_4 l0_4.length c0_4]) (t := 24) ?hr ?_; (case hd => rfl); (case hg => rfl); (case hr => first | (go_simp; done) | (go_simp; rfl)); intro gb125 hg w5 hbox hb; have n0_ := Aside0.mk (below_step (by repeat (first | (with_reducible first | exact HB.out | apply below_alloc | apply pw_below_drewN | apply below_drew1) | exact HB.out)) hb); have n1_ := Aside0.mk (hbox); have n2_ := Aside0.mk ((by rw [hg]; exact (below_size (by repeat (first | (with_reducible first | exact HB.out | apply below_alloc | apply pw_below_drewN | apply below_drew1) | exact HB.out))) : w.heap.size ≤ gb125)); have n3_ := Aside0.mk ((by rw [hg]; exact (below_size (by repeat (first | (with_reducible first | exact HB.out | apply below_alloc | apply pw_below_drewN | apply below_drew1) | exact HB.out))) : w.heap.size ≤ gb125)); clear HB; have HB := n0_; have BK125 := n1_; have GW125 := n2_; have GE125 := n3_; clear n0_ n1_ n2_ n3_; clear hb hbox hg; have hcz6_0 : w5.cell? ⟨gb125, 0, none⟩ = some (.int .i64 a0_0) := (blk_cell BK125.out 0).trans rfl; have hcz6_1 : w5.cell? ⟨gb125, 1, none⟩ = some (.int .i64 a0_1) := (blk_cell BK125.out 1).trans rfl; have hcz6_2 : w5.cell? ⟨gb125, 2, none⟩ = some (.bool a0_2) := (blk_cell BK125.out 2).trans rfl; have hcz6_3 : w5.cell? ⟨gb125, 3, none⟩ = some (.slice A0_3 l0_3.length c0_3) := (blk_cell BK125.out 3).trans rfl; have hcz6_4 : w5.cell? ⟨gb125, 4, none⟩ = some (.slice A0_4 l0_4.length c0_4) := (blk_cell BK125.out 4).trans rfl; have hfz6_0 := blk_frozen BK125.out 0; have hfz6_1 := blk_frozen BK125.out 1; have hfz6_2 := blk_frozen BK125.out 2; have hfz6_3 := blk_frozen BK125.out 3; have hfz6_4 := blk_frozen BK125.out 4) | ((with_reducible refine gate_callee (f := 10) rfl ?_); refine goesL_ (some 10) rfl rfl Try.func10 (by kernel_rfl) rfl #[.agg #[.int .i64 a0_0, .int .i64 a0_1, .bool a0_2, .slice A0_3 l0_3.length c0_3, .slice A0_4 l0_4.length c0_4]] rfl (by (try simp only [List.map_toArray, List.map_cons, List.map_nil]); first | done | rfl | (simp only [List.length_drop, List.length_take]; rfl)) ?_; (with_reducible refine (stream_Check.calls k a0_0 a0_1 a0_2 _ _ l0_3 _ _ l0_4 t126 _ ?side1 ?side2 ?side3 ?side4 A2.out).mono ?_); (case side1 => repeat (first | exact (Kd.C_below HR0_3.out HB.out) | (with_reducible refine Kd.C_alloc ?_ _) | (with_reducible refine Kd.C_drewN ?_ _) | (with_reducible refine Kd.C_drew ?_))); (case side2 => exact HC0_3.out); (case side3 => repeat (first | exact (Kd.C_below HR0_4.out HB.out) | (with_reducible refine Kd.C_alloc ?_ _) | (with_reducible refine Kd.C_drewN ?_ _) | (with_reducible refine Kd.C_drew ?_))); (case side4 => exact HC0_4.out); rintro e w7 ⟨rfl, hb⟩; refine ⟨_, rfl, ?_⟩; have n0_ := Aside0.mk (blk_below (g := gb125) (o := .cells #[.int .i64 a0_0, .int .i64 a0_1, .bool a0_2, .slice A0_3 l0_3.length c0_3, .slice A0_4 l0_4.length c0_4] 24 (0, 0)) (by (with_reducible repeat (first | refine blk_drewN ?_ _ | refine blk_drew ?_ | refine blk_alloc ?_ _)); exact BK125.out) hb); have n1_ := Aside0.mk (below_step (by repeat (first | (with_reducible first | exact HB.out | apply below_alloc | apply pw_below_drewN | apply below_drew1 | refine below_set ?_ GE125.out) | exact HB.out)) hb); clear BK125; clear HB; have BK125 := n0_; have HB := n1_; clear n0_ n1_; (try clear hb); (try clear hb2); (try clear hk); (try clear hi); have hcz8_0 : w7.cell? ⟨gb125, 0, none⟩ = some (.int .i64 a0_0) := (blk_cell BK125.out 0).trans rfl; have hcz8_1 : w7.cell? ⟨gb125, 1, none⟩ = some (.int .i64 a0_1) := (blk_cell BK125.out 1).trans rfl; have hcz8_2 : w7.cell? ⟨gb125, 2, none⟩ = some (.bool a0_2) := (blk_cell BK125.out 2).trans rfl; have hcz8_3 : w7.cell? ⟨gb125, 3, none⟩ = some (.slice A0_3 l0_3.length c0_3) := (blk_cell BK125.out 3).trans rfl; have hcz8_4 : w7.cell? ⟨gb125, 4, none⟩ = some (.slice A0_4 l0_4.length c0_4) := (blk_cell BK125.out 4).trans rfl; have hfz8_0 := blk_frozen BK125.out 0; have hfz8_1 := blk_frozen BK125.out 1; have hfz8_2 := blk_frozen BK125.out 2; have hfz8_3 := blk_frozen BK125.out 3; have hfz8_4 := blk_frozen BK125.out 4))
    (try simp only [Act.put, List.setIfInBounds_toArray, List.set_cons_zero, List.set_cons_succ])
    go_cut [5] (fun v5 wc => ∃ (kq : Nat) (x5_3 : Int), v5 = .int .u8 x5_3 ∧ Aside0 (stream_Encode.j0 kq x5_3 a0_0 a0_1 a0_2 l0_3 l0_4 = some (r1, r2)) ∧ Aside0 (kq ≤ k) ∧ Aside0 (wc.heap[gb125]? = some (.cells #[.int .i64 a0_0, .int .i64 a0_1, .bool a0_2, (.slice A0_3 l0_3.length c0_3), (.slice A0_4 l0_4.length c0_4)] 24 (0, 0))) ∧ Aside0 (Below w.heap.size w wc))
    case first =>
      have H := HC4.out
      clear HC4
      by_cases c9 : a0_2 = true
      · subst c9
        have H1 : (stream_Encode.j0 k 1 a0_0 a0_1 true l0_3 l0_4) = some (r1, r2) := by rw [if_pos rfl] at H; exact H
        clear H
        have H := H1
        clear H1
        have H' := Aside0.mk H
        clear H
        go_wp2
        go_meet
        case rel => exact ⟨_, (1), (by first | rfl | (simp; done) | (simp [*]; done)), H', ⟨by first | omega | exact Nat.le_refl _⟩, ⟨by (with_reducible repeat (first | refine blk_drewN ?_ _ | refine blk_drew ?_ | refine blk_alloc ?_ _)); exact BK125.out⟩, ⟨by repeat (first | (with_reducible first | exact HB.out | apply below_alloc | apply pw_below_drewN | apply below_drew1 | refine below_set ?_ GE125.out) | exact HB.out)⟩⟩
      · replace c9 := Bool.eq_false_iff.mpr c9
        subst c9
        have H1 : (stream_Encode.j0 k 0 a0_0 a0_1 false l0_3 l0_4) = some (r1, r2) := by rw [if_neg (show ¬ (false = true) by decide)] at H; exact H
        clear H
        have H := H1
        clear H1
        have H' := Aside0.mk H
        clear H
        go_wp2
        go_meet
        case rel => exact ⟨_, (0), (by first | rfl | (simp; done) | (simp [*]; done)), H', ⟨by first | omega | exact Nat.le_refl _⟩, ⟨by (with_reducible repeat (first | refine blk_drewN ?_ _ | refine blk_drew ?_ | refine blk_alloc ?_ _)); exact BK125.out⟩, ⟨by repeat (first | (with_reducible first | exact HB.out | apply below_alloc | apply pw_below_drewN | apply below_drew1 | refine below_set ?_ GE125.out) | exact HB.out)⟩⟩
    case rest =>
      clear HC4
      try clear c1
      try clear p2
      try clear c3
      try clear c3b0
      try clear c3b1
      try clear c9
      try clear hcz6_0
      try clear hcz6_1
      try clear hcz6_2
      try clear hcz6_3
      try clear hcz6_4
      try clear hcz8_0
      try clear hcz8_1
      try clear hcz8_2
      try clear hcz8_3
      try clear hcz8_4
      try clear hfz6_0
      try clear hfz6_1
      try clear hfz6_2
      try clear hfz6_3
      try clear hfz6_4
      try clear hfz8_0
      try clear hfz8_1
      try clear hfz8_2
      try clear hfz8_3
      try clear hfz8_4
      obtain ⟨kq, x5_3, rfl, HA, HJ3, BK125, HB⟩ := hcut
      cases kq with
      | zero => exact absurd HA.out (by simp [stream_Encode.j0])
      | succ kj3 =>
        have H := HA.out
        clear HA
        simp only [stream_Encode.j0] at H
        obtain ⟨y127, hy127⟩ : ∃ y_ : List Int, y_ = (([136, 186, (a0_0 / 256) % 256, (a0_0) % 256, (a0_1 / 256) % 256, (a0_1) % 256, x5_3, ((l0_3.length : Int)) % 256] : List Int)) := ⟨_, rfl⟩
        replace H : (stream_Encode.l0 kj3 y127 l0_3 (l0_3.length : Int) 0 a0_0 a0_1 a0_2 l0_3 l0_4) = some (r1, r2) := by first | (rw [hy127]; with_reducible exact H) | (have H2_ := (Option.bind_some _ _).symm.trans H; rw [hy127]; with_reducible exact H2_) | (have H2_ := (Option.bind_some _ _).symm.trans H; with_reducible exact H2_) | with_reducible exact H | (rw [hy127]; exact H) | exact H
        have Ny127 := Aside0.mk hy127
        clear hy127
        have H' := Aside0.mk H
        clear H
        have hcz10_0 : wc.cell? ⟨gb125, 0, none⟩ = some (.int .i64 a0_0) := (blk_cell BK125.out 0).trans rfl
        have hcz10_1 : wc.cell? ⟨gb125, 1, none⟩ = some (.int .i64 a0_1) := (blk_cell BK125.out 1).trans rfl
        have hcz10_2 : wc.cell? ⟨gb125, 2, none⟩ = some (.bool a0_2) := (blk_cell BK125.out 2).trans rfl
        have hcz10_3 : wc.cell? ⟨gb125, 3, none⟩ = some (.slice A0_3 l0_3.length c0_3) := (blk_cell BK125.out 3).trans rfl
        have hcz10_4 : wc.cell? ⟨gb125, 4, none⟩ = some (.slice A0_4 l0_4.length c0_4) := (blk_cell BK125.out 4).trans rfl
        have hfz10_0 := blk_frozen BK125.out 0
        have hfz10_1 := blk_frozen BK125.out 1
        have hfz10_2 := blk_frozen BK125.out 2
        have hfz10_3 := blk_frozen BK125.out 3
        have hfz10_4 := blk_frozen BK125.out 4
        go_wp2_with (first | ((with_reducible refine gate_dst (N := 35) rfl ?_); refine Kd.R_lit (Kd.int .u8) _ 5 ?hg (N := 35) ?hd (xs := ([136, 186, (a0_0 / 256) % 256, (a0_0) % 256, (a0_1 / 256) % 256, (a0_1) % 256, x5_3, ((l0_3.length : Int)) % 256] : List Int)) (inner := [.int .u8 136, .int .u8 186, .int .u8 ((a0_0 / 256) % 256), .int .u8 ((a0_0) % 256), .int .u8 ((a0_1 / 256) % 256), .int .u8 ((a0_1) % 256), .int .u8 x5_3, .int .u8 (((l0_3.length : Int)) % 256)]) (ok := fun _ => True) (okp := fun _ => True) ?hr ?hp (fun _ hk => hk) trivial (Below.refl _ _) (Nat.le_refl _) (by simp) ?_; (case hd => rfl); (case hg => rfl); (case hr => first | (go_simp; done) | (go_simp; rfl)); (case hp => exact (Reps.one (show Kd.M (Kd.int .u8) _ _ _ 136 [.int .u8 136] from rfl) (Reps.one (show Kd.M (Kd.int .u8) _ _ _ 186 [.int .u8 186] from rfl) (Reps.one (show Kd.M (Kd.int .u8) _ _ _ ((a0_0 / 256) % 256) [.int .u8 ((a0_0 / 256) % 256)] from rfl) (Reps.one (show Kd.M (Kd.int .u8) _ _ _ ((a0_0) % 256) [.int .u8 ((a0_0) % 256)] from rfl) (Reps.one (show Kd.M (Kd.int .u8) _ _ _ ((a0_1 / 256) % 256) [.int .u8 ((a0_1 / 256) % 256)] from rfl) (Reps.one (show Kd.M (Kd.int .u8) _ _ _ ((a0_1) % 256) [.int .u8 ((a0_1) % 256)] from rfl) (Reps.one (show Kd.M (Kd.int .u8) _ _ _ x5_3 [.int .u8 x5_3] from rfl) (Reps.one (show Kd.M (Kd.int .u8) _ _ _ (((l0_3.length : Int)) % 256) [.int .u8 (((l0_3.length : Int)) % 256)] from rfl) (Reps.none _ _)))))))))); intro v128 w11 ho12 hb hg_ hnew_; clear hg_ hnew_; (first | rw [← Ny127.out] at ho12 | (simp only [Int.reduceToNat] at ho12; rw [← Ny127.out] at ho12)); have n0_ := Aside0.mk (Kd.R_lower ho12 (below_size (by repeat (first | (with_reducible first | exact HB.out | apply below_alloc | apply pw_below_drewN | apply below_drew1 | refine below_set ?_ GE125.out) | exact HB.out)))); have n1_ := Aside0.mk (blk_below (g := gb125) (o := .cells #[.int .i64 a0_0, .int .i64 a0_1, .bool a0_2, .slice A0_3 l0_3.length c0_3, .slice A0_4 l0_4.length c0_4] 24 (0, 0)) (by (with_reducible repeat (first | refine blk_drewN ?_ _ | refine blk_drew ?_ | refine blk_alloc ?_ _)); exact BK125.out) hb); have n2_ := Aside0.mk (below_step (by repeat (first | (with_reducible first | exact HB.out | apply below_alloc | apply pw_below_drewN | apply below_drew1 | refine below_set ?_ GE125.out) | exact HB.out)) hb); clear BK125; clear HB; have HO129 := n0_; have BK125 := n1_; have HB := n2_; clear n0_ n1_ n2_; clear hb ho12; have hcz13_0 : w11.cell? ⟨gb125, 0, none⟩ = some (.int .i64 a0_0) := (blk_cell BK125.out 0).trans rfl; have hcz13_1 : w11.cell? ⟨gb125, 1, none⟩ = some (.int .i64 a0_1) := (blk_cell BK125.out 1).trans rfl; have hcz13_2 : w11.cell? ⟨gb125, 2, none⟩ = some (.bool a0_2) := (blk_cell BK125.out 2).trans rfl; have hcz13_3 : w11.cell? ⟨gb125, 3, none⟩ = some (.slice A0_3 l0_3.length c0_3) := (blk_cell BK125.out 3).trans rfl; have hcz13_4 : w11.cell? ⟨gb125, 4, none⟩ = some (.slice A0_4 l0_4.length c0_4) := (blk_cell BK125.out 4).trans rfl; have hfz13_0 := blk_frozen BK125.out 0; have hfz13_1 := blk_frozen BK125.out 1; have hfz13_2 := blk_frozen BK125.out 2; have hfz13_3 := blk_frozen BK125.out 3; have hfz13_4 := blk_frozen BK125.out 4))
        go_loopg [6, 39] kj3 (fun kq v6 v39 w' => ∃ (x6_2 : List Int) (x39_2 : Int), v39 = .int .i64 x39_2 ∧ Aside0 (stream_Encode.l0 kq x6_2 l0_3 (l0_3.length : Int) x39_2 a0_0 a0_1 a0_2 l0_3 l0_4 = some (r1, r2)) ∧ Aside0 (kq ≤ kj3) ∧ Aside0 (Kd.R (Kd.int .u8) 5 w' w.heap.size (fun _ => True) v6 x6_2) ∧ Aside0 (w'.heap[gb125]? = some (.cells #[.int .i64 a0_0, .int .i64 a0_1, .bool a0_2, (.slice A0_3 l0_3.length c0_3), (.slice A0_4 l0_4.length c0_4)] 24 (0, 0))) ∧ Aside0 (Below w.heap.size w w'))
        case atStart => exact ⟨(y127), (0), (by first | rfl | (simp; done) | (simp [*]; done)), H', ⟨Nat.le_refl _⟩, ⟨by (with_reducible repeat (first | apply Kd.R_alloc | apply Kd.R_drewN | apply Kd.R_drew)); exact HO129.out⟩, ⟨by (with_reducible repeat (first | refine blk_drewN ?_ _ | refine blk_drew ?_ | refine blk_alloc ?_ _)); exact BK125.out⟩, ⟨by repeat (first | (with_reducible first | exact HB.out | apply below_alloc | apply pw_below_drewN | apply below_drew1 | refine below_set ?_ GE125.out) | exact HB.out)⟩⟩
        case round =>
          clear H'
          try clear c1
          try clear p2
          try clear c3
          try clear c3b0
          try clear c3b1
          try clear c9
          try clear c10
          try clear hcz10_0
          try clear hcz10_1
          try clear hcz10_2
          try clear hcz10_3
          try clear hcz10_4
          try clear hcz13_0
          try clear hcz13_1
          try clear hcz13_2
          try clear hcz13_3
          try clear hcz13_4
          try clear hcz6_0
          try clear hcz6_1
          try clear hcz6_2
          try clear hcz6_3
          try clear hcz6_4
          try clear hcz8_0
          try clear hcz8_1
          try clear hcz8_2
          try clear hcz8_3
          try clear hcz8_4
          try clear hfz10_0
          try clear hfz10_1
          try clear hfz10_2
          try clear hfz10_3
          try clear hfz10_4
          try clear hfz13_0
          try clear hfz13_1
          try clear hfz13_2
          try clear hfz13_3
          try clear hfz13_4
          try clear hfz6_0
          try clear hfz6_1
          try clear hfz6_2
          try clear hfz6_3
          try clear hfz6_4
          try clear hfz8_0
          try clear hfz8_1
          try clear hfz8_2
          try clear hfz8_3
          try clear hfz8_4
          try clear p2
          obtain ⟨x6_2, x39_2, rfl, HA, HK2, HO_6, BK125, HB⟩ := hrel
          cases gk with
          | zero => exact absurd HA.out (by simp [stream_Encode.l0])
          | succ k2 =>
            have H := HA.out
            clear HA
            simp only [stream_Encode.l0] at H
            by_cases c14 : x39_2 < (l0_3.length : Int)
            · rw [if_pos c14] at H
              have c14b0 : decide (x39_2 < (l0_3.length : Int)) = true := decide_eq_true c14
              clear c14
              by_cases c15 : 0 ≤ x39_2
              · rw [if_pos c15] at H
                have c15b0 : decide (0 ≤ x39_2) = true := decide_eq_true c15
                clear c15
                by_cases c16 : x39_2 < (l0_3.length : Int)
                · rw [if_pos c16] at H
                  have c16b0 : decide (x39_2 < (l0_3.length : Int)) = true := decide_eq_true c16
                  clear c16
                  by_cases c17 : x39_2 < (l0_4.length : Int)
                  · rw [if_pos c17] at H
                    have c17b0 : decide (x39_2 < (l0_4.length : Int)) = true := decide_eq_true c17
                    clear c17
                    obtain ⟨y132, hy132⟩ : ∃ y_ : List Int, y_ = (([((rd l0_3 x39_2) / 256) % 256, (rd l0_3 x39_2) % 256, (rd l0_4 x39_2) % 256] : List Int)) := ⟨_, rfl⟩
                    replace H : (if x6_2.length + y132.length < 140737488355328 then (stream_Encode.l0 k2 (x6_2 ++ y132) l0_3 (l0_3.length : Int) (wrap64 (x39_2 + 1)) a0_0 a0_1 a0_2 l0_3 l0_4) else (none)) = some (r1, r2) := by first | (rw [hy132]; with_reducible exact H) | (have H2_ := (Option.bind_some _ _).symm.trans H; rw [hy132]; with_reducible exact H2_) | (have H2_ := (Option.bind_some _ _).symm.trans H; with_reducible exact H2_) | with_reducible exact H | (rw [hy132]; exact H) | exact H
                    have Ny132 := Aside0.mk hy132
                    clear hy132
                    by_cases c18 : x6_2.length + y132.length < 140737488355328
                    · rw [if_pos c18] at H
                      have LMc18 := Aside0.mk c18
                      clear c18
                      obtain ⟨y135, hy135⟩ : ∃ y_ : List Int, y_ = (x6_2 ++ y132) := ⟨_, rfl⟩
                      replace H : (stream_Encode.l0 k2 y135 l0_3 (l0_3.length : Int) (wrap64 (x39_2 + 1)) a0_0 a0_1 a0_2 l0_3 l0_4) = some (r1, r2) := by first | (rw [hy135]; with_reducible exact H) | (have H2_ := (Option.bind_some _ _).symm.trans H; rw [hy135]; with_reducible exact H2_) | (have H2_ := (Option.bind_some _ _).symm.trans H; with_reducible exact H2_) | with_reducible exact H | (rw [hy135]; exact H) | exact H
                      have Ny135 := Aside0.mk hy135
                      clear hy135
                      have H' := Aside0.mk H
                      clear H
                      have p130 : 0 ≤ (x39_2 : Int) := of_decide_eq_true (by first | (with_reducible assumption) | assumption)
                      have q130 : x39_2 < (l0_3.length : Int) := of_decide_eq_true (by first | (with_reducible assumption) | assumption)
                      obtain ⟨ad130, e130, hx130_0⟩ := Kd.at_int HR0_3.out x39_2 p130 q130
                      cases e130
                      replace hx130_0 := (HB.out.cell (World.block_lt_of_cell? w _ hx130_0)).trans hx130_0
                      replace p130 := eq_true p130
                      replace q130 := eq_true q130
                      have hcz19_0 : wr.cell? ⟨gb125, 0, none⟩ = some (.int .i64 a0_0) := (blk_cell BK125.out 0).trans rfl
                      have hcz19_1 : wr.cell? ⟨gb125, 1, none⟩ = some (.int .i64 a0_1) := (blk_cell BK125.out 1).trans rfl
                      have hcz19_2 : wr.cell? ⟨gb125, 2, none⟩ = some (.bool a0_2) := (blk_cell BK125.out 2).trans rfl
                      have hcz19_3 : wr.cell? ⟨gb125, 3, none⟩ = some (.slice (some ad130) l0_3.length c0_3) := (blk_cell BK125.out 3).trans rfl
                      have hcz19_4 : wr.cell? ⟨gb125, 4, none⟩ = some (.slice A0_4 l0_4.length c0_4) := (blk_cell BK125.out 4).trans rfl
                      have hfz19_0 := blk_frozen BK125.out 0
                      have hfz19_1 := blk_frozen BK125.out 1
                      have hfz19_2 := blk_frozen BK125.out 2
                      have hfz19_3 := blk_frozen BK125.out 3
                      have hfz19_4 := blk_frozen BK125.out 4
                      have p131 : 0 ≤ (x39_2 : Int) := of_decide_eq_true (by first | (with_reducible assumption) | assumption)
                      have q131 : x39_2 < (l0_4.length : Int) := of_decide_eq_true (by first | (with_reducible assumption) | assumption)
                      obtain ⟨ad131, e131, hx131_0⟩ := Kd.at_int HR0_4.out x39_2 p131 q131
                      cases e131
                      replace hx131_0 := (HB.out.cell (World.block_lt_of_cell? w _ hx131_0)).trans hx131_0
                      replace p131 := eq_true p131
                      replace q131 := eq_true q131
                      go_wp2_with (first | ((with_reducible refine gate_dst (N := 56) rfl ?_); refine Kd.R_lit (Kd.int .u8) _ 5 ?hg (N := 56) ?hd (xs := ([((rd l0_3 x39_2) / 256) % 256, (rd l0_3 x39_2) % 256, (rd l0_4 x39_2) % 256] : List Int)) (inner := [.int .u8 (((rd l0_3 x39_2) / 256) % 256), .int .u8 ((rd l0_3 x39_2) % 256), .int .u8 ((rd l0_4 x39_2) % 256)]) (ok := fun _ => True) (okp := fun _ => True) ?hr ?hp (fun _ hk => hk) trivial (Below.refl _ _) (Nat.le_refl _) (by simp) ?_; (case hd => rfl); (case hg => rfl); (case hr => first | (go_simp; done) | (go_simp; rfl)); (case hp => exact (Reps.one (show Kd.M (Kd.int .u8) _ _ _ (((rd l0_3 x39_2) / 256) % 256) [.int .u8 (((rd l0_3 x39_2) / 256) % 256)] from rfl) (Reps.one (show Kd.M (Kd.int .u8) _ _ _ ((rd l0_3 x39_2) % 256) [.int .u8 ((rd l0_3 x39_2) % 256)] from rfl) (Reps.one (show Kd.M (Kd.int .u8) _ _ _ ((rd l0_4 x39_2) % 256) [.int .u8 ((rd l0_4 x39_2) % 256)] from rfl) (Reps.none _ _))))); intro v133 w20 ho21 hb hg_ hnew_; clear hg_ hnew_; (first | rw [← Ny132.out] at ho21 | (simp only [Int.reduceToNat] at ho21; rw [← Ny132.out] at ho21)); have n0_ := Aside0.mk (Kd.R_elder' (by (with_reducible repeat (first | apply Kd.R_alloc | apply Kd.R_drewN | apply Kd.R_drew)); exact HO_6.out) (Kd.R_base ho21) hb); have n1_ := Aside0.mk (Kd.R_lower (Kd.R_new' ho21 (Kd.R_lt (by (with_reducible repeat (first | apply Kd.R_alloc | apply Kd.R_drewN | apply Kd.R_drew)); exact HO_6.out))) (below_size (by repeat (first | (with_reducible first | exact HB.out | apply below_alloc | apply pw_below_drewN | apply below_drew1 | refine below_set ?_ GE125.out) | exact HB.out)))); have n2_ := Aside0.mk (blk_below (g := gb125) (o := .cells #[.int .i64 a0_0, .int .i64 a0_1, .bool a0_2, .slice (some ad130) l0_3.length c0_3, .slice (some ad131) l0_4.length c0_4] 24 (0, 0)) (by (with_reducible repeat (first | refine blk_drewN ?_ _ | refine blk_drew ?_ | refine blk_alloc ?_ _)); exact BK125.out) hb); have n3_ := Aside0.mk (below_step (by repeat (first | (with_reducible first | exact HB.out | apply below_alloc | apply pw_below_drewN | apply below_drew1 | refine below_set ?_ GE125.out) | exact HB.out)) hb); clear HO_6; clear BK125; clear HB; have HO_6 := n0_; have HO134 := n1_; have BK125 := n2_; have HB := n3_; clear n0_ n1_ n2_ n3_; clear hb ho21; obtain ⟨Ao23, co23, eo23⟩ := Kd.R_slice HO134.out; subst eo23) | ((with_reducible refine gate_builtin (b := .append) (xs := #[.tmp 44, .tmp 56]) rfl ?_); at_builtin; refine Kd.R_append_rows (Kd.int .u8) (w0 := w) w.heap.size rfl (.tmp 44) (.tmp 56) 35 5 (.int .u8 0) 1 rfl Try.underlying35 info5 rfl (by decide) (by omega) u6 x6_2 y132 _ _ _ (fun k_ => some k_ ≠ (.slice Ao23 y132.length co23 : Value).ownBlock) (fun _ => False) rfl rfl ?aO ?aR (fun _ _ h => h) (fun _ h => h.elim) ?aF ?aB ?aS ?aL ?_; (case aR => repeat (first | exact (Kd.R_reads' HO134.out).2.2 | (with_reducible refine Kd.C_alloc ?_ _) | (with_reducible refine Kd.C_drewN ?_ _) | (with_reducible refine Kd.C_drew ?_))); (case aB => exact (by repeat (first | (with_reducible first | exact HB.out | apply below_alloc | apply pw_below_drewN | apply below_drew1 | refine below_set ?_ GE125.out) | exact HB.out))); (case aF => exact (fun k_ hk => Kd.fresh' (Kd.R_lt (by (with_reducible repeat (first | apply Kd.R_alloc | apply Kd.R_drewN | apply Kd.R_drew)); exact HO134.out)) k_ hk)); (case aO => exact (by (with_reducible repeat (first | apply Kd.R_alloc | apply Kd.R_drewN | apply Kd.R_drew)); exact Kd.R_mono HO_6.out (fun _ hk => hk.2))); (case aS => exact (below_size (by repeat (first | (with_reducible first | exact HB.out | apply below_alloc | apply pw_below_drewN | apply below_drew1 | refine below_set ?_ GE125.out) | exact HB.out)))); (case aL => have := LMc18.out; omega); intro v136 w22 ho hb hg hat; rw [← Ny135.out] at ho; have n0_ := Aside0.mk (blk_grown (g := gb125) (o := .cells #[.int .i64 a0_0, .int .i64 a0_1, .bool a0_2, .slice (some ad130) l0_3.length c0_3, .slice (some ad131) l0_4.length c0_4] 24 (0, 0)) (by (with_reducible repeat (first | refine blk_drewN ?_ _ | refine blk_drew ?_ | refine blk_alloc ?_ _)); exact BK125.out) hg (Kd.R_ne HO_6.out BK125.out (by decide))); have n1_ := Aside0.mk (Kd.R_after (ok := (fun _ => True)) (by (with_reducible repeat (first | apply Kd.R_alloc | apply Kd.R_drewN | apply Kd.R_drew)); exact HO134.out) hg hat); have n2_ := Aside0.mk (hb); have n3_ := Aside0.mk (ho); clear BK125; clear HO134; clear HB; clear HO_6; have BK125 := n0_; have HO134 := n1_; have HB := n2_; have HO137 := n3_; clear n0_ n1_ n2_ n3_; clear ho hb hg hat))
                      go_roundg k2
                      case measure => have := HJ3.out; have := HK2.out; omega
                      case rel => exact ⟨(y135), (wrap64 (x39_2 + 1)), (by first | rfl | (simp; done) | (simp [*]; done)), H', ⟨by have := HJ3.out; have := HK2.out; omega⟩, ⟨by (with_reducible repeat (first | apply Kd.R_alloc | apply Kd.R_drewN | apply Kd.R_drew)); exact Kd.R_mono HO137.out (fun _ hk => trivial)⟩, ⟨by (with_reducible repeat (first | refine blk_drewN ?_ _ | refine blk_drew ?_ | refine blk_alloc ?_ _)); exact BK125.out⟩, ⟨by repeat (first | (with_reducible first | exact HB.out | apply below_alloc | apply pw_below_drewN | apply below_drew1 | refine below_set ?_ GE125.out) | exact HB.out)⟩⟩
                    · rw [if_neg c18] at H
                      exact absurd H (by simp)
                  · rw [if_neg c17] at H
                    exact absurd H (by simp)
                · rw [if_neg c16] at H
                  exact absurd H (by simp)
              · rw [if_neg c15] at H
                exact absurd H (by simp)
            · rw [if_neg c14] at H
              have c14b0 : decide (x39_2 < (l0_3.length : Int)) = false := decide_eq_false c14
              clear c14
              simp only [Option.some.injEq, Prod.mk.injEq] at H
              obtain ⟨rfl, rfl⟩ := H
              go_wp2
              go_ret2
              exact ⟨_, by first | rfl | (simp [errW_none, errW_some] <;> rfl) | (simp [*, errW_none, errW_some] <;> rfl), by (with_reducible repeat (first | apply Kd.R_alloc | apply Kd.R_drewN | apply Kd.R_drew)); exact HO_6.out, by repeat (first | (with_reducible first | exact HB.out | apply below_alloc | apply pw_below_drewN | apply below_drew1 | refine below_set ?_ GE125.out) | exact HB.out)⟩
  · rw [if_neg c3] at H
    have c3b0 : (t126 == 0) = false := beq_eq_false_iff_ne.mpr c3
    have c3b1 : (t126 != 0) = true := bne_iff_ne.mpr c3
    simp only [Option.some.injEq, Prod.mk.injEq] at H
    obtain ⟨rfl, rfl⟩ := H
    go_enter Try.func17, Try.ntmps17
    go_wp2_with (first | ((with_reducible refine gate_dst (N := 1) rfl ?_); refine box_event ?hg (N := 1) ?hd (cs := #[.int .i64 a0_0, .int .i64 a0_1, .bool a0_2, .slice A0_3 l0_3.length c0_3, .slice A0_4 l0_4.length c0_4]) (t := 24) ?hr ?_; (case hd => rfl); (case hg => rfl); (case hr => first | (go_simp; done) | (go_simp; rfl)); intro gb125 hg w24 hbox hb; have n0_ := Aside0.mk (below_step (by repeat (first | (with_reducible first | exact HB.out | apply below_alloc | apply pw_below_drewN | apply below_drew1) | exact HB.out)) hb); have n1_ := Aside0.mk (hbox); have n2_ := Aside0.mk ((by rw [hg]; exact (below_size (by repeat (first | (with_reducible first | exact HB.out | apply below_alloc | apply pw_below_drewN | apply below_drew1) | exact HB.out))) : w.heap.size ≤ gb125)); have n3_ := Aside0.mk ((by rw [hg]; exact (below_size (by repeat (first | (with_reducible first | exact HB.out | apply below_alloc | apply pw_below_drewN | apply below_drew1) | exact HB.out))) : w.heap.size ≤ gb125)); clear HB; have HB := n0_; have BK125 := n1_; have GW125 := n2_; have GE125 := n3_; clear n0_ n1_ n2_ n3_; clear hb hbox hg; have hcz25_0 : w24.cell? ⟨gb125, 0, none⟩ = some (.int .i64 a0_0) := (blk_cell BK125.out 0).trans rfl; have hcz25_1 : w24.cell? ⟨gb125, 1, none⟩ = some (.int .i64 a0_1) := (blk_cell BK125.out 1).trans rfl; have hcz25_2 : w24.cell? ⟨gb125, 2, none⟩ = some (.bool a0_2) := (blk_cell BK125.out 2).trans rfl; have hcz25_3 : w24.cell? ⟨gb125, 3, none⟩ = some (.slice A0_3 l0_3.length c0_3) := (blk_cell BK125.out 3).trans rfl; have hcz25_4 : w24.cell? ⟨gb125, 4, none⟩ = some (.slice A0_4 l0_4.length c0_4) := (blk_cell BK125.out 4).trans rfl; have hfz25_0 := blk_frozen BK125.out 0; have hfz25_1 := blk_frozen BK125.out 1; have hfz25_2 := blk_frozen BK125.out 2; have hfz25_3 := blk_frozen BK125.out 3; have hfz25_4 := blk_frozen BK125.out 4) | ((with_reducible refine gate_callee (f := 10) rfl ?_); refine goesL_ (some 10) rfl rfl Try.func10 (by kernel_rfl) rfl #[.agg #[.int .i64 a0_0, .int .i64 a0_1, .bool a0_2, .slice A0_3 l0_3.length c0_3, .slice A0_4 l0_4.length c0_4]] rfl (by (try simp only [List.map_toArray, List.map_cons, List.map_nil]); first | done | rfl | (simp only [List.length_drop, List.length_take]; rfl)) ?_; (with_reducible refine (stream_Check.calls k a0_0 a0_1 a0_2 _ _ l0_3 _ _ l0_4 t126 _ ?side1 ?side2 ?side3 ?side4 A2.out).mono ?_); (case side1 => repeat (first | exact (Kd.C_below HR0_3.out HB.out) | (with_reducible refine Kd.C_alloc ?_ _) | (with_reducible refine Kd.C_drewN ?_ _) | (with_reducible refine Kd.C_drew ?_))); (case side2 => exact HC0_3.out); (case side3 => repeat (first | exact (Kd.C_below HR0_4.out HB.out) | (with_reducible refine Kd.C_alloc ?_ _) | (with_reducible refine Kd.C_drewN ?_ _) | (with_reducible refine Kd.C_drew ?_))); (case side4 => exact HC0_4.out); rintro e w26 ⟨rfl, hb⟩; refine ⟨_, rfl, ?_⟩; have n0_ := Aside0.mk (blk_below (g := gb125) (o := .cells #[.int .i64 a0_0, .int .i64 a0_1, .bool a0_2, .slice A0_3 l0_3.length c0_3, .slice A0_4 l0_4.length c0_4] 24 (0, 0)) (by (with_reducible repeat (first | refine blk_drewN ?_ _ | refine blk_drew ?_ | refine blk_alloc ?_ _)); exact BK125.out) hb); have n1_ := Aside0.mk (below_step (by repeat (first | (with_reducible first | exact HB.out | apply below_alloc | apply pw_below_drewN | apply below_drew1 | refine below_set ?_ GE125.out) | exact HB.out)) hb); clear BK125; clear HB; have BK125 := n0_; have HB := n1_; clear n0_ n1_; (try clear hb); (try clear hb2); (try clear hk); (try clear hi)))
    go_ret2
    exact ⟨_, by first | rfl | (simp [errW_none, errW_some] <;> rfl) | (simp [*, errW_none, errW_some] <;> rfl), by first | exact Kd.R_nil _ _ _ _ _ | exact Kd.N_nil _ _ _ _ _ | exact Kd.V_nil _ _ _ _ _ | exact Kd.Q_nil _ _ _ _ _ | exact Kd.S_nil _ _ _ _ _, by repeat (first | (with_reducible first | exact HB.out | apply below_alloc | apply pw_below_drewN | apply below_drew1 | refine below_set ?_ GE125.out) | exact HB.out)⟩

/-! ### substationlaw15_known: function 9 -/
def substationlaw15_known.f (k : Nat)  : Option (Bool) := (stream_Encode.f k 1 2 true (([(-1)] : List Int)) (([0] : List Int))).bind fun bt144 => (if bt144.2 = 0 then (if (strOfNums bt144.1).toList = ([136, 186, 0, 1, 0, 2, 1, 1, 255, 255, 0] : List UInt8) then ((stream_Count.f k 1 3).bind fun t148 => (some (t148 == 15))) else (some false)) else (some false))
theorem substationlaw15_known.mono : ∀ k, LeO (substationlaw15_known.f k ) (substationlaw15_known.f (k + 1) ) := by
  intro  k
  unfold substationlaw15_known.f
  repeat' first
      | (with_reducible exact stream_Count.mono _ _ _)
      | (with_reducible exact stream_Encode.mono _ _ _ _ _ _)
      | (with_reducible exact LeO.refl _)
      | (with_reducible exact LeO.none _)
      | (with_reducible refine LeO.ite ?_ ?_)
      | (with_reducible refine LeO.bind ?_ (fun _ => ?_))
      | exact stream_Count.mono _ _ _
      | exact stream_Encode.mono _ _ _ _ _ _
      | exact LeO.none _
      | refine LeO.ite ?_ ?_
      | refine LeO.bind ?_ (fun _ => ?_)
set_option maxHeartbeats 8000000 in
set_option maxRecDepth 100000 in
theorem substationlaw15_known.calls (k : Nat)  (r : Bool) (w : World) (h : substationlaw15_known.f k  = some r) :
    Calls Try.prog 9 #[] w fun e w' => e = .returned (.bool r) ∧ Below w.heap.size w w' := by
  have hu24 := Try.underlying24
  have HB := Aside0.mk (Below.refl w.heap.size w)
  have H : ((stream_Encode.f k 1 2 true (([(-1)] : List Int)) (([0] : List Int))).bind fun bt144 => (if bt144.2 = 0 then (if (strOfNums bt144.1).toList = ([136, 186, 0, 1, 0, 2, 1, 1, 255, 255, 0] : List UInt8) then ((stream_Count.f k 1 3).bind fun t148 => (some (t148 == 15))) else (some false)) else (some false))) = some r := h
  clear h
  obtain ⟨y138, hy138⟩ : ∃ y_ : List Int, y_ = (([(-1)] : List Int)) := ⟨_, rfl⟩
  replace H : ((stream_Encode.f k 1 2 true y138 (([0] : List Int))).bind fun bt144 => (if bt144.2 = 0 then (if (strOfNums bt144.1).toList = ([136, 186, 0, 1, 0, 2, 1, 1, 255, 255, 0] : List UInt8) then ((stream_Count.f k 1 3).bind fun t148 => (some (t148 == 15))) else (some false)) else (some false))) = some r := by first | (rw [hy138]; with_reducible exact H) | (have H2_ := (Option.bind_some _ _).symm.trans H; rw [hy138]; with_reducible exact H2_) | (have H2_ := (Option.bind_some _ _).symm.trans H; with_reducible exact H2_) | with_reducible exact H | (rw [hy138]; exact H) | exact H
  have Ny138 := Aside0.mk hy138
  clear hy138
  obtain ⟨y141, hy141⟩ : ∃ y_ : List Int, y_ = (([0] : List Int)) := ⟨_, rfl⟩
  replace H : ((stream_Encode.f k 1 2 true y138 y141).bind fun bt144 => (if bt144.2 = 0 then (if (strOfNums bt144.1).toList = ([136, 186, 0, 1, 0, 2, 1, 1, 255, 255, 0] : List UInt8) then ((stream_Count.f k 1 3).bind fun t148 => (some (t148 == 15))) else (some false)) else (some false))) = some r := by first | (rw [hy141]; with_reducible exact H) | (have H2_ := (Option.bind_some _ _).symm.trans H; rw [hy141]; with_reducible exact H2_) | (have H2_ := (Option.bind_some _ _).symm.trans H; with_reducible exact H2_) | with_reducible exact H | (rw [hy141]; exact H) | exact H
  have Ny141 := Aside0.mk hy141
  clear hy141
  replace H := Option.bind_eq_some_iff.mp H
  obtain ⟨⟨t144, t147⟩, A10, H⟩ := H
  replace H : (if t147 = 0 then (if (strOfNums t144).toList = ([136, 186, 0, 1, 0, 2, 1, 1, 255, 255, 0] : List UInt8) then ((stream_Count.f k 1 3).bind fun t148 => (some (t148 == 15))) else (some false)) else (some false)) = some r := H
  have A1 := Aside0.mk A10
  clear A10
  by_cases c2 : t147 = 0
  · rw [if_pos c2] at H
    have c2b0 : (t147 == 0) = true := beq_iff_eq.mpr c2
    have c2b1 : (t147 != 0) = false := bne_eq_false_iff_eq.mpr c2
    clear c2
    by_cases c3 : (strOfNums t144).toList = ([136, 186, 0, 1, 0, 2, 1, 1, 255, 255, 0] : List UInt8)
    · rw [if_pos c3] at H
      have c3b0 : ((strOfNums t144).toList == ([136, 186, 0, 1, 0, 2, 1, 1, 255, 255, 0] : List UInt8)) = true := beq_iff_eq.mpr c3
      have c3b1 : ((strOfNums t144).toList != ([136, 186, 0, 1, 0, 2, 1, 1, 255, 255, 0] : List UInt8)) = false := bne_eq_false_iff_eq.mpr c3
      clear c3
      replace H := Option.bind_eq_some_iff.mp H
      obtain ⟨t148, A40, H⟩ := H
      replace H : (some (t148 == 15)) = some r := H
      have A4 := Aside0.mk A40
      clear A40
      obtain rfl := Option.some.inj H
      go_enter Try.func9, Try.ntmps9
      go_wp2_with (first | ((with_reducible refine gate_dst (N := 4) rfl ?_); refine Kd.R_lit (Kd.int .i64) _ 3 ?hg (N := 4) ?hd (xs := ([(-1)] : List Int)) (inner := [.int .i64 (-1)]) (ok := fun _ => True) (okp := fun _ => True) ?hr ?hp (fun _ hk => hk) trivial (Below.refl _ _) (Nat.le_refl _) (by simp) ?_; (case hd => rfl); (case hg => rfl); (case hr => first | (go_simp; done) | (go_simp; rfl)); (case hp => exact (Reps.one (show Kd.M (Kd.int .i64) _ _ _ (-1) [.int .i64 (-1)] from rfl) (Reps.none _ _))); intro v139 w5 ho6 hb hg_ hnew_; clear hg_ hnew_; (first | rw [← Ny138.out] at ho6 | (simp only [Int.reduceToNat] at ho6; rw [← Ny138.out] at ho6)); have n0_ := Aside0.mk (Kd.R_lower ho6 (below_size (by repeat (first | (with_reducible first | exact HB.out | apply below_alloc | apply pw_below_drewN | apply below_drew1) | exact HB.out)))); have n1_ := Aside0.mk (below_step (by repeat (first | (with_reducible first | exact HB.out | apply below_alloc | apply pw_below_drewN | apply below_drew1) | exact HB.out)) hb); clear HB; have HO140 := n0_; have HB := n1_; clear n0_ n1_; clear hb ho6) | ((with_reducible refine gate_dst (N := 5) rfl ?_); refine Kd.R_lit (Kd.int .i64) _ 3 ?hg (N := 5) ?hd (xs := ([0] : List Int)) (inner := [.int .i64 0]) (ok := fun _ => True) (okp := fun _ => True) ?hr ?hp (fun _ hk => hk) trivial (Below.refl _ _) (Nat.le_refl _) (by simp) ?_; (case hd => rfl); (case hg => rfl); (case hr => first | (go_simp; done) | (go_simp; rfl)); (case hp => exact (Reps.one (show Kd.M (Kd.int .i64) _ _ _ 0 [.int .i64 0] from rfl) (Reps.none _ _))); intro v142 w7 ho8 hb hg_ hnew_; clear hg_ hnew_; (first | rw [← Ny141.out] at ho8 | (simp only [Int.reduceToNat] at ho8; rw [← Ny141.out] at ho8)); have n0_ := Aside0.mk (Kd.R_elder' (by (with_reducible repeat (first | apply Kd.R_alloc | apply Kd.R_drewN | apply Kd.R_drew)); exact HO140.out) (Kd.R_base ho8) hb); have n1_ := Aside0.mk (Kd.R_lower (Kd.R_new' ho8 (Kd.R_lt (by (with_reducible repeat (first | apply Kd.R_alloc | apply Kd.R_drewN | apply Kd.R_drew)); exact HO140.out))) (below_size (by repeat (first | (with_reducible first | exact HB.out | apply below_alloc | apply pw_below_drewN | apply below_drew1) | exact HB.out)))); have n2_ := Aside0.mk (below_step (by repeat (first | (with_reducible first | exact HB.out | apply below_alloc | apply pw_below_drewN | apply below_drew1) | exact HB.out)) hb); clear HO140; clear HB; have HO140 := n0_; have HO143 := n1_; have HB := n2_; clear n0_ n1_ n2_; clear hb ho8; obtain ⟨Ao9, co9, eo9⟩ := Kd.R_slice HO143.out; subst eo9; obtain ⟨Ao10, co10, eo10⟩ := Kd.R_slice HO140.out; subst eo10) | ((with_reducible refine gate_callee (f := 17) rfl ?_); refine goesL_ (some 7) rfl rfl Try.func17 (by kernel_rfl) rfl #[.agg #[.int .i64 1, .int .i64 2, .bool true, .slice Ao10 y138.length co10, .slice Ao9 y141.length co9]] rfl (by (try simp only [List.map_toArray, List.map_cons, List.map_nil]); first | done | rfl | (simp only [List.length_drop, List.length_take]; rfl)) ?_; (with_reducible refine (stream_Encode.calls k 1 2 true _ _ y138 _ _ y141 t144 t147 _ ?side1 ?side2 ?side3 ?side4 A1.out).mono ?_); (case side1 => repeat (first | exact (Kd.R_reads' HO140.out).2.2 | (with_reducible refine Kd.C_alloc ?_ _) | (with_reducible refine Kd.C_drewN ?_ _) | (with_reducible refine Kd.C_drew ?_))); (case side2 => exact (Kd.R_reads' HO140.out).2.1); (case side3 => repeat (first | exact (Kd.R_reads' HO143.out).2.2 | (with_reducible refine Kd.C_alloc ?_ _) | (with_reducible refine Kd.C_drewN ?_ _) | (with_reducible refine Kd.C_drew ?_))); (case side4 => exact (Kd.R_reads' HO143.out).2.1); rintro e w11 ⟨v145, rfl, ho0, hb⟩; refine ⟨_, rfl, ?_⟩; have n0_ := Aside0.mk (Kd.R_below (by (with_reducible repeat (first | apply Kd.R_alloc | apply Kd.R_drewN | apply Kd.R_drew)); exact HO140.out) hb); have n1_ := Aside0.mk (Kd.R_below (by (with_reducible repeat (first | apply Kd.R_alloc | apply Kd.R_drewN | apply Kd.R_drew)); exact HO143.out) hb); have n2_ := Aside0.mk (Kd.R_lower ho0 (below_size (by repeat (first | (with_reducible first | exact HB.out | apply below_alloc | apply pw_below_drewN | apply below_drew1) | exact HB.out)))); have n3_ := Aside0.mk (below_step (by repeat (first | (with_reducible first | exact HB.out | apply below_alloc | apply pw_below_drewN | apply below_drew1) | exact HB.out)) hb); clear HO140; clear HO143; clear HB; have HO140 := n0_; have HO143 := n1_; have HO146 := n2_; have HB := n3_; clear n0_ n1_ n2_ n3_; (try clear hb); (try clear hb2); (try clear hk); (try clear hi); (try clear ho0); have hcv12 := own_string (P := Try.prog) Try.underlying35 Try.underlying5 Try.underlying9 (Kd.own_of_R HO146.out)) | (go_at_call 15; (with_reducible refine (stream_Count.calls k 1 3 t148 _ A4.out).mono ?_); rintro e w13 ⟨rfl, hb⟩; have n0_ := Aside0.mk (Kd.R_below (by (with_reducible repeat (first | apply Kd.R_alloc | apply Kd.R_drewN | apply Kd.R_drew)); exact HO140.out) hb); have n1_ := Aside0.mk (Kd.R_below (by (with_reducible repeat (first | apply Kd.R_alloc | apply Kd.R_drewN | apply Kd.R_drew)); exact HO143.out) hb); have n2_ := Aside0.mk (Kd.R_below (by (with_reducible repeat (first | apply Kd.R_alloc | apply Kd.R_drewN | apply Kd.R_drew)); exact HO146.out) hb); have n3_ := Aside0.mk (below_step (by repeat (first | (with_reducible first | exact HB.out | apply below_alloc | apply pw_below_drewN | apply below_drew1) | exact HB.out)) hb); clear HO140; clear HO143; clear HO146; clear HB; have HO140 := n0_; have HO143 := n1_; have HO146 := n2_; have HB := n3_; clear n0_ n1_ n2_ n3_; (try clear hb); (try clear hb2); (try clear hk); (try clear hi)))
      go_ret
      exact ⟨by first | rfl | (simp [errW_none, errW_some] <;> rfl) | (simp [*, errW_none, errW_some] <;> rfl), by repeat (first | (with_reducible first | exact HB.out | apply below_alloc | apply pw_below_drewN | apply below_drew1) | exact HB.out)⟩
    · rw [if_neg c3] at H
      have c3b0 : ((strOfNums t144).toList == ([136, 186, 0, 1, 0, 2, 1, 1, 255, 255, 0] : List UInt8)) = false := beq_eq_false_iff_ne.mpr c3
      have c3b1 : ((strOfNums t144).toList != ([136, 186, 0, 1, 0, 2, 1, 1, 255, 255, 0] : List UInt8)) = true := bne_iff_ne.mpr c3
      obtain rfl := Option.some.inj H
      go_enter Try.func9, Try.ntmps9
      go_wp2_with (first | ((with_reducible refine gate_dst (N := 4) rfl ?_); refine Kd.R_lit (Kd.int .i64) _ 3 ?hg (N := 4) ?hd (xs := ([(-1)] : List Int)) (inner := [.int .i64 (-1)]) (ok := fun _ => True) (okp := fun _ => True) ?hr ?hp (fun _ hk => hk) trivial (Below.refl _ _) (Nat.le_refl _) (by simp) ?_; (case hd => rfl); (case hg => rfl); (case hr => first | (go_simp; done) | (go_simp; rfl)); (case hp => exact (Reps.one (show Kd.M (Kd.int .i64) _ _ _ (-1) [.int .i64 (-1)] from rfl) (Reps.none _ _))); intro v139 w14 ho15 hb hg_ hnew_; clear hg_ hnew_; (first | rw [← Ny138.out] at ho15 | (simp only [Int.reduceToNat] at ho15; rw [← Ny138.out] at ho15)); have n0_ := Aside0.mk (Kd.R_lower ho15 (below_size (by repeat (first | (with_reducible first | exact HB.out | apply below_alloc | apply pw_below_drewN | apply below_drew1) | exact HB.out)))); have n1_ := Aside0.mk (below_step (by repeat (first | (with_reducible first | exact HB.out | apply below_alloc | apply pw_below_drewN | apply below_drew1) | exact HB.out)) hb); clear HB; have HO140 := n0_; have HB := n1_; clear n0_ n1_; clear hb ho15) | ((with_reducible refine gate_dst (N := 5) rfl ?_); refine Kd.R_lit (Kd.int .i64) _ 3 ?hg (N := 5) ?hd (xs := ([0] : List Int)) (inner := [.int .i64 0]) (ok := fun _ => True) (okp := fun _ => True) ?hr ?hp (fun _ hk => hk) trivial (Below.refl _ _) (Nat.le_refl _) (by simp) ?_; (case hd => rfl); (case hg => rfl); (case hr => first | (go_simp; done) | (go_simp; rfl)); (case hp => exact (Reps.one (show Kd.M (Kd.int .i64) _ _ _ 0 [.int .i64 0] from rfl) (Reps.none _ _))); intro v142 w16 ho17 hb hg_ hnew_; clear hg_ hnew_; (first | rw [← Ny141.out] at ho17 | (simp only [Int.reduceToNat] at ho17; rw [← Ny141.out] at ho17)); have n0_ := Aside0.mk (Kd.R_elder' (by (with_reducible repeat (first | apply Kd.R_alloc | apply Kd.R_drewN | apply Kd.R_drew)); exact HO140.out) (Kd.R_base ho17) hb); have n1_ := Aside0.mk (Kd.R_lower (Kd.R_new' ho17 (Kd.R_lt (by (with_reducible repeat (first | apply Kd.R_alloc | apply Kd.R_drewN | apply Kd.R_drew)); exact HO140.out))) (below_size (by repeat (first | (with_reducible first | exact HB.out | apply below_alloc | apply pw_below_drewN | apply below_drew1) | exact HB.out)))); have n2_ := Aside0.mk (below_step (by repeat (first | (with_reducible first | exact HB.out | apply below_alloc | apply pw_below_drewN | apply below_drew1) | exact HB.out)) hb); clear HO140; clear HB; have HO140 := n0_; have HO143 := n1_; have HB := n2_; clear n0_ n1_ n2_; clear hb ho17; obtain ⟨Ao18, co18, eo18⟩ := Kd.R_slice HO143.out; subst eo18; obtain ⟨Ao19, co19, eo19⟩ := Kd.R_slice HO140.out; subst eo19) | ((with_reducible refine gate_callee (f := 17) rfl ?_); refine goesL_ (some 7) rfl rfl Try.func17 (by kernel_rfl) rfl #[.agg #[.int .i64 1, .int .i64 2, .bool true, .slice Ao19 y138.length co19, .slice Ao18 y141.length co18]] rfl (by (try simp only [List.map_toArray, List.map_cons, List.map_nil]); first | done | rfl | (simp only [List.length_drop, List.length_take]; rfl)) ?_; (with_reducible refine (stream_Encode.calls k 1 2 true _ _ y138 _ _ y141 t144 t147 _ ?side1 ?side2 ?side3 ?side4 A1.out).mono ?_); (case side1 => repeat (first | exact (Kd.R_reads' HO140.out).2.2 | (with_reducible refine Kd.C_alloc ?_ _) | (with_reducible refine Kd.C_drewN ?_ _) | (with_reducible refine Kd.C_drew ?_))); (case side2 => exact (Kd.R_reads' HO140.out).2.1); (case side3 => repeat (first | exact (Kd.R_reads' HO143.out).2.2 | (with_reducible refine Kd.C_alloc ?_ _) | (with_reducible refine Kd.C_drewN ?_ _) | (with_reducible refine Kd.C_drew ?_))); (case side4 => exact (Kd.R_reads' HO143.out).2.1); rintro e w20 ⟨v145, rfl, ho0, hb⟩; refine ⟨_, rfl, ?_⟩; have n0_ := Aside0.mk (Kd.R_below (by (with_reducible repeat (first | apply Kd.R_alloc | apply Kd.R_drewN | apply Kd.R_drew)); exact HO140.out) hb); have n1_ := Aside0.mk (Kd.R_below (by (with_reducible repeat (first | apply Kd.R_alloc | apply Kd.R_drewN | apply Kd.R_drew)); exact HO143.out) hb); have n2_ := Aside0.mk (Kd.R_lower ho0 (below_size (by repeat (first | (with_reducible first | exact HB.out | apply below_alloc | apply pw_below_drewN | apply below_drew1) | exact HB.out)))); have n3_ := Aside0.mk (below_step (by repeat (first | (with_reducible first | exact HB.out | apply below_alloc | apply pw_below_drewN | apply below_drew1) | exact HB.out)) hb); clear HO140; clear HO143; clear HB; have HO140 := n0_; have HO143 := n1_; have HO146 := n2_; have HB := n3_; clear n0_ n1_ n2_ n3_; (try clear hb); (try clear hb2); (try clear hk); (try clear hi); (try clear ho0); have hcv21 := own_string (P := Try.prog) Try.underlying35 Try.underlying5 Try.underlying9 (Kd.own_of_R HO146.out)))
      go_ret
      exact ⟨by first | rfl | (simp [errW_none, errW_some] <;> rfl) | (simp [*, errW_none, errW_some] <;> rfl), by repeat (first | (with_reducible first | exact HB.out | apply below_alloc | apply pw_below_drewN | apply below_drew1) | exact HB.out)⟩
  · rw [if_neg c2] at H
    have c2b0 : (t147 == 0) = false := beq_eq_false_iff_ne.mpr c2
    have c2b1 : (t147 != 0) = true := bne_iff_ne.mpr c2
    obtain rfl := Option.some.inj H
    go_enter Try.func9, Try.ntmps9
    go_wp2_with (first | ((with_reducible refine gate_dst (N := 4) rfl ?_); refine Kd.R_lit (Kd.int .i64) _ 3 ?hg (N := 4) ?hd (xs := ([(-1)] : List Int)) (inner := [.int .i64 (-1)]) (ok := fun _ => True) (okp := fun _ => True) ?hr ?hp (fun _ hk => hk) trivial (Below.refl _ _) (Nat.le_refl _) (by simp) ?_; (case hd => rfl); (case hg => rfl); (case hr => first | (go_simp; done) | (go_simp; rfl)); (case hp => exact (Reps.one (show Kd.M (Kd.int .i64) _ _ _ (-1) [.int .i64 (-1)] from rfl) (Reps.none _ _))); intro v139 w22 ho23 hb hg_ hnew_; clear hg_ hnew_; (first | rw [← Ny138.out] at ho23 | (simp only [Int.reduceToNat] at ho23; rw [← Ny138.out] at ho23)); have n0_ := Aside0.mk (Kd.R_lower ho23 (below_size (by repeat (first | (with_reducible first | exact HB.out | apply below_alloc | apply pw_below_drewN | apply below_drew1) | exact HB.out)))); have n1_ := Aside0.mk (below_step (by repeat (first | (with_reducible first | exact HB.out | apply below_alloc | apply pw_below_drewN | apply below_drew1) | exact HB.out)) hb); clear HB; have HO140 := n0_; have HB := n1_; clear n0_ n1_; clear hb ho23) | ((with_reducible refine gate_dst (N := 5) rfl ?_); refine Kd.R_lit (Kd.int .i64) _ 3 ?hg (N := 5) ?hd (xs := ([0] : List Int)) (inner := [.int .i64 0]) (ok := fun _ => True) (okp := fun _ => True) ?hr ?hp (fun _ hk => hk) trivial (Below.refl _ _) (Nat.le_refl _) (by simp) ?_; (case hd => rfl); (case hg => rfl); (case hr => first | (go_simp; done) | (go_simp; rfl)); (case hp => exact (Reps.one (show Kd.M (Kd.int .i64) _ _ _ 0 [.int .i64 0] from rfl) (Reps.none _ _))); intro v142 w24 ho25 hb hg_ hnew_; clear hg_ hnew_; (first | rw [← Ny141.out] at ho25 | (simp only [Int.reduceToNat] at ho25; rw [← Ny141.out] at ho25)); have n0_ := Aside0.mk (Kd.R_elder' (by (with_reducible repeat (first | apply Kd.R_alloc | apply Kd.R_drewN | apply Kd.R_drew)); exact HO140.out) (Kd.R_base ho25) hb); have n1_ := Aside0.mk (Kd.R_lower (Kd.R_new' ho25 (Kd.R_lt (by (with_reducible repeat (first | apply Kd.R_alloc | apply Kd.R_drewN | apply Kd.R_drew)); exact HO140.out))) (below_size (by repeat (first | (with_reducible first | exact HB.out | apply below_alloc | apply pw_below_drewN | apply below_drew1) | exact HB.out)))); have n2_ := Aside0.mk (below_step (by repeat (first | (with_reducible first | exact HB.out | apply below_alloc | apply pw_below_drewN | apply below_drew1) | exact HB.out)) hb); clear HO140; clear HB; have HO140 := n0_; have HO143 := n1_; have HB := n2_; clear n0_ n1_ n2_; clear hb ho25; obtain ⟨Ao26, co26, eo26⟩ := Kd.R_slice HO143.out; subst eo26; obtain ⟨Ao27, co27, eo27⟩ := Kd.R_slice HO140.out; subst eo27) | ((with_reducible refine gate_callee (f := 17) rfl ?_); refine goesL_ (some 7) rfl rfl Try.func17 (by kernel_rfl) rfl #[.agg #[.int .i64 1, .int .i64 2, .bool true, .slice Ao27 y138.length co27, .slice Ao26 y141.length co26]] rfl (by (try simp only [List.map_toArray, List.map_cons, List.map_nil]); first | done | rfl | (simp only [List.length_drop, List.length_take]; rfl)) ?_; (with_reducible refine (stream_Encode.calls k 1 2 true _ _ y138 _ _ y141 t144 t147 _ ?side1 ?side2 ?side3 ?side4 A1.out).mono ?_); (case side1 => repeat (first | exact (Kd.R_reads' HO140.out).2.2 | (with_reducible refine Kd.C_alloc ?_ _) | (with_reducible refine Kd.C_drewN ?_ _) | (with_reducible refine Kd.C_drew ?_))); (case side2 => exact (Kd.R_reads' HO140.out).2.1); (case side3 => repeat (first | exact (Kd.R_reads' HO143.out).2.2 | (with_reducible refine Kd.C_alloc ?_ _) | (with_reducible refine Kd.C_drewN ?_ _) | (with_reducible refine Kd.C_drew ?_))); (case side4 => exact (Kd.R_reads' HO143.out).2.1); rintro e w28 ⟨v145, rfl, ho0, hb⟩; refine ⟨_, rfl, ?_⟩; have n0_ := Aside0.mk (Kd.R_below (by (with_reducible repeat (first | apply Kd.R_alloc | apply Kd.R_drewN | apply Kd.R_drew)); exact HO140.out) hb); have n1_ := Aside0.mk (Kd.R_below (by (with_reducible repeat (first | apply Kd.R_alloc | apply Kd.R_drewN | apply Kd.R_drew)); exact HO143.out) hb); have n2_ := Aside0.mk (Kd.R_lower ho0 (below_size (by repeat (first | (with_reducible first | exact HB.out | apply below_alloc | apply pw_below_drewN | apply below_drew1) | exact HB.out)))); have n3_ := Aside0.mk (below_step (by repeat (first | (with_reducible first | exact HB.out | apply below_alloc | apply pw_below_drewN | apply below_drew1) | exact HB.out)) hb); clear HO140; clear HO143; clear HB; have HO140 := n0_; have HO143 := n1_; have HO146 := n2_; have HB := n3_; clear n0_ n1_ n2_ n3_; (try clear hb); (try clear hb2); (try clear hk); (try clear hi); (try clear ho0)))
    go_ret
    exact ⟨by first | rfl | (simp [errW_none, errW_some] <;> rfl) | (simp [*, errW_none, errW_some] <;> rfl), by repeat (first | (with_reducible first | exact HB.out | apply below_alloc | apply pw_below_drewN | apply below_drew1) | exact HB.out)⟩

/-! ### substationref15_between: function 30 -/
def substationref15_between.f (a0 : Int) (a1 : Int) (a2 : Int) : Option (Bool) := if a0 ≥ a1 then (some (decide (a0 ≤ a2))) else (some false)
set_option maxHeartbeats 8000000 in
set_option maxRecDepth 100000 in
theorem substationref15_between.calls (a0 : Int) (a1 : Int) (a2 : Int) (r : Bool) (w : World) (h : substationref15_between.f a0 a1 a2 = some r) :
    Calls Try.prog 30 #[.int .i64 a0, .int .i64 a1, .int .i64 a2] w fun e w' => e = .returned (.bool r) ∧ Drawn0 w w' := by
  have H : (if a0 ≥ a1 then (some (decide (a0 ≤ a2))) else (some false)) = some r := h
  clear h
  by_cases c4 : a0 ≥ a1
  · rw [if_pos c4] at H
    have c4b0 : decide (a1 ≤ a0) = true := decide_eq_true c4
    clear c4
    obtain rfl := Option.some.inj H
    go_enter Try.func30, Try.ntmps30
    go_wp2
    go_ret
    exact ⟨by first | rfl | (simp; done) | (simp [*]; done), by repeat (first | exact Drawn0.refl _ | apply Drawn0.step)⟩
  · rw [if_neg c4] at H
    have c4b0 : decide (a1 ≤ a0) = false := decide_eq_false c4
    clear c4
    obtain rfl := Option.some.inj H
    go_enter Try.func30, Try.ntmps30
    go_wp2
    go_ret
    exact ⟨by first | rfl | (simp; done) | (simp [*]; done), by repeat (first | exact Drawn0.refl _ | apply Drawn0.step)⟩

end Go.Proofs.Ytlfphopfoicjpaa.PAll
