-- PRINTED BY print.sh 35421559b90ae4d0a3588c463048766b98c2df88dd9212a6774a882060cdf62d: not written by this session
import Derived.Test.YtmppijipaocfiaaPAllx0
import Derived.Test.YtmppijipaocfiaaPAllx2
import Derived.Test.YtmppijipaocfiaaPAllx9
namespace Go.Proofs.Ytmppijipaocfiaa.PAll
open Go.RowKit Go.Proofs.YtmppijipaocfiaaW.PrintWords Go.Proofs.YtmppijipaocfiaaW.PrintLast Go.Proofs.YtmppijipaocfiaaW.PrintMore
attribute [local go_sem] max2_int min2_int max_two min_two max_three min_three max_four min_four   -- for this text's walks alone
set_option linter.unusedVariables false
set_option linter.unusedSimpArgs false

attribute [local go_sem high] eqA40
/-! ### breaker_Valid: function 27 -/
mutual
def breaker_Valid.j0 : Nat → Bool → Bool → Bool → Int → Bool → Option (Bool)
  | 0, _, _, _, _, _ => none
  | k + 1, x5, x290000, x290001, x290002, x290003 => if x5 = true then (some false) else ((breaker_New.f x290000).bind fun bt290 => (if (x290000 == bt290.1 && (x290001 == bt290.2.1 && (x290002 == bt290.2.2.1 && (x290003 == bt290.2.2.2)))) = true then (some true) else (if x290002 = 0 then (breaker_Valid.j1 k x290001 x290000 x290001 x290002 x290003) else (breaker_Valid.j1 k false x290000 x290001 x290002 x290003))))
def breaker_Valid.j1 : Nat → Bool → Bool → Bool → Int → Bool → Option (Bool)
  | 0, _, _, _, _, _ => none
  | k + 1, x29, x290000, x290001, x290002, x290003 => if x29 = true then (some false) else (if x290002 > 0 then (if (x290000 == x290001) = true then (some false) else (if x290000 = true then (some true) else (some (!x290003)))) else (if x290000 = true then (some true) else (some (!x290003))))
end
def breaker_Valid.f (k : Nat) (a0_0 : Bool) (a0_1 : Bool) (a0_2 : Int) (a0_3 : Bool) (a1 : Int) : Option (Bool) := if a1 < 1 then (breaker_Valid.j0 k true a0_0 a0_1 a0_2 a0_3) else (if a1 > 6 then (breaker_Valid.j0 k true a0_0 a0_1 a0_2 a0_3) else (if a0_2 < 0 then (breaker_Valid.j0 k true a0_0 a0_1 a0_2 a0_3) else (breaker_Valid.j0 k (decide (a0_2 > a1)) a0_0 a0_1 a0_2 a0_3)))
theorem breaker_Valid.mono_l : ∀ k, (∀ y0 y1 y2 y3 y4, LeO (breaker_Valid.j0 k y0 y1 y2 y3 y4) (breaker_Valid.j0 (k + 1) y0 y1 y2 y3 y4)) ∧ (∀ y0 y1 y2 y3 y4, LeO (breaker_Valid.j1 k y0 y1 y2 y3 y4) (breaker_Valid.j1 (k + 1) y0 y1 y2 y3 y4))
  | 0 => ⟨fun _ _ _ _ _ r h => by simp [breaker_Valid.j0] at h, fun _ _ _ _ _ r h => by simp [breaker_Valid.j1] at h⟩
  | k + 1 => by
    obtain ⟨ih0, ih1⟩ := breaker_Valid.mono_l k
    refine ⟨?_, ?_⟩
    · intro y0 y1 y2 y3 y4
      unfold breaker_Valid.j0
      repeat' first
      | (with_reducible exact ih0 _ _ _ _ _)
      | (with_reducible exact ih1 _ _ _ _ _)
      | (with_reducible exact LeO.refl _)
      | (with_reducible exact LeO.none _)
      | (with_reducible refine LeO.ite ?_ ?_)
      | (with_reducible refine LeO.bind ?_ (fun _ => ?_))
      | exact ih0 _ _ _ _ _
      | exact ih1 _ _ _ _ _
      | exact LeO.none _
      | refine LeO.ite ?_ ?_
      | refine LeO.bind ?_ (fun _ => ?_)
    · intro y0 y1 y2 y3 y4
      unfold breaker_Valid.j1
      repeat' first
      | (with_reducible exact ih0 _ _ _ _ _)
      | (with_reducible exact ih1 _ _ _ _ _)
      | (with_reducible exact LeO.refl _)
      | (with_reducible exact LeO.none _)
      | (with_reducible refine LeO.ite ?_ ?_)
      | (with_reducible refine LeO.bind ?_ (fun _ => ?_))
      | exact ih0 _ _ _ _ _
      | exact ih1 _ _ _ _ _
      | exact LeO.none _
      | refine LeO.ite ?_ ?_
      | refine LeO.bind ?_ (fun _ => ?_)
theorem breaker_Valid.mono : ∀ a0 a1 a2 a3 a4 k, LeO (breaker_Valid.f k a0 a1 a2 a3 a4) (breaker_Valid.f (k + 1) a0 a1 a2 a3 a4) := by
  intro a0 a1 a2 a3 a4 k
  obtain ⟨ih0, ih1⟩ := breaker_Valid.mono_l k
  unfold breaker_Valid.f
  repeat' first
      | (with_reducible exact ih0 _ _ _ _ _)
      | (with_reducible exact ih1 _ _ _ _ _)
      | (with_reducible exact LeO.refl _)
      | (with_reducible exact LeO.none _)
      | (with_reducible refine LeO.ite ?_ ?_)
      | (with_reducible refine LeO.bind ?_ (fun _ => ?_))
      | exact ih0 _ _ _ _ _
      | exact ih1 _ _ _ _ _
      | exact LeO.none _
      | refine LeO.ite ?_ ?_
      | refine LeO.bind ?_ (fun _ => ?_)
set_option maxHeartbeats 8000000 in
set_option maxRecDepth 100000 in
theorem breaker_Valid.calls (k : Nat) (a0_0 : Bool) (a0_1 : Bool) (a0_2 : Int) (a0_3 : Bool) (a1 : Int) (r : Bool) (w : World) (h : breaker_Valid.f k a0_0 a0_1 a0_2 a0_3 a1 = some r) :
    Calls Try.prog 27 #[.agg #[.bool a0_0, .bool a0_1, .int .i64 a0_2, .bool a0_3], .int .i64 a1] w fun e w' => e = .returned (.bool r) ∧ Below w.heap.size w w' := by
  have hu40 := Try.underlying40
  have HB := Aside0.mk (Below.refl w.heap.size w)
  have H : (if a1 < 1 then (breaker_Valid.j0 k true a0_0 a0_1 a0_2 a0_3) else (if a1 > 6 then (breaker_Valid.j0 k true a0_0 a0_1 a0_2 a0_3) else (if a0_2 < 0 then (breaker_Valid.j0 k true a0_0 a0_1 a0_2 a0_3) else (breaker_Valid.j0 k (decide (a0_2 > a1)) a0_0 a0_1 a0_2 a0_3)))) = some r := h
  clear h
  have HC3 := Aside0.mk H
  clear H
  go_enter Try.func27, Try.ntmps27
  go_upto_region 1 with (first | ((with_reducible refine gate_dst (N := 2) rfl ?_); refine box_event ?hg (N := 2) ?hd (cs := #[.bool a0_0, .bool a0_1, .int .i64 a0_2, .bool a0_3]) (t := 40) ?hr ?_; (case hd => rfl); (case hg => rfl); (case hr => first | (go_simp; done) | (go_simp; rfl)); intro gb289 hg w4 hbox hb; have n0_ := Aside0.mk (below_step (by repeat (first | (with_reducible first | exact HB.out | apply below_alloc | apply pw_below_drewN | apply below_drew1) | exact HB.out)) hb); have n1_ := Aside0.mk (hbox); have n2_ := Aside0.mk ((by rw [hg]; exact (below_size (by repeat (first | (with_reducible first | exact HB.out | apply below_alloc | apply pw_below_drewN | apply below_drew1) | exact HB.out))) : w.heap.size ≤ gb289)); have n3_ := Aside0.mk ((by rw [hg]; exact (below_size (by repeat (first | (with_reducible first | exact HB.out | apply below_alloc | apply pw_below_drewN | apply below_drew1) | exact HB.out))) : w.heap.size ≤ gb289)); clear HB; have HB := n0_; have BK289 := n1_; have GW289 := n2_; have GE289 := n3_; clear n0_ n1_ n2_ n3_; clear hb hbox hg))
  (try simp only [Act.put, List.setIfInBounds_toArray, List.set_cons_zero, List.set_cons_succ])
  go_cut [5] (fun v5 wc => ∃ (kq : Nat) (x5_2 : Bool), v5 = .bool x5_2 ∧ Aside0 (breaker_Valid.j0 kq x5_2 a0_0 a0_1 a0_2 a0_3 = some r) ∧ Aside0 (kq ≤ k) ∧ Aside0 (wc.heap[gb289]? = some (.cells #[.bool a0_0, .bool a0_1, .int .i64 a0_2, .bool a0_3] 40 (0, 0))) ∧ Aside0 (Below w.heap.size w wc))
  case first =>
    have H := HC3.out
    clear HC3
    by_cases c5 : a1 < 1
    · rw [if_pos c5] at H
      have c5b0 : decide (a1 < 1) = true := decide_eq_true c5
      clear c5
      (first | rw [c5b0] | (simp only [i64_w, i32_w]; rw [c5b0]) | skip)
      have H' := Aside0.mk H
      clear H
      go_wp2
      go_meet
      case rel => exact ⟨_, (true), (by first | rfl | (simp; done) | (simp [*]; done)), H', ⟨by first | omega | exact Nat.le_refl _⟩, ⟨by (with_reducible repeat (first | refine blk_drewN ?_ _ | refine blk_drew ?_ | refine blk_alloc ?_ _)); exact BK289.out⟩, ⟨by repeat (first | (with_reducible first | exact HB.out | apply below_alloc | apply pw_below_drewN | apply below_drew1 | refine below_set ?_ GE289.out) | exact HB.out)⟩⟩
    · rw [if_neg c5] at H
      have c5b0 : decide (a1 < 1) = false := decide_eq_false c5
      clear c5
      (first | rw [c5b0] | (simp only [i64_w, i32_w]; rw [c5b0]) | skip)
      by_cases c6 : a1 > 6
      · rw [if_pos c6] at H
        have c6b0 : decide (6 < a1) = true := decide_eq_true c6
        clear c6
        have H' := Aside0.mk H
        clear H
        go_wp2
        go_meet
        case rel => exact ⟨_, (true), (by first | rfl | (simp; done) | (simp [*]; done)), H', ⟨by first | omega | exact Nat.le_refl _⟩, ⟨by (with_reducible repeat (first | refine blk_drewN ?_ _ | refine blk_drew ?_ | refine blk_alloc ?_ _)); exact BK289.out⟩, ⟨by repeat (first | (with_reducible first | exact HB.out | apply below_alloc | apply pw_below_drewN | apply below_drew1 | refine below_set ?_ GE289.out) | exact HB.out)⟩⟩
      · rw [if_neg c6] at H
        have c6b0 : decide (6 < a1) = false := decide_eq_false c6
        clear c6
        by_cases c7 : a0_2 < 0
        · rw [if_pos c7] at H
          have c7b0 : decide (a0_2 < 0) = true := decide_eq_true c7
          clear c7
          have H' := Aside0.mk H
          clear H
          have hcz8_0 : w4.cell? ⟨gb289, 0, none⟩ = some (.bool a0_0) := (blk_cell BK289.out 0).trans rfl
          have hcz8_1 : w4.cell? ⟨gb289, 1, none⟩ = some (.bool a0_1) := (blk_cell BK289.out 1).trans rfl
          have hcz8_2 : w4.cell? ⟨gb289, 2, none⟩ = some (.int .i64 a0_2) := (blk_cell BK289.out 2).trans rfl
          have hcz8_3 : w4.cell? ⟨gb289, 3, none⟩ = some (.bool a0_3) := (blk_cell BK289.out 3).trans rfl
          have hfz8_0 := blk_frozen BK289.out 0
          have hfz8_1 := blk_frozen BK289.out 1
          have hfz8_2 := blk_frozen BK289.out 2
          have hfz8_3 := blk_frozen BK289.out 3
          go_wp2
          go_meet
          case rel => exact ⟨_, (true), (by first | rfl | (simp; done) | (simp [*]; done)), H', ⟨by first | omega | exact Nat.le_refl _⟩, ⟨by (with_reducible repeat (first | refine blk_drewN ?_ _ | refine blk_drew ?_ | refine blk_alloc ?_ _)); exact BK289.out⟩, ⟨by repeat (first | (with_reducible first | exact HB.out | apply below_alloc | apply pw_below_drewN | apply below_drew1 | refine below_set ?_ GE289.out) | exact HB.out)⟩⟩
        · rw [if_neg c7] at H
          have c7b0 : decide (a0_2 < 0) = false := decide_eq_false c7
          clear c7
          have H' := Aside0.mk H
          clear H
          have hcz9_0 : w4.cell? ⟨gb289, 0, none⟩ = some (.bool a0_0) := (blk_cell BK289.out 0).trans rfl
          have hcz9_1 : w4.cell? ⟨gb289, 1, none⟩ = some (.bool a0_1) := (blk_cell BK289.out 1).trans rfl
          have hcz9_2 : w4.cell? ⟨gb289, 2, none⟩ = some (.int .i64 a0_2) := (blk_cell BK289.out 2).trans rfl
          have hcz9_3 : w4.cell? ⟨gb289, 3, none⟩ = some (.bool a0_3) := (blk_cell BK289.out 3).trans rfl
          have hfz9_0 := blk_frozen BK289.out 0
          have hfz9_1 := blk_frozen BK289.out 1
          have hfz9_2 := blk_frozen BK289.out 2
          have hfz9_3 := blk_frozen BK289.out 3
          go_wp2
          go_meet
          case rel => exact ⟨_, (decide (a0_2 > a1)), (by first | rfl | (simp; done) | (simp [*]; done)), H', ⟨by first | omega | exact Nat.le_refl _⟩, ⟨by (with_reducible repeat (first | refine blk_drewN ?_ _ | refine blk_drew ?_ | refine blk_alloc ?_ _)); exact BK289.out⟩, ⟨by repeat (first | (with_reducible first | exact HB.out | apply below_alloc | apply pw_below_drewN | apply below_drew1 | refine below_set ?_ GE289.out) | exact HB.out)⟩⟩
  case rest =>
    clear HC3
    try clear c2
    try clear p2
    try clear c5
    try clear c5b0
    try clear c6
    try clear c6b0
    try clear c7
    try clear c7b0
    try clear hcz8_0
    try clear hcz8_1
    try clear hcz8_2
    try clear hcz8_3
    try clear hcz9_0
    try clear hcz9_1
    try clear hcz9_2
    try clear hcz9_3
    try clear hfz8_0
    try clear hfz8_1
    try clear hfz8_2
    try clear hfz8_3
    try clear hfz9_0
    try clear hfz9_1
    try clear hfz9_2
    try clear hfz9_3
    obtain ⟨kq, x5_2, rfl, HA, HJ2, BK289, HB⟩ := hcut
    cases kq with
    | zero => exact absurd HA.out (by simp [breaker_Valid.j0])
    | succ kj2 =>
      have H := HA.out
      clear HA
      simp only [breaker_Valid.j0] at H
      by_cases c10 : x5_2 = true
      · subst c10
        have H1 : (some false) = some r := by rw [if_pos rfl] at H; exact H
        clear H
        have H := H1
        clear H1
        obtain rfl := Option.some.inj H
        go_wp2
        go_ret
        exact ⟨by first | rfl | (simp [errW_none, errW_some] <;> rfl) | (simp [*, errW_none, errW_some] <;> rfl), by repeat (first | (with_reducible first | exact HB.out | apply below_alloc | apply pw_below_drewN | apply below_drew1 | refine below_set ?_ GE289.out) | exact HB.out)⟩
      · replace c10 := Bool.eq_false_iff.mpr c10
        subst c10
        have H1 : ((breaker_New.f a0_0).bind fun bt290 => (if (a0_0 == bt290.1 && (a0_1 == bt290.2.1 && (a0_2 == bt290.2.2.1 && (a0_3 == bt290.2.2.2)))) = true then (some true) else (if a0_2 = 0 then (breaker_Valid.j1 kj2 a0_1 a0_0 a0_1 a0_2 a0_3) else (breaker_Valid.j1 kj2 false a0_0 a0_1 a0_2 a0_3)))) = some r := by rw [if_neg (show ¬ (false = true) by decide)] at H; exact H
        clear H
        have H := H1
        clear H1
        replace H := Option.bind_eq_some_iff.mp H
        obtain ⟨⟨t290, t291, t292, t293⟩, A110, H⟩ := H
        replace H : (if (a0_0 == t290 && (a0_1 == t291 && (a0_2 == t292 && (a0_3 == t293)))) = true then (some true) else (if a0_2 = 0 then (breaker_Valid.j1 kj2 a0_1 a0_0 a0_1 a0_2 a0_3) else (breaker_Valid.j1 kj2 false a0_0 a0_1 a0_2 a0_3))) = some r := H
        have A11 := Aside0.mk A110
        clear A110
        by_cases c12 : (a0_0 == t290 && (a0_1 == t291 && (a0_2 == t292 && (a0_3 == t293)))) = true
        · rw [if_pos c12] at H
          have c12b0 : (a0_0 == t290 && (a0_1 == t291 && (a0_2 == t292 && (a0_3 == t293)))) = true := c12
          (try (have c12b1 : decide (a0_0 = t290 && (a0_1 == t291 && (a0_2 == t292 && (a0_3 == t293)))) = true := by simpa using c12))
          (try (have c12b2 : (a0_0 == t290 && (a0_1 == t291 && (a0_2 == t292 && (a0_3 == t293)))) = true := by simpa using c12))
          clear c12
          obtain rfl := Option.some.inj H
          try go_wp2
          have n0_ := Aside0.mk (blk_drew BK289.out)
          have n1_ := Aside0.mk (below_drew1 HB.out)
          clear BK289
          clear HB
          have BK289 := n0_
          have HB := n1_
          clear n0_ n1_
          refine start_ (n := 6) (S := fun w' => w'.cell? ⟨gb289, 0, none⟩ = some (.bool a0_0) ∧ w'.cell? ⟨gb289, 1, none⟩ = some (.bool a0_1) ∧ w'.cell? ⟨gb289, 2, none⟩ = some (.int .i64 a0_2) ∧ w'.cell? ⟨gb289, 3, none⟩ = some (.bool a0_3)) (ds := []) #[false, false, false, false, false, false] (by kernel_rfl) rfl rfl ⟨(blk_cell BK289.out 0).trans rfl, (blk_cell BK289.out 1).trans rfl, (blk_cell BK289.out 2).trans rfl, (blk_cell BK289.out 3).trans rfl⟩ (fun hHeld => ?_)
          generalize wc.drew = w13 at BK289 HB hHeld ⊢
          refine pure_ (i := 1) (N := some 25) (v := ?_) (a' := ?_) #[false, true, false, false, false, false] rfl rfl (by kernel_rfl) (fun _ _ _ h => h) (Or.inl ⟨by rfl, ?_⟩) ?_ ?_
          rotate_left
          · intro w'
            go_simp
            with_reducible rfl
          rotate_left
          · simp only [Act.put, List.setIfInBounds_toArray, List.set_cons_zero, List.set_cons_succ, i64_w, i32_w]
            rfl
          refine take_ (i := 0) (N := some 24) (v := ?_) (a' := ?_) #[true, true, false, false, false, false] rfl rfl (by kernel_rfl) (fun _ _ _ h => h) (Or.inl ⟨by rfl, ?_⟩) hHeld ?_ ?_
          rotate_left
          · rintro w' ⟨s0, s1, s2, s3⟩
            go_simp
            with_reducible rfl
          rotate_left
          · simp only [Act.put, List.setIfInBounds_toArray, List.set_cons_zero, List.set_cons_succ, i64_w, i32_w]
            rfl
          refine take_ (i := 2) (N := some 26) (v := ?_) (a' := ?_) #[true, true, true, false, false, false] rfl rfl (by kernel_rfl) (fun _ _ _ h => h) (Or.inl ⟨by rfl, ?_⟩) hHeld ?_ ?_
          rotate_left
          · rintro w' ⟨s0, s1, s2, s3⟩
            go_simp
            with_reducible rfl
          rotate_left
          · simp only [Act.put, List.setIfInBounds_toArray, List.set_cons_zero, List.set_cons_succ, i64_w, i32_w]
            rfl
          refine one_ (i := 3) (N := some 27) #[true, true, true, true, false, false] rfl rfl (by kernel_rfl) (by decide) (fun K hK => ?_)
          refine goes_ Try.func17 (by kernel_rfl) rfl #[.bool a0_0] (by rfl) rfl rfl (by (try simp only [List.map_toArray, List.map_cons, List.map_nil]); first | done | rfl | (simp only [List.length_drop, List.length_take]; rfl)) ?_
          with_reducible refine (breaker_New.calls a0_0 t290 t291 t292 t293 _ A11.out).mono ?_
          rintro e w14 ⟨rfl, hb⟩
          refine ⟨_, rfl, ?_⟩
          have n0_ := Aside0.mk (blk_below (g := gb289) (o := .cells #[.bool a0_0, .bool a0_1, .int .i64 a0_2, .bool a0_3] 40 (0, 0)) (by (with_reducible repeat (first | refine blk_drewN ?_ _ | refine blk_drew ?_ | refine blk_alloc ?_ _)); exact BK289.out) hb)
          have n1_ := Aside0.mk (below_step (by repeat (first | (with_reducible first | exact HB.out | apply below_alloc | apply pw_below_drewN | apply below_drew1 | refine below_set ?_ GE289.out) | exact HB.out)) hb)
          clear BK289
          clear HB
          have BK289 := n0_
          have HB := n1_
          clear n0_ n1_
          (try clear hb)
          (try clear hb2)
          (try clear hk)
          (try clear hi)
          refine hK.out _ _ ⟨(blk_cell BK289.out 0).trans rfl, (blk_cell BK289.out 1).trans rfl, (blk_cell BK289.out 2).trans rfl, (blk_cell BK289.out 3).trans rfl⟩ (fun hHeld => ?_)
          clear hK K
          refine norm_ (a' := ?_) ?_ ?_
          rotate_left
          · show Act.put _ (some 27) _ = _
            simp only [Act.put, List.setIfInBounds_toArray, List.set_cons_zero, List.set_cons_succ, i64_w, i32_w]
            rfl
          refine pure_ (i := 4) (N := some 28) (v := ?_) (a' := ?_) #[true, true, true, true, true, false] rfl rfl (by kernel_rfl) (fun _ _ _ h => h) (Or.inl ⟨by rfl, ?_⟩) ?_ ?_
          rotate_left
          · intro w'
            go_simp
            with_reducible rfl
          rotate_left
          · simp only [Act.put, List.setIfInBounds_toArray, List.set_cons_zero, List.set_cons_succ, i64_w, i32_w]
            rfl
          refine pure_ (i := 5) (N := some 23) (v := ?_) (a' := ?_) #[true, true, true, true, true, true] rfl rfl (by kernel_rfl) (fun _ _ _ h => h) (Or.inl ⟨by rfl, ?_⟩) ?_ ?_
          rotate_left
          · intro w'
            go_simp
            with_reducible rfl
          rotate_left
          · simp only [Act.put, List.setIfInBounds_toArray, List.set_cons_zero, List.set_cons_succ, i64_w, i32_w]
            rfl
          refine done_ (by kernel_rfl) ?_
          try go_wp2
          go_ret
          exact ⟨by first | rfl | (simp [errW_none, errW_some] <;> rfl) | (simp [*, errW_none, errW_some] <;> rfl), by repeat (first | (with_reducible first | exact HB.out | apply below_alloc | apply pw_below_drewN | apply below_drew1 | refine below_set ?_ GE289.out) | exact HB.out)⟩
        · rw [if_neg c12] at H
          have c12b0 : (a0_0 == t290 && (a0_1 == t291 && (a0_2 == t292 && (a0_3 == t293)))) = false := by simpa using c12
          (try (have c12b1 : decide (a0_0 = t290 && (a0_1 == t291 && (a0_2 == t292 && (a0_3 == t293)))) = false := by simpa using c12))
          (try (have c12b2 : (a0_0 == t290 && (a0_1 == t291 && (a0_2 == t292 && (a0_3 == t293)))) = false := by simpa using c12))
          (try (have c12b3 : ¬ (a0_0 = t290 && (a0_1 == t291 && (a0_2 == t292 && (a0_3 == t293)))) := by simpa using c12))
          clear c12
          have HC15 := Aside0.mk H
          clear H
          try go_wp2
          have n0_ := Aside0.mk (blk_drew BK289.out)
          have n1_ := Aside0.mk (below_drew1 HB.out)
          clear BK289
          clear HB
          have BK289 := n0_
          have HB := n1_
          clear n0_ n1_
          refine start_ (n := 6) (S := fun w' => w'.cell? ⟨gb289, 0, none⟩ = some (.bool a0_0) ∧ w'.cell? ⟨gb289, 1, none⟩ = some (.bool a0_1) ∧ w'.cell? ⟨gb289, 2, none⟩ = some (.int .i64 a0_2) ∧ w'.cell? ⟨gb289, 3, none⟩ = some (.bool a0_3)) (ds := []) #[false, false, false, false, false, false] (by kernel_rfl) rfl rfl ⟨(blk_cell BK289.out 0).trans rfl, (blk_cell BK289.out 1).trans rfl, (blk_cell BK289.out 2).trans rfl, (blk_cell BK289.out 3).trans rfl⟩ (fun hHeld => ?_)
          generalize wc.drew = w16 at BK289 HB hHeld ⊢
          refine pure_ (i := 1) (N := some 25) (v := ?_) (a' := ?_) #[false, true, false, false, false, false] rfl rfl (by kernel_rfl) (fun _ _ _ h => h) (Or.inl ⟨by rfl, ?_⟩) ?_ ?_
          rotate_left
          · intro w'
            go_simp
            with_reducible rfl
          rotate_left
          · simp only [Act.put, List.setIfInBounds_toArray, List.set_cons_zero, List.set_cons_succ, i64_w, i32_w]
            rfl
          refine take_ (i := 0) (N := some 24) (v := ?_) (a' := ?_) #[true, true, false, false, false, false] rfl rfl (by kernel_rfl) (fun _ _ _ h => h) (Or.inl ⟨by rfl, ?_⟩) hHeld ?_ ?_
          rotate_left
          · rintro w' ⟨s0, s1, s2, s3⟩
            go_simp
            with_reducible rfl
          rotate_left
          · simp only [Act.put, List.setIfInBounds_toArray, List.set_cons_zero, List.set_cons_succ, i64_w, i32_w]
            rfl
          refine take_ (i := 2) (N := some 26) (v := ?_) (a' := ?_) #[true, true, true, false, false, false] rfl rfl (by kernel_rfl) (fun _ _ _ h => h) (Or.inl ⟨by rfl, ?_⟩) hHeld ?_ ?_
          rotate_left
          · rintro w' ⟨s0, s1, s2, s3⟩
            go_simp
            with_reducible rfl
          rotate_left
          · simp only [Act.put, List.setIfInBounds_toArray, List.set_cons_zero, List.set_cons_succ, i64_w, i32_w]
            rfl
          refine one_ (i := 3) (N := some 27) #[true, true, true, true, false, false] rfl rfl (by kernel_rfl) (by decide) (fun K hK => ?_)
          refine goes_ Try.func17 (by kernel_rfl) rfl #[.bool a0_0] (by rfl) rfl rfl (by (try simp only [List.map_toArray, List.map_cons, List.map_nil]); first | done | rfl | (simp only [List.length_drop, List.length_take]; rfl)) ?_
          with_reducible refine (breaker_New.calls a0_0 t290 t291 t292 t293 _ A11.out).mono ?_
          rintro e w17 ⟨rfl, hb⟩
          refine ⟨_, rfl, ?_⟩
          have n0_ := Aside0.mk (blk_below (g := gb289) (o := .cells #[.bool a0_0, .bool a0_1, .int .i64 a0_2, .bool a0_3] 40 (0, 0)) (by (with_reducible repeat (first | refine blk_drewN ?_ _ | refine blk_drew ?_ | refine blk_alloc ?_ _)); exact BK289.out) hb)
          have n1_ := Aside0.mk (below_step (by repeat (first | (with_reducible first | exact HB.out | apply below_alloc | apply pw_below_drewN | apply below_drew1 | refine below_set ?_ GE289.out) | exact HB.out)) hb)
          clear BK289
          clear HB
          have BK289 := n0_
          have HB := n1_
          clear n0_ n1_
          (try clear hb)
          (try clear hb2)
          (try clear hk)
          (try clear hi)
          refine hK.out _ _ ⟨(blk_cell BK289.out 0).trans rfl, (blk_cell BK289.out 1).trans rfl, (blk_cell BK289.out 2).trans rfl, (blk_cell BK289.out 3).trans rfl⟩ (fun hHeld => ?_)
          clear hK K
          refine norm_ (a' := ?_) ?_ ?_
          rotate_left
          · show Act.put _ (some 27) _ = _
            simp only [Act.put, List.setIfInBounds_toArray, List.set_cons_zero, List.set_cons_succ, i64_w, i32_w]
            rfl
          refine pure_ (i := 4) (N := some 28) (v := ?_) (a' := ?_) #[true, true, true, true, true, false] rfl rfl (by kernel_rfl) (fun _ _ _ h => h) (Or.inl ⟨by rfl, ?_⟩) ?_ ?_
          rotate_left
          · intro w'
            go_simp
            with_reducible rfl
          rotate_left
          · simp only [Act.put, List.setIfInBounds_toArray, List.set_cons_zero, List.set_cons_succ, i64_w, i32_w]
            rfl
          refine pure_ (i := 5) (N := some 23) (v := ?_) (a' := ?_) #[true, true, true, true, true, true] rfl rfl (by kernel_rfl) (fun _ _ _ h => h) (Or.inl ⟨by rfl, ?_⟩) ?_ ?_
          rotate_left
          · intro w'
            go_simp
            with_reducible rfl
          rotate_left
          · simp only [Act.put, List.setIfInBounds_toArray, List.set_cons_zero, List.set_cons_succ, i64_w, i32_w]
            rfl
          refine done_ (by kernel_rfl) ?_
          go_upto_region 5 with (fail)
          go_cut [29] (fun v29 wc => ∃ (kq : Nat) (x29_14 : Bool), v29 = .bool x29_14 ∧ Aside0 (breaker_Valid.j1 kq x29_14 a0_0 a0_1 a0_2 a0_3 = some r) ∧ Aside0 (kq ≤ kj2) ∧ Aside0 (wc.heap[gb289]? = some (.cells #[.bool a0_0, .bool a0_1, .int .i64 a0_2, .bool a0_3] 40 (0, 0))) ∧ Aside0 (Below w.heap.size w wc))
          case first =>
            have H := HC15.out
            clear HC15
            by_cases c18 : a0_2 = 0
            · rw [if_pos c18] at H
              have c18b0 : (a0_2 == 0) = true := beq_iff_eq.mpr c18
              have c18b1 : (a0_2 != 0) = false := bne_eq_false_iff_eq.mpr c18
              clear c18
              (first | rw [c18b0] | (simp only [i64_w, i32_w]; rw [c18b0]) | skip)
              have H' := Aside0.mk H
              clear H
              have hcz19_0 : w17.cell? ⟨gb289, 0, none⟩ = some (.bool a0_0) := (blk_cell BK289.out 0).trans rfl
              have hcz19_1 : w17.cell? ⟨gb289, 1, none⟩ = some (.bool a0_1) := (blk_cell BK289.out 1).trans rfl
              have hcz19_2 : w17.cell? ⟨gb289, 2, none⟩ = some (.int .i64 a0_2) := (blk_cell BK289.out 2).trans rfl
              have hcz19_3 : w17.cell? ⟨gb289, 3, none⟩ = some (.bool a0_3) := (blk_cell BK289.out 3).trans rfl
              have hfz19_0 := blk_frozen BK289.out 0
              have hfz19_1 := blk_frozen BK289.out 1
              have hfz19_2 := blk_frozen BK289.out 2
              have hfz19_3 := blk_frozen BK289.out 3
              go_wp2
              go_meet
              case rel => exact ⟨_, (a0_1), (by first | rfl | (simp; done) | (simp [*]; done)), H', ⟨by have := HJ2.out; first | omega | exact Nat.le_refl _⟩, ⟨by (with_reducible repeat (first | refine blk_drewN ?_ _ | refine blk_drew ?_ | refine blk_alloc ?_ _)); exact BK289.out⟩, ⟨by repeat (first | (with_reducible first | exact HB.out | apply below_alloc | apply pw_below_drewN | apply below_drew1 | refine below_set ?_ GE289.out) | exact HB.out)⟩⟩
            · rw [if_neg c18] at H
              have c18b0 : (a0_2 == 0) = false := beq_eq_false_iff_ne.mpr c18
              have c18b1 : (a0_2 != 0) = true := bne_iff_ne.mpr c18
              (first | rw [c18b0] | (simp only [i64_w, i32_w]; rw [c18b0]) | skip)
              have H' := Aside0.mk H
              clear H
              have hcz20_0 : w17.cell? ⟨gb289, 0, none⟩ = some (.bool a0_0) := (blk_cell BK289.out 0).trans rfl
              have hcz20_1 : w17.cell? ⟨gb289, 1, none⟩ = some (.bool a0_1) := (blk_cell BK289.out 1).trans rfl
              have hcz20_2 : w17.cell? ⟨gb289, 2, none⟩ = some (.int .i64 a0_2) := (blk_cell BK289.out 2).trans rfl
              have hcz20_3 : w17.cell? ⟨gb289, 3, none⟩ = some (.bool a0_3) := (blk_cell BK289.out 3).trans rfl
              have hfz20_0 := blk_frozen BK289.out 0
              have hfz20_1 := blk_frozen BK289.out 1
              have hfz20_2 := blk_frozen BK289.out 2
              have hfz20_3 := blk_frozen BK289.out 3
              go_wp2
              go_meet
              case rel => exact ⟨_, (false), (by first | rfl | (simp; done) | (simp [*]; done)), H', ⟨by have := HJ2.out; first | omega | exact Nat.le_refl _⟩, ⟨by (with_reducible repeat (first | refine blk_drewN ?_ _ | refine blk_drew ?_ | refine blk_alloc ?_ _)); exact BK289.out⟩, ⟨by repeat (first | (with_reducible first | exact HB.out | apply below_alloc | apply pw_below_drewN | apply below_drew1 | refine below_set ?_ GE289.out) | exact HB.out)⟩⟩
          case rest =>
            clear HC15
            try clear c1
            try clear c2
            try clear p2
            try clear c5
            try clear c5b0
            try clear c6
            try clear c6b0
            try clear c7
            try clear c7b0
            try clear c10
            try clear c12
            try clear c12b0
            try clear c12b1
            try clear c12b2
            try clear c17
            try clear c18
            try clear c18b0
            try clear c18b1
            try clear hcz19_0
            try clear hcz19_1
            try clear hcz19_2
            try clear hcz19_3
            try clear hcz20_0
            try clear hcz20_1
            try clear hcz20_2
            try clear hcz20_3
            try clear hcz8_0
            try clear hcz8_1
            try clear hcz8_2
            try clear hcz8_3
            try clear hcz9_0
            try clear hcz9_1
            try clear hcz9_2
            try clear hcz9_3
            try clear hfz19_0
            try clear hfz19_1
            try clear hfz19_2
            try clear hfz19_3
            try clear hfz20_0
            try clear hfz20_1
            try clear hfz20_2
            try clear hfz20_3
            try clear hfz8_0
            try clear hfz8_1
            try clear hfz8_2
            try clear hfz8_3
            try clear hfz9_0
            try clear hfz9_1
            try clear hfz9_2
            try clear hfz9_3
            try clear p2
            obtain ⟨kq, x29_14, rfl, HA, HJ14, BK289, HB⟩ := hcut
            cases kq with
            | zero => exact absurd HA.out (by simp [breaker_Valid.j1])
            | succ kj14 =>
              have H := HA.out
              clear HA
              simp only [breaker_Valid.j1] at H
              by_cases c21 : x29_14 = true
              · subst c21
                have H1 : (some false) = some r := by rw [if_pos rfl] at H; exact H
                clear H
                have H := H1
                clear H1
                obtain rfl := Option.some.inj H
                go_wp2
                go_ret
                exact ⟨by first | rfl | (simp [errW_none, errW_some] <;> rfl) | (simp [*, errW_none, errW_some] <;> rfl), by repeat (first | (with_reducible first | exact HB.out | apply below_alloc | apply pw_below_drewN | apply below_drew1 | refine below_set ?_ GE289.out) | exact HB.out)⟩
              · replace c21 := Bool.eq_false_iff.mpr c21
                subst c21
                have H1 : (if a0_2 > 0 then (if (a0_0 == a0_1) = true then (some false) else (if a0_0 = true then (some true) else (some (!a0_3)))) else (if a0_0 = true then (some true) else (some (!a0_3)))) = some r := by rw [if_neg (show ¬ (false = true) by decide)] at H; exact H
                clear H
                have H := H1
                clear H1
                by_cases c22 : a0_2 > 0
                · rw [if_pos c22] at H
                  have c22b0 : decide (0 < a0_2) = true := decide_eq_true c22
                  clear c22
                  by_cases c23 : (a0_0 == a0_1) = true
                  · rw [if_pos c23] at H
                    have c23b0 : (a0_0 == a0_1) = true := c23
                    (try (have c23b1 : decide (a0_0 = a0_1) = true := by simpa using c23))
                    (try (have c23b2 : (a0_0 == a0_1) = true := by simpa using c23))
                    clear c23
                    obtain rfl := Option.some.inj H
                    have hcz24_0 : wc.cell? ⟨gb289, 0, none⟩ = some (.bool a0_0) := (blk_cell BK289.out 0).trans rfl
                    have hcz24_1 : wc.cell? ⟨gb289, 1, none⟩ = some (.bool a0_1) := (blk_cell BK289.out 1).trans rfl
                    have hcz24_2 : wc.cell? ⟨gb289, 2, none⟩ = some (.int .i64 a0_2) := (blk_cell BK289.out 2).trans rfl
                    have hcz24_3 : wc.cell? ⟨gb289, 3, none⟩ = some (.bool a0_3) := (blk_cell BK289.out 3).trans rfl
                    have hfz24_0 := blk_frozen BK289.out 0
                    have hfz24_1 := blk_frozen BK289.out 1
                    have hfz24_2 := blk_frozen BK289.out 2
                    have hfz24_3 := blk_frozen BK289.out 3
                    go_wp2
                    go_ret
                    exact ⟨by first | rfl | (simp [errW_none, errW_some] <;> rfl) | (simp [*, errW_none, errW_some] <;> rfl), by repeat (first | (with_reducible first | exact HB.out | apply below_alloc | apply pw_below_drewN | apply below_drew1 | refine below_set ?_ GE289.out) | exact HB.out)⟩
                  · rw [if_neg c23] at H
                    have c23b0 : (a0_0 == a0_1) = false := by simpa using c23
                    (try (have c23b1 : decide (a0_0 = a0_1) = false := by simpa using c23))
                    (try (have c23b2 : (a0_0 == a0_1) = false := by simpa using c23))
                    (try (have c23b3 : ¬ (a0_0 = a0_1) := by simpa using c23))
                    clear c23
                    by_cases c25 : a0_0 = true
                    · subst c25
                      have H1 : (some true) = some r := by rw [if_pos rfl] at H; exact H
                      clear H
                      have H := H1
                      clear H1
                      obtain rfl := Option.some.inj H
                      have hcz26_0 : wc.cell? ⟨gb289, 0, none⟩ = some (.bool true) := (blk_cell BK289.out 0).trans rfl
                      have hcz26_1 : wc.cell? ⟨gb289, 1, none⟩ = some (.bool a0_1) := (blk_cell BK289.out 1).trans rfl
                      have hcz26_2 : wc.cell? ⟨gb289, 2, none⟩ = some (.int .i64 a0_2) := (blk_cell BK289.out 2).trans rfl
                      have hcz26_3 : wc.cell? ⟨gb289, 3, none⟩ = some (.bool a0_3) := (blk_cell BK289.out 3).trans rfl
                      have hfz26_0 := blk_frozen BK289.out 0
                      have hfz26_1 := blk_frozen BK289.out 1
                      have hfz26_2 := blk_frozen BK289.out 2
                      have hfz26_3 := blk_frozen BK289.out 3
                      go_wp2
                      go_ret
                      exact ⟨by first | rfl | (simp [errW_none, errW_some] <;> rfl) | (simp [*, errW_none, errW_some] <;> rfl), by repeat (first | (with_reducible first | exact HB.out | apply below_alloc | apply pw_below_drewN | apply below_drew1 | refine below_set ?_ GE289.out) | exact HB.out)⟩
                    · replace c25 := Bool.eq_false_iff.mpr c25
                      subst c25
                      have H1 : (some (!a0_3)) = some r := by rw [if_neg (show ¬ (false = true) by decide)] at H; exact H
                      clear H
                      have H := H1
                      clear H1
                      obtain rfl := Option.some.inj H
                      have hcz27_0 : wc.cell? ⟨gb289, 0, none⟩ = some (.bool false) := (blk_cell BK289.out 0).trans rfl
                      have hcz27_1 : wc.cell? ⟨gb289, 1, none⟩ = some (.bool a0_1) := (blk_cell BK289.out 1).trans rfl
                      have hcz27_2 : wc.cell? ⟨gb289, 2, none⟩ = some (.int .i64 a0_2) := (blk_cell BK289.out 2).trans rfl
                      have hcz27_3 : wc.cell? ⟨gb289, 3, none⟩ = some (.bool a0_3) := (blk_cell BK289.out 3).trans rfl
                      have hfz27_0 := blk_frozen BK289.out 0
                      have hfz27_1 := blk_frozen BK289.out 1
                      have hfz27_2 := blk_frozen BK289.out 2
                      have hfz27_3 := blk_frozen BK289.out 3
                      go_wp2
                      go_ret
                      exact ⟨by first | rfl | (simp [errW_none, errW_some] <;> rfl) | (simp [*, errW_none, errW_some] <;> rfl), by repeat (first | (with_reducible first | exact HB.out | apply below_alloc | apply pw_below_drewN | apply below_drew1 | refine below_set ?_ GE289.out) | exact HB.out)⟩
                · rw [if_neg c22] at H
                  have c22b0 : decide (0 < a0_2) = false := decide_eq_false c22
                  clear c22
                  by_cases c28 : a0_0 = true
                  · subst c28
                    have H1 : (some true) = some r := by rw [if_pos rfl] at H; exact H
                    clear H
                    have H := H1
                    clear H1
                    obtain rfl := Option.some.inj H
                    have hcz29_0 : wc.cell? ⟨gb289, 0, none⟩ = some (.bool true) := (blk_cell BK289.out 0).trans rfl
                    have hcz29_1 : wc.cell? ⟨gb289, 1, none⟩ = some (.bool a0_1) := (blk_cell BK289.out 1).trans rfl
                    have hcz29_2 : wc.cell? ⟨gb289, 2, none⟩ = some (.int .i64 a0_2) := (blk_cell BK289.out 2).trans rfl
                    have hcz29_3 : wc.cell? ⟨gb289, 3, none⟩ = some (.bool a0_3) := (blk_cell BK289.out 3).trans rfl
                    have hfz29_0 := blk_frozen BK289.out 0
                    have hfz29_1 := blk_frozen BK289.out 1
                    have hfz29_2 := blk_frozen BK289.out 2
                    have hfz29_3 := blk_frozen BK289.out 3
                    go_wp2
                    go_ret
                    exact ⟨by first | rfl | (simp [errW_none, errW_some] <;> rfl) | (simp [*, errW_none, errW_some] <;> rfl), by repeat (first | (with_reducible first | exact HB.out | apply below_alloc | apply pw_below_drewN | apply below_drew1 | refine below_set ?_ GE289.out) | exact HB.out)⟩
                  · replace c28 := Bool.eq_false_iff.mpr c28
                    subst c28
                    have H1 : (some (!a0_3)) = some r := by rw [if_neg (show ¬ (false = true) by decide)] at H; exact H
                    clear H
                    have H := H1
                    clear H1
                    obtain rfl := Option.some.inj H
                    have hcz30_0 : wc.cell? ⟨gb289, 0, none⟩ = some (.bool false) := (blk_cell BK289.out 0).trans rfl
                    have hcz30_1 : wc.cell? ⟨gb289, 1, none⟩ = some (.bool a0_1) := (blk_cell BK289.out 1).trans rfl
                    have hcz30_2 : wc.cell? ⟨gb289, 2, none⟩ = some (.int .i64 a0_2) := (blk_cell BK289.out 2).trans rfl
                    have hcz30_3 : wc.cell? ⟨gb289, 3, none⟩ = some (.bool a0_3) := (blk_cell BK289.out 3).trans rfl
                    have hfz30_0 := blk_frozen BK289.out 0
                    have hfz30_1 := blk_frozen BK289.out 1
                    have hfz30_2 := blk_frozen BK289.out 2
                    have hfz30_3 := blk_frozen BK289.out 3
                    go_wp2
                    go_ret
                    exact ⟨by first | rfl | (simp [errW_none, errW_some] <;> rfl) | (simp [*, errW_none, errW_some] <;> rfl), by repeat (first | (with_reducible first | exact HB.out | apply below_alloc | apply pw_below_drewN | apply below_drew1 | refine below_set ?_ GE289.out) | exact HB.out)⟩

end Go.Proofs.Ytmppijipaocfiaa.PAll
