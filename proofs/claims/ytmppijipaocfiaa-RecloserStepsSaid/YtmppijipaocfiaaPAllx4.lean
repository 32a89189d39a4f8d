-- PRINTED BY print.sh 35421559b90ae4d0a3588c463048766b98c2df88dd9212a6774a882060cdf62d: not written by this session
import Derived.Test.YtmppijipaocfiaaPAllx0
namespace Go.Proofs.Ytmppijipaocfiaa.PAll
open Go.RowKit Go.Proofs.YtmppijipaocfiaaW.PrintWords Go.Proofs.YtmppijipaocfiaaW.PrintLast Go.Proofs.YtmppijipaocfiaaW.PrintMore
attribute [local go_sem] max2_int min2_int max_two min_two max_three min_three max_four min_four   -- for this text's walks alone
set_option linter.unusedVariables false
set_option linter.unusedSimpArgs false

/-! ### substationref29_goodShots: function 26 -/
def substationref29_goodShots.f (a0 : Int) (a1 : Int) (a2 : Int) : Option (Bool) := if a0 ≥ 1 then (if a0 ≤ 3 then (if a1 ≥ 1 then (if a1 ≤ 100 then (if a2 ≥ 1 then (some (decide (a2 ≤ 1000))) else (some false)) else (some false)) else (some false)) else (some false)) else (some false)
set_option maxHeartbeats 8000000 in
set_option maxRecDepth 100000 in
theorem substationref29_goodShots.calls (a0 : Int) (a1 : Int) (a2 : Int) (r : Bool) (w : World) (h : substationref29_goodShots.f a0 a1 a2 = some r) :
    Calls Try.prog 26 #[.int .i64 a0, .int .i64 a1, .int .i64 a2] w fun e w' => e = .returned (.bool r) ∧ Drawn0 w w' := by
  have H : (if a0 ≥ 1 then (if a0 ≤ 3 then (if a1 ≥ 1 then (if a1 ≤ 100 then (if a2 ≥ 1 then (some (decide (a2 ≤ 1000))) else (some false)) else (some false)) else (some false)) else (some false)) else (some false)) = some r := h
  clear h
  by_cases c4 : a0 ≥ 1
  · rw [if_pos c4] at H
    have c4b0 : decide (1 ≤ a0) = true := decide_eq_true c4
    clear c4
    by_cases c5 : a0 ≤ 3
    · rw [if_pos c5] at H
      have c5b0 : decide (a0 ≤ 3) = true := decide_eq_true c5
      clear c5
      by_cases c6 : a1 ≥ 1
      · rw [if_pos c6] at H
        have c6b0 : decide (1 ≤ a1) = true := decide_eq_true c6
        clear c6
        by_cases c7 : a1 ≤ 100
        · rw [if_pos c7] at H
          have c7b0 : decide (a1 ≤ 100) = true := decide_eq_true c7
          clear c7
          by_cases c8 : a2 ≥ 1
          · rw [if_pos c8] at H
            have c8b0 : decide (1 ≤ a2) = true := decide_eq_true c8
            clear c8
            obtain rfl := Option.some.inj H
            go_enter Try.func26, Try.ntmps26
            go_wp2
            go_ret
            exact ⟨by first | rfl | (simp; done) | (simp [*]; done), by repeat (first | exact Drawn0.refl _ | apply Drawn0.step)⟩
          · rw [if_neg c8] at H
            have c8b0 : decide (1 ≤ a2) = false := decide_eq_false c8
            clear c8
            obtain rfl := Option.some.inj H
            go_enter Try.func26, Try.ntmps26
            go_wp2
            go_ret
            exact ⟨by first | rfl | (simp; done) | (simp [*]; done), by repeat (first | exact Drawn0.refl _ | apply Drawn0.step)⟩
        · rw [if_neg c7] at H
          have c7b0 : decide (a1 ≤ 100) = false := decide_eq_false c7
          clear c7
          obtain rfl := Option.some.inj H
          go_enter Try.func26, Try.ntmps26
          go_wp2
          go_ret
          exact ⟨by first | rfl | (simp; done) | (simp [*]; done), by repeat (first | exact Drawn0.refl _ | apply Drawn0.step)⟩
      · rw [if_neg c6] at H
        have c6b0 : decide (1 ≤ a1) = false := decide_eq_false c6
        clear c6
        obtain rfl := Option.some.inj H
        go_enter Try.func26, Try.ntmps26
        go_wp2
        go_ret
        exact ⟨by first | rfl | (simp; done) | (simp [*]; done), by repeat (first | exact Drawn0.refl _ | apply Drawn0.step)⟩
    · rw [if_neg c5] at H
      have c5b0 : decide (a0 ≤ 3) = false := decide_eq_false c5
      clear c5
      obtain rfl := Option.some.inj H
      go_enter Try.func26, Try.ntmps26
      go_wp2
      go_ret
      exact ⟨by first | rfl | (simp; done) | (simp [*]; done), by repeat (first | exact Drawn0.refl _ | apply Drawn0.step)⟩
  · rw [if_neg c4] at H
    have c4b0 : decide (1 ≤ a0) = false := decide_eq_false c4
    clear c4
    obtain rfl := Option.some.inj H
    go_enter Try.func26, Try.ntmps26
    go_wp2
    go_ret
    exact ⟨by first | rfl | (simp; done) | (simp [*]; done), by repeat (first | exact Drawn0.refl _ | apply Drawn0.step)⟩

/-! ### substationref29_ValidRecloser: function 15 -/
def substationref29_ValidRecloser.j0 : Nat → Int → Int → Int → Bool → Int → Int → Int → Option (Bool)
  | 0, _, _, _, _, _, _, _ => none
  | k + 1, x0, x1, x2, x26, x191000, x191001, x191002 => if x26 = true then (some false) else (if x191000 = 0 then ((some (([0, 20, wrap64 (x1 - 1), 20, wrap64 (x2 - 1), wrap64 (x2 - 1)] : List Int) : List Int)).bind fun y192 => (if 0 ≤ x191000 then (if x191000 < (y192.length : Int) then (if x191001 ≥ 0 then (if x191001 ≤ 0 then (if x191002 ≥ 0 then (some (decide (x191002 ≤ (rd y192 x191000)))) else (some false)) else (some false)) else (some false)) else (none)) else (none))) else (if x191000 = 5 then ((some (([0, 20, wrap64 (x1 - 1), 20, wrap64 (x2 - 1), wrap64 (x2 - 1)] : List Int) : List Int)).bind fun y196 => (if 0 ≤ x191000 then (if x191000 < (y196.length : Int) then (if x191001 ≥ 0 then (if x191001 ≤ 0 then (if x191002 ≥ 0 then (some (decide (x191002 ≤ (rd y196 x191000)))) else (some false)) else (some false)) else (some false)) else (none)) else (none))) else ((some (([0, 20, wrap64 (x1 - 1), 20, wrap64 (x2 - 1), wrap64 (x2 - 1)] : List Int) : List Int)).bind fun y200 => (if 0 ≤ x191000 then (if x191000 < (y200.length : Int) then (if x191001 ≥ 1 then (if x191001 ≤ x0 then (if x191002 ≥ 0 then (some (decide (x191002 ≤ (rd y200 x191000)))) else (some false)) else (some false)) else (some false)) else (none)) else (none)))))
def substationref29_ValidRecloser.f (k : Nat) (a0 : Int) (a1 : Int) (a2 : Int) (a3_0 : Int) (a3_1 : Int) (a3_2 : Int) : Option (Bool) := (substationref29_goodShots.f a0 a1 a2).bind fun t191 => (if t191 = true then (if a3_0 < 0 then (substationref29_ValidRecloser.j0 k a0 a1 a2 true a3_0 a3_1 a3_2) else (substationref29_ValidRecloser.j0 k a0 a1 a2 (decide (a3_0 > 5)) a3_0 a3_1 a3_2)) else (substationref29_ValidRecloser.j0 k a0 a1 a2 true a3_0 a3_1 a3_2))
theorem substationref29_ValidRecloser.mono_l : ∀ k, (∀ y0 y1 y2 y3 y4 y5 y6, LeO (substationref29_ValidRecloser.j0 k y0 y1 y2 y3 y4 y5 y6) (substationref29_ValidRecloser.j0 (k + 1) y0 y1 y2 y3 y4 y5 y6))
  | 0 => fun _ _ _ _ _ _ _ r h => by simp [substationref29_ValidRecloser.j0] at h
  | k + 1 => by
    have ih0 := substationref29_ValidRecloser.mono_l k
    · intro y0 y1 y2 y3 y4 y5 y6
      unfold substationref29_ValidRecloser.j0
      repeat' first
      | (with_reducible exact ih0 _ _ _ _ _ _ _)
      | (with_reducible exact LeO.refl _)
      | (with_reducible exact LeO.none _)
      | (with_reducible refine LeO.ite ?_ ?_)
      | (with_reducible refine LeO.bind ?_ (fun _ => ?_))
      | exact ih0 _ _ _ _ _ _ _
      | exact LeO.none _
      | refine LeO.ite ?_ ?_
      | refine LeO.bind ?_ (fun _ => ?_)
theorem substationref29_ValidRecloser.mono : ∀ a0 a1 a2 a3 a4 a5 k, LeO (substationref29_ValidRecloser.f k a0 a1 a2 a3 a4 a5) (substationref29_ValidRecloser.f (k + 1) a0 a1 a2 a3 a4 a5) := by
  intro a0 a1 a2 a3 a4 a5 k
  have ih0 := substationref29_ValidRecloser.mono_l k
  unfold substationref29_ValidRecloser.f
  repeat' first
      | (with_reducible exact ih0 _ _ _ _ _ _ _)
      | (with_reducible exact LeO.refl _)
      | (with_reducible exact LeO.none _)
      | (with_reducible refine LeO.ite ?_ ?_)
      | (with_reducible refine LeO.bind ?_ (fun _ => ?_))
      | exact ih0 _ _ _ _ _ _ _
      | exact LeO.none _
      | refine LeO.ite ?_ ?_
      | refine LeO.bind ?_ (fun _ => ?_)
set_option maxHeartbeats 8000000 in
set_option maxRecDepth 100000 in
theorem substationref29_ValidRecloser.calls (k : Nat) (a0 : Int) (a1 : Int) (a2 : Int) (a3_0 : Int) (a3_1 : Int) (a3_2 : Int) (r : Bool) (w : World) (h : substationref29_ValidRecloser.f k a0 a1 a2 a3_0 a3_1 a3_2 = some r) :
    Calls Try.prog 15 #[.int .i64 a0, .int .i64 a1, .int .i64 a2, .agg #[.int .i64 a3_0, .int .i64 a3_1, .int .i64 a3_2]] w fun e w' => e = .returned (.bool r) ∧ Below w.heap.size w w' := by
  have hu25 := Try.underlying25
  have HB := Aside0.mk (Below.refl w.heap.size w)
  have H : ((substationref29_goodShots.f a0 a1 a2).bind fun t191 => (if t191 = true then (if a3_0 < 0 then (substationref29_ValidRecloser.j0 k a0 a1 a2 true a3_0 a3_1 a3_2) else (substationref29_ValidRecloser.j0 k a0 a1 a2 (decide (a3_0 > 5)) a3_0 a3_1 a3_2)) else (substationref29_ValidRecloser.j0 k a0 a1 a2 true a3_0 a3_1 a3_2))) = some r := h
  clear h
  have HC5 := Aside0.mk H
  clear H
  go_enter Try.func15, Try.ntmps15
  go_upto_region 1 with (first | ((with_reducible refine gate_dst (N := 7) rfl ?_); refine box_event ?hg (N := 7) ?hd (cs := #[.int .i64 a3_0, .int .i64 a3_1, .int .i64 a3_2]) (t := 25) ?hr ?_; (case hd => rfl); (case hg => rfl); (case hr => first | (go_simp; done) | (go_simp; rfl)); intro gb190 hg w6 hbox hb; have n0_ := Aside0.mk (below_step (by repeat (first | (with_reducible first | exact HB.out | apply below_alloc | apply pw_below_drewN | apply below_drew1) | exact HB.out)) hb); have n1_ := Aside0.mk (hbox); have n2_ := Aside0.mk ((by rw [hg]; exact (below_size (by repeat (first | (with_reducible first | exact HB.out | apply below_alloc | apply pw_below_drewN | apply below_drew1) | exact HB.out))) : w.heap.size ≤ gb190)); have n3_ := Aside0.mk ((by rw [hg]; exact (below_size (by repeat (first | (with_reducible first | exact HB.out | apply below_alloc | apply pw_below_drewN | apply below_drew1) | exact HB.out))) : w.heap.size ≤ gb190)); clear HB; have HB := n0_; have BK190 := n1_; have GW190 := n2_; have GE190 := n3_; clear n0_ n1_ n2_ n3_; clear hb hbox hg))
  (try simp only [Act.put, List.setIfInBounds_toArray, List.set_cons_zero, List.set_cons_succ])
  go_cut [26] (fun v26 wc => ∃ (kq : Nat) (x26_4 : Bool), v26 = .bool x26_4 ∧ Aside0 (substationref29_ValidRecloser.j0 kq a0 a1 a2 x26_4 a3_0 a3_1 a3_2 = some r) ∧ Aside0 (kq ≤ k) ∧ Aside0 (wc.heap[gb190]? = some (.cells #[.int .i64 a3_0, .int .i64 a3_1, .int .i64 a3_2] 25 (0, 0))) ∧ Aside0 (Below w.heap.size w wc))
  case first =>
    have H := HC5.out
    clear HC5
    replace H := Option.bind_eq_some_iff.mp H
    obtain ⟨t191, A70, H⟩ := H
    replace H : (if t191 = true then (if a3_0 < 0 then (substationref29_ValidRecloser.j0 k a0 a1 a2 true a3_0 a3_1 a3_2) else (substationref29_ValidRecloser.j0 k a0 a1 a2 (decide (a3_0 > 5)) a3_0 a3_1 a3_2)) else (substationref29_ValidRecloser.j0 k a0 a1 a2 true a3_0 a3_1 a3_2)) = some r := H
    have A7 := Aside0.mk A70
    clear A70
    by_cases c8 : t191 = true
    · subst c8
      have H1 : (if a3_0 < 0 then (substationref29_ValidRecloser.j0 k a0 a1 a2 true a3_0 a3_1 a3_2) else (substationref29_ValidRecloser.j0 k a0 a1 a2 (decide (a3_0 > 5)) a3_0 a3_1 a3_2)) = some r := by rw [if_pos rfl] at H; exact H
      clear H
      have H := H1
      clear H1
      by_cases c9 : a3_0 < 0
      · rw [if_pos c9] at H
        have c9b0 : decide (a3_0 < 0) = true := decide_eq_true c9
        clear c9
        (first | rw [c9b0] | (simp only [i64_w, i32_w]; rw [c9b0]) | skip)
        have H' := Aside0.mk H
        clear H
        go_wp2_with (first | ((with_reducible refine gate_callee (f := 26) rfl ?_); refine goesL_ (some 15) rfl rfl Try.func26 (by kernel_rfl) rfl #[.int .i64 a0, .int .i64 a1, .int .i64 a2] rfl (by (try simp only [List.map_toArray, List.map_cons, List.map_nil]); first | done | rfl | (simp only [List.length_drop, List.length_take]; rfl)) ?_; (with_reducible refine (substationref29_goodShots.calls a0 a1 a2 true _ A7.out).mono ?_); rintro e w' ⟨rfl, ⟨nd, rfl⟩⟩; refine ⟨_, rfl, ?_⟩; have hcz10_0 : w6.cell? ⟨gb190, 0, none⟩ = some (.int .i64 a3_0) := (blk_cell BK190.out 0).trans rfl; have hcz10_1 : w6.cell? ⟨gb190, 1, none⟩ = some (.int .i64 a3_1) := (blk_cell BK190.out 1).trans rfl; have hcz10_2 : w6.cell? ⟨gb190, 2, none⟩ = some (.int .i64 a3_2) := (blk_cell BK190.out 2).trans rfl; have hfz10_0 := blk_frozen BK190.out 0; have hfz10_1 := blk_frozen BK190.out 1; have hfz10_2 := blk_frozen BK190.out 2))
        go_meet
        case rel => exact ⟨_, (true), (by first | rfl | (simp; done) | (simp [*]; done)), H', ⟨by first | omega | exact Nat.le_refl _⟩, ⟨by (with_reducible repeat (first | refine blk_drewN ?_ _ | refine blk_drew ?_ | refine blk_alloc ?_ _)); exact BK190.out⟩, ⟨by repeat (first | (with_reducible first | exact HB.out | apply below_alloc | apply pw_below_drewN | apply below_drew1 | refine below_set ?_ GE190.out) | exact HB.out)⟩⟩
      · rw [if_neg c9] at H
        have c9b0 : decide (a3_0 < 0) = false := decide_eq_false c9
        clear c9
        (first | rw [c9b0] | (simp only [i64_w, i32_w]; rw [c9b0]) | skip)
        have H' := Aside0.mk H
        clear H
        go_wp2_with (first | ((with_reducible refine gate_callee (f := 26) rfl ?_); refine goesL_ (some 15) rfl rfl Try.func26 (by kernel_rfl) rfl #[.int .i64 a0, .int .i64 a1, .int .i64 a2] rfl (by (try simp only [List.map_toArray, List.map_cons, List.map_nil]); first | done | rfl | (simp only [List.length_drop, List.length_take]; rfl)) ?_; (with_reducible refine (substationref29_goodShots.calls a0 a1 a2 true _ A7.out).mono ?_); rintro e w' ⟨rfl, ⟨nd, rfl⟩⟩; refine ⟨_, rfl, ?_⟩; have hcz11_0 : w6.cell? ⟨gb190, 0, none⟩ = some (.int .i64 a3_0) := (blk_cell BK190.out 0).trans rfl; have hcz11_1 : w6.cell? ⟨gb190, 1, none⟩ = some (.int .i64 a3_1) := (blk_cell BK190.out 1).trans rfl; have hcz11_2 : w6.cell? ⟨gb190, 2, none⟩ = some (.int .i64 a3_2) := (blk_cell BK190.out 2).trans rfl; have hfz11_0 := blk_frozen BK190.out 0; have hfz11_1 := blk_frozen BK190.out 1; have hfz11_2 := blk_frozen BK190.out 2))
        go_meet
        case rel => exact ⟨_, (decide (a3_0 > 5)), (by first | rfl | (simp; done) | (simp [*]; done)), H', ⟨by first | omega | exact Nat.le_refl _⟩, ⟨by (with_reducible repeat (first | refine blk_drewN ?_ _ | refine blk_drew ?_ | refine blk_alloc ?_ _)); exact BK190.out⟩, ⟨by repeat (first | (with_reducible first | exact HB.out | apply below_alloc | apply pw_below_drewN | apply below_drew1 | refine below_set ?_ GE190.out) | exact HB.out)⟩⟩
    · replace c8 := Bool.eq_false_iff.mpr c8
      subst c8
      have H1 : (substationref29_ValidRecloser.j0 k a0 a1 a2 true a3_0 a3_1 a3_2) = some r := by rw [if_neg (show ¬ (false = true) by decide)] at H; exact H
      clear H
      have H := H1
      clear H1
      have H' := Aside0.mk H
      clear H
      go_wp2_with (first | ((with_reducible refine gate_callee (f := 26) rfl ?_); refine goesL_ (some 15) rfl rfl Try.func26 (by kernel_rfl) rfl #[.int .i64 a0, .int .i64 a1, .int .i64 a2] rfl (by (try simp only [List.map_toArray, List.map_cons, List.map_nil]); first | done | rfl | (simp only [List.length_drop, List.length_take]; rfl)) ?_; (with_reducible refine (substationref29_goodShots.calls a0 a1 a2 false _ A7.out).mono ?_); rintro e w' ⟨rfl, ⟨nd, rfl⟩⟩; refine ⟨_, rfl, ?_⟩))
      go_meet
      case rel => exact ⟨_, (true), (by first | rfl | (simp; done) | (simp [*]; done)), H', ⟨by first | omega | exact Nat.le_refl _⟩, ⟨by (with_reducible repeat (first | refine blk_drewN ?_ _ | refine blk_drew ?_ | refine blk_alloc ?_ _)); exact BK190.out⟩, ⟨by repeat (first | (with_reducible first | exact HB.out | apply below_alloc | apply pw_below_drewN | apply below_drew1 | refine below_set ?_ GE190.out) | exact HB.out)⟩⟩
  case rest =>
    clear HC5
    try clear c1
    try clear c2
    try clear p2
    try clear c8
    try clear c9
    try clear c9b0
    try clear hcz10_0
    try clear hcz10_1
    try clear hcz10_2
    try clear hcz11_0
    try clear hcz11_1
    try clear hcz11_2
    try clear hfz10_0
    try clear hfz10_1
    try clear hfz10_2
    try clear hfz11_0
    try clear hfz11_1
    try clear hfz11_2
    obtain ⟨kq, x26_4, rfl, HA, HJ4, BK190, HB⟩ := hcut
    cases kq with
    | zero => exact absurd HA.out (by simp [substationref29_ValidRecloser.j0])
    | succ kj4 =>
      have H := HA.out
      clear HA
      simp only [substationref29_ValidRecloser.j0] at H
      by_cases c12 : x26_4 = true
      · subst c12
        have H1 : (some false) = some r := by rw [if_pos rfl] at H; exact H
        clear H
        have H := H1
        clear H1
        obtain rfl := Option.some.inj H
        go_wp2
        go_ret
        exact ⟨by first | rfl | (simp [errW_none, errW_some] <;> rfl) | (simp [*, errW_none, errW_some] <;> rfl), by repeat (first | (with_reducible first | exact HB.out | apply below_alloc | apply pw_below_drewN | apply below_drew1 | refine below_set ?_ GE190.out) | exact HB.out)⟩
      · replace c12 := Bool.eq_false_iff.mpr c12
        subst c12
        have H1 : (if a3_0 = 0 then ((some (([0, 20, wrap64 (a1 - 1), 20, wrap64 (a2 - 1), wrap64 (a2 - 1)] : List Int) : List Int)).bind fun y192 => (if 0 ≤ a3_0 then (if a3_0 < (y192.length : Int) then (if a3_1 ≥ 0 then (if a3_1 ≤ 0 then (if a3_2 ≥ 0 then (some (decide (a3_2 ≤ (rd y192 a3_0)))) else (some false)) else (some false)) else (some false)) else (none)) else (none))) else (if a3_0 = 5 then ((some (([0, 20, wrap64 (a1 - 1), 20, wrap64 (a2 - 1), wrap64 (a2 - 1)] : List Int) : List Int)).bind fun y196 => (if 0 ≤ a3_0 then (if a3_0 < (y196.length : Int) then (if a3_1 ≥ 0 then (if a3_1 ≤ 0 then (if a3_2 ≥ 0 then (some (decide (a3_2 ≤ (rd y196 a3_0)))) else (some false)) else (some false)) else (some false)) else (none)) else (none))) else ((some (([0, 20, wrap64 (a1 - 1), 20, wrap64 (a2 - 1), wrap64 (a2 - 1)] : List Int) : List Int)).bind fun y200 => (if 0 ≤ a3_0 then (if a3_0 < (y200.length : Int) then (if a3_1 ≥ 1 then (if a3_1 ≤ a0 then (if a3_2 ≥ 0 then (some (decide (a3_2 ≤ (rd y200 a3_0)))) else (some false)) else (some false)) else (some false)) else (none)) else (none))))) = some r := by rw [if_neg (show ¬ (false = true) by decide)] at H; exact H
        clear H
        have H := H1
        clear H1
        by_cases c13 : a3_0 = 0
        · rw [if_pos c13] at H
          have c13b0 : (a3_0 == 0) = true := beq_iff_eq.mpr c13
          have c13b1 : (a3_0 != 0) = false := bne_eq_false_iff_eq.mpr c13
          clear c13
          obtain ⟨y192, hy192⟩ : ∃ y_ : List Int, y_ = (([0, 20, wrap64 (a1 - 1), 20, wrap64 (a2 - 1), wrap64 (a2 - 1)] : List Int)) := ⟨_, rfl⟩
          replace H : (if 0 ≤ a3_0 then (if a3_0 < (y192.length : Int) then (if a3_1 ≥ 0 then (if a3_1 ≤ 0 then (if a3_2 ≥ 0 then (some (decide (a3_2 ≤ (rd y192 a3_0)))) else (some false)) else (some false)) else (some false)) else (none)) else (none)) = some r := by first | (rw [hy192]; with_reducible exact H) | (have H2_ := (Option.bind_some _ _).symm.trans H; rw [hy192]; with_reducible exact H2_) | (have H2_ := (Option.bind_some _ _).symm.trans H; with_reducible exact H2_) | with_reducible exact H | (rw [hy192]; exact H) | exact H
          have Ny192 := Aside0.mk hy192
          clear hy192
          by_cases c14 : 0 ≤ a3_0
          · rw [if_pos c14] at H
            have c14b0 : decide (0 ≤ a3_0) = true := decide_eq_true c14
            clear c14
            by_cases c15 : a3_0 < (y192.length : Int)
            · rw [if_pos c15] at H
              have c15b0 : decide (a3_0 < (y192.length : Int)) = true := decide_eq_true c15
              clear c15
              by_cases c16 : a3_1 ≥ 0
              · rw [if_pos c16] at H
                have c16b0 : decide (0 ≤ a3_1) = true := decide_eq_true c16
                clear c16
                by_cases c17 : a3_1 ≤ 0
                · rw [if_pos c17] at H
                  have c17b0 : decide (a3_1 ≤ 0) = true := decide_eq_true c17
                  clear c17
                  by_cases c18 : a3_2 ≥ 0
                  · rw [if_pos c18] at H
                    have c18b0 : decide (0 ≤ a3_2) = true := decide_eq_true c18
                    clear c18
                    obtain rfl := Option.some.inj H
                    have hcz19_0 : wc.cell? ⟨gb190, 0, none⟩ = some (.int .i64 a3_0) := (blk_cell BK190.out 0).trans rfl
                    have hcz19_1 : wc.cell? ⟨gb190, 1, none⟩ = some (.int .i64 a3_1) := (blk_cell BK190.out 1).trans rfl
                    have hcz19_2 : wc.cell? ⟨gb190, 2, none⟩ = some (.int .i64 a3_2) := (blk_cell BK190.out 2).trans rfl
                    have hfz19_0 := blk_frozen BK190.out 0
                    have hfz19_1 := blk_frozen BK190.out 1
                    have hfz19_2 := blk_frozen BK190.out 2
                    go_wp2_with (first | ((with_reducible refine gate_dst (N := 42) rfl ?_); refine Kd.R_lit (Kd.int .i64) _ 3 ?hg (N := 42) ?hd (xs := ([0, 20, wrap64 (a1 - 1), 20, wrap64 (a2 - 1), wrap64 (a2 - 1)] : List Int)) (inner := [.int .i64 0, .int .i64 20, .int .i64 (wrap64 (a1 - 1)), .int .i64 20, .int .i64 (wrap64 (a2 - 1)), .int .i64 (wrap64 (a2 - 1))]) (ok := fun _ => True) (okp := fun _ => True) ?hr ?hp (fun _ hk => hk) trivial (Below.refl _ _) (Nat.le_refl _) (by simp) ?_; (case hd => rfl); (case hg => rfl); (case hr => first | (go_simp; done) | (go_simp; rfl)); (case hp => exact (Reps.one (show Kd.M (Kd.int .i64) _ _ _ 0 [.int .i64 0] from rfl) (Reps.one (show Kd.M (Kd.int .i64) _ _ _ 20 [.int .i64 20] from rfl) (Reps.one (show Kd.M (Kd.int .i64) _ _ _ (wrap64 (a1 - 1)) [.int .i64 (wrap64 (a1 - 1))] from rfl) (Reps.one (show Kd.M (Kd.int .i64) _ _ _ 20 [.int .i64 20] from rfl) (Reps.one (show Kd.M (Kd.int .i64) _ _ _ (wrap64 (a2 - 1)) [.int .i64 (wrap64 (a2 - 1))] from rfl) (Reps.one (show Kd.M (Kd.int .i64) _ _ _ (wrap64 (a2 - 1)) [.int .i64 (wrap64 (a2 - 1))] from rfl) (Reps.none _ _)))))))); intro v193 w20 ho21 hb hg_ hnew_; clear hg_ hnew_; (first | rw [← Ny192.out] at ho21 | (simp only [Int.reduceToNat] at ho21; rw [← Ny192.out] at ho21)); have n0_ := Aside0.mk (Kd.R_lower ho21 (below_size (by repeat (first | (with_reducible first | exact HB.out | apply below_alloc | apply pw_below_drewN | apply below_drew1 | refine below_set ?_ GE190.out) | exact HB.out)))); have n1_ := Aside0.mk (blk_below (g := gb190) (o := .cells #[.int .i64 a3_0, .int .i64 a3_1, .int .i64 a3_2] 25 (0, 0)) (by (with_reducible repeat (first | refine blk_drewN ?_ _ | refine blk_drew ?_ | refine blk_alloc ?_ _)); exact BK190.out) hb); have n2_ := Aside0.mk (below_step (by repeat (first | (with_reducible first | exact HB.out | apply below_alloc | apply pw_below_drewN | apply below_drew1 | refine below_set ?_ GE190.out) | exact HB.out)) hb); clear BK190; clear HB; have HO194 := n0_; have BK190 := n1_; have HB := n2_; clear n0_ n1_ n2_; clear hb ho21; have hcz22_0 : w20.cell? ⟨gb190, 0, none⟩ = some (.int .i64 a3_0) := (blk_cell BK190.out 0).trans rfl; have hcz22_1 : w20.cell? ⟨gb190, 1, none⟩ = some (.int .i64 a3_1) := (blk_cell BK190.out 1).trans rfl; have hcz22_2 : w20.cell? ⟨gb190, 2, none⟩ = some (.int .i64 a3_2) := (blk_cell BK190.out 2).trans rfl; have hfz22_0 := blk_frozen BK190.out 0; have hfz22_1 := blk_frozen BK190.out 1; have hfz22_2 := blk_frozen BK190.out 2; obtain ⟨Ao23, co23, eo23⟩ := Kd.R_slice HO194.out; subst eo23; have p195 : 0 ≤ (a3_0 : Int) := of_decide_eq_true (by first | (with_reducible assumption) | assumption); have q195 : a3_0 < (y192.length : Int) := of_decide_eq_true (by first | (with_reducible assumption) | assumption); obtain ⟨ad195, e195, hx195_0⟩ := Kd.at_int (Kd.R_reads' HO194.out).2.2 a3_0 p195 q195; cases e195; replace p195 := eq_true p195; replace q195 := eq_true q195))
                    go_ret
                    exact ⟨by first | rfl | (simp [errW_none, errW_some] <;> rfl) | (simp [*, errW_none, errW_some] <;> rfl), by repeat (first | (with_reducible first | exact HB.out | apply below_alloc | apply pw_below_drewN | apply below_drew1 | refine below_set ?_ GE190.out) | exact HB.out)⟩
                  · rw [if_neg c18] at H
                    have c18b0 : decide (0 ≤ a3_2) = false := decide_eq_false c18
                    clear c18
                    obtain rfl := Option.some.inj H
                    have hcz24_0 : wc.cell? ⟨gb190, 0, none⟩ = some (.int .i64 a3_0) := (blk_cell BK190.out 0).trans rfl
                    have hcz24_1 : wc.cell? ⟨gb190, 1, none⟩ = some (.int .i64 a3_1) := (blk_cell BK190.out 1).trans rfl
                    have hcz24_2 : wc.cell? ⟨gb190, 2, none⟩ = some (.int .i64 a3_2) := (blk_cell BK190.out 2).trans rfl
                    have hfz24_0 := blk_frozen BK190.out 0
                    have hfz24_1 := blk_frozen BK190.out 1
                    have hfz24_2 := blk_frozen BK190.out 2
                    go_wp2_with (first | ((with_reducible refine gate_dst (N := 42) rfl ?_); refine Kd.R_lit (Kd.int .i64) _ 3 ?hg (N := 42) ?hd (xs := ([0, 20, wrap64 (a1 - 1), 20, wrap64 (a2 - 1), wrap64 (a2 - 1)] : List Int)) (inner := [.int .i64 0, .int .i64 20, .int .i64 (wrap64 (a1 - 1)), .int .i64 20, .int .i64 (wrap64 (a2 - 1)), .int .i64 (wrap64 (a2 - 1))]) (ok := fun _ => True) (okp := fun _ => True) ?hr ?hp (fun _ hk => hk) trivial (Below.refl _ _) (Nat.le_refl _) (by simp) ?_; (case hd => rfl); (case hg => rfl); (case hr => first | (go_simp; done) | (go_simp; rfl)); (case hp => exact (Reps.one (show Kd.M (Kd.int .i64) _ _ _ 0 [.int .i64 0] from rfl) (Reps.one (show Kd.M (Kd.int .i64) _ _ _ 20 [.int .i64 20] from rfl) (Reps.one (show Kd.M (Kd.int .i64) _ _ _ (wrap64 (a1 - 1)) [.int .i64 (wrap64 (a1 - 1))] from rfl) (Reps.one (show Kd.M (Kd.int .i64) _ _ _ 20 [.int .i64 20] from rfl) (Reps.one (show Kd.M (Kd.int .i64) _ _ _ (wrap64 (a2 - 1)) [.int .i64 (wrap64 (a2 - 1))] from rfl) (Reps.one (show Kd.M (Kd.int .i64) _ _ _ (wrap64 (a2 - 1)) [.int .i64 (wrap64 (a2 - 1))] from rfl) (Reps.none _ _)))))))); intro v193 w25 ho26 hb hg_ hnew_; clear hg_ hnew_; (first | rw [← Ny192.out] at ho26 | (simp only [Int.reduceToNat] at ho26; rw [← Ny192.out] at ho26)); have n0_ := Aside0.mk (Kd.R_lower ho26 (below_size (by repeat (first | (with_reducible first | exact HB.out | apply below_alloc | apply pw_below_drewN | apply below_drew1 | refine below_set ?_ GE190.out) | exact HB.out)))); have n1_ := Aside0.mk (blk_below (g := gb190) (o := .cells #[.int .i64 a3_0, .int .i64 a3_1, .int .i64 a3_2] 25 (0, 0)) (by (with_reducible repeat (first | refine blk_drewN ?_ _ | refine blk_drew ?_ | refine blk_alloc ?_ _)); exact BK190.out) hb); have n2_ := Aside0.mk (below_step (by repeat (first | (with_reducible first | exact HB.out | apply below_alloc | apply pw_below_drewN | apply below_drew1 | refine below_set ?_ GE190.out) | exact HB.out)) hb); clear BK190; clear HB; have HO194 := n0_; have BK190 := n1_; have HB := n2_; clear n0_ n1_ n2_; clear hb ho26; have hcz27_0 : w25.cell? ⟨gb190, 0, none⟩ = some (.int .i64 a3_0) := (blk_cell BK190.out 0).trans rfl; have hcz27_1 : w25.cell? ⟨gb190, 1, none⟩ = some (.int .i64 a3_1) := (blk_cell BK190.out 1).trans rfl; have hcz27_2 : w25.cell? ⟨gb190, 2, none⟩ = some (.int .i64 a3_2) := (blk_cell BK190.out 2).trans rfl; have hfz27_0 := blk_frozen BK190.out 0; have hfz27_1 := blk_frozen BK190.out 1; have hfz27_2 := blk_frozen BK190.out 2; obtain ⟨Ao28, co28, eo28⟩ := Kd.R_slice HO194.out; subst eo28; have p195 : 0 ≤ (a3_0 : Int) := of_decide_eq_true (by first | (with_reducible assumption) | assumption); have q195 : a3_0 < (y192.length : Int) := of_decide_eq_true (by first | (with_reducible assumption) | assumption); obtain ⟨ad195, e195, hx195_0⟩ := Kd.at_int (Kd.R_reads' HO194.out).2.2 a3_0 p195 q195; cases e195; replace p195 := eq_true p195; replace q195 := eq_true q195))
                    go_ret
                    exact ⟨by first | rfl | (simp [errW_none, errW_some] <;> rfl) | (simp [*, errW_none, errW_some] <;> rfl), by repeat (first | (with_reducible first | exact HB.out | apply below_alloc | apply pw_below_drewN | apply below_drew1 | refine below_set ?_ GE190.out) | exact HB.out)⟩
                · rw [if_neg c17] at H
                  have c17b0 : decide (a3_1 ≤ 0) = false := decide_eq_false c17
                  clear c17
                  obtain rfl := Option.some.inj H
                  have hcz29_0 : wc.cell? ⟨gb190, 0, none⟩ = some (.int .i64 a3_0) := (blk_cell BK190.out 0).trans rfl
                  have hcz29_1 : wc.cell? ⟨gb190, 1, none⟩ = some (.int .i64 a3_1) := (blk_cell BK190.out 1).trans rfl
                  have hcz29_2 : wc.cell? ⟨gb190, 2, none⟩ = some (.int .i64 a3_2) := (blk_cell BK190.out 2).trans rfl
                  have hfz29_0 := blk_frozen BK190.out 0
                  have hfz29_1 := blk_frozen BK190.out 1
                  have hfz29_2 := blk_frozen BK190.out 2
                  go_wp2_with (first | ((with_reducible refine gate_dst (N := 42) rfl ?_); refine Kd.R_lit (Kd.int .i64) _ 3 ?hg (N := 42) ?hd (xs := ([0, 20, wrap64 (a1 - 1), 20, wrap64 (a2 - 1), wrap64 (a2 - 1)] : List Int)) (inner := [.int .i64 0, .int .i64 20, .int .i64 (wrap64 (a1 - 1)), .int .i64 20, .int .i64 (wrap64 (a2 - 1)), .int .i64 (wrap64 (a2 - 1))]) (ok := fun _ => True) (okp := fun _ => True) ?hr ?hp (fun _ hk => hk) trivial (Below.refl _ _) (Nat.le_refl _) (by simp) ?_; (case hd => rfl); (case hg => rfl); (case hr => first | (go_simp; done) | (go_simp; rfl)); (case hp => exact (Reps.one (show Kd.M (Kd.int .i64) _ _ _ 0 [.int .i64 0] from rfl) (Reps.one (show Kd.M (Kd.int .i64) _ _ _ 20 [.int .i64 20] from rfl) (Reps.one (show Kd.M (Kd.int .i64) _ _ _ (wrap64 (a1 - 1)) [.int .i64 (wrap64 (a1 - 1))] from rfl) (Reps.one (show Kd.M (Kd.int .i64) _ _ _ 20 [.int .i64 20] from rfl) (Reps.one (show Kd.M (Kd.int .i64) _ _ _ (wrap64 (a2 - 1)) [.int .i64 (wrap64 (a2 - 1))] from rfl) (Reps.one (show Kd.M (Kd.int .i64) _ _ _ (wrap64 (a2 - 1)) [.int .i64 (wrap64 (a2 - 1))] from rfl) (Reps.none _ _)))))))); intro v193 w30 ho31 hb hg_ hnew_; clear hg_ hnew_; (first | rw [← Ny192.out] at ho31 | (simp only [Int.reduceToNat] at ho31; rw [← Ny192.out] at ho31)); have n0_ := Aside0.mk (Kd.R_lower ho31 (below_size (by repeat (first | (with_reducible first | exact HB.out | apply below_alloc | apply pw_below_drewN | apply below_drew1 | refine below_set ?_ GE190.out) | exact HB.out)))); have n1_ := Aside0.mk (blk_below (g := gb190) (o := .cells #[.int .i64 a3_0, .int .i64 a3_1, .int .i64 a3_2] 25 (0, 0)) (by (with_reducible repeat (first | refine blk_drewN ?_ _ | refine blk_drew ?_ | refine blk_alloc ?_ _)); exact BK190.out) hb); have n2_ := Aside0.mk (below_step (by repeat (first | (with_reducible first | exact HB.out | apply below_alloc | apply pw_below_drewN | apply below_drew1 | refine below_set ?_ GE190.out) | exact HB.out)) hb); clear BK190; clear HB; have HO194 := n0_; have BK190 := n1_; have HB := n2_; clear n0_ n1_ n2_; clear hb ho31; have hcz32_0 : w30.cell? ⟨gb190, 0, none⟩ = some (.int .i64 a3_0) := (blk_cell BK190.out 0).trans rfl; have hcz32_1 : w30.cell? ⟨gb190, 1, none⟩ = some (.int .i64 a3_1) := (blk_cell BK190.out 1).trans rfl; have hcz32_2 : w30.cell? ⟨gb190, 2, none⟩ = some (.int .i64 a3_2) := (blk_cell BK190.out 2).trans rfl; have hfz32_0 := blk_frozen BK190.out 0; have hfz32_1 := blk_frozen BK190.out 1; have hfz32_2 := blk_frozen BK190.out 2; obtain ⟨Ao33, co33, eo33⟩ := Kd.R_slice HO194.out; subst eo33; have p195 : 0 ≤ (a3_0 : Int) := of_decide_eq_true (by first | (with_reducible assumption) | assumption); have q195 : a3_0 < (y192.length : Int) := of_decide_eq_true (by first | (with_reducible assumption) | assumption); obtain ⟨ad195, e195, hx195_0⟩ := Kd.at_int (Kd.R_reads' HO194.out).2.2 a3_0 p195 q195; cases e195; replace p195 := eq_true p195; replace q195 := eq_true q195))
                  go_ret
                  exact ⟨by first | rfl | (simp [errW_none, errW_some] <;> rfl) | (simp [*, errW_none, errW_some] <;> rfl), by repeat (first | (with_reducible first | exact HB.out | apply below_alloc | apply pw_below_drewN | apply below_drew1 | refine below_set ?_ GE190.out) | exact HB.out)⟩
              · rw [if_neg c16] at H
                have c16b0 : decide (0 ≤ a3_1) = false := decide_eq_false c16
                clear c16
                obtain rfl := Option.some.inj H
                have hcz34_0 : wc.cell? ⟨gb190, 0, none⟩ = some (.int .i64 a3_0) := (blk_cell BK190.out 0).trans rfl
                have hcz34_1 : wc.cell? ⟨gb190, 1, none⟩ = some (.int .i64 a3_1) := (blk_cell BK190.out 1).trans rfl
                have hcz34_2 : wc.cell? ⟨gb190, 2, none⟩ = some (.int .i64 a3_2) := (blk_cell BK190.out 2).trans rfl
                have hfz34_0 := blk_frozen BK190.out 0
                have hfz34_1 := blk_frozen BK190.out 1
                have hfz34_2 := blk_frozen BK190.out 2
                go_wp2_with (first | ((with_reducible refine gate_dst (N := 42) rfl ?_); refine Kd.R_lit (Kd.int .i64) _ 3 ?hg (N := 42) ?hd (xs := ([0, 20, wrap64 (a1 - 1), 20, wrap64 (a2 - 1), wrap64 (a2 - 1)] : List Int)) (inner := [.int .i64 0, .int .i64 20, .int .i64 (wrap64 (a1 - 1)), .int .i64 20, .int .i64 (wrap64 (a2 - 1)), .int .i64 (wrap64 (a2 - 1))]) (ok := fun _ => True) (okp := fun _ => True) ?hr ?hp (fun _ hk => hk) trivial (Below.refl _ _) (Nat.le_refl _) (by simp) ?_; (case hd => rfl); (case hg => rfl); (case hr => first | (go_simp; done) | (go_simp; rfl)); (case hp => exact (Reps.one (show Kd.M (Kd.int .i64) _ _ _ 0 [.int .i64 0] from rfl) (Reps.one (show Kd.M (Kd.int .i64) _ _ _ 20 [.int .i64 20] from rfl) (Reps.one (show Kd.M (Kd.int .i64) _ _ _ (wrap64 (a1 - 1)) [.int .i64 (wrap64 (a1 - 1))] from rfl) (Reps.one (show Kd.M (Kd.int .i64) _ _ _ 20 [.int .i64 20] from rfl) (Reps.one (show Kd.M (Kd.int .i64) _ _ _ (wrap64 (a2 - 1)) [.int .i64 (wrap64 (a2 - 1))] from rfl) (Reps.one (show Kd.M (Kd.int .i64) _ _ _ (wrap64 (a2 - 1)) [.int .i64 (wrap64 (a2 - 1))] from rfl) (Reps.none _ _)))))))); intro v193 w35 ho36 hb hg_ hnew_; clear hg_ hnew_; (first | rw [← Ny192.out] at ho36 | (simp only [Int.reduceToNat] at ho36; rw [← Ny192.out] at ho36)); have n0_ := Aside0.mk (Kd.R_lower ho36 (below_size (by repeat (first | (with_reducible first | exact HB.out | apply below_alloc | apply pw_below_drewN | apply below_drew1 | refine below_set ?_ GE190.out) | exact HB.out)))); have n1_ := Aside0.mk (blk_below (g := gb190) (o := .cells #[.int .i64 a3_0, .int .i64 a3_1, .int .i64 a3_2] 25 (0, 0)) (by (with_reducible repeat (first | refine blk_drewN ?_ _ | refine blk_drew ?_ | refine blk_alloc ?_ _)); exact BK190.out) hb); have n2_ := Aside0.mk (below_step (by repeat (first | (with_reducible first | exact HB.out | apply below_alloc | apply pw_below_drewN | apply below_drew1 | refine below_set ?_ GE190.out) | exact HB.out)) hb); clear BK190; clear HB; have HO194 := n0_; have BK190 := n1_; have HB := n2_; clear n0_ n1_ n2_; clear hb ho36; have hcz37_0 : w35.cell? ⟨gb190, 0, none⟩ = some (.int .i64 a3_0) := (blk_cell BK190.out 0).trans rfl; have hcz37_1 : w35.cell? ⟨gb190, 1, none⟩ = some (.int .i64 a3_1) := (blk_cell BK190.out 1).trans rfl; have hcz37_2 : w35.cell? ⟨gb190, 2, none⟩ = some (.int .i64 a3_2) := (blk_cell BK190.out 2).trans rfl; have hfz37_0 := blk_frozen BK190.out 0; have hfz37_1 := blk_frozen BK190.out 1; have hfz37_2 := blk_frozen BK190.out 2; obtain ⟨Ao38, co38, eo38⟩ := Kd.R_slice HO194.out; subst eo38; have p195 : 0 ≤ (a3_0 : Int) := of_decide_eq_true (by first | (with_reducible assumption) | assumption); have q195 : a3_0 < (y192.length : Int) := of_decide_eq_true (by first | (with_reducible assumption) | assumption); obtain ⟨ad195, e195, hx195_0⟩ := Kd.at_int (Kd.R_reads' HO194.out).2.2 a3_0 p195 q195; cases e195; replace p195 := eq_true p195; replace q195 := eq_true q195))
                go_ret
                exact ⟨by first | rfl | (simp [errW_none, errW_some] <;> rfl) | (simp [*, errW_none, errW_some] <;> rfl), by repeat (first | (with_reducible first | exact HB.out | apply below_alloc | apply pw_below_drewN | apply below_drew1 | refine below_set ?_ GE190.out) | exact HB.out)⟩
            · rw [if_neg c15] at H
              exact absurd H (by simp)
          · rw [if_neg c14] at H
            exact absurd H (by simp)
        · rw [if_neg c13] at H
          have c13b0 : (a3_0 == 0) = false := beq_eq_false_iff_ne.mpr c13
          have c13b1 : (a3_0 != 0) = true := bne_iff_ne.mpr c13
          by_cases c39 : a3_0 = 5
          · rw [if_pos c39] at H
            have c39b0 : (a3_0 == 5) = true := beq_iff_eq.mpr c39
            have c39b1 : (a3_0 != 5) = false := bne_eq_false_iff_eq.mpr c39
            clear c39
            obtain ⟨y196, hy196⟩ : ∃ y_ : List Int, y_ = (([0, 20, wrap64 (a1 - 1), 20, wrap64 (a2 - 1), wrap64 (a2 - 1)] : List Int)) := ⟨_, rfl⟩
            replace H : (if 0 ≤ a3_0 then (if a3_0 < (y196.length : Int) then (if a3_1 ≥ 0 then (if a3_1 ≤ 0 then (if a3_2 ≥ 0 then (some (decide (a3_2 ≤ (rd y196 a3_0)))) else (some false)) else (some false)) else (some false)) else (none)) else (none)) = some r := by first | (rw [hy196]; with_reducible exact H) | (have H2_ := (Option.bind_some _ _).symm.trans H; rw [hy196]; with_reducible exact H2_) | (have H2_ := (Option.bind_some _ _).symm.trans H; with_reducible exact H2_) | with_reducible exact H | (rw [hy196]; exact H) | exact H
            have Ny196 := Aside0.mk hy196
            clear hy196
            by_cases c40 : 0 ≤ a3_0
            · rw [if_pos c40] at H
              have c40b0 : decide (0 ≤ a3_0) = true := decide_eq_true c40
              clear c40
              by_cases c41 : a3_0 < (y196.length : Int)
              · rw [if_pos c41] at H
                have c41b0 : decide (a3_0 < (y196.length : Int)) = true := decide_eq_true c41
                clear c41
                by_cases c42 : a3_1 ≥ 0
                · rw [if_pos c42] at H
                  have c42b0 : decide (0 ≤ a3_1) = true := decide_eq_true c42
                  clear c42
                  by_cases c43 : a3_1 ≤ 0
                  · rw [if_pos c43] at H
                    have c43b0 : decide (a3_1 ≤ 0) = true := decide_eq_true c43
                    clear c43
                    by_cases c44 : a3_2 ≥ 0
                    · rw [if_pos c44] at H
                      have c44b0 : decide (0 ≤ a3_2) = true := decide_eq_true c44
                      clear c44
                      obtain rfl := Option.some.inj H
                      have hcz45_0 : wc.cell? ⟨gb190, 0, none⟩ = some (.int .i64 a3_0) := (blk_cell BK190.out 0).trans rfl
                      have hcz45_1 : wc.cell? ⟨gb190, 1, none⟩ = some (.int .i64 a3_1) := (blk_cell BK190.out 1).trans rfl
                      have hcz45_2 : wc.cell? ⟨gb190, 2, none⟩ = some (.int .i64 a3_2) := (blk_cell BK190.out 2).trans rfl
                      have hfz45_0 := blk_frozen BK190.out 0
                      have hfz45_1 := blk_frozen BK190.out 1
                      have hfz45_2 := blk_frozen BK190.out 2
                      go_wp2_with (first | ((with_reducible refine gate_dst (N := 42) rfl ?_); refine Kd.R_lit (Kd.int .i64) _ 3 ?hg (N := 42) ?hd (xs := ([0, 20, wrap64 (a1 - 1), 20, wrap64 (a2 - 1), wrap64 (a2 - 1)] : List Int)) (inner := [.int .i64 0, .int .i64 20, .int .i64 (wrap64 (a1 - 1)), .int .i64 20, .int .i64 (wrap64 (a2 - 1)), .int .i64 (wrap64 (a2 - 1))]) (ok := fun _ => True) (okp := fun _ => True) ?hr ?hp (fun _ hk => hk) trivial (Below.refl _ _) (Nat.le_refl _) (by simp) ?_; (case hd => rfl); (case hg => rfl); (case hr => first | (go_simp; done) | (go_simp; rfl)); (case hp => exact (Reps.one (show Kd.M (Kd.int .i64) _ _ _ 0 [.int .i64 0] from rfl) (Reps.one (show Kd.M (Kd.int .i64) _ _ _ 20 [.int .i64 20] from rfl) (Reps.one (show Kd.M (Kd.int .i64) _ _ _ (wrap64 (a1 - 1)) [.int .i64 (wrap64 (a1 - 1))] from rfl) (Reps.one (show Kd.M (Kd.int .i64) _ _ _ 20 [.int .i64 20] from rfl) (Reps.one (show Kd.M (Kd.int .i64) _ _ _ (wrap64 (a2 - 1)) [.int .i64 (wrap64 (a2 - 1))] from rfl) (Reps.one (show Kd.M (Kd.int .i64) _ _ _ (wrap64 (a2 - 1)) [.int .i64 (wrap64 (a2 - 1))] from rfl) (Reps.none _ _)))))))); intro v197 w46 ho47 hb hg_ hnew_; clear hg_ hnew_; (first | rw [← Ny196.out] at ho47 | (simp only [Int.reduceToNat] at ho47; rw [← Ny196.out] at ho47)); have n0_ := Aside0.mk (Kd.R_lower ho47 (below_size (by repeat (first | (with_reducible first | exact HB.out | apply below_alloc | apply pw_below_drewN | apply below_drew1 | refine below_set ?_ GE190.out) | exact HB.out)))); have n1_ := Aside0.mk (blk_below (g := gb190) (o := .cells #[.int .i64 a3_0, .int .i64 a3_1, .int .i64 a3_2] 25 (0, 0)) (by (with_reducible repeat (first | refine blk_drewN ?_ _ | refine blk_drew ?_ | refine blk_alloc ?_ _)); exact BK190.out) hb); have n2_ := Aside0.mk (below_step (by repeat (first | (with_reducible first | exact HB.out | apply below_alloc | apply pw_below_drewN | apply below_drew1 | refine below_set ?_ GE190.out) | exact HB.out)) hb); clear BK190; clear HB; have HO198 := n0_; have BK190 := n1_; have HB := n2_; clear n0_ n1_ n2_; clear hb ho47; have hcz48_0 : w46.cell? ⟨gb190, 0, none⟩ = some (.int .i64 a3_0) := (blk_cell BK190.out 0).trans rfl; have hcz48_1 : w46.cell? ⟨gb190, 1, none⟩ = some (.int .i64 a3_1) := (blk_cell BK190.out 1).trans rfl; have hcz48_2 : w46.cell? ⟨gb190, 2, none⟩ = some (.int .i64 a3_2) := (blk_cell BK190.out 2).trans rfl; have hfz48_0 := blk_frozen BK190.out 0; have hfz48_1 := blk_frozen BK190.out 1; have hfz48_2 := blk_frozen BK190.out 2; obtain ⟨Ao49, co49, eo49⟩ := Kd.R_slice HO198.out; subst eo49; have p199 : 0 ≤ (a3_0 : Int) := of_decide_eq_true (by first | (with_reducible assumption) | assumption); have q199 : a3_0 < (y196.length : Int) := of_decide_eq_true (by first | (with_reducible assumption) | assumption); obtain ⟨ad199, e199, hx199_0⟩ := Kd.at_int (Kd.R_reads' HO198.out).2.2 a3_0 p199 q199; cases e199; replace p199 := eq_true p199; replace q199 := eq_true q199))
                      go_ret
                      exact ⟨by first | rfl | (simp [errW_none, errW_some] <;> rfl) | (simp [*, errW_none, errW_some] <;> rfl), by repeat (first | (with_reducible first | exact HB.out | apply below_alloc | apply pw_below_drewN | apply below_drew1 | refine below_set ?_ GE190.out) | exact HB.out)⟩
                    · rw [if_neg c44] at H
                      have c44b0 : decide (0 ≤ a3_2) = false := decide_eq_false c44
                      clear c44
                      obtain rfl := Option.some.inj H
                      have hcz50_0 : wc.cell? ⟨gb190, 0, none⟩ = some (.int .i64 a3_0) := (blk_cell BK190.out 0).trans rfl
                      have hcz50_1 : wc.cell? ⟨gb190, 1, none⟩ = some (.int .i64 a3_1) := (blk_cell BK190.out 1).trans rfl
                      have hcz50_2 : wc.cell? ⟨gb190, 2, none⟩ = some (.int .i64 a3_2) := (blk_cell BK190.out 2).trans rfl
                      have hfz50_0 := blk_frozen BK190.out 0
                      have hfz50_1 := blk_frozen BK190.out 1
                      have hfz50_2 := blk_frozen BK190.out 2
                      go_wp2_with (first | ((with_reducible refine gate_dst (N := 42) rfl ?_); refine Kd.R_lit (Kd.int .i64) _ 3 ?hg (N := 42) ?hd (xs := ([0, 20, wrap64 (a1 - 1), 20, wrap64 (a2 - 1), wrap64 (a2 - 1)] : List Int)) (inner := [.int .i64 0, .int .i64 20, .int .i64 (wrap64 (a1 - 1)), .int .i64 20, .int .i64 (wrap64 (a2 - 1)), .int .i64 (wrap64 (a2 - 1))]) (ok := fun _ => True) (okp := fun _ => True) ?hr ?hp (fun _ hk => hk) trivial (Below.refl _ _) (Nat.le_refl _) (by simp) ?_; (case hd => rfl); (case hg => rfl); (case hr => first | (go_simp; done) | (go_simp; rfl)); (case hp => exact (Reps.one (show Kd.M (Kd.int .i64) _ _ _ 0 [.int .i64 0] from rfl) (Reps.one (show Kd.M (Kd.int .i64) _ _ _ 20 [.int .i64 20] from rfl) (Reps.one (show Kd.M (Kd.int .i64) _ _ _ (wrap64 (a1 - 1)) [.int .i64 (wrap64 (a1 - 1))] from rfl) (Reps.one (show Kd.M (Kd.int .i64) _ _ _ 20 [.int .i64 20] from rfl) (Reps.one (show Kd.M (Kd.int .i64) _ _ _ (wrap64 (a2 - 1)) [.int .i64 (wrap64 (a2 - 1))] from rfl) (Reps.one (show Kd.M (Kd.int .i64) _ _ _ (wrap64 (a2 - 1)) [.int .i64 (wrap64 (a2 - 1))] from rfl) (Reps.none _ _)))))))); intro v197 w51 ho52 hb hg_ hnew_; clear hg_ hnew_; (first | rw [← Ny196.out] at ho52 | (simp only [Int.reduceToNat] at ho52; rw [← Ny196.out] at ho52)); have n0_ := Aside0.mk (Kd.R_lower ho52 (below_size (by repeat (first | (with_reducible first | exact HB.out | apply below_alloc | apply pw_below_drewN | apply below_drew1 | refine below_set ?_ GE190.out) | exact HB.out)))); have n1_ := Aside0.mk (blk_below (g := gb190) (o := .cells #[.int .i64 a3_0, .int .i64 a3_1, .int .i64 a3_2] 25 (0, 0)) (by (with_reducible repeat (first | refine blk_drewN ?_ _ | refine blk_drew ?_ | refine blk_alloc ?_ _)); exact BK190.out) hb); have n2_ := Aside0.mk (below_step (by repeat (first | (with_reducible first | exact HB.out | apply below_alloc | apply pw_below_drewN | apply below_drew1 | refine below_set ?_ GE190.out) | exact HB.out)) hb); clear BK190; clear HB; have HO198 := n0_; have BK190 := n1_; have HB := n2_; clear n0_ n1_ n2_; clear hb ho52; have hcz53_0 : w51.cell? ⟨gb190, 0, none⟩ = some (.int .i64 a3_0) := (blk_cell BK190.out 0).trans rfl; have hcz53_1 : w51.cell? ⟨gb190, 1, none⟩ = some (.int .i64 a3_1) := (blk_cell BK190.out 1).trans rfl; have hcz53_2 : w51.cell? ⟨gb190, 2, none⟩ = some (.int .i64 a3_2) := (blk_cell BK190.out 2).trans rfl; have hfz53_0 := blk_frozen BK190.out 0; have hfz53_1 := blk_frozen BK190.out 1; have hfz53_2 := blk_frozen BK190.out 2; obtain ⟨Ao54, co54, eo54⟩ := Kd.R_slice HO198.out; subst eo54; have p199 : 0 ≤ (a3_0 : Int) := of_decide_eq_true (by first | (with_reducible assumption) | assumption); have q199 : a3_0 < (y196.length : Int) := of_decide_eq_true (by first | (with_reducible assumption) | assumption); obtain ⟨ad199, e199, hx199_0⟩ := Kd.at_int (Kd.R_reads' HO198.out).2.2 a3_0 p199 q199; cases e199; replace p199 := eq_true p199; replace q199 := eq_true q199))
                      go_ret
                      exact ⟨by first | rfl | (simp [errW_none, errW_some] <;> rfl) | (simp [*, errW_none, errW_some] <;> rfl), by repeat (first | (with_reducible first | exact HB.out | apply below_alloc | apply pw_below_drewN | apply below_drew1 | refine below_set ?_ GE190.out) | exact HB.out)⟩
                  · rw [if_neg c43] at H
                    have c43b0 : decide (a3_1 ≤ 0) = false := decide_eq_false c43
                    clear c43
                    obtain rfl := Option.some.inj H
                    have hcz55_0 : wc.cell? ⟨gb190, 0, none⟩ = some (.int .i64 a3_0) := (blk_cell BK190.out 0).trans rfl
                    have hcz55_1 : wc.cell? ⟨gb190, 1, none⟩ = some (.int .i64 a3_1) := (blk_cell BK190.out 1).trans rfl
                    have hcz55_2 : wc.cell? ⟨gb190, 2, none⟩ = some (.int .i64 a3_2) := (blk_cell BK190.out 2).trans rfl
                    have hfz55_0 := blk_frozen BK190.out 0
                    have hfz55_1 := blk_frozen BK190.out 1
                    have hfz55_2 := blk_frozen BK190.out 2
                    go_wp2_with (first | ((with_reducible refine gate_dst (N := 42) rfl ?_); refine Kd.R_lit (Kd.int .i64) _ 3 ?hg (N := 42) ?hd (xs := ([0, 20, wrap64 (a1 - 1), 20, wrap64 (a2 - 1), wrap64 (a2 - 1)] : List Int)) (inner := [.int .i64 0, .int .i64 20, .int .i64 (wrap64 (a1 - 1)), .int .i64 20, .int .i64 (wrap64 (a2 - 1)), .int .i64 (wrap64 (a2 - 1))]) (ok := fun _ => True) (okp := fun _ => True) ?hr ?hp (fun _ hk => hk) trivial (Below.refl _ _) (Nat.le_refl _) (by simp) ?_; (case hd => rfl); (case hg => rfl); (case hr => first | (go_simp; done) | (go_simp; rfl)); (case hp => exact (Reps.one (show Kd.M (Kd.int .i64) _ _ _ 0 [.int .i64 0] from rfl) (Reps.one (show Kd.M (Kd.int .i64) _ _ _ 20 [.int .i64 20] from rfl) (Reps.one (show Kd.M (Kd.int .i64) _ _ _ (wrap64 (a1 - 1)) [.int .i64 (wrap64 (a1 - 1))] from rfl) (Reps.one (show Kd.M (Kd.int .i64) _ _ _ 20 [.int .i64 20] from rfl) (Reps.one (show Kd.M (Kd.int .i64) _ _ _ (wrap64 (a2 - 1)) [.int .i64 (wrap64 (a2 - 1))] from rfl) (Reps.one (show Kd.M (Kd.int .i64) _ _ _ (wrap64 (a2 - 1)) [.int .i64 (wrap64 (a2 - 1))] from rfl) (Reps.none _ _)))))))); intro v197 w56 ho57 hb hg_ hnew_; clear hg_ hnew_; (first | rw [← Ny196.out] at ho57 | (simp only [Int.reduceToNat] at ho57; rw [← Ny196.out] at ho57)); have n0_ := Aside0.mk (Kd.R_lower ho57 (below_size (by repeat (first | (with_reducible first | exact HB.out | apply below_alloc | apply pw_below_drewN | apply below_drew1 | refine below_set ?_ GE190.out) | exact HB.out)))); have n1_ := Aside0.mk (blk_below (g := gb190) (o := .cells #[.int .i64 a3_0, .int .i64 a3_1, .int .i64 a3_2] 25 (0, 0)) (by (with_reducible repeat (first | refine blk_drewN ?_ _ | refine blk_drew ?_ | refine blk_alloc ?_ _)); exact BK190.out) hb); have n2_ := Aside0.mk (below_step (by repeat (first | (with_reducible first | exact HB.out | apply below_alloc | apply pw_below_drewN | apply below_drew1 | refine below_set ?_ GE190.out) | exact HB.out)) hb); clear BK190; clear HB; have HO198 := n0_; have BK190 := n1_; have HB := n2_; clear n0_ n1_ n2_; clear hb ho57; have hcz58_0 : w56.cell? ⟨gb190, 0, none⟩ = some (.int .i64 a3_0) := (blk_cell BK190.out 0).trans rfl; have hcz58_1 : w56.cell? ⟨gb190, 1, none⟩ = some (.int .i64 a3_1) := (blk_cell BK190.out 1).trans rfl; have hcz58_2 : w56.cell? ⟨gb190, 2, none⟩ = some (.int .i64 a3_2) := (blk_cell BK190.out 2).trans rfl; have hfz58_0 := blk_frozen BK190.out 0; have hfz58_1 := blk_frozen BK190.out 1; have hfz58_2 := blk_frozen BK190.out 2; obtain ⟨Ao59, co59, eo59⟩ := Kd.R_slice HO198.out; subst eo59; have p199 : 0 ≤ (a3_0 : Int) := of_decide_eq_true (by first | (with_reducible assumption) | assumption); have q199 : a3_0 < (y196.length : Int) := of_decide_eq_true (by first | (with_reducible assumption) | assumption); obtain ⟨ad199, e199, hx199_0⟩ := Kd.at_int (Kd.R_reads' HO198.out).2.2 a3_0 p199 q199; cases e199; replace p199 := eq_true p199; replace q199 := eq_true q199))
                    go_ret
                    exact ⟨by first | rfl | (simp [errW_none, errW_some] <;> rfl) | (simp [*, errW_none, errW_some] <;> rfl), by repeat (first | (with_reducible first | exact HB.out | apply below_alloc | apply pw_below_drewN | apply below_drew1 | refine below_set ?_ GE190.out) | exact HB.out)⟩
                · rw [if_neg c42] at H
                  have c42b0 : decide (0 ≤ a3_1) = false := decide_eq_false c42
                  clear c42
                  obtain rfl := Option.some.inj H
                  have hcz60_0 : wc.cell? ⟨gb190, 0, none⟩ = some (.int .i64 a3_0) := (blk_cell BK190.out 0).trans rfl
                  have hcz60_1 : wc.cell? ⟨gb190, 1, none⟩ = some (.int .i64 a3_1) := (blk_cell BK190.out 1).trans rfl
                  have hcz60_2 : wc.cell? ⟨gb190, 2, none⟩ = some (.int .i64 a3_2) := (blk_cell BK190.out 2).trans rfl
                  have hfz60_0 := blk_frozen BK190.out 0
                  have hfz60_1 := blk_frozen BK190.out 1
                  have hfz60_2 := blk_frozen BK190.out 2
                  go_wp2_with (first | ((with_reducible refine gate_dst (N := 42) rfl ?_); refine Kd.R_lit (Kd.int .i64) _ 3 ?hg (N := 42) ?hd (xs := ([0, 20, wrap64 (a1 - 1), 20, wrap64 (a2 - 1), wrap64 (a2 - 1)] : List Int)) (inner := [.int .i64 0, .int .i64 20, .int .i64 (wrap64 (a1 - 1)), .int .i64 20, .int .i64 (wrap64 (a2 - 1)), .int .i64 (wrap64 (a2 - 1))]) (ok := fun _ => True) (okp := fun _ => True) ?hr ?hp (fun _ hk => hk) trivial (Below.refl _ _) (Nat.le_refl _) (by simp) ?_; (case hd => rfl); (case hg => rfl); (case hr => first | (go_simp; done) | (go_simp; rfl)); (case hp => exact (Reps.one (show Kd.M (Kd.int .i64) _ _ _ 0 [.int .i64 0] from rfl) (Reps.one (show Kd.M (Kd.int .i64) _ _ _ 20 [.int .i64 20] from rfl) (Reps.one (show Kd.M (Kd.int .i64) _ _ _ (wrap64 (a1 - 1)) [.int .i64 (wrap64 (a1 - 1))] from rfl) (Reps.one (show Kd.M (Kd.int .i64) _ _ _ 20 [.int .i64 20] from rfl) (Reps.one (show Kd.M (Kd.int .i64) _ _ _ (wrap64 (a2 - 1)) [.int .i64 (wrap64 (a2 - 1))] from rfl) (Reps.one (show Kd.M (Kd.int .i64) _ _ _ (wrap64 (a2 - 1)) [.int .i64 (wrap64 (a2 - 1))] from rfl) (Reps.none _ _)))))))); intro v197 w61 ho62 hb hg_ hnew_; clear hg_ hnew_; (first | rw [← Ny196.out] at ho62 | (simp only [Int.reduceToNat] at ho62; rw [← Ny196.out] at ho62)); have n0_ := Aside0.mk (Kd.R_lower ho62 (below_size (by repeat (first | (with_reducible first | exact HB.out | apply below_alloc | apply pw_below_drewN | apply below_drew1 | refine below_set ?_ GE190.out) | exact HB.out)))); have n1_ := Aside0.mk (blk_below (g := gb190) (o := .cells #[.int .i64 a3_0, .int .i64 a3_1, .int .i64 a3_2] 25 (0, 0)) (by (with_reducible repeat (first | refine blk_drewN ?_ _ | refine blk_drew ?_ | refine blk_alloc ?_ _)); exact BK190.out) hb); have n2_ := Aside0.mk (below_step (by repeat (first | (with_reducible first | exact HB.out | apply below_alloc | apply pw_below_drewN | apply below_drew1 | refine below_set ?_ GE190.out) | exact HB.out)) hb); clear BK190; clear HB; have HO198 := n0_; have BK190 := n1_; have HB := n2_; clear n0_ n1_ n2_; clear hb ho62; have hcz63_0 : w61.cell? ⟨gb190, 0, none⟩ = some (.int .i64 a3_0) := (blk_cell BK190.out 0).trans rfl; have hcz63_1 : w61.cell? ⟨gb190, 1, none⟩ = some (.int .i64 a3_1) := (blk_cell BK190.out 1).trans rfl; have hcz63_2 : w61.cell? ⟨gb190, 2, none⟩ = some (.int .i64 a3_2) := (blk_cell BK190.out 2).trans rfl; have hfz63_0 := blk_frozen BK190.out 0; have hfz63_1 := blk_frozen BK190.out 1; have hfz63_2 := blk_frozen BK190.out 2; obtain ⟨Ao64, co64, eo64⟩ := Kd.R_slice HO198.out; subst eo64; have p199 : 0 ≤ (a3_0 : Int) := of_decide_eq_true (by first | (with_reducible assumption) | assumption); have q199 : a3_0 < (y196.length : Int) := of_decide_eq_true (by first | (with_reducible assumption) | assumption); obtain ⟨ad199, e199, hx199_0⟩ := Kd.at_int (Kd.R_reads' HO198.out).2.2 a3_0 p199 q199; cases e199; replace p199 := eq_true p199; replace q199 := eq_true q199))
                  go_ret
                  exact ⟨by first | rfl | (simp [errW_none, errW_some] <;> rfl) | (simp [*, errW_none, errW_some] <;> rfl), by repeat (first | (with_reducible first | exact HB.out | apply below_alloc | apply pw_below_drewN | apply below_drew1 | refine below_set ?_ GE190.out) | exact HB.out)⟩
              · rw [if_neg c41] at H
                exact absurd H (by simp)
            · rw [if_neg c40] at H
              exact absurd H (by simp)
          · rw [if_neg c39] at H
            have c39b0 : (a3_0 == 5) = false := beq_eq_false_iff_ne.mpr c39
            have c39b1 : (a3_0 != 5) = true := bne_iff_ne.mpr c39
            obtain ⟨y200, hy200⟩ : ∃ y_ : List Int, y_ = (([0, 20, wrap64 (a1 - 1), 20, wrap64 (a2 - 1), wrap64 (a2 - 1)] : List Int)) := ⟨_, rfl⟩
            replace H : (if 0 ≤ a3_0 then (if a3_0 < (y200.length : Int) then (if a3_1 ≥ 1 then (if a3_1 ≤ a0 then (if a3_2 ≥ 0 then (some (decide (a3_2 ≤ (rd y200 a3_0)))) else (some false)) else (some false)) else (some false)) else (none)) else (none)) = some r := by first | (rw [hy200]; with_reducible exact H) | (have H2_ := (Option.bind_some _ _).symm.trans H; rw [hy200]; with_reducible exact H2_) | (have H2_ := (Option.bind_some _ _).symm.trans H; with_reducible exact H2_) | with_reducible exact H | (rw [hy200]; exact H) | exact H
            have Ny200 := Aside0.mk hy200
            clear hy200
            by_cases c65 : 0 ≤ a3_0
            · rw [if_pos c65] at H
              have c65b0 : decide (0 ≤ a3_0) = true := decide_eq_true c65
              clear c65
              by_cases c66 : a3_0 < (y200.length : Int)
              · rw [if_pos c66] at H
                have c66b0 : decide (a3_0 < (y200.length : Int)) = true := decide_eq_true c66
                clear c66
                by_cases c67 : a3_1 ≥ 1
                · rw [if_pos c67] at H
                  have c67b0 : decide (1 ≤ a3_1) = true := decide_eq_true c67
                  clear c67
                  by_cases c68 : a3_1 ≤ a0
                  · rw [if_pos c68] at H
                    have c68b0 : decide (a3_1 ≤ a0) = true := decide_eq_true c68
                    clear c68
                    by_cases c69 : a3_2 ≥ 0
                    · rw [if_pos c69] at H
                      have c69b0 : decide (0 ≤ a3_2) = true := decide_eq_true c69
                      clear c69
                      obtain rfl := Option.some.inj H
                      have hcz70_0 : wc.cell? ⟨gb190, 0, none⟩ = some (.int .i64 a3_0) := (blk_cell BK190.out 0).trans rfl
                      have hcz70_1 : wc.cell? ⟨gb190, 1, none⟩ = some (.int .i64 a3_1) := (blk_cell BK190.out 1).trans rfl
                      have hcz70_2 : wc.cell? ⟨gb190, 2, none⟩ = some (.int .i64 a3_2) := (blk_cell BK190.out 2).trans rfl
                      have hfz70_0 := blk_frozen BK190.out 0
                      have hfz70_1 := blk_frozen BK190.out 1
                      have hfz70_2 := blk_frozen BK190.out 2
                      go_wp2_with (first | ((with_reducible refine gate_dst (N := 42) rfl ?_); refine Kd.R_lit (Kd.int .i64) _ 3 ?hg (N := 42) ?hd (xs := ([0, 20, wrap64 (a1 - 1), 20, wrap64 (a2 - 1), wrap64 (a2 - 1)] : List Int)) (inner := [.int .i64 0, .int .i64 20, .int .i64 (wrap64 (a1 - 1)), .int .i64 20, .int .i64 (wrap64 (a2 - 1)), .int .i64 (wrap64 (a2 - 1))]) (ok := fun _ => True) (okp := fun _ => True) ?hr ?hp (fun _ hk => hk) trivial (Below.refl _ _) (Nat.le_refl _) (by simp) ?_; (case hd => rfl); (case hg => rfl); (case hr => first | (go_simp; done) | (go_simp; rfl)); (case hp => exact (Reps.one (show Kd.M (Kd.int .i64) _ _ _ 0 [.int .i64 0] from rfl) (Reps.one (show Kd.M (Kd.int .i64) _ _ _ 20 [.int .i64 20] from rfl) (Reps.one (show Kd.M (Kd.int .i64) _ _ _ (wrap64 (a1 - 1)) [.int .i64 (wrap64 (a1 - 1))] from rfl) (Reps.one (show Kd.M (Kd.int .i64) _ _ _ 20 [.int .i64 20] from rfl) (Reps.one (show Kd.M (Kd.int .i64) _ _ _ (wrap64 (a2 - 1)) [.int .i64 (wrap64 (a2 - 1))] from rfl) (Reps.one (show Kd.M (Kd.int .i64) _ _ _ (wrap64 (a2 - 1)) [.int .i64 (wrap64 (a2 - 1))] from rfl) (Reps.none _ _)))))))); intro v201 w71 ho72 hb hg_ hnew_; clear hg_ hnew_; (first | rw [← Ny200.out] at ho72 | (simp only [Int.reduceToNat] at ho72; rw [← Ny200.out] at ho72)); have n0_ := Aside0.mk (Kd.R_lower ho72 (below_size (by repeat (first | (with_reducible first | exact HB.out | apply below_alloc | apply pw_below_drewN | apply below_drew1 | refine below_set ?_ GE190.out) | exact HB.out)))); have n1_ := Aside0.mk (blk_below (g := gb190) (o := .cells #[.int .i64 a3_0, .int .i64 a3_1, .int .i64 a3_2] 25 (0, 0)) (by (with_reducible repeat (first | refine blk_drewN ?_ _ | refine blk_drew ?_ | refine blk_alloc ?_ _)); exact BK190.out) hb); have n2_ := Aside0.mk (below_step (by repeat (first | (with_reducible first | exact HB.out | apply below_alloc | apply pw_below_drewN | apply below_drew1 | refine below_set ?_ GE190.out) | exact HB.out)) hb); clear BK190; clear HB; have HO202 := n0_; have BK190 := n1_; have HB := n2_; clear n0_ n1_ n2_; clear hb ho72; have hcz73_0 : w71.cell? ⟨gb190, 0, none⟩ = some (.int .i64 a3_0) := (blk_cell BK190.out 0).trans rfl; have hcz73_1 : w71.cell? ⟨gb190, 1, none⟩ = some (.int .i64 a3_1) := (blk_cell BK190.out 1).trans rfl; have hcz73_2 : w71.cell? ⟨gb190, 2, none⟩ = some (.int .i64 a3_2) := (blk_cell BK190.out 2).trans rfl; have hfz73_0 := blk_frozen BK190.out 0; have hfz73_1 := blk_frozen BK190.out 1; have hfz73_2 := blk_frozen BK190.out 2; obtain ⟨Ao74, co74, eo74⟩ := Kd.R_slice HO202.out; subst eo74; have p203 : 0 ≤ (a3_0 : Int) := of_decide_eq_true (by first | (with_reducible assumption) | assumption); have q203 : a3_0 < (y200.length : Int) := of_decide_eq_true (by first | (with_reducible assumption) | assumption); obtain ⟨ad203, e203, hx203_0⟩ := Kd.at_int (Kd.R_reads' HO202.out).2.2 a3_0 p203 q203; cases e203; replace p203 := eq_true p203; replace q203 := eq_true q203))
                      go_ret
                      exact ⟨by first | rfl | (simp [errW_none, errW_some] <;> rfl) | (simp [*, errW_none, errW_some] <;> rfl), by repeat (first | (with_reducible first | exact HB.out | apply below_alloc | apply pw_below_drewN | apply below_drew1 | refine below_set ?_ GE190.out) | exact HB.out)⟩
                    · rw [if_neg c69] at H
                      have c69b0 : decide (0 ≤ a3_2) = false := decide_eq_false c69
                      clear c69
                      obtain rfl := Option.some.inj H
                      have hcz75_0 : wc.cell? ⟨gb190, 0, none⟩ = some (.int .i64 a3_0) := (blk_cell BK190.out 0).trans rfl
                      have hcz75_1 : wc.cell? ⟨gb190, 1, none⟩ = some (.int .i64 a3_1) := (blk_cell BK190.out 1).trans rfl
                      have hcz75_2 : wc.cell? ⟨gb190, 2, none⟩ = some (.int .i64 a3_2) := (blk_cell BK190.out 2).trans rfl
                      have hfz75_0 := blk_frozen BK190.out 0
                      have hfz75_1 := blk_frozen BK190.out 1
                      have hfz75_2 := blk_frozen BK190.out 2
                      go_wp2_with (first | ((with_reducible refine gate_dst (N := 42) rfl ?_); refine Kd.R_lit (Kd.int .i64) _ 3 ?hg (N := 42) ?hd (xs := ([0, 20, wrap64 (a1 - 1), 20, wrap64 (a2 - 1), wrap64 (a2 - 1)] : List Int)) (inner := [.int .i64 0, .int .i64 20, .int .i64 (wrap64 (a1 - 1)), .int .i64 20, .int .i64 (wrap64 (a2 - 1)), .int .i64 (wrap64 (a2 - 1))]) (ok := fun _ => True) (okp := fun _ => True) ?hr ?hp (fun _ hk => hk) trivial (Below.refl _ _) (Nat.le_refl _) (by simp) ?_; (case hd => rfl); (case hg => rfl); (case hr => first | (go_simp; done) | (go_simp; rfl)); (case hp => exact (Reps.one (show Kd.M (Kd.int .i64) _ _ _ 0 [.int .i64 0] from rfl) (Reps.one (show Kd.M (Kd.int .i64) _ _ _ 20 [.int .i64 20] from rfl) (Reps.one (show Kd.M (Kd.int .i64) _ _ _ (wrap64 (a1 - 1)) [.int .i64 (wrap64 (a1 - 1))] from rfl) (Reps.one (show Kd.M (Kd.int .i64) _ _ _ 20 [.int .i64 20] from rfl) (Reps.one (show Kd.M (Kd.int .i64) _ _ _ (wrap64 (a2 - 1)) [.int .i64 (wrap64 (a2 - 1))] from rfl) (Reps.one (show Kd.M (Kd.int .i64) _ _ _ (wrap64 (a2 - 1)) [.int .i64 (wrap64 (a2 - 1))] from rfl) (Reps.none _ _)))))))); intro v201 w76 ho77 hb hg_ hnew_; clear hg_ hnew_; (first | rw [← Ny200.out] at ho77 | (simp only [Int.reduceToNat] at ho77; rw [← Ny200.out] at ho77)); have n0_ := Aside0.mk (Kd.R_lower ho77 (below_size (by repeat (first | (with_reducible first | exact HB.out | apply below_alloc | apply pw_below_drewN | apply below_drew1 | refine below_set ?_ GE190.out) | exact HB.out)))); have n1_ := Aside0.mk (blk_below (g := gb190) (o := .cells #[.int .i64 a3_0, .int .i64 a3_1, .int .i64 a3_2] 25 (0, 0)) (by (with_reducible repeat (first | refine blk_drewN ?_ _ | refine blk_drew ?_ | refine blk_alloc ?_ _)); exact BK190.out) hb); have n2_ := Aside0.mk (below_step (by repeat (first | (with_reducible first | exact HB.out | apply below_alloc | apply pw_below_drewN | apply below_drew1 | refine below_set ?_ GE190.out) | exact HB.out)) hb); clear BK190; clear HB; have HO202 := n0_; have BK190 := n1_; have HB := n2_; clear n0_ n1_ n2_; clear hb ho77; have hcz78_0 : w76.cell? ⟨gb190, 0, none⟩ = some (.int .i64 a3_0) := (blk_cell BK190.out 0).trans rfl; have hcz78_1 : w76.cell? ⟨gb190, 1, none⟩ = some (.int .i64 a3_1) := (blk_cell BK190.out 1).trans rfl; have hcz78_2 : w76.cell? ⟨gb190, 2, none⟩ = some (.int .i64 a3_2) := (blk_cell BK190.out 2).trans rfl; have hfz78_0 := blk_frozen BK190.out 0; have hfz78_1 := blk_frozen BK190.out 1; have hfz78_2 := blk_frozen BK190.out 2; obtain ⟨Ao79, co79, eo79⟩ := Kd.R_slice HO202.out; subst eo79; have p203 : 0 ≤ (a3_0 : Int) := of_decide_eq_true (by first | (with_reducible assumption) | assumption); have q203 : a3_0 < (y200.length : Int) := of_decide_eq_true (by first | (with_reducible assumption) | assumption); obtain ⟨ad203, e203, hx203_0⟩ := Kd.at_int (Kd.R_reads' HO202.out).2.2 a3_0 p203 q203; cases e203; replace p203 := eq_true p203; replace q203 := eq_true q203))
                      go_ret
                      exact ⟨by first | rfl | (simp [errW_none, errW_some] <;> rfl) | (simp [*, errW_none, errW_some] <;> rfl), by repeat (first | (with_reducible first | exact HB.out | apply below_alloc | apply pw_below_drewN | apply below_drew1 | refine below_set ?_ GE190.out) | exact HB.out)⟩
                  · rw [if_neg c68] at H
                    have c68b0 : decide (a3_1 ≤ a0) = false := decide_eq_false c68
                    clear c68
                    obtain rfl := Option.some.inj H
                    have hcz80_0 : wc.cell? ⟨gb190, 0, none⟩ = some (.int .i64 a3_0) := (blk_cell BK190.out 0).trans rfl
                    have hcz80_1 : wc.cell? ⟨gb190, 1, none⟩ = some (.int .i64 a3_1) := (blk_cell BK190.out 1).trans rfl
                    have hcz80_2 : wc.cell? ⟨gb190, 2, none⟩ = some (.int .i64 a3_2) := (blk_cell BK190.out 2).trans rfl
                    have hfz80_0 := blk_frozen BK190.out 0
                    have hfz80_1 := blk_frozen BK190.out 1
                    have hfz80_2 := blk_frozen BK190.out 2
                    go_wp2_with (first | ((with_reducible refine gate_dst (N := 42) rfl ?_); refine Kd.R_lit (Kd.int .i64) _ 3 ?hg (N := 42) ?hd (xs := ([0, 20, wrap64 (a1 - 1), 20, wrap64 (a2 - 1), wrap64 (a2 - 1)] : List Int)) (inner := [.int .i64 0, .int .i64 20, .int .i64 (wrap64 (a1 - 1)), .int .i64 20, .int .i64 (wrap64 (a2 - 1)), .int .i64 (wrap64 (a2 - 1))]) (ok := fun _ => True) (okp := fun _ => True) ?hr ?hp (fun _ hk => hk) trivial (Below.refl _ _) (Nat.le_refl _) (by simp) ?_; (case hd => rfl); (case hg => rfl); (case hr => first | (go_simp; done) | (go_simp; rfl)); (case hp => exact (Reps.one (show Kd.M (Kd.int .i64) _ _ _ 0 [.int .i64 0] from rfl) (Reps.one (show Kd.M (Kd.int .i64) _ _ _ 20 [.int .i64 20] from rfl) (Reps.one (show Kd.M (Kd.int .i64) _ _ _ (wrap64 (a1 - 1)) [.int .i64 (wrap64 (a1 - 1))] from rfl) (Reps.one (show Kd.M (Kd.int .i64) _ _ _ 20 [.int .i64 20] from rfl) (Reps.one (show Kd.M (Kd.int .i64) _ _ _ (wrap64 (a2 - 1)) [.int .i64 (wrap64 (a2 - 1))] from rfl) (Reps.one (show Kd.M (Kd.int .i64) _ _ _ (wrap64 (a2 - 1)) [.int .i64 (wrap64 (a2 - 1))] from rfl) (Reps.none _ _)))))))); intro v201 w81 ho82 hb hg_ hnew_; clear hg_ hnew_; (first | rw [← Ny200.out] at ho82 | (simp only [Int.reduceToNat] at ho82; rw [← Ny200.out] at ho82)); have n0_ := Aside0.mk (Kd.R_lower ho82 (below_size (by repeat (first | (with_reducible first | exact HB.out | apply below_alloc | apply pw_below_drewN | apply below_drew1 | refine below_set ?_ GE190.out) | exact HB.out)))); have n1_ := Aside0.mk (blk_below (g := gb190) (o := .cells #[.int .i64 a3_0, .int .i64 a3_1, .int .i64 a3_2] 25 (0, 0)) (by (with_reducible repeat (first | refine blk_drewN ?_ _ | refine blk_drew ?_ | refine blk_alloc ?_ _)); exact BK190.out) hb); have n2_ := Aside0.mk (below_step (by repeat (first | (with_reducible first | exact HB.out | apply below_alloc | apply pw_below_drewN | apply below_drew1 | refine below_set ?_ GE190.out) | exact HB.out)) hb); clear BK190; clear HB; have HO202 := n0_; have BK190 := n1_; have HB := n2_; clear n0_ n1_ n2_; clear hb ho82; have hcz83_0 : w81.cell? ⟨gb190, 0, none⟩ = some (.int .i64 a3_0) := (blk_cell BK190.out 0).trans rfl; have hcz83_1 : w81.cell? ⟨gb190, 1, none⟩ = some (.int .i64 a3_1) := (blk_cell BK190.out 1).trans rfl; have hcz83_2 : w81.cell? ⟨gb190, 2, none⟩ = some (.int .i64 a3_2) := (blk_cell BK190.out 2).trans rfl; have hfz83_0 := blk_frozen BK190.out 0; have hfz83_1 := blk_frozen BK190.out 1; have hfz83_2 := blk_frozen BK190.out 2; obtain ⟨Ao84, co84, eo84⟩ := Kd.R_slice HO202.out; subst eo84; have p203 : 0 ≤ (a3_0 : Int) := of_decide_eq_true (by first | (with_reducible assumption) | assumption); have q203 : a3_0 < (y200.length : Int) := of_decide_eq_true (by first | (with_reducible assumption) | assumption); obtain ⟨ad203, e203, hx203_0⟩ := Kd.at_int (Kd.R_reads' HO202.out).2.2 a3_0 p203 q203; cases e203; replace p203 := eq_true p203; replace q203 := eq_true q203))
                    go_ret
                    exact ⟨by first | rfl | (simp [errW_none, errW_some] <;> rfl) | (simp [*, errW_none, errW_some] <;> rfl), by repeat (first | (with_reducible first | exact HB.out | apply below_alloc | apply pw_below_drewN | apply below_drew1 | refine below_set ?_ GE190.out) | exact HB.out)⟩
                · rw [if_neg c67] at H
                  have c67b0 : decide (1 ≤ a3_1) = false := decide_eq_false c67
                  clear c67
                  obtain rfl := Option.some.inj H
                  have hcz85_0 : wc.cell? ⟨gb190, 0, none⟩ = some (.int .i64 a3_0) := (blk_cell BK190.out 0).trans rfl
                  have hcz85_1 : wc.cell? ⟨gb190, 1, none⟩ = some (.int .i64 a3_1) := (blk_cell BK190.out 1).trans rfl
                  have hcz85_2 : wc.cell? ⟨gb190, 2, none⟩ = some (.int .i64 a3_2) := (blk_cell BK190.out 2).trans rfl
                  have hfz85_0 := blk_frozen BK190.out 0
                  have hfz85_1 := blk_frozen BK190.out 1
                  have hfz85_2 := blk_frozen BK190.out 2
                  go_wp2_with (first | ((with_reducible refine gate_dst (N := 42) rfl ?_); refine Kd.R_lit (Kd.int .i64) _ 3 ?hg (N := 42) ?hd (xs := ([0, 20, wrap64 (a1 - 1), 20, wrap64 (a2 - 1), wrap64 (a2 - 1)] : List Int)) (inner := [.int .i64 0, .int .i64 20, .int .i64 (wrap64 (a1 - 1)), .int .i64 20, .int .i64 (wrap64 (a2 - 1)), .int .i64 (wrap64 (a2 - 1))]) (ok := fun _ => True) (okp := fun _ => True) ?hr ?hp (fun _ hk => hk) trivial (Below.refl _ _) (Nat.le_refl _) (by simp) ?_; (case hd => rfl); (case hg => rfl); (case hr => first | (go_simp; done) | (go_simp; rfl)); (case hp => exact (Reps.one (show Kd.M (Kd.int .i64) _ _ _ 0 [.int .i64 0] from rfl) (Reps.one (show Kd.M (Kd.int .i64) _ _ _ 20 [.int .i64 20] from rfl) (Reps.one (show Kd.M (Kd.int .i64) _ _ _ (wrap64 (a1 - 1)) [.int .i64 (wrap64 (a1 - 1))] from rfl) (Reps.one (show Kd.M (Kd.int .i64) _ _ _ 20 [.int .i64 20] from rfl) (Reps.one (show Kd.M (Kd.int .i64) _ _ _ (wrap64 (a2 - 1)) [.int .i64 (wrap64 (a2 - 1))] from rfl) (Reps.one (show Kd.M (Kd.int .i64) _ _ _ (wrap64 (a2 - 1)) [.int .i64 (wrap64 (a2 - 1))] from rfl) (Reps.none _ _)))))))); intro v201 w86 ho87 hb hg_ hnew_; clear hg_ hnew_; (first | rw [← Ny200.out] at ho87 | (simp only [Int.reduceToNat] at ho87; rw [← Ny200.out] at ho87)); have n0_ := Aside0.mk (Kd.R_lower ho87 (below_size (by repeat (first | (with_reducible first | exact HB.out | apply below_alloc | apply pw_below_drewN | apply below_drew1 | refine below_set ?_ GE190.out) | exact HB.out)))); have n1_ := Aside0.mk (blk_below (g := gb190) (o := .cells #[.int .i64 a3_0, .int .i64 a3_1, .int .i64 a3_2] 25 (0, 0)) (by (with_reducible repeat (first | refine blk_drewN ?_ _ | refine blk_drew ?_ | refine blk_alloc ?_ _)); exact BK190.out) hb); have n2_ := Aside0.mk (below_step (by repeat (first | (with_reducible first | exact HB.out | apply below_alloc | apply pw_below_drewN | apply below_drew1 | refine below_set ?_ GE190.out) | exact HB.out)) hb); clear BK190; clear HB; have HO202 := n0_; have BK190 := n1_; have HB := n2_; clear n0_ n1_ n2_; clear hb ho87; have hcz88_0 : w86.cell? ⟨gb190, 0, none⟩ = some (.int .i64 a3_0) := (blk_cell BK190.out 0).trans rfl; have hcz88_1 : w86.cell? ⟨gb190, 1, none⟩ = some (.int .i64 a3_1) := (blk_cell BK190.out 1).trans rfl; have hcz88_2 : w86.cell? ⟨gb190, 2, none⟩ = some (.int .i64 a3_2) := (blk_cell BK190.out 2).trans rfl; have hfz88_0 := blk_frozen BK190.out 0; have hfz88_1 := blk_frozen BK190.out 1; have hfz88_2 := blk_frozen BK190.out 2; obtain ⟨Ao89, co89, eo89⟩ := Kd.R_slice HO202.out; subst eo89; have p203 : 0 ≤ (a3_0 : Int) := of_decide_eq_true (by first | (with_reducible assumption) | assumption); have q203 : a3_0 < (y200.length : Int) := of_decide_eq_true (by first | (with_reducible assumption) | assumption); obtain ⟨ad203, e203, hx203_0⟩ := Kd.at_int (Kd.R_reads' HO202.out).2.2 a3_0 p203 q203; cases e203; replace p203 := eq_true p203; replace q203 := eq_true q203))
                  go_ret
                  exact ⟨by first | rfl | (simp [errW_none, errW_some] <;> rfl) | (simp [*, errW_none, errW_some] <;> rfl), by repeat (first | (with_reducible first | exact HB.out | apply below_alloc | apply pw_below_drewN | apply below_drew1 | refine below_set ?_ GE190.out) | exact HB.out)⟩
              · rw [if_neg c66] at H
                exact absurd H (by simp)
            · rw [if_neg c65] at H
              exact absurd H (by simp)

/-! ### substationref29_counted: function 23 -/
def substationref29_counted.f (a0_0 : Int) (a0_1 : Int) (a0_2 : Int) (a1 : Int) (a2 : Bool) : Option (Int × Int × Int) := if a2 = true then (some (a0_0, a0_1, a0_2)) else (if a0_2 = (wrap64 (a1 - 1)) then (some (0, 0, 0)) else (some (a0_0, a0_1, wrap64 (a0_2 + 1))))
set_option maxHeartbeats 8000000 in
set_option maxRecDepth 100000 in
theorem substationref29_counted.calls (a0_0 : Int) (a0_1 : Int) (a0_2 : Int) (a1 : Int) (a2 : Bool) (r1 : Int) (r2 : Int) (r3 : Int) (w : World) (h : substationref29_counted.f a0_0 a0_1 a0_2 a1 a2 = some (r1, r2, r3)) :
    Calls Try.prog 23 #[.agg #[.int .i64 a0_0, .int .i64 a0_1, .int .i64 a0_2], .int .i64 a1, .bool a2] w fun e w' => e = .returned (.agg #[.int .i64 r1, .int .i64 r2, .int .i64 r3]) ∧ Below w.heap.size w w' := by
  have hu25 := Try.underlying25
  have HB := Aside0.mk (Below.refl w.heap.size w)
  have H : (if a2 = true then (some (a0_0, a0_1, a0_2)) else (if a0_2 = (wrap64 (a1 - 1)) then (some (0, 0, 0)) else (some (a0_0, a0_1, wrap64 (a0_2 + 1))))) = some (r1, r2, r3) := h
  clear h
  by_cases c4 : a2 = true
  · subst c4
    have H1 : (some (a0_0, a0_1, a0_2)) = some (r1, r2, r3) := by rw [if_pos rfl] at H; exact H
    clear H
    have H := H1
    clear H1
    simp only [Option.some.injEq, Prod.mk.injEq] at H
    obtain ⟨rfl, rfl, rfl⟩ := H
    go_enter Try.func23, Try.ntmps23
    go_wp2_with (first | ((with_reducible refine gate_dst (N := 3) rfl ?_); refine box_event ?hg (N := 3) ?hd (cs := #[.int .i64 a0_0, .int .i64 a0_1, .int .i64 a0_2]) (t := 25) ?hr ?_; (case hd => rfl); (case hg => rfl); (case hr => first | (go_simp; done) | (go_simp; rfl)); intro gb204 hg w5 hbox hb; have n0_ := Aside0.mk (below_step (by repeat (first | (with_reducible first | exact HB.out | apply below_alloc | apply pw_below_drewN | apply below_drew1) | exact HB.out)) hb); have n1_ := Aside0.mk (hbox); have n2_ := Aside0.mk ((by rw [hg]; exact (below_size (by repeat (first | (with_reducible first | exact HB.out | apply below_alloc | apply pw_below_drewN | apply below_drew1) | exact HB.out))) : w.heap.size ≤ gb204)); have n3_ := Aside0.mk ((by rw [hg]; exact (below_size (by repeat (first | (with_reducible first | exact HB.out | apply below_alloc | apply pw_below_drewN | apply below_drew1) | exact HB.out))) : w.heap.size ≤ gb204)); clear HB; have HB := n0_; have BK204 := n1_; have GW204 := n2_; have GE204 := n3_; clear n0_ n1_ n2_ n3_; clear hb hbox hg) | ((with_reducible refine gate_dst (N := 6) rfl ?_); refine box_event ?hg (N := 6) ?hd (cs := #[.int .i64 0, .int .i64 0, .int .i64 0]) (t := 25) ?hr ?_; (case hd => rfl); (case hg => rfl); (case hr => first | (go_simp; done) | (go_simp; rfl)); intro gb205 hg w6 hbox hb; have n0_ := Aside0.mk (blk_below (g := gb204) (o := .cells #[.int .i64 a0_0, .int .i64 a0_1, .int .i64 a0_2] 25 (0, 0)) (by (with_reducible repeat (first | refine blk_drewN ?_ _ | refine blk_drew ?_ | refine blk_alloc ?_ _)); exact BK204.out) hb); have n1_ := Aside0.mk (below_step (by repeat (first | (with_reducible first | exact HB.out | apply below_alloc | apply pw_below_drewN | apply below_drew1 | refine below_set ?_ GE204.out) | exact HB.out)) hb); have n2_ := Aside0.mk (hbox); have n3_ := Aside0.mk ((by rw [hg]; exact (below_size (by repeat (first | (with_reducible first | exact HB.out | apply below_alloc | apply pw_below_drewN | apply below_drew1 | refine below_set ?_ GE204.out) | exact HB.out))) : w.heap.size ≤ gb205)); have n4_ := Aside0.mk ((by rw [hg]; exact (below_size (by repeat (first | (with_reducible first | exact HB.out | apply below_alloc | apply pw_below_drewN | apply below_drew1 | refine below_set ?_ GE204.out) | exact HB.out))) : w.heap.size ≤ gb205)); have n5_ := Aside0.mk ((by rw [hg]; exact Nat.ne_of_lt (blk_lt (g := gb204) (o := .cells #[.int .i64 a0_0, .int .i64 a0_1, .int .i64 a0_2] 25 (0, 0)) (by (with_reducible repeat (first | refine blk_drewN ?_ _ | refine blk_drew ?_ | refine blk_alloc ?_ _)); exact BK204.out)) : gb204 ≠ gb205)); have n6_ := Aside0.mk ((by rw [hg]; exact Nat.ne_of_gt (blk_lt (g := gb204) (o := .cells #[.int .i64 a0_0, .int .i64 a0_1, .int .i64 a0_2] 25 (0, 0)) (by (with_reducible repeat (first | refine blk_drewN ?_ _ | refine blk_drew ?_ | refine blk_alloc ?_ _)); exact BK204.out)) : gb205 ≠ gb204)); clear BK204; clear HB; have BK204 := n0_; have HB := n1_; have BK205 := n2_; have GW205 := n3_; have GE205 := n4_; have NB204_205 := n5_; have NB205_204 := n6_; clear n0_ n1_ n2_ n3_ n4_ n5_ n6_; clear hb hbox hg; have hnb7 := NB204_205.out; have hnc7 := NB205_204.out; have hcz8_0 : w6.cell? ⟨gb204, 0, none⟩ = some (.int .i64 a0_0) := (blk_cell BK204.out 0).trans rfl; have hcz8_1 : w6.cell? ⟨gb204, 1, none⟩ = some (.int .i64 a0_1) := (blk_cell BK204.out 1).trans rfl; have hcz8_2 : w6.cell? ⟨gb204, 2, none⟩ = some (.int .i64 a0_2) := (blk_cell BK204.out 2).trans rfl; have hfz8_0 := blk_frozen BK204.out 0; have hfz8_1 := blk_frozen BK204.out 1; have hfz8_2 := blk_frozen BK204.out 2; have hcz9_0 : w6.cell? ⟨gb205, 0, none⟩ = some (.int .i64 0) := (blk_cell BK205.out 0).trans rfl; have hcz9_1 : w6.cell? ⟨gb205, 1, none⟩ = some (.int .i64 0) := (blk_cell BK205.out 1).trans rfl; have hcz9_2 : w6.cell? ⟨gb205, 2, none⟩ = some (.int .i64 0) := (blk_cell BK205.out 2).trans rfl; have hfz9_0 := blk_frozen BK205.out 0; have hfz9_1 := blk_frozen BK205.out 1; have hfz9_2 := blk_frozen BK205.out 2))
    refine bodyPost_ret (results_cell_row rfl _ _ gb205 25 #[.int .i64 a0_0, .int .i64 a0_1, .int .i64 a0_2] (0, 0) _ rfl (by (with_reducible repeat (first | refine blk_drewN ?_ _ | refine blk_drew ?_ | refine blk_alloc ?_ _)); refine blk_put (cs := #[.int .i64 a0_0, .int .i64 a0_1, .int .i64 0]) ?_ 2 _ rfl; (with_reducible repeat (first | refine blk_drewN ?_ _ | refine blk_drew ?_ | refine blk_alloc ?_ _)); refine blk_put (cs := #[.int .i64 a0_0, .int .i64 0, .int .i64 0]) ?_ 1 _ rfl; (with_reducible repeat (first | refine blk_drewN ?_ _ | refine blk_drew ?_ | refine blk_alloc ?_ _)); refine blk_put (cs := #[.int .i64 0, .int .i64 0, .int .i64 0]) ?_ 0 _ rfl; (with_reducible repeat (first | refine blk_drewN ?_ _ | refine blk_drew ?_ | refine blk_alloc ?_ _)); exact BK205.out) Try.underlying25 rfl (by kernel_rfl)) rfl ?_
    exact ⟨by first | rfl | (simp [errW_none, errW_some] <;> rfl) | (simp [*, errW_none, errW_some] <;> rfl), by repeat (first | (with_reducible first | exact HB.out | apply below_alloc | apply pw_below_drewN | apply below_drew1 | refine below_set ?_ GE204.out | refine below_set ?_ GE205.out) | exact HB.out)⟩
  · replace c4 := Bool.eq_false_iff.mpr c4
    subst c4
    have H1 : (if a0_2 = (wrap64 (a1 - 1)) then (some (0, 0, 0)) else (some (a0_0, a0_1, wrap64 (a0_2 + 1)))) = some (r1, r2, r3) := by rw [if_neg (show ¬ (false = true) by decide)] at H; exact H
    clear H
    have H := H1
    clear H1
    by_cases c10 : a0_2 = (wrap64 (a1 - 1))
    · rw [if_pos c10] at H
      have c10b0 : (a0_2 == (wrap64 (a1 - 1))) = true := beq_iff_eq.mpr c10
      have c10b1 : (a0_2 != (wrap64 (a1 - 1))) = false := bne_eq_false_iff_eq.mpr c10
      clear c10
      simp only [Option.some.injEq, Prod.mk.injEq] at H
      obtain ⟨rfl, rfl, rfl⟩ := H
      go_enter Try.func23, Try.ntmps23
      go_wp2_with (first | ((with_reducible refine gate_dst (N := 3) rfl ?_); refine box_event ?hg (N := 3) ?hd (cs := #[.int .i64 a0_0, .int .i64 a0_1, .int .i64 a0_2]) (t := 25) ?hr ?_; (case hd => rfl); (case hg => rfl); (case hr => first | (go_simp; done) | (go_simp; rfl)); intro gb204 hg w11 hbox hb; have n0_ := Aside0.mk (below_step (by repeat (first | (with_reducible first | exact HB.out | apply below_alloc | apply pw_below_drewN | apply below_drew1) | exact HB.out)) hb); have n1_ := Aside0.mk (hbox); have n2_ := Aside0.mk ((by rw [hg]; exact (below_size (by repeat (first | (with_reducible first | exact HB.out | apply below_alloc | apply pw_below_drewN | apply below_drew1) | exact HB.out))) : w.heap.size ≤ gb204)); have n3_ := Aside0.mk ((by rw [hg]; exact (below_size (by repeat (first | (with_reducible first | exact HB.out | apply below_alloc | apply pw_below_drewN | apply below_drew1) | exact HB.out))) : w.heap.size ≤ gb204)); clear HB; have HB := n0_; have BK204 := n1_; have GW204 := n2_; have GE204 := n3_; clear n0_ n1_ n2_ n3_; clear hb hbox hg) | ((with_reducible refine gate_dst (N := 6) rfl ?_); refine box_event ?hg (N := 6) ?hd (cs := #[.int .i64 0, .int .i64 0, .int .i64 0]) (t := 25) ?hr ?_; (case hd => rfl); (case hg => rfl); (case hr => first | (go_simp; done) | (go_simp; rfl)); intro gb205 hg w12 hbox hb; have n0_ := Aside0.mk (blk_below (g := gb204) (o := .cells #[.int .i64 a0_0, .int .i64 a0_1, .int .i64 a0_2] 25 (0, 0)) (by (with_reducible repeat (first | refine blk_drewN ?_ _ | refine blk_drew ?_ | refine blk_alloc ?_ _)); exact BK204.out) hb); have n1_ := Aside0.mk (below_step (by repeat (first | (with_reducible first | exact HB.out | apply below_alloc | apply pw_below_drewN | apply below_drew1 | refine below_set ?_ GE204.out) | exact HB.out)) hb); have n2_ := Aside0.mk (hbox); have n3_ := Aside0.mk ((by rw [hg]; exact (below_size (by repeat (first | (with_reducible first | exact HB.out | apply below_alloc | apply pw_below_drewN | apply below_drew1 | refine below_set ?_ GE204.out) | exact HB.out))) : w.heap.size ≤ gb205)); have n4_ := Aside0.mk ((by rw [hg]; exact (below_size (by repeat (first | (with_reducible first | exact HB.out | apply below_alloc | apply pw_below_drewN | apply below_drew1 | refine below_set ?_ GE204.out) | exact HB.out))) : w.heap.size ≤ gb205)); have n5_ := Aside0.mk ((by rw [hg]; exact Nat.ne_of_lt (blk_lt (g := gb204) (o := .cells #[.int .i64 a0_0, .int .i64 a0_1, .int .i64 a0_2] 25 (0, 0)) (by (with_reducible repeat (first | refine blk_drewN ?_ _ | refine blk_drew ?_ | refine blk_alloc ?_ _)); exact BK204.out)) : gb204 ≠ gb205)); have n6_ := Aside0.mk ((by rw [hg]; exact Nat.ne_of_gt (blk_lt (g := gb204) (o := .cells #[.int .i64 a0_0, .int .i64 a0_1, .int .i64 a0_2] 25 (0, 0)) (by (with_reducible repeat (first | refine blk_drewN ?_ _ | refine blk_drew ?_ | refine blk_alloc ?_ _)); exact BK204.out)) : gb205 ≠ gb204)); clear BK204; clear HB; have BK204 := n0_; have HB := n1_; have BK205 := n2_; have GW205 := n3_; have GE205 := n4_; have NB204_205 := n5_; have NB205_204 := n6_; clear n0_ n1_ n2_ n3_ n4_ n5_ n6_; clear hb hbox hg; have hnb13 := NB204_205.out; have hnc13 := NB205_204.out; have hcz14_0 : w12.cell? ⟨gb204, 0, none⟩ = some (.int .i64 a0_0) := (blk_cell BK204.out 0).trans rfl; have hcz14_1 : w12.cell? ⟨gb204, 1, none⟩ = some (.int .i64 a0_1) := (blk_cell BK204.out 1).trans rfl; have hcz14_2 : w12.cell? ⟨gb204, 2, none⟩ = some (.int .i64 a0_2) := (blk_cell BK204.out 2).trans rfl; have hfz14_0 := blk_frozen BK204.out 0; have hfz14_1 := blk_frozen BK204.out 1; have hfz14_2 := blk_frozen BK204.out 2; have hcz15_0 : w12.cell? ⟨gb205, 0, none⟩ = some (.int .i64 0) := (blk_cell BK205.out 0).trans rfl; have hcz15_1 : w12.cell? ⟨gb205, 1, none⟩ = some (.int .i64 0) := (blk_cell BK205.out 1).trans rfl; have hcz15_2 : w12.cell? ⟨gb205, 2, none⟩ = some (.int .i64 0) := (blk_cell BK205.out 2).trans rfl; have hfz15_0 := blk_frozen BK205.out 0; have hfz15_1 := blk_frozen BK205.out 1; have hfz15_2 := blk_frozen BK205.out 2))
      refine bodyPost_ret (results_cell_row rfl _ _ gb205 25 #[.int .i64 0, .int .i64 0, .int .i64 0] (0, 0) _ rfl (by (with_reducible repeat (first | refine blk_drewN ?_ _ | refine blk_drew ?_ | refine blk_alloc ?_ _)); refine blk_put (cs := #[.int .i64 0, .int .i64 0, .int .i64 0]) ?_ 2 _ rfl; (with_reducible repeat (first | refine blk_drewN ?_ _ | refine blk_drew ?_ | refine blk_alloc ?_ _)); refine blk_put (cs := #[.int .i64 0, .int .i64 0, .int .i64 0]) ?_ 1 _ rfl; (with_reducible repeat (first | refine blk_drewN ?_ _ | refine blk_drew ?_ | refine blk_alloc ?_ _)); refine blk_put (cs := #[.int .i64 0, .int .i64 0, .int .i64 0]) ?_ 0 _ rfl; (with_reducible repeat (first | refine blk_drewN ?_ _ | refine blk_drew ?_ | refine blk_alloc ?_ _)); exact BK205.out) Try.underlying25 rfl (by kernel_rfl)) rfl ?_
      exact ⟨by first | rfl | (simp [errW_none, errW_some] <;> rfl) | (simp [*, errW_none, errW_some] <;> rfl), by repeat (first | (with_reducible first | exact HB.out | apply below_alloc | apply pw_below_drewN | apply below_drew1 | refine below_set ?_ GE204.out | refine below_set ?_ GE205.out) | exact HB.out)⟩
    · rw [if_neg c10] at H
      have c10b0 : (a0_2 == (wrap64 (a1 - 1))) = false := beq_eq_false_iff_ne.mpr c10
      have c10b1 : (a0_2 != (wrap64 (a1 - 1))) = true := bne_iff_ne.mpr c10
      simp only [Option.some.injEq, Prod.mk.injEq] at H
      obtain ⟨rfl, rfl, rfl⟩ := H
      go_enter Try.func23, Try.ntmps23
      go_wp2_with (first | ((with_reducible refine gate_dst (N := 3) rfl ?_); refine box_event ?hg (N := 3) ?hd (cs := #[.int .i64 a0_0, .int .i64 a0_1, .int .i64 a0_2]) (t := 25) ?hr ?_; (case hd => rfl); (case hg => rfl); (case hr => first | (go_simp; done) | (go_simp; rfl)); intro gb204 hg w16 hbox hb; have n0_ := Aside0.mk (below_step (by repeat (first | (with_reducible first | exact HB.out | apply below_alloc | apply pw_below_drewN | apply below_drew1) | exact HB.out)) hb); have n1_ := Aside0.mk (hbox); have n2_ := Aside0.mk ((by rw [hg]; exact (below_size (by repeat (first | (with_reducible first | exact HB.out | apply below_alloc | apply pw_below_drewN | apply below_drew1) | exact HB.out))) : w.heap.size ≤ gb204)); have n3_ := Aside0.mk ((by rw [hg]; exact (below_size (by repeat (first | (with_reducible first | exact HB.out | apply below_alloc | apply pw_below_drewN | apply below_drew1) | exact HB.out))) : w.heap.size ≤ gb204)); clear HB; have HB := n0_; have BK204 := n1_; have GW204 := n2_; have GE204 := n3_; clear n0_ n1_ n2_ n3_; clear hb hbox hg) | ((with_reducible refine gate_dst (N := 6) rfl ?_); refine box_event ?hg (N := 6) ?hd (cs := #[.int .i64 0, .int .i64 0, .int .i64 0]) (t := 25) ?hr ?_; (case hd => rfl); (case hg => rfl); (case hr => first | (go_simp; done) | (go_simp; rfl)); intro gb205 hg w17 hbox hb; have n0_ := Aside0.mk (blk_below (g := gb204) (o := .cells #[.int .i64 a0_0, .int .i64 a0_1, .int .i64 a0_2] 25 (0, 0)) (by (with_reducible repeat (first | refine blk_drewN ?_ _ | refine blk_drew ?_ | refine blk_alloc ?_ _)); exact BK204.out) hb); have n1_ := Aside0.mk (below_step (by repeat (first | (with_reducible first | exact HB.out | apply below_alloc | apply pw_below_drewN | apply below_drew1 | refine below_set ?_ GE204.out) | exact HB.out)) hb); have n2_ := Aside0.mk (hbox); have n3_ := Aside0.mk ((by rw [hg]; exact (below_size (by repeat (first | (with_reducible first | exact HB.out | apply below_alloc | apply pw_below_drewN | apply below_drew1 | refine below_set ?_ GE204.out) | exact HB.out))) : w.heap.size ≤ gb205)); have n4_ := Aside0.mk ((by rw [hg]; exact (below_size (by repeat (first | (with_reducible first | exact HB.out | apply below_alloc | apply pw_below_drewN | apply below_drew1 | refine below_set ?_ GE204.out) | exact HB.out))) : w.heap.size ≤ gb205)); have n5_ := Aside0.mk ((by rw [hg]; exact Nat.ne_of_lt (blk_lt (g := gb204) (o := .cells #[.int .i64 a0_0, .int .i64 a0_1, .int .i64 a0_2] 25 (0, 0)) (by (with_reducible repeat (first | refine blk_drewN ?_ _ | refine blk_drew ?_ | refine blk_alloc ?_ _)); exact BK204.out)) : gb204 ≠ gb205)); have n6_ := Aside0.mk ((by rw [hg]; exact Nat.ne_of_gt (blk_lt (g := gb204) (o := .cells #[.int .i64 a0_0, .int .i64 a0_1, .int .i64 a0_2] 25 (0, 0)) (by (with_reducible repeat (first | refine blk_drewN ?_ _ | refine blk_drew ?_ | refine blk_alloc ?_ _)); exact BK204.out)) : gb205 ≠ gb204)); clear BK204; clear HB; have BK204 := n0_; have HB := n1_; have BK205 := n2_; have GW205 := n3_; have GE205 := n4_; have NB204_205 := n5_; have NB205_204 := n6_; clear n0_ n1_ n2_ n3_ n4_ n5_ n6_; clear hb hbox hg; have hnb18 := NB204_205.out; have hnc18 := NB205_204.out; have hcz19_0 : w17.cell? ⟨gb204, 0, none⟩ = some (.int .i64 a0_0) := (blk_cell BK204.out 0).trans rfl; have hcz19_1 : w17.cell? ⟨gb204, 1, none⟩ = some (.int .i64 a0_1) := (blk_cell BK204.out 1).trans rfl; have hcz19_2 : w17.cell? ⟨gb204, 2, none⟩ = some (.int .i64 a0_2) := (blk_cell BK204.out 2).trans rfl; have hfz19_0 := blk_frozen BK204.out 0; have hfz19_1 := blk_frozen BK204.out 1; have hfz19_2 := blk_frozen BK204.out 2; have hcz20_0 : w17.cell? ⟨gb205, 0, none⟩ = some (.int .i64 0) := (blk_cell BK205.out 0).trans rfl; have hcz20_1 : w17.cell? ⟨gb205, 1, none⟩ = some (.int .i64 0) := (blk_cell BK205.out 1).trans rfl; have hcz20_2 : w17.cell? ⟨gb205, 2, none⟩ = some (.int .i64 0) := (blk_cell BK205.out 2).trans rfl; have hfz20_0 := blk_frozen BK205.out 0; have hfz20_1 := blk_frozen BK205.out 1; have hfz20_2 := blk_frozen BK205.out 2))
      refine bodyPost_ret (results_cell_row rfl _ _ gb205 25 #[.int .i64 a0_0, .int .i64 a0_1, .int .i64 (wrap64 (a0_2 + 1))] (0, 0) _ rfl (by (with_reducible repeat (first | refine blk_drewN ?_ _ | refine blk_drew ?_ | refine blk_alloc ?_ _)); refine blk_put (cs := #[.int .i64 a0_0, .int .i64 a0_1, .int .i64 0]) ?_ 2 _ rfl; (with_reducible repeat (first | refine blk_drewN ?_ _ | refine blk_drew ?_ | refine blk_alloc ?_ _)); refine blk_put (cs := #[.int .i64 a0_0, .int .i64 0, .int .i64 0]) ?_ 1 _ rfl; (with_reducible repeat (first | refine blk_drewN ?_ _ | refine blk_drew ?_ | refine blk_alloc ?_ _)); refine blk_put (cs := #[.int .i64 0, .int .i64 0, .int .i64 0]) ?_ 0 _ rfl; (with_reducible repeat (first | refine blk_drewN ?_ _ | refine blk_drew ?_ | refine blk_alloc ?_ _)); refine blk_far ?_ NB205_204.out _; (with_reducible repeat (first | refine blk_drewN ?_ _ | refine blk_drew ?_ | refine blk_alloc ?_ _)); exact BK205.out) Try.underlying25 rfl (by kernel_rfl)) rfl ?_
      exact ⟨by first | rfl | (simp [errW_none, errW_some] <;> rfl) | (simp [*, errW_none, errW_some] <;> rfl), by repeat (first | (with_reducible first | exact HB.out | apply below_alloc | apply pw_below_drewN | apply below_drew1 | refine below_set ?_ GE204.out | refine below_set ?_ GE205.out) | exact HB.out)⟩

end Go.Proofs.Ytmppijipaocfiaa.PAll
