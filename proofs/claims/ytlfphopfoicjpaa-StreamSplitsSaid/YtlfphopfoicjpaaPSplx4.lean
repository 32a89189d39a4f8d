-- PRINTED BY print.sh 35421559b90ae4d0a3588c463048766b98c2df88dd9212a6774a882060cdf62d: not written by this session
import Derived.Test.YtlfphopfoicjpaaPSplx0
namespace Go.Proofs.Ytlfphopfoicjpaa.PSpl
open Go.RowKit Go.Proofs.YtlfphopfoicjpaaW.PrintWords Go.Proofs.YtlfphopfoicjpaaW.PrintLast Go.Proofs.YtlfphopfoicjpaaW.PrintMore
attribute [local go_sem] max2_int min2_int max_two min_two max_three min_three max_four min_four   -- for this text's walks alone
set_option linter.unusedVariables false
set_option linter.unusedSimpArgs false

/-! ### substationref15_between: function 30 -/
def substationref15_between.f (a0 : Int) (a1 : Int) (a2 : Int) : Option (Bool) := if a0 ≥ a1 then (some (decide (a0 ≤ a2))) else (some false)
set_option maxHeartbeats 8000000 in
set_option maxRecDepth 100000 in
theorem substationref15_between.calls (a0 : Int) (a1 : Int) (a2 : Int) (r : Bool) (w : World) (h : substationref15_between.f a0 a1 a2 = some r) :
    Calls Try.prog 30 #[.int .i64 a0, .int .i64 a1, .int .i64 a2] w fun e w' => e = .returned (.bool r) ∧ Drawn0 w w' := by
  have H : (if a0 ≥ a1 then (some (decide (a0 ≤ a2))) else (some false)) = some r := h
  clear h
  by_cases c4 : a0 ≥ a1
  · rw [if_pos c4] at H
    have c4b0 : decide (a1 ≤ a0) = true := decide_eq_true c4
    clear c4
    obtain rfl := Option.some.inj H
    go_enter Try.func30, Try.ntmps30
    go_wp2
    go_ret
    exact ⟨by first | rfl | (simp; done) | (simp [*]; done), by repeat (first | exact Drawn0.refl _ | apply Drawn0.step)⟩
  · rw [if_neg c4] at H
    have c4b0 : decide (a1 ≤ a0) = false := decide_eq_false c4
    clear c4
    obtain rfl := Option.some.inj H
    go_enter Try.func30, Try.ntmps30
    go_wp2
    go_ret
    exact ⟨by first | rfl | (simp; done) | (simp [*]; done), by repeat (first | exact Drawn0.refl _ | apply Drawn0.step)⟩

/-! ### substationref15_Check: function 11 -/
mutual
def substationref15_Check.j0 : Nat → Bool → Int → Int → Bool → List Int → List Int → Option (Int)
  | 0, _, _, _, _, _, _ => none
  | k + 1, x13, x184000, x184001, x184002, x184003, x184004 => if x13 = true then (some 2) else ((substationref15_between.f (x184003.length : Int) 1 8).bind fun t186 => (if t186 = true then (substationref15_Check.j1 k ((x184004.length : Int) != (x184003.length : Int)) x184000 x184001 x184002 x184003 x184004) else (substationref15_Check.j1 k true x184000 x184001 x184002 x184003 x184004)))
def substationref15_Check.j1 : Nat → Bool → Int → Int → Bool → List Int → List Int → Option (Int)
  | 0, _, _, _, _, _, _ => none
  | k + 1, x27, x184000, x184001, x184002, x184003, x184004 => if x27 = true then (some 3) else (substationref15_Check.l0 k 0 x184000 x184001 x184002 x184003 x184004)
def substationref15_Check.l0 : Nat → Int → Int → Int → Bool → List Int → List Int → Option (Int)
  | 0, _, _, _, _, _, _ => none
  | k + 1, x3, x184000, x184001, x184002, x184003, x184004 => if x3 < (x184003.length : Int) then (if 0 ≤ x3 then ((substationref15_between.f (rd x184003 x3) (-16383) 16383).bind fun t188 => (if t188 = true then (if x3 < (x184004.length : Int) then ((substationref15_between.f (rd x184004 x3) 0 255).bind fun t190 => (if t190 = true then (substationref15_Check.l0 k (wrap64 (x3 + 1)) x184000 x184001 x184002 x184003 x184004) else (some 2))) else (none)) else (some 2))) else (none)) else (some 0)
end
def substationref15_Check.f (k : Nat) (a0_0 : Int) (a0_1 : Int) (a0_2 : Bool) (l0_3 : List Int) (l0_4 : List Int) : Option (Int) := (substationref15_between.f a0_0 0 999).bind fun t184 => (if t184 = true then ((substationref15_between.f a0_1 0 599).bind fun t185 => (substationref15_Check.j0 k (!t185) a0_0 a0_1 a0_2 l0_3 l0_4)) else (substationref15_Check.j0 k true a0_0 a0_1 a0_2 l0_3 l0_4))
theorem substationref15_Check.mono_l : ∀ k, (∀ y0 y1 y2 y3 y4 y5, LeO (substationref15_Check.j0 k y0 y1 y2 y3 y4 y5) (substationref15_Check.j0 (k + 1) y0 y1 y2 y3 y4 y5)) ∧ (∀ y0 y1 y2 y3 y4 y5, LeO (substationref15_Check.j1 k y0 y1 y2 y3 y4 y5) (substationref15_Check.j1 (k + 1) y0 y1 y2 y3 y4 y5)) ∧ (∀ y0 y1 y2 y3 y4 y5, LeO (substationref15_Check.l0 k y0 y1 y2 y3 y4 y5) (substationref15_Check.l0 (k + 1) y0 y1 y2 y3 y4 y5))
  | 0 => ⟨fun _ _ _ _ _ _ r h => by simp [substationref15_Check.j0] at h, fun _ _ _ _ _ _ r h => by simp [substationref15_Check.j1] at h, fun _ _ _ _ _ _ r h => by simp [substationref15_Check.l0] at h⟩
  | k + 1 => by
    obtain ⟨ih0, ih1, ih2⟩ := substationref15_Check.mono_l k
    refine ⟨?_, ?_, ?_⟩
    · intro y0 y1 y2 y3 y4 y5
      unfold substationref15_Check.j0
      repeat' first
      | (with_reducible exact ih0 _ _ _ _ _ _)
      | (with_reducible exact ih1 _ _ _ _ _ _)
      | (with_reducible exact ih2 _ _ _ _ _ _)
      | (with_reducible exact LeO.refl _)
      | (with_reducible exact LeO.none _)
      | (with_reducible refine LeO.ite ?_ ?_)
      | (with_reducible refine LeO.bind ?_ (fun _ => ?_))
      | exact ih0 _ _ _ _ _ _
      | exact ih1 _ _ _ _ _ _
      | exact ih2 _ _ _ _ _ _
      | exact LeO.none _
      | refine LeO.ite ?_ ?_
      | refine LeO.bind ?_ (fun _ => ?_)
    · intro y0 y1 y2 y3 y4 y5
      unfold substationref15_Check.j1
      repeat' first
      | (with_reducible exact ih0 _ _ _ _ _ _)
      | (with_reducible exact ih1 _ _ _ _ _ _)
      | (with_reducible exact ih2 _ _ _ _ _ _)
      | (with_reducible exact LeO.refl _)
      | (with_reducible exact LeO.none _)
      | (with_reducible refine LeO.ite ?_ ?_)
      | (with_reducible refine LeO.bind ?_ (fun _ => ?_))
      | exact ih0 _ _ _ _ _ _
      | exact ih1 _ _ _ _ _ _
      | exact ih2 _ _ _ _ _ _
      | exact LeO.none _
      | refine LeO.ite ?_ ?_
      | refine LeO.bind ?_ (fun _ => ?_)
    · intro y0 y1 y2 y3 y4 y5
      unfold substationref15_Check.l0
      repeat' first
      | (with_reducible exact ih0 _ _ _ _ _ _)
      | (with_reducible exact ih1 _ _ _ _ _ _)
      | (with_reducible exact ih2 _ _ _ _ _ _)
      | (with_reducible exact LeO.refl _)
      | (with_reducible exact LeO.none _)
      | (with_reducible refine LeO.ite ?_ ?_)
      | (with_reducible refine LeO.bind ?_ (fun _ => ?_))
      | exact ih0 _ _ _ _ _ _
      | exact ih1 _ _ _ _ _ _
      | exact ih2 _ _ _ _ _ _
      | exact LeO.none _
      | refine LeO.ite ?_ ?_
      | refine LeO.bind ?_ (fun _ => ?_)
theorem substationref15_Check.mono : ∀ a0 a1 a2 a3 a4 k, LeO (substationref15_Check.f k a0 a1 a2 a3 a4) (substationref15_Check.f (k + 1) a0 a1 a2 a3 a4) := by
  intro a0 a1 a2 a3 a4 k
  obtain ⟨ih0, ih1, ih2⟩ := substationref15_Check.mono_l k
  unfold substationref15_Check.f
  repeat' first
      | (with_reducible exact ih0 _ _ _ _ _ _)
      | (with_reducible exact ih1 _ _ _ _ _ _)
      | (with_reducible exact ih2 _ _ _ _ _ _)
      | (with_reducible exact LeO.refl _)
      | (with_reducible exact LeO.none _)
      | (with_reducible refine LeO.ite ?_ ?_)
      | (with_reducible refine LeO.bind ?_ (fun _ => ?_))
      | exact ih0 _ _ _ _ _ _
      | exact ih1 _ _ _ _ _ _
      | exact ih2 _ _ _ _ _ _
      | exact LeO.none _
      | refine LeO.ite ?_ ?_
      | refine LeO.bind ?_ (fun _ => ?_)
set_option maxHeartbeats 8000000 in
set_option maxRecDepth 100000 in
theorem substationref15_Check.calls (k : Nat) (a0_0 : Int) (a0_1 : Int) (a0_2 : Bool) (A0_3 : Option Addr) (c0_3 : Nat) (l0_3 : List Int) (A0_4 : Option Addr) (c0_4 : Nat) (l0_4 : List Int) (r : Int) (w : World) (hr0_3 : Kd.C (Kd.int .i64) w A0_3 l0_3.length l0_3) (hc0_3 : l0_3.length ≤ c0_3) (hr0_4 : Kd.C (Kd.int .i64) w A0_4 l0_4.length l0_4) (hc0_4 : l0_4.length ≤ c0_4) (h : substationref15_Check.f k a0_0 a0_1 a0_2 l0_3 l0_4 = some r) :
    Calls Try.prog 11 #[.agg #[.int .i64 a0_0, .int .i64 a0_1, .bool a0_2, .slice A0_3 l0_3.length c0_3, .slice A0_4 l0_4.length c0_4]] w fun e w' => e = .returned (.int .i64 r) ∧ Below w.heap.size w w' := by
  have hu29 := Try.underlying29
  have HR0_3 := Aside0.mk hr0_3
  have HC0_3 := Aside0.mk hc0_3
  clear hr0_3 hc0_3
  have HR0_4 := Aside0.mk hr0_4
  have HC0_4 := Aside0.mk hc0_4
  clear hr0_4 hc0_4
  have HB := Aside0.mk (Below.refl w.heap.size w)
  have H : ((substationref15_between.f a0_0 0 999).bind fun t184 => (if t184 = true then ((substationref15_between.f a0_1 0 599).bind fun t185 => (substationref15_Check.j0 k (!t185) a0_0 a0_1 a0_2 l0_3 l0_4)) else (substationref15_Check.j0 k true a0_0 a0_1 a0_2 l0_3 l0_4))) = some r := h
  clear h
  have HC2 := Aside0.mk H
  clear H
  go_enter Try.func11, Try.ntmps11
  go_upto_region 1 with (first | ((with_reducible refine gate_dst (N := 1) rfl ?_); (try (refine gate_guard (by rfl) ?_; dsimp only)); refine box_event ?hg (N := 1) ?hd (cs := #[.int .i64 a0_0, .int .i64 a0_1, .bool a0_2, .slice A0_3 l0_3.length c0_3, .slice A0_4 l0_4.length c0_4]) (t := 29) ?hr ?_; (case hd => rfl); (case hg => rfl); (case hr => first | (go_simp; done) | (go_simp; rfl)); intro gb183 hg w3 hbox hb; have n0_ := Aside0.mk (below_step (by repeat (first | (with_reducible first | exact HB.out | apply below_alloc | apply pw_below_drewN | apply below_drew1) | exact HB.out)) hb); have n1_ := Aside0.mk (hbox); have n2_ := Aside0.mk ((by rw [hg]; exact (below_size (by repeat (first | (with_reducible first | exact HB.out | apply below_alloc | apply pw_below_drewN | apply below_drew1) | exact HB.out))) : w.heap.size ≤ gb183)); have n3_ := Aside0.mk ((by rw [hg]; exact (below_size (by repeat (first | (with_reducible first | exact HB.out | apply below_alloc | apply pw_below_drewN | apply below_drew1) | exact HB.out))) : w.heap.size ≤ gb183)); clear HB; have HB := n0_; have BK183 := n1_; have GW183 := n2_; have GE183 := n3_; clear n0_ n1_ n2_ n3_; clear hb hbox hg))
  (try simp only [Act.put, List.setIfInBounds_toArray, List.set_cons_zero, List.set_cons_succ])
  go_cut [13] (fun v13 wc => ∃ (kq : Nat) (x13_1 : Bool), v13 = .bool x13_1 ∧ Aside0 (substationref15_Check.j0 kq x13_1 a0_0 a0_1 a0_2 l0_3 l0_4 = some r) ∧ Aside0 (kq ≤ k) ∧ Aside0 (wc.heap[gb183]? = some (.cells #[.int .i64 a0_0, .int .i64 a0_1, .bool a0_2, (.slice A0_3 l0_3.length c0_3), (.slice A0_4 l0_4.length c0_4)] 29 (0, 0))) ∧ Aside0 (Below w.heap.size w wc))
  case first =>
    have H := HC2.out
    clear HC2
    replace H := Option.bind_eq_some_iff.mp H
    obtain ⟨t184, A40, H⟩ := H
    replace H : (if t184 = true then ((substationref15_between.f a0_1 0 599).bind fun t185 => (substationref15_Check.j0 k (!t185) a0_0 a0_1 a0_2 l0_3 l0_4)) else (substationref15_Check.j0 k true a0_0 a0_1 a0_2 l0_3 l0_4)) = some r := H
    have A4 := Aside0.mk A40
    clear A40
    by_cases c5 : t184 = true
    · subst c5
      have H1 : ((substationref15_between.f a0_1 0 599).bind fun t185 => (substationref15_Check.j0 k (!t185) a0_0 a0_1 a0_2 l0_3 l0_4)) = some r := by rw [if_pos rfl] at H; exact H
      clear H
      have H := H1
      clear H1
      replace H := Option.bind_eq_some_iff.mp H
      obtain ⟨t185, A60, H⟩ := H
      replace H : (substationref15_Check.j0 k (!t185) a0_0 a0_1 a0_2 l0_3 l0_4) = some r := H
      have A6 := Aside0.mk A60
      clear A60
      have H' := Aside0.mk H
      clear H
      have hcz7_0 : w3.cell? ⟨gb183, 0, none⟩ = some (.int .i64 a0_0) := (blk_cell BK183.out 0).trans rfl
      have hcz7_1 : w3.cell? ⟨gb183, 1, none⟩ = some (.int .i64 a0_1) := (blk_cell BK183.out 1).trans rfl
      have hcz7_2 : w3.cell? ⟨gb183, 2, none⟩ = some (.bool a0_2) := (blk_cell BK183.out 2).trans rfl
      have hcz7_3 : w3.cell? ⟨gb183, 3, none⟩ = some (.slice A0_3 l0_3.length c0_3) := (blk_cell BK183.out 3).trans rfl
      have hcz7_4 : w3.cell? ⟨gb183, 4, none⟩ = some (.slice A0_4 l0_4.length c0_4) := (blk_cell BK183.out 4).trans rfl
      have hfz7_0 := blk_frozen BK183.out 0
      have hfz7_1 := blk_frozen BK183.out 1
      have hfz7_2 := blk_frozen BK183.out 2
      have hfz7_3 := blk_frozen BK183.out 3
      have hfz7_4 := blk_frozen BK183.out 4
      go_wp2_with (first | ((with_reducible refine gate_callee (f := 30) rfl ?_); refine goesL_ (some 6) rfl rfl Try.func30 (by kernel_rfl) rfl #[.int .i64 a0_0, .int .i64 0, .int .i64 999] rfl (by (try simp only [List.map_toArray, List.map_cons, List.map_nil]); first | done | rfl | (simp only [List.length_drop, List.length_take]; rfl)) ?_; (with_reducible refine (substationref15_between.calls a0_0 0 999 true _ A4.out).mono ?_); rintro e w' ⟨rfl, ⟨nd, rfl⟩⟩; refine ⟨_, rfl, ?_⟩) | (go_at_call 30; (with_reducible refine (substationref15_between.calls a0_1 0 599 t185 _ A6.out).mono ?_); rintro e w' ⟨rfl, ⟨nd, rfl⟩⟩))
      go_meet
      case rel => exact ⟨_, (!t185), (by first | rfl | (simp; done) | (simp [*]; done)), H', ⟨by first | omega | exact Nat.le_refl _⟩, ⟨by (with_reducible repeat (first | refine blk_drewN ?_ _ | refine blk_drew ?_ | refine blk_alloc ?_ _)); exact BK183.out⟩, ⟨by repeat (first | (with_reducible first | exact HB.out | apply below_alloc | apply pw_below_drewN | apply below_drew1 | refine below_set ?_ GE183.out) | exact HB.out)⟩⟩
    · replace c5 := Bool.eq_false_iff.mpr c5
      subst c5
      have H1 : (substationref15_Check.j0 k true a0_0 a0_1 a0_2 l0_3 l0_4) = some r := by rw [if_neg (show ¬ (false = true) by decide)] at H; exact H
      clear H
      have H := H1
      clear H1
      have H' := Aside0.mk H
      clear H
      have hcz8_0 : w3.cell? ⟨gb183, 0, none⟩ = some (.int .i64 a0_0) := (blk_cell BK183.out 0).trans rfl
      have hcz8_1 : w3.cell? ⟨gb183, 1, none⟩ = some (.int .i64 a0_1) := (blk_cell BK183.out 1).trans rfl
      have hcz8_2 : w3.cell? ⟨gb183, 2, none⟩ = some (.bool a0_2) := (blk_cell BK183.out 2).trans rfl
      have hcz8_3 : w3.cell? ⟨gb183, 3, none⟩ = some (.slice A0_3 l0_3.length c0_3) := (blk_cell BK183.out 3).trans rfl
      have hcz8_4 : w3.cell? ⟨gb183, 4, none⟩ = some (.slice A0_4 l0_4.length c0_4) := (blk_cell BK183.out 4).trans rfl
      have hfz8_0 := blk_frozen BK183.out 0
      have hfz8_1 := blk_frozen BK183.out 1
      have hfz8_2 := blk_frozen BK183.out 2
      have hfz8_3 := blk_frozen BK183.out 3
      have hfz8_4 := blk_frozen BK183.out 4
      go_wp2_with (first | ((with_reducible refine gate_callee (f := 30) rfl ?_); refine goesL_ (some 6) rfl rfl Try.func30 (by kernel_rfl) rfl #[.int .i64 a0_0, .int .i64 0, .int .i64 999] rfl (by (try simp only [List.map_toArray, List.map_cons, List.map_nil]); first | done | rfl | (simp only [List.length_drop, List.length_take]; rfl)) ?_; (with_reducible refine (substationref15_between.calls a0_0 0 999 false _ A4.out).mono ?_); rintro e w' ⟨rfl, ⟨nd, rfl⟩⟩; refine ⟨_, rfl, ?_⟩))
      go_meet
      case rel => exact ⟨_, (true), (by first | rfl | (simp; done) | (simp [*]; done)), H', ⟨by first | omega | exact Nat.le_refl _⟩, ⟨by (with_reducible repeat (first | refine blk_drewN ?_ _ | refine blk_drew ?_ | refine blk_alloc ?_ _)); exact BK183.out⟩, ⟨by repeat (first | (with_reducible first | exact HB.out | apply below_alloc | apply pw_below_drewN | apply below_drew1 | refine below_set ?_ GE183.out) | exact HB.out)⟩⟩
  case rest =>
    clear HC2
    try clear c1
    try clear p2
    try clear c3
    try clear c5
    try clear hcz7_0
    try clear hcz7_1
    try clear hcz7_2
    try clear hcz7_3
    try clear hcz7_4
    try clear hcz8_0
    try clear hcz8_1
    try clear hcz8_2
    try clear hcz8_3
    try clear hcz8_4
    try clear hfz7_0
    try clear hfz7_1
    try clear hfz7_2
    try clear hfz7_3
    try clear hfz7_4
    try clear hfz8_0
    try clear hfz8_1
    try clear hfz8_2
    try clear hfz8_3
    try clear hfz8_4
    obtain ⟨kq, x13_1, rfl, HA, HJ1, BK183, HB⟩ := hcut
    cases kq with
    | zero => exact absurd HA.out (by simp [substationref15_Check.j0])
    | succ kj1 =>
      have H := HA.out
      clear HA
      simp only [substationref15_Check.j0] at H
      by_cases c9 : x13_1 = true
      · subst c9
        have H1 : (some 2) = some r := by rw [if_pos rfl] at H; exact H
        clear H
        have H := H1
        clear H1
        obtain rfl := Option.some.inj H
        go_wp2
        go_ret
        exact ⟨by first | rfl | (simp [errW_none, errW_some] <;> rfl) | (simp [*, errW_none, errW_some] <;> rfl), by repeat (first | (with_reducible first | exact HB.out | apply below_alloc | apply pw_below_drewN | apply below_drew1 | refine below_set ?_ GE183.out) | exact HB.out)⟩
      · replace c9 := Bool.eq_false_iff.mpr c9
        subst c9
        have H1 : ((substationref15_between.f (l0_3.length : Int) 1 8).bind fun t186 => (if t186 = true then (substationref15_Check.j1 kj1 ((l0_4.length : Int) != (l0_3.length : Int)) a0_0 a0_1 a0_2 l0_3 l0_4) else (substationref15_Check.j1 kj1 true a0_0 a0_1 a0_2 l0_3 l0_4))) = some r := by rw [if_neg (show ¬ (false = true) by decide)] at H; exact H
        clear H
        have H := H1
        clear H1
        have HC10 := Aside0.mk H
        clear H
        go_upto_region 3 with (fail)
        go_cut [27] (fun v27 wc => ∃ (kq : Nat) (x27_9 : Bool), v27 = .bool x27_9 ∧ Aside0 (substationref15_Check.j1 kq x27_9 a0_0 a0_1 a0_2 l0_3 l0_4 = some r) ∧ Aside0 (kq ≤ kj1) ∧ Aside0 (wc.heap[gb183]? = some (.cells #[.int .i64 a0_0, .int .i64 a0_1, .bool a0_2, (.slice A0_3 l0_3.length c0_3), (.slice A0_4 l0_4.length c0_4)] 29 (0, 0))) ∧ Aside0 (Below w.heap.size w wc))
        case first =>
          have H := HC10.out
          clear HC10
          replace H := Option.bind_eq_some_iff.mp H
          obtain ⟨t186, A110, H⟩ := H
          replace H : (if t186 = true then (substationref15_Check.j1 kj1 ((l0_4.length : Int) != (l0_3.length : Int)) a0_0 a0_1 a0_2 l0_3 l0_4) else (substationref15_Check.j1 kj1 true a0_0 a0_1 a0_2 l0_3 l0_4)) = some r := H
          have A11 := Aside0.mk A110
          clear A110
          by_cases c12 : t186 = true
          · subst c12
            have H1 : (substationref15_Check.j1 kj1 ((l0_4.length : Int) != (l0_3.length : Int)) a0_0 a0_1 a0_2 l0_3 l0_4) = some r := by rw [if_pos rfl] at H; exact H
            clear H
            have H := H1
            clear H1
            have H' := Aside0.mk H
            clear H
            have hcz13_0 : wc.cell? ⟨gb183, 0, none⟩ = some (.int .i64 a0_0) := (blk_cell BK183.out 0).trans rfl
            have hcz13_1 : wc.cell? ⟨gb183, 1, none⟩ = some (.int .i64 a0_1) := (blk_cell BK183.out 1).trans rfl
            have hcz13_2 : wc.cell? ⟨gb183, 2, none⟩ = some (.bool a0_2) := (blk_cell BK183.out 2).trans rfl
            have hcz13_3 : wc.cell? ⟨gb183, 3, none⟩ = some (.slice A0_3 l0_3.length c0_3) := (blk_cell BK183.out 3).trans rfl
            have hcz13_4 : wc.cell? ⟨gb183, 4, none⟩ = some (.slice A0_4 l0_4.length c0_4) := (blk_cell BK183.out 4).trans rfl
            have hfz13_0 := blk_frozen BK183.out 0
            have hfz13_1 := blk_frozen BK183.out 1
            have hfz13_2 := blk_frozen BK183.out 2
            have hfz13_3 := blk_frozen BK183.out 3
            have hfz13_4 := blk_frozen BK183.out 4
            go_wp2_with (first | ((with_reducible refine gate_callee (f := 30) rfl ?_); refine goesL_ (some 17) rfl rfl Try.func30 (by kernel_rfl) rfl #[.int .i64 (l0_3.length : Int), .int .i64 1, .int .i64 8] rfl (by (try simp only [List.map_toArray, List.map_cons, List.map_nil]); first | done | rfl | (simp only [List.length_drop, List.length_take]; rfl)) ?_; (with_reducible refine (substationref15_between.calls (l0_3.length : Int) 1 8 true _ A11.out).mono ?_); rintro e w' ⟨rfl, ⟨nd, rfl⟩⟩; refine ⟨_, rfl, ?_⟩))
            go_meet
            case rel => exact ⟨_, (((l0_4.length : Int) != (l0_3.length : Int))), (by first | rfl | (simp; done) | (simp [*]; done)), H', ⟨by have := HJ1.out; first | omega | exact Nat.le_refl _⟩, ⟨by (with_reducible repeat (first | refine blk_drewN ?_ _ | refine blk_drew ?_ | refine blk_alloc ?_ _)); exact BK183.out⟩, ⟨by repeat (first | (with_reducible first | exact HB.out | apply below_alloc | apply pw_below_drewN | apply below_drew1 | refine below_set ?_ GE183.out) | exact HB.out)⟩⟩
          · replace c12 := Bool.eq_false_iff.mpr c12
            subst c12
            have H1 : (substationref15_Check.j1 kj1 true a0_0 a0_1 a0_2 l0_3 l0_4) = some r := by rw [if_neg (show ¬ (false = true) by decide)] at H; exact H
            clear H
            have H := H1
            clear H1
            have H' := Aside0.mk H
            clear H
            have hcz14_0 : wc.cell? ⟨gb183, 0, none⟩ = some (.int .i64 a0_0) := (blk_cell BK183.out 0).trans rfl
            have hcz14_1 : wc.cell? ⟨gb183, 1, none⟩ = some (.int .i64 a0_1) := (blk_cell BK183.out 1).trans rfl
            have hcz14_2 : wc.cell? ⟨gb183, 2, none⟩ = some (.bool a0_2) := (blk_cell BK183.out 2).trans rfl
            have hcz14_3 : wc.cell? ⟨gb183, 3, none⟩ = some (.slice A0_3 l0_3.length c0_3) := (blk_cell BK183.out 3).trans rfl
            have hcz14_4 : wc.cell? ⟨gb183, 4, none⟩ = some (.slice A0_4 l0_4.length c0_4) := (blk_cell BK183.out 4).trans rfl
            have hfz14_0 := blk_frozen BK183.out 0
            have hfz14_1 := blk_frozen BK183.out 1
            have hfz14_2 := blk_frozen BK183.out 2
            have hfz14_3 := blk_frozen BK183.out 3
            have hfz14_4 := blk_frozen BK183.out 4
            go_wp2_with (first | ((with_reducible refine gate_callee (f := 30) rfl ?_); refine goesL_ (some 17) rfl rfl Try.func30 (by kernel_rfl) rfl #[.int .i64 (l0_3.length : Int), .int .i64 1, .int .i64 8] rfl (by (try simp only [List.map_toArray, List.map_cons, List.map_nil]); first | done | rfl | (simp only [List.length_drop, List.length_take]; rfl)) ?_; (with_reducible refine (substationref15_between.calls (l0_3.length : Int) 1 8 false _ A11.out).mono ?_); rintro e w' ⟨rfl, ⟨nd, rfl⟩⟩; refine ⟨_, rfl, ?_⟩))
            go_meet
            case rel => exact ⟨_, (true), (by first | rfl | (simp; done) | (simp [*]; done)), H', ⟨by have := HJ1.out; first | omega | exact Nat.le_refl _⟩, ⟨by (with_reducible repeat (first | refine blk_drewN ?_ _ | refine blk_drew ?_ | refine blk_alloc ?_ _)); exact BK183.out⟩, ⟨by repeat (first | (with_reducible first | exact HB.out | apply below_alloc | apply pw_below_drewN | apply below_drew1 | refine below_set ?_ GE183.out) | exact HB.out)⟩⟩
        case rest =>
          clear HC10
          try clear c1
          try clear p2
          try clear c3
          try clear c5
          try clear c9
          try clear c11
          try clear c12
          try clear hcz13_0
          try clear hcz13_1
          try clear hcz13_2
          try clear hcz13_3
          try clear hcz13_4
          try clear hcz14_0
          try clear hcz14_1
          try clear hcz14_2
          try clear hcz14_3
          try clear hcz14_4
          try clear hcz7_0
          try clear hcz7_1
          try clear hcz7_2
          try clear hcz7_3
          try clear hcz7_4
          try clear hcz8_0
          try clear hcz8_1
          try clear hcz8_2
          try clear hcz8_3
          try clear hcz8_4
          try clear hfz13_0
          try clear hfz13_1
          try clear hfz13_2
          try clear hfz13_3
          try clear hfz13_4
          try clear hfz14_0
          try clear hfz14_1
          try clear hfz14_2
          try clear hfz14_3
          try clear hfz14_4
          try clear hfz7_0
          try clear hfz7_1
          try clear hfz7_2
          try clear hfz7_3
          try clear hfz7_4
          try clear hfz8_0
          try clear hfz8_1
          try clear hfz8_2
          try clear hfz8_3
          try clear hfz8_4
          try clear p2
          obtain ⟨kq, x27_9, rfl, HA, HJ9, BK183, HB⟩ := hcut
          cases kq with
          | zero => exact absurd HA.out (by simp [substationref15_Check.j1])
          | succ kj9 =>
            have H := HA.out
            clear HA
            simp only [substationref15_Check.j1] at H
            by_cases c15 : x27_9 = true
            · subst c15
              have H1 : (some 3) = some r := by rw [if_pos rfl] at H; exact H
              clear H
              have H := H1
              clear H1
              obtain rfl := Option.some.inj H
              go_wp2
              go_ret
              exact ⟨by first | rfl | (simp [errW_none, errW_some] <;> rfl) | (simp [*, errW_none, errW_some] <;> rfl), by repeat (first | (with_reducible first | exact HB.out | apply below_alloc | apply pw_below_drewN | apply below_drew1 | refine below_set ?_ GE183.out) | exact HB.out)⟩
            · replace c15 := Bool.eq_false_iff.mpr c15
              subst c15
              have H1 : (substationref15_Check.l0 kj9 0 a0_0 a0_1 a0_2 l0_3 l0_4) = some r := by rw [if_neg (show ¬ (false = true) by decide)] at H; exact H
              clear H
              have H := H1
              clear H1
              have H' := Aside0.mk H
              clear H
              go_wp2
              go_loopg [3] kj9 (fun kq v3 w' => ∃ (x3_3 : Int), v3 = .int .i64 x3_3 ∧ Aside0 (substationref15_Check.l0 kq x3_3 a0_0 a0_1 a0_2 l0_3 l0_4 = some r) ∧ Aside0 (kq ≤ kj9) ∧ Aside0 (w'.heap[gb183]? = some (.cells #[.int .i64 a0_0, .int .i64 a0_1, .bool a0_2, (.slice A0_3 l0_3.length c0_3), (.slice A0_4 l0_4.length c0_4)] 29 (0, 0))) ∧ Aside0 (Below w.heap.size w w'))
              case atStart => exact ⟨(0), (by first | rfl | (simp; done) | (simp [*]; done)), H', ⟨Nat.le_refl _⟩, ⟨by (with_reducible repeat (first | refine blk_drewN ?_ _ | refine blk_drew ?_ | refine blk_alloc ?_ _)); exact BK183.out⟩, ⟨by repeat (first | (with_reducible first | exact HB.out | apply below_alloc | apply pw_below_drewN | apply below_drew1 | refine below_set ?_ GE183.out) | exact HB.out)⟩⟩
              case round =>
                clear H'
                try clear c1
                try clear p2
                try clear c3
                try clear c5
                try clear c9
                try clear c11
                try clear c12
                try clear c15
                try clear hcz13_0
                try clear hcz13_1
                try clear hcz13_2
                try clear hcz13_3
                try clear hcz13_4
                try clear hcz14_0
                try clear hcz14_1
                try clear hcz14_2
                try clear hcz14_3
                try clear hcz14_4
                try clear hcz7_0
                try clear hcz7_1
                try clear hcz7_2
                try clear hcz7_3
                try clear hcz7_4
                try clear hcz8_0
                try clear hcz8_1
                try clear hcz8_2
                try clear hcz8_3
                try clear hcz8_4
                try clear hfz13_0
                try clear hfz13_1
                try clear hfz13_2
                try clear hfz13_3
                try clear hfz13_4
                try clear hfz14_0
                try clear hfz14_1
                try clear hfz14_2
                try clear hfz14_3
                try clear hfz14_4
                try clear hfz7_0
                try clear hfz7_1
                try clear hfz7_2
                try clear hfz7_3
                try clear hfz7_4
                try clear hfz8_0
                try clear hfz8_1
                try clear hfz8_2
                try clear hfz8_3
                try clear hfz8_4
                try clear p2
                obtain ⟨x3_3, rfl, HA, HK3, BK183, HB⟩ := hrel
                cases gk with
                | zero => exact absurd HA.out (by simp [substationref15_Check.l0])
                | succ k3 =>
                  have H := HA.out
                  clear HA
                  simp only [substationref15_Check.l0] at H
                  by_cases c16 : x3_3 < (l0_3.length : Int)
                  · rw [if_pos c16] at H
                    have c16b0 : decide (x3_3 < (l0_3.length : Int)) = true := decide_eq_true c16
                    clear c16
                    by_cases c17 : 0 ≤ x3_3
                    · rw [if_pos c17] at H
                      have c17b0 : decide (0 ≤ x3_3) = true := decide_eq_true c17
                      clear c17
                      replace H := Option.bind_eq_some_iff.mp H
                      obtain ⟨t188, A180, H⟩ := H
                      replace H : (if t188 = true then (if x3_3 < (l0_4.length : Int) then ((substationref15_between.f (rd l0_4 x3_3) 0 255).bind fun t190 => (if t190 = true then (substationref15_Check.l0 k3 (wrap64 (x3_3 + 1)) a0_0 a0_1 a0_2 l0_3 l0_4) else (some 2))) else (none)) else (some 2)) = some r := H
                      have A18 := Aside0.mk A180
                      clear A180
                      by_cases c19 : t188 = true
                      · subst c19
                        have H1 : (if x3_3 < (l0_4.length : Int) then ((substationref15_between.f (rd l0_4 x3_3) 0 255).bind fun t190 => (if t190 = true then (substationref15_Check.l0 k3 (wrap64 (x3_3 + 1)) a0_0 a0_1 a0_2 l0_3 l0_4) else (some 2))) else (none)) = some r := by rw [if_pos rfl] at H; exact H
                        clear H
                        have H := H1
                        clear H1
                        by_cases c20 : x3_3 < (l0_4.length : Int)
                        · rw [if_pos c20] at H
                          have c20b0 : decide (x3_3 < (l0_4.length : Int)) = true := decide_eq_true c20
                          clear c20
                          replace H := Option.bind_eq_some_iff.mp H
                          obtain ⟨t190, A210, H⟩ := H
                          replace H : (if t190 = true then (substationref15_Check.l0 k3 (wrap64 (x3_3 + 1)) a0_0 a0_1 a0_2 l0_3 l0_4) else (some 2)) = some r := H
                          have A21 := Aside0.mk A210
                          clear A210
                          by_cases c22 : t190 = true
                          · subst c22
                            have H1 : (substationref15_Check.l0 k3 (wrap64 (x3_3 + 1)) a0_0 a0_1 a0_2 l0_3 l0_4) = some r := by rw [if_pos rfl] at H; exact H
                            clear H
                            have H := H1
                            clear H1
                            have H' := Aside0.mk H
                            clear H
                            have hcz23_0 : wr.cell? ⟨gb183, 0, none⟩ = some (.int .i64 a0_0) := (blk_cell BK183.out 0).trans rfl
                            have hcz23_1 : wr.cell? ⟨gb183, 1, none⟩ = some (.int .i64 a0_1) := (blk_cell BK183.out 1).trans rfl
                            have hcz23_2 : wr.cell? ⟨gb183, 2, none⟩ = some (.bool a0_2) := (blk_cell BK183.out 2).trans rfl
                            have hcz23_3 : wr.cell? ⟨gb183, 3, none⟩ = some (.slice A0_3 l0_3.length c0_3) := (blk_cell BK183.out 3).trans rfl
                            have hcz23_4 : wr.cell? ⟨gb183, 4, none⟩ = some (.slice A0_4 l0_4.length c0_4) := (blk_cell BK183.out 4).trans rfl
                            have hfz23_0 := blk_frozen BK183.out 0
                            have hfz23_1 := blk_frozen BK183.out 1
                            have hfz23_2 := blk_frozen BK183.out 2
                            have hfz23_3 := blk_frozen BK183.out 3
                            have hfz23_4 := blk_frozen BK183.out 4
                            have p187 : 0 ≤ (x3_3 : Int) := of_decide_eq_true (by first | (with_reducible assumption) | assumption)
                            have q187 : x3_3 < (l0_3.length : Int) := of_decide_eq_true (by first | (with_reducible assumption) | assumption)
                            obtain ⟨ad187, e187, hx187_0⟩ := Kd.at_int HR0_3.out x3_3 p187 q187
                            cases e187
                            replace hx187_0 := (HB.out.cell (World.block_lt_of_cell? w _ hx187_0)).trans hx187_0
                            replace p187 := eq_true p187
                            replace q187 := eq_true q187
                            go_wp2_with (first | ((with_reducible refine gate_callee (f := 30) rfl ?_); refine goesL_ (some 40) rfl rfl Try.func30 (by kernel_rfl) rfl #[.int .i64 (rd l0_3 x3_3), .int .i64 (-16383), .int .i64 16383] rfl (by (try simp only [List.map_toArray, List.map_cons, List.map_nil]); first | done | rfl | (simp only [List.length_drop, List.length_take]; rfl)) ?_; (with_reducible refine (substationref15_between.calls (rd l0_3 x3_3) (-16383) 16383 true _ A18.out).mono ?_); rintro e w' ⟨rfl, ⟨nd, rfl⟩⟩; refine ⟨_, rfl, ?_⟩; have p189 : 0 ≤ (x3_3 : Int) := of_decide_eq_true (by first | (with_reducible assumption) | assumption); have q189 : x3_3 < (l0_4.length : Int) := of_decide_eq_true (by first | (with_reducible assumption) | assumption); obtain ⟨ad189, e189, hx189_0⟩ := Kd.at_int HR0_4.out x3_3 p189 q189; cases e189; replace hx189_0 := (HB.out.cell (World.block_lt_of_cell? w _ hx189_0)).trans hx189_0; replace p189 := eq_true p189; replace q189 := eq_true q189) | (go_at_call 30; (with_reducible refine (substationref15_between.calls (rd l0_4 x3_3) 0 255 true _ A21.out).mono ?_); rintro e w' ⟨rfl, ⟨nd, rfl⟩⟩))
                            go_roundg k3
                            case measure => have := HJ1.out; have := HJ9.out; have := HK3.out; omega
                            case rel => exact ⟨(wrap64 (x3_3 + 1)), (by first | rfl | (simp; done) | (simp [*]; done)), H', ⟨by have := HJ1.out; have := HJ9.out; have := HK3.out; omega⟩, ⟨by (with_reducible repeat (first | refine blk_drewN ?_ _ | refine blk_drew ?_ | refine blk_alloc ?_ _)); exact BK183.out⟩, ⟨by repeat (first | (with_reducible first | exact HB.out | apply below_alloc | apply pw_below_drewN | apply below_drew1 | refine below_set ?_ GE183.out) | exact HB.out)⟩⟩
                          · replace c22 := Bool.eq_false_iff.mpr c22
                            subst c22
                            have H1 : (some 2) = some r := by rw [if_neg (show ¬ (false = true) by decide)] at H; exact H
                            clear H
                            have H := H1
                            clear H1
                            obtain rfl := Option.some.inj H
                            have hcz24_0 : wr.cell? ⟨gb183, 0, none⟩ = some (.int .i64 a0_0) := (blk_cell BK183.out 0).trans rfl
                            have hcz24_1 : wr.cell? ⟨gb183, 1, none⟩ = some (.int .i64 a0_1) := (blk_cell BK183.out 1).trans rfl
                            have hcz24_2 : wr.cell? ⟨gb183, 2, none⟩ = some (.bool a0_2) := (blk_cell BK183.out 2).trans rfl
                            have hcz24_3 : wr.cell? ⟨gb183, 3, none⟩ = some (.slice A0_3 l0_3.length c0_3) := (blk_cell BK183.out 3).trans rfl
                            have hcz24_4 : wr.cell? ⟨gb183, 4, none⟩ = some (.slice A0_4 l0_4.length c0_4) := (blk_cell BK183.out 4).trans rfl
                            have hfz24_0 := blk_frozen BK183.out 0
                            have hfz24_1 := blk_frozen BK183.out 1
                            have hfz24_2 := blk_frozen BK183.out 2
                            have hfz24_3 := blk_frozen BK183.out 3
                            have hfz24_4 := blk_frozen BK183.out 4
                            have p187 : 0 ≤ (x3_3 : Int) := of_decide_eq_true (by first | (with_reducible assumption) | assumption)
                            have q187 : x3_3 < (l0_3.length : Int) := of_decide_eq_true (by first | (with_reducible assumption) | assumption)
                            obtain ⟨ad187, e187, hx187_0⟩ := Kd.at_int HR0_3.out x3_3 p187 q187
                            cases e187
                            replace hx187_0 := (HB.out.cell (World.block_lt_of_cell? w _ hx187_0)).trans hx187_0
                            replace p187 := eq_true p187
                            replace q187 := eq_true q187
                            go_wp2_with (first | ((with_reducible refine gate_callee (f := 30) rfl ?_); refine goesL_ (some 40) rfl rfl Try.func30 (by kernel_rfl) rfl #[.int .i64 (rd l0_3 x3_3), .int .i64 (-16383), .int .i64 16383] rfl (by (try simp only [List.map_toArray, List.map_cons, List.map_nil]); first | done | rfl | (simp only [List.length_drop, List.length_take]; rfl)) ?_; (with_reducible refine (substationref15_between.calls (rd l0_3 x3_3) (-16383) 16383 true _ A18.out).mono ?_); rintro e w' ⟨rfl, ⟨nd, rfl⟩⟩; refine ⟨_, rfl, ?_⟩; have p189 : 0 ≤ (x3_3 : Int) := of_decide_eq_true (by first | (with_reducible assumption) | assumption); have q189 : x3_3 < (l0_4.length : Int) := of_decide_eq_true (by first | (with_reducible assumption) | assumption); obtain ⟨ad189, e189, hx189_0⟩ := Kd.at_int HR0_4.out x3_3 p189 q189; cases e189; replace hx189_0 := (HB.out.cell (World.block_lt_of_cell? w _ hx189_0)).trans hx189_0; replace p189 := eq_true p189; replace q189 := eq_true q189) | (go_at_call 30; (with_reducible refine (substationref15_between.calls (rd l0_4 x3_3) 0 255 false _ A21.out).mono ?_); rintro e w' ⟨rfl, ⟨nd, rfl⟩⟩))
                            go_ret
                            exact ⟨by first | rfl | (simp [errW_none, errW_some] <;> rfl) | (simp [*, errW_none, errW_some] <;> rfl), by repeat (first | (with_reducible first | exact HB.out | apply below_alloc | apply pw_below_drewN | apply below_drew1 | refine below_set ?_ GE183.out) | exact HB.out)⟩
                        · rw [if_neg c20] at H
                          exact absurd H (by simp)
                      · replace c19 := Bool.eq_false_iff.mpr c19
                        subst c19
                        have H1 : (some 2) = some r := by rw [if_neg (show ¬ (false = true) by decide)] at H; exact H
                        clear H
                        have H := H1
                        clear H1
                        obtain rfl := Option.some.inj H
                        have hcz25_0 : wr.cell? ⟨gb183, 0, none⟩ = some (.int .i64 a0_0) := (blk_cell BK183.out 0).trans rfl
                        have hcz25_1 : wr.cell? ⟨gb183, 1, none⟩ = some (.int .i64 a0_1) := (blk_cell BK183.out 1).trans rfl
                        have hcz25_2 : wr.cell? ⟨gb183, 2, none⟩ = some (.bool a0_2) := (blk_cell BK183.out 2).trans rfl
                        have hcz25_3 : wr.cell? ⟨gb183, 3, none⟩ = some (.slice A0_3 l0_3.length c0_3) := (blk_cell BK183.out 3).trans rfl
                        have hcz25_4 : wr.cell? ⟨gb183, 4, none⟩ = some (.slice A0_4 l0_4.length c0_4) := (blk_cell BK183.out 4).trans rfl
                        have hfz25_0 := blk_frozen BK183.out 0
                        have hfz25_1 := blk_frozen BK183.out 1
                        have hfz25_2 := blk_frozen BK183.out 2
                        have hfz25_3 := blk_frozen BK183.out 3
                        have hfz25_4 := blk_frozen BK183.out 4
                        have p187 : 0 ≤ (x3_3 : Int) := of_decide_eq_true (by first | (with_reducible assumption) | assumption)
                        have q187 : x3_3 < (l0_3.length : Int) := of_decide_eq_true (by first | (with_reducible assumption) | assumption)
                        obtain ⟨ad187, e187, hx187_0⟩ := Kd.at_int HR0_3.out x3_3 p187 q187
                        cases e187
                        replace hx187_0 := (HB.out.cell (World.block_lt_of_cell? w _ hx187_0)).trans hx187_0
                        replace p187 := eq_true p187
                        replace q187 := eq_true q187
                        go_wp2_with (first | ((with_reducible refine gate_callee (f := 30) rfl ?_); refine goesL_ (some 40) rfl rfl Try.func30 (by kernel_rfl) rfl #[.int .i64 (rd l0_3 x3_3), .int .i64 (-16383), .int .i64 16383] rfl (by (try simp only [List.map_toArray, List.map_cons, List.map_nil]); first | done | rfl | (simp only [List.length_drop, List.length_take]; rfl)) ?_; (with_reducible refine (substationref15_between.calls (rd l0_3 x3_3) (-16383) 16383 false _ A18.out).mono ?_); rintro e w' ⟨rfl, ⟨nd, rfl⟩⟩; refine ⟨_, rfl, ?_⟩))
                        go_ret
                        exact ⟨by first | rfl | (simp [errW_none, errW_some] <;> rfl) | (simp [*, errW_none, errW_some] <;> rfl), by repeat (first | (with_reducible first | exact HB.out | apply below_alloc | apply pw_below_drewN | apply below_drew1 | refine below_set ?_ GE183.out) | exact HB.out)⟩
                    · rw [if_neg c17] at H
                      exact absurd H (by simp)
                  · rw [if_neg c16] at H
                    have c16b0 : decide (x3_3 < (l0_3.length : Int)) = false := decide_eq_false c16
                    clear c16
                    obtain rfl := Option.some.inj H
                    have hcz26_0 : wr.cell? ⟨gb183, 0, none⟩ = some (.int .i64 a0_0) := (blk_cell BK183.out 0).trans rfl
                    have hcz26_1 : wr.cell? ⟨gb183, 1, none⟩ = some (.int .i64 a0_1) := (blk_cell BK183.out 1).trans rfl
                    have hcz26_2 : wr.cell? ⟨gb183, 2, none⟩ = some (.bool a0_2) := (blk_cell BK183.out 2).trans rfl
                    have hcz26_3 : wr.cell? ⟨gb183, 3, none⟩ = some (.slice A0_3 l0_3.length c0_3) := (blk_cell BK183.out 3).trans rfl
                    have hcz26_4 : wr.cell? ⟨gb183, 4, none⟩ = some (.slice A0_4 l0_4.length c0_4) := (blk_cell BK183.out 4).trans rfl
                    have hfz26_0 := blk_frozen BK183.out 0
                    have hfz26_1 := blk_frozen BK183.out 1
                    have hfz26_2 := blk_frozen BK183.out 2
                    have hfz26_3 := blk_frozen BK183.out 3
                    have hfz26_4 := blk_frozen BK183.out 4
                    go_wp2
                    go_ret
                    exact ⟨by first | rfl | (simp [errW_none, errW_some] <;> rfl) | (simp [*, errW_none, errW_some] <;> rfl), by repeat (first | (with_reducible first | exact HB.out | apply below_alloc | apply pw_below_drewN | apply below_drew1 | refine below_set ?_ GE183.out) | exact HB.out)⟩

/-! ### substationref15_Count: function 16 -/
def substationref15_Count.f (a0 : Int) (a1 : Int) : Option (Int) := (substationref15_between.f a0 0 1099511627776).bind fun t191 => (if t191 = true then ((substationref15_between.f a1 0 11).bind fun t192 => (if t192 = true then (some (Int.tmod (wrap64 ((wrap64 (12 * a0)) + a1)) 600)) else (some 0))) else (some 0))
set_option maxHeartbeats 8000000 in
set_option maxRecDepth 100000 in
theorem substationref15_Count.calls (a0 : Int) (a1 : Int) (r : Int) (w : World) (h : substationref15_Count.f a0 a1 = some r) :
    Calls Try.prog 16 #[.int .i64 a0, .int .i64 a1] w fun e w' => e = .returned (.int .i64 r) ∧ Drawn0 w w' := by
  have H : ((substationref15_between.f a0 0 1099511627776).bind fun t191 => (if t191 = true then ((substationref15_between.f a1 0 11).bind fun t192 => (if t192 = true then (some (Int.tmod (wrap64 ((wrap64 (12 * a0)) + a1)) 600)) else (some 0))) else (some 0))) = some r := h
  clear h
  replace H := Option.bind_eq_some_iff.mp H
  obtain ⟨t191, A30, H⟩ := H
  replace H : (if t191 = true then ((substationref15_between.f a1 0 11).bind fun t192 => (if t192 = true then (some (Int.tmod (wrap64 ((wrap64 (12 * a0)) + a1)) 600)) else (some 0))) else (some 0)) = some r := H
  have A3 := Aside0.mk A30
  clear A30
  by_cases c4 : t191 = true
  · subst c4
    have H1 : ((substationref15_between.f a1 0 11).bind fun t192 => (if t192 = true then (some (Int.tmod (wrap64 ((wrap64 (12 * a0)) + a1)) 600)) else (some 0))) = some r := by rw [if_pos rfl] at H; exact H
    clear H
    have H := H1
    clear H1
    replace H := Option.bind_eq_some_iff.mp H
    obtain ⟨t192, A50, H⟩ := H
    replace H : (if t192 = true then (some (Int.tmod (wrap64 ((wrap64 (12 * a0)) + a1)) 600)) else (some 0)) = some r := H
    have A5 := Aside0.mk A50
    clear A50
    by_cases c6 : t192 = true
    · subst c6
      have H1 : (some (Int.tmod (wrap64 ((wrap64 (12 * a0)) + a1)) 600)) = some r := by rw [if_pos rfl] at H; exact H
      clear H
      have H := H1
      clear H1
      obtain rfl := Option.some.inj H
      go_enter Try.func16, Try.ntmps16
      go_wp2_with (first | ((with_reducible refine gate_callee (f := 30) rfl ?_); refine goesL_ (some 6) rfl rfl Try.func30 (by kernel_rfl) rfl #[.int .i64 a0, .int .i64 0, .int .i64 1099511627776] rfl (by (try simp only [List.map_toArray, List.map_cons, List.map_nil]); first | done | rfl | (simp only [List.length_drop, List.length_take]; rfl)) ?_; (with_reducible refine (substationref15_between.calls a0 0 1099511627776 true _ A3.out).mono ?_); rintro e w' ⟨rfl, ⟨nd, rfl⟩⟩; refine ⟨_, rfl, ?_⟩) | (go_at_call 30; (with_reducible refine (substationref15_between.calls a1 0 11 true _ A5.out).mono ?_); rintro e w' ⟨rfl, ⟨nd, rfl⟩⟩))
      go_ret
      exact ⟨by first | rfl | (simp; done) | (simp [*]; done), by repeat (first | exact Drawn0.refl _ | apply Drawn0.step)⟩
    · replace c6 := Bool.eq_false_iff.mpr c6
      subst c6
      have H1 : (some 0) = some r := by rw [if_neg (show ¬ (false = true) by decide)] at H; exact H
      clear H
      have H := H1
      clear H1
      obtain rfl := Option.some.inj H
      go_enter Try.func16, Try.ntmps16
      go_wp2_with (first | ((with_reducible refine gate_callee (f := 30) rfl ?_); refine goesL_ (some 6) rfl rfl Try.func30 (by kernel_rfl) rfl #[.int .i64 a0, .int .i64 0, .int .i64 1099511627776] rfl (by (try simp only [List.map_toArray, List.map_cons, List.map_nil]); first | done | rfl | (simp only [List.length_drop, List.length_take]; rfl)) ?_; (with_reducible refine (substationref15_between.calls a0 0 1099511627776 true _ A3.out).mono ?_); rintro e w' ⟨rfl, ⟨nd, rfl⟩⟩; refine ⟨_, rfl, ?_⟩) | (go_at_call 30; (with_reducible refine (substationref15_between.calls a1 0 11 false _ A5.out).mono ?_); rintro e w' ⟨rfl, ⟨nd, rfl⟩⟩))
      go_ret
      exact ⟨by first | rfl | (simp; done) | (simp [*]; done), by repeat (first | exact Drawn0.refl _ | apply Drawn0.step)⟩
  · replace c4 := Bool.eq_false_iff.mpr c4
    subst c4
    have H1 : (some 0) = some r := by rw [if_neg (show ¬ (false = true) by decide)] at H; exact H
    clear H
    have H := H1
    clear H1
    obtain rfl := Option.some.inj H
    go_enter Try.func16, Try.ntmps16
    go_wp2_with (first | ((with_reducible refine gate_callee (f := 30) rfl ?_); refine goesL_ (some 6) rfl rfl Try.func30 (by kernel_rfl) rfl #[.int .i64 a0, .int .i64 0, .int .i64 1099511627776] rfl (by (try simp only [List.map_toArray, List.map_cons, List.map_nil]); first | done | rfl | (simp only [List.length_drop, List.length_take]; rfl)) ?_; (with_reducible refine (substationref15_between.calls a0 0 1099511627776 false _ A3.out).mono ?_); rintro e w' ⟨rfl, ⟨nd, rfl⟩⟩; refine ⟨_, rfl, ?_⟩))
    go_ret
    exact ⟨by first | rfl | (simp; done) | (simp [*]; done), by repeat (first | exact Drawn0.refl _ | apply Drawn0.step)⟩

end Go.Proofs.Ytlfphopfoicjpaa.PSpl
