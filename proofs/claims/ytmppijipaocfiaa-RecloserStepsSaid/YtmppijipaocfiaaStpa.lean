/- Walks of the recloser's functions: what each computes is its '.f'. Conditions: none. -/
import Derived.Test.YtmppijipaocfiaaPAllx0
import Derived.Test.YtmppijipaocfiaaPAllx1
namespace Go.Proofs.Ytmppijipaocfiaa.PAll
open Go.RowKit Go.Proofs.YtmppijipaocfiaaW.PrintWords Go.Proofs.YtmppijipaocfiaaW.PrintLast Go.Proofs.YtmppijipaocfiaaW.PrintMore
attribute [local go_sem] max2_int min2_int max_two min_two max_three min_three max_four min_four   -- for this text's walks alone
set_option linter.unusedVariables false
set_option linter.unusedSimpArgs false


attribute [local go_sem high] eqA25
/-! ### recloser_usable, by hand -/
def usB (a b c : Int) : Bool := (decide (1 ≤ a) && decide (a ≤ 3)) && ((decide (1 ≤ b) && decide (b ≤ 100)) && (decide (1 ≤ c) && decide (c ≤ 1000)))
def recloser_usable.f (a0 : Int) (a1 : Int) (a2 : Int) : Option (Bool) := some (usB a0 a1 a2)
set_option maxHeartbeats 1000000 in
theorem in_calls (n m : Int) (w : World) : Calls Try.prog 31 #[.int .i64 n, .int .i64 m] w fun e w' => e = .returned (.bool (decide (1 ≤ n) && decide (n ≤ m))) ∧ w = w' := by
  by_cases h1 : 1 ≤ n
  · go_enter Try.func31, Try.ntmps31
    go_wp2
    go_ret
    exact ⟨by simp [h1], rfl⟩
  · go_enter Try.func31, Try.ntmps31
    go_wp2
    go_ret
    exact ⟨by rw [decide_eq_false (show ¬ 1 ≤ n by omega)]; rfl, rfl⟩
set_option maxHeartbeats 1000000 in
theorem recloser_usable.calls (a0 : Int) (a1 : Int) (a2 : Int) (r : Bool) (w : World) (h : recloser_usable.f a0 a1 a2 = some r) :
    Calls Try.prog 24 #[.int .i64 a0, .int .i64 a1, .int .i64 a2] w fun e w' => e = .returned (.bool r) ∧ Drawn0 w w' := by
  obtain rfl := Option.some.inj h
  clear h
  have c1 := in_calls a0 3
  have c2 := in_calls a1 100
  have c3 := in_calls a2 1000
  have e : usB a0 a1 a2 = ((decide (1 ≤ a0) && decide (a0 ≤ 3)) && ((decide (1 ≤ a1) && decide (a1 ≤ 100)) && (decide (1 ≤ a2) && decide (a2 ≤ 1000)))) := rfl
  generalize (decide (1 ≤ a0) && decide (a0 ≤ 3)) = b1 at c1 e
  generalize (decide (1 ≤ a1) && decide (a1 ≤ 100)) = b2 at c2 e
  generalize (decide (1 ≤ a2) && decide (a2 ≤ 1000)) = b3 at c3 e
  rw [e]
  clear e
  cases b1
  · go_enter Try.func24, Try.ntmps24
    go_wp2_with fail
    refine (c1 _).mono ?_
    rintro e w' ⟨rfl, rfl⟩
    go_wp2_with fail
    go_ret
    exact ⟨rfl, Drawn0.refl _⟩
  · cases b2
    · go_enter Try.func24, Try.ntmps24
      go_wp2_with fail
      refine (c1 _).mono ?_
      rintro e w' ⟨rfl, rfl⟩
      go_wp2_with fail
      refine (c2 _).mono ?_
      rintro e w' ⟨rfl, rfl⟩
      go_wp2_with fail
      go_ret
      exact ⟨rfl, Drawn0.refl _⟩
    · go_enter Try.func24, Try.ntmps24
      go_wp2_with fail
      refine (c1 _).mono ?_
      rintro e w' ⟨rfl, rfl⟩
      go_wp2_with fail
      refine (c2 _).mono ?_
      rintro e w' ⟨rfl, rfl⟩
      go_wp2_with fail
      refine (c3 _).mono ?_
      rintro e w' ⟨rfl, rfl⟩
      go_wp2_with fail
      go_ret
      exact ⟨by cases b3 <;> rfl, Drawn0.refl _⟩

/-! ### recloser_most: function 25 -/
def recloser_most.j0 : Nat → Int → Int → Int → Bool → Option (Int)
  | 0, _, _, _, _ => none
  | k + 1, x1, x2, x7, x10 => if x10 = true then (some 20) else (if x7 = 2 then (some (wrap64 (x1 - 1))) else (if x7 = 4 then (some (wrap64 (x2 - 1))) else (if x7 = 5 then (some (wrap64 (x2 - 1))) else (some (-1)))))
def recloser_most.f (k : Nat) (a0 : Int) (a1 : Int) (a2 : Int) : Option (Int) := if a0 = 0 then (some 0) else (if a0 = 1 then (recloser_most.j0 k a1 a2 a0 (a0 == 1)) else (recloser_most.j0 k a1 a2 a0 (a0 == 3)))
theorem recloser_most.mono_l : ∀ k, (∀ y0 y1 y2 y3, LeO (recloser_most.j0 k y0 y1 y2 y3) (recloser_most.j0 (k + 1) y0 y1 y2 y3))
  | 0 => fun _ _ _ _ r h => by simp [recloser_most.j0] at h
  | k + 1 => by
    have ih0 := recloser_most.mono_l k
    · intro y0 y1 y2 y3
      unfold recloser_most.j0
      repeat' first
      | (with_reducible exact ih0 _ _ _ _)
      | (with_reducible exact LeO.refl _)
      | (with_reducible exact LeO.none _)
      | (with_reducible refine LeO.ite ?_ ?_)
      | (with_reducible refine LeO.bind ?_ (fun _ => ?_))
      | exact ih0 _ _ _ _
      | exact LeO.none _
      | refine LeO.ite ?_ ?_
      | refine LeO.bind ?_ (fun _ => ?_)
theorem recloser_most.mono : ∀ a0 a1 a2 k, LeO (recloser_most.f k a0 a1 a2) (recloser_most.f (k + 1) a0 a1 a2) := by
  intro a0 a1 a2 k
  have ih0 := recloser_most.mono_l k
  unfold recloser_most.f
  repeat' first
      | (with_reducible exact ih0 _ _ _ _)
      | (with_reducible exact LeO.refl _)
      | (with_reducible exact LeO.none _)
      | (with_reducible refine LeO.ite ?_ ?_)
      | (with_reducible refine LeO.bind ?_ (fun _ => ?_))
      | exact ih0 _ _ _ _
      | exact LeO.none _
      | refine LeO.ite ?_ ?_
      | refine LeO.bind ?_ (fun _ => ?_)
set_option maxHeartbeats 8000000 in
set_option maxRecDepth 100000 in
theorem recloser_most.calls (k : Nat) (a0 : Int) (a1 : Int) (a2 : Int) (r : Int) (w : World) (h : recloser_most.f k a0 a1 a2 = some r) :
    Calls Try.prog 25 #[.int .i64 a0, .int .i64 a1, .int .i64 a2] w fun e w' => e = .returned (.int .i64 r) ∧ Drawn0 w w' := by
  have H : (if a0 = 0 then (some 0) else (if a0 = 1 then (recloser_most.j0 k a1 a2 a0 (a0 == 1)) else (recloser_most.j0 k a1 a2 a0 (a0 == 3)))) = some r := h
  clear h
  by_cases c4 : a0 = 0
  · rw [if_pos c4] at H
    have c4b0 : (a0 == 0) = true := beq_iff_eq.mpr c4
    have c4b1 : (a0 != 0) = false := bne_eq_false_iff_eq.mpr c4
    clear c4
    obtain rfl := Option.some.inj H
    go_enter Try.func25, Try.ntmps25
    go_wp2
    go_ret
    exact ⟨by first | rfl | (simp; done) | (simp [*]; done), by repeat (first | exact Drawn0.refl _ | apply Drawn0.step)⟩
  · rw [if_neg c4] at H
    have c4b0 : (a0 == 0) = false := beq_eq_false_iff_ne.mpr c4
    have c4b1 : (a0 != 0) = true := bne_iff_ne.mpr c4
    have HC5 := Aside0.mk H
    clear H
    go_enter Try.func25, Try.ntmps25
    go_upto_if 10 with (fail)
    go_cut [10] (fun v10 wc => ∃ (kq : Nat) (x10_4 : Bool), v10 = .bool x10_4 ∧ Aside0 (recloser_most.j0 kq a1 a2 a0 x10_4 = some r) ∧ Aside0 (kq ≤ k) ∧ Drawn0 w wc)
    case first =>
      have H := HC5.out
      clear HC5
      by_cases c6 : a0 = 1
      · rw [if_pos c6] at H
        have c6b0 : (a0 == 1) = true := beq_iff_eq.mpr c6
        have c6b1 : (a0 != 1) = false := bne_eq_false_iff_eq.mpr c6
        clear c6
        (first | rw [c6b0] | (simp only [i64_w, i32_w]; rw [c6b0]) | skip)
        have H' := Aside0.mk H
        clear H
        go_wp2
        go_meet
        case rel => exact ⟨_, ((a0 == 1)), (by first | rfl | (simp; done) | (simp [*]; done)), H', ⟨by first | omega | exact Nat.le_refl _⟩, by repeat (first | exact Drawn0.refl _ | apply Drawn0.step)⟩
      · rw [if_neg c6] at H
        have c6b0 : (a0 == 1) = false := beq_eq_false_iff_ne.mpr c6
        have c6b1 : (a0 != 1) = true := bne_iff_ne.mpr c6
        (first | rw [c6b0] | (simp only [i64_w, i32_w]; rw [c6b0]) | skip)
        have H' := Aside0.mk H
        clear H
        go_wp2
        go_meet
        case rel => exact ⟨_, ((a0 == 3)), (by first | rfl | (simp; done) | (simp [*]; done)), H', ⟨by first | omega | exact Nat.le_refl _⟩, by repeat (first | exact Drawn0.refl _ | apply Drawn0.step)⟩
    case rest =>
      clear HC5
      try clear c2
      try clear p2
      try clear c4
      try clear c4b0
      try clear c4b1
      try clear c6
      try clear c6b0
      try clear c6b1
      obtain ⟨kq, x10_4, rfl, HA, HJ4, ⟨mc4, rfl⟩⟩ := hcut
      cases kq with
      | zero => exact absurd HA.out (by simp [recloser_most.j0])
      | succ kj4 =>
        have H := HA.out
        clear HA
        simp only [recloser_most.j0] at H
        by_cases c7 : x10_4 = true
        · subst c7
          have H1 : (some 20) = some r := by rw [if_pos rfl] at H; exact H
          clear H
          have H := H1
          clear H1
          obtain rfl := Option.some.inj H
          go_wp2
          go_ret
          exact ⟨by first | rfl | (simp; done) | (simp [*]; done), by repeat (first | exact Drawn0.refl _ | apply Drawn0.step)⟩
        · replace c7 := Bool.eq_false_iff.mpr c7
          subst c7
          have H1 : (if a0 = 2 then (some (wrap64 (a1 - 1))) else (if a0 = 4 then (some (wrap64 (a2 - 1))) else (if a0 = 5 then (some (wrap64 (a2 - 1))) else (some (-1))))) = some r := by rw [if_neg (show ¬ (false = true) by decide)] at H; exact H
          clear H
          have H := H1
          clear H1
          by_cases c8 : a0 = 2
          · rw [if_pos c8] at H
            have c8b0 : (a0 == 2) = true := beq_iff_eq.mpr c8
            have c8b1 : (a0 != 2) = false := bne_eq_false_iff_eq.mpr c8
            clear c8
            obtain rfl := Option.some.inj H
            go_wp2
            go_ret
            exact ⟨by first | rfl | (simp; done) | (simp [*]; done), by repeat (first | exact Drawn0.refl _ | apply Drawn0.step)⟩
          · rw [if_neg c8] at H
            have c8b0 : (a0 == 2) = false := beq_eq_false_iff_ne.mpr c8
            have c8b1 : (a0 != 2) = true := bne_iff_ne.mpr c8
            by_cases c9 : a0 = 4
            · rw [if_pos c9] at H
              have c9b0 : (a0 == 4) = true := beq_iff_eq.mpr c9
              have c9b1 : (a0 != 4) = false := bne_eq_false_iff_eq.mpr c9
              clear c9
              obtain rfl := Option.some.inj H
              go_wp2
              go_ret
              exact ⟨by first | rfl | (simp; done) | (simp [*]; done), by repeat (first | exact Drawn0.refl _ | apply Drawn0.step)⟩
            · rw [if_neg c9] at H
              have c9b0 : (a0 == 4) = false := beq_eq_false_iff_ne.mpr c9
              have c9b1 : (a0 != 4) = true := bne_iff_ne.mpr c9
              by_cases c10 : a0 = 5
              · rw [if_pos c10] at H
                have c10b0 : (a0 == 5) = true := beq_iff_eq.mpr c10
                have c10b1 : (a0 != 5) = false := bne_eq_false_iff_eq.mpr c10
                clear c10
                obtain rfl := Option.some.inj H
                go_wp2
                go_ret
                exact ⟨by first | rfl | (simp; done) | (simp [*]; done), by repeat (first | exact Drawn0.refl _ | apply Drawn0.step)⟩
              · rw [if_neg c10] at H
                have c10b0 : (a0 == 5) = false := beq_eq_false_iff_ne.mpr c10
                have c10b1 : (a0 != 5) = true := bne_iff_ne.mpr c10
                obtain rfl := Option.some.inj H
                go_wp2
                go_ret
                exact ⟨by first | rfl | (simp; done) | (simp [*]; done), by repeat (first | exact Drawn0.refl _ | apply Drawn0.step)⟩

/-! ### recloser_Valid: function 14 -/
def recloser_Valid.j0 : Nat → Int → Bool → Int → Int → Int → Option (Bool)
  | 0, _, _, _, _, _ => none
  | k + 1, x0, x28, x102000, x102001, x102002 => if x28 = true then (some false) else (if x102000 = 0 then (some (x102001 == 0)) else (if x102000 = 5 then (some (x102001 == 0)) else (if x102001 ≥ 1 then (some (decide (x102001 ≤ x0))) else (some false))))
def recloser_Valid.f (k : Nat) (a0 : Int) (a1 : Int) (a2 : Int) (a3_0 : Int) (a3_1 : Int) (a3_2 : Int) : Option (Bool) := (recloser_usable.f a0 a1 a2).bind fun t102 => (if t102 = true then (if a3_2 < 0 then (recloser_Valid.j0 k a0 true a3_0 a3_1 a3_2) else ((recloser_most.f k a3_0 a1 a2).bind fun t103 => (recloser_Valid.j0 k a0 (decide (a3_2 > t103)) a3_0 a3_1 a3_2))) else (recloser_Valid.j0 k a0 true a3_0 a3_1 a3_2))
theorem recloser_Valid.mono_l : ∀ k, (∀ y0 y1 y2 y3 y4, LeO (recloser_Valid.j0 k y0 y1 y2 y3 y4) (recloser_Valid.j0 (k + 1) y0 y1 y2 y3 y4))
  | 0 => fun _ _ _ _ _ r h => by simp [recloser_Valid.j0] at h
  | k + 1 => by
    have ih0 := recloser_Valid.mono_l k
    · intro y0 y1 y2 y3 y4
      unfold recloser_Valid.j0
      repeat' first
      | (with_reducible exact ih0 _ _ _ _ _)
      | (with_reducible exact recloser_most.mono _ _ _ _)
      | (with_reducible exact LeO.refl _)
      | (with_reducible exact LeO.none _)
      | (with_reducible refine LeO.ite ?_ ?_)
      | (with_reducible refine LeO.bind ?_ (fun _ => ?_))
      | exact ih0 _ _ _ _ _
      | exact recloser_most.mono _ _ _ _
      | exact LeO.none _
      | refine LeO.ite ?_ ?_
      | refine LeO.bind ?_ (fun _ => ?_)
theorem recloser_Valid.mono : ∀ a0 a1 a2 a3 a4 a5 k, LeO (recloser_Valid.f k a0 a1 a2 a3 a4 a5) (recloser_Valid.f (k + 1) a0 a1 a2 a3 a4 a5) := by
  intro a0 a1 a2 a3 a4 a5 k
  have ih0 := recloser_Valid.mono_l k
  unfold recloser_Valid.f
  repeat' first
      | (with_reducible exact ih0 _ _ _ _ _)
      | (with_reducible exact recloser_most.mono _ _ _ _)
      | (with_reducible exact LeO.refl _)
      | (with_reducible exact LeO.none _)
      | (with_reducible refine LeO.ite ?_ ?_)
      | (with_reducible refine LeO.bind ?_ (fun _ => ?_))
      | exact ih0 _ _ _ _ _
      | exact recloser_most.mono _ _ _ _
      | exact LeO.none _
      | refine LeO.ite ?_ ?_
      | refine LeO.bind ?_ (fun _ => ?_)
set_option maxHeartbeats 8000000 in
set_option maxRecDepth 100000 in
theorem recloser_Valid.calls (k : Nat) (a0 : Int) (a1 : Int) (a2 : Int) (a3_0 : Int) (a3_1 : Int) (a3_2 : Int) (r : Bool) (w : World) (h : recloser_Valid.f k a0 a1 a2 a3_0 a3_1 a3_2 = some r) :
    Calls Try.prog 14 #[.int .i64 a0, .int .i64 a1, .int .i64 a2, .agg #[.int .i64 a3_0, .int .i64 a3_1, .int .i64 a3_2]] w fun e w' => e = .returned (.bool r) ∧ Below w.heap.size w w' := by
  have hu25 := Try.underlying25
  have HB := Aside0.mk (Below.refl w.heap.size w)
  have H : ((recloser_usable.f a0 a1 a2).bind fun t102 => (if t102 = true then (if a3_2 < 0 then (recloser_Valid.j0 k a0 true a3_0 a3_1 a3_2) else ((recloser_most.f k a3_0 a1 a2).bind fun t103 => (recloser_Valid.j0 k a0 (decide (a3_2 > t103)) a3_0 a3_1 a3_2))) else (recloser_Valid.j0 k a0 true a3_0 a3_1 a3_2))) = some r := h
  clear h
  have HC5 := Aside0.mk H
  clear H
  go_enter Try.func14, Try.ntmps14
  go_upto_region 1 with (first | ((with_reducible refine gate_dst (N := 7) rfl ?_); refine box_event ?hg (N := 7) ?hd (cs := #[.int .i64 a3_0, .int .i64 a3_1, .int .i64 a3_2]) (t := 25) ?hr ?_; (case hd => rfl); (case hg => rfl); (case hr => first | (go_simp; done) | (go_simp; rfl)); intro gb101 hg w6 hbox hb; have n0_ := Aside0.mk (below_step (by repeat (first | (with_reducible first | exact HB.out | apply below_alloc | apply pw_below_drewN | apply below_drew1) | exact HB.out)) hb); have n1_ := Aside0.mk (hbox); have n2_ := Aside0.mk ((by rw [hg]; exact (below_size (by repeat (first | (with_reducible first | exact HB.out | apply below_alloc | apply pw_below_drewN | apply below_drew1) | exact HB.out))) : w.heap.size ≤ gb101)); have n3_ := Aside0.mk ((by rw [hg]; exact (below_size (by repeat (first | (with_reducible first | exact HB.out | apply below_alloc | apply pw_below_drewN | apply below_drew1) | exact HB.out))) : w.heap.size ≤ gb101)); clear HB; have HB := n0_; have BK101 := n1_; have GW101 := n2_; have GE101 := n3_; clear n0_ n1_ n2_ n3_; clear hb hbox hg))
  repeat (go_quiet (first | ((with_reducible refine gate_dst (N := 7) rfl ?_); refine box_event ?hg (N := 7) ?hd (cs := #[.int .i64 a3_0, .int .i64 a3_1, .int .i64 a3_2]) (t := 25) ?hr ?_; (case hd => rfl); (case hg => rfl); (case hr => first | (go_simp; done) | (go_simp; rfl)); intro gb101 hg w6 hbox hb; have n0_ := Aside0.mk (below_step (by repeat (first | (with_reducible first | exact HB.out | apply below_alloc | apply pw_below_drewN | apply below_drew1) | exact HB.out)) hb); have n1_ := Aside0.mk (hbox); have n2_ := Aside0.mk ((by rw [hg]; exact (below_size (by repeat (first | (with_reducible first | exact HB.out | apply below_alloc | apply pw_below_drewN | apply below_drew1) | exact HB.out))) : w.heap.size ≤ gb101)); have n3_ := Aside0.mk ((by rw [hg]; exact (below_size (by repeat (first | (with_reducible first | exact HB.out | apply below_alloc | apply pw_below_drewN | apply below_drew1) | exact HB.out))) : w.heap.size ≤ gb101)); clear HB; have HB := n0_; have BK101 := n1_; have GW101 := n2_; have GE101 := n3_; clear n0_ n1_ n2_ n3_; clear hb hbox hg)); go_upto_region 1 with (first | ((with_reducible refine gate_dst (N := 7) rfl ?_); refine box_event ?hg (N := 7) ?hd (cs := #[.int .i64 a3_0, .int .i64 a3_1, .int .i64 a3_2]) (t := 25) ?hr ?_; (case hd => rfl); (case hg => rfl); (case hr => first | (go_simp; done) | (go_simp; rfl)); intro gb101 hg w6 hbox hb; have n0_ := Aside0.mk (below_step (by repeat (first | (with_reducible first | exact HB.out | apply below_alloc | apply pw_below_drewN | apply below_drew1) | exact HB.out)) hb); have n1_ := Aside0.mk (hbox); have n2_ := Aside0.mk ((by rw [hg]; exact (below_size (by repeat (first | (with_reducible first | exact HB.out | apply below_alloc | apply pw_below_drewN | apply below_drew1) | exact HB.out))) : w.heap.size ≤ gb101)); have n3_ := Aside0.mk ((by rw [hg]; exact (below_size (by repeat (first | (with_reducible first | exact HB.out | apply below_alloc | apply pw_below_drewN | apply below_drew1) | exact HB.out))) : w.heap.size ≤ gb101)); clear HB; have HB := n0_; have BK101 := n1_; have GW101 := n2_; have GE101 := n3_; clear n0_ n1_ n2_ n3_; clear hb hbox hg)))
  (try simp only [Act.put, List.setIfInBounds_toArray, List.set_cons_zero, List.set_cons_succ])
  go_cut [28] (fun v28 wc => ∃ (kq : Nat) (x28_4 : Bool), v28 = .bool x28_4 ∧ Aside0 (recloser_Valid.j0 kq a0 x28_4 a3_0 a3_1 a3_2 = some r) ∧ Aside0 (kq ≤ k) ∧ Aside0 (wc.heap[gb101]? = some (.cells #[.int .i64 a3_0, .int .i64 a3_1, .int .i64 a3_2] 25 (0, 0))) ∧ Aside0 (Below w.heap.size w wc))
  case first =>
    have H := HC5.out
    clear HC5
    replace H := Option.bind_eq_some_iff.mp H
    obtain ⟨t102, A70, H⟩ := H
    replace H : (if t102 = true then (if a3_2 < 0 then (recloser_Valid.j0 k a0 true a3_0 a3_1 a3_2) else ((recloser_most.f k a3_0 a1 a2).bind fun t103 => (recloser_Valid.j0 k a0 (decide (a3_2 > t103)) a3_0 a3_1 a3_2))) else (recloser_Valid.j0 k a0 true a3_0 a3_1 a3_2)) = some r := H
    have A7 := Aside0.mk A70
    clear A70
    by_cases c8 : t102 = true
    · subst c8
      have H1 : (if a3_2 < 0 then (recloser_Valid.j0 k a0 true a3_0 a3_1 a3_2) else ((recloser_most.f k a3_0 a1 a2).bind fun t103 => (recloser_Valid.j0 k a0 (decide (a3_2 > t103)) a3_0 a3_1 a3_2))) = some r := by rw [if_pos rfl] at H; exact H
      clear H
      have H := H1
      clear H1
      by_cases c9 : a3_2 < 0
      · rw [if_pos c9] at H
        have c9b0 : decide (a3_2 < 0) = true := decide_eq_true c9
        clear c9
        (first | rw [c9b0] | (simp only [i64_w, i32_w]; rw [c9b0]) | skip)
        have H' := Aside0.mk H
        clear H
        go_wp2_with (first | (go_at_call 24; (with_reducible refine (recloser_usable.calls a0 a1 a2 true _ A7.out).mono ?_); rintro e w' ⟨rfl, ⟨nd, rfl⟩⟩; (try first | exact ⟨rfl, _, World.drewN_drewN _ _ _⟩ | exact ⟨rfl, _, Eq.trans (World.drewN_drewN _ _ _) (congrArg (World.drewN _) (Nat.add_assoc _ _ _))⟩); have hcz10_0 : w6.cell? ⟨gb101, 0, none⟩ = some (.int .i64 a3_0) := (blk_cell BK101.out 0).trans rfl; have hcz10_1 : w6.cell? ⟨gb101, 1, none⟩ = some (.int .i64 a3_1) := (blk_cell BK101.out 1).trans rfl; have hcz10_2 : w6.cell? ⟨gb101, 2, none⟩ = some (.int .i64 a3_2) := (blk_cell BK101.out 2).trans rfl; have hfz10_0 := blk_frozen BK101.out 0; have hfz10_1 := blk_frozen BK101.out 1; have hfz10_2 := blk_frozen BK101.out 2))
        repeat (go_quiet (first | (go_at_call 24; (with_reducible refine (recloser_usable.calls a0 a1 a2 true _ A7.out).mono ?_); rintro e w' ⟨rfl, ⟨nd, rfl⟩⟩; (try first | exact ⟨rfl, _, World.drewN_drewN _ _ _⟩ | exact ⟨rfl, _, Eq.trans (World.drewN_drewN _ _ _) (congrArg (World.drewN _) (Nat.add_assoc _ _ _))⟩); have hcz10_0 : w6.cell? ⟨gb101, 0, none⟩ = some (.int .i64 a3_0) := (blk_cell BK101.out 0).trans rfl; have hcz10_1 : w6.cell? ⟨gb101, 1, none⟩ = some (.int .i64 a3_1) := (blk_cell BK101.out 1).trans rfl; have hcz10_2 : w6.cell? ⟨gb101, 2, none⟩ = some (.int .i64 a3_2) := (blk_cell BK101.out 2).trans rfl; have hfz10_0 := blk_frozen BK101.out 0; have hfz10_1 := blk_frozen BK101.out 1; have hfz10_2 := blk_frozen BK101.out 2)); try go_wp2_with (first | (go_at_call 24; (with_reducible refine (recloser_usable.calls a0 a1 a2 true _ A7.out).mono ?_); rintro e w' ⟨rfl, ⟨nd, rfl⟩⟩; (try first | exact ⟨rfl, _, World.drewN_drewN _ _ _⟩ | exact ⟨rfl, _, Eq.trans (World.drewN_drewN _ _ _) (congrArg (World.drewN _) (Nat.add_assoc _ _ _))⟩); have hcz10_0 : w6.cell? ⟨gb101, 0, none⟩ = some (.int .i64 a3_0) := (blk_cell BK101.out 0).trans rfl; have hcz10_1 : w6.cell? ⟨gb101, 1, none⟩ = some (.int .i64 a3_1) := (blk_cell BK101.out 1).trans rfl; have hcz10_2 : w6.cell? ⟨gb101, 2, none⟩ = some (.int .i64 a3_2) := (blk_cell BK101.out 2).trans rfl; have hfz10_0 := blk_frozen BK101.out 0; have hfz10_1 := blk_frozen BK101.out 1; have hfz10_2 := blk_frozen BK101.out 2)))
        go_meet
        case rel => exact ⟨_, (true), (by first | rfl | (simp; done) | (simp [*]; done)), H', ⟨by first | omega | exact Nat.le_refl _⟩, ⟨by (with_reducible repeat (first | refine blk_drewN ?_ _ | refine blk_drew ?_ | refine blk_alloc ?_ _)); exact BK101.out⟩, ⟨by repeat (first | (with_reducible first | exact HB.out | apply below_alloc | apply pw_below_drewN | apply below_drew1 | refine below_set ?_ GE101.out) | exact HB.out)⟩⟩
      · rw [if_neg c9] at H
        have c9b0 : decide (a3_2 < 0) = false := decide_eq_false c9
        clear c9
        (first | rw [c9b0] | (simp only [i64_w, i32_w]; rw [c9b0]) | skip)
        replace H := Option.bind_eq_some_iff.mp H
        obtain ⟨t103, A110, H⟩ := H
        replace H : (recloser_Valid.j0 k a0 (decide (a3_2 > t103)) a3_0 a3_1 a3_2) = some r := H
        have A11 := Aside0.mk A110
        clear A110
        have H' := Aside0.mk H
        clear H
        go_wp2_with (first | (go_at_call 24; (with_reducible refine (recloser_usable.calls a0 a1 a2 true _ A7.out).mono ?_); rintro e w' ⟨rfl, ⟨nd, rfl⟩⟩; (try first | exact ⟨rfl, _, World.drewN_drewN _ _ _⟩ | exact ⟨rfl, _, Eq.trans (World.drewN_drewN _ _ _) (congrArg (World.drewN _) (Nat.add_assoc _ _ _))⟩); have hcz12_0 : w6.cell? ⟨gb101, 0, none⟩ = some (.int .i64 a3_0) := (blk_cell BK101.out 0).trans rfl; have hcz12_1 : w6.cell? ⟨gb101, 1, none⟩ = some (.int .i64 a3_1) := (blk_cell BK101.out 1).trans rfl; have hcz12_2 : w6.cell? ⟨gb101, 2, none⟩ = some (.int .i64 a3_2) := (blk_cell BK101.out 2).trans rfl; have hfz12_0 := blk_frozen BK101.out 0; have hfz12_1 := blk_frozen BK101.out 1; have hfz12_2 := blk_frozen BK101.out 2) | (go_at_call 25; (with_reducible refine (recloser_most.calls k a3_0 a1 a2 t103 _ A11.out).mono ?_); rintro e w' ⟨rfl, ⟨nd, rfl⟩⟩; (try first | exact ⟨rfl, _, World.drewN_drewN _ _ _⟩ | exact ⟨rfl, _, Eq.trans (World.drewN_drewN _ _ _) (congrArg (World.drewN _) (Nat.add_assoc _ _ _))⟩)))
        repeat (go_quiet (first | (go_at_call 24; (with_reducible refine (recloser_usable.calls a0 a1 a2 true _ A7.out).mono ?_); rintro e w' ⟨rfl, ⟨nd, rfl⟩⟩; (try first | exact ⟨rfl, _, World.drewN_drewN _ _ _⟩ | exact ⟨rfl, _, Eq.trans (World.drewN_drewN _ _ _) (congrArg (World.drewN _) (Nat.add_assoc _ _ _))⟩); have hcz12_0 : w6.cell? ⟨gb101, 0, none⟩ = some (.int .i64 a3_0) := (blk_cell BK101.out 0).trans rfl; have hcz12_1 : w6.cell? ⟨gb101, 1, none⟩ = some (.int .i64 a3_1) := (blk_cell BK101.out 1).trans rfl; have hcz12_2 : w6.cell? ⟨gb101, 2, none⟩ = some (.int .i64 a3_2) := (blk_cell BK101.out 2).trans rfl; have hfz12_0 := blk_frozen BK101.out 0; have hfz12_1 := blk_frozen BK101.out 1; have hfz12_2 := blk_frozen BK101.out 2) | (go_at_call 25; (with_reducible refine (recloser_most.calls k a3_0 a1 a2 t103 _ A11.out).mono ?_); rintro e w' ⟨rfl, ⟨nd, rfl⟩⟩; (try first | exact ⟨rfl, _, World.drewN_drewN _ _ _⟩ | exact ⟨rfl, _, Eq.trans (World.drewN_drewN _ _ _) (congrArg (World.drewN _) (Nat.add_assoc _ _ _))⟩))); try go_wp2_with (first | (go_at_call 24; (with_reducible refine (recloser_usable.calls a0 a1 a2 true _ A7.out).mono ?_); rintro e w' ⟨rfl, ⟨nd, rfl⟩⟩; (try first | exact ⟨rfl, _, World.drewN_drewN _ _ _⟩ | exact ⟨rfl, _, Eq.trans (World.drewN_drewN _ _ _) (congrArg (World.drewN _) (Nat.add_assoc _ _ _))⟩); have hcz12_0 : w6.cell? ⟨gb101, 0, none⟩ = some (.int .i64 a3_0) := (blk_cell BK101.out 0).trans rfl; have hcz12_1 : w6.cell? ⟨gb101, 1, none⟩ = some (.int .i64 a3_1) := (blk_cell BK101.out 1).trans rfl; have hcz12_2 : w6.cell? ⟨gb101, 2, none⟩ = some (.int .i64 a3_2) := (blk_cell BK101.out 2).trans rfl; have hfz12_0 := blk_frozen BK101.out 0; have hfz12_1 := blk_frozen BK101.out 1; have hfz12_2 := blk_frozen BK101.out 2) | (go_at_call 25; (with_reducible refine (recloser_most.calls k a3_0 a1 a2 t103 _ A11.out).mono ?_); rintro e w' ⟨rfl, ⟨nd, rfl⟩⟩; (try first | exact ⟨rfl, _, World.drewN_drewN _ _ _⟩ | exact ⟨rfl, _, Eq.trans (World.drewN_drewN _ _ _) (congrArg (World.drewN _) (Nat.add_assoc _ _ _))⟩))))
        go_meet
        case rel => exact ⟨_, (decide (a3_2 > t103)), (by first | rfl | (simp; done) | (simp [*]; done)), H', ⟨by first | omega | exact Nat.le_refl _⟩, ⟨by (with_reducible repeat (first | refine blk_drewN ?_ _ | refine blk_drew ?_ | refine blk_alloc ?_ _)); exact BK101.out⟩, ⟨by repeat (first | (with_reducible first | exact HB.out | apply below_alloc | apply pw_below_drewN | apply below_drew1 | refine below_set ?_ GE101.out) | exact HB.out)⟩⟩
    · replace c8 := Bool.eq_false_iff.mpr c8
      subst c8
      have H1 : (recloser_Valid.j0 k a0 true a3_0 a3_1 a3_2) = some r := by rw [if_neg (show ¬ (false = true) by decide)] at H; exact H
      clear H
      have H := H1
      clear H1
      have H' := Aside0.mk H
      clear H
      go_wp2_with (first | (go_at_call 24; (with_reducible refine (recloser_usable.calls a0 a1 a2 false _ A7.out).mono ?_); rintro e w' ⟨rfl, ⟨nd, rfl⟩⟩; (try first | exact ⟨rfl, _, World.drewN_drewN _ _ _⟩ | exact ⟨rfl, _, Eq.trans (World.drewN_drewN _ _ _) (congrArg (World.drewN _) (Nat.add_assoc _ _ _))⟩)))
      repeat (go_quiet (first | (go_at_call 24; (with_reducible refine (recloser_usable.calls a0 a1 a2 false _ A7.out).mono ?_); rintro e w' ⟨rfl, ⟨nd, rfl⟩⟩; (try first | exact ⟨rfl, _, World.drewN_drewN _ _ _⟩ | exact ⟨rfl, _, Eq.trans (World.drewN_drewN _ _ _) (congrArg (World.drewN _) (Nat.add_assoc _ _ _))⟩))); try go_wp2_with (first | (go_at_call 24; (with_reducible refine (recloser_usable.calls a0 a1 a2 false _ A7.out).mono ?_); rintro e w' ⟨rfl, ⟨nd, rfl⟩⟩; (try first | exact ⟨rfl, _, World.drewN_drewN _ _ _⟩ | exact ⟨rfl, _, Eq.trans (World.drewN_drewN _ _ _) (congrArg (World.drewN _) (Nat.add_assoc _ _ _))⟩))))
      go_meet
      case rel => exact ⟨_, (true), (by first | rfl | (simp; done) | (simp [*]; done)), H', ⟨by first | omega | exact Nat.le_refl _⟩, ⟨by (with_reducible repeat (first | refine blk_drewN ?_ _ | refine blk_drew ?_ | refine blk_alloc ?_ _)); exact BK101.out⟩, ⟨by repeat (first | (with_reducible first | exact HB.out | apply below_alloc | apply pw_below_drewN | apply below_drew1 | refine below_set ?_ GE101.out) | exact HB.out)⟩⟩
  case rest =>
    clear HC5
    try clear c1
    try clear p2
    try clear c8
    try clear c9
    try clear c9b0
    try clear hcz10_0
    try clear hcz10_1
    try clear hcz10_2
    try clear hcz12_0
    try clear hcz12_1
    try clear hcz12_2
    try clear hfz10_0
    try clear hfz10_1
    try clear hfz10_2
    try clear hfz12_0
    try clear hfz12_1
    try clear hfz12_2
    obtain ⟨kq, x28_4, rfl, HA, HJ4, BK101, HB⟩ := hcut
    cases kq with
    | zero => exact absurd HA.out (by simp [recloser_Valid.j0])
    | succ kj4 =>
      have H := HA.out
      clear HA
      simp only [recloser_Valid.j0] at H
      by_cases c13 : x28_4 = true
      · subst c13
        have H1 : (some false) = some r := by rw [if_pos rfl] at H; exact H
        clear H
        have H := H1
        clear H1
        obtain rfl := Option.some.inj H
        go_wp2
        repeat (go_quiet (fail); try go_wp2)
        go_ret
        exact ⟨by first | rfl | (simp [errW_none, errW_some] <;> rfl) | (simp [*, errW_none, errW_some] <;> rfl), by repeat (first | (with_reducible first | exact HB.out | apply below_alloc | apply pw_below_drewN | apply below_drew1 | refine below_set ?_ GE101.out) | exact HB.out)⟩
      · replace c13 := Bool.eq_false_iff.mpr c13
        subst c13
        have H1 : (if a3_0 = 0 then (some (a3_1 == 0)) else (if a3_0 = 5 then (some (a3_1 == 0)) else (if a3_1 ≥ 1 then (some (decide (a3_1 ≤ a0))) else (some false)))) = some r := by rw [if_neg (show ¬ (false = true) by decide)] at H; exact H
        clear H
        have H := H1
        clear H1
        by_cases c14 : a3_0 = 0
        · rw [if_pos c14] at H
          have c14b0 : (a3_0 == 0) = true := beq_iff_eq.mpr c14
          have c14b1 : (a3_0 != 0) = false := bne_eq_false_iff_eq.mpr c14
          clear c14
          obtain rfl := Option.some.inj H
          have hcz15_0 : wc.cell? ⟨gb101, 0, none⟩ = some (.int .i64 a3_0) := (blk_cell BK101.out 0).trans rfl
          have hcz15_1 : wc.cell? ⟨gb101, 1, none⟩ = some (.int .i64 a3_1) := (blk_cell BK101.out 1).trans rfl
          have hcz15_2 : wc.cell? ⟨gb101, 2, none⟩ = some (.int .i64 a3_2) := (blk_cell BK101.out 2).trans rfl
          have hfz15_0 := blk_frozen BK101.out 0
          have hfz15_1 := blk_frozen BK101.out 1
          have hfz15_2 := blk_frozen BK101.out 2
          go_wp2
          repeat (go_quiet (fail); try go_wp2)
          go_ret
          exact ⟨by first | rfl | (simp [errW_none, errW_some] <;> rfl) | (simp [*, errW_none, errW_some] <;> rfl), by repeat (first | (with_reducible first | exact HB.out | apply below_alloc | apply pw_below_drewN | apply below_drew1 | refine below_set ?_ GE101.out) | exact HB.out)⟩
        · rw [if_neg c14] at H
          have c14b0 : (a3_0 == 0) = false := beq_eq_false_iff_ne.mpr c14
          have c14b1 : (a3_0 != 0) = true := bne_iff_ne.mpr c14
          by_cases c16 : a3_0 = 5
          · rw [if_pos c16] at H
            have c16b0 : (a3_0 == 5) = true := beq_iff_eq.mpr c16
            have c16b1 : (a3_0 != 5) = false := bne_eq_false_iff_eq.mpr c16
            clear c16
            obtain rfl := Option.some.inj H
            have hcz17_0 : wc.cell? ⟨gb101, 0, none⟩ = some (.int .i64 a3_0) := (blk_cell BK101.out 0).trans rfl
            have hcz17_1 : wc.cell? ⟨gb101, 1, none⟩ = some (.int .i64 a3_1) := (blk_cell BK101.out 1).trans rfl
            have hcz17_2 : wc.cell? ⟨gb101, 2, none⟩ = some (.int .i64 a3_2) := (blk_cell BK101.out 2).trans rfl
            have hfz17_0 := blk_frozen BK101.out 0
            have hfz17_1 := blk_frozen BK101.out 1
            have hfz17_2 := blk_frozen BK101.out 2
            go_wp2
            repeat (go_quiet (fail); try go_wp2)
            go_ret
            exact ⟨by first | rfl | (simp [errW_none, errW_some] <;> rfl) | (simp [*, errW_none, errW_some] <;> rfl), by repeat (first | (with_reducible first | exact HB.out | apply below_alloc | apply pw_below_drewN | apply below_drew1 | refine below_set ?_ GE101.out) | exact HB.out)⟩
          · rw [if_neg c16] at H
            have c16b0 : (a3_0 == 5) = false := beq_eq_false_iff_ne.mpr c16
            have c16b1 : (a3_0 != 5) = true := bne_iff_ne.mpr c16
            by_cases c18 : a3_1 ≥ 1
            · rw [if_pos c18] at H
              have c18b0 : decide (1 ≤ a3_1) = true := decide_eq_true c18
              clear c18
              obtain rfl := Option.some.inj H
              have hcz19_0 : wc.cell? ⟨gb101, 0, none⟩ = some (.int .i64 a3_0) := (blk_cell BK101.out 0).trans rfl
              have hcz19_1 : wc.cell? ⟨gb101, 1, none⟩ = some (.int .i64 a3_1) := (blk_cell BK101.out 1).trans rfl
              have hcz19_2 : wc.cell? ⟨gb101, 2, none⟩ = some (.int .i64 a3_2) := (blk_cell BK101.out 2).trans rfl
              have hfz19_0 := blk_frozen BK101.out 0
              have hfz19_1 := blk_frozen BK101.out 1
              have hfz19_2 := blk_frozen BK101.out 2
              go_wp2
              repeat (go_quiet (fail); try go_wp2)
              go_ret
              exact ⟨by first | rfl | (simp [errW_none, errW_some] <;> rfl) | (simp [*, errW_none, errW_some] <;> rfl), by repeat (first | (with_reducible first | exact HB.out | apply below_alloc | apply pw_below_drewN | apply below_drew1 | refine below_set ?_ GE101.out) | exact HB.out)⟩
            · rw [if_neg c18] at H
              have c18b0 : decide (1 ≤ a3_1) = false := decide_eq_false c18
              clear c18
              obtain rfl := Option.some.inj H
              have hcz20_0 : wc.cell? ⟨gb101, 0, none⟩ = some (.int .i64 a3_0) := (blk_cell BK101.out 0).trans rfl
              have hcz20_1 : wc.cell? ⟨gb101, 1, none⟩ = some (.int .i64 a3_1) := (blk_cell BK101.out 1).trans rfl
              have hcz20_2 : wc.cell? ⟨gb101, 2, none⟩ = some (.int .i64 a3_2) := (blk_cell BK101.out 2).trans rfl
              have hfz20_0 := blk_frozen BK101.out 0
              have hfz20_1 := blk_frozen BK101.out 1
              have hfz20_2 := blk_frozen BK101.out 2
              go_wp2
              repeat (go_quiet (fail); try go_wp2)
              go_ret
              exact ⟨by first | rfl | (simp [errW_none, errW_some] <;> rfl) | (simp [*, errW_none, errW_some] <;> rfl), by repeat (first | (with_reducible first | exact HB.out | apply below_alloc | apply pw_below_drewN | apply below_drew1 | refine below_set ?_ GE101.out) | exact HB.out)⟩

/-! ### recloser_locked: function 22 -/
def recloser_locked.f  : Option (Int × Int × Int) := some (5, 0, 0)
set_option maxHeartbeats 8000000 in
set_option maxRecDepth 100000 in
theorem recloser_locked.calls  (r1 : Int) (r2 : Int) (r3 : Int) (w : World) (h : recloser_locked.f  = some (r1, r2, r3)) :
    Calls Try.prog 22 #[] w fun e w' => e = .returned (.agg #[.int .i64 r1, .int .i64 r2, .int .i64 r3]) ∧ Below w.heap.size w w' := by
  have hu25 := Try.underlying25
  have HB := Aside0.mk (Below.refl w.heap.size w)
  have H : (some (5, 0, 0)) = some (r1, r2, r3) := h
  clear h
  simp only [Option.some.injEq, Prod.mk.injEq] at H
  obtain ⟨rfl, rfl, rfl⟩ := H
  go_enter Try.func22, Try.ntmps22
  go_wp2_with (first | ((with_reducible refine gate_dst (N := 0) rfl ?_); refine box_event ?hg (N := 0) ?hd (cs := #[.int .i64 0, .int .i64 0, .int .i64 0]) (t := 25) ?hr ?_; (case hd => rfl); (case hg => rfl); (case hr => first | (go_simp; done) | (go_simp; rfl)); intro gb104 hg w1 hbox hb; have n0_ := Aside0.mk (below_step (by repeat (first | (with_reducible first | exact HB.out | apply below_alloc | apply pw_below_drewN | apply below_drew1) | exact HB.out)) hb); have n1_ := Aside0.mk (hbox); have n2_ := Aside0.mk ((by rw [hg]; exact (below_size (by repeat (first | (with_reducible first | exact HB.out | apply below_alloc | apply pw_below_drewN | apply below_drew1) | exact HB.out))) : w.heap.size ≤ gb104)); have n3_ := Aside0.mk ((by rw [hg]; exact (below_size (by repeat (first | (with_reducible first | exact HB.out | apply below_alloc | apply pw_below_drewN | apply below_drew1) | exact HB.out))) : w.heap.size ≤ gb104)); clear HB; have HB := n0_; have BK104 := n1_; have GW104 := n2_; have GE104 := n3_; clear n0_ n1_ n2_ n3_; clear hb hbox hg; have hcz2_0 : w1.cell? ⟨gb104, 0, none⟩ = some (.int .i64 0) := (blk_cell BK104.out 0).trans rfl; have hcz2_1 : w1.cell? ⟨gb104, 1, none⟩ = some (.int .i64 0) := (blk_cell BK104.out 1).trans rfl; have hcz2_2 : w1.cell? ⟨gb104, 2, none⟩ = some (.int .i64 0) := (blk_cell BK104.out 2).trans rfl; have hfz2_0 := blk_frozen BK104.out 0; have hfz2_1 := blk_frozen BK104.out 1; have hfz2_2 := blk_frozen BK104.out 2))
  refine bodyPost_ret (results_cell_row rfl _ _ gb104 25 #[.int .i64 5, .int .i64 0, .int .i64 0] (0, 0) _ rfl (by (with_reducible repeat (first | refine blk_drewN ?_ _ | refine blk_drew ?_ | refine blk_alloc ?_ _)); refine blk_put (cs := #[.int .i64 5, .int .i64 0, .int .i64 0]) ?_ 2 _ rfl; (with_reducible repeat (first | refine blk_drewN ?_ _ | refine blk_drew ?_ | refine blk_alloc ?_ _)); refine blk_put (cs := #[.int .i64 5, .int .i64 0, .int .i64 0]) ?_ 1 _ rfl; (with_reducible repeat (first | refine blk_drewN ?_ _ | refine blk_drew ?_ | refine blk_alloc ?_ _)); refine blk_put (cs := #[.int .i64 0, .int .i64 0, .int .i64 0]) ?_ 0 _ rfl; (with_reducible repeat (first | refine blk_drewN ?_ _ | refine blk_drew ?_ | refine blk_alloc ?_ _)); exact BK104.out) Try.underlying25 rfl (by kernel_rfl)) rfl ?_
  exact ⟨by first | rfl | (simp [errW_none, errW_some] <;> rfl) | (simp [*, errW_none, errW_some] <;> rfl), by repeat (first | (with_reducible first | exact HB.out | apply below_alloc | apply pw_below_drewN | apply below_drew1 | refine below_set ?_ GE104.out) | exact HB.out)⟩

/-! ### recloser_tick: function 30 -/
def recloser_tick.f (a0 : Int) (a1 : Int) (a2 : Bool) : Option (Int) := if a2 = true then (some 1) else (if a0 = a1 then (some 2) else (some 0))
set_option maxHeartbeats 8000000 in
set_option maxRecDepth 100000 in
theorem recloser_tick.calls (a0 : Int) (a1 : Int) (a2 : Bool) (r : Int) (w : World) (h : recloser_tick.f a0 a1 a2 = some r) :
    Calls Try.prog 30 #[.int .i64 a0, .int .i64 a1, .bool a2] w fun e w' => e = .returned (.int .i64 r) ∧ Drawn0 w w' := by
  have H : (if a2 = true then (some 1) else (if a0 = a1 then (some 2) else (some 0))) = some r := h
  clear h
  by_cases c4 : a2 = true
  · subst c4
    have H1 : (some 1) = some r := by rw [if_pos rfl] at H; exact H
    clear H
    have H := H1
    clear H1
    obtain rfl := Option.some.inj H
    go_enter Try.func30, Try.ntmps30
    go_wp2
    go_ret
    exact ⟨by first | rfl | (simp; done) | (simp [*]; done), by repeat (first | exact Drawn0.refl _ | apply Drawn0.step)⟩
  · replace c4 := Bool.eq_false_iff.mpr c4
    subst c4
    have H1 : (if a0 = a1 then (some 2) else (some 0)) = some r := by rw [if_neg (show ¬ (false = true) by decide)] at H; exact H
    clear H
    have H := H1
    clear H1
    by_cases c5 : a0 = a1
    · rw [if_pos c5] at H
      have c5b0 : (a0 == a1) = true := beq_iff_eq.mpr c5
      have c5b1 : (a0 != a1) = false := bne_eq_false_iff_eq.mpr c5
      clear c5
      obtain rfl := Option.some.inj H
      go_enter Try.func30, Try.ntmps30
      go_wp2
      go_ret
      exact ⟨by first | rfl | (simp; done) | (simp [*]; done), by repeat (first | exact Drawn0.refl _ | apply Drawn0.step)⟩
    · rw [if_neg c5] at H
      have c5b0 : (a0 == a1) = false := beq_eq_false_iff_ne.mpr c5
      have c5b1 : (a0 != a1) = true := bne_iff_ne.mpr c5
      obtain rfl := Option.some.inj H
      go_enter Try.func30, Try.ntmps30
      go_wp2
      go_ret
      exact ⟨by first | rfl | (simp; done) | (simp [*]; done), by repeat (first | exact Drawn0.refl _ | apply Drawn0.step)⟩

/-! ### recloser_wait, by hand -/
theorem tick_x (n m : Int) (b : Bool) (w : World) : Calls Try.prog 30 #[.int .i64 n, .int .i64 m, .bool b] w fun e w' => e = .returned (.int .i64 (if b = true then 1 else if n = m then 2 else 0)) ∧ w = w' := by
  cases b
  · by_cases h : n = m
    · have hb : (n == m) = true := by simpa using h
      go_enter Try.func30, Try.ntmps30
      go_wp2
      go_ret
      exact ⟨by simp [h], rfl⟩
    · have hb : (n == m) = false := by simpa using h
      go_enter Try.func30, Try.ntmps30
      go_wp2
      go_ret
      exact ⟨by simp [h], rfl⟩
  · go_enter Try.func30, Try.ntmps30
    go_wp2
    go_ret
    exact ⟨rfl, rfl⟩
theorem locked_x (w : World) : Calls Try.prog 22 #[] w fun e w' => e = .returned (.agg #[.int .i64 5, .int .i64 0, .int .i64 0]) ∧ w.alloc (.cells #[.int .i64 5, .int .i64 0, .int .i64 0] 25) = w' := by
  have hu25 := Try.underlying25
  go_enter Try.func22, Try.ntmps22
  go_wp2
  exact bodyPost_ret (v := .agg #[.int .i64 5, .int .i64 0, .int .i64 0]) (by simp [results, Try.results22, go_sem]) rfl ⟨rfl, rfl⟩
def recloser_wait.f (a0_0 : Int) (a0_1 : Int) (a0_2 : Int) (a1 : Bool) (a2 : Int) : Option (Int × Int × Int) := if a1 = true then (some (a2, a0_1, 0)) else (if a0_2 = 20 then some (5, 0, 0) else some (a0_0, a0_1, wrap64 (a0_2 + 1)))
set_option maxHeartbeats 4000000 in
set_option maxRecDepth 100000 in
theorem recloser_wait.calls (a0_0 : Int) (a0_1 : Int) (a0_2 : Int) (a1 : Bool) (a2 : Int) (r1 : Int) (r2 : Int) (r3 : Int) (w : World) (h : recloser_wait.f a0_0 a0_1 a0_2 a1 a2 = some (r1, r2, r3)) :
    Calls Try.prog 19 #[.agg #[.int .i64 a0_0, .int .i64 a0_1, .int .i64 a0_2], .bool a1, .int .i64 a2] w fun e w' => e = .returned (.agg #[.int .i64 r1, .int .i64 r2, .int .i64 r3]) ∧ Below w.heap.size w w' := by
  have hu25 := Try.underlying25
  cases a1
  · by_cases hn : a0_2 = 20
    · subst hn
      obtain ⟨rfl, rfl, rfl⟩ : 5 = r1 ∧ 0 = r2 ∧ 0 = r3 := by simpa [recloser_wait.f] using h
      go_enter Try.func19, Try.ntmps19
      go_wp2_with fail
      refine (tick_x _ _ _ _).mono ?_
      rintro e w' ⟨rfl, rfl⟩
      go_wp2_with fail
      refine (locked_x _).mono ?_
      rintro e w' ⟨rfl, rfl⟩
      go_wp2_with fail
      exact bodyPost_ret (v := .agg #[.int .i64 5, .int .i64 0, .int .i64 0]) (by simp [results, Try.results19, go_sem]) rfl ⟨rfl, (((Below.refl _ _).alloc (Nat.le_refl _) _).alloc (by simp) _).alloc (by simp; omega) _⟩
    · obtain ⟨rfl, rfl, rfl⟩ : a0_0 = r1 ∧ a0_1 = r2 ∧ wrap64 (a0_2 + 1) = r3 := by simpa [recloser_wait.f, hn] using h
      have ht := tick_x a0_2 20 false
      rw [if_neg Bool.false_ne_true, if_neg hn] at ht
      go_enter Try.func19, Try.ntmps19
      go_wp2_with fail
      refine (ht _).mono ?_
      rintro e w' ⟨rfl, rfl⟩
      go_wp2_with fail
      exact bodyPost_ret (v := .agg #[.int .i64 a0_0, .int .i64 a0_1, .int .i64 (wrap64 (a0_2 + 1))]) (by simp [results, Try.results19, go_sem]) rfl ⟨rfl, ((Below.refl _ _).alloc (Nat.le_refl _) _).alloc (by simp) _⟩
  · obtain ⟨rfl, rfl, rfl⟩ : a2 = r1 ∧ a0_1 = r2 ∧ 0 = r3 := by simpa [recloser_wait.f] using h
    go_enter Try.func19, Try.ntmps19
    go_wp2
    exact bodyPost_ret (v := .agg #[.int .i64 a2, .int .i64 a0_1, .int .i64 0]) (by simp [results, Try.results19, go_sem]) rfl ⟨rfl, ((Below.refl _ _).alloc (Nat.le_refl _) _).alloc (by simp) _⟩

/-! ### recloser_pause, by hand -/
def recloser_pause.f (a0_0 : Int) (a0_1 : Int) (a0_2 : Int) (a1 : Int) (a2 : Bool) : Option (Int × Int × Int × Bool) := if a2 = true then some (a0_0, a0_1, a0_2, false) else if a0_2 = wrap64 (a1 - 1) then some (3, a0_1, 0, true) else some (a0_0, a0_1, wrap64 (a0_2 + 1), false)
set_option maxHeartbeats 4000000 in
set_option maxRecDepth 100000 in
theorem recloser_pause.calls (a0_0 : Int) (a0_1 : Int) (a0_2 : Int) (a1 : Int) (a2 : Bool) (r1 : Int) (r2 : Int) (r3 : Int) (r4 : Bool) (w : World) (h : recloser_pause.f a0_0 a0_1 a0_2 a1 a2 = some (r1, r2, r3, r4)) :
    Calls Try.prog 20 #[.agg #[.int .i64 a0_0, .int .i64 a0_1, .int .i64 a0_2], .int .i64 a1, .bool a2] w fun e w' => e = .returned (.tuple #[.agg #[.int .i64 r1, .int .i64 r2, .int .i64 r3], .bool r4]) ∧ Below w.heap.size w w' := by
  have hu25 := Try.underlying25
  cases a2
  · by_cases hn : a0_2 = wrap64 (a1 - 1)
    · obtain ⟨rfl, rfl, rfl, rfl⟩ : 3 = r1 ∧ a0_1 = r2 ∧ 0 = r3 ∧ true = r4 := by
        unfold recloser_pause.f at h; rw [if_neg Bool.false_ne_true, if_pos hn] at h; simpa using h
      have ht := tick_x a0_2 (wrap64 (a1 - 1)) false
      rw [if_neg Bool.false_ne_true, if_pos hn] at ht
      clear h hn
      go_enter Try.func20, Try.ntmps20
      go_wp2_with fail
      refine (ht _).mono ?_
      rintro e w' ⟨rfl, rfl⟩
      go_wp2_with fail
      exact bodyPost_ret (v := .tuple #[.agg #[.int .i64 3, .int .i64 a0_1, .int .i64 0], .bool true]) (by simp [results, Try.results20, go_sem]) rfl ⟨rfl, ((Below.refl _ _).alloc (Nat.le_refl _) _).alloc (by simp) _⟩
    · obtain ⟨rfl, rfl, rfl, rfl⟩ : a0_0 = r1 ∧ a0_1 = r2 ∧ wrap64 (a0_2 + 1) = r3 ∧ false = r4 := by
        unfold recloser_pause.f at h; rw [if_neg Bool.false_ne_true, if_neg hn] at h; simpa using h
      have ht := tick_x a0_2 (wrap64 (a1 - 1)) false
      rw [if_neg Bool.false_ne_true, if_neg hn] at ht
      clear h hn
      go_enter Try.func20, Try.ntmps20
      go_wp2_with fail
      refine (ht _).mono ?_
      rintro e w' ⟨rfl, rfl⟩
      go_wp2_with fail
      exact bodyPost_ret (v := .tuple #[.agg #[.int .i64 a0_0, .int .i64 a0_1, .int .i64 (wrap64 (a0_2 + 1))], .bool false]) (by simp [results, Try.results20, go_sem]) rfl ⟨rfl, ((Below.refl _ _).alloc (Nat.le_refl _) _).alloc (by simp) _⟩
  · obtain ⟨rfl, rfl, rfl, rfl⟩ : a0_0 = r1 ∧ a0_1 = r2 ∧ a0_2 = r3 ∧ false = r4 := by simpa [recloser_pause.f] using h
    have ht := tick_x a0_2 (wrap64 (a1 - 1)) true
    rw [if_pos rfl] at ht
    clear h
    go_enter Try.func20, Try.ntmps20
    go_wp2_with fail
    refine (ht _).mono ?_
    rintro e w' ⟨rfl, rfl⟩
    go_wp2_with fail
    exact bodyPost_ret (v := .tuple #[.agg #[.int .i64 a0_0, .int .i64 a0_1, .int .i64 a0_2], .bool false]) (by simp [results, Try.results20, go_sem]) rfl ⟨rfl, ((Below.refl _ _).alloc (Nat.le_refl _) _).alloc (by simp) _⟩

/-! ### recloser_rest, by hand -/
def recloser_rest.f (a0_0 : Int) (a0_1 : Int) (a0_2 : Int) (a1 : Int) (a2_0 : Bool) (a2_1 : Bool) (a2_2 : Bool) (a2_3 : Bool) : Option (Int × Int × Int) := if a2_2 = true then some (5, 0, 0) else if a2_3 = true then some (a0_0, a0_1, a0_2) else if a0_2 = wrap64 (a1 - 1) then some (0, 0, 0) else some (a0_0, a0_1, wrap64 (a0_2 + 1))
set_option maxHeartbeats 4000000 in
set_option maxRecDepth 100000 in
theorem recloser_rest.calls (a0_0 : Int) (a0_1 : Int) (a0_2 : Int) (a1 : Int) (a2_0 : Bool) (a2_1 : Bool) (a2_2 : Bool) (a2_3 : Bool) (r1 : Int) (r2 : Int) (r3 : Int) (w : World) (h : recloser_rest.f a0_0 a0_1 a0_2 a1 a2_0 a2_1 a2_2 a2_3 = some (r1, r2, r3)) :
    Calls Try.prog 21 #[.agg #[.int .i64 a0_0, .int .i64 a0_1, .int .i64 a0_2], .int .i64 a1, .agg #[.bool a2_0, .bool a2_1, .bool a2_2, .bool a2_3]] w fun e w' => e = .returned (.agg #[.int .i64 r1, .int .i64 r2, .int .i64 r3]) ∧ Below w.heap.size w w' := by
  have hu25 := Try.underlying25
  have hu29 := Try.underlying29
  cases a2_2
  · cases a2_3
    · by_cases hn : a0_2 = wrap64 (a1 - 1)
      · obtain ⟨rfl, rfl, rfl⟩ : 0 = r1 ∧ 0 = r2 ∧ 0 = r3 := by
          unfold recloser_rest.f at h; rw [if_neg Bool.false_ne_true, if_neg Bool.false_ne_true, if_pos hn] at h; simpa using h
        have ht := tick_x a0_2 (wrap64 (a1 - 1)) false
        rw [if_neg Bool.false_ne_true, if_pos hn] at ht
        clear h hn
        go_enter Try.func21, Try.ntmps21
        go_wp2_with fail
        refine (ht _).mono ?_
        rintro e w' ⟨rfl, rfl⟩
        go_wp2_with fail
        exact bodyPost_ret (v := .agg #[.int .i64 0, .int .i64 0, .int .i64 0]) (by simp [results, Try.results21, go_sem]) rfl ⟨rfl, (((Below.refl _ _).alloc (Nat.le_refl _) _).alloc (by simp) _).alloc (by simp; omega) _⟩
      · obtain ⟨rfl, rfl, rfl⟩ : a0_0 = r1 ∧ a0_1 = r2 ∧ wrap64 (a0_2 + 1) = r3 := by
          unfold recloser_rest.f at h; rw [if_neg Bool.false_ne_true, if_neg Bool.false_ne_true, if_neg hn] at h; simpa using h
        have ht := tick_x a0_2 (wrap64 (a1 - 1)) false
        rw [if_neg Bool.false_ne_true, if_neg hn] at ht
        clear h hn
        go_enter Try.func21, Try.ntmps21
        go_wp2_with fail
        refine (ht _).mono ?_
        rintro e w' ⟨rfl, rfl⟩
        go_wp2_with fail
        exact bodyPost_ret (v := .agg #[.int .i64 a0_0, .int .i64 a0_1, .int .i64 (wrap64 (a0_2 + 1))]) (by simp [results, Try.results21, go_sem]) rfl ⟨rfl, (((Below.refl _ _).alloc (Nat.le_refl _) _).alloc (by simp) _).alloc (by simp; omega) _⟩
    · obtain ⟨rfl, rfl, rfl⟩ : a0_0 = r1 ∧ a0_1 = r2 ∧ a0_2 = r3 := by simpa [recloser_rest.f] using h
      have ht := tick_x a0_2 (wrap64 (a1 - 1)) true
      rw [if_pos rfl] at ht
      clear h
      go_enter Try.func21, Try.ntmps21
      go_wp2_with fail
      refine (ht _).mono ?_
      rintro e w' ⟨rfl, rfl⟩
      go_wp2_with fail
      exact bodyPost_ret (v := .agg #[.int .i64 a0_0, .int .i64 a0_1, .int .i64 a0_2]) (by simp [results, Try.results21, go_sem]) rfl ⟨rfl, (((Below.refl _ _).alloc (Nat.le_refl _) _).alloc (by simp) _).alloc (by simp; omega) _⟩
  · obtain ⟨rfl, rfl, rfl⟩ : 5 = r1 ∧ 0 = r2 ∧ 0 = r3 := by simpa [recloser_rest.f] using h
    clear h
    go_enter Try.func21, Try.ntmps21
    go_wp2_with fail
    refine (locked_x _).mono ?_
    rintro e w' ⟨rfl, rfl⟩
    go_wp2_with fail
    exact bodyPost_ret (v := .agg #[.int .i64 5, .int .i64 0, .int .i64 0]) (by simp [results, Try.results21, go_sem]) rfl ⟨rfl, ((((Below.refl _ _).alloc (Nat.le_refl _) _).alloc (by simp) _).alloc (by simp; omega) _).alloc (by simp; omega) _⟩

/-! ### recloser_Step, by hand -/
/-- A valid state for usable settings. -/
def vaR (sh de rc ph s n : Int) : Bool :=
  usB sh de rc && (decide (0 ≤ n) && ((if ph = 0 then decide (n ≤ 0) && (s == 0) else if ph = 5 then decide (n ≤ rc - 1) && (s == 0) else
    (decide (1 ≤ s) && decide (s ≤ sh)) && (if ph = 1 ∨ ph = 3 then decide (n ≤ 20) else if ph = 2 then decide (n ≤ de - 1) else if ph = 4 then decide (n ≤ rc - 1) else false))))
theorem usB_le {a b c : Int} (h : usB a b c = true) : 1 ≤ a ∧ a ≤ 3 ∧ 1 ≤ b ∧ b ≤ 100 ∧ 1 ≤ c ∧ c ≤ 1000 := by
  simp only [usB, Bool.and_eq_true, decide_eq_true_eq] at h
  omega
theorem wrap_id {x : Int} (h0 : -9223372036854775808 ≤ x) (h1 : x ≤ 9223372036854775807) : wrap64 x = x := by unfold wrap64; omega
theorem most_eq (k : Nat) (ph de rc : Int) (hd : 1 ≤ de ∧ de ≤ 100) (hr : 1 ≤ rc ∧ rc ≤ 1000) : recloser_most.f (k + 1) ph de rc = some (if ph = 0 then 0 else if ph = 1 ∨ ph = 3 then 20 else if ph = 2 then de - 1 else if ph = 4 ∨ ph = 5 then rc - 1 else -1) := by
  unfold recloser_most.f
  by_cases h0 : ph = 0
  · simp [h0]
  by_cases h1 : ph = 1
  · simp [h1, recloser_most.j0]
  by_cases h3 : ph = 3
  · simp [h3, recloser_most.j0]
  rw [if_neg h0, if_neg h1, if_neg h0, if_neg (by omega)]
  have e : (ph == 3) = false := by simpa using h3
  rw [e]
  simp only [recloser_most.j0]
  rw [if_neg (by decide), wrap_id (x := de - 1) (by omega) (by omega), wrap_id (x := rc - 1) (by omega) (by omega)]
  by_cases h2 : ph = 2
  · rw [if_pos h2, if_pos h2]
  · rw [if_neg h2, if_neg h2]
    by_cases h4 : ph = 4
    · rw [if_pos h4, if_pos (by omega)]
    · by_cases h5 : ph = 5
      · rw [if_neg h4, if_pos h5, if_pos (by omega)]
      · rw [if_neg h4, if_neg h5, if_neg (by omega)]
theorem va_eq (k : Nat) (sh de rc ph s n : Int) : recloser_Valid.f (k + 2) sh de rc ph s n = some (vaR sh de rc ph s n) := by
  unfold recloser_Valid.f recloser_usable.f vaR
  simp only [Option.bind_some]
  by_cases hu : usB sh de rc = true
  · have hl := usB_le hu
    rw [if_pos hu, hu, most_eq (k + 1) ph de rc (by omega) (by omega)]
    simp only [Option.bind_some]
    by_cases hn : n < 0
    · have : ¬ 0 ≤ n := by omega
      simp [hn, this, recloser_Valid.j0]
    · have hn' : 0 ≤ n := by omega
      rw [if_neg hn]
      simp only [recloser_Valid.j0, hn', decide_true, Bool.true_and]
      by_cases h0 : ph = 0
      · subst h0
        by_cases h : n > 0
        · have : ¬ n ≤ 0 := by omega
          simp [h, this]
        · have : n ≤ 0 := by omega
          simp [h, this]
      · by_cases h5 : ph = 5
        · subst h5
          by_cases h : n > rc - 1
          · have : ¬ n ≤ rc - 1 := by omega
            simp [h, this]
          · have : n ≤ rc - 1 := by omega
            simp [h, this]
        · simp only [h0, h5, if_false, or_false]
          by_cases h13 : ph = 1 ∨ ph = 3
          · simp only [h13, if_true]
            by_cases h : n > 20
            · have : ¬ n ≤ 20 := by omega
              simp [h, this]
            · have : n ≤ 20 := by omega
              by_cases hs : s ≥ 1 <;> simp [h, this, hs]
          · simp only [h13, if_false]
            by_cases h2 : ph = 2
            · simp only [h2, if_true]
              by_cases h : n > de - 1
              · have : ¬ n ≤ de - 1 := by omega
                simp [h, this]
              · have : n ≤ de - 1 := by omega
                by_cases hs : s ≥ 1 <;> simp [h, this, hs]
            · simp only [h2, if_false]
              by_cases h4 : ph = 4
              · simp only [h4, if_true]
                by_cases h : n > rc - 1
                · have : ¬ n ≤ rc - 1 := by omega
                  simp [h, this]
                · have : n ≤ rc - 1 := by omega
                  by_cases hs : s ≥ 1 <;> simp [h, this, hs]
              · have : n > -1 := by omega
                simp [h4, this]
  · rw [if_neg hu]
    simp [hu, recloser_Valid.j0]
/-- The next state, and whether the breaker is commanded to close. -/
def stR (sh de rc ph s n : Int) (fa sl op bl : Bool) : Int × Int × Int × Bool :=
  if vaR sh de rc ph s n = false then (0, 0, 0, false)
  else if sl = true then (5, 0, 0, false)
  else if fa = true ∧ (ph = 0 ∨ ph = 4) then (if bl = true ∨ s = sh then (5, 0, 0, false) else (1, s + 1, 0, false))
  else if ph = 0 then (if op = true then (5, 0, 0, false) else (ph, s, n, false))
  else if ph = 1 then (if op = true then (2, s, 0, false) else if n = 20 then (5, 0, 0, false) else (ph, s, n + 1, false))
  else if ph = 3 then (if op = false then (4, s, 0, false) else if n = 20 then (5, 0, 0, false) else (ph, s, n + 1, false))
  else if ph = 2 then (if op = false then (5, 0, 0, false) else if bl = true then (ph, s, n, false) else if n = de - 1 then (3, s, 0, true) else (ph, s, n + 1, false))
  else if op = true then (5, 0, 0, false) else if bl = true then (ph, s, n, false) else if n = rc - 1 then (0, 0, 0, false) else (ph, s, n + 1, false)
def recloser_Step.f (a0 : Int) (a1 : Int) (a2 : Int) (a3_0 : Int) (a3_1 : Int) (a3_2 : Int) (a4_0 : Bool) (a4_1 : Bool) (a4_2 : Bool) (a4_3 : Bool) : Option (Int × Int × Int × Bool) := some (stR a0 a1 a2 a3_0 a3_1 a3_2 a4_0 a4_1 a4_2 a4_3)


end Go.Proofs.Ytmppijipaocfiaa.PAll
