-- PRINTED BY print.sh 35421559b90ae4d0a3588c463048766b98c2df88dd9212a6774a882060cdf62d: not written by this session
import Derived.Test.YtlfphopfoicjpaaPSplx0
namespace Go.Proofs.Ytlfphopfoicjpaa.PSpl
open Go.RowKit Go.Proofs.YtlfphopfoicjpaaW.PrintWords Go.Proofs.YtlfphopfoicjpaaW.PrintLast Go.Proofs.YtlfphopfoicjpaaW.PrintMore
attribute [local go_sem] max2_int min2_int max_two min_two max_three min_three max_four min_four   -- for this text's walks alone
set_option linter.unusedVariables false
set_option linter.unusedSimpArgs false

/-! ### stream_within_int: function 29 -/
def stream_within_int.l0 : Nat → Int → Int → List Int → Int → Int → Option (Bool)
  | 0, _, _, _, _, _ => none
  | k + 1, x0, x1, x9, x10, x11 => if x11 < x10 then (if 0 ≤ x11 then (if x11 < (x9.length : Int) then (if (rd x9 x11) < x0 then (some false) else (if (rd x9 x11) > x1 then (some false) else (stream_within_int.l0 k x0 x1 x9 x10 (wrap64 (x11 + 1))))) else (none)) else (none)) else (some true)
def stream_within_int.f (k : Nat) (a0 : Int) (a1 : Int) (l2 : List Int) : Option (Bool) := stream_within_int.l0 k a0 a1 l2 (l2.length : Int) 0
theorem stream_within_int.mono_l : ∀ k, (∀ y0 y1 y2 y3 y4, LeO (stream_within_int.l0 k y0 y1 y2 y3 y4) (stream_within_int.l0 (k + 1) y0 y1 y2 y3 y4))
  | 0 => fun _ _ _ _ _ r h => by simp [stream_within_int.l0] at h
  | k + 1 => by
    have ih0 := stream_within_int.mono_l k
    · intro y0 y1 y2 y3 y4
      unfold stream_within_int.l0
      repeat' first
      | (with_reducible exact ih0 _ _ _ _ _)
      | (with_reducible exact LeO.refl _)
      | (with_reducible exact LeO.none _)
      | (with_reducible refine LeO.ite ?_ ?_)
      | (with_reducible refine LeO.bind ?_ (fun _ => ?_))
      | exact ih0 _ _ _ _ _
      | exact LeO.none _
      | refine LeO.ite ?_ ?_
      | refine LeO.bind ?_ (fun _ => ?_)
theorem stream_within_int.mono : ∀ a0 a1 a2 k, LeO (stream_within_int.f k a0 a1 a2) (stream_within_int.f (k + 1) a0 a1 a2) := by
  intro a0 a1 a2 k
  have ih0 := stream_within_int.mono_l k
  unfold stream_within_int.f
  repeat' first
      | (with_reducible exact ih0 _ _ _ _ _)
      | (with_reducible exact LeO.refl _)
      | (with_reducible exact LeO.none _)
      | (with_reducible refine LeO.ite ?_ ?_)
      | (with_reducible refine LeO.bind ?_ (fun _ => ?_))
      | exact ih0 _ _ _ _ _
      | exact LeO.none _
      | refine LeO.ite ?_ ?_
      | refine LeO.bind ?_ (fun _ => ?_)
set_option maxHeartbeats 8000000 in
set_option maxRecDepth 100000 in
theorem stream_within_int.calls (k : Nat) (a0 : Int) (a1 : Int) (A2 : Option Addr) (c2 : Nat) (l2 : List Int) (r : Bool) (w : World) (hr2 : Kd.C (Kd.int .i64) w A2 l2.length l2) (hc2 : l2.length ≤ c2) (h : stream_within_int.f k a0 a1 l2 = some r) :
    Calls Try.prog 29 #[.int .i64 a0, .int .i64 a1, .slice A2 l2.length c2] w fun e w' => e = .returned (.bool r) ∧ Drawn0 w w' := by
  have HR2 := Aside0.mk hr2
  have HC2 := Aside0.mk hc2
  clear hr2 hc2
  have H : (stream_within_int.l0 k a0 a1 l2 (l2.length : Int) 0) = some r := h
  clear h
  have H' := Aside0.mk H
  clear H
  go_enter Try.func29, Try.ntmps29
  go_wp2
  go_loopg [11] k (fun kq v11 w' => ∃ (x11_1 : Int), v11 = .int .i64 x11_1 ∧ Aside0 (stream_within_int.l0 kq a0 a1 l2 (l2.length : Int) x11_1 = some r) ∧ Aside0 (kq ≤ k) ∧ Drawn0 w w')
  case atStart => exact ⟨(0), (by first | rfl | (simp; done) | (simp [*]; done)), H', ⟨Nat.le_refl _⟩, by repeat (first | exact Drawn0.refl _ | apply Drawn0.step)⟩
  case round =>
    clear H'
    try clear c2
    try clear p2
    obtain ⟨x11_1, rfl, HA, HK1, ⟨m1, rfl⟩⟩ := hrel
    cases gk with
    | zero => exact absurd HA.out (by simp [stream_within_int.l0])
    | succ k1 =>
      have H := HA.out
      clear HA
      simp only [stream_within_int.l0] at H
      by_cases c4 : x11_1 < (l2.length : Int)
      · rw [if_pos c4] at H
        have c4b0 : decide (x11_1 < (l2.length : Int)) = true := decide_eq_true c4
        clear c4
        by_cases c5 : 0 ≤ x11_1
        · rw [if_pos c5] at H
          have c5b0 : decide (0 ≤ x11_1) = true := decide_eq_true c5
          clear c5
          by_cases c6 : x11_1 < (l2.length : Int)
          · rw [if_pos c6] at H
            have c6b0 : decide (x11_1 < (l2.length : Int)) = true := decide_eq_true c6
            clear c6
            by_cases c7 : (rd l2 x11_1) < a0
            · rw [if_pos c7] at H
              have c7b0 : decide ((rd l2 x11_1) < a0) = true := decide_eq_true c7
              clear c7
              obtain rfl := Option.some.inj H
              have p101 : 0 ≤ (x11_1 : Int) := of_decide_eq_true (by first | (with_reducible assumption) | assumption)
              have q101 : x11_1 < (l2.length : Int) := of_decide_eq_true (by first | (with_reducible assumption) | assumption)
              obtain ⟨ad101, e101, hx101_0⟩ := Kd.at_int HR2.out x11_1 p101 q101
              cases e101
              replace p101 := eq_true p101
              replace q101 := eq_true q101
              go_wp2
              go_ret
              exact ⟨by first | rfl | (simp; done) | (simp [*]; done), by repeat (first | exact Drawn0.refl _ | apply Drawn0.step)⟩
            · rw [if_neg c7] at H
              have c7b0 : decide ((rd l2 x11_1) < a0) = false := decide_eq_false c7
              clear c7
              by_cases c8 : (rd l2 x11_1) > a1
              · rw [if_pos c8] at H
                have c8b0 : decide (a1 < (rd l2 x11_1)) = true := decide_eq_true c8
                clear c8
                obtain rfl := Option.some.inj H
                have p101 : 0 ≤ (x11_1 : Int) := of_decide_eq_true (by first | (with_reducible assumption) | assumption)
                have q101 : x11_1 < (l2.length : Int) := of_decide_eq_true (by first | (with_reducible assumption) | assumption)
                obtain ⟨ad101, e101, hx101_0⟩ := Kd.at_int HR2.out x11_1 p101 q101
                cases e101
                replace p101 := eq_true p101
                replace q101 := eq_true q101
                go_wp2
                go_ret
                exact ⟨by first | rfl | (simp; done) | (simp [*]; done), by repeat (first | exact Drawn0.refl _ | apply Drawn0.step)⟩
              · rw [if_neg c8] at H
                have c8b0 : decide (a1 < (rd l2 x11_1)) = false := decide_eq_false c8
                clear c8
                have H' := Aside0.mk H
                clear H
                have p101 : 0 ≤ (x11_1 : Int) := of_decide_eq_true (by first | (with_reducible assumption) | assumption)
                have q101 : x11_1 < (l2.length : Int) := of_decide_eq_true (by first | (with_reducible assumption) | assumption)
                obtain ⟨ad101, e101, hx101_0⟩ := Kd.at_int HR2.out x11_1 p101 q101
                cases e101
                replace p101 := eq_true p101
                replace q101 := eq_true q101
                go_wp2
                go_roundg k1
                case measure => have := HK1.out; omega
                case rel => exact ⟨(wrap64 (x11_1 + 1)), (by first | rfl | (simp; done) | (simp [*]; done)), H', ⟨by have := HK1.out; omega⟩, by repeat (first | exact Drawn0.refl _ | apply Drawn0.step)⟩
          · rw [if_neg c6] at H
            exact absurd H (by simp)
        · rw [if_neg c5] at H
          exact absurd H (by simp)
      · rw [if_neg c4] at H
        have c4b0 : decide (x11_1 < (l2.length : Int)) = false := decide_eq_false c4
        clear c4
        obtain rfl := Option.some.inj H
        go_wp2
        go_ret
        exact ⟨by first | rfl | (simp; done) | (simp [*]; done), by repeat (first | exact Drawn0.refl _ | apply Drawn0.step)⟩

/-! ### stream_Count: function 15 -/
def stream_Count.f (k : Nat) (a0 : Int) (a1 : Int) : Option (Int) := (stream_within_int.f k 0 1099511627776 (([a0] : List Int))).bind fun t105 => (if t105 = true then ((stream_within_int.f k 0 11 (([a1] : List Int))).bind fun t109 => (if t109 = true then (some (Int.tmod (wrap64 ((wrap64 (12 * a0)) + a1)) 600)) else (some 0))) else (some 0))
theorem stream_Count.mono : ∀ a0 a1 k, LeO (stream_Count.f k a0 a1) (stream_Count.f (k + 1) a0 a1) := by
  intro a0 a1 k
  unfold stream_Count.f
  repeat' first
      | (with_reducible exact stream_within_int.mono _ _ _ _)
      | (with_reducible exact LeO.refl _)
      | (with_reducible exact LeO.none _)
      | (with_reducible refine LeO.ite ?_ ?_)
      | (with_reducible refine LeO.bind ?_ (fun _ => ?_))
      | exact stream_within_int.mono _ _ _ _
      | exact LeO.none _
      | refine LeO.ite ?_ ?_
      | refine LeO.bind ?_ (fun _ => ?_)
set_option maxHeartbeats 8000000 in
set_option maxRecDepth 100000 in
theorem stream_Count.calls (k : Nat) (a0 : Int) (a1 : Int) (r : Int) (w : World) (h : stream_Count.f k a0 a1 = some r) :
    Calls Try.prog 15 #[.int .i64 a0, .int .i64 a1] w fun e w' => e = .returned (.int .i64 r) ∧ Below w.heap.size w w' := by
  have HB := Aside0.mk (Below.refl w.heap.size w)
  have H : ((stream_within_int.f k 0 1099511627776 (([a0] : List Int))).bind fun t105 => (if t105 = true then ((stream_within_int.f k 0 11 (([a1] : List Int))).bind fun t109 => (if t109 = true then (some (Int.tmod (wrap64 ((wrap64 (12 * a0)) + a1)) 600)) else (some 0))) else (some 0))) = some r := h
  clear h
  obtain ⟨y102, hy102⟩ : ∃ y_ : List Int, y_ = (([a0] : List Int)) := ⟨_, rfl⟩
  replace H : ((stream_within_int.f k 0 1099511627776 y102).bind fun t105 => (if t105 = true then ((stream_within_int.f k 0 11 (([a1] : List Int))).bind fun t109 => (if t109 = true then (some (Int.tmod (wrap64 ((wrap64 (12 * a0)) + a1)) 600)) else (some 0))) else (some 0))) = some r := by first | (rw [hy102]; with_reducible exact H) | (have H2_ := (Option.bind_some _ _).symm.trans H; rw [hy102]; with_reducible exact H2_) | (have H2_ := (Option.bind_some _ _).symm.trans H; with_reducible exact H2_) | with_reducible exact H | (rw [hy102]; exact H) | exact H
  have Ny102 := Aside0.mk hy102
  clear hy102
  replace H := Option.bind_eq_some_iff.mp H
  obtain ⟨t105, A30, H⟩ := H
  replace H : (if t105 = true then ((stream_within_int.f k 0 11 (([a1] : List Int))).bind fun t109 => (if t109 = true then (some (Int.tmod (wrap64 ((wrap64 (12 * a0)) + a1)) 600)) else (some 0))) else (some 0)) = some r := H
  have A3 := Aside0.mk A30
  clear A30
  by_cases c4 : t105 = true
  · subst c4
    have H1 : ((stream_within_int.f k 0 11 (([a1] : List Int))).bind fun t109 => (if t109 = true then (some (Int.tmod (wrap64 ((wrap64 (12 * a0)) + a1)) 600)) else (some 0))) = some r := by rw [if_pos rfl] at H; exact H
    clear H
    have H := H1
    clear H1
    obtain ⟨y106, hy106⟩ : ∃ y_ : List Int, y_ = (([a1] : List Int)) := ⟨_, rfl⟩
    replace H : ((stream_within_int.f k 0 11 y106).bind fun t109 => (if t109 = true then (some (Int.tmod (wrap64 ((wrap64 (12 * a0)) + a1)) 600)) else (some 0))) = some r := by first | (rw [hy106]; with_reducible exact H) | (have H2_ := (Option.bind_some _ _).symm.trans H; rw [hy106]; with_reducible exact H2_) | (have H2_ := (Option.bind_some _ _).symm.trans H; with_reducible exact H2_) | with_reducible exact H | (rw [hy106]; exact H) | exact H
    have Ny106 := Aside0.mk hy106
    clear hy106
    replace H := Option.bind_eq_some_iff.mp H
    obtain ⟨t109, A50, H⟩ := H
    replace H : (if t109 = true then (some (Int.tmod (wrap64 ((wrap64 (12 * a0)) + a1)) 600)) else (some 0)) = some r := H
    have A5 := Aside0.mk A50
    clear A50
    by_cases c6 : t109 = true
    · subst c6
      have H1 : (some (Int.tmod (wrap64 ((wrap64 (12 * a0)) + a1)) 600)) = some r := by rw [if_pos rfl] at H; exact H
      clear H
      have H := H1
      clear H1
      obtain rfl := Option.some.inj H
      go_enter Try.func15, Try.ntmps15
      go_wp2_with (first | ((with_reducible refine gate_dst (N := 6) rfl ?_); (try (refine gate_guard (by rfl) ?_; dsimp only)); refine Kd.R_lit (Kd.int .i64) _ 3 ?hg (N := 6) ?hd (xs := ([a0] : List Int)) (inner := [.int .i64 a0]) (ok := fun _ => True) (okp := fun _ => True) ?hr ?hp (fun _ hk => hk) trivial (Below.refl _ _) (Nat.le_refl _) (by simp) ?_; (case hd => rfl); (case hg => rfl); (case hr => first | (go_simp; done) | (go_simp; rfl)); (case hp => exact (Reps.one (show Kd.M (Kd.int .i64) _ _ _ a0 [.int .i64 a0] from rfl) (Reps.none _ _))); intro v103 w7 ho8 hb hg_ hnew_; clear hg_ hnew_; (first | rw [← Ny102.out] at ho8 | (simp only [Int.reduceToNat] at ho8; rw [← Ny102.out] at ho8)); have n0_ := Aside0.mk (Kd.R_lower ho8 (below_size (by repeat (first | (with_reducible first | exact HB.out | apply below_alloc | apply pw_below_drewN | apply below_drew1) | exact HB.out)))); have n1_ := Aside0.mk (below_step (by repeat (first | (with_reducible first | exact HB.out | apply below_alloc | apply pw_below_drewN | apply below_drew1) | exact HB.out)) hb); clear HB; have HO104 := n0_; have HB := n1_; clear n0_ n1_; clear hb ho8; obtain ⟨Ao9, co9, eo9⟩ := Kd.R_slice HO104.out; subst eo9) | ((with_reducible refine gate_callee (f := 29) rfl ?_); refine goesL_ (some 7) rfl rfl Try.func29 (by kernel_rfl) rfl #[.int .i64 0, .int .i64 1099511627776, .slice Ao9 y102.length co9] rfl (by (try simp only [List.map_toArray, List.map_cons, List.map_nil]); first | done | rfl | (simp only [List.length_drop, List.length_take]; rfl)) ?_; (with_reducible refine (stream_within_int.calls k 0 1099511627776 _ _ y102 true _ ?side1 ?side2 A3.out).mono ?_); (case side1 => repeat (first | exact (Kd.R_reads' HO104.out).2.2 | (with_reducible refine Kd.C_alloc ?_ _) | (with_reducible refine Kd.C_drewN ?_ _) | (with_reducible refine Kd.C_drew ?_))); (case side2 => exact (Kd.R_reads' HO104.out).2.1); rintro e w' ⟨rfl, ⟨nd, rfl⟩⟩; refine ⟨_, rfl, ?_⟩) | ((with_reducible refine gate_dst (N := 11) rfl ?_); (try (refine gate_guard (by rfl) ?_; dsimp only)); refine Kd.R_lit (Kd.int .i64) _ 3 ?hg (N := 11) ?hd (xs := ([a1] : List Int)) (inner := [.int .i64 a1]) (ok := fun _ => True) (okp := fun _ => True) ?hr ?hp (fun _ hk => hk) trivial (Below.refl _ _) (Nat.le_refl _) (by simp) ?_; (case hd => rfl); (case hg => rfl); (case hr => first | (go_simp; done) | (go_simp; rfl)); (case hp => exact (Reps.one (show Kd.M (Kd.int .i64) _ _ _ a1 [.int .i64 a1] from rfl) (Reps.none _ _))); intro v107 w10 ho11 hb hg_ hnew_; clear hg_ hnew_; (first | rw [← Ny106.out] at ho11 | (simp only [Int.reduceToNat] at ho11; rw [← Ny106.out] at ho11)); have n0_ := Aside0.mk (Kd.R_elder' (by (with_reducible repeat (first | apply Kd.R_alloc | apply Kd.R_drewN | apply Kd.R_drew)); exact HO104.out) (Kd.R_base ho11) hb); have n1_ := Aside0.mk (Kd.R_lower (Kd.R_new' ho11 (Kd.R_lt (by (with_reducible repeat (first | apply Kd.R_alloc | apply Kd.R_drewN | apply Kd.R_drew)); exact HO104.out))) (below_size (by repeat (first | (with_reducible first | exact HB.out | apply below_alloc | apply pw_below_drewN | apply below_drew1) | exact HB.out)))); have n2_ := Aside0.mk (below_step (by repeat (first | (with_reducible first | exact HB.out | apply below_alloc | apply pw_below_drewN | apply below_drew1) | exact HB.out)) hb); clear HO104; clear HB; have HO104 := n0_; have HO108 := n1_; have HB := n2_; clear n0_ n1_ n2_; clear hb ho11; obtain ⟨Ao12, co12, eo12⟩ := Kd.R_slice HO108.out; subst eo12) | (go_at_call 29; (with_reducible refine (stream_within_int.calls k 0 11 _ _ y106 true _ ?side1 ?side2 A5.out).mono ?_); (case side1 => repeat (first | exact (Kd.R_reads' HO108.out).2.2 | (with_reducible refine Kd.C_alloc ?_ _) | (with_reducible refine Kd.C_drewN ?_ _) | (with_reducible refine Kd.C_drew ?_))); (case side2 => exact (Kd.R_reads' HO108.out).2.1); rintro e w' ⟨rfl, ⟨nd, rfl⟩⟩))
      go_ret
      exact ⟨by first | rfl | (simp [errW_none, errW_some] <;> rfl) | (simp [*, errW_none, errW_some] <;> rfl), by repeat (first | (with_reducible first | exact HB.out | apply below_alloc | apply pw_below_drewN | apply below_drew1) | exact HB.out)⟩
    · replace c6 := Bool.eq_false_iff.mpr c6
      subst c6
      have H1 : (some 0) = some r := by rw [if_neg (show ¬ (false = true) by decide)] at H; exact H
      clear H
      have H := H1
      clear H1
      obtain rfl := Option.some.inj H
      go_enter Try.func15, Try.ntmps15
      go_wp2_with (first | ((with_reducible refine gate_dst (N := 6) rfl ?_); (try (refine gate_guard (by rfl) ?_; dsimp only)); refine Kd.R_lit (Kd.int .i64) _ 3 ?hg (N := 6) ?hd (xs := ([a0] : List Int)) (inner := [.int .i64 a0]) (ok := fun _ => True) (okp := fun _ => True) ?hr ?hp (fun _ hk => hk) trivial (Below.refl _ _) (Nat.le_refl _) (by simp) ?_; (case hd => rfl); (case hg => rfl); (case hr => first | (go_simp; done) | (go_simp; rfl)); (case hp => exact (Reps.one (show Kd.M (Kd.int .i64) _ _ _ a0 [.int .i64 a0] from rfl) (Reps.none _ _))); intro v103 w13 ho14 hb hg_ hnew_; clear hg_ hnew_; (first | rw [← Ny102.out] at ho14 | (simp only [Int.reduceToNat] at ho14; rw [← Ny102.out] at ho14)); have n0_ := Aside0.mk (Kd.R_lower ho14 (below_size (by repeat (first | (with_reducible first | exact HB.out | apply below_alloc | apply pw_below_drewN | apply below_drew1) | exact HB.out)))); have n1_ := Aside0.mk (below_step (by repeat (first | (with_reducible first | exact HB.out | apply below_alloc | apply pw_below_drewN | apply below_drew1) | exact HB.out)) hb); clear HB; have HO104 := n0_; have HB := n1_; clear n0_ n1_; clear hb ho14; obtain ⟨Ao15, co15, eo15⟩ := Kd.R_slice HO104.out; subst eo15) | ((with_reducible refine gate_callee (f := 29) rfl ?_); refine goesL_ (some 7) rfl rfl Try.func29 (by kernel_rfl) rfl #[.int .i64 0, .int .i64 1099511627776, .slice Ao15 y102.length co15] rfl (by (try simp only [List.map_toArray, List.map_cons, List.map_nil]); first | done | rfl | (simp only [List.length_drop, List.length_take]; rfl)) ?_; (with_reducible refine (stream_within_int.calls k 0 1099511627776 _ _ y102 true _ ?side1 ?side2 A3.out).mono ?_); (case side1 => repeat (first | exact (Kd.R_reads' HO104.out).2.2 | (with_reducible refine Kd.C_alloc ?_ _) | (with_reducible refine Kd.C_drewN ?_ _) | (with_reducible refine Kd.C_drew ?_))); (case side2 => exact (Kd.R_reads' HO104.out).2.1); rintro e w' ⟨rfl, ⟨nd, rfl⟩⟩; refine ⟨_, rfl, ?_⟩) | ((with_reducible refine gate_dst (N := 11) rfl ?_); (try (refine gate_guard (by rfl) ?_; dsimp only)); refine Kd.R_lit (Kd.int .i64) _ 3 ?hg (N := 11) ?hd (xs := ([a1] : List Int)) (inner := [.int .i64 a1]) (ok := fun _ => True) (okp := fun _ => True) ?hr ?hp (fun _ hk => hk) trivial (Below.refl _ _) (Nat.le_refl _) (by simp) ?_; (case hd => rfl); (case hg => rfl); (case hr => first | (go_simp; done) | (go_simp; rfl)); (case hp => exact (Reps.one (show Kd.M (Kd.int .i64) _ _ _ a1 [.int .i64 a1] from rfl) (Reps.none _ _))); intro v107 w16 ho17 hb hg_ hnew_; clear hg_ hnew_; (first | rw [← Ny106.out] at ho17 | (simp only [Int.reduceToNat] at ho17; rw [← Ny106.out] at ho17)); have n0_ := Aside0.mk (Kd.R_elder' (by (with_reducible repeat (first | apply Kd.R_alloc | apply Kd.R_drewN | apply Kd.R_drew)); exact HO104.out) (Kd.R_base ho17) hb); have n1_ := Aside0.mk (Kd.R_lower (Kd.R_new' ho17 (Kd.R_lt (by (with_reducible repeat (first | apply Kd.R_alloc | apply Kd.R_drewN | apply Kd.R_drew)); exact HO104.out))) (below_size (by repeat (first | (with_reducible first | exact HB.out | apply below_alloc | apply pw_below_drewN | apply below_drew1) | exact HB.out)))); have n2_ := Aside0.mk (below_step (by repeat (first | (with_reducible first | exact HB.out | apply below_alloc | apply pw_below_drewN | apply below_drew1) | exact HB.out)) hb); clear HO104; clear HB; have HO104 := n0_; have HO108 := n1_; have HB := n2_; clear n0_ n1_ n2_; clear hb ho17; obtain ⟨Ao18, co18, eo18⟩ := Kd.R_slice HO108.out; subst eo18) | (go_at_call 29; (with_reducible refine (stream_within_int.calls k 0 11 _ _ y106 false _ ?side1 ?side2 A5.out).mono ?_); (case side1 => repeat (first | exact (Kd.R_reads' HO108.out).2.2 | (with_reducible refine Kd.C_alloc ?_ _) | (with_reducible refine Kd.C_drewN ?_ _) | (with_reducible refine Kd.C_drew ?_))); (case side2 => exact (Kd.R_reads' HO108.out).2.1); rintro e w' ⟨rfl, ⟨nd, rfl⟩⟩))
      go_ret
      exact ⟨by first | rfl | (simp [errW_none, errW_some] <;> rfl) | (simp [*, errW_none, errW_some] <;> rfl), by repeat (first | (with_reducible first | exact HB.out | apply below_alloc | apply pw_below_drewN | apply below_drew1) | exact HB.out)⟩
  · replace c4 := Bool.eq_false_iff.mpr c4
    subst c4
    have H1 : (some 0) = some r := by rw [if_neg (show ¬ (false = true) by decide)] at H; exact H
    clear H
    have H := H1
    clear H1
    obtain rfl := Option.some.inj H
    go_enter Try.func15, Try.ntmps15
    go_wp2_with (first | ((with_reducible refine gate_dst (N := 6) rfl ?_); (try (refine gate_guard (by rfl) ?_; dsimp only)); refine Kd.R_lit (Kd.int .i64) _ 3 ?hg (N := 6) ?hd (xs := ([a0] : List Int)) (inner := [.int .i64 a0]) (ok := fun _ => True) (okp := fun _ => True) ?hr ?hp (fun _ hk => hk) trivial (Below.refl _ _) (Nat.le_refl _) (by simp) ?_; (case hd => rfl); (case hg => rfl); (case hr => first | (go_simp; done) | (go_simp; rfl)); (case hp => exact (Reps.one (show Kd.M (Kd.int .i64) _ _ _ a0 [.int .i64 a0] from rfl) (Reps.none _ _))); intro v103 w19 ho20 hb hg_ hnew_; clear hg_ hnew_; (first | rw [← Ny102.out] at ho20 | (simp only [Int.reduceToNat] at ho20; rw [← Ny102.out] at ho20)); have n0_ := Aside0.mk (Kd.R_lower ho20 (below_size (by repeat (first | (with_reducible first | exact HB.out | apply below_alloc | apply pw_below_drewN | apply below_drew1) | exact HB.out)))); have n1_ := Aside0.mk (below_step (by repeat (first | (with_reducible first | exact HB.out | apply below_alloc | apply pw_below_drewN | apply below_drew1) | exact HB.out)) hb); clear HB; have HO104 := n0_; have HB := n1_; clear n0_ n1_; clear hb ho20; obtain ⟨Ao21, co21, eo21⟩ := Kd.R_slice HO104.out; subst eo21) | ((with_reducible refine gate_callee (f := 29) rfl ?_); refine goesL_ (some 7) rfl rfl Try.func29 (by kernel_rfl) rfl #[.int .i64 0, .int .i64 1099511627776, .slice Ao21 y102.length co21] rfl (by (try simp only [List.map_toArray, List.map_cons, List.map_nil]); first | done | rfl | (simp only [List.length_drop, List.length_take]; rfl)) ?_; (with_reducible refine (stream_within_int.calls k 0 1099511627776 _ _ y102 false _ ?side1 ?side2 A3.out).mono ?_); (case side1 => repeat (first | exact (Kd.R_reads' HO104.out).2.2 | (with_reducible refine Kd.C_alloc ?_ _) | (with_reducible refine Kd.C_drewN ?_ _) | (with_reducible refine Kd.C_drew ?_))); (case side2 => exact (Kd.R_reads' HO104.out).2.1); rintro e w' ⟨rfl, ⟨nd, rfl⟩⟩; refine ⟨_, rfl, ?_⟩))
    go_ret
    exact ⟨by first | rfl | (simp [errW_none, errW_some] <;> rfl) | (simp [*, errW_none, errW_some] <;> rfl), by repeat (first | (with_reducible first | exact HB.out | apply below_alloc | apply pw_below_drewN | apply below_drew1) | exact HB.out)⟩

/-! ### stream_Check: function 10 -/
mutual
def stream_Check.j0 : Nat → Bool → Int → Int → Bool → List Int → List Int → Option (Int)
  | 0, _, _, _, _, _, _ => none
  | k + 1, x3, x111000, x111001, x111002, x111003, x111004 => if x3 = true then (some 2) else ((stream_within_int.f k 1 8 (([(x111003.length : Int)] : List Int))).bind fun t122 => (if t122 = true then (stream_Check.j1 k ((x111004.length : Int) != (x111003.length : Int)) x111000 x111001 x111002 x111003 x111004) else (stream_Check.j1 k true x111000 x111001 x111002 x111003 x111004)))
def stream_Check.j1 : Nat → Bool → Int → Int → Bool → List Int → List Int → Option (Int)
  | 0, _, _, _, _, _, _ => none
  | k + 1, x16, x111000, x111001, x111002, x111003, x111004 => if x16 = true then (some 3) else ((stream_within_int.f k (-16383) 16383 x111003).bind fun t123 => (if t123 = true then ((stream_within_int.f k 0 255 x111004).bind fun t124 => (if t124 = true then (some 0) else (some 2))) else (some 2)))
end
def stream_Check.f (k : Nat) (a0_0 : Int) (a0_1 : Int) (a0_2 : Bool) (l0_3 : List Int) (l0_4 : List Int) : Option (Int) := (stream_within_int.f k 0 999 (([a0_0] : List Int))).bind fun t114 => (if t114 = true then ((stream_within_int.f k 0 599 (([a0_1] : List Int))).bind fun t118 => (stream_Check.j0 k (!t118) a0_0 a0_1 a0_2 l0_3 l0_4)) else (stream_Check.j0 k true a0_0 a0_1 a0_2 l0_3 l0_4))
theorem stream_Check.mono_l : ∀ k, (∀ y0 y1 y2 y3 y4 y5, LeO (stream_Check.j0 k y0 y1 y2 y3 y4 y5) (stream_Check.j0 (k + 1) y0 y1 y2 y3 y4 y5)) ∧ (∀ y0 y1 y2 y3 y4 y5, LeO (stream_Check.j1 k y0 y1 y2 y3 y4 y5) (stream_Check.j1 (k + 1) y0 y1 y2 y3 y4 y5))
  | 0 => ⟨fun _ _ _ _ _ _ r h => by simp [stream_Check.j0] at h, fun _ _ _ _ _ _ r h => by simp [stream_Check.j1] at h⟩
  | k + 1 => by
    obtain ⟨ih0, ih1⟩ := stream_Check.mono_l k
    refine ⟨?_, ?_⟩
    · intro y0 y1 y2 y3 y4 y5
      unfold stream_Check.j0
      repeat' first
      | (with_reducible exact ih0 _ _ _ _ _ _)
      | (with_reducible exact ih1 _ _ _ _ _ _)
      | (with_reducible exact stream_within_int.mono _ _ _ _)
      | (with_reducible exact LeO.refl _)
      | (with_reducible exact LeO.none _)
      | (with_reducible refine LeO.ite ?_ ?_)
      | (with_reducible refine LeO.bind ?_ (fun _ => ?_))
      | exact ih0 _ _ _ _ _ _
      | exact ih1 _ _ _ _ _ _
      | exact stream_within_int.mono _ _ _ _
      | exact LeO.none _
      | refine LeO.ite ?_ ?_
      | refine LeO.bind ?_ (fun _ => ?_)
    · intro y0 y1 y2 y3 y4 y5
      unfold stream_Check.j1
      repeat' first
      | (with_reducible exact ih0 _ _ _ _ _ _)
      | (with_reducible exact ih1 _ _ _ _ _ _)
      | (with_reducible exact stream_within_int.mono _ _ _ _)
      | (with_reducible exact LeO.refl _)
      | (with_reducible exact LeO.none _)
      | (with_reducible refine LeO.ite ?_ ?_)
      | (with_reducible refine LeO.bind ?_ (fun _ => ?_))
      | exact ih0 _ _ _ _ _ _
      | exact ih1 _ _ _ _ _ _
      | exact stream_within_int.mono _ _ _ _
      | exact LeO.none _
      | refine LeO.ite ?_ ?_
      | refine LeO.bind ?_ (fun _ => ?_)
theorem stream_Check.mono : ∀ a0 a1 a2 a3 a4 k, LeO (stream_Check.f k a0 a1 a2 a3 a4) (stream_Check.f (k + 1) a0 a1 a2 a3 a4) := by
  intro a0 a1 a2 a3 a4 k
  obtain ⟨ih0, ih1⟩ := stream_Check.mono_l k
  unfold stream_Check.f
  repeat' first
      | (with_reducible exact ih0 _ _ _ _ _ _)
      | (with_reducible exact ih1 _ _ _ _ _ _)
      | (with_reducible exact stream_within_int.mono _ _ _ _)
      | (with_reducible exact LeO.refl _)
      | (with_reducible exact LeO.none _)
      | (with_reducible refine LeO.ite ?_ ?_)
      | (with_reducible refine LeO.bind ?_ (fun _ => ?_))
      | exact ih0 _ _ _ _ _ _
      | exact ih1 _ _ _ _ _ _
      | exact stream_within_int.mono _ _ _ _
      | exact LeO.none _
      | refine LeO.ite ?_ ?_
      | refine LeO.bind ?_ (fun _ => ?_)
set_option maxHeartbeats 8000000 in
set_option maxRecDepth 100000 in
theorem stream_Check.calls (k : Nat) (a0_0 : Int) (a0_1 : Int) (a0_2 : Bool) (A0_3 : Option Addr) (c0_3 : Nat) (l0_3 : List Int) (A0_4 : Option Addr) (c0_4 : Nat) (l0_4 : List Int) (r : Int) (w : World) (hr0_3 : Kd.C (Kd.int .i64) w A0_3 l0_3.length l0_3) (hc0_3 : l0_3.length ≤ c0_3) (hr0_4 : Kd.C (Kd.int .i64) w A0_4 l0_4.length l0_4) (hc0_4 : l0_4.length ≤ c0_4) (h : stream_Check.f k a0_0 a0_1 a0_2 l0_3 l0_4 = some r) :
    Calls Try.prog 10 #[.agg #[.int .i64 a0_0, .int .i64 a0_1, .bool a0_2, .slice A0_3 l0_3.length c0_3, .slice A0_4 l0_4.length c0_4]] w fun e w' => e = .returned (.int .i64 r) ∧ Below w.heap.size w w' := by
  have hu24 := Try.underlying24
  have HR0_3 := Aside0.mk hr0_3
  have HC0_3 := Aside0.mk hc0_3
  clear hr0_3 hc0_3
  have HR0_4 := Aside0.mk hr0_4
  have HC0_4 := Aside0.mk hc0_4
  clear hr0_4 hc0_4
  have HB := Aside0.mk (Below.refl w.heap.size w)
  have H : ((stream_within_int.f k 0 999 (([a0_0] : List Int))).bind fun t114 => (if t114 = true then ((stream_within_int.f k 0 599 (([a0_1] : List Int))).bind fun t118 => (stream_Check.j0 k (!t118) a0_0 a0_1 a0_2 l0_3 l0_4)) else (stream_Check.j0 k true a0_0 a0_1 a0_2 l0_3 l0_4))) = some r := h
  clear h
  have HC2 := Aside0.mk H
  clear H
  go_enter Try.func10, Try.ntmps10
  go_upto_region 1 with (first | ((with_reducible refine gate_dst (N := 1) rfl ?_); (try (refine gate_guard (by rfl) ?_; dsimp only)); refine box_event ?hg (N := 1) ?hd (cs := #[.int .i64 a0_0, .int .i64 a0_1, .bool a0_2, .slice A0_3 l0_3.length c0_3, .slice A0_4 l0_4.length c0_4]) (t := 24) ?hr ?_; (case hd => rfl); (case hg => rfl); (case hr => first | (go_simp; done) | (go_simp; rfl)); intro gb110 hg w3 hbox hb; have n0_ := Aside0.mk (below_step (by repeat (first | (with_reducible first | exact HB.out | apply below_alloc | apply pw_below_drewN | apply below_drew1) | exact HB.out)) hb); have n1_ := Aside0.mk (hbox); have n2_ := Aside0.mk ((by rw [hg]; exact (below_size (by repeat (first | (with_reducible first | exact HB.out | apply below_alloc | apply pw_below_drewN | apply below_drew1) | exact HB.out))) : w.heap.size ≤ gb110)); have n3_ := Aside0.mk ((by rw [hg]; exact (below_size (by repeat (first | (with_reducible first | exact HB.out | apply below_alloc | apply pw_below_drewN | apply below_drew1) | exact HB.out))) : w.heap.size ≤ gb110)); clear HB; have HB := n0_; have BK110 := n1_; have GW110 := n2_; have GE110 := n3_; clear n0_ n1_ n2_ n3_; clear hb hbox hg))
  (try simp only [Act.put, List.setIfInBounds_toArray, List.set_cons_zero, List.set_cons_succ])
  go_cut [3] (fun v3 wc => ∃ (kq : Nat) (x3_1 : Bool), v3 = .bool x3_1 ∧ Aside0 (stream_Check.j0 kq x3_1 a0_0 a0_1 a0_2 l0_3 l0_4 = some r) ∧ Aside0 (kq ≤ k) ∧ Aside0 (wc.heap[gb110]? = some (.cells #[.int .i64 a0_0, .int .i64 a0_1, .bool a0_2, (.slice A0_3 l0_3.length c0_3), (.slice A0_4 l0_4.length c0_4)] 24 (0, 0))) ∧ Aside0 (Below w.heap.size w wc))
  case first =>
    have H := HC2.out
    clear HC2
    obtain ⟨y111, hy111⟩ : ∃ y_ : List Int, y_ = (([a0_0] : List Int)) := ⟨_, rfl⟩
    replace H : ((stream_within_int.f k 0 999 y111).bind fun t114 => (if t114 = true then ((stream_within_int.f k 0 599 (([a0_1] : List Int))).bind fun t118 => (stream_Check.j0 k (!t118) a0_0 a0_1 a0_2 l0_3 l0_4)) else (stream_Check.j0 k true a0_0 a0_1 a0_2 l0_3 l0_4))) = some r := by first | (rw [hy111]; with_reducible exact H) | (have H2_ := (Option.bind_some _ _).symm.trans H; rw [hy111]; with_reducible exact H2_) | (have H2_ := (Option.bind_some _ _).symm.trans H; with_reducible exact H2_) | with_reducible exact H | (rw [hy111]; exact H) | exact H
    have Ny111 := Aside0.mk hy111
    clear hy111
    replace H := Option.bind_eq_some_iff.mp H
    obtain ⟨t114, A40, H⟩ := H
    replace H : (if t114 = true then ((stream_within_int.f k 0 599 (([a0_1] : List Int))).bind fun t118 => (stream_Check.j0 k (!t118) a0_0 a0_1 a0_2 l0_3 l0_4)) else (stream_Check.j0 k true a0_0 a0_1 a0_2 l0_3 l0_4)) = some r := H
    have A4 := Aside0.mk A40
    clear A40
    by_cases c5 : t114 = true
    · subst c5
      have H1 : ((stream_within_int.f k 0 599 (([a0_1] : List Int))).bind fun t118 => (stream_Check.j0 k (!t118) a0_0 a0_1 a0_2 l0_3 l0_4)) = some r := by rw [if_pos rfl] at H; exact H
      clear H
      have H := H1
      clear H1
      obtain ⟨y115, hy115⟩ : ∃ y_ : List Int, y_ = (([a0_1] : List Int)) := ⟨_, rfl⟩
      replace H : ((stream_within_int.f k 0 599 y115).bind fun t118 => (stream_Check.j0 k (!t118) a0_0 a0_1 a0_2 l0_3 l0_4)) = some r := by first | (rw [hy115]; with_reducible exact H) | (have H2_ := (Option.bind_some _ _).symm.trans H; rw [hy115]; with_reducible exact H2_) | (have H2_ := (Option.bind_some _ _).symm.trans H; with_reducible exact H2_) | with_reducible exact H | (rw [hy115]; exact H) | exact H
      have Ny115 := Aside0.mk hy115
      clear hy115
      replace H := Option.bind_eq_some_iff.mp H
      obtain ⟨t118, A60, H⟩ := H
      replace H : (stream_Check.j0 k (!t118) a0_0 a0_1 a0_2 l0_3 l0_4) = some r := H
      have A6 := Aside0.mk A60
      clear A60
      have H' := Aside0.mk H
      clear H
      have hcz7_0 : w3.cell? ⟨gb110, 0, none⟩ = some (.int .i64 a0_0) := (blk_cell BK110.out 0).trans rfl
      have hcz7_1 : w3.cell? ⟨gb110, 1, none⟩ = some (.int .i64 a0_1) := (blk_cell BK110.out 1).trans rfl
      have hcz7_2 : w3.cell? ⟨gb110, 2, none⟩ = some (.bool a0_2) := (blk_cell BK110.out 2).trans rfl
      have hcz7_3 : w3.cell? ⟨gb110, 3, none⟩ = some (.slice A0_3 l0_3.length c0_3) := (blk_cell BK110.out 3).trans rfl
      have hcz7_4 : w3.cell? ⟨gb110, 4, none⟩ = some (.slice A0_4 l0_4.length c0_4) := (blk_cell BK110.out 4).trans rfl
      have hfz7_0 := blk_frozen BK110.out 0
      have hfz7_1 := blk_frozen BK110.out 1
      have hfz7_2 := blk_frozen BK110.out 2
      have hfz7_3 := blk_frozen BK110.out 3
      have hfz7_4 := blk_frozen BK110.out 4
      go_wp2_with (first | ((with_reducible refine gate_dst (N := 6) rfl ?_); (try (refine gate_guard (by rfl) ?_; dsimp only)); refine Kd.R_lit (Kd.int .i64) _ 3 ?hg (N := 6) ?hd (xs := ([a0_0] : List Int)) (inner := [.int .i64 a0_0]) (ok := fun _ => True) (okp := fun _ => True) ?hr ?hp (fun _ hk => hk) trivial (Below.refl _ _) (Nat.le_refl _) (by simp) ?_; (case hd => rfl); (case hg => rfl); (case hr => first | (go_simp; done) | (go_simp; rfl)); (case hp => exact (Reps.one (show Kd.M (Kd.int .i64) _ _ _ a0_0 [.int .i64 a0_0] from rfl) (Reps.none _ _))); intro v112 w8 ho9 hb hg_ hnew_; clear hg_ hnew_; (first | rw [← Ny111.out] at ho9 | (simp only [Int.reduceToNat] at ho9; rw [← Ny111.out] at ho9)); have n0_ := Aside0.mk (Kd.R_lower ho9 (below_size (by repeat (first | (with_reducible first | exact HB.out | apply below_alloc | apply pw_below_drewN | apply below_drew1 | refine below_set ?_ GE110.out) | exact HB.out)))); have n1_ := Aside0.mk (blk_below (g := gb110) (o := .cells #[.int .i64 a0_0, .int .i64 a0_1, .bool a0_2, .slice A0_3 l0_3.length c0_3, .slice A0_4 l0_4.length c0_4] 24 (0, 0)) (by (with_reducible repeat (first | refine blk_drewN ?_ _ | refine blk_drew ?_ | refine blk_alloc ?_ _)); exact BK110.out) hb); have n2_ := Aside0.mk (below_step (by repeat (first | (with_reducible first | exact HB.out | apply below_alloc | apply pw_below_drewN | apply below_drew1 | refine below_set ?_ GE110.out) | exact HB.out)) hb); clear BK110; clear HB; have HO113 := n0_; have BK110 := n1_; have HB := n2_; clear n0_ n1_ n2_; clear hb ho9; obtain ⟨Ao10, co10, eo10⟩ := Kd.R_slice HO113.out; subst eo10) | ((with_reducible refine gate_callee (f := 29) rfl ?_); refine goesL_ (some 7) rfl rfl Try.func29 (by kernel_rfl) rfl #[.int .i64 0, .int .i64 999, .slice Ao10 y111.length co10] rfl (by (try simp only [List.map_toArray, List.map_cons, List.map_nil]); first | done | rfl | (simp only [List.length_drop, List.length_take]; rfl)) ?_; (with_reducible refine (stream_within_int.calls k 0 999 _ _ y111 true _ ?side1 ?side2 A4.out).mono ?_); (case side1 => repeat (first | exact (Kd.R_reads' HO113.out).2.2 | (with_reducible refine Kd.C_alloc ?_ _) | (with_reducible refine Kd.C_drewN ?_ _) | (with_reducible refine Kd.C_drew ?_))); (case side2 => exact (Kd.R_reads' HO113.out).2.1); rintro e w' ⟨rfl, ⟨nd, rfl⟩⟩; refine ⟨_, rfl, ?_⟩; have hcz11_0 : w8.cell? ⟨gb110, 0, none⟩ = some (.int .i64 a0_0) := (blk_cell BK110.out 0).trans rfl; have hcz11_1 : w8.cell? ⟨gb110, 1, none⟩ = some (.int .i64 a0_1) := (blk_cell BK110.out 1).trans rfl; have hcz11_2 : w8.cell? ⟨gb110, 2, none⟩ = some (.bool a0_2) := (blk_cell BK110.out 2).trans rfl; have hcz11_3 : w8.cell? ⟨gb110, 3, none⟩ = some (.slice A0_3 l0_3.length c0_3) := (blk_cell BK110.out 3).trans rfl; have hcz11_4 : w8.cell? ⟨gb110, 4, none⟩ = some (.slice A0_4 l0_4.length c0_4) := (blk_cell BK110.out 4).trans rfl; have hfz11_0 := blk_frozen BK110.out 0; have hfz11_1 := blk_frozen BK110.out 1; have hfz11_2 := blk_frozen BK110.out 2; have hfz11_3 := blk_frozen BK110.out 3; have hfz11_4 := blk_frozen BK110.out 4) | ((with_reducible refine gate_dst (N := 12) rfl ?_); (try (refine gate_guard (by rfl) ?_; dsimp only)); refine Kd.R_lit (Kd.int .i64) _ 3 ?hg (N := 12) ?hd (xs := ([a0_1] : List Int)) (inner := [.int .i64 a0_1]) (ok := fun _ => True) (okp := fun _ => True) ?hr ?hp (fun _ hk => hk) trivial (Below.refl _ _) (Nat.le_refl _) (by simp) ?_; (case hd => rfl); (case hg => rfl); (case hr => first | (go_simp; done) | (go_simp; rfl)); (case hp => exact (Reps.one (show Kd.M (Kd.int .i64) _ _ _ a0_1 [.int .i64 a0_1] from rfl) (Reps.none _ _))); intro v116 w12 ho13 hb hg_ hnew_; clear hg_ hnew_; (first | rw [← Ny115.out] at ho13 | (simp only [Int.reduceToNat] at ho13; rw [← Ny115.out] at ho13)); have n0_ := Aside0.mk (Kd.R_elder' (by (with_reducible repeat (first | apply Kd.R_alloc | apply Kd.R_drewN | apply Kd.R_drew)); exact HO113.out) (Kd.R_base ho13) hb); have n1_ := Aside0.mk (Kd.R_lower (Kd.R_new' ho13 (Kd.R_lt (by (with_reducible repeat (first | apply Kd.R_alloc | apply Kd.R_drewN | apply Kd.R_drew)); exact HO113.out))) (below_size (by repeat (first | (with_reducible first | exact HB.out | apply below_alloc | apply pw_below_drewN | apply below_drew1 | refine below_set ?_ GE110.out) | exact HB.out)))); have n2_ := Aside0.mk (blk_below (g := gb110) (o := .cells #[.int .i64 a0_0, .int .i64 a0_1, .bool a0_2, .slice A0_3 l0_3.length c0_3, .slice A0_4 l0_4.length c0_4] 24 (0, 0)) (by (with_reducible repeat (first | refine blk_drewN ?_ _ | refine blk_drew ?_ | refine blk_alloc ?_ _)); exact BK110.out) hb); have n3_ := Aside0.mk (below_step (by repeat (first | (with_reducible first | exact HB.out | apply below_alloc | apply pw_below_drewN | apply below_drew1 | refine below_set ?_ GE110.out) | exact HB.out)) hb); clear HO113; clear BK110; clear HB; have HO113 := n0_; have HO117 := n1_; have BK110 := n2_; have HB := n3_; clear n0_ n1_ n2_ n3_; clear hb ho13; obtain ⟨Ao14, co14, eo14⟩ := Kd.R_slice HO117.out; subst eo14) | (go_at_call 29; (with_reducible refine (stream_within_int.calls k 0 599 _ _ y115 t118 _ ?side1 ?side2 A6.out).mono ?_); (case side1 => repeat (first | exact (Kd.R_reads' HO117.out).2.2 | (with_reducible refine Kd.C_alloc ?_ _) | (with_reducible refine Kd.C_drewN ?_ _) | (with_reducible refine Kd.C_drew ?_))); (case side2 => exact (Kd.R_reads' HO117.out).2.1); rintro e w' ⟨rfl, ⟨nd, rfl⟩⟩))
      go_meet
      case rel => exact ⟨_, (!t118), (by first | rfl | (simp; done) | (simp [*]; done)), H', ⟨by first | omega | exact Nat.le_refl _⟩, ⟨by (with_reducible repeat (first | refine blk_drewN ?_ _ | refine blk_drew ?_ | refine blk_alloc ?_ _)); exact BK110.out⟩, ⟨by repeat (first | (with_reducible first | exact HB.out | apply below_alloc | apply pw_below_drewN | apply below_drew1 | refine below_set ?_ GE110.out) | exact HB.out)⟩⟩
    · replace c5 := Bool.eq_false_iff.mpr c5
      subst c5
      have H1 : (stream_Check.j0 k true a0_0 a0_1 a0_2 l0_3 l0_4) = some r := by rw [if_neg (show ¬ (false = true) by decide)] at H; exact H
      clear H
      have H := H1
      clear H1
      have H' := Aside0.mk H
      clear H
      have hcz15_0 : w3.cell? ⟨gb110, 0, none⟩ = some (.int .i64 a0_0) := (blk_cell BK110.out 0).trans rfl
      have hcz15_1 : w3.cell? ⟨gb110, 1, none⟩ = some (.int .i64 a0_1) := (blk_cell BK110.out 1).trans rfl
      have hcz15_2 : w3.cell? ⟨gb110, 2, none⟩ = some (.bool a0_2) := (blk_cell BK110.out 2).trans rfl
      have hcz15_3 : w3.cell? ⟨gb110, 3, none⟩ = some (.slice A0_3 l0_3.length c0_3) := (blk_cell BK110.out 3).trans rfl
      have hcz15_4 : w3.cell? ⟨gb110, 4, none⟩ = some (.slice A0_4 l0_4.length c0_4) := (blk_cell BK110.out 4).trans rfl
      have hfz15_0 := blk_frozen BK110.out 0
      have hfz15_1 := blk_frozen BK110.out 1
      have hfz15_2 := blk_frozen BK110.out 2
      have hfz15_3 := blk_frozen BK110.out 3
      have hfz15_4 := blk_frozen BK110.out 4
      go_wp2_with (first | ((with_reducible refine gate_dst (N := 6) rfl ?_); (try (refine gate_guard (by rfl) ?_; dsimp only)); refine Kd.R_lit (Kd.int .i64) _ 3 ?hg (N := 6) ?hd (xs := ([a0_0] : List Int)) (inner := [.int .i64 a0_0]) (ok := fun _ => True) (okp := fun _ => True) ?hr ?hp (fun _ hk => hk) trivial (Below.refl _ _) (Nat.le_refl _) (by simp) ?_; (case hd => rfl); (case hg => rfl); (case hr => first | (go_simp; done) | (go_simp; rfl)); (case hp => exact (Reps.one (show Kd.M (Kd.int .i64) _ _ _ a0_0 [.int .i64 a0_0] from rfl) (Reps.none _ _))); intro v112 w16 ho17 hb hg_ hnew_; clear hg_ hnew_; (first | rw [← Ny111.out] at ho17 | (simp only [Int.reduceToNat] at ho17; rw [← Ny111.out] at ho17)); have n0_ := Aside0.mk (Kd.R_lower ho17 (below_size (by repeat (first | (with_reducible first | exact HB.out | apply below_alloc | apply pw_below_drewN | apply below_drew1 | refine below_set ?_ GE110.out) | exact HB.out)))); have n1_ := Aside0.mk (blk_below (g := gb110) (o := .cells #[.int .i64 a0_0, .int .i64 a0_1, .bool a0_2, .slice A0_3 l0_3.length c0_3, .slice A0_4 l0_4.length c0_4] 24 (0, 0)) (by (with_reducible repeat (first | refine blk_drewN ?_ _ | refine blk_drew ?_ | refine blk_alloc ?_ _)); exact BK110.out) hb); have n2_ := Aside0.mk (below_step (by repeat (first | (with_reducible first | exact HB.out | apply below_alloc | apply pw_below_drewN | apply below_drew1 | refine below_set ?_ GE110.out) | exact HB.out)) hb); clear BK110; clear HB; have HO113 := n0_; have BK110 := n1_; have HB := n2_; clear n0_ n1_ n2_; clear hb ho17; obtain ⟨Ao18, co18, eo18⟩ := Kd.R_slice HO113.out; subst eo18) | ((with_reducible refine gate_callee (f := 29) rfl ?_); refine goesL_ (some 7) rfl rfl Try.func29 (by kernel_rfl) rfl #[.int .i64 0, .int .i64 999, .slice Ao18 y111.length co18] rfl (by (try simp only [List.map_toArray, List.map_cons, List.map_nil]); first | done | rfl | (simp only [List.length_drop, List.length_take]; rfl)) ?_; (with_reducible refine (stream_within_int.calls k 0 999 _ _ y111 false _ ?side1 ?side2 A4.out).mono ?_); (case side1 => repeat (first | exact (Kd.R_reads' HO113.out).2.2 | (with_reducible refine Kd.C_alloc ?_ _) | (with_reducible refine Kd.C_drewN ?_ _) | (with_reducible refine Kd.C_drew ?_))); (case side2 => exact (Kd.R_reads' HO113.out).2.1); rintro e w' ⟨rfl, ⟨nd, rfl⟩⟩; refine ⟨_, rfl, ?_⟩))
      go_meet
      case rel => exact ⟨_, (true), (by first | rfl | (simp; done) | (simp [*]; done)), H', ⟨by first | omega | exact Nat.le_refl _⟩, ⟨by (with_reducible repeat (first | refine blk_drewN ?_ _ | refine blk_drew ?_ | refine blk_alloc ?_ _)); exact BK110.out⟩, ⟨by repeat (first | (with_reducible first | exact HB.out | apply below_alloc | apply pw_below_drewN | apply below_drew1 | refine below_set ?_ GE110.out) | exact HB.out)⟩⟩
  case rest =>
    clear HC2
    try clear c1
    try clear c2
    try clear p2
    try clear c5
    try clear c10
    try clear hcz11_0
    try clear hcz11_1
    try clear hcz11_2
    try clear hcz11_3
    try clear hcz11_4
    try clear hcz15_0
    try clear hcz15_1
    try clear hcz15_2
    try clear hcz15_3
    try clear hcz15_4
    try clear hcz7_0
    try clear hcz7_1
    try clear hcz7_2
    try clear hcz7_3
    try clear hcz7_4
    try clear hfz11_0
    try clear hfz11_1
    try clear hfz11_2
    try clear hfz11_3
    try clear hfz11_4
    try clear hfz15_0
    try clear hfz15_1
    try clear hfz15_2
    try clear hfz15_3
    try clear hfz15_4
    try clear hfz7_0
    try clear hfz7_1
    try clear hfz7_2
    try clear hfz7_3
    try clear hfz7_4
    obtain ⟨kq, x3_1, rfl, HA, HJ1, BK110, HB⟩ := hcut
    cases kq with
    | zero => exact absurd HA.out (by simp [stream_Check.j0])
    | succ kj1 =>
      have H := HA.out
      clear HA
      simp only [stream_Check.j0] at H
      by_cases c19 : x3_1 = true
      · subst c19
        have H1 : (some 2) = some r := by rw [if_pos rfl] at H; exact H
        clear H
        have H := H1
        clear H1
        obtain rfl := Option.some.inj H
        go_wp2
        go_ret
        exact ⟨by first | rfl | (simp [errW_none, errW_some] <;> rfl) | (simp [*, errW_none, errW_some] <;> rfl), by repeat (first | (with_reducible first | exact HB.out | apply below_alloc | apply pw_below_drewN | apply below_drew1 | refine below_set ?_ GE110.out) | exact HB.out)⟩
      · replace c19 := Bool.eq_false_iff.mpr c19
        subst c19
        have H1 : ((stream_within_int.f kj1 1 8 (([(l0_3.length : Int)] : List Int))).bind fun t122 => (if t122 = true then (stream_Check.j1 kj1 ((l0_4.length : Int) != (l0_3.length : Int)) a0_0 a0_1 a0_2 l0_3 l0_4) else (stream_Check.j1 kj1 true a0_0 a0_1 a0_2 l0_3 l0_4))) = some r := by rw [if_neg (show ¬ (false = true) by decide)] at H; exact H
        clear H
        have H := H1
        clear H1
        have HC20 := Aside0.mk H
        clear H
        go_upto_region 3 with (fail)
        go_cut [16] (fun v16 wc => ∃ (kq : Nat) (x16_19 : Bool), v16 = .bool x16_19 ∧ Aside0 (stream_Check.j1 kq x16_19 a0_0 a0_1 a0_2 l0_3 l0_4 = some r) ∧ Aside0 (kq ≤ kj1) ∧ Aside0 (wc.heap[gb110]? = some (.cells #[.int .i64 a0_0, .int .i64 a0_1, .bool a0_2, (.slice A0_3 l0_3.length c0_3), (.slice A0_4 l0_4.length c0_4)] 24 (0, 0))) ∧ Aside0 (Below w.heap.size w wc))
        case first =>
          have H := HC20.out
          clear HC20
          obtain ⟨y119, hy119⟩ : ∃ y_ : List Int, y_ = (([(l0_3.length : Int)] : List Int)) := ⟨_, rfl⟩
          replace H : ((stream_within_int.f kj1 1 8 y119).bind fun t122 => (if t122 = true then (stream_Check.j1 kj1 ((l0_4.length : Int) != (l0_3.length : Int)) a0_0 a0_1 a0_2 l0_3 l0_4) else (stream_Check.j1 kj1 true a0_0 a0_1 a0_2 l0_3 l0_4))) = some r := by first | (rw [hy119]; with_reducible exact H) | (have H2_ := (Option.bind_some _ _).symm.trans H; rw [hy119]; with_reducible exact H2_) | (have H2_ := (Option.bind_some _ _).symm.trans H; with_reducible exact H2_) | with_reducible exact H | (rw [hy119]; exact H) | exact H
          have Ny119 := Aside0.mk hy119
          clear hy119
          replace H := Option.bind_eq_some_iff.mp H
          obtain ⟨t122, A210, H⟩ := H
          replace H : (if t122 = true then (stream_Check.j1 kj1 ((l0_4.length : Int) != (l0_3.length : Int)) a0_0 a0_1 a0_2 l0_3 l0_4) else (stream_Check.j1 kj1 true a0_0 a0_1 a0_2 l0_3 l0_4)) = some r := H
          have A21 := Aside0.mk A210
          clear A210
          by_cases c22 : t122 = true
          · subst c22
            have H1 : (stream_Check.j1 kj1 ((l0_4.length : Int) != (l0_3.length : Int)) a0_0 a0_1 a0_2 l0_3 l0_4) = some r := by rw [if_pos rfl] at H; exact H
            clear H
            have H := H1
            clear H1
            have H' := Aside0.mk H
            clear H
            have hcz23_0 : wc.cell? ⟨gb110, 0, none⟩ = some (.int .i64 a0_0) := (blk_cell BK110.out 0).trans rfl
            have hcz23_1 : wc.cell? ⟨gb110, 1, none⟩ = some (.int .i64 a0_1) := (blk_cell BK110.out 1).trans rfl
            have hcz23_2 : wc.cell? ⟨gb110, 2, none⟩ = some (.bool a0_2) := (blk_cell BK110.out 2).trans rfl
            have hcz23_3 : wc.cell? ⟨gb110, 3, none⟩ = some (.slice A0_3 l0_3.length c0_3) := (blk_cell BK110.out 3).trans rfl
            have hcz23_4 : wc.cell? ⟨gb110, 4, none⟩ = some (.slice A0_4 l0_4.length c0_4) := (blk_cell BK110.out 4).trans rfl
            have hfz23_0 := blk_frozen BK110.out 0
            have hfz23_1 := blk_frozen BK110.out 1
            have hfz23_2 := blk_frozen BK110.out 2
            have hfz23_3 := blk_frozen BK110.out 3
            have hfz23_4 := blk_frozen BK110.out 4
            go_wp2_with (first | ((with_reducible refine gate_dst (N := 20) rfl ?_); (try (refine gate_guard (by rfl) ?_; dsimp only)); refine Kd.R_lit (Kd.int .i64) _ 3 ?hg (N := 20) ?hd (xs := ([(l0_3.length : Int)] : List Int)) (inner := [.int .i64 (l0_3.length : Int)]) (ok := fun _ => True) (okp := fun _ => True) ?hr ?hp (fun _ hk => hk) trivial (Below.refl _ _) (Nat.le_refl _) (by simp) ?_; (case hd => rfl); (case hg => rfl); (case hr => first | (go_simp; done) | (go_simp; rfl)); (case hp => exact (Reps.one (show Kd.M (Kd.int .i64) _ _ _ (l0_3.length : Int) [.int .i64 (l0_3.length : Int)] from rfl) (Reps.none _ _))); intro v120 w24 ho25 hb hg_ hnew_; clear hg_ hnew_; (first | rw [← Ny119.out] at ho25 | (simp only [Int.reduceToNat] at ho25; rw [← Ny119.out] at ho25)); have n0_ := Aside0.mk (Kd.R_lower ho25 (below_size (by repeat (first | (with_reducible first | exact HB.out | apply below_alloc | apply pw_below_drewN | apply below_drew1 | refine below_set ?_ GE110.out) | exact HB.out)))); have n1_ := Aside0.mk (blk_below (g := gb110) (o := .cells #[.int .i64 a0_0, .int .i64 a0_1, .bool a0_2, .slice A0_3 l0_3.length c0_3, .slice A0_4 l0_4.length c0_4] 24 (0, 0)) (by (with_reducible repeat (first | refine blk_drewN ?_ _ | refine blk_drew ?_ | refine blk_alloc ?_ _)); exact BK110.out) hb); have n2_ := Aside0.mk (below_step (by repeat (first | (with_reducible first | exact HB.out | apply below_alloc | apply pw_below_drewN | apply below_drew1 | refine below_set ?_ GE110.out) | exact HB.out)) hb); clear BK110; clear HB; have HO121 := n0_; have BK110 := n1_; have HB := n2_; clear n0_ n1_ n2_; clear hb ho25; obtain ⟨Ao26, co26, eo26⟩ := Kd.R_slice HO121.out; subst eo26) | ((with_reducible refine gate_callee (f := 29) rfl ?_); refine goesL_ (some 21) rfl rfl Try.func29 (by kernel_rfl) rfl #[.int .i64 1, .int .i64 8, .slice Ao26 y119.length co26] rfl (by (try simp only [List.map_toArray, List.map_cons, List.map_nil]); first | done | rfl | (simp only [List.length_drop, List.length_take]; rfl)) ?_; (with_reducible refine (stream_within_int.calls kj1 1 8 _ _ y119 true _ ?side1 ?side2 A21.out).mono ?_); (case side1 => repeat (first | exact (Kd.R_reads' HO121.out).2.2 | (with_reducible refine Kd.C_alloc ?_ _) | (with_reducible refine Kd.C_drewN ?_ _) | (with_reducible refine Kd.C_drew ?_))); (case side2 => exact (Kd.R_reads' HO121.out).2.1); rintro e w' ⟨rfl, ⟨nd, rfl⟩⟩; refine ⟨_, rfl, ?_⟩; have hcz27_0 : w24.cell? ⟨gb110, 0, none⟩ = some (.int .i64 a0_0) := (blk_cell BK110.out 0).trans rfl; have hcz27_1 : w24.cell? ⟨gb110, 1, none⟩ = some (.int .i64 a0_1) := (blk_cell BK110.out 1).trans rfl; have hcz27_2 : w24.cell? ⟨gb110, 2, none⟩ = some (.bool a0_2) := (blk_cell BK110.out 2).trans rfl; have hcz27_3 : w24.cell? ⟨gb110, 3, none⟩ = some (.slice A0_3 l0_3.length c0_3) := (blk_cell BK110.out 3).trans rfl; have hcz27_4 : w24.cell? ⟨gb110, 4, none⟩ = some (.slice A0_4 l0_4.length c0_4) := (blk_cell BK110.out 4).trans rfl; have hfz27_0 := blk_frozen BK110.out 0; have hfz27_1 := blk_frozen BK110.out 1; have hfz27_2 := blk_frozen BK110.out 2; have hfz27_3 := blk_frozen BK110.out 3; have hfz27_4 := blk_frozen BK110.out 4))
            go_meet
            case rel => exact ⟨_, (((l0_4.length : Int) != (l0_3.length : Int))), (by first | rfl | (simp; done) | (simp [*]; done)), H', ⟨by have := HJ1.out; first | omega | exact Nat.le_refl _⟩, ⟨by (with_reducible repeat (first | refine blk_drewN ?_ _ | refine blk_drew ?_ | refine blk_alloc ?_ _)); exact BK110.out⟩, ⟨by repeat (first | (with_reducible first | exact HB.out | apply below_alloc | apply pw_below_drewN | apply below_drew1 | refine below_set ?_ GE110.out) | exact HB.out)⟩⟩
          · replace c22 := Bool.eq_false_iff.mpr c22
            subst c22
            have H1 : (stream_Check.j1 kj1 true a0_0 a0_1 a0_2 l0_3 l0_4) = some r := by rw [if_neg (show ¬ (false = true) by decide)] at H; exact H
            clear H
            have H := H1
            clear H1
            have H' := Aside0.mk H
            clear H
            have hcz28_0 : wc.cell? ⟨gb110, 0, none⟩ = some (.int .i64 a0_0) := (blk_cell BK110.out 0).trans rfl
            have hcz28_1 : wc.cell? ⟨gb110, 1, none⟩ = some (.int .i64 a0_1) := (blk_cell BK110.out 1).trans rfl
            have hcz28_2 : wc.cell? ⟨gb110, 2, none⟩ = some (.bool a0_2) := (blk_cell BK110.out 2).trans rfl
            have hcz28_3 : wc.cell? ⟨gb110, 3, none⟩ = some (.slice A0_3 l0_3.length c0_3) := (blk_cell BK110.out 3).trans rfl
            have hcz28_4 : wc.cell? ⟨gb110, 4, none⟩ = some (.slice A0_4 l0_4.length c0_4) := (blk_cell BK110.out 4).trans rfl
            have hfz28_0 := blk_frozen BK110.out 0
            have hfz28_1 := blk_frozen BK110.out 1
            have hfz28_2 := blk_frozen BK110.out 2
            have hfz28_3 := blk_frozen BK110.out 3
            have hfz28_4 := blk_frozen BK110.out 4
            go_wp2_with (first | ((with_reducible refine gate_dst (N := 20) rfl ?_); (try (refine gate_guard (by rfl) ?_; dsimp only)); refine Kd.R_lit (Kd.int .i64) _ 3 ?hg (N := 20) ?hd (xs := ([(l0_3.length : Int)] : List Int)) (inner := [.int .i64 (l0_3.length : Int)]) (ok := fun _ => True) (okp := fun _ => True) ?hr ?hp (fun _ hk => hk) trivial (Below.refl _ _) (Nat.le_refl _) (by simp) ?_; (case hd => rfl); (case hg => rfl); (case hr => first | (go_simp; done) | (go_simp; rfl)); (case hp => exact (Reps.one (show Kd.M (Kd.int .i64) _ _ _ (l0_3.length : Int) [.int .i64 (l0_3.length : Int)] from rfl) (Reps.none _ _))); intro v120 w29 ho30 hb hg_ hnew_; clear hg_ hnew_; (first | rw [← Ny119.out] at ho30 | (simp only [Int.reduceToNat] at ho30; rw [← Ny119.out] at ho30)); have n0_ := Aside0.mk (Kd.R_lower ho30 (below_size (by repeat (first | (with_reducible first | exact HB.out | apply below_alloc | apply pw_below_drewN | apply below_drew1 | refine below_set ?_ GE110.out) | exact HB.out)))); have n1_ := Aside0.mk (blk_below (g := gb110) (o := .cells #[.int .i64 a0_0, .int .i64 a0_1, .bool a0_2, .slice A0_3 l0_3.length c0_3, .slice A0_4 l0_4.length c0_4] 24 (0, 0)) (by (with_reducible repeat (first | refine blk_drewN ?_ _ | refine blk_drew ?_ | refine blk_alloc ?_ _)); exact BK110.out) hb); have n2_ := Aside0.mk (below_step (by repeat (first | (with_reducible first | exact HB.out | apply below_alloc | apply pw_below_drewN | apply below_drew1 | refine below_set ?_ GE110.out) | exact HB.out)) hb); clear BK110; clear HB; have HO121 := n0_; have BK110 := n1_; have HB := n2_; clear n0_ n1_ n2_; clear hb ho30; obtain ⟨Ao31, co31, eo31⟩ := Kd.R_slice HO121.out; subst eo31) | ((with_reducible refine gate_callee (f := 29) rfl ?_); refine goesL_ (some 21) rfl rfl Try.func29 (by kernel_rfl) rfl #[.int .i64 1, .int .i64 8, .slice Ao31 y119.length co31] rfl (by (try simp only [List.map_toArray, List.map_cons, List.map_nil]); first | done | rfl | (simp only [List.length_drop, List.length_take]; rfl)) ?_; (with_reducible refine (stream_within_int.calls kj1 1 8 _ _ y119 false _ ?side1 ?side2 A21.out).mono ?_); (case side1 => repeat (first | exact (Kd.R_reads' HO121.out).2.2 | (with_reducible refine Kd.C_alloc ?_ _) | (with_reducible refine Kd.C_drewN ?_ _) | (with_reducible refine Kd.C_drew ?_))); (case side2 => exact (Kd.R_reads' HO121.out).2.1); rintro e w' ⟨rfl, ⟨nd, rfl⟩⟩; refine ⟨_, rfl, ?_⟩))
            go_meet
            case rel => exact ⟨_, (true), (by first | rfl | (simp; done) | (simp [*]; done)), H', ⟨by have := HJ1.out; first | omega | exact Nat.le_refl _⟩, ⟨by (with_reducible repeat (first | refine blk_drewN ?_ _ | refine blk_drew ?_ | refine blk_alloc ?_ _)); exact BK110.out⟩, ⟨by repeat (first | (with_reducible first | exact HB.out | apply below_alloc | apply pw_below_drewN | apply below_drew1 | refine below_set ?_ GE110.out) | exact HB.out)⟩⟩
        case rest =>
          clear HC20
          try clear c1
          try clear c2
          try clear p2
          try clear c5
          try clear c10
          try clear c19
          try clear c22
          try clear c29
          try clear hcz11_0
          try clear hcz11_1
          try clear hcz11_2
          try clear hcz11_3
          try clear hcz11_4
          try clear hcz15_0
          try clear hcz15_1
          try clear hcz15_2
          try clear hcz15_3
          try clear hcz15_4
          try clear hcz23_0
          try clear hcz23_1
          try clear hcz23_2
          try clear hcz23_3
          try clear hcz23_4
          try clear hcz27_0
          try clear hcz27_1
          try clear hcz27_2
          try clear hcz27_3
          try clear hcz27_4
          try clear hcz28_0
          try clear hcz28_1
          try clear hcz28_2
          try clear hcz28_3
          try clear hcz28_4
          try clear hcz7_0
          try clear hcz7_1
          try clear hcz7_2
          try clear hcz7_3
          try clear hcz7_4
          try clear hfz11_0
          try clear hfz11_1
          try clear hfz11_2
          try clear hfz11_3
          try clear hfz11_4
          try clear hfz15_0
          try clear hfz15_1
          try clear hfz15_2
          try clear hfz15_3
          try clear hfz15_4
          try clear hfz23_0
          try clear hfz23_1
          try clear hfz23_2
          try clear hfz23_3
          try clear hfz23_4
          try clear hfz27_0
          try clear hfz27_1
          try clear hfz27_2
          try clear hfz27_3
          try clear hfz27_4
          try clear hfz28_0
          try clear hfz28_1
          try clear hfz28_2
          try clear hfz28_3
          try clear hfz28_4
          try clear hfz7_0
          try clear hfz7_1
          try clear hfz7_2
          try clear hfz7_3
          try clear hfz7_4
          try clear p2
          obtain ⟨kq, x16_19, rfl, HA, HJ19, BK110, HB⟩ := hcut
          cases kq with
          | zero => exact absurd HA.out (by simp [stream_Check.j1])
          | succ kj19 =>
            have H := HA.out
            clear HA
            simp only [stream_Check.j1] at H
            by_cases c32 : x16_19 = true
            · subst c32
              have H1 : (some 3) = some r := by rw [if_pos rfl] at H; exact H
              clear H
              have H := H1
              clear H1
              obtain rfl := Option.some.inj H
              go_wp2
              go_ret
              exact ⟨by first | rfl | (simp [errW_none, errW_some] <;> rfl) | (simp [*, errW_none, errW_some] <;> rfl), by repeat (first | (with_reducible first | exact HB.out | apply below_alloc | apply pw_below_drewN | apply below_drew1 | refine below_set ?_ GE110.out) | exact HB.out)⟩
            · replace c32 := Bool.eq_false_iff.mpr c32
              subst c32
              have H1 : ((stream_within_int.f kj19 (-16383) 16383 l0_3).bind fun t123 => (if t123 = true then ((stream_within_int.f kj19 0 255 l0_4).bind fun t124 => (if t124 = true then (some 0) else (some 2))) else (some 2))) = some r := by rw [if_neg (show ¬ (false = true) by decide)] at H; exact H
              clear H
              have H := H1
              clear H1
              replace H := Option.bind_eq_some_iff.mp H
              obtain ⟨t123, A330, H⟩ := H
              replace H : (if t123 = true then ((stream_within_int.f kj19 0 255 l0_4).bind fun t124 => (if t124 = true then (some 0) else (some 2))) else (some 2)) = some r := H
              have A33 := Aside0.mk A330
              clear A330
              by_cases c34 : t123 = true
              · subst c34
                have H1 : ((stream_within_int.f kj19 0 255 l0_4).bind fun t124 => (if t124 = true then (some 0) else (some 2))) = some r := by rw [if_pos rfl] at H; exact H
                clear H
                have H := H1
                clear H1
                replace H := Option.bind_eq_some_iff.mp H
                obtain ⟨t124, A350, H⟩ := H
                replace H : (if t124 = true then (some 0) else (some 2)) = some r := H
                have A35 := Aside0.mk A350
                clear A350
                by_cases c36 : t124 = true
                · subst c36
                  have H1 : (some 0) = some r := by rw [if_pos rfl] at H; exact H
                  clear H
                  have H := H1
                  clear H1
                  obtain rfl := Option.some.inj H
                  have hcz37_0 : wc.cell? ⟨gb110, 0, none⟩ = some (.int .i64 a0_0) := (blk_cell BK110.out 0).trans rfl
                  have hcz37_1 : wc.cell? ⟨gb110, 1, none⟩ = some (.int .i64 a0_1) := (blk_cell BK110.out 1).trans rfl
                  have hcz37_2 : wc.cell? ⟨gb110, 2, none⟩ = some (.bool a0_2) := (blk_cell BK110.out 2).trans rfl
                  have hcz37_3 : wc.cell? ⟨gb110, 3, none⟩ = some (.slice A0_3 l0_3.length c0_3) := (blk_cell BK110.out 3).trans rfl
                  have hcz37_4 : wc.cell? ⟨gb110, 4, none⟩ = some (.slice A0_4 l0_4.length c0_4) := (blk_cell BK110.out 4).trans rfl
                  have hfz37_0 := blk_frozen BK110.out 0
                  have hfz37_1 := blk_frozen BK110.out 1
                  have hfz37_2 := blk_frozen BK110.out 2
                  have hfz37_3 := blk_frozen BK110.out 3
                  have hfz37_4 := blk_frozen BK110.out 4
                  go_wp2_with (first | ((with_reducible refine gate_callee (f := 29) rfl ?_); refine goesL_ (some 35) rfl rfl Try.func29 (by kernel_rfl) rfl #[.int .i64 (-16383), .int .i64 16383, .slice A0_3 l0_3.length c0_3] rfl (by (try simp only [List.map_toArray, List.map_cons, List.map_nil]); first | done | rfl | (simp only [List.length_drop, List.length_take]; rfl)) ?_; (with_reducible refine (stream_within_int.calls kj19 (-16383) 16383 _ _ l0_3 true _ ?side1 ?side2 A33.out).mono ?_); (case side1 => repeat (first | exact (Kd.C_below HR0_3.out HB.out) | (with_reducible refine Kd.C_alloc ?_ _) | (with_reducible refine Kd.C_drewN ?_ _) | (with_reducible refine Kd.C_drew ?_))); (case side2 => exact HC0_3.out); rintro e w' ⟨rfl, ⟨nd, rfl⟩⟩; refine ⟨_, rfl, ?_⟩) | (go_at_call 29; (with_reducible refine (stream_within_int.calls kj19 0 255 _ _ l0_4 true _ ?side1 ?side2 A35.out).mono ?_); (case side1 => repeat (first | exact (Kd.C_below HR0_4.out (by repeat (first | (with_reducible first | exact HB.out | apply below_alloc | apply pw_below_drewN | apply below_drew1 | refine below_set ?_ GE110.out) | exact HB.out))) | (with_reducible refine Kd.C_alloc ?_ _) | (with_reducible refine Kd.C_drewN ?_ _) | (with_reducible refine Kd.C_drew ?_))); (case side2 => exact HC0_4.out); rintro e w' ⟨rfl, ⟨nd, rfl⟩⟩))
                  go_ret
                  exact ⟨by first | rfl | (simp [errW_none, errW_some] <;> rfl) | (simp [*, errW_none, errW_some] <;> rfl), by repeat (first | (with_reducible first | exact HB.out | apply below_alloc | apply pw_below_drewN | apply below_drew1 | refine below_set ?_ GE110.out) | exact HB.out)⟩
                · replace c36 := Bool.eq_false_iff.mpr c36
                  subst c36
                  have H1 : (some 2) = some r := by rw [if_neg (show ¬ (false = true) by decide)] at H; exact H
                  clear H
                  have H := H1
                  clear H1
                  obtain rfl := Option.some.inj H
                  have hcz38_0 : wc.cell? ⟨gb110, 0, none⟩ = some (.int .i64 a0_0) := (blk_cell BK110.out 0).trans rfl
                  have hcz38_1 : wc.cell? ⟨gb110, 1, none⟩ = some (.int .i64 a0_1) := (blk_cell BK110.out 1).trans rfl
                  have hcz38_2 : wc.cell? ⟨gb110, 2, none⟩ = some (.bool a0_2) := (blk_cell BK110.out 2).trans rfl
                  have hcz38_3 : wc.cell? ⟨gb110, 3, none⟩ = some (.slice A0_3 l0_3.length c0_3) := (blk_cell BK110.out 3).trans rfl
                  have hcz38_4 : wc.cell? ⟨gb110, 4, none⟩ = some (.slice A0_4 l0_4.length c0_4) := (blk_cell BK110.out 4).trans rfl
                  have hfz38_0 := blk_frozen BK110.out 0
                  have hfz38_1 := blk_frozen BK110.out 1
                  have hfz38_2 := blk_frozen BK110.out 2
                  have hfz38_3 := blk_frozen BK110.out 3
                  have hfz38_4 := blk_frozen BK110.out 4
                  go_wp2_with (first | ((with_reducible refine gate_callee (f := 29) rfl ?_); refine goesL_ (some 35) rfl rfl Try.func29 (by kernel_rfl) rfl #[.int .i64 (-16383), .int .i64 16383, .slice A0_3 l0_3.length c0_3] rfl (by (try simp only [List.map_toArray, List.map_cons, List.map_nil]); first | done | rfl | (simp only [List.length_drop, List.length_take]; rfl)) ?_; (with_reducible refine (stream_within_int.calls kj19 (-16383) 16383 _ _ l0_3 true _ ?side1 ?side2 A33.out).mono ?_); (case side1 => repeat (first | exact (Kd.C_below HR0_3.out HB.out) | (with_reducible refine Kd.C_alloc ?_ _) | (with_reducible refine Kd.C_drewN ?_ _) | (with_reducible refine Kd.C_drew ?_))); (case side2 => exact HC0_3.out); rintro e w' ⟨rfl, ⟨nd, rfl⟩⟩; refine ⟨_, rfl, ?_⟩) | (go_at_call 29; (with_reducible refine (stream_within_int.calls kj19 0 255 _ _ l0_4 false _ ?side1 ?side2 A35.out).mono ?_); (case side1 => repeat (first | exact (Kd.C_below HR0_4.out (by repeat (first | (with_reducible first | exact HB.out | apply below_alloc | apply pw_below_drewN | apply below_drew1 | refine below_set ?_ GE110.out) | exact HB.out))) | (with_reducible refine Kd.C_alloc ?_ _) | (with_reducible refine Kd.C_drewN ?_ _) | (with_reducible refine Kd.C_drew ?_))); (case side2 => exact HC0_4.out); rintro e w' ⟨rfl, ⟨nd, rfl⟩⟩))
                  go_ret
                  exact ⟨by first | rfl | (simp [errW_none, errW_some] <;> rfl) | (simp [*, errW_none, errW_some] <;> rfl), by repeat (first | (with_reducible first | exact HB.out | apply below_alloc | apply pw_below_drewN | apply below_drew1 | refine below_set ?_ GE110.out) | exact HB.out)⟩
              · replace c34 := Bool.eq_false_iff.mpr c34
                subst c34
                have H1 : (some 2) = some r := by rw [if_neg (show ¬ (false = true) by decide)] at H; exact H
                clear H
                have H := H1
                clear H1
                obtain rfl := Option.some.inj H
                have hcz39_0 : wc.cell? ⟨gb110, 0, none⟩ = some (.int .i64 a0_0) := (blk_cell BK110.out 0).trans rfl
                have hcz39_1 : wc.cell? ⟨gb110, 1, none⟩ = some (.int .i64 a0_1) := (blk_cell BK110.out 1).trans rfl
                have hcz39_2 : wc.cell? ⟨gb110, 2, none⟩ = some (.bool a0_2) := (blk_cell BK110.out 2).trans rfl
                have hcz39_3 : wc.cell? ⟨gb110, 3, none⟩ = some (.slice A0_3 l0_3.length c0_3) := (blk_cell BK110.out 3).trans rfl
                have hcz39_4 : wc.cell? ⟨gb110, 4, none⟩ = some (.slice A0_4 l0_4.length c0_4) := (blk_cell BK110.out 4).trans rfl
                have hfz39_0 := blk_frozen BK110.out 0
                have hfz39_1 := blk_frozen BK110.out 1
                have hfz39_2 := blk_frozen BK110.out 2
                have hfz39_3 := blk_frozen BK110.out 3
                have hfz39_4 := blk_frozen BK110.out 4
                go_wp2_with (first | ((with_reducible refine gate_callee (f := 29) rfl ?_); refine goesL_ (some 35) rfl rfl Try.func29 (by kernel_rfl) rfl #[.int .i64 (-16383), .int .i64 16383, .slice A0_3 l0_3.length c0_3] rfl (by (try simp only [List.map_toArray, List.map_cons, List.map_nil]); first | done | rfl | (simp only [List.length_drop, List.length_take]; rfl)) ?_; (with_reducible refine (stream_within_int.calls kj19 (-16383) 16383 _ _ l0_3 false _ ?side1 ?side2 A33.out).mono ?_); (case side1 => repeat (first | exact (Kd.C_below HR0_3.out HB.out) | (with_reducible refine Kd.C_alloc ?_ _) | (with_reducible refine Kd.C_drewN ?_ _) | (with_reducible refine Kd.C_drew ?_))); (case side2 => exact HC0_3.out); rintro e w' ⟨rfl, ⟨nd, rfl⟩⟩; refine ⟨_, rfl, ?_⟩))
                go_ret
                exact ⟨by first | rfl | (simp [errW_none, errW_some] <;> rfl) | (simp [*, errW_none, errW_some] <;> rfl), by repeat (first | (with_reducible first | exact HB.out | apply below_alloc | apply pw_below_drewN | apply below_drew1 | refine below_set ?_ GE110.out) | exact HB.out)⟩

end Go.Proofs.Ytlfphopfoicjpaa.PSpl
