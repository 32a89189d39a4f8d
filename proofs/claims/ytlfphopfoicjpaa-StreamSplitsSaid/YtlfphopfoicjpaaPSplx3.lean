import Derived.Test.YtlfphopfoicjpaaPSplx0
import Derived.Test.YtlfphopfoicjpaaPSplx1
import Derived.Test.YtlfphopfoicjpaaPSplx2
namespace Go.Proofs.Ytlfphopfoicjpaa.PSpl
open Go.RowKit Go.Proofs.YtlfphopfoicjpaaW.PrintWords Go.Proofs.YtlfphopfoicjpaaW.PrintLast Go.Proofs.YtlfphopfoicjpaaW.PrintMore
attribute [local go_sem] max2_int min2_int max_two min_two max_three min_three max_four min_four   -- for this text's walks alone
set_option linter.unusedVariables false
set_option linter.unusedSimpArgs false

/-! ### stream_Split: function 22 -/
mutual
def stream_Split.j0 : Nat → Int → Int → Bool → List (List Int) → Bool → Option ((List (S24)) × Int)
  | 0, _, _, _, _, _ => none
  | k + 1, x0, x1, x2, x3, x30 => if x30 = true then (some (([] : List (S24)), 3)) else (stream_Split.l0 k x0 x1 x2 x3 ([] : List (S24)) 0)
def stream_Split.l0 : Nat → Int → Int → Bool → List (List Int) → List (S24) → Int → Option ((List (S24)) × Int)
  | 0, _, _, _, _, _, _ => none
  | k + 1, x0, x1, x2, x3, x11, x31 => if x31 < 12 then ((stream_Count.f k x1 x31).bind fun t169 => (if 0 ≤ (x3.length : Int) then (if ((x3.length : Int) : Int).toNat ≤ 35184372088832 then (stream_Split.l1 k x0 x1 x2 x3 x11 x31 x31 x3 (x3.length : Int) 0 x0 t169 x2 ([] : List Int) (List.replicate ((x3.length : Int) : Int).toNat 0)) else (none)) else (none))) else (some (x11, 0))
def stream_Split.l1 : Nat → Int → Int → Bool → List (List Int) → List (S24) → Int → Int → List (List Int) → Int → Int → Int → Int → Bool → List Int → List Int → Option ((List (S24)) × Int)
  | 0, _, _, _, _, _, _, _, _, _, _, _, _, _, _, _ => none
  | k + 1, x0, x1, x2, x3, x11, x12, x31, x43, x44, x45, x174000, x174001, x174002, x174003, x174004 => if x45 < x44 then (if 0 ≤ x45 then (if x45 < (x43.length : Int) then (if 0 ≤ x12 then (if x12 < ((rd_L2 x43 x45).length : Int) then (if x174003.length < 17592186044416 then (stream_Split.l1 k x0 x1 x2 x3 x11 x12 x31 x43 x44 (wrap64 (x45 + 1)) x174000 x174001 x174002 (x174003 ++ [rd (rd_L2 x43 x45) x12]) x174004) else (none)) else (none)) else (none)) else (none)) else (none)) else ((stream_Check.f k x174000 x174001 x174002 x174003 x174004).bind fun t179 => (if t179 = 0 then (if x11.length < 1954687338268 then (stream_Split.l0 k x0 x1 x2 x3 (x11 ++ [(⟨x174000, x174001, x174002, x174003, x174004⟩ : S24)]) (wrap64 (x31 + 1))) else (none)) else (some (([] : List (S24)), t179))))
end
def stream_Split.f (k : Nat) (a0 : Int) (a1 : Int) (a2 : Bool) (l3 : List (List Int)) : Option ((List (S24)) × Int) := (stream_within_int.f k 0 1099511627776 (([a1] : List Int))).bind fun t163 => (if t163 = true then ((stream_within_int.f k 1 8 (([(l3.length : Int)] : List Int))).bind fun t167 => (if t167 = true then ((slices_ContainsFunc_int_int.f k l3 77777777).bind fun t168 => (stream_Split.j0 k a0 a1 a2 l3 t168)) else (stream_Split.j0 k a0 a1 a2 l3 true))) else (some (([] : List (S24)), 1)))
theorem stream_Split.mono_l : ∀ k, (∀ y0 y1 y2 y3 y4, LeO (stream_Split.j0 k y0 y1 y2 y3 y4) (stream_Split.j0 (k + 1) y0 y1 y2 y3 y4)) ∧ (∀ y0 y1 y2 y3 y4 y5, LeO (stream_Split.l0 k y0 y1 y2 y3 y4 y5) (stream_Split.l0 (k + 1) y0 y1 y2 y3 y4 y5)) ∧ (∀ y0 y1 y2 y3 y4 y5 y6 y7 y8 y9 y10 y11 y12 y13 y14, LeO (stream_Split.l1 k y0 y1 y2 y3 y4 y5 y6 y7 y8 y9 y10 y11 y12 y13 y14) (stream_Split.l1 (k + 1) y0 y1 y2 y3 y4 y5 y6 y7 y8 y9 y10 y11 y12 y13 y14))
  | 0 => ⟨fun _ _ _ _ _ r h => by simp [stream_Split.j0] at h, fun _ _ _ _ _ _ r h => by simp [stream_Split.l0] at h, fun _ _ _ _ _ _ _ _ _ _ _ _ _ _ _ r h => by simp [stream_Split.l1] at h⟩
  | k + 1 => by
    obtain ⟨ih0, ih1, ih2⟩ := stream_Split.mono_l k
    refine ⟨?_, ?_, ?_⟩
    · intro y0 y1 y2 y3 y4
      unfold stream_Split.j0
      repeat' first
      | (with_reducible exact ih0 _ _ _ _ _)
      | (with_reducible exact ih1 _ _ _ _ _ _)
      | (with_reducible exact ih2 _ _ _ _ _ _ _ _ _ _ _ _ _ _ _)
      | (with_reducible exact slices_ContainsFunc_int_int.mono _ _ _)
      | (with_reducible exact stream_Check.mono _ _ _ _ _ _)
      | (with_reducible exact stream_Count.mono _ _ _)
      | (with_reducible exact stream_within_int.mono _ _ _ _)
      | (with_reducible exact LeO.refl _)
      | (with_reducible exact LeO.none _)
      | (with_reducible refine LeO.ite ?_ ?_)
      | (with_reducible refine LeO.bind ?_ (fun _ => ?_))
      | exact ih0 _ _ _ _ _
      | exact ih1 _ _ _ _ _ _
      | exact ih2 _ _ _ _ _ _ _ _ _ _ _ _ _ _ _
      | exact slices_ContainsFunc_int_int.mono _ _ _
      | exact stream_Check.mono _ _ _ _ _ _
      | exact stream_Count.mono _ _ _
      | exact stream_within_int.mono _ _ _ _
      | exact LeO.none _
      | refine LeO.ite ?_ ?_
      | refine LeO.bind ?_ (fun _ => ?_)
    · intro y0 y1 y2 y3 y4 y5
      unfold stream_Split.l0
      repeat' first
      | (with_reducible exact ih0 _ _ _ _ _)
      | (with_reducible exact ih1 _ _ _ _ _ _)
      | (with_reducible exact ih2 _ _ _ _ _ _ _ _ _ _ _ _ _ _ _)
      | (with_reducible exact slices_ContainsFunc_int_int.mono _ _ _)
      | (with_reducible exact stream_Check.mono _ _ _ _ _ _)
      | (with_reducible exact stream_Count.mono _ _ _)
      | (with_reducible exact stream_within_int.mono _ _ _ _)
      | (with_reducible exact LeO.refl _)
      | (with_reducible exact LeO.none _)
      | (with_reducible refine LeO.ite ?_ ?_)
      | (with_reducible refine LeO.bind ?_ (fun _ => ?_))
      | exact ih0 _ _ _ _ _
      | exact ih1 _ _ _ _ _ _
      | exact ih2 _ _ _ _ _ _ _ _ _ _ _ _ _ _ _
      | exact slices_ContainsFunc_int_int.mono _ _ _
      | exact stream_Check.mono _ _ _ _ _ _
      | exact stream_Count.mono _ _ _
      | exact stream_within_int.mono _ _ _ _
      | exact LeO.none _
      | refine LeO.ite ?_ ?_
      | refine LeO.bind ?_ (fun _ => ?_)
    · intro y0 y1 y2 y3 y4 y5 y6 y7 y8 y9 y10 y11 y12 y13 y14
      unfold stream_Split.l1
      repeat' first
      | (with_reducible exact ih0 _ _ _ _ _)
      | (with_reducible exact ih1 _ _ _ _ _ _)
      | (with_reducible exact ih2 _ _ _ _ _ _ _ _ _ _ _ _ _ _ _)
      | (with_reducible exact slices_ContainsFunc_int_int.mono _ _ _)
      | (with_reducible exact stream_Check.mono _ _ _ _ _ _)
      | (with_reducible exact stream_Count.mono _ _ _)
      | (with_reducible exact stream_within_int.mono _ _ _ _)
      | (with_reducible exact LeO.refl _)
      | (with_reducible exact LeO.none _)
      | (with_reducible refine LeO.ite ?_ ?_)
      | (with_reducible refine LeO.bind ?_ (fun _ => ?_))
      | exact ih0 _ _ _ _ _
      | exact ih1 _ _ _ _ _ _
      | exact ih2 _ _ _ _ _ _ _ _ _ _ _ _ _ _ _
      | exact slices_ContainsFunc_int_int.mono _ _ _
      | exact stream_Check.mono _ _ _ _ _ _
      | exact stream_Count.mono _ _ _
      | exact stream_within_int.mono _ _ _ _
      | exact LeO.none _
      | refine LeO.ite ?_ ?_
      | refine LeO.bind ?_ (fun _ => ?_)
theorem stream_Split.mono : ∀ a0 a1 a2 a3 k, LeO (stream_Split.f k a0 a1 a2 a3) (stream_Split.f (k + 1) a0 a1 a2 a3) := by
  intro a0 a1 a2 a3 k
  obtain ⟨ih0, ih1, ih2⟩ := stream_Split.mono_l k
  unfold stream_Split.f
  repeat' first
      | (with_reducible exact ih0 _ _ _ _ _)
      | (with_reducible exact ih1 _ _ _ _ _ _)
      | (with_reducible exact ih2 _ _ _ _ _ _ _ _ _ _ _ _ _ _ _)
      | (with_reducible exact slices_ContainsFunc_int_int.mono _ _ _)
      | (with_reducible exact stream_Check.mono _ _ _ _ _ _)
      | (with_reducible exact stream_Count.mono _ _ _)
      | (with_reducible exact stream_within_int.mono _ _ _ _)
      | (with_reducible exact LeO.refl _)
      | (with_reducible exact LeO.none _)
      | (with_reducible refine LeO.ite ?_ ?_)
      | (with_reducible refine LeO.bind ?_ (fun _ => ?_))
      | exact ih0 _ _ _ _ _
      | exact ih1 _ _ _ _ _ _
      | exact ih2 _ _ _ _ _ _ _ _ _ _ _ _ _ _ _
      | exact slices_ContainsFunc_int_int.mono _ _ _
      | exact stream_Check.mono _ _ _ _ _ _
      | exact stream_Count.mono _ _ _
      | exact stream_within_int.mono _ _ _ _
      | exact LeO.none _
      | refine LeO.ite ?_ ?_
      | refine LeO.bind ?_ (fun _ => ?_)
def stream_Split.T10 : Bool × List (List Nat × List Nat) := (true, [([], []), ([], []), ([], []), ([1, 2], [1, 2]), ([], []), ([], []), ([5], [5]), ([6, 6], [6]), ([0, 3, 4, 7], [0, 3, 4, 7]), ([], []), ([9, 8, 3, 0, 1, 2, 3, 4, 5, 6, 7, 8, 9], [8, 9])])
def stream_Split.B10 : List Nat := [0, 0, 0, 6, 0, 0, 32, 96, 255, 0, 1023]
theorem stream_Split.tab10 : rtab .any (opsOf Try.f22 10) = stream_Split.T10 := by kernel_rfl
theorem stream_Split.bits10 : waitsOk stream_Split.T10.2 stream_Split.B10 = true := by kernel_rfl
def stream_Split.T14 : Bool × List (List Nat × List Nat) := (true, [([], []), ([0], [0]), ([], []), ([], []), ([2, 3], [2, 3]), ([4], [4]), ([5], [5]), ([1, 6], [1, 6]), ([0, 1, 2, 3, 4, 5, 6, 7], []), ([8, 7, 7, 0, 1, 2, 3, 4, 5, 6, 7], [7, 8])])
def stream_Split.B14 : List Nat := [0, 1, 0, 0, 12, 28, 60, 127, 255, 511]
theorem stream_Split.tab14 : rtab .any (opsOf Try.f22 14) = stream_Split.T14 := by kernel_rfl
theorem stream_Split.bits14 : waitsOk stream_Split.T14.2 stream_Split.B14 = true := by kernel_rfl
set_option maxHeartbeats 8000000 in
set_option maxRecDepth 100000 in
theorem stream_Split.calls (k : Nat) (a0 : Int) (a1 : Int) (a2 : Bool) (A3 : Option Addr) (c3 : Nat) (l3 : List (List Int)) (r1 : List (S24)) (r2 : Int) (w : World) (hr3 : Kd.C (Kd.slice 3 (Kd.int .i64)) w A3 l3.length l3) (hc3 : l3.length ≤ c3) (h : stream_Split.f k a0 a1 a2 l3 = some (r1, r2)) :
    Calls Try.prog 22 #[.int .i64 a0, .int .i64 a1, .bool a2, .slice A3 l3.length c3] w fun e w' => ∃ v0_ : Value, e = .returned (.tuple #[v0_, .int .i64 r2]) ∧ Kd.S k24 24 w' w.heap.size (fun _ => True) v0_ r1 ∧ Below w.heap.size w w' := by
  have hu24 := Try.underlying24
  have HR3 := Aside0.mk hr3
  have HC3 := Aside0.mk hc3
  clear hr3 hc3
  have HB := Aside0.mk (Below.refl w.heap.size w)
  have H : ((stream_within_int.f k 0 1099511627776 (([a1] : List Int))).bind fun t163 => (if t163 = true then ((stream_within_int.f k 1 8 (([(l3.length : Int)] : List Int))).bind fun t167 => (if t167 = true then ((slices_ContainsFunc_int_int.f k l3 77777777).bind fun t168 => (stream_Split.j0 k a0 a1 a2 l3 t168)) else (stream_Split.j0 k a0 a1 a2 l3 true))) else (some (([] : List (S24)), 1)))) = some (r1, r2) := h
  clear h
  obtain ⟨y160, hy160⟩ : ∃ y_ : List Int, y_ = (([a1] : List Int)) := ⟨_, rfl⟩
  replace H : ((stream_within_int.f k 0 1099511627776 y160).bind fun t163 => (if t163 = true then ((stream_within_int.f k 1 8 (([(l3.length : Int)] : List Int))).bind fun t167 => (if t167 = true then ((slices_ContainsFunc_int_int.f k l3 77777777).bind fun t168 => (stream_Split.j0 k a0 a1 a2 l3 t168)) else (stream_Split.j0 k a0 a1 a2 l3 true))) else (some (([] : List (S24)), 1)))) = some (r1, r2) := by first | (rw [hy160]; with_reducible exact H) | (have H2_ := (Option.bind_some _ _).symm.trans H; rw [hy160]; with_reducible exact H2_) | (have H2_ := (Option.bind_some _ _).symm.trans H; with_reducible exact H2_) | with_reducible exact H | (rw [hy160]; exact H) | exact H
  have Ny160 := Aside0.mk hy160
  clear hy160
  replace H := Option.bind_eq_some_iff.mp H
  obtain ⟨t163, A50, H⟩ := H
  replace H : (if t163 = true then ((stream_within_int.f k 1 8 (([(l3.length : Int)] : List Int))).bind fun t167 => (if t167 = true then ((slices_ContainsFunc_int_int.f k l3 77777777).bind fun t168 => (stream_Split.j0 k a0 a1 a2 l3 t168)) else (stream_Split.j0 k a0 a1 a2 l3 true))) else (some (([] : List (S24)), 1))) = some (r1, r2) := H
  have A5 := Aside0.mk A50
  clear A50
  by_cases c6 : t163 = true
  · subst c6
    have H1 : ((stream_within_int.f k 1 8 (([(l3.length : Int)] : List Int))).bind fun t167 => (if t167 = true then ((slices_ContainsFunc_int_int.f k l3 77777777).bind fun t168 => (stream_Split.j0 k a0 a1 a2 l3 t168)) else (stream_Split.j0 k a0 a1 a2 l3 true))) = some (r1, r2) := by rw [if_pos rfl] at H; exact H
    clear H
    have H := H1
    clear H1
    have HC7 := Aside0.mk H
    clear H
    go_enter Try.func22, Try.ntmps22
    go_upto_region 4 with (first | ((with_reducible refine gate_dst (N := 18) rfl ?_); refine Kd.R_lit (Kd.int .i64) _ 3 ?hg (N := 18) ?hd (xs := ([a1] : List Int)) (inner := [.int .i64 a1]) (ok := fun _ => True) (okp := fun _ => True) ?hr ?hp (fun _ hk => hk) trivial (Below.refl _ _) (Nat.le_refl _) (by simp) ?_; (case hd => rfl); (case hg => rfl); (case hr => first | (go_simp; done) | (go_simp; rfl)); (case hp => exact (Reps.one (show Kd.M (Kd.int .i64) _ _ _ a1 [.int .i64 a1] from rfl) (Reps.none _ _))); intro v161 w8 ho9 hb hg_ hnew_; clear hg_ hnew_; (first | rw [← Ny160.out] at ho9 | (simp only [Int.reduceToNat] at ho9; rw [← Ny160.out] at ho9)); have n0_ := Aside0.mk (Kd.R_lower ho9 (below_size (by repeat (first | (with_reducible first | exact HB.out | apply below_alloc | apply pw_below_drewN | apply below_drew1) | exact HB.out)))); have n1_ := Aside0.mk (below_step (by repeat (first | (with_reducible first | exact HB.out | apply below_alloc | apply pw_below_drewN | apply below_drew1) | exact HB.out)) hb); clear HB; have HO162 := n0_; have HB := n1_; clear n0_ n1_; clear hb ho9; obtain ⟨Ao10, co10, eo10⟩ := Kd.R_slice HO162.out; subst eo10) | ((with_reducible refine gate_callee (f := 29) rfl ?_); refine goesL_ (some 19) rfl rfl Try.func29 (by kernel_rfl) rfl #[.int .i64 0, .int .i64 1099511627776, .slice Ao10 y160.length co10] rfl (by (try simp only [List.map_toArray, List.map_cons, List.map_nil]); first | done | rfl | (simp only [List.length_drop, List.length_take]; rfl)) ?_; (with_reducible refine (stream_within_int.calls k 0 1099511627776 _ _ y160 true _ ?side1 ?side2 A5.out).mono ?_); (case side1 => repeat (first | exact (Kd.R_reads' HO162.out).2.2 | (with_reducible refine Kd.C_alloc ?_ _) | (with_reducible refine Kd.C_drewN ?_ _) | (with_reducible refine Kd.C_drew ?_))); (case side2 => exact (Kd.R_reads' HO162.out).2.1); rintro e w' ⟨rfl, ⟨nd, rfl⟩⟩; refine ⟨_, rfl, ?_⟩))
    (try simp only [Act.put, List.setIfInBounds_toArray, List.set_cons_zero, List.set_cons_succ])
    go_cut [30] (fun v30 wc => ∃ (kq : Nat) (x30_6 : Bool), v30 = .bool x30_6 ∧ Aside0 (stream_Split.j0 kq a0 a1 a2 l3 x30_6 = some (r1, r2)) ∧ Aside0 (kq ≤ k) ∧ Aside0 (Below w.heap.size w wc))
    case first =>
      have H := HC7.out
      clear HC7
      obtain ⟨y164, hy164⟩ : ∃ y_ : List Int, y_ = (([(l3.length : Int)] : List Int)) := ⟨_, rfl⟩
      replace H : ((stream_within_int.f k 1 8 y164).bind fun t167 => (if t167 = true then ((slices_ContainsFunc_int_int.f k l3 77777777).bind fun t168 => (stream_Split.j0 k a0 a1 a2 l3 t168)) else (stream_Split.j0 k a0 a1 a2 l3 true))) = some (r1, r2) := by first | (rw [hy164]; with_reducible exact H) | (have H2_ := (Option.bind_some _ _).symm.trans H; rw [hy164]; with_reducible exact H2_) | (have H2_ := (Option.bind_some _ _).symm.trans H; with_reducible exact H2_) | with_reducible exact H | (rw [hy164]; exact H) | exact H
      have Ny164 := Aside0.mk hy164
      clear hy164
      replace H := Option.bind_eq_some_iff.mp H
      obtain ⟨t167, A110, H⟩ := H
      replace H : (if t167 = true then ((slices_ContainsFunc_int_int.f k l3 77777777).bind fun t168 => (stream_Split.j0 k a0 a1 a2 l3 t168)) else (stream_Split.j0 k a0 a1 a2 l3 true)) = some (r1, r2) := H
      have A11 := Aside0.mk A110
      clear A110
      by_cases c12 : t167 = true
      · subst c12
        have H1 : ((slices_ContainsFunc_int_int.f k l3 77777777).bind fun t168 => (stream_Split.j0 k a0 a1 a2 l3 t168)) = some (r1, r2) := by rw [if_pos rfl] at H; exact H
        clear H
        have H := H1
        clear H1
        replace H := Option.bind_eq_some_iff.mp H
        obtain ⟨t168, A130, H⟩ := H
        replace H : (stream_Split.j0 k a0 a1 a2 l3 t168) = some (r1, r2) := H
        have A13 := Aside0.mk A130
        clear A130
        have H' := Aside0.mk H
        clear H
        go_wp2_with (first | ((with_reducible refine gate_dst (N := 23) rfl ?_); refine Kd.R_lit (Kd.int .i64) _ 3 ?hg (N := 23) ?hd (xs := ([(l3.length : Int)] : List Int)) (inner := [.int .i64 (l3.length : Int)]) (ok := fun _ => True) (okp := fun _ => True) ?hr ?hp (fun _ hk => hk) trivial (Below.refl _ _) (Nat.le_refl _) (by simp) ?_; (case hd => rfl); (case hg => rfl); (case hr => first | (go_simp; done) | (go_simp; rfl)); (case hp => exact (Reps.one (show Kd.M (Kd.int .i64) _ _ _ (l3.length : Int) [.int .i64 (l3.length : Int)] from rfl) (Reps.none _ _))); intro v165 w14 ho15 hb hg_ hnew_; clear hg_ hnew_; (first | rw [← Ny164.out] at ho15 | (simp only [Int.reduceToNat] at ho15; rw [← Ny164.out] at ho15)); have n0_ := Aside0.mk (Kd.R_elder' (by (with_reducible repeat (first | apply Kd.R_alloc | apply Kd.R_drewN | apply Kd.R_drew)); exact HO162.out) (Kd.R_base ho15) hb); have n1_ := Aside0.mk (Kd.R_lower (Kd.R_new' ho15 (Kd.R_lt (by (with_reducible repeat (first | apply Kd.R_alloc | apply Kd.R_drewN | apply Kd.R_drew)); exact HO162.out))) (below_size (by repeat (first | (with_reducible first | exact HB.out | apply below_alloc | apply pw_below_drewN | apply below_drew1) | exact HB.out)))); have n2_ := Aside0.mk (below_step (by repeat (first | (with_reducible first | exact HB.out | apply below_alloc | apply pw_below_drewN | apply below_drew1) | exact HB.out)) hb); clear HO162; clear HB; have HO162 := n0_; have HO166 := n1_; have HB := n2_; clear n0_ n1_ n2_; clear hb ho15; obtain ⟨Ao16, co16, eo16⟩ := Kd.R_slice HO166.out; subst eo16) | ((with_reducible refine gate_callee (f := 29) rfl ?_); refine goesL_ (some 24) rfl rfl Try.func29 (by kernel_rfl) rfl #[.int .i64 1, .int .i64 8, .slice Ao16 y164.length co16] rfl (by (try simp only [List.map_toArray, List.map_cons, List.map_nil]); first | done | rfl | (simp only [List.length_drop, List.length_take]; rfl)) ?_; (with_reducible refine (stream_within_int.calls k 1 8 _ _ y164 true _ ?side1 ?side2 A11.out).mono ?_); (case side1 => repeat (first | exact (Kd.R_reads' HO166.out).2.2 | (with_reducible refine Kd.C_alloc ?_ _) | (with_reducible refine Kd.C_drewN ?_ _) | (with_reducible refine Kd.C_drew ?_))); (case side2 => exact (Kd.R_reads' HO166.out).2.1); rintro e w' ⟨rfl, ⟨nd, rfl⟩⟩; refine ⟨_, rfl, ?_⟩) | (go_at_call 37; (with_reducible refine (slices_ContainsFunc_int_int.calls k _ _ l3 77777777 t168 _ ?side1 ?side2 A13.out).mono ?_); (case side1 => repeat (first | exact (Kd.C_below HR3.out (by repeat (first | (with_reducible first | exact HB.out | apply below_alloc | apply pw_below_drewN | apply below_drew1) | exact HB.out))) | (with_reducible refine Kd.C_alloc ?_ _) | (with_reducible refine Kd.C_drewN ?_ _) | (with_reducible refine Kd.C_drew ?_))); (case side2 => exact HC3.out); rintro e w' ⟨rfl, ⟨nd, rfl⟩⟩))
        go_meet
        case rel => exact ⟨_, (t168), (by first | rfl | (simp; done) | (simp [*]; done)), H', ⟨by first | omega | exact Nat.le_refl _⟩, ⟨by repeat (first | (with_reducible first | exact HB.out | apply below_alloc | apply pw_below_drewN | apply below_drew1) | exact HB.out)⟩⟩
      · replace c12 := Bool.eq_false_iff.mpr c12
        subst c12
        have H1 : (stream_Split.j0 k a0 a1 a2 l3 true) = some (r1, r2) := by rw [if_neg (show ¬ (false = true) by decide)] at H; exact H
        clear H
        have H := H1
        clear H1
        have H' := Aside0.mk H
        clear H
        go_wp2_with (first | ((with_reducible refine gate_dst (N := 23) rfl ?_); refine Kd.R_lit (Kd.int .i64) _ 3 ?hg (N := 23) ?hd (xs := ([(l3.length : Int)] : List Int)) (inner := [.int .i64 (l3.length : Int)]) (ok := fun _ => True) (okp := fun _ => True) ?hr ?hp (fun _ hk => hk) trivial (Below.refl _ _) (Nat.le_refl _) (by simp) ?_; (case hd => rfl); (case hg => rfl); (case hr => first | (go_simp; done) | (go_simp; rfl)); (case hp => exact (Reps.one (show Kd.M (Kd.int .i64) _ _ _ (l3.length : Int) [.int .i64 (l3.length : Int)] from rfl) (Reps.none _ _))); intro v165 w17 ho18 hb hg_ hnew_; clear hg_ hnew_; (first | rw [← Ny164.out] at ho18 | (simp only [Int.reduceToNat] at ho18; rw [← Ny164.out] at ho18)); have n0_ := Aside0.mk (Kd.R_elder' (by (with_reducible repeat (first | apply Kd.R_alloc | apply Kd.R_drewN | apply Kd.R_drew)); exact HO162.out) (Kd.R_base ho18) hb); have n1_ := Aside0.mk (Kd.R_lower (Kd.R_new' ho18 (Kd.R_lt (by (with_reducible repeat (first | apply Kd.R_alloc | apply Kd.R_drewN | apply Kd.R_drew)); exact HO162.out))) (below_size (by repeat (first | (with_reducible first | exact HB.out | apply below_alloc | apply pw_below_drewN | apply below_drew1) | exact HB.out)))); have n2_ := Aside0.mk (below_step (by repeat (first | (with_reducible first | exact HB.out | apply below_alloc | apply pw_below_drewN | apply below_drew1) | exact HB.out)) hb); clear HO162; clear HB; have HO162 := n0_; have HO166 := n1_; have HB := n2_; clear n0_ n1_ n2_; clear hb ho18; obtain ⟨Ao19, co19, eo19⟩ := Kd.R_slice HO166.out; subst eo19) | ((with_reducible refine gate_callee (f := 29) rfl ?_); refine goesL_ (some 24) rfl rfl Try.func29 (by kernel_rfl) rfl #[.int .i64 1, .int .i64 8, .slice Ao19 y164.length co19] rfl (by (try simp only [List.map_toArray, List.map_cons, List.map_nil]); first | done | rfl | (simp only [List.length_drop, List.length_take]; rfl)) ?_; (with_reducible refine (stream_within_int.calls k 1 8 _ _ y164 false _ ?side1 ?side2 A11.out).mono ?_); (case side1 => repeat (first | exact (Kd.R_reads' HO166.out).2.2 | (with_reducible refine Kd.C_alloc ?_ _) | (with_reducible refine Kd.C_drewN ?_ _) | (with_reducible refine Kd.C_drew ?_))); (case side2 => exact (Kd.R_reads' HO166.out).2.1); rintro e w' ⟨rfl, ⟨nd, rfl⟩⟩; refine ⟨_, rfl, ?_⟩))
        go_meet
        case rel => exact ⟨_, (true), (by first | rfl | (simp; done) | (simp [*]; done)), H', ⟨by first | omega | exact Nat.le_refl _⟩, ⟨by repeat (first | (with_reducible first | exact HB.out | apply below_alloc | apply pw_below_drewN | apply below_drew1) | exact HB.out)⟩⟩
    case rest =>
      clear HC7
      try clear c1
      try clear c2
      try clear p2
      try clear c3
      try clear c6
      try clear c12
      obtain ⟨kq, x30_6, rfl, HA, HJ6, HB⟩ := hcut
      cases kq with
      | zero => exact absurd HA.out (by simp [stream_Split.j0])
      | succ kj6 =>
        have H := HA.out
        clear HA
        simp only [stream_Split.j0] at H
        by_cases c20 : x30_6 = true
        · subst c20
          have H1 : (some (([] : List (S24)), 3)) = some (r1, r2) := by rw [if_pos rfl] at H; exact H
          clear H
          have H := H1
          clear H1
          simp only [Option.some.injEq, Prod.mk.injEq] at H
          obtain ⟨rfl, rfl⟩ := H
          go_wp2
          go_ret2
          exact ⟨_, by first | rfl | (simp [errW_none, errW_some] <;> rfl) | (simp [*, errW_none, errW_some] <;> rfl), by first | exact Kd.S_nil _ _ _ _ _ | exact Kd.N_nil _ _ _ _ _ | exact Kd.V_nil _ _ _ _ _ | exact Kd.Q_nil _ _ _ _ _ | exact Kd.R_nil _ _ _ _ _, by repeat (first | (with_reducible first | exact HB.out | apply below_alloc | apply pw_below_drewN | apply below_drew1) | exact HB.out)⟩
        · replace c20 := Bool.eq_false_iff.mpr c20
          subst c20
          have H1 : (stream_Split.l0 kj6 a0 a1 a2 l3 ([] : List (S24)) 0) = some (r1, r2) := by rw [if_neg (show ¬ (false = true) by decide)] at H; exact H
          clear H
          have H := H1
          clear H1
          have H' := Aside0.mk H
          clear H
          go_wp2
          go_loopg [11, 31] kj6 (fun kq v11 v31 w' => ∃ (x11_2 : List (S24)) (x31_2 : Int), v31 = .int .i64 x31_2 ∧ Aside0 (stream_Split.l0 kq a0 a1 a2 l3 x11_2 x31_2 = some (r1, r2)) ∧ Aside0 (kq ≤ kj6) ∧ Aside0 (Kd.S k24 24 w' w.heap.size (fun _ => True) v11 x11_2) ∧ Aside0 (Below w.heap.size w w'))
          case atStart => exact ⟨(([] : List (S24))), (0), (by first | rfl | (simp; done) | (simp [*]; done)), H', ⟨Nat.le_refl _⟩, ⟨by first | exact Kd.S_nil _ _ _ _ _ | exact Kd.N_nil _ _ _ _ _ | exact Kd.V_nil _ _ _ _ _ | exact Kd.Q_nil _ _ _ _ _ | exact Kd.R_nil _ _ _ _ _⟩, ⟨by repeat (first | (with_reducible first | exact HB.out | apply below_alloc | apply pw_below_drewN | apply below_drew1) | exact HB.out)⟩⟩
          case round =>
            clear H'
            try clear c1
            try clear c2
            try clear p2
            try clear c3
            try clear c6
            try clear c12
            try clear c20
            try clear p2
            obtain ⟨x11_2, x31_2, rfl, HA, HK2, HO_11, HB⟩ := hrel
            cases gk with
            | zero => exact absurd HA.out (by simp [stream_Split.l0])
            | succ k2 =>
              have H := HA.out
              clear HA
              simp only [stream_Split.l0] at H
              by_cases c21 : x31_2 < 12
              · rw [if_pos c21] at H
                have c21b0 : decide (x31_2 < 12) = true := decide_eq_true c21
                clear c21
                replace H := Option.bind_eq_some_iff.mp H
                obtain ⟨t169, A220, H⟩ := H
                replace H : (if 0 ≤ (l3.length : Int) then (if ((l3.length : Int) : Int).toNat ≤ 35184372088832 then (stream_Split.l1 k2 a0 a1 a2 l3 x11_2 x31_2 x31_2 l3 (l3.length : Int) 0 a0 t169 a2 ([] : List Int) (List.replicate ((l3.length : Int) : Int).toNat 0)) else (none)) else (none)) = some (r1, r2) := H
                have A22 := Aside0.mk A220
                clear A220
                by_cases c23 : 0 ≤ (l3.length : Int)
                · rw [if_pos c23] at H
                  have c23b0 := eq_true c23
                  have c23b1 : decide (0 ≤ (l3.length : Int)) = true := decide_eq_true c23
                  clear c23
                  by_cases c24 : ((l3.length : Int) : Int).toNat ≤ 35184372088832
                  · rw [if_pos c24] at H
                    have c24b0 := eq_true c24
                    have c24b1 : decide (((l3.length : Int) : Int).toNat ≤ 35184372088832) = true := decide_eq_true c24
                    clear c24
                    obtain ⟨y170, hy170⟩ : ∃ y_ : List Int, y_ = (List.replicate ((l3.length : Int) : Int).toNat 0) := ⟨_, rfl⟩
                    replace H : (stream_Split.l1 k2 a0 a1 a2 l3 x11_2 x31_2 x31_2 l3 (l3.length : Int) 0 a0 t169 a2 ([] : List Int) y170) = some (r1, r2) := by first | (rw [hy170]; with_reducible exact H) | (have H2_ := (Option.bind_some _ _).symm.trans H; rw [hy170]; with_reducible exact H2_) | (have H2_ := (Option.bind_some _ _).symm.trans H; with_reducible exact H2_) | with_reducible exact H | (rw [hy170]; exact H) | exact H
                    have Ny170 := Aside0.mk hy170
                    clear hy170
                    have H' := Aside0.mk H
                    clear H
                    try go_wp2
                    have n0_ := Aside0.mk (Kd.S_drew HO_11.out)
                    have n1_ := Aside0.mk (below_drew1 HB.out)
                    clear HO_11
                    clear HB
                    have HO_11 := n0_
                    have HB := n1_
                    clear n0_ n1_
                    refine start_ (n := 11) (S := fun w' => True) (ds := []) #[false, false, false, false, false, false, false, false, false, false, false] (by kernel_rfl) rfl rfl trivial (fun hHeld => ?_); refine with_tabW stream_Split.tab10 stream_Split.bits10 (fun HT_ HW_ => ?_)
                    generalize wr.drew = w25 at HO_11 HB hHeld ⊢
                    refine pure_ (i := 0) (N := some 34) (v := ?_) (a' := ?_) #[true, false, false, false, false, false, false, false, false, false, false] rfl rfl (any_of HT_.out (by kernel_rfl)) (fun _ _ _ h => h) (Or.inl ⟨by rfl, ?_⟩) ?_ ?_
                    rotate_left
                    · intro w'
                      go_simp
                      with_reducible rfl
                    rotate_left
                    · simp only [Act.put, List.setIfInBounds_toArray, List.set_cons_zero, List.set_cons_succ, i64_w, i32_w]
                      rfl
                    refine pure_ (i := 1) (N := some 35) (v := ?_) (a' := ?_) #[true, true, false, false, false, false, false, false, false, false, false] rfl rfl (any_of HT_.out (by kernel_rfl)) (fun _ _ _ h => h) (Or.inl ⟨by rfl, ?_⟩) ?_ ?_
                    rotate_left
                    · intro w'
                      go_simp
                      with_reducible rfl
                    rotate_left
                    · simp only [Act.put, List.setIfInBounds_toArray, List.set_cons_zero, List.set_cons_succ, i64_w, i32_w]
                      rfl
                    refine pure_ (i := 2) (N := some 36) (v := ?_) (a' := ?_) #[true, true, true, false, false, false, false, false, false, false, false] rfl rfl (any_of HT_.out (by kernel_rfl)) (fun _ _ _ h => h) (Or.inl ⟨by rfl, ?_⟩) ?_ ?_
                    rotate_left
                    · intro w'
                      go_simp
                      with_reducible rfl
                    rotate_left
                    · simp only [Act.put, List.setIfInBounds_toArray, List.set_cons_zero, List.set_cons_succ, i64_w, i32_w]
                      rfl
                    refine pure_ (i := 4) (N := some 38) (v := ?_) (a' := ?_) #[true, true, true, false, true, false, false, false, false, false, false] rfl rfl (any_of HT_.out (by kernel_rfl)) (fun _ _ _ h => h) (Or.inl ⟨by rfl, ?_⟩) ?_ ?_
                    rotate_left
                    · intro w'
                      go_simp
                      with_reducible rfl
                    rotate_left
                    · simp only [Act.put, List.setIfInBounds_toArray, List.set_cons_zero, List.set_cons_succ, i64_w, i32_w]
                      rfl
                    refine pure_ (i := 5) (N := some 39) (v := ?_) (a' := ?_) #[true, true, true, false, true, true, false, false, false, false, false] rfl rfl (any_of HT_.out (by kernel_rfl)) (fun _ _ _ h => h) (Or.inl ⟨by rfl, ?_⟩) ?_ ?_
                    rotate_left
                    · intro w'
                      go_simp
                      with_reducible rfl
                    rotate_left
                    · simp only [Act.put, List.setIfInBounds_toArray, List.set_cons_zero, List.set_cons_succ, i64_w, i32_w]
                      rfl
                    refine pure_ (i := 6) (N := some 40) (v := ?_) (a' := ?_) #[true, true, true, false, true, true, true, false, false, false, false] rfl rfl (any_of HT_.out (by kernel_rfl)) (fun _ _ _ h => h) (Or.inl ⟨by rfl, ?_⟩) ?_ ?_
                    rotate_left
                    · intro w'
                      go_simp
                      with_reducible rfl
                    rotate_left
                    · simp only [Act.put, List.setIfInBounds_toArray, List.set_cons_zero, List.set_cons_succ, i64_w, i32_w]
                      rfl
                    refine join_ (σ := Value × Nat) 1 #[true, true, true, true, true, true, true, true, true, true, false] (fun s_ => [(37, .int .i64 t169), (41, s_.1), (13, .pointer (some ⟨s_.2, 0, none⟩)), (42, .agg #[.int .i64 a0, .int .i64 t169, .bool a2, .slice none 0 0, s_.1])]) (fun s_ w' => (Kd.R (Kd.int .i64) 3 w' w.heap.size (fun _ => True) s_.1 y170) ∧ (Kd.S k24 24 w' w.heap.size (fun k_ => some k_ ≠ (s_.1 : Value).ownBlock ∧ k_ ≠ s_.2) u11 x11_2) ∧ (w'.heap[s_.2]? = some (.cells #[.int .i64 0, .int .i64 0, .bool false, .slice none 0 0, .slice none 0 0] 24 (0, 0))) ∧ (w.heap.size ≤ s_.2) ∧ (w.heap.size ≤ s_.2) ∧ (Below w.heap.size w w')) ?_ ?_
                    rotate_left
                    · intro hJ3_7_9
                      refine join_ (σ := Value) 2 #[true, true, true, true, true, true, true, true, true, false, false] (fun s_ => [(37, .int .i64 t169), (41, s_), (42, .agg #[.int .i64 a0, .int .i64 t169, .bool a2, .slice none 0 0, s_])]) (fun s_ w' => (Kd.R (Kd.int .i64) 3 w' w.heap.size (fun _ => True) s_ y170) ∧ (Kd.S k24 24 w' w.heap.size (fun k_ => some k_ ≠ (s_ : Value).ownBlock) u11 x11_2) ∧ (Below w.heap.size w w')) ?_ ?_
                      rotate_left
                      · intro hJ3_7
                        refine join_ (σ := Nat) 3 #[true, true, true, true, true, true, true, false, false, true, false] (fun s_ => [(37, .int .i64 t169), (13, .pointer (some ⟨s_, 0, none⟩))]) (fun s_ w' => (Kd.S k24 24 w' w.heap.size (fun k_ => k_ ≠ s_) u11 x11_2) ∧ (w'.heap[s_]? = some (.cells #[.int .i64 0, .int .i64 0, .bool false, .slice none 0 0, .slice none 0 0] 24 (0, 0))) ∧ (w.heap.size ≤ s_) ∧ (w.heap.size ≤ s_) ∧ (Below w.heap.size w w')) ?_ ?_
                        rotate_left
                        · intro hJ3_9
                          refine join_ (σ := Value × Nat) 3 #[true, true, true, false, true, true, true, true, false, true, false] (fun s_ => [(41, s_.1), (13, .pointer (some ⟨s_.2, 0, none⟩))]) (fun s_ w' => (Kd.R (Kd.int .i64) 3 w' w.heap.size (fun _ => True) s_.1 y170) ∧ (Kd.S k24 24 w' w.heap.size (fun k_ => some k_ ≠ (s_.1 : Value).ownBlock ∧ k_ ≠ s_.2) u11 x11_2) ∧ (w'.heap[s_.2]? = some (.cells #[.int .i64 0, .int .i64 0, .bool false, .slice none 0 0, .slice none 0 0] 24 (0, 0))) ∧ (w.heap.size ≤ s_.2) ∧ (w.heap.size ≤ s_.2) ∧ (Below w.heap.size w w')) ?_ ?_
                          rotate_left
                          · intro hJ7_9
                            refine join_ (σ := Unit) 4 #[true, true, true, true, true, true, true, false, false, false, false] (fun s_ => [(37, .int .i64 t169)]) (fun s_ w' => (Kd.S k24 24 w' w.heap.size (fun _ => True) u11 x11_2) ∧ (Below w.heap.size w w')) ?_ ?_
                            rotate_left
                            · intro hJ3
                              refine join_ (σ := Value) 4 #[true, true, true, false, true, true, true, true, false, false, false] (fun s_ => [(41, s_)]) (fun s_ w' => (Kd.R (Kd.int .i64) 3 w' w.heap.size (fun _ => True) s_ y170) ∧ (Kd.S k24 24 w' w.heap.size (fun k_ => some k_ ≠ (s_ : Value).ownBlock) u11 x11_2) ∧ (Below w.heap.size w w')) ?_ ?_
                              rotate_left
                              · intro hJ7
                                refine join_ (σ := Nat) 4 #[true, true, true, false, true, true, true, false, false, true, false] (fun s_ => [(13, .pointer (some ⟨s_, 0, none⟩))]) (fun s_ w' => (Kd.S k24 24 w' w.heap.size (fun k_ => k_ ≠ s_) u11 x11_2) ∧ (w'.heap[s_]? = some (.cells #[.int .i64 0, .int .i64 0, .bool false, .slice none 0 0, .slice none 0 0] 24 (0, 0))) ∧ (w.heap.size ≤ s_) ∧ (w.heap.size ≤ s_) ∧ (Below w.heap.size w w')) ?_ ?_
                                rotate_left
                                · intro hJ9
                                  refine three_ (i := 3) (j := 7) (k := 9) (Ni := some 37) (Nj := some 41) (Nk := some 13) #[true, true, true, true, true, true, true, false, false, false, false] #[true, true, true, false, true, true, true, true, false, false, false] #[true, true, true, false, true, true, true, false, false, true, false] rfl rfl rfl rfl rfl rfl (three_of HT_.out (by kernel_rfl)) (by decide) (by decide) (by decide) (fun K hK => ?_) (fun K hK => ?_) (fun K hK => ?_)
                                  · skip
                                    refine goes_ Try.func15 (by kernel_rfl) rfl #[.int .i64 a1, .int .i64 x31_2] (by rfl) rfl rfl (by (try simp only [List.map_toArray, List.map_cons, List.map_nil]); first | done | rfl | (simp only [List.length_drop, List.length_take]; rfl)) ?_
                                    with_reducible refine (stream_Count.calls k2 a1 x31_2 t169 _ A22.out).mono ?_
                                    rintro e w26 ⟨rfl, hb⟩
                                    refine ⟨_, rfl, ?_⟩
                                    have n0_ := Aside0.mk (Kd.S_below (by (with_reducible repeat (first | apply Kd.S_alloc | apply Kd.S_drewN | apply Kd.S_drew)); exact HO_11.out) hb)
                                    have n1_ := Aside0.mk (below_step (by repeat (first | (with_reducible first | exact HB.out | apply below_alloc | apply pw_below_drewN | apply below_drew1) | exact HB.out)) hb)
                                    clear HO_11
                                    clear HB
                                    have HO_11 := n0_
                                    have HB := n1_
                                    clear n0_ n1_
                                    (try clear hb)
                                    (try clear hb2)
                                    (try clear hk)
                                    (try clear hi)
                                    refine hK.out _ _ trivial (fun hHeld => ?_)
                                    clear hK K
                                    refine norm_ (a' := ?_) ?_ ?_
                                    rotate_left
                                    · show Act.put _ (some 37) _ = _
                                      simp only [Act.put, List.setIfInBounds_toArray, List.set_cons_zero, List.set_cons_succ, i64_w, i32_w]
                                      rfl
                                    exact norm_ (by first | (simp only [putAll, Act.put, List.setIfInBounds_toArray, List.set_cons_zero, List.set_cons_succ]; done) | (simp only [putAll, Act.put, List.setIfInBounds_toArray, List.set_cons_zero, List.set_cons_succ]; rfl)) (hJ3 () _ ⟨(by (with_reducible repeat (first | apply Kd.S_alloc | apply Kd.S_drewN | apply Kd.S_drew)); exact HO_11.out), (by repeat (first | (with_reducible first | exact HB.out | apply below_alloc | apply pw_below_drewN | apply below_drew1) | exact HB.out))⟩)
                                  · skip
                                    refine Kd.R_make_step (Kd.int .i64) _ 3 (by rfl) (N := 41) rfl 22 _ _ rfl (l3.length : Int) rfl rfl Try.underlying22 (.int .i64 0) 8 info3 rfl (by decide) (by omega) 0 (ok := fun _ => True) (okp := fun _ => True) rfl (fun _ hk => hk) trivial (of_decide_eq_true (by first | (with_reducible assumption) | assumption)) (Nat.le_trans (Nat.mul_le_mul_right _ (of_decide_eq_true (by first | (with_reducible assumption) | assumption) : (l3.length : Int).toNat ≤ 35184372088832)) (by omega)) (Below.refl _ _) (Nat.le_refl _) ?_
                                    intro v171 w26 ho27 hb hg_ hnew_
                                    clear hg_ hnew_
                                    (first | rw [← Ny170.out] at ho27 | (simp only [Int.reduceToNat] at ho27; rw [← Ny170.out] at ho27))
                                    have n0_ := Aside0.mk (Kd.S_elder' (by (with_reducible repeat (first | apply Kd.S_alloc | apply Kd.S_drewN | apply Kd.S_drew)); exact HO_11.out) (Kd.R_base ho27) hb)
                                    have n1_ := Aside0.mk (Kd.R_lower ho27 (below_size (by repeat (first | (with_reducible first | exact HB.out | apply below_alloc | apply pw_below_drewN | apply below_drew1) | exact HB.out))))
                                    have n2_ := Aside0.mk (below_step (by repeat (first | (with_reducible first | exact HB.out | apply below_alloc | apply pw_below_drewN | apply below_drew1) | exact HB.out)) hb)
                                    clear HO_11
                                    clear HB
                                    have HO_11 := n0_
                                    have HO172 := n1_
                                    have HB := n2_
                                    clear n0_ n1_ n2_
                                    clear hb ho27
                                    refine hK.out _ _ trivial (fun hHeld => ?_)
                                    clear hK K
                                    refine norm_ (a' := ?_) ?_ ?_
                                    rotate_left
                                    · show Act.put _ (some 41) _ = _
                                      simp only [Act.put, List.setIfInBounds_toArray, List.set_cons_zero, List.set_cons_succ, i64_w, i32_w]
                                      rfl
                                    exact norm_ (by first | (simp only [putAll, Act.put, List.setIfInBounds_toArray, List.set_cons_zero, List.set_cons_succ]; done) | (simp only [putAll, Act.put, List.setIfInBounds_toArray, List.set_cons_zero, List.set_cons_succ]; rfl)) (hJ7 (v171) _ ⟨(by (with_reducible repeat (first | apply Kd.R_alloc | apply Kd.R_drewN | apply Kd.R_drew)); exact HO172.out), (by (with_reducible repeat (first | apply Kd.S_alloc | apply Kd.S_drewN | apply Kd.S_drew)); exact Kd.S_mono HO_11.out (fun _ hk => hk.2)), (by repeat (first | (with_reducible first | exact HB.out | apply below_alloc | apply pw_below_drewN | apply below_drew1) | exact HB.out))⟩)
                                  · skip
                                    refine box_step ?hg (N := 13) ?hd (cs := #[.int .i64 0, .int .i64 0, .bool false, .slice none 0 0, .slice none 0 0]) (t := 24) ?hr ?_; (case hd => rfl); (case hg => rfl); (case hr => first | (go_simp; done) | (go_simp; rfl))
                                    intro gb173 hg w26 hbox hb
                                    have n0_ := Aside0.mk (Kd.S_below (Kd.S_elderB (by (with_reducible repeat (first | apply Kd.S_alloc | apply Kd.S_drewN | apply Kd.S_drew)); exact HO_11.out) gb173 (Nat.le_of_eq hg.symm)) hb)
                                    have n1_ := Aside0.mk (below_step (by repeat (first | (with_reducible first | exact HB.out | apply below_alloc | apply pw_below_drewN | apply below_drew1) | exact HB.out)) hb)
                                    have n2_ := Aside0.mk (hbox)
                                    have n3_ := Aside0.mk ((by rw [hg]; exact (below_size (by repeat (first | (with_reducible first | exact HB.out | apply below_alloc | apply pw_below_drewN | apply below_drew1) | exact HB.out))) : w.heap.size ≤ gb173))
                                    have n4_ := Aside0.mk ((by rw [hg]; exact (below_size (by repeat (first | (with_reducible first | exact HB.out | apply below_alloc | apply pw_below_drewN | apply below_drew1) | exact HB.out))) : w.heap.size ≤ gb173))
                                    clear HO_11
                                    clear HB
                                    have HO_11 := n0_
                                    have HB := n1_
                                    have BK173 := n2_
                                    have GW173 := n3_
                                    have GE173 := n4_
                                    clear n0_ n1_ n2_ n3_ n4_
                                    clear hb hbox hg
                                    refine hK.out _ _ trivial (fun hHeld => ?_)
                                    clear hK K
                                    refine norm_ (a' := ?_) ?_ ?_
                                    rotate_left
                                    · show Act.put _ (some 13) _ = _
                                      simp only [Act.put, List.setIfInBounds_toArray, List.set_cons_zero, List.set_cons_succ, i64_w, i32_w]
                                      rfl
                                    exact norm_ (by first | (simp only [putAll, Act.put, List.setIfInBounds_toArray, List.set_cons_zero, List.set_cons_succ]; done) | (simp only [putAll, Act.put, List.setIfInBounds_toArray, List.set_cons_zero, List.set_cons_succ]; rfl)) (hJ9 (gb173) _ ⟨(by (with_reducible repeat (first | apply Kd.S_alloc | apply Kd.S_drewN | apply Kd.S_drew)); exact Kd.S_mono HO_11.out (fun _ hk => hk.2)), (by (with_reducible repeat (first | refine blk_drewN ?_ _ | refine blk_drew ?_ | refine blk_alloc ?_ _)); exact BK173.out), GW173.out, GE173.out, (by repeat (first | (with_reducible first | exact HB.out | apply below_alloc | apply pw_below_drewN | apply below_drew1 | refine below_set ?_ GE173.out) | exact HB.out))⟩)
                                · skip
                                  rintro gb173 w27 ⟨h0_, h1_, h2_, h3_, h4_⟩
                                  have n0_ : Aside0 (Kd.S k24 24 w27 w.heap.size (fun k_ => k_ ≠ gb173) u11 x11_2) := ⟨h0_⟩
                                  have n1_ : Aside0 (w27.heap[gb173]? = some (.cells #[.int .i64 0, .int .i64 0, .bool false, .slice none 0 0, .slice none 0 0] 24 (0, 0))) := ⟨h1_⟩
                                  have n2_ : Aside0 (w.heap.size ≤ gb173) := ⟨h2_⟩
                                  have n3_ : Aside0 (w.heap.size ≤ gb173) := ⟨h3_⟩
                                  have n4_ : Aside0 (Below w.heap.size w w27) := ⟨h4_⟩
                                  clear HO_11
                                  clear HB
                                  clear h0_ h1_ h2_ h3_ h4_
                                  have HO_11 := n0_
                                  have BK173 := n1_
                                  have GW173 := n2_
                                  have GE173 := n3_
                                  have HB := n4_
                                  clear n0_ n1_ n2_ n3_ n4_
                                  have hHeld := trivial
                                  refine norm_ (a' := ?_) ?_ ?_
                                  rotate_left
                                  · simp only [putAll, Act.put, List.setIfInBounds_toArray, List.set_cons_zero, List.set_cons_succ]
                                    rfl
                                  refine two_ (i := 3) (j := 7) (Ni := some 37) (Nj := some 41) #[true, true, true, true, true, true, true, false, false, true, false] #[true, true, true, false, true, true, true, true, false, true, false] rfl rfl rfl rfl (two_of HT_.out (by kernel_rfl)) (by decide) (by decide) (fun K hK => ?_) (fun K hK => ?_)
                                  · skip
                                    refine goes_ Try.func15 (by kernel_rfl) rfl #[.int .i64 a1, .int .i64 x31_2] (by rfl) rfl rfl (by (try simp only [List.map_toArray, List.map_cons, List.map_nil]); first | done | rfl | (simp only [List.length_drop, List.length_take]; rfl)) ?_
                                    with_reducible refine (stream_Count.calls k2 a1 x31_2 t169 _ A22.out).mono ?_
                                    rintro e w28 ⟨rfl, hb⟩
                                    refine ⟨_, rfl, ?_⟩
                                    have n0_ := Aside0.mk (Kd.S_below (by (with_reducible repeat (first | apply Kd.S_alloc | apply Kd.S_drewN | apply Kd.S_drew)); exact HO_11.out) hb)
                                    have n1_ := Aside0.mk (blk_below (g := gb173) (o := .cells #[.int .i64 0, .int .i64 0, .bool false, .slice none 0 0, .slice none 0 0] 24 (0, 0)) (by (with_reducible repeat (first | refine blk_drewN ?_ _ | refine blk_drew ?_ | refine blk_alloc ?_ _)); exact BK173.out) hb)
                                    have n2_ := Aside0.mk (below_step (by repeat (first | (with_reducible first | exact HB.out | apply below_alloc | apply pw_below_drewN | apply below_drew1 | refine below_set ?_ GE173.out) | exact HB.out)) hb)
                                    clear HO_11
                                    clear BK173
                                    clear HB
                                    have HO_11 := n0_
                                    have BK173 := n1_
                                    have HB := n2_
                                    clear n0_ n1_ n2_
                                    (try clear hb)
                                    (try clear hb2)
                                    (try clear hk)
                                    (try clear hi)
                                    refine hK.out _ _ trivial (fun hHeld => ?_)
                                    clear hK K
                                    refine norm_ (a' := ?_) ?_ ?_
                                    rotate_left
                                    · show Act.put _ (some 37) _ = _
                                      simp only [Act.put, List.setIfInBounds_toArray, List.set_cons_zero, List.set_cons_succ, i64_w, i32_w]
                                      rfl
                                    exact norm_ (by first | (simp only [putAll, Act.put, List.setIfInBounds_toArray, List.set_cons_zero, List.set_cons_succ]; done) | (simp only [putAll, Act.put, List.setIfInBounds_toArray, List.set_cons_zero, List.set_cons_succ]; rfl)) (hJ3_9 (gb173) _ ⟨(by (with_reducible repeat (first | apply Kd.S_alloc | apply Kd.S_drewN | apply Kd.S_drew)); exact HO_11.out), (by (with_reducible repeat (first | refine blk_drewN ?_ _ | refine blk_drew ?_ | refine blk_alloc ?_ _)); exact BK173.out), GW173.out, GE173.out, (by repeat (first | (with_reducible first | exact HB.out | apply below_alloc | apply pw_below_drewN | apply below_drew1 | refine below_set ?_ GE173.out) | exact HB.out))⟩)
                                  · skip
                                    refine Kd.R_make_step (Kd.int .i64) _ 3 (by rfl) (N := 41) rfl 22 _ _ rfl (l3.length : Int) rfl rfl Try.underlying22 (.int .i64 0) 8 info3 rfl (by decide) (by omega) 0 (ok := fun _ => True) (okp := fun _ => True) rfl (fun _ hk => hk) trivial (of_decide_eq_true (by first | (with_reducible assumption) | assumption)) (Nat.le_trans (Nat.mul_le_mul_right _ (of_decide_eq_true (by first | (with_reducible assumption) | assumption) : (l3.length : Int).toNat ≤ 35184372088832)) (by omega)) (Below.refl _ _) (Nat.le_refl _) ?_
                                    intro v171 w28 ho29 hb hg_ hnew_
                                    clear hg_ hnew_
                                    (first | rw [← Ny170.out] at ho29 | (simp only [Int.reduceToNat] at ho29; rw [← Ny170.out] at ho29))
                                    have n0_ := Aside0.mk (Kd.S_elder' (by (with_reducible repeat (first | apply Kd.S_alloc | apply Kd.S_drewN | apply Kd.S_drew)); exact HO_11.out) (Kd.R_base ho29) hb)
                                    have n1_ := Aside0.mk (Kd.R_lower ho29 (below_size (by repeat (first | (with_reducible first | exact HB.out | apply below_alloc | apply pw_below_drewN | apply below_drew1 | refine below_set ?_ GE173.out) | exact HB.out))))
                                    have n2_ := Aside0.mk (blk_below (g := gb173) (o := .cells #[.int .i64 0, .int .i64 0, .bool false, .slice none 0 0, .slice none 0 0] 24 (0, 0)) (by (with_reducible repeat (first | refine blk_drewN ?_ _ | refine blk_drew ?_ | refine blk_alloc ?_ _)); exact BK173.out) hb)
                                    have n3_ := Aside0.mk (below_step (by repeat (first | (with_reducible first | exact HB.out | apply below_alloc | apply pw_below_drewN | apply below_drew1 | refine below_set ?_ GE173.out) | exact HB.out)) hb)
                                    clear HO_11
                                    clear BK173
                                    clear HB
                                    have HO_11 := n0_
                                    have HO172 := n1_
                                    have BK173 := n2_
                                    have HB := n3_
                                    clear n0_ n1_ n2_ n3_
                                    clear hb ho29
                                    refine hK.out _ _ trivial (fun hHeld => ?_)
                                    clear hK K
                                    refine norm_ (a' := ?_) ?_ ?_
                                    rotate_left
                                    · show Act.put _ (some 41) _ = _
                                      simp only [Act.put, List.setIfInBounds_toArray, List.set_cons_zero, List.set_cons_succ, i64_w, i32_w]
                                      rfl
                                    exact norm_ (by first | (simp only [putAll, Act.put, List.setIfInBounds_toArray, List.set_cons_zero, List.set_cons_succ]; done) | (simp only [putAll, Act.put, List.setIfInBounds_toArray, List.set_cons_zero, List.set_cons_succ]; rfl)) (hJ7_9 (v171, gb173) _ ⟨(by (with_reducible repeat (first | apply Kd.R_alloc | apply Kd.R_drewN | apply Kd.R_drew)); exact HO172.out), (by (with_reducible repeat (first | apply Kd.S_alloc | apply Kd.S_drewN | apply Kd.S_drew)); exact Kd.S_mono HO_11.out (fun _ hk => ⟨hk.2, hk.1⟩)), (by (with_reducible repeat (first | refine blk_drewN ?_ _ | refine blk_drew ?_ | refine blk_alloc ?_ _)); exact BK173.out), GW173.out, GE173.out, (by repeat (first | (with_reducible first | exact HB.out | apply below_alloc | apply pw_below_drewN | apply below_drew1 | refine below_set ?_ GE173.out) | exact HB.out))⟩)
                              · skip
                                rintro v171 w28 ⟨h0_, h1_, h2_⟩
                                have n0_ : Aside0 (Kd.R (Kd.int .i64) 3 w28 w.heap.size (fun _ => True) v171 y170) := ⟨h0_⟩
                                have n1_ : Aside0 (Kd.S k24 24 w28 w.heap.size (fun k_ => some k_ ≠ (v171 : Value).ownBlock) u11 x11_2) := ⟨h1_⟩
                                have n2_ : Aside0 (Below w.heap.size w w28) := ⟨h2_⟩
                                clear HO_11
                                clear HB
                                clear h0_ h1_ h2_
                                have HO172 := n0_
                                have HO_11 := n1_
                                have HB := n2_
                                clear n0_ n1_ n2_
                                have hHeld := trivial
                                refine norm_ (a' := ?_) ?_ ?_
                                rotate_left
                                · simp only [putAll, Act.put, List.setIfInBounds_toArray, List.set_cons_zero, List.set_cons_succ]
                                  rfl
                                refine two_ (i := 3) (j := 9) (Ni := some 37) (Nj := some 13) #[true, true, true, true, true, true, true, true, false, false, false] #[true, true, true, false, true, true, true, true, false, true, false] rfl rfl rfl rfl (two_of HT_.out (by kernel_rfl)) (by decide) (by decide) (fun K hK => ?_) (fun K hK => ?_)
                                · skip
                                  refine goes_ Try.func15 (by kernel_rfl) rfl #[.int .i64 a1, .int .i64 x31_2] (by rfl) rfl rfl (by (try simp only [List.map_toArray, List.map_cons, List.map_nil]); first | done | rfl | (simp only [List.length_drop, List.length_take]; rfl)) ?_
                                  with_reducible refine (stream_Count.calls k2 a1 x31_2 t169 _ A22.out).mono ?_
                                  rintro e w29 ⟨rfl, hb⟩
                                  refine ⟨_, rfl, ?_⟩
                                  have n0_ := Aside0.mk (Kd.S_below (by (with_reducible repeat (first | apply Kd.S_alloc | apply Kd.S_drewN | apply Kd.S_drew)); exact HO_11.out) hb)
                                  have n1_ := Aside0.mk (Kd.R_below (by (with_reducible repeat (first | apply Kd.R_alloc | apply Kd.R_drewN | apply Kd.R_drew)); exact HO172.out) hb)
                                  have n2_ := Aside0.mk (below_step (by repeat (first | (with_reducible first | exact HB.out | apply below_alloc | apply pw_below_drewN | apply below_drew1) | exact HB.out)) hb)
                                  clear HO_11
                                  clear HO172
                                  clear HB
                                  have HO_11 := n0_
                                  have HO172 := n1_
                                  have HB := n2_
                                  clear n0_ n1_ n2_
                                  (try clear hb)
                                  (try clear hb2)
                                  (try clear hk)
                                  (try clear hi)
                                  obtain ⟨Ao30, co30, eo30⟩ := Kd.R_slice HO172.out
                                  (first | subst eo30 | (injection eo30 with f1_ f2_ f3_; have f4_ := f1_.symm; have f5_ := f3_.symm; clear f1_ f2_ f3_; subst f4_; subst f5_))
                                  refine hK.out _ _ trivial (fun hHeld => ?_)
                                  clear hK K
                                  refine norm_ (a' := ?_) ?_ ?_
                                  rotate_left
                                  · show Act.put _ (some 37) _ = _
                                    simp only [Act.put, List.setIfInBounds_toArray, List.set_cons_zero, List.set_cons_succ, i64_w, i32_w]
                                    rfl
                                  refine pure_ (i := 8) (N := some 42) (v := ?_) (a' := ?_) #[true, true, true, true, true, true, true, true, true, false, false] rfl rfl (any_of HT_.out (by kernel_rfl)) (fun _ _ _ h => h) (Or.inl ⟨by rfl, ?_⟩) ?_ ?_
                                  rotate_left
                                  · intro w'
                                    go_simp
                                    with_reducible rfl
                                  rotate_left
                                  · simp only [Act.put, List.setIfInBounds_toArray, List.set_cons_zero, List.set_cons_succ, i64_w, i32_w]
                                    rfl
                                  exact norm_ (by first | (simp only [putAll, Act.put, List.setIfInBounds_toArray, List.set_cons_zero, List.set_cons_succ]; done) | (simp only [putAll, Act.put, List.setIfInBounds_toArray, List.set_cons_zero, List.set_cons_succ]; rfl)) (hJ3_7 (.slice Ao30 y170.length co30) _ ⟨(by (with_reducible repeat (first | apply Kd.R_alloc | apply Kd.R_drewN | apply Kd.R_drew)); exact HO172.out), (by (with_reducible repeat (first | apply Kd.S_alloc | apply Kd.S_drewN | apply Kd.S_drew)); exact HO_11.out), (by repeat (first | (with_reducible first | exact HB.out | apply below_alloc | apply pw_below_drewN | apply below_drew1) | exact HB.out))⟩)
                                · skip
                                  refine box_step ?hg (N := 13) ?hd (cs := #[.int .i64 0, .int .i64 0, .bool false, .slice none 0 0, .slice none 0 0]) (t := 24) ?hr ?_; (case hd => rfl); (case hg => rfl); (case hr => first | (go_simp; done) | (go_simp; rfl))
                                  intro gb173 hg w29 hbox hb
                                  have n0_ := Aside0.mk (Kd.S_below (Kd.S_elderB (by (with_reducible repeat (first | apply Kd.S_alloc | apply Kd.S_drewN | apply Kd.S_drew)); exact HO_11.out) gb173 (Nat.le_of_eq hg.symm)) hb)
                                  have n1_ := Aside0.mk (Kd.R_below (by (with_reducible repeat (first | apply Kd.R_alloc | apply Kd.R_drewN | apply Kd.R_drew)); exact HO172.out) hb)
                                  have n2_ := Aside0.mk (below_step (by repeat (first | (with_reducible first | exact HB.out | apply below_alloc | apply pw_below_drewN | apply below_drew1) | exact HB.out)) hb)
                                  have n3_ := Aside0.mk (hbox)
                                  have n4_ := Aside0.mk ((by rw [hg]; exact (below_size (by repeat (first | (with_reducible first | exact HB.out | apply below_alloc | apply pw_below_drewN | apply below_drew1) | exact HB.out))) : w.heap.size ≤ gb173))
                                  have n5_ := Aside0.mk ((by rw [hg]; exact (below_size (by repeat (first | (with_reducible first | exact HB.out | apply below_alloc | apply pw_below_drewN | apply below_drew1) | exact HB.out))) : w.heap.size ≤ gb173))
                                  clear HO_11
                                  clear HO172
                                  clear HB
                                  have HO_11 := n0_
                                  have HO172 := n1_
                                  have HB := n2_
                                  have BK173 := n3_
                                  have GW173 := n4_
                                  have GE173 := n5_
                                  clear n0_ n1_ n2_ n3_ n4_ n5_
                                  clear hb hbox hg
                                  refine hK.out _ _ trivial (fun hHeld => ?_)
                                  clear hK K
                                  refine norm_ (a' := ?_) ?_ ?_
                                  rotate_left
                                  · show Act.put _ (some 13) _ = _
                                    simp only [Act.put, List.setIfInBounds_toArray, List.set_cons_zero, List.set_cons_succ, i64_w, i32_w]
                                    rfl
                                  exact norm_ (by first | (simp only [putAll, Act.put, List.setIfInBounds_toArray, List.set_cons_zero, List.set_cons_succ]; done) | (simp only [putAll, Act.put, List.setIfInBounds_toArray, List.set_cons_zero, List.set_cons_succ]; rfl)) (hJ7_9 (v171, gb173) _ ⟨(by (with_reducible repeat (first | apply Kd.R_alloc | apply Kd.R_drewN | apply Kd.R_drew)); exact HO172.out), (by (with_reducible repeat (first | apply Kd.S_alloc | apply Kd.S_drewN | apply Kd.S_drew)); exact HO_11.out), (by (with_reducible repeat (first | refine blk_drewN ?_ _ | refine blk_drew ?_ | refine blk_alloc ?_ _)); exact BK173.out), GW173.out, GE173.out, (by repeat (first | (with_reducible first | exact HB.out | apply below_alloc | apply pw_below_drewN | apply below_drew1 | refine below_set ?_ GE173.out) | exact HB.out))⟩)
                            · skip
                              rintro _ w27 ⟨h0_, h1_⟩
                              have n0_ : Aside0 (Kd.S k24 24 w27 w.heap.size (fun _ => True) u11 x11_2) := ⟨h0_⟩
                              have n1_ : Aside0 (Below w.heap.size w w27) := ⟨h1_⟩
                              clear HO_11
                              clear HB
                              clear h0_ h1_
                              have HO_11 := n0_
                              have HB := n1_
                              clear n0_ n1_
                              have hHeld := trivial
                              refine norm_ (a' := ?_) ?_ ?_
                              rotate_left
                              · simp only [putAll, Act.put, List.setIfInBounds_toArray, List.set_cons_zero, List.set_cons_succ]
                                rfl
                              refine two_ (i := 7) (j := 9) (Ni := some 41) (Nj := some 13) #[true, true, true, true, true, true, true, true, false, false, false] #[true, true, true, true, true, true, true, false, false, true, false] rfl rfl rfl rfl (two_of HT_.out (by kernel_rfl)) (by decide) (by decide) (fun K hK => ?_) (fun K hK => ?_)
                              · skip
                                refine Kd.R_make_step (Kd.int .i64) _ 3 (by rfl) (N := 41) rfl 22 _ _ rfl (l3.length : Int) rfl rfl Try.underlying22 (.int .i64 0) 8 info3 rfl (by decide) (by omega) 0 (ok := fun _ => True) (okp := fun _ => True) rfl (fun _ hk => hk) trivial (of_decide_eq_true (by first | (with_reducible assumption) | assumption)) (Nat.le_trans (Nat.mul_le_mul_right _ (of_decide_eq_true (by first | (with_reducible assumption) | assumption) : (l3.length : Int).toNat ≤ 35184372088832)) (by omega)) (Below.refl _ _) (Nat.le_refl _) ?_
                                intro v171 w28 ho29 hb hg_ hnew_
                                clear hg_ hnew_
                                (first | rw [← Ny170.out] at ho29 | (simp only [Int.reduceToNat] at ho29; rw [← Ny170.out] at ho29))
                                have n0_ := Aside0.mk (Kd.S_elder' (by (with_reducible repeat (first | apply Kd.S_alloc | apply Kd.S_drewN | apply Kd.S_drew)); exact HO_11.out) (Kd.R_base ho29) hb)
                                have n1_ := Aside0.mk (Kd.R_lower ho29 (below_size (by repeat (first | (with_reducible first | exact HB.out | apply below_alloc | apply pw_below_drewN | apply below_drew1) | exact HB.out))))
                                have n2_ := Aside0.mk (below_step (by repeat (first | (with_reducible first | exact HB.out | apply below_alloc | apply pw_below_drewN | apply below_drew1) | exact HB.out)) hb)
                                clear HO_11
                                clear HB
                                have HO_11 := n0_
                                have HO172 := n1_
                                have HB := n2_
                                clear n0_ n1_ n2_
                                clear hb ho29
                                obtain ⟨Ao30, co30, eo30⟩ := Kd.R_slice HO172.out
                                (first | subst eo30 | (injection eo30 with f1_ f2_ f3_; have f4_ := f1_.symm; have f5_ := f3_.symm; clear f1_ f2_ f3_; subst f4_; subst f5_))
                                refine hK.out _ _ trivial (fun hHeld => ?_)
                                clear hK K
                                refine norm_ (a' := ?_) ?_ ?_
                                rotate_left
                                · show Act.put _ (some 41) _ = _
                                  simp only [Act.put, List.setIfInBounds_toArray, List.set_cons_zero, List.set_cons_succ, i64_w, i32_w]
                                  rfl
                                refine pure_ (i := 8) (N := some 42) (v := ?_) (a' := ?_) #[true, true, true, true, true, true, true, true, true, false, false] rfl rfl (any_of HT_.out (by kernel_rfl)) (fun _ _ _ h => h) (Or.inl ⟨by rfl, ?_⟩) ?_ ?_
                                rotate_left
                                · intro w'
                                  go_simp
                                  with_reducible rfl
                                rotate_left
                                · simp only [Act.put, List.setIfInBounds_toArray, List.set_cons_zero, List.set_cons_succ, i64_w, i32_w]
                                  rfl
                                exact norm_ (by first | (simp only [putAll, Act.put, List.setIfInBounds_toArray, List.set_cons_zero, List.set_cons_succ]; done) | (simp only [putAll, Act.put, List.setIfInBounds_toArray, List.set_cons_zero, List.set_cons_succ]; rfl)) (hJ3_7 (.slice Ao30 y170.length co30) _ ⟨(by (with_reducible repeat (first | apply Kd.R_alloc | apply Kd.R_drewN | apply Kd.R_drew)); exact HO172.out), (by (with_reducible repeat (first | apply Kd.S_alloc | apply Kd.S_drewN | apply Kd.S_drew)); exact Kd.S_mono HO_11.out (fun _ hk => hk.2)), (by repeat (first | (with_reducible first | exact HB.out | apply below_alloc | apply pw_below_drewN | apply below_drew1) | exact HB.out))⟩)
                              · skip
                                refine box_step ?hg (N := 13) ?hd (cs := #[.int .i64 0, .int .i64 0, .bool false, .slice none 0 0, .slice none 0 0]) (t := 24) ?hr ?_; (case hd => rfl); (case hg => rfl); (case hr => first | (go_simp; done) | (go_simp; rfl))
                                intro gb173 hg w28 hbox hb
                                have n0_ := Aside0.mk (Kd.S_below (Kd.S_elderB (by (with_reducible repeat (first | apply Kd.S_alloc | apply Kd.S_drewN | apply Kd.S_drew)); exact HO_11.out) gb173 (Nat.le_of_eq hg.symm)) hb)
                                have n1_ := Aside0.mk (below_step (by repeat (first | (with_reducible first | exact HB.out | apply below_alloc | apply pw_below_drewN | apply below_drew1) | exact HB.out)) hb)
                                have n2_ := Aside0.mk (hbox)
                                have n3_ := Aside0.mk ((by rw [hg]; exact (below_size (by repeat (first | (with_reducible first | exact HB.out | apply below_alloc | apply pw_below_drewN | apply below_drew1) | exact HB.out))) : w.heap.size ≤ gb173))
                                have n4_ := Aside0.mk ((by rw [hg]; exact (below_size (by repeat (first | (with_reducible first | exact HB.out | apply below_alloc | apply pw_below_drewN | apply below_drew1) | exact HB.out))) : w.heap.size ≤ gb173))
                                clear HO_11
                                clear HB
                                have HO_11 := n0_
                                have HB := n1_
                                have BK173 := n2_
                                have GW173 := n3_
                                have GE173 := n4_
                                clear n0_ n1_ n2_ n3_ n4_
                                clear hb hbox hg
                                refine hK.out _ _ trivial (fun hHeld => ?_)
                                clear hK K
                                refine norm_ (a' := ?_) ?_ ?_
                                rotate_left
                                · show Act.put _ (some 13) _ = _
                                  simp only [Act.put, List.setIfInBounds_toArray, List.set_cons_zero, List.set_cons_succ, i64_w, i32_w]
                                  rfl
                                exact norm_ (by first | (simp only [putAll, Act.put, List.setIfInBounds_toArray, List.set_cons_zero, List.set_cons_succ]; done) | (simp only [putAll, Act.put, List.setIfInBounds_toArray, List.set_cons_zero, List.set_cons_succ]; rfl)) (hJ3_9 (gb173) _ ⟨(by (with_reducible repeat (first | apply Kd.S_alloc | apply Kd.S_drewN | apply Kd.S_drew)); exact Kd.S_mono HO_11.out (fun _ hk => hk.2)), (by (with_reducible repeat (first | refine blk_drewN ?_ _ | refine blk_drew ?_ | refine blk_alloc ?_ _)); exact BK173.out), GW173.out, GE173.out, (by repeat (first | (with_reducible first | exact HB.out | apply below_alloc | apply pw_below_drewN | apply below_drew1 | refine below_set ?_ GE173.out) | exact HB.out))⟩)
                          · skip
                            rintro ⟨v171, gb173⟩ w29 ⟨h0_, h1_, h2_, h3_, h4_, h5_⟩
                            have n0_ : Aside0 (Kd.R (Kd.int .i64) 3 w29 w.heap.size (fun _ => True) v171 y170) := ⟨h0_⟩
                            have n1_ : Aside0 (Kd.S k24 24 w29 w.heap.size (fun k_ => some k_ ≠ (v171 : Value).ownBlock ∧ k_ ≠ gb173) u11 x11_2) := ⟨h1_⟩
                            have n2_ : Aside0 (w29.heap[gb173]? = some (.cells #[.int .i64 0, .int .i64 0, .bool false, .slice none 0 0, .slice none 0 0] 24 (0, 0))) := ⟨h2_⟩
                            have n3_ : Aside0 (w.heap.size ≤ gb173) := ⟨h3_⟩
                            have n4_ : Aside0 (w.heap.size ≤ gb173) := ⟨h4_⟩
                            have n5_ : Aside0 (Below w.heap.size w w29) := ⟨h5_⟩
                            clear HO_11
                            clear HB
                            clear h0_ h1_ h2_ h3_ h4_ h5_
                            have HO172 := n0_
                            have HO_11 := n1_
                            have BK173 := n2_
                            have GW173 := n3_
                            have GE173 := n4_
                            have HB := n5_
                            clear n0_ n1_ n2_ n3_ n4_ n5_
                            have hHeld := trivial
                            refine norm_ (a' := ?_) ?_ ?_
                            rotate_left
                            · simp only [putAll, Act.put, List.setIfInBounds_toArray, List.set_cons_zero, List.set_cons_succ]
                              rfl
                            refine one_ (i := 3) (N := some 37) #[true, true, true, true, true, true, true, true, false, true, false] rfl rfl (one_of HT_.out (by kernel_rfl)) (by decide) (fun K hK => ?_)
                            refine goes_ Try.func15 (by kernel_rfl) rfl #[.int .i64 a1, .int .i64 x31_2] (by rfl) rfl rfl (by (try simp only [List.map_toArray, List.map_cons, List.map_nil]); first | done | rfl | (simp only [List.length_drop, List.length_take]; rfl)) ?_
                            with_reducible refine (stream_Count.calls k2 a1 x31_2 t169 _ A22.out).mono ?_
                            rintro e w30 ⟨rfl, hb⟩
                            refine ⟨_, rfl, ?_⟩
                            have n0_ := Aside0.mk (Kd.S_below (by (with_reducible repeat (first | apply Kd.S_alloc | apply Kd.S_drewN | apply Kd.S_drew)); exact HO_11.out) hb)
                            have n1_ := Aside0.mk (Kd.R_below (by (with_reducible repeat (first | apply Kd.R_alloc | apply Kd.R_drewN | apply Kd.R_drew)); exact HO172.out) hb)
                            have n2_ := Aside0.mk (blk_below (g := gb173) (o := .cells #[.int .i64 0, .int .i64 0, .bool false, .slice none 0 0, .slice none 0 0] 24 (0, 0)) (by (with_reducible repeat (first | refine blk_drewN ?_ _ | refine blk_drew ?_ | refine blk_alloc ?_ _)); exact BK173.out) hb)
                            have n3_ := Aside0.mk (below_step (by repeat (first | (with_reducible first | exact HB.out | apply below_alloc | apply pw_below_drewN | apply below_drew1 | refine below_set ?_ GE173.out) | exact HB.out)) hb)
                            clear HO_11
                            clear HO172
                            clear BK173
                            clear HB
                            have HO_11 := n0_
                            have HO172 := n1_
                            have BK173 := n2_
                            have HB := n3_
                            clear n0_ n1_ n2_ n3_
                            (try clear hb)
                            (try clear hb2)
                            (try clear hk)
                            (try clear hi)
                            obtain ⟨Ao31, co31, eo31⟩ := Kd.R_slice HO172.out
                            (first | subst eo31 | (injection eo31 with f1_ f2_ f3_; have f4_ := f1_.symm; have f5_ := f3_.symm; clear f1_ f2_ f3_; subst f4_; subst f5_))
                            refine hK.out _ _ trivial (fun hHeld => ?_)
                            clear hK K
                            refine norm_ (a' := ?_) ?_ ?_
                            rotate_left
                            · show Act.put _ (some 37) _ = _
                              simp only [Act.put, List.setIfInBounds_toArray, List.set_cons_zero, List.set_cons_succ, i64_w, i32_w]
                              rfl
                            refine pure_ (i := 8) (N := some 42) (v := ?_) (a' := ?_) #[true, true, true, true, true, true, true, true, true, true, false] rfl rfl (any_of HT_.out (by kernel_rfl)) (fun _ _ _ h => h) (Or.inl ⟨by rfl, ?_⟩) ?_ ?_
                            rotate_left
                            · intro w'
                              go_simp
                              with_reducible rfl
                            rotate_left
                            · simp only [Act.put, List.setIfInBounds_toArray, List.set_cons_zero, List.set_cons_succ, i64_w, i32_w]
                              rfl
                            exact norm_ (by first | (simp only [putAll, Act.put, List.setIfInBounds_toArray, List.set_cons_zero, List.set_cons_succ]; done) | (simp only [putAll, Act.put, List.setIfInBounds_toArray, List.set_cons_zero, List.set_cons_succ]; rfl)) (hJ3_7_9 (.slice Ao31 y170.length co31, gb173) _ ⟨(by (with_reducible repeat (first | apply Kd.R_alloc | apply Kd.R_drewN | apply Kd.R_drew)); exact HO172.out), (by (with_reducible repeat (first | apply Kd.S_alloc | apply Kd.S_drewN | apply Kd.S_drew)); exact HO_11.out), (by (with_reducible repeat (first | refine blk_drewN ?_ _ | refine blk_drew ?_ | refine blk_alloc ?_ _)); exact BK173.out), GW173.out, GE173.out, (by repeat (first | (with_reducible first | exact HB.out | apply below_alloc | apply pw_below_drewN | apply below_drew1 | refine below_set ?_ GE173.out) | exact HB.out))⟩)
                        · skip
                          rintro gb173 w28 ⟨h0_, h1_, h2_, h3_, h4_⟩
                          have n0_ : Aside0 (Kd.S k24 24 w28 w.heap.size (fun k_ => k_ ≠ gb173) u11 x11_2) := ⟨h0_⟩
                          have n1_ : Aside0 (w28.heap[gb173]? = some (.cells #[.int .i64 0, .int .i64 0, .bool false, .slice none 0 0, .slice none 0 0] 24 (0, 0))) := ⟨h1_⟩
                          have n2_ : Aside0 (w.heap.size ≤ gb173) := ⟨h2_⟩
                          have n3_ : Aside0 (w.heap.size ≤ gb173) := ⟨h3_⟩
                          have n4_ : Aside0 (Below w.heap.size w w28) := ⟨h4_⟩
                          clear HO_11
                          clear HB
                          clear h0_ h1_ h2_ h3_ h4_
                          have HO_11 := n0_
                          have BK173 := n1_
                          have GW173 := n2_
                          have GE173 := n3_
                          have HB := n4_
                          clear n0_ n1_ n2_ n3_ n4_
                          have hHeld := trivial
                          refine norm_ (a' := ?_) ?_ ?_
                          rotate_left
                          · simp only [putAll, Act.put, List.setIfInBounds_toArray, List.set_cons_zero, List.set_cons_succ]
                            rfl
                          refine one_ (i := 7) (N := some 41) #[true, true, true, true, true, true, true, true, false, true, false] rfl rfl (one_of HT_.out (by kernel_rfl)) (by decide) (fun K hK => ?_)
                          refine Kd.R_make_step (Kd.int .i64) _ 3 (by rfl) (N := 41) rfl 22 _ _ rfl (l3.length : Int) rfl rfl Try.underlying22 (.int .i64 0) 8 info3 rfl (by decide) (by omega) 0 (ok := fun _ => True) (okp := fun _ => True) rfl (fun _ hk => hk) trivial (of_decide_eq_true (by first | (with_reducible assumption) | assumption)) (Nat.le_trans (Nat.mul_le_mul_right _ (of_decide_eq_true (by first | (with_reducible assumption) | assumption) : (l3.length : Int).toNat ≤ 35184372088832)) (by omega)) (Below.refl _ _) (Nat.le_refl _) ?_
                          intro v171 w29 ho30 hb hg_ hnew_
                          clear hg_ hnew_
                          (first | rw [← Ny170.out] at ho30 | (simp only [Int.reduceToNat] at ho30; rw [← Ny170.out] at ho30))
                          have n0_ := Aside0.mk (Kd.S_elder' (by (with_reducible repeat (first | apply Kd.S_alloc | apply Kd.S_drewN | apply Kd.S_drew)); exact HO_11.out) (Kd.R_base ho30) hb)
                          have n1_ := Aside0.mk (Kd.R_lower ho30 (below_size (by repeat (first | (with_reducible first | exact HB.out | apply below_alloc | apply pw_below_drewN | apply below_drew1 | refine below_set ?_ GE173.out) | exact HB.out))))
                          have n2_ := Aside0.mk (blk_below (g := gb173) (o := .cells #[.int .i64 0, .int .i64 0, .bool false, .slice none 0 0, .slice none 0 0] 24 (0, 0)) (by (with_reducible repeat (first | refine blk_drewN ?_ _ | refine blk_drew ?_ | refine blk_alloc ?_ _)); exact BK173.out) hb)
                          have n3_ := Aside0.mk (below_step (by repeat (first | (with_reducible first | exact HB.out | apply below_alloc | apply pw_below_drewN | apply below_drew1 | refine below_set ?_ GE173.out) | exact HB.out)) hb)
                          clear HO_11
                          clear BK173
                          clear HB
                          have HO_11 := n0_
                          have HO172 := n1_
                          have BK173 := n2_
                          have HB := n3_
                          clear n0_ n1_ n2_ n3_
                          clear hb ho30
                          obtain ⟨Ao31, co31, eo31⟩ := Kd.R_slice HO172.out
                          (first | subst eo31 | (injection eo31 with f1_ f2_ f3_; have f4_ := f1_.symm; have f5_ := f3_.symm; clear f1_ f2_ f3_; subst f4_; subst f5_))
                          refine hK.out _ _ trivial (fun hHeld => ?_)
                          clear hK K
                          refine norm_ (a' := ?_) ?_ ?_
                          rotate_left
                          · show Act.put _ (some 41) _ = _
                            simp only [Act.put, List.setIfInBounds_toArray, List.set_cons_zero, List.set_cons_succ, i64_w, i32_w]
                            rfl
                          refine pure_ (i := 8) (N := some 42) (v := ?_) (a' := ?_) #[true, true, true, true, true, true, true, true, true, true, false] rfl rfl (any_of HT_.out (by kernel_rfl)) (fun _ _ _ h => h) (Or.inl ⟨by rfl, ?_⟩) ?_ ?_
                          rotate_left
                          · intro w'
                            go_simp
                            with_reducible rfl
                          rotate_left
                          · simp only [Act.put, List.setIfInBounds_toArray, List.set_cons_zero, List.set_cons_succ, i64_w, i32_w]
                            rfl
                          exact norm_ (by first | (simp only [putAll, Act.put, List.setIfInBounds_toArray, List.set_cons_zero, List.set_cons_succ]; done) | (simp only [putAll, Act.put, List.setIfInBounds_toArray, List.set_cons_zero, List.set_cons_succ]; rfl)) (hJ3_7_9 (.slice Ao31 y170.length co31, gb173) _ ⟨(by (with_reducible repeat (first | apply Kd.R_alloc | apply Kd.R_drewN | apply Kd.R_drew)); exact HO172.out), (by (with_reducible repeat (first | apply Kd.S_alloc | apply Kd.S_drewN | apply Kd.S_drew)); exact Kd.S_mono HO_11.out (fun _ hk => ⟨hk.2, hk.1⟩)), (by (with_reducible repeat (first | refine blk_drewN ?_ _ | refine blk_drew ?_ | refine blk_alloc ?_ _)); exact BK173.out), GW173.out, GE173.out, (by repeat (first | (with_reducible first | exact HB.out | apply below_alloc | apply pw_below_drewN | apply below_drew1 | refine below_set ?_ GE173.out) | exact HB.out))⟩)
                      · skip
                        rintro v171 w30 ⟨h0_, h1_, h2_⟩
                        have n0_ : Aside0 (Kd.R (Kd.int .i64) 3 w30 w.heap.size (fun _ => True) v171 y170) := ⟨h0_⟩
                        have n1_ : Aside0 (Kd.S k24 24 w30 w.heap.size (fun k_ => some k_ ≠ (v171 : Value).ownBlock) u11 x11_2) := ⟨h1_⟩
                        have n2_ : Aside0 (Below w.heap.size w w30) := ⟨h2_⟩
                        clear HO_11
                        clear HB
                        clear h0_ h1_ h2_
                        have HO172 := n0_
                        have HO_11 := n1_
                        have HB := n2_
                        clear n0_ n1_ n2_
                        have hHeld := trivial
                        obtain ⟨Ao31, co31, eo31⟩ := Kd.R_slice HO172.out
                        (first | subst eo31 | (injection eo31 with f1_ f2_ f3_; have f4_ := f1_.symm; have f5_ := f3_.symm; clear f1_ f2_ f3_; subst f4_; subst f5_))
                        refine norm_ (a' := ?_) ?_ ?_
                        rotate_left
                        · simp only [putAll, Act.put, List.setIfInBounds_toArray, List.set_cons_zero, List.set_cons_succ]
                          rfl
                        refine one_ (i := 9) (N := some 13) #[true, true, true, true, true, true, true, true, true, true, false] rfl rfl (one_of HT_.out (by kernel_rfl)) (by decide) (fun K hK => ?_)
                        refine box_step ?hg (N := 13) ?hd (cs := #[.int .i64 0, .int .i64 0, .bool false, .slice none 0 0, .slice none 0 0]) (t := 24) ?hr ?_; (case hd => rfl); (case hg => rfl); (case hr => first | (go_simp; done) | (go_simp; rfl))
                        intro gb173 hg w32 hbox hb
                        have n0_ := Aside0.mk (Kd.S_below (Kd.S_elderB (by (with_reducible repeat (first | apply Kd.S_alloc | apply Kd.S_drewN | apply Kd.S_drew)); exact HO_11.out) gb173 (Nat.le_of_eq hg.symm)) hb)
                        have n1_ := Aside0.mk (Kd.R_below (by (with_reducible repeat (first | apply Kd.R_alloc | apply Kd.R_drewN | apply Kd.R_drew)); exact HO172.out) hb)
                        have n2_ := Aside0.mk (below_step (by repeat (first | (with_reducible first | exact HB.out | apply below_alloc | apply pw_below_drewN | apply below_drew1) | exact HB.out)) hb)
                        have n3_ := Aside0.mk (hbox)
                        have n4_ := Aside0.mk ((by rw [hg]; exact (below_size (by repeat (first | (with_reducible first | exact HB.out | apply below_alloc | apply pw_below_drewN | apply below_drew1) | exact HB.out))) : w.heap.size ≤ gb173))
                        have n5_ := Aside0.mk ((by rw [hg]; exact (below_size (by repeat (first | (with_reducible first | exact HB.out | apply below_alloc | apply pw_below_drewN | apply below_drew1) | exact HB.out))) : w.heap.size ≤ gb173))
                        clear HO_11
                        clear HO172
                        clear HB
                        have HO_11 := n0_
                        have HO172 := n1_
                        have HB := n2_
                        have BK173 := n3_
                        have GW173 := n4_
                        have GE173 := n5_
                        clear n0_ n1_ n2_ n3_ n4_ n5_
                        clear hb hbox hg
                        refine hK.out _ _ trivial (fun hHeld => ?_)
                        clear hK K
                        refine norm_ (a' := ?_) ?_ ?_
                        rotate_left
                        · show Act.put _ (some 13) _ = _
                          simp only [Act.put, List.setIfInBounds_toArray, List.set_cons_zero, List.set_cons_succ, i64_w, i32_w]
                          rfl
                        exact norm_ (by first | (simp only [putAll, Act.put, List.setIfInBounds_toArray, List.set_cons_zero, List.set_cons_succ]; done) | (simp only [putAll, Act.put, List.setIfInBounds_toArray, List.set_cons_zero, List.set_cons_succ]; rfl)) (hJ3_7_9 (.slice Ao31 y170.length co31, gb173) _ ⟨(by (with_reducible repeat (first | apply Kd.R_alloc | apply Kd.R_drewN | apply Kd.R_drew)); exact HO172.out), (by (with_reducible repeat (first | apply Kd.S_alloc | apply Kd.S_drewN | apply Kd.S_drew)); exact HO_11.out), (by (with_reducible repeat (first | refine blk_drewN ?_ _ | refine blk_drew ?_ | refine blk_alloc ?_ _)); exact BK173.out), GW173.out, GE173.out, (by repeat (first | (with_reducible first | exact HB.out | apply below_alloc | apply pw_below_drewN | apply below_drew1 | refine below_set ?_ GE173.out) | exact HB.out))⟩)
                    rintro ⟨v171, gb173⟩ w31 ⟨h0_, h1_, h2_, h3_, h4_, h5_⟩
                    have n0_ : Aside0 (Kd.R (Kd.int .i64) 3 w31 w.heap.size (fun _ => True) v171 y170) := ⟨h0_⟩
                    have n1_ : Aside0 (Kd.S k24 24 w31 w.heap.size (fun k_ => some k_ ≠ (v171 : Value).ownBlock ∧ k_ ≠ gb173) u11 x11_2) := ⟨h1_⟩
                    have n2_ : Aside0 (w31.heap[gb173]? = some (.cells #[.int .i64 0, .int .i64 0, .bool false, .slice none 0 0, .slice none 0 0] 24 (0, 0))) := ⟨h2_⟩
                    have n3_ : Aside0 (w.heap.size ≤ gb173) := ⟨h3_⟩
                    have n4_ : Aside0 (w.heap.size ≤ gb173) := ⟨h4_⟩
                    have n5_ : Aside0 (Below w.heap.size w w31) := ⟨h5_⟩
                    clear HO_11
                    clear HB
                    clear h0_ h1_ h2_ h3_ h4_ h5_
                    have HO172 := n0_
                    have HO_11 := n1_
                    have BK173 := n2_
                    have GW173 := n3_
                    have GE173 := n4_
                    have HB := n5_
                    clear n0_ n1_ n2_ n3_ n4_ n5_
                    have hHeld := trivial
                    obtain ⟨Ao32, co32, eo32⟩ := Kd.R_slice HO172.out
                    (first | subst eo32 | (injection eo32 with f1_ f2_ f3_; have f4_ := f1_.symm; have f5_ := f3_.symm; clear f1_ f2_ f3_; subst f4_; subst f5_))
                    refine norm_ (a' := ?_) ?_ ?_
                    rotate_left
                    · simp only [putAll, Act.put, List.setIfInBounds_toArray, List.set_cons_zero, List.set_cons_succ]
                      rfl
                    refine one_ (i := 10) (N := none) #[true, true, true, true, true, true, true, true, true, true, true] rfl rfl (one_of HT_.out (by kernel_rfl)) (by decide) (fun K hK => ?_)
                    have hs33 : w31.cell? ⟨gb173, 0, none⟩ = some (.int .i64 0) := (blk_cell BK173.out 0).trans rfl
                    have hfs33 := blk_frozen BK173.out 0
                    have hs34 : w31.cell? ⟨gb173, 1, none⟩ = some (.int .i64 0) := (blk_cell BK173.out 1).trans rfl
                    have hfs34 := blk_frozen BK173.out 1
                    have hs35 : w31.cell? ⟨gb173, 2, none⟩ = some (.bool false) := (blk_cell BK173.out 2).trans rfl
                    have hfs35 := blk_frozen BK173.out 2
                    have hs36 : w31.cell? ⟨gb173, 3, none⟩ = some (.slice none 0 0) := (blk_cell BK173.out 3).trans rfl
                    have hfs36 := blk_frozen BK173.out 3
                    have hs37 : w31.cell? ⟨gb173, 4, none⟩ = some (.slice none 0 0) := (blk_cell BK173.out 4).trans rfl
                    have hfs37 := blk_frozen BK173.out 4
                    refine skip_ (w1 := ?_) (by rfl) rfl ?_ ?_
                    rotate_left
                    · go_simp
                      rfl
                    refine hK.out _ _ trivial (fun hHeld => ?_)
                    clear hK K
                    refine done_ (done_of HT_.out (by kernel_rfl)) ?_
                    try go_wp2
                    go_loopg [45] k2 (fun kq v45 w' => ∃ (x45_3 : Int) (x174003_3 : List Int) (u174003 : Value), v45 = .int .i64 x45_3 ∧ Aside0 (stream_Split.l1 kq a0 a1 a2 l3 x11_2 x31_2 x31_2 l3 (l3.length : Int) x45_3 a0 t169 a2 x174003_3 y170 = some (r1, r2)) ∧ Aside0 (kq ≤ k2) ∧ Aside0 (Kd.S k24 24 w' w.heap.size (fun k_ => some k_ ≠ (u174003 : Value).ownBlock ∧ some k_ ≠ ((.slice Ao32 y170.length co32) : Value).ownBlock ∧ k_ ≠ gb173) u11 x11_2) ∧ Aside0 (Kd.R (Kd.int .i64) 3 w' w.heap.size (fun k_ => some k_ ≠ ((.slice Ao32 y170.length co32) : Value).ownBlock) u174003 x174003_3) ∧ Aside0 (Kd.R (Kd.int .i64) 3 w' w.heap.size (fun k_ => some k_ ≠ (u174003 : Value).ownBlock) (.slice Ao32 y170.length co32) y170) ∧ Aside0 (w'.heap[gb173]? = some (.cells #[.int .i64 a0, .int .i64 t169, .bool a2, u174003, (.slice Ao32 y170.length co32)] 24 (0, 0))) ∧ Aside0 (Below w.heap.size w w'))
                    case atStart => exact ⟨(0), (([] : List Int)), (.slice none 0 0), (by first | rfl | (simp; done) | (simp [*]; done)), H', ⟨Nat.le_refl _⟩, ⟨by (with_reducible repeat (first | apply Kd.S_alloc | apply Kd.S_drewN | apply Kd.S_drew)); exact Kd.S_mono (Kd.S_far (p := ⟨gb173, 4, none⟩) (Kd.S_far (p := ⟨gb173, 3, none⟩) (Kd.S_far (p := ⟨gb173, 2, none⟩) (Kd.S_far (p := ⟨gb173, 1, none⟩) (Kd.S_far (p := ⟨gb173, 0, none⟩) (Kd.S_mono HO_11.out (fun k_ hk => (⟨hk, hk.2⟩ : _ ∧ k_ ≠ gb173))) (fun _ hk => hk.2) (.int .i64 a0)) (fun _ hk => hk.2) (.int .i64 t169)) (fun _ hk => hk.2) (.bool a2)) (fun _ hk => hk.2) (.slice none 0 0)) (fun _ hk => hk.2) (.slice Ao32 y170.length co32)) (fun _ hk => ⟨(by simp [Value.ownBlock]), ⟨hk.1.1, hk.1.2⟩⟩)⟩, ⟨by first | exact Kd.R_nil _ _ _ _ _ | exact Kd.N_nil _ _ _ _ _ | exact Kd.V_nil _ _ _ _ _ | exact Kd.Q_nil _ _ _ _ _ | exact Kd.S_nil _ _ _ _ _⟩, ⟨by (with_reducible repeat (first | apply Kd.R_alloc | apply Kd.R_drewN | apply Kd.R_drew)); exact Kd.R_mono (Kd.R_far (p := ⟨gb173, 4, none⟩) (Kd.R_far (p := ⟨gb173, 3, none⟩) (Kd.R_far (p := ⟨gb173, 2, none⟩) (Kd.R_far (p := ⟨gb173, 1, none⟩) (Kd.R_far (p := ⟨gb173, 0, none⟩) (Kd.R_types HO172.out BK173.out (by decide)) (fun _ hk => hk.2) (.int .i64 a0)) (fun _ hk => hk.2) (.int .i64 t169)) (fun _ hk => hk.2) (.bool a2)) (fun _ hk => hk.2) (.slice none 0 0)) (fun _ hk => hk.2) (.slice Ao32 y170.length co32)) (fun _ hk => (by simp [Value.ownBlock]))⟩, ⟨by (with_reducible repeat (first | refine blk_drewN ?_ _ | refine blk_drew ?_ | refine blk_alloc ?_ _)); refine blk_put (cs := #[.int .i64 a0, .int .i64 t169, .bool a2, .slice none 0 0, .slice none 0 0]) ?_ 4 _ rfl; (with_reducible repeat (first | refine blk_drewN ?_ _ | refine blk_drew ?_ | refine blk_alloc ?_ _)); refine blk_put (cs := #[.int .i64 a0, .int .i64 t169, .bool a2, .slice none 0 0, .slice none 0 0]) ?_ 3 _ rfl; (with_reducible repeat (first | refine blk_drewN ?_ _ | refine blk_drew ?_ | refine blk_alloc ?_ _)); refine blk_put (cs := #[.int .i64 a0, .int .i64 t169, .bool false, .slice none 0 0, .slice none 0 0]) ?_ 2 _ rfl; (with_reducible repeat (first | refine blk_drewN ?_ _ | refine blk_drew ?_ | refine blk_alloc ?_ _)); refine blk_put (cs := #[.int .i64 a0, .int .i64 0, .bool false, .slice none 0 0, .slice none 0 0]) ?_ 1 _ rfl; (with_reducible repeat (first | refine blk_drewN ?_ _ | refine blk_drew ?_ | refine blk_alloc ?_ _)); refine blk_put (cs := #[.int .i64 0, .int .i64 0, .bool false, .slice none 0 0, .slice none 0 0]) ?_ 0 _ rfl; (with_reducible repeat (first | refine blk_drewN ?_ _ | refine blk_drew ?_ | refine blk_alloc ?_ _)); exact BK173.out⟩, ⟨by repeat (first | (with_reducible first | exact HB.out | apply below_alloc | apply pw_below_drewN | apply below_drew1 | refine below_set ?_ GE173.out) | exact HB.out)⟩⟩
                    case round =>
                      clear H'
                      try clear c1
                      try clear p2
                      try clear c15
                      obtain ⟨x45_3, x174003_3, u174003, rfl, HA, HK3, HO_11, HO_174003, HO_174004, BK173, HB⟩ := hrel
                      cases gk with
                      | zero => exact absurd HA.out (by simp [stream_Split.l1])
                      | succ k3 =>
                        have H := HA.out
                        clear HA
                        simp only [stream_Split.l1] at H
                        by_cases c38 : x45_3 < (l3.length : Int)
                        · rw [if_pos c38] at H
                          have c38b0 : decide (x45_3 < (l3.length : Int)) = true := decide_eq_true c38
                          clear c38
                          by_cases c39 : 0 ≤ x45_3
                          · rw [if_pos c39] at H
                            have c39b0 : decide (0 ≤ x45_3) = true := decide_eq_true c39
                            clear c39
                            by_cases c40 : x45_3 < (l3.length : Int)
                            · rw [if_pos c40] at H
                              have c40b0 : decide (x45_3 < (l3.length : Int)) = true := decide_eq_true c40
                              clear c40
                              by_cases c41 : 0 ≤ x31_2
                              · rw [if_pos c41] at H
                                have c41b0 : decide (0 ≤ x31_2) = true := decide_eq_true c41
                                clear c41
                                by_cases c42 : x31_2 < ((rd_L2 l3 x45_3).length : Int)
                                · rw [if_pos c42] at H
                                  have c42b0 : decide (x31_2 < ((rd_L2 l3 x45_3).length : Int)) = true := decide_eq_true c42
                                  clear c42
                                  by_cases c43 : x174003_3.length < 17592186044416
                                  · rw [if_pos c43] at H
                                    have LMc43 := Aside0.mk c43
                                    clear c43
                                    obtain ⟨y176, hy176⟩ : ∃ y_ : List Int, y_ = (x174003_3 ++ [rd (rd_L2 l3 x45_3) x31_2]) := ⟨_, rfl⟩
                                    replace H : (stream_Split.l1 k3 a0 a1 a2 l3 x11_2 x31_2 x31_2 l3 (l3.length : Int) (wrap64 (x45_3 + 1)) a0 t169 a2 y176 y170) = some (r1, r2) := by first | (rw [hy176]; with_reducible exact H) | (have H2_ := (Option.bind_some _ _).symm.trans H; rw [hy176]; with_reducible exact H2_) | (have H2_ := (Option.bind_some _ _).symm.trans H; with_reducible exact H2_) | with_reducible exact H | (rw [hy176]; exact H) | exact H
                                    have Ny176 := Aside0.mk hy176
                                    clear hy176
                                    have H' := Aside0.mk H
                                    clear H
                                    have p174 : 0 ≤ (x45_3 : Int) := of_decide_eq_true (by first | (with_reducible assumption) | assumption)
                                    have q174 : x45_3 < (l3.length : Int) := of_decide_eq_true (by first | (with_reducible assumption) | assumption)
                                    obtain ⟨ad174, A174_0, c174_0, e174, hx174_0, hl174_0, hi174_0⟩ := at_L2 HR3.out x45_3 p174 q174
                                    cases e174
                                    replace hx174_0 := (HB.out.cell (World.block_lt_of_cell? w _ hx174_0)).trans hx174_0
                                    have HR174_0 := Aside0.mk hi174_0
                                    have HC174_0 := Aside0.mk hl174_0
                                    clear hi174_0 hl174_0
                                    replace p174 := eq_true p174
                                    replace q174 := eq_true q174
                                    try go_wp2
                                    have n0_ := Aside0.mk (Kd.S_drew HO_11.out)
                                    have n1_ := Aside0.mk (Kd.R_drew HO_174003.out)
                                    have n2_ := Aside0.mk (Kd.R_drew HO_174004.out)
                                    have n3_ := Aside0.mk (blk_drew BK173.out)
                                    have n4_ := Aside0.mk (below_drew1 HB.out)
                                    clear HO_11
                                    clear HO_174003
                                    clear HO_174004
                                    clear BK173
                                    clear HB
                                    have HO_11 := n0_
                                    have HO_174003 := n1_
                                    have HO_174004 := n2_
                                    have BK173 := n3_
                                    have HB := n4_
                                    clear n0_ n1_ n2_ n3_ n4_
                                    have p175 : 0 ≤ (x31_2 : Int) := of_decide_eq_true (by first | (with_reducible assumption) | assumption)
                                    have q175 : x31_2 < ((rd_L2 l3 x45_3).length : Int) := of_decide_eq_true (by first | (with_reducible assumption) | assumption)
                                    obtain ⟨ad175, e175, hx175_0⟩ := Kd.at_int HR174_0.out x31_2 p175 q175
                                    have hw175_0 := hx175_0
                                    cases e175
                                    replace hx175_0 := (HB.out.cell (World.block_lt_of_cell? w _ hx175_0)).trans hx175_0
                                    replace p175 := eq_true p175
                                    replace q175 := eq_true q175
                                    refine start_ (n := 10) (S := fun w' => w'.cell? ⟨gb173, 0, none⟩ = some (.int .i64 a0) ∧ w'.cell? ⟨gb173, 1, none⟩ = some (.int .i64 t169) ∧ w'.cell? ⟨gb173, 2, none⟩ = some (.bool a2) ∧ w'.cell? ⟨gb173, 3, none⟩ = some (u174003) ∧ w'.cell? ⟨gb173, 4, none⟩ = some (.slice Ao32 y170.length co32) ∧ w'.cell? (ad175.add (x31_2).toNat) = some (.int .i64 (rd (rd_L2 l3 x45_3) x31_2))) (ds := [9]) #[false, false, false, false, false, false, false, false, false, false] (by kernel_rfl) rfl rfl ⟨(blk_cell BK173.out 0).trans rfl, (blk_cell BK173.out 1).trans rfl, (blk_cell BK173.out 2).trans rfl, (blk_cell BK173.out 3).trans rfl, (blk_cell BK173.out 4).trans rfl, ((HB.out.cell (World.block_lt_of_cell? w _ hw175_0)).trans hw175_0)⟩ (fun hHeld => ?_); refine with_tabW stream_Split.tab14 stream_Split.bits14 (fun HT_ HW_ => ?_)
                                    generalize wr.drew = w44 at HO_11 HO_174003 HO_174004 BK173 HB hx175_0 hHeld ⊢
                                    refine pure_ (i := 0) (N := some 49) (v := ?_) (a' := ?_) #[true, false, false, false, false, false, false, false, false, false] rfl rfl (any_of HT_.out (by kernel_rfl)) (fun _ _ _ h => h) (Or.inl ⟨by rfl, ?_⟩) ?_ ?_
                                    rotate_left
                                    · intro w'
                                      go_simp
                                      with_reducible rfl
                                    rotate_left
                                    · simp only [Act.put, List.setIfInBounds_toArray, List.set_cons_zero, List.set_cons_succ, i64_w, i32_w]
                                      rfl
                                    refine pure_ (i := 2) (N := some 51) (v := ?_) (a' := ?_) #[true, false, true, false, false, false, false, false, false, false] rfl rfl (any_of HT_.out (by kernel_rfl)) (fun _ _ _ h => h) (Or.inl ⟨by rfl, ?_⟩) ?_ ?_
                                    rotate_left
                                    · intro w'
                                      go_simp
                                      with_reducible rfl
                                    rotate_left
                                    · simp only [Act.put, List.setIfInBounds_toArray, List.set_cons_zero, List.set_cons_succ, i64_w, i32_w]
                                      rfl
                                    refine pure_ (i := 3) (N := some 52) (v := ?_) (a' := ?_) #[true, false, true, true, false, false, false, false, false, false] rfl rfl (any_of HT_.out (by kernel_rfl)) (fun _ _ _ h => h) (Or.inl ⟨by rfl, ?_⟩) ?_ ?_
                                    rotate_left
                                    · intro w'
                                      go_simp
                                      with_reducible rfl
                                    rotate_left
                                    · simp only [Act.put, List.setIfInBounds_toArray, List.set_cons_zero, List.set_cons_succ, i64_w, i32_w]
                                      rfl
                                    refine pure_ (i := 4) (N := some 53) (v := ?_) (a' := ?_) #[true, false, true, true, true, false, false, false, false, false] rfl rfl (any_of HT_.out (by kernel_rfl)) (fun _ _ _ h => h) (Or.inl ⟨by rfl, ?_⟩) ?_ ?_
                                    rotate_left
                                    · intro w'
                                      go_simp
                                      with_reducible rfl
                                    rotate_left
                                    · simp only [Act.put, List.setIfInBounds_toArray, List.set_cons_zero, List.set_cons_succ, i64_w, i32_w]
                                      rfl
                                    refine take_ (i := 1) (N := some 50) (v := ?_) (a' := ?_) #[true, true, true, true, true, false, false, false, false, false] rfl rfl (take_ofW HT_.out HW_.out (by kernel_rfl)) (fun _ _ _ h => h) (Or.inl ⟨by rfl, ?_⟩) hHeld ?_ ?_
                                    rotate_left
                                    · rintro w' ⟨s0, s1, s2, s3, s4, s5⟩
                                      go_simp
                                      with_reducible rfl
                                    rotate_left
                                    · simp only [Act.put, List.setIfInBounds_toArray, List.set_cons_zero, List.set_cons_succ, i64_w, i32_w]
                                      rfl
                                    refine take_ (i := 5) (N := some 54) (v := ?_) (a' := ?_) #[true, true, true, true, true, true, false, false, false, false] rfl rfl (take_ofW HT_.out HW_.out (by kernel_rfl)) (fun _ _ _ h => h) (Or.inl ⟨by rfl, ?_⟩) hHeld ?_ ?_
                                    rotate_left
                                    · rintro w' ⟨s0, s1, s2, s3, s4, s5⟩
                                      go_simp
                                      with_reducible rfl
                                    rotate_left
                                    · simp only [Act.put, List.setIfInBounds_toArray, List.set_cons_zero, List.set_cons_succ, i64_w, i32_w]
                                      rfl
                                    refine one_ (i := 6) (N := some 55) #[true, true, true, true, true, true, true, false, false, false] rfl rfl (one_of HT_.out (by kernel_rfl)) (by decide) (fun K hK => ?_)
                                    refine value_ (w1 := ?_) (v := ?_) (by rfl) rfl ?_ ?_
                                    rotate_left 2
                                    · go_simp
                                      constructor
                                      · rfl
                                      · rfl
                                    refine hK.out _ _ ⟨(blk_cell (blk_alloc BK173.out _) 0).trans rfl, (blk_cell (blk_alloc BK173.out _) 1).trans rfl, (blk_cell (blk_alloc BK173.out _) 2).trans rfl, (blk_cell (blk_alloc BK173.out _) 3).trans rfl, (blk_cell (blk_alloc BK173.out _) 4).trans rfl, (World.cell?_alloc_lt _ _ _ (World.block_lt_of_cell? _ _ (((HB.out.cell (World.block_lt_of_cell? w _ hw175_0)).trans hw175_0)))).trans (((HB.out.cell (World.block_lt_of_cell? w _ hw175_0)).trans hw175_0))⟩ (fun hHeld => ?_)
                                    clear hK K
                                    refine norm_ (a' := ?_) ?_ ?_
                                    rotate_left
                                    · show Act.put _ (some 55) _ = _
                                      simp only [Act.put, List.setIfInBounds_toArray, List.set_cons_zero, List.set_cons_succ, i64_w, i32_w]
                                      rfl
                                    refine one_ (i := 7) (N := some 56) #[true, true, true, true, true, true, true, true, false, false] rfl rfl (one_of HT_.out (by kernel_rfl)) (by decide) (fun K hK => ?_)
                                    refine Kd.R_append_step (Kd.int .i64) (w0 := w) w.heap.size (by rfl) (.tmp 50) (.tmp 55) 22 3 (.int .i64 0) 8 rfl Try.underlying22 info3 rfl (by decide) (by omega) u174003 x174003_3 (rd (rd_L2 l3 x45_3) x31_2) [.int .i64 (rd (rd_L2 l3 x45_3) x31_2)] (fun k_ => some k_ ≠ (.slice Ao32 y170.length co32 : Value).ownBlock) (fun _ => False) rfl rfl ?aP (fun _ hk => hk.elim) ?aF ?aO ?aB ?aS ?aL ?_
                                    (case aP => exact rfl)
                                    (case aB => exact (by repeat (first | (with_reducible first | exact HB.out | apply below_alloc | apply pw_below_drewN | apply below_drew1 | refine below_set ?_ GE173.out) | exact HB.out)))
                                    (case aF => exact (fun k_ hk => Kd.fresh' (Kd.R_lt (by (with_reducible repeat (first | apply Kd.R_alloc | apply Kd.R_drewN | apply Kd.R_drew)); exact HO_174004.out)) k_ hk))
                                    (case aO => exact (by (with_reducible repeat (first | apply Kd.R_alloc | apply Kd.R_drewN | apply Kd.R_drew)); exact HO_174003.out))
                                    (case aS => exact (below_size (by repeat (first | (with_reducible first | exact HB.out | apply below_alloc | apply pw_below_drewN | apply below_drew1 | refine below_set ?_ GE173.out) | exact HB.out))))
                                    (case aL => have := LMc43.out; omega)
                                    intro v177 w45 ho hb hg hat
                                    rw [← Ny176.out] at ho
                                    have n0_ := Aside0.mk (Kd.S_after (ok := (fun k_ => some k_ ≠ (.slice Ao32 y170.length co32 : Value).ownBlock ∧ k_ ≠ gb173)) (by (with_reducible repeat (first | apply Kd.S_alloc | apply Kd.S_drewN | apply Kd.S_drew)); exact Kd.S_mono HO_11.out (fun _ hk => ⟨⟨hk.2.1, hk.2.2⟩, hk.1⟩)) hg hat)
                                    have n1_ := Aside0.mk (Kd.R_after (ok := (fun _ => True)) (by (with_reducible repeat (first | apply Kd.R_alloc | apply Kd.R_drewN | apply Kd.R_drew)); exact Kd.R_mono HO_174004.out (fun _ hk => ⟨trivial, hk⟩)) hg hat)
                                    have n2_ := Aside0.mk (blk_grown (g := gb173) (o := .cells #[.int .i64 a0, .int .i64 t169, .bool a2, u174003, .slice Ao32 y170.length co32] 24 (0, 0)) (by (with_reducible repeat (first | refine blk_drewN ?_ _ | refine blk_drew ?_ | refine blk_alloc ?_ _)); exact BK173.out) hg (Kd.R_ne HO_174003.out BK173.out (by decide)))
                                    have n3_ := Aside0.mk (hb)
                                    have n4_ := Aside0.mk (ho)
                                    clear HO_11
                                    clear HO_174004
                                    clear BK173
                                    clear HB
                                    clear HO_174003
                                    have HO_11 := n0_
                                    have HO_174004 := n1_
                                    have BK173 := n2_
                                    have HB := n3_
                                    have HO178 := n4_
                                    clear n0_ n1_ n2_ n3_ n4_
                                    clear ho hb hg hat
                                    obtain ⟨Ao46, co46, eo46⟩ := Kd.R_slice HO178.out
                                    (first | subst eo46 | (injection eo46 with f1_ f2_ f3_; have f4_ := f1_.symm; have f5_ := f3_.symm; clear f1_ f2_ f3_; subst f4_; subst f5_))
                                    refine hK.out _ _ ⟨(blk_cell BK173.out 0).trans rfl, (blk_cell BK173.out 1).trans rfl, (blk_cell BK173.out 2).trans rfl, (blk_cell BK173.out 3).trans rfl, (blk_cell BK173.out 4).trans rfl, ((HB.out.cell (World.block_lt_of_cell? w _ hw175_0)).trans hw175_0)⟩ (fun hHeld => ?_)
                                    clear hK K
                                    refine norm_ (a' := ?_) ?_ ?_
                                    rotate_left
                                    · show Act.put _ (some 56) _ = _
                                      simp only [Act.put, List.setIfInBounds_toArray, List.set_cons_zero, List.set_cons_succ, i64_w, i32_w]
                                      rfl
                                    refine pure_ (i := 8) (N := some 57) (v := ?_) (a' := ?_) #[true, true, true, true, true, true, true, true, true, false] rfl rfl (any_of HT_.out (by kernel_rfl)) (fun _ _ _ h => h) (Or.inl ⟨by rfl, ?_⟩) ?_ ?_
                                    rotate_left
                                    · intro w'
                                      go_simp
                                      with_reducible rfl
                                    rotate_left
                                    · simp only [Act.put, List.setIfInBounds_toArray, List.set_cons_zero, List.set_cons_succ, i64_w, i32_w]
                                      rfl
                                    refine last_ (i := 9) (N := none) #[true, true, true, true, true, true, true, true, true, true] rfl rfl (one_of HT_.out (by kernel_rfl)) (by decide) (fun K hK => ?_)
                                    have hs47 : w45.cell? ⟨gb173, 3, none⟩ = some (u174003) := (blk_cell BK173.out 3).trans rfl
                                    have hfs47 := blk_frozen BK173.out 3
                                    refine skip_ (w1 := ?_) (by rfl) rfl ?_ ?_
                                    rotate_left
                                    · go_simp
                                      rfl
                                    refine hK.out _ _ ?_
                                    clear hK K
                                    refine done_ (done_of HT_.out (by kernel_rfl)) ?_
                                    try go_wp2
                                    go_roundg k3
                                    case measure => have := HJ6.out; have := HK2.out; have := HK3.out; omega
                                    case rel => exact ⟨(wrap64 (x45_3 + 1)), (y176), (.slice Ao46 y176.length co46), (by first | rfl | (simp; done) | (simp [*]; done)), H', ⟨by have := HJ6.out; have := HK2.out; have := HK3.out; omega⟩, ⟨by (with_reducible repeat (first | apply Kd.S_alloc | apply Kd.S_drewN | apply Kd.S_drew)); exact Kd.S_mono (Kd.S_far (p := ⟨gb173, 3, none⟩) (Kd.S_mono HO_11.out (fun k_ hk => (⟨hk, hk.1.2⟩ : _ ∧ k_ ≠ gb173))) (fun _ hk => hk.2) (.slice Ao46 y176.length co46)) (fun _ hk => ⟨hk.1.2, ⟨hk.1.1.1, hk.1.1.2⟩⟩)⟩, ⟨by (with_reducible repeat (first | apply Kd.R_alloc | apply Kd.R_drewN | apply Kd.R_drew)); exact Kd.R_mono (Kd.R_far (p := ⟨gb173, 3, none⟩) (Kd.R_types HO178.out BK173.out (by decide)) (fun _ hk => hk.2) (.slice Ao46 y176.length co46)) (fun _ hk => hk.1)⟩, ⟨by (with_reducible repeat (first | apply Kd.R_alloc | apply Kd.R_drewN | apply Kd.R_drew)); exact Kd.R_mono (Kd.R_far (p := ⟨gb173, 3, none⟩) (Kd.R_types HO_174004.out BK173.out (by decide)) (fun _ hk => hk.2) (.slice Ao46 y176.length co46)) (fun _ hk => hk.1.2)⟩, ⟨by (with_reducible repeat (first | refine blk_drewN ?_ _ | refine blk_drew ?_ | refine blk_alloc ?_ _)); refine blk_put (cs := #[.int .i64 a0, .int .i64 t169, .bool a2, u174003, .slice Ao32 y170.length co32]) ?_ 3 _ rfl; (with_reducible repeat (first | refine blk_drewN ?_ _ | refine blk_drew ?_ | refine blk_alloc ?_ _)); exact BK173.out⟩, ⟨by repeat (first | (with_reducible first | exact HB.out | apply below_alloc | apply pw_below_drewN | apply below_drew1 | refine below_set ?_ GE173.out) | exact HB.out)⟩⟩
                                  · rw [if_neg c43] at H
                                    exact absurd H (by simp)
                                · rw [if_neg c42] at H
                                  exact absurd H (by simp)
                              · rw [if_neg c41] at H
                                exact absurd H (by simp)
                            · rw [if_neg c40] at H
                              exact absurd H (by simp)
                          · rw [if_neg c39] at H
                            exact absurd H (by simp)
                        · rw [if_neg c38] at H
                          have c38b0 : decide (x45_3 < (l3.length : Int)) = false := decide_eq_false c38
                          clear c38
                          replace H := Option.bind_eq_some_iff.mp H
                          obtain ⟨t179, A480, H⟩ := H
                          replace H : (if t179 = 0 then (if x11_2.length < 1954687338268 then (stream_Split.l0 k3 a0 a1 a2 l3 (x11_2 ++ [(⟨a0, t169, a2, x174003_3, y170⟩ : S24)]) (wrap64 (x31_2 + 1))) else (none)) else (some (([] : List (S24)), t179))) = some (r1, r2) := H
                          have A48 := Aside0.mk A480
                          clear A480
                          by_cases c49 : t179 = 0
                          · rw [if_pos c49] at H
                            have c49b0 : (t179 == 0) = true := beq_iff_eq.mpr c49
                            have c49b1 : (t179 != 0) = false := bne_eq_false_iff_eq.mpr c49
                            clear c49
                            by_cases c50 : x11_2.length < 1954687338268
                            · rw [if_pos c50] at H
                              have LMc50 := Aside0.mk c50
                              clear c50
                              obtain ⟨y180, hy180⟩ : ∃ y_ : List (S24), y_ = (x11_2 ++ [(⟨a0, t169, a2, x174003_3, y170⟩ : S24)]) := ⟨_, rfl⟩
                              replace H : (stream_Split.l0 k3 a0 a1 a2 l3 y180 (wrap64 (x31_2 + 1))) = some (r1, r2) := by first | (rw [hy180]; with_reducible exact H) | (have H2_ := (Option.bind_some _ _).symm.trans H; rw [hy180]; with_reducible exact H2_) | (have H2_ := (Option.bind_some _ _).symm.trans H; with_reducible exact H2_) | with_reducible exact H | (rw [hy180]; exact H) | exact H
                              have Ny180 := Aside0.mk hy180
                              clear hy180
                              have H' := Aside0.mk H
                              clear H
                              have hcz51_0 : wr.cell? ⟨gb173, 0, none⟩ = some (.int .i64 a0) := (blk_cell BK173.out 0).trans rfl
                              have hcz51_1 : wr.cell? ⟨gb173, 1, none⟩ = some (.int .i64 t169) := (blk_cell BK173.out 1).trans rfl
                              have hcz51_2 : wr.cell? ⟨gb173, 2, none⟩ = some (.bool a2) := (blk_cell BK173.out 2).trans rfl
                              have hcz51_3 : wr.cell? ⟨gb173, 3, none⟩ = some (u174003) := (blk_cell BK173.out 3).trans rfl
                              have hcz51_4 : wr.cell? ⟨gb173, 4, none⟩ = some (.slice Ao32 y170.length co32) := (blk_cell BK173.out 4).trans rfl
                              have hfz51_0 := blk_frozen BK173.out 0
                              have hfz51_1 := blk_frozen BK173.out 1
                              have hfz51_2 := blk_frozen BK173.out 2
                              have hfz51_3 := blk_frozen BK173.out 3
                              have hfz51_4 := blk_frozen BK173.out 4
                              obtain ⟨Ao52, co52, eo52⟩ := Kd.R_slice HO_174003.out
                              subst eo52
                              go_wp2_with (first | ((with_reducible refine gate_callee (f := 10) rfl ?_); refine goesL_ (some 60) rfl rfl Try.func10 (by kernel_rfl) rfl #[.agg #[.int .i64 a0, .int .i64 t169, .bool a2, .slice Ao52 x174003_3.length co52, .slice Ao32 y170.length co32]] rfl (by (try simp only [List.map_toArray, List.map_cons, List.map_nil]); first | done | rfl | (simp only [List.length_drop, List.length_take]; rfl)) ?_; (with_reducible refine (stream_Check.calls k3 a0 t169 a2 _ _ x174003_3 _ _ y170 t179 _ ?side1 ?side2 ?side3 ?side4 A48.out).mono ?_); (case side1 => repeat (first | exact (Kd.R_reads' HO_174003.out).2.2 | (with_reducible refine Kd.C_alloc ?_ _) | (with_reducible refine Kd.C_drewN ?_ _) | (with_reducible refine Kd.C_drew ?_))); (case side2 => exact (Kd.R_reads' HO_174003.out).2.1); (case side3 => repeat (first | exact (Kd.R_reads' HO_174004.out).2.2 | (with_reducible refine Kd.C_alloc ?_ _) | (with_reducible refine Kd.C_drewN ?_ _) | (with_reducible refine Kd.C_drew ?_))); (case side4 => exact (Kd.R_reads' HO_174004.out).2.1); rintro e w53 ⟨rfl, hb⟩; refine ⟨_, rfl, ?_⟩; have n0_ := Aside0.mk (Kd.S_below (by (with_reducible repeat (first | apply Kd.S_alloc | apply Kd.S_drewN | apply Kd.S_drew)); exact HO_11.out) hb); have n1_ := Aside0.mk (Kd.R_below (by (with_reducible repeat (first | apply Kd.R_alloc | apply Kd.R_drewN | apply Kd.R_drew)); exact HO_174003.out) hb); have n2_ := Aside0.mk (Kd.R_below (by (with_reducible repeat (first | apply Kd.R_alloc | apply Kd.R_drewN | apply Kd.R_drew)); exact HO_174004.out) hb); have n3_ := Aside0.mk (blk_below (g := gb173) (o := .cells #[.int .i64 a0, .int .i64 t169, .bool a2, .slice Ao52 x174003_3.length co52, .slice Ao32 y170.length co32] 24 (0, 0)) (by (with_reducible repeat (first | refine blk_drewN ?_ _ | refine blk_drew ?_ | refine blk_alloc ?_ _)); exact BK173.out) hb); have n4_ := Aside0.mk (below_step (by repeat (first | (with_reducible first | exact HB.out | apply below_alloc | apply pw_below_drewN | apply below_drew1 | refine below_set ?_ GE173.out) | exact HB.out)) hb); clear HO_11; clear HO_174003; clear HO_174004; clear BK173; clear HB; have HO_11 := n0_; have HO_174003 := n1_; have HO_174004 := n2_; have BK173 := n3_; have HB := n4_; clear n0_ n1_ n2_ n3_ n4_; (try clear hb); (try clear hb2); (try clear hk); (try clear hi); have hcz54_0 : w53.cell? ⟨gb173, 0, none⟩ = some (.int .i64 a0) := (blk_cell BK173.out 0).trans rfl; have hcz54_1 : w53.cell? ⟨gb173, 1, none⟩ = some (.int .i64 t169) := (blk_cell BK173.out 1).trans rfl; have hcz54_2 : w53.cell? ⟨gb173, 2, none⟩ = some (.bool a2) := (blk_cell BK173.out 2).trans rfl; have hcz54_3 : w53.cell? ⟨gb173, 3, none⟩ = some (.slice Ao52 x174003_3.length co52) := (blk_cell BK173.out 3).trans rfl; have hcz54_4 : w53.cell? ⟨gb173, 4, none⟩ = some (.slice Ao32 y170.length co32) := (blk_cell BK173.out 4).trans rfl; have hfz54_0 := blk_frozen BK173.out 0; have hfz54_1 := blk_frozen BK173.out 1; have hfz54_2 := blk_frozen BK173.out 2; have hfz54_3 := blk_frozen BK173.out 3; have hfz54_4 := blk_frozen BK173.out 4) | ((with_reducible refine gate_builtin (b := .append) (xs := #[.tmp 64, .tmp 66]) rfl ?_); at_builtin; refine Kd.S_append k24 (w0 := w) w.heap.size rfl (.tmp 64) (.tmp 66) 50 24 (.agg #[(.int .i64 0), (.int .i64 0), (.bool false), (.slice none 0 0), (.slice none 0 0)]) 72 rfl Try.underlying50 info24 rfl (by decide) (by omega) u11 x11_2 (⟨a0, t169, a2, x174003_3, y170⟩ : S24) [.int .i64 a0, .int .i64 t169, .bool a2, .slice Ao52 x174003_3.length co52, .slice Ao32 y170.length co32] (fun k_ => k_ ≠ gb173) (fun k_ => some k_ = (.slice Ao52 x174003_3.length co52 : Value).ownBlock ∨ some k_ = (.slice Ao32 y170.length co32 : Value).ownBlock) rfl rfl ?aP (fun k_ hk_ => hk_.elim (fun h_ => ((Kd.R_mono (ok' := fun k_ => ((fun k_ => k_ ≠ gb173)) k_ ∧ some k_ ≠ (u11 : Value).ownBlock) (Kd.R_types (Kd.R_apart' (HO_174003.out) (Kd.S_typed HO_11.out) (by decide)) BK173.out (by decide)) (fun k_ hk => ⟨hk.2, hk.1.2⟩))).1 k_ h_.symm) (fun h_ => ((Kd.R_mono (ok' := fun k_ => ((fun k_ => k_ ≠ gb173)) k_ ∧ some k_ ≠ (u11 : Value).ownBlock) (Kd.R_types (Kd.R_apart' (HO_174004.out) (Kd.S_typed HO_11.out) (by decide)) BK173.out (by decide)) (fun k_ hk => ⟨hk.2, hk.1.2⟩))).1 k_ h_.symm)) ?aF ?aO ?aB ?aS ?aL ?_; (case aP => exact k24_mkM _ _ _ (⟨a0, t169, a2, x174003_3, y170⟩ : S24) (Kd.R_mono (Kd.R_tight rfl (Kd.R_mono (ok' := fun k_ => ((fun k_ => k_ ≠ gb173)) k_ ∧ some k_ ≠ (u11 : Value).ownBlock) (Kd.R_types (Kd.R_apart' (HO_174003.out) (Kd.S_typed HO_11.out) (by decide)) BK173.out (by decide)) (fun k_ hk => ⟨hk.2, hk.1.2⟩))) (fun _ h_ => Or.inl h_)) (Kd.R_mono (Kd.R_tight rfl (Kd.R_mono (ok' := fun k_ => ((fun k_ => k_ ≠ gb173)) k_ ∧ some k_ ≠ (u11 : Value).ownBlock) (Kd.R_types (Kd.R_apart' (HO_174004.out) (Kd.S_typed HO_11.out) (by decide)) BK173.out (by decide)) (fun k_ hk => ⟨hk.2, hk.1.2⟩))) (fun _ h_ => Or.inr (h_)))); (case aB => exact (by repeat (first | (with_reducible first | exact HB.out | apply below_alloc | apply pw_below_drewN | apply below_drew1 | refine below_set ?_ GE173.out) | exact HB.out))); (case aF => exact (fun k_ hk => Kd.freshB (g := gb173) (o := .cells #[.int .i64 a0, .int .i64 t169, .bool a2, .slice Ao52 x174003_3.length co52, .slice Ao32 y170.length co32] 24 (0, 0)) (by (with_reducible repeat (first | refine blk_drewN ?_ _ | refine blk_drew ?_ | refine blk_alloc ?_ _)); exact BK173.out) k_ hk)); (case aO => exact (by (with_reducible repeat (first | apply Kd.S_alloc | apply Kd.S_drewN | apply Kd.S_drew)); exact Kd.S_mono HO_11.out (fun k_ hk => ⟨hk.2.2, fun e_ => e_.elim (fun h_ => hk.1 h_) (fun h_ => hk.2.1 h_)⟩))); (case aS => exact (below_size (by repeat (first | (with_reducible first | exact HB.out | apply below_alloc | apply pw_below_drewN | apply below_drew1 | refine below_set ?_ GE173.out) | exact HB.out)))); (case aL => have := LMc50.out; omega); intro v181 w55 ho hb hg hat; rw [← Ny180.out] at ho; have n0_ := Aside0.mk (blk_grown (g := gb173) (o := .cells #[.int .i64 a0, .int .i64 t169, .bool a2, .slice Ao52 x174003_3.length co52, .slice Ao32 y170.length co32] 24 (0, 0)) (by (with_reducible repeat (first | refine blk_drewN ?_ _ | refine blk_drew ?_ | refine blk_alloc ?_ _)); exact BK173.out) hg (Kd.S_away HO_11.out (fun _ hk => hk.2.2))); have n1_ := Aside0.mk (hb); have n2_ := Aside0.mk (ho); clear BK173; clear HB; clear HO_11; clear HO_174003; clear HO_174004; have BK173 := n0_; have HB := n1_; have HO182 := n2_; clear n0_ n1_ n2_; clear ho hb hg hat))
                              go_roundg k3
                              case measure => have := HJ6.out; have := HK2.out; have := HK3.out; omega
                              case rel => exact ⟨(y180), (wrap64 (x31_2 + 1)), (by first | rfl | (simp; done) | (simp [*]; done)), H', ⟨by have := HJ6.out; have := HK2.out; have := HK3.out; omega⟩, ⟨by (with_reducible repeat (first | apply Kd.S_alloc | apply Kd.S_drewN | apply Kd.S_drew)); exact Kd.S_mono HO182.out (fun _ hk => trivial)⟩, ⟨by repeat (first | (with_reducible first | exact HB.out | apply below_alloc | apply pw_below_drewN | apply below_drew1 | refine below_set ?_ GE173.out) | exact HB.out)⟩⟩
                            · rw [if_neg c50] at H
                              exact absurd H (by simp)
                          · rw [if_neg c49] at H
                            have c49b0 : (t179 == 0) = false := beq_eq_false_iff_ne.mpr c49
                            have c49b1 : (t179 != 0) = true := bne_iff_ne.mpr c49
                            simp only [Option.some.injEq, Prod.mk.injEq] at H
                            obtain ⟨rfl, rfl⟩ := H
                            have hcz56_0 : wr.cell? ⟨gb173, 0, none⟩ = some (.int .i64 a0) := (blk_cell BK173.out 0).trans rfl
                            have hcz56_1 : wr.cell? ⟨gb173, 1, none⟩ = some (.int .i64 t169) := (blk_cell BK173.out 1).trans rfl
                            have hcz56_2 : wr.cell? ⟨gb173, 2, none⟩ = some (.bool a2) := (blk_cell BK173.out 2).trans rfl
                            have hcz56_3 : wr.cell? ⟨gb173, 3, none⟩ = some (u174003) := (blk_cell BK173.out 3).trans rfl
                            have hcz56_4 : wr.cell? ⟨gb173, 4, none⟩ = some (.slice Ao32 y170.length co32) := (blk_cell BK173.out 4).trans rfl
                            have hfz56_0 := blk_frozen BK173.out 0
                            have hfz56_1 := blk_frozen BK173.out 1
                            have hfz56_2 := blk_frozen BK173.out 2
                            have hfz56_3 := blk_frozen BK173.out 3
                            have hfz56_4 := blk_frozen BK173.out 4
                            obtain ⟨Ao57, co57, eo57⟩ := Kd.R_slice HO_174003.out
                            subst eo57
                            go_wp2_with (first | ((with_reducible refine gate_callee (f := 10) rfl ?_); refine goesL_ (some 60) rfl rfl Try.func10 (by kernel_rfl) rfl #[.agg #[.int .i64 a0, .int .i64 t169, .bool a2, .slice Ao57 x174003_3.length co57, .slice Ao32 y170.length co32]] rfl (by (try simp only [List.map_toArray, List.map_cons, List.map_nil]); first | done | rfl | (simp only [List.length_drop, List.length_take]; rfl)) ?_; (with_reducible refine (stream_Check.calls k3 a0 t169 a2 _ _ x174003_3 _ _ y170 t179 _ ?side1 ?side2 ?side3 ?side4 A48.out).mono ?_); (case side1 => repeat (first | exact (Kd.R_reads' HO_174003.out).2.2 | (with_reducible refine Kd.C_alloc ?_ _) | (with_reducible refine Kd.C_drewN ?_ _) | (with_reducible refine Kd.C_drew ?_))); (case side2 => exact (Kd.R_reads' HO_174003.out).2.1); (case side3 => repeat (first | exact (Kd.R_reads' HO_174004.out).2.2 | (with_reducible refine Kd.C_alloc ?_ _) | (with_reducible refine Kd.C_drewN ?_ _) | (with_reducible refine Kd.C_drew ?_))); (case side4 => exact (Kd.R_reads' HO_174004.out).2.1); rintro e w58 ⟨rfl, hb⟩; refine ⟨_, rfl, ?_⟩; have n0_ := Aside0.mk (Kd.S_below (by (with_reducible repeat (first | apply Kd.S_alloc | apply Kd.S_drewN | apply Kd.S_drew)); exact HO_11.out) hb); have n1_ := Aside0.mk (Kd.R_below (by (with_reducible repeat (first | apply Kd.R_alloc | apply Kd.R_drewN | apply Kd.R_drew)); exact HO_174003.out) hb); have n2_ := Aside0.mk (Kd.R_below (by (with_reducible repeat (first | apply Kd.R_alloc | apply Kd.R_drewN | apply Kd.R_drew)); exact HO_174004.out) hb); have n3_ := Aside0.mk (blk_below (g := gb173) (o := .cells #[.int .i64 a0, .int .i64 t169, .bool a2, .slice Ao57 x174003_3.length co57, .slice Ao32 y170.length co32] 24 (0, 0)) (by (with_reducible repeat (first | refine blk_drewN ?_ _ | refine blk_drew ?_ | refine blk_alloc ?_ _)); exact BK173.out) hb); have n4_ := Aside0.mk (below_step (by repeat (first | (with_reducible first | exact HB.out | apply below_alloc | apply pw_below_drewN | apply below_drew1 | refine below_set ?_ GE173.out) | exact HB.out)) hb); clear HO_11; clear HO_174003; clear HO_174004; clear BK173; clear HB; have HO_11 := n0_; have HO_174003 := n1_; have HO_174004 := n2_; have BK173 := n3_; have HB := n4_; clear n0_ n1_ n2_ n3_ n4_; (try clear hb); (try clear hb2); (try clear hk); (try clear hi)))
                            go_ret2
                            exact ⟨_, by first | rfl | (simp [errW_none, errW_some] <;> rfl) | (simp [*, errW_none, errW_some] <;> rfl), by first | exact Kd.S_nil _ _ _ _ _ | exact Kd.N_nil _ _ _ _ _ | exact Kd.V_nil _ _ _ _ _ | exact Kd.Q_nil _ _ _ _ _ | exact Kd.R_nil _ _ _ _ _, by repeat (first | (with_reducible first | exact HB.out | apply below_alloc | apply pw_below_drewN | apply below_drew1 | refine below_set ?_ GE173.out) | exact HB.out)⟩
                  · rw [if_neg c24] at H
                    exact absurd H (by simp)
                · rw [if_neg c23] at H
                  exact absurd H (by simp)
              · rw [if_neg c21] at H
                have c21b0 : decide (x31_2 < 12) = false := decide_eq_false c21
                clear c21
                simp only [Option.some.injEq, Prod.mk.injEq] at H
                obtain ⟨rfl, rfl⟩ := H
                go_wp2
                go_ret2
                exact ⟨_, by first | rfl | (simp [errW_none, errW_some] <;> rfl) | (simp [*, errW_none, errW_some] <;> rfl), by (with_reducible repeat (first | apply Kd.S_alloc | apply Kd.S_drewN | apply Kd.S_drew)); exact HO_11.out, by repeat (first | (with_reducible first | exact HB.out | apply below_alloc | apply pw_below_drewN | apply below_drew1) | exact HB.out)⟩
  · replace c6 := Bool.eq_false_iff.mpr c6
    subst c6
    have H1 : (some (([] : List (S24)), 1)) = some (r1, r2) := by rw [if_neg (show ¬ (false = true) by decide)] at H; exact H
    clear H
    have H := H1
    clear H1
    simp only [Option.some.injEq, Prod.mk.injEq] at H
    obtain ⟨rfl, rfl⟩ := H
    go_enter Try.func22, Try.ntmps22
    go_wp2_with (first | ((with_reducible refine gate_dst (N := 18) rfl ?_); refine Kd.R_lit (Kd.int .i64) _ 3 ?hg (N := 18) ?hd (xs := ([a1] : List Int)) (inner := [.int .i64 a1]) (ok := fun _ => True) (okp := fun _ => True) ?hr ?hp (fun _ hk => hk) trivial (Below.refl _ _) (Nat.le_refl _) (by simp) ?_; (case hd => rfl); (case hg => rfl); (case hr => first | (go_simp; done) | (go_simp; rfl)); (case hp => exact (Reps.one (show Kd.M (Kd.int .i64) _ _ _ a1 [.int .i64 a1] from rfl) (Reps.none _ _))); intro v161 w59 ho60 hb hg_ hnew_; clear hg_ hnew_; (first | rw [← Ny160.out] at ho60 | (simp only [Int.reduceToNat] at ho60; rw [← Ny160.out] at ho60)); have n0_ := Aside0.mk (Kd.R_lower ho60 (below_size (by repeat (first | (with_reducible first | exact HB.out | apply below_alloc | apply pw_below_drewN | apply below_drew1) | exact HB.out)))); have n1_ := Aside0.mk (below_step (by repeat (first | (with_reducible first | exact HB.out | apply below_alloc | apply pw_below_drewN | apply below_drew1) | exact HB.out)) hb); clear HB; have HO162 := n0_; have HB := n1_; clear n0_ n1_; clear hb ho60; obtain ⟨Ao61, co61, eo61⟩ := Kd.R_slice HO162.out; subst eo61) | ((with_reducible refine gate_callee (f := 29) rfl ?_); refine goesL_ (some 19) rfl rfl Try.func29 (by kernel_rfl) rfl #[.int .i64 0, .int .i64 1099511627776, .slice Ao61 y160.length co61] rfl (by (try simp only [List.map_toArray, List.map_cons, List.map_nil]); first | done | rfl | (simp only [List.length_drop, List.length_take]; rfl)) ?_; (with_reducible refine (stream_within_int.calls k 0 1099511627776 _ _ y160 false _ ?side1 ?side2 A5.out).mono ?_); (case side1 => repeat (first | exact (Kd.R_reads' HO162.out).2.2 | (with_reducible refine Kd.C_alloc ?_ _) | (with_reducible refine Kd.C_drewN ?_ _) | (with_reducible refine Kd.C_drew ?_))); (case side2 => exact (Kd.R_reads' HO162.out).2.1); rintro e w' ⟨rfl, ⟨nd, rfl⟩⟩; refine ⟨_, rfl, ?_⟩))
    go_ret2
    exact ⟨_, by first | rfl | (simp [errW_none, errW_some] <;> rfl) | (simp [*, errW_none, errW_some] <;> rfl), by first | exact Kd.S_nil _ _ _ _ _ | exact Kd.N_nil _ _ _ _ _ | exact Kd.V_nil _ _ _ _ _ | exact Kd.Q_nil _ _ _ _ _ | exact Kd.R_nil _ _ _ _ _, by repeat (first | (with_reducible first | exact HB.out | apply below_alloc | apply pw_below_drewN | apply below_drew1) | exact HB.out)⟩

end Go.Proofs.Ytlfphopfoicjpaa.PSpl
