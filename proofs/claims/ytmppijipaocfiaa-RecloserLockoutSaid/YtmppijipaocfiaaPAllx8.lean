/- The walk of one law: what it computes is its '.f'. Conditions: none. -/
import Derived.Test.YtmppijipaocfiaaPAllx0
import Derived.Test.YtmppijipaocfiaaPAllx1
import Derived.Test.YtmppijipaocfiaaPAllx3
namespace Go.Proofs.Ytmppijipaocfiaa.PAll
open Go.RowKit Go.Proofs.YtmppijipaocfiaaW.PrintWords Go.Proofs.YtmppijipaocfiaaW.PrintLast Go.Proofs.YtmppijipaocfiaaW.PrintMore
attribute [local go_sem] max2_int min2_int max_two min_two max_three min_three max_four min_four   -- for this text's walks alone
set_option linter.unusedVariables false
set_option linter.unusedSimpArgs false

attribute [local go_sem high] eqA25
/-! ### substationlaw35_RecloserLockout: function 7 -/
mutual
def substationlaw35_RecloserLockout.j0 : Nat → List (S29) → Bool → Int → Int → Int → Int → Int → Int → Option (Bool)
  | 0, _, _, _, _, _, _, _, _ => none
  | k + 1, x2, x26, x254000, x254001, x254002, x255000, x255001, x255002 => if x26 = true then ((substationlaw35_known.f k).bind fun t256 => (some t256)) else ((substationlaw35_Settings_step.f x254000 x254001 x254002 x255000 x255001 x255002 false true false false).bind fun bt257 => (if bt257.2.2.2 = true then (substationlaw35_RecloserLockout.j1 k x2 true x254000 x254001 x254002 bt257.1 bt257.2.1 bt257.2.2.1) else (substationlaw35_RecloserLockout.j1 k x2 (!(bt257.1 == 5) || (!(bt257.2.1 == 0) || (!(bt257.2.2.1 == 0)))) x254000 x254001 x254002 bt257.1 bt257.2.1 bt257.2.2.1)))
def substationlaw35_RecloserLockout.j1 : Nat → List (S29) → Bool → Int → Int → Int → Int → Int → Int → Option (Bool)
  | 0, _, _, _, _, _, _, _, _ => none
  | k + 1, x2, x40, x254000, x254001, x254002, x262000, x262001, x262002 => if x40 = true then (some false) else (substationlaw35_RecloserLockout.l0 k 0 false x2 (x2.length : Int) 0 x254000 x254001 x254002 x262000 x262001 x262002)
def substationlaw35_RecloserLockout.l0 : Nat → Int → Bool → List (S29) → Int → Int → Int → Int → Int → Int → Int → Int → Option (Bool)
  | 0, _, _, _, _, _, _, _, _, _, _, _ => none
  | k + 1, x9, x10, x41, x42, x43, x254000, x254001, x254002, x262000, x262001, x262002 => if x43 < x42 then (if 0 ≤ x43 then (if x43 < (x41.length : Int) then (if x10 = true then (substationlaw35_RecloserLockout.j3 k x9 true x41 x42 x43 x254000 x254001 x254002 x262000 x262001 x262002 ((rd_T29 x41 x43).f0) ((rd_T29 x41 x43).f1) ((rd_T29 x41 x43).f2) ((rd_T29 x41 x43).f3)) else (if (rd_T29 x41 x43).f0 = true then (substationlaw35_RecloserLockout.j3 k x9 (x262000 != 5) x41 x42 x43 x254000 x254001 x254002 x262000 x262001 x262002 ((rd_T29 x41 x43).f0) ((rd_T29 x41 x43).f1) ((rd_T29 x41 x43).f2) ((rd_T29 x41 x43).f3)) else (substationlaw35_RecloserLockout.j3 k x9 false x41 x42 x43 x254000 x254001 x254002 x262000 x262001 x262002 ((rd_T29 x41 x43).f0) ((rd_T29 x41 x43).f1) ((rd_T29 x41 x43).f2) ((rd_T29 x41 x43).f3)))) else (none)) else (none)) else ((substationlaw35_known.f k).bind fun t262 => (some t262))
def substationlaw35_RecloserLockout.j3 : Nat → Int → Bool → List (S29) → Int → Int → Int → Int → Int → Int → Int → Int → Bool → Bool → Bool → Bool → Option (Bool)
  | 0, _, _, _, _, _, _, _, _, _, _, _, _, _, _, _ => none
  | k + 1, x9, x10, x41, x42, x43, x254000, x254001, x254002, x262000, x262001, x262002, x265000, x265001, x265002, x265003 => (substationlaw35_Settings_step.f x254000 x254001 x254002 x262000 x262001 x262002 x265000 x265001 x265002 x265003).bind fun bt265 => (if x265002 = true then (substationlaw35_RecloserLockout.j4 k bt265.2.2.2 0 x10 x41 x42 x43 x254000 x254001 x254002 bt265.1 bt265.2.1 bt265.2.2.1) else (if x265003 = true then (substationlaw35_RecloserLockout.j4 k bt265.2.2.2 x9 x10 x41 x42 x43 x254000 x254001 x254002 bt265.1 bt265.2.1 bt265.2.2.1) else (substationlaw35_RecloserLockout.j4 k bt265.2.2.2 (wrap64 (x9 + 1)) x10 x41 x42 x43 x254000 x254001 x254002 bt265.1 bt265.2.1 bt265.2.2.1)))
def substationlaw35_RecloserLockout.j4 : Nat → Bool → Int → Bool → List (S29) → Int → Int → Int → Int → Int → Int → Int → Int → Option (Bool)
  | 0, _, _, _, _, _, _, _, _, _, _, _, _ => none
  | k + 1, x8, x9, x10, x41, x42, x43, x254000, x254001, x254002, x262000, x262001, x262002 => if x8 = true then (substationlaw35_RecloserLockout.j5 k x9 x10 x41 x42 x43 (!x10) x254000 x254001 x254002 x262000 x262001 x262002) else (substationlaw35_RecloserLockout.j5 k x9 x10 x41 x42 x43 false x254000 x254001 x254002 x262000 x262001 x262002)
def substationlaw35_RecloserLockout.j5 : Nat → Int → Bool → List (S29) → Int → Int → Bool → Int → Int → Int → Int → Int → Int → Option (Bool)
  | 0, _, _, _, _, _, _, _, _, _, _, _, _ => none
  | k + 1, x9, x10, x41, x42, x43, x75, x254000, x254001, x254002, x262000, x262001, x262002 => if x75 = true then (some false) else (if x262000 = 5 then (substationlaw35_RecloserLockout.l0 k x9 x10 x41 x42 (wrap64 (x43 + 1)) x254000 x254001 x254002 x262000 x262001 x262002) else (if x9 < x254002 then (if x10 = true then (substationlaw35_RecloserLockout.l0 k x9 x10 x41 x42 (wrap64 (x43 + 1)) x254000 x254001 x254002 x262000 x262001 x262002) else (some false)) else (substationlaw35_RecloserLockout.l0 k x9 x10 x41 x42 (wrap64 (x43 + 1)) x254000 x254001 x254002 x262000 x262001 x262002)))
end
def substationlaw35_RecloserLockout.f (k : Nat) (a0_0 : Int) (a0_1 : Int) (a0_2 : Int) (a1_0 : Int) (a1_1 : Int) (a1_2 : Int) (l2 : List (S29)) : Option (Bool) := if (l2.length : Int) > 200 then (substationlaw35_RecloserLockout.j0 k l2 true a0_0 a0_1 a0_2 a1_0 a1_1 a1_2) else ((recloser_Valid.f k a0_0 a0_1 a0_2 a1_0 a1_1 a1_2).bind fun t255 => (substationlaw35_RecloserLockout.j0 k l2 (!t255) a0_0 a0_1 a0_2 a1_0 a1_1 a1_2))
theorem substationlaw35_RecloserLockout.mono_l : ∀ k, (∀ y0 y1 y2 y3 y4 y5 y6 y7, LeO (substationlaw35_RecloserLockout.j0 k y0 y1 y2 y3 y4 y5 y6 y7) (substationlaw35_RecloserLockout.j0 (k + 1) y0 y1 y2 y3 y4 y5 y6 y7)) ∧ (∀ y0 y1 y2 y3 y4 y5 y6 y7, LeO (substationlaw35_RecloserLockout.j1 k y0 y1 y2 y3 y4 y5 y6 y7) (substationlaw35_RecloserLockout.j1 (k + 1) y0 y1 y2 y3 y4 y5 y6 y7)) ∧ (∀ y0 y1 y2 y3 y4 y5 y6 y7 y8 y9 y10, LeO (substationlaw35_RecloserLockout.l0 k y0 y1 y2 y3 y4 y5 y6 y7 y8 y9 y10) (substationlaw35_RecloserLockout.l0 (k + 1) y0 y1 y2 y3 y4 y5 y6 y7 y8 y9 y10)) ∧ (∀ y0 y1 y2 y3 y4 y5 y6 y7 y8 y9 y10 y11 y12 y13 y14, LeO (substationlaw35_RecloserLockout.j3 k y0 y1 y2 y3 y4 y5 y6 y7 y8 y9 y10 y11 y12 y13 y14) (substationlaw35_RecloserLockout.j3 (k + 1) y0 y1 y2 y3 y4 y5 y6 y7 y8 y9 y10 y11 y12 y13 y14)) ∧ (∀ y0 y1 y2 y3 y4 y5 y6 y7 y8 y9 y10 y11, LeO (substationlaw35_RecloserLockout.j4 k y0 y1 y2 y3 y4 y5 y6 y7 y8 y9 y10 y11) (substationlaw35_RecloserLockout.j4 (k + 1) y0 y1 y2 y3 y4 y5 y6 y7 y8 y9 y10 y11)) ∧ (∀ y0 y1 y2 y3 y4 y5 y6 y7 y8 y9 y10 y11, LeO (substationlaw35_RecloserLockout.j5 k y0 y1 y2 y3 y4 y5 y6 y7 y8 y9 y10 y11) (substationlaw35_RecloserLockout.j5 (k + 1) y0 y1 y2 y3 y4 y5 y6 y7 y8 y9 y10 y11))
  | 0 => ⟨fun _ _ _ _ _ _ _ _ r h => by simp [substationlaw35_RecloserLockout.j0] at h, fun _ _ _ _ _ _ _ _ r h => by simp [substationlaw35_RecloserLockout.j1] at h, fun _ _ _ _ _ _ _ _ _ _ _ r h => by simp [substationlaw35_RecloserLockout.l0] at h, fun _ _ _ _ _ _ _ _ _ _ _ _ _ _ _ r h => by simp [substationlaw35_RecloserLockout.j3] at h, fun _ _ _ _ _ _ _ _ _ _ _ _ r h => by simp [substationlaw35_RecloserLockout.j4] at h, fun _ _ _ _ _ _ _ _ _ _ _ _ r h => by simp [substationlaw35_RecloserLockout.j5] at h⟩
  | k + 1 => by
    obtain ⟨ih0, ih1, ih2, ih3, ih4, ih5⟩ := substationlaw35_RecloserLockout.mono_l k
    refine ⟨?_, ?_, ?_, ?_, ?_, ?_⟩
    · intro y0 y1 y2 y3 y4 y5 y6 y7
      unfold substationlaw35_RecloserLockout.j0
      repeat' first
      | (with_reducible exact ih0 _ _ _ _ _ _ _ _)
      | (with_reducible exact ih1 _ _ _ _ _ _ _ _)
      | (with_reducible exact ih2 _ _ _ _ _ _ _ _ _ _ _)
      | (with_reducible exact ih3 _ _ _ _ _ _ _ _ _ _ _ _ _ _ _)
      | (with_reducible exact ih4 _ _ _ _ _ _ _ _ _ _ _ _)
      | (with_reducible exact ih5 _ _ _ _ _ _ _ _ _ _ _ _)
      | (with_reducible exact recloser_Valid.mono _ _ _ _ _ _ _)
      | (with_reducible exact substationlaw35_known.mono _)
      | (with_reducible exact LeO.refl _)
      | (with_reducible exact LeO.none _)
      | (with_reducible refine LeO.ite ?_ ?_)
      | (with_reducible refine LeO.bind ?_ (fun _ => ?_))
      | exact ih0 _ _ _ _ _ _ _ _
      | exact ih1 _ _ _ _ _ _ _ _
      | exact ih2 _ _ _ _ _ _ _ _ _ _ _
      | exact ih3 _ _ _ _ _ _ _ _ _ _ _ _ _ _ _
      | exact ih4 _ _ _ _ _ _ _ _ _ _ _ _
      | exact ih5 _ _ _ _ _ _ _ _ _ _ _ _
      | exact recloser_Valid.mono _ _ _ _ _ _ _
      | exact substationlaw35_known.mono _
      | exact LeO.none _
      | refine LeO.ite ?_ ?_
      | refine LeO.bind ?_ (fun _ => ?_)
    · intro y0 y1 y2 y3 y4 y5 y6 y7
      unfold substationlaw35_RecloserLockout.j1
      repeat' first
      | (with_reducible exact ih0 _ _ _ _ _ _ _ _)
      | (with_reducible exact ih1 _ _ _ _ _ _ _ _)
      | (with_reducible exact ih2 _ _ _ _ _ _ _ _ _ _ _)
      | (with_reducible exact ih3 _ _ _ _ _ _ _ _ _ _ _ _ _ _ _)
      | (with_reducible exact ih4 _ _ _ _ _ _ _ _ _ _ _ _)
      | (with_reducible exact ih5 _ _ _ _ _ _ _ _ _ _ _ _)
      | (with_reducible exact recloser_Valid.mono _ _ _ _ _ _ _)
      | (with_reducible exact substationlaw35_known.mono _)
      | (with_reducible exact LeO.refl _)
      | (with_reducible exact LeO.none _)
      | (with_reducible refine LeO.ite ?_ ?_)
      | (with_reducible refine LeO.bind ?_ (fun _ => ?_))
      | exact ih0 _ _ _ _ _ _ _ _
      | exact ih1 _ _ _ _ _ _ _ _
      | exact ih2 _ _ _ _ _ _ _ _ _ _ _
      | exact ih3 _ _ _ _ _ _ _ _ _ _ _ _ _ _ _
      | exact ih4 _ _ _ _ _ _ _ _ _ _ _ _
      | exact ih5 _ _ _ _ _ _ _ _ _ _ _ _
      | exact recloser_Valid.mono _ _ _ _ _ _ _
      | exact substationlaw35_known.mono _
      | exact LeO.none _
      | refine LeO.ite ?_ ?_
      | refine LeO.bind ?_ (fun _ => ?_)
    · intro y0 y1 y2 y3 y4 y5 y6 y7 y8 y9 y10
      unfold substationlaw35_RecloserLockout.l0
      repeat' first
      | (with_reducible exact ih0 _ _ _ _ _ _ _ _)
      | (with_reducible exact ih1 _ _ _ _ _ _ _ _)
      | (with_reducible exact ih2 _ _ _ _ _ _ _ _ _ _ _)
      | (with_reducible exact ih3 _ _ _ _ _ _ _ _ _ _ _ _ _ _ _)
      | (with_reducible exact ih4 _ _ _ _ _ _ _ _ _ _ _ _)
      | (with_reducible exact ih5 _ _ _ _ _ _ _ _ _ _ _ _)
      | (with_reducible exact recloser_Valid.mono _ _ _ _ _ _ _)
      | (with_reducible exact substationlaw35_known.mono _)
      | (with_reducible exact LeO.refl _)
      | (with_reducible exact LeO.none _)
      | (with_reducible refine LeO.ite ?_ ?_)
      | (with_reducible refine LeO.bind ?_ (fun _ => ?_))
      | exact ih0 _ _ _ _ _ _ _ _
      | exact ih1 _ _ _ _ _ _ _ _
      | exact ih2 _ _ _ _ _ _ _ _ _ _ _
      | exact ih3 _ _ _ _ _ _ _ _ _ _ _ _ _ _ _
      | exact ih4 _ _ _ _ _ _ _ _ _ _ _ _
      | exact ih5 _ _ _ _ _ _ _ _ _ _ _ _
      | exact recloser_Valid.mono _ _ _ _ _ _ _
      | exact substationlaw35_known.mono _
      | exact LeO.none _
      | refine LeO.ite ?_ ?_
      | refine LeO.bind ?_ (fun _ => ?_)
    · intro y0 y1 y2 y3 y4 y5 y6 y7 y8 y9 y10 y11 y12 y13 y14
      unfold substationlaw35_RecloserLockout.j3
      repeat' first
      | (with_reducible exact ih0 _ _ _ _ _ _ _ _)
      | (with_reducible exact ih1 _ _ _ _ _ _ _ _)
      | (with_reducible exact ih2 _ _ _ _ _ _ _ _ _ _ _)
      | (with_reducible exact ih3 _ _ _ _ _ _ _ _ _ _ _ _ _ _ _)
      | (with_reducible exact ih4 _ _ _ _ _ _ _ _ _ _ _ _)
      | (with_reducible exact ih5 _ _ _ _ _ _ _ _ _ _ _ _)
      | (with_reducible exact recloser_Valid.mono _ _ _ _ _ _ _)
      | (with_reducible exact substationlaw35_known.mono _)
      | (with_reducible exact LeO.refl _)
      | (with_reducible exact LeO.none _)
      | (with_reducible refine LeO.ite ?_ ?_)
      | (with_reducible refine LeO.bind ?_ (fun _ => ?_))
      | exact ih0 _ _ _ _ _ _ _ _
      | exact ih1 _ _ _ _ _ _ _ _
      | exact ih2 _ _ _ _ _ _ _ _ _ _ _
      | exact ih3 _ _ _ _ _ _ _ _ _ _ _ _ _ _ _
      | exact ih4 _ _ _ _ _ _ _ _ _ _ _ _
      | exact ih5 _ _ _ _ _ _ _ _ _ _ _ _
      | exact recloser_Valid.mono _ _ _ _ _ _ _
      | exact substationlaw35_known.mono _
      | exact LeO.none _
      | refine LeO.ite ?_ ?_
      | refine LeO.bind ?_ (fun _ => ?_)
    · intro y0 y1 y2 y3 y4 y5 y6 y7 y8 y9 y10 y11
      unfold substationlaw35_RecloserLockout.j4
      repeat' first
      | (with_reducible exact ih0 _ _ _ _ _ _ _ _)
      | (with_reducible exact ih1 _ _ _ _ _ _ _ _)
      | (with_reducible exact ih2 _ _ _ _ _ _ _ _ _ _ _)
      | (with_reducible exact ih3 _ _ _ _ _ _ _ _ _ _ _ _ _ _ _)
      | (with_reducible exact ih4 _ _ _ _ _ _ _ _ _ _ _ _)
      | (with_reducible exact ih5 _ _ _ _ _ _ _ _ _ _ _ _)
      | (with_reducible exact recloser_Valid.mono _ _ _ _ _ _ _)
      | (with_reducible exact substationlaw35_known.mono _)
      | (with_reducible exact LeO.refl _)
      | (with_reducible exact LeO.none _)
      | (with_reducible refine LeO.ite ?_ ?_)
      | (with_reducible refine LeO.bind ?_ (fun _ => ?_))
      | exact ih0 _ _ _ _ _ _ _ _
      | exact ih1 _ _ _ _ _ _ _ _
      | exact ih2 _ _ _ _ _ _ _ _ _ _ _
      | exact ih3 _ _ _ _ _ _ _ _ _ _ _ _ _ _ _
      | exact ih4 _ _ _ _ _ _ _ _ _ _ _ _
      | exact ih5 _ _ _ _ _ _ _ _ _ _ _ _
      | exact recloser_Valid.mono _ _ _ _ _ _ _
      | exact substationlaw35_known.mono _
      | exact LeO.none _
      | refine LeO.ite ?_ ?_
      | refine LeO.bind ?_ (fun _ => ?_)
    · intro y0 y1 y2 y3 y4 y5 y6 y7 y8 y9 y10 y11
      unfold substationlaw35_RecloserLockout.j5
      repeat' first
      | (with_reducible exact ih0 _ _ _ _ _ _ _ _)
      | (with_reducible exact ih1 _ _ _ _ _ _ _ _)
      | (with_reducible exact ih2 _ _ _ _ _ _ _ _ _ _ _)
      | (with_reducible exact ih3 _ _ _ _ _ _ _ _ _ _ _ _ _ _ _)
      | (with_reducible exact ih4 _ _ _ _ _ _ _ _ _ _ _ _)
      | (with_reducible exact ih5 _ _ _ _ _ _ _ _ _ _ _ _)
      | (with_reducible exact recloser_Valid.mono _ _ _ _ _ _ _)
      | (with_reducible exact substationlaw35_known.mono _)
      | (with_reducible exact LeO.refl _)
      | (with_reducible exact LeO.none _)
      | (with_reducible refine LeO.ite ?_ ?_)
      | (with_reducible refine LeO.bind ?_ (fun _ => ?_))
      | exact ih0 _ _ _ _ _ _ _ _
      | exact ih1 _ _ _ _ _ _ _ _
      | exact ih2 _ _ _ _ _ _ _ _ _ _ _
      | exact ih3 _ _ _ _ _ _ _ _ _ _ _ _ _ _ _
      | exact ih4 _ _ _ _ _ _ _ _ _ _ _ _
      | exact ih5 _ _ _ _ _ _ _ _ _ _ _ _
      | exact recloser_Valid.mono _ _ _ _ _ _ _
      | exact substationlaw35_known.mono _
      | exact LeO.none _
      | refine LeO.ite ?_ ?_
      | refine LeO.bind ?_ (fun _ => ?_)
theorem substationlaw35_RecloserLockout.mono : ∀ a0 a1 a2 a3 a4 a5 a6 k, LeO (substationlaw35_RecloserLockout.f k a0 a1 a2 a3 a4 a5 a6) (substationlaw35_RecloserLockout.f (k + 1) a0 a1 a2 a3 a4 a5 a6) := by
  intro a0 a1 a2 a3 a4 a5 a6 k
  obtain ⟨ih0, ih1, ih2, ih3, ih4, ih5⟩ := substationlaw35_RecloserLockout.mono_l k
  unfold substationlaw35_RecloserLockout.f
  repeat' first
      | (with_reducible exact ih0 _ _ _ _ _ _ _ _)
      | (with_reducible exact ih1 _ _ _ _ _ _ _ _)
      | (with_reducible exact ih2 _ _ _ _ _ _ _ _ _ _ _)
      | (with_reducible exact ih3 _ _ _ _ _ _ _ _ _ _ _ _ _ _ _)
      | (with_reducible exact ih4 _ _ _ _ _ _ _ _ _ _ _ _)
      | (with_reducible exact ih5 _ _ _ _ _ _ _ _ _ _ _ _)
      | (with_reducible exact recloser_Valid.mono _ _ _ _ _ _ _)
      | (with_reducible exact substationlaw35_known.mono _)
      | (with_reducible exact LeO.refl _)
      | (with_reducible exact LeO.none _)
      | (with_reducible refine LeO.ite ?_ ?_)
      | (with_reducible refine LeO.bind ?_ (fun _ => ?_))
      | exact ih0 _ _ _ _ _ _ _ _
      | exact ih1 _ _ _ _ _ _ _ _
      | exact ih2 _ _ _ _ _ _ _ _ _ _ _
      | exact ih3 _ _ _ _ _ _ _ _ _ _ _ _ _ _ _
      | exact ih4 _ _ _ _ _ _ _ _ _ _ _ _
      | exact ih5 _ _ _ _ _ _ _ _ _ _ _ _
      | exact recloser_Valid.mono _ _ _ _ _ _ _
      | exact substationlaw35_known.mono _
      | exact LeO.none _
      | refine LeO.ite ?_ ?_
      | refine LeO.bind ?_ (fun _ => ?_)
set_option maxHeartbeats 8000000 in
set_option maxRecDepth 100000 in
theorem substationlaw35_RecloserLockout.calls (k : Nat) (a0_0 : Int) (a0_1 : Int) (a0_2 : Int) (a1_0 : Int) (a1_1 : Int) (a1_2 : Int) (A2 : Option Addr) (c2 : Nat) (l2 : List (S29)) (r : Bool) (w : World) (hr2 : Kd.C k29 w A2 l2.length l2) (hc2 : l2.length ≤ c2) (h : substationlaw35_RecloserLockout.f k a0_0 a0_1 a0_2 a1_0 a1_1 a1_2 l2 = some r) :
    Calls Try.prog 7 #[.agg #[.int .i64 a0_0, .int .i64 a0_1, .int .i64 a0_2], .agg #[.int .i64 a1_0, .int .i64 a1_1, .int .i64 a1_2], .slice A2 l2.length c2] w fun e w' => e = .returned (.bool r) ∧ Below w.heap.size w w' := by
  have hu23 := Try.underlying23
  have hu25 := Try.underlying25
  have hu29 := Try.underlying29
  have HR2 := Aside0.mk hr2
  have HC2 := Aside0.mk hc2
  clear hr2 hc2
  have HB := Aside0.mk (Below.refl w.heap.size w)
  have H : (if (l2.length : Int) > 200 then (substationlaw35_RecloserLockout.j0 k l2 true a0_0 a0_1 a0_2 a1_0 a1_1 a1_2) else ((recloser_Valid.f k a0_0 a0_1 a0_2 a1_0 a1_1 a1_2).bind fun t255 => (substationlaw35_RecloserLockout.j0 k l2 (!t255) a0_0 a0_1 a0_2 a1_0 a1_1 a1_2))) = some r := h
  clear h
  have HC4 := Aside0.mk H
  clear H
  go_enter Try.func7, Try.ntmps7
  go_upto_region 1 with (first | ((with_reducible refine gate_dst (N := 3) rfl ?_); refine box_event ?hg (N := 3) ?hd (cs := #[.int .i64 a0_0, .int .i64 a0_1, .int .i64 a0_2]) (t := 23) ?hr ?_; (case hd => rfl); (case hg => rfl); (case hr => first | (go_simp; done) | (go_simp; rfl)); intro gb253 hg w5 hbox hb; have n0_ := Aside0.mk (below_step (by repeat (first | (with_reducible first | exact HB.out | apply below_alloc | apply pw_below_drewN | apply below_drew1) | exact HB.out)) hb); have n1_ := Aside0.mk (hbox); have n2_ := Aside0.mk ((by rw [hg]; exact (below_size (by repeat (first | (with_reducible first | exact HB.out | apply below_alloc | apply pw_below_drewN | apply below_drew1) | exact HB.out))) : w.heap.size ≤ gb253)); have n3_ := Aside0.mk ((by rw [hg]; exact (below_size (by repeat (first | (with_reducible first | exact HB.out | apply below_alloc | apply pw_below_drewN | apply below_drew1) | exact HB.out))) : w.heap.size ≤ gb253)); clear HB; have HB := n0_; have BK253 := n1_; have GW253 := n2_; have GE253 := n3_; clear n0_ n1_ n2_ n3_; clear hb hbox hg) | ((with_reducible refine gate_dst (N := 4) rfl ?_); refine box_event ?hg (N := 4) ?hd (cs := #[.int .i64 a1_0, .int .i64 a1_1, .int .i64 a1_2]) (t := 25) ?hr ?_; (case hd => rfl); (case hg => rfl); (case hr => first | (go_simp; done) | (go_simp; rfl)); intro gb254 hg w6 hbox hb; have n0_ := Aside0.mk (blk_below (g := gb253) (o := .cells #[.int .i64 a0_0, .int .i64 a0_1, .int .i64 a0_2] 23 (0, 0)) (by (with_reducible repeat (first | refine blk_drewN ?_ _ | refine blk_drew ?_ | refine blk_alloc ?_ _)); exact BK253.out) hb); have n1_ := Aside0.mk (below_step (by repeat (first | (with_reducible first | exact HB.out | apply below_alloc | apply pw_below_drewN | apply below_drew1 | refine below_set ?_ GE253.out) | exact HB.out)) hb); have n2_ := Aside0.mk (hbox); have n3_ := Aside0.mk ((by rw [hg]; exact (below_size (by repeat (first | (with_reducible first | exact HB.out | apply below_alloc | apply pw_below_drewN | apply below_drew1 | refine below_set ?_ GE253.out) | exact HB.out))) : w.heap.size ≤ gb254)); have n4_ := Aside0.mk ((by rw [hg]; exact (below_size (by repeat (first | (with_reducible first | exact HB.out | apply below_alloc | apply pw_below_drewN | apply below_drew1 | refine below_set ?_ GE253.out) | exact HB.out))) : w.heap.size ≤ gb254)); have n5_ := Aside0.mk ((by rw [hg]; exact Nat.ne_of_lt (blk_lt (g := gb253) (o := .cells #[.int .i64 a0_0, .int .i64 a0_1, .int .i64 a0_2] 23 (0, 0)) (by (with_reducible repeat (first | refine blk_drewN ?_ _ | refine blk_drew ?_ | refine blk_alloc ?_ _)); exact BK253.out)) : gb253 ≠ gb254)); have n6_ := Aside0.mk ((by rw [hg]; exact Nat.ne_of_gt (blk_lt (g := gb253) (o := .cells #[.int .i64 a0_0, .int .i64 a0_1, .int .i64 a0_2] 23 (0, 0)) (by (with_reducible repeat (first | refine blk_drewN ?_ _ | refine blk_drew ?_ | refine blk_alloc ?_ _)); exact BK253.out)) : gb254 ≠ gb253)); clear BK253; clear HB; have BK253 := n0_; have HB := n1_; have BK254 := n2_; have GW254 := n3_; have GE254 := n4_; have NB253_254 := n5_; have NB254_253 := n6_; clear n0_ n1_ n2_ n3_ n4_ n5_ n6_; clear hb hbox hg))
  (try simp only [Act.put, List.setIfInBounds_toArray, List.set_cons_zero, List.set_cons_succ])
  go_cut [26] (fun v26 wc => ∃ (kq : Nat) (x26_3 : Bool), v26 = .bool x26_3 ∧ Aside0 (substationlaw35_RecloserLockout.j0 kq l2 x26_3 a0_0 a0_1 a0_2 a1_0 a1_1 a1_2 = some r) ∧ Aside0 (kq ≤ k) ∧ Aside0 (wc.heap[gb253]? = some (.cells #[.int .i64 a0_0, .int .i64 a0_1, .int .i64 a0_2] 23 (0, 0))) ∧ Aside0 (wc.heap[gb254]? = some (.cells #[.int .i64 a1_0, .int .i64 a1_1, .int .i64 a1_2] 25 (0, 0))) ∧ Aside0 (Below w.heap.size w wc))
  case first =>
    have H := HC4.out
    clear HC4
    by_cases c7 : (l2.length : Int) > 200
    · rw [if_pos c7] at H
      have c7b0 : decide (200 < (l2.length : Int)) = true := decide_eq_true c7
      have c7b1 : decide (200 < l2.length) = true := decide_eq_true (by omega)
      clear c7
      (first | rw [c7b0] | (simp only [i64_w, i32_w]; rw [c7b0]) | skip)
      have H' := Aside0.mk H
      clear H
      go_wp2
      go_meet
      case rel => exact ⟨_, (true), (by first | rfl | (simp; done) | (simp [*]; done)), H', ⟨by first | omega | exact Nat.le_refl _⟩, ⟨by (with_reducible repeat (first | refine blk_drewN ?_ _ | refine blk_drew ?_ | refine blk_alloc ?_ _)); exact BK253.out⟩, ⟨by (with_reducible repeat (first | refine blk_drewN ?_ _ | refine blk_drew ?_ | refine blk_alloc ?_ _)); exact BK254.out⟩, ⟨by repeat (first | (with_reducible first | exact HB.out | apply below_alloc | apply pw_below_drewN | apply below_drew1 | refine below_set ?_ GE253.out | refine below_set ?_ GE254.out) | exact HB.out)⟩⟩
    · rw [if_neg c7] at H
      have c7b0 : decide (200 < (l2.length : Int)) = false := decide_eq_false c7
      have c7b1 : decide (200 < l2.length) = false := decide_eq_false (by omega)
      clear c7
      (first | rw [c7b0] | (simp only [i64_w, i32_w]; rw [c7b0]) | skip)
      replace H := Option.bind_eq_some_iff.mp H
      obtain ⟨t255, A80, H⟩ := H
      replace H : (substationlaw35_RecloserLockout.j0 k l2 (!t255) a0_0 a0_1 a0_2 a1_0 a1_1 a1_2) = some r := H
      have A8 := Aside0.mk A80
      clear A80
      have H' := Aside0.mk H
      clear H
      have hnb9 := NB253_254.out
      have hnc9 := NB254_253.out
      have hcz10_0 : w6.cell? ⟨gb253, 0, none⟩ = some (.int .i64 a0_0) := (blk_cell BK253.out 0).trans rfl
      have hcz10_1 : w6.cell? ⟨gb253, 1, none⟩ = some (.int .i64 a0_1) := (blk_cell BK253.out 1).trans rfl
      have hcz10_2 : w6.cell? ⟨gb253, 2, none⟩ = some (.int .i64 a0_2) := (blk_cell BK253.out 2).trans rfl
      have hfz10_0 := blk_frozen BK253.out 0
      have hfz10_1 := blk_frozen BK253.out 1
      have hfz10_2 := blk_frozen BK253.out 2
      have hcz11_0 : w6.cell? ⟨gb254, 0, none⟩ = some (.int .i64 a1_0) := (blk_cell BK254.out 0).trans rfl
      have hcz11_1 : w6.cell? ⟨gb254, 1, none⟩ = some (.int .i64 a1_1) := (blk_cell BK254.out 1).trans rfl
      have hcz11_2 : w6.cell? ⟨gb254, 2, none⟩ = some (.int .i64 a1_2) := (blk_cell BK254.out 2).trans rfl
      have hfz11_0 := blk_frozen BK254.out 0
      have hfz11_1 := blk_frozen BK254.out 1
      have hfz11_2 := blk_frozen BK254.out 2
      go_wp2_with (first | (go_at_call 14; (with_reducible refine (recloser_Valid.calls k a0_0 a0_1 a0_2 a1_0 a1_1 a1_2 t255 _ A8.out).mono ?_); rintro e w12 ⟨rfl, hb⟩; have n0_ := Aside0.mk (blk_below (g := gb253) (o := .cells #[.int .i64 a0_0, .int .i64 a0_1, .int .i64 a0_2] 23 (0, 0)) (by (with_reducible repeat (first | refine blk_drewN ?_ _ | refine blk_drew ?_ | refine blk_alloc ?_ _)); exact BK253.out) hb); have n1_ := Aside0.mk (blk_below (g := gb254) (o := .cells #[.int .i64 a1_0, .int .i64 a1_1, .int .i64 a1_2] 25 (0, 0)) (by (with_reducible repeat (first | refine blk_drewN ?_ _ | refine blk_drew ?_ | refine blk_alloc ?_ _)); exact BK254.out) hb); have n2_ := Aside0.mk (below_step (by repeat (first | (with_reducible first | exact HB.out | apply below_alloc | apply pw_below_drewN | apply below_drew1 | refine below_set ?_ GE253.out | refine below_set ?_ GE254.out) | exact HB.out)) hb); clear BK253; clear BK254; clear HB; have BK253 := n0_; have BK254 := n1_; have HB := n2_; clear n0_ n1_ n2_; (try clear hb); (try clear hb2); (try clear hk); (try clear hi)))
      go_meet
      case rel => exact ⟨_, (!t255), (by first | rfl | (simp; done) | (simp [*]; done)), H', ⟨by first | omega | exact Nat.le_refl _⟩, ⟨by (with_reducible repeat (first | refine blk_drewN ?_ _ | refine blk_drew ?_ | refine blk_alloc ?_ _)); exact BK253.out⟩, ⟨by (with_reducible repeat (first | refine blk_drewN ?_ _ | refine blk_drew ?_ | refine blk_alloc ?_ _)); exact BK254.out⟩, ⟨by repeat (first | (with_reducible first | exact HB.out | apply below_alloc | apply pw_below_drewN | apply below_drew1 | refine below_set ?_ GE253.out | refine below_set ?_ GE254.out) | exact HB.out)⟩⟩
  case rest =>
    clear HC4
    try clear c2
    try clear p2
    try clear c7
    try clear c7b0
    try clear c7b1
    try clear c9
    try clear hcz10_0
    try clear hcz10_1
    try clear hcz10_2
    try clear hcz11_0
    try clear hcz11_1
    try clear hcz11_2
    try clear hfz10_0
    try clear hfz10_1
    try clear hfz10_2
    try clear hfz11_0
    try clear hfz11_1
    try clear hfz11_2
    obtain ⟨kq, x26_3, rfl, HA, HJ3, BK253, BK254, HB⟩ := hcut
    cases kq with
    | zero => exact absurd HA.out (by simp [substationlaw35_RecloserLockout.j0])
    | succ kj3 =>
      have H := HA.out
      clear HA
      simp only [substationlaw35_RecloserLockout.j0] at H
      by_cases c13 : x26_3 = true
      · subst c13
        have H1 : ((substationlaw35_known.f kj3).bind fun t256 => (some t256)) = some r := by rw [if_pos rfl] at H; exact H
        clear H
        have H := H1
        clear H1
        replace H := Option.bind_eq_some_iff.mp H
        obtain ⟨t256, A140, H⟩ := H
        replace H : (some t256) = some r := H
        have A14 := Aside0.mk A140
        clear A140
        obtain rfl := Option.some.inj H
        go_wp2_with (first | ((with_reducible refine gate_callee (f := 12) rfl ?_); refine goesL_ (some 27) rfl rfl Try.func12 (by kernel_rfl) rfl #[] rfl (by (try simp only [List.map_toArray, List.map_cons, List.map_nil]); first | done | rfl | (simp only [List.length_drop, List.length_take]; rfl)) ?_; (with_reducible refine (substationlaw35_known.calls kj3  t256 _ A14.out).mono ?_); rintro e w15 ⟨rfl, hb⟩; refine ⟨_, rfl, ?_⟩; have n0_ := Aside0.mk (blk_below (g := gb253) (o := .cells #[.int .i64 a0_0, .int .i64 a0_1, .int .i64 a0_2] 23 (0, 0)) (by (with_reducible repeat (first | refine blk_drewN ?_ _ | refine blk_drew ?_ | refine blk_alloc ?_ _)); exact BK253.out) hb); have n1_ := Aside0.mk (blk_below (g := gb254) (o := .cells #[.int .i64 a1_0, .int .i64 a1_1, .int .i64 a1_2] 25 (0, 0)) (by (with_reducible repeat (first | refine blk_drewN ?_ _ | refine blk_drew ?_ | refine blk_alloc ?_ _)); exact BK254.out) hb); have n2_ := Aside0.mk (below_step (by repeat (first | (with_reducible first | exact HB.out | apply below_alloc | apply pw_below_drewN | apply below_drew1 | refine below_set ?_ GE253.out | refine below_set ?_ GE254.out) | exact HB.out)) hb); clear BK253; clear BK254; clear HB; have BK253 := n0_; have BK254 := n1_; have HB := n2_; clear n0_ n1_ n2_; (try clear hb); (try clear hb2); (try clear hk); (try clear hi)))
        go_ret
        exact ⟨by first | rfl | (simp [errW_none, errW_some] <;> rfl) | (simp [*, errW_none, errW_some] <;> rfl), by repeat (first | (with_reducible first | exact HB.out | apply below_alloc | apply pw_below_drewN | apply below_drew1 | refine below_set ?_ GE253.out | refine below_set ?_ GE254.out) | exact HB.out)⟩
      · replace c13 := Bool.eq_false_iff.mpr c13
        subst c13
        have H1 : ((substationlaw35_Settings_step.f a0_0 a0_1 a0_2 a1_0 a1_1 a1_2 false true false false).bind fun bt257 => (if bt257.2.2.2 = true then (substationlaw35_RecloserLockout.j1 kj3 l2 true a0_0 a0_1 a0_2 bt257.1 bt257.2.1 bt257.2.2.1) else (substationlaw35_RecloserLockout.j1 kj3 l2 (!(bt257.1 == 5) || (!(bt257.2.1 == 0) || (!(bt257.2.2.1 == 0)))) a0_0 a0_1 a0_2 bt257.1 bt257.2.1 bt257.2.2.1))) = some r := by rw [if_neg (show ¬ (false = true) by decide)] at H; exact H
        clear H
        have H := H1
        clear H1
        replace H := Option.bind_eq_some_iff.mp H
        obtain ⟨⟨t257, t258, t259, t260⟩, A160, H⟩ := H
        replace H : (if t260 = true then (substationlaw35_RecloserLockout.j1 kj3 l2 true a0_0 a0_1 a0_2 t257 t258 t259) else (substationlaw35_RecloserLockout.j1 kj3 l2 (!(t257 == 5) || (!(t258 == 0) || (!(t259 == 0)))) a0_0 a0_1 a0_2 t257 t258 t259)) = some r := H
        have A16 := Aside0.mk A160
        clear A160
        have HC17 := Aside0.mk H
        clear H
        have hnb18 := NB253_254.out
        have hnc18 := NB254_253.out
        have hcz19_0 : wc.cell? ⟨gb253, 0, none⟩ = some (.int .i64 a0_0) := (blk_cell BK253.out 0).trans rfl
        have hcz19_1 : wc.cell? ⟨gb253, 1, none⟩ = some (.int .i64 a0_1) := (blk_cell BK253.out 1).trans rfl
        have hcz19_2 : wc.cell? ⟨gb253, 2, none⟩ = some (.int .i64 a0_2) := (blk_cell BK253.out 2).trans rfl
        have hfz19_0 := blk_frozen BK253.out 0
        have hfz19_1 := blk_frozen BK253.out 1
        have hfz19_2 := blk_frozen BK253.out 2
        have hcz20_0 : wc.cell? ⟨gb254, 0, none⟩ = some (.int .i64 a1_0) := (blk_cell BK254.out 0).trans rfl
        have hcz20_1 : wc.cell? ⟨gb254, 1, none⟩ = some (.int .i64 a1_1) := (blk_cell BK254.out 1).trans rfl
        have hcz20_2 : wc.cell? ⟨gb254, 2, none⟩ = some (.int .i64 a1_2) := (blk_cell BK254.out 2).trans rfl
        have hfz20_0 := blk_frozen BK254.out 0
        have hfz20_1 := blk_frozen BK254.out 1
        have hfz20_2 := blk_frozen BK254.out 2
        go_upto_region 4 with (first | ((with_reducible refine gate_callee (f := 10) rfl ?_); refine goesL_ (some 32) rfl rfl Try.func10 (by kernel_rfl) rfl #[.agg #[.int .i64 a0_0, .int .i64 a0_1, .int .i64 a0_2], .agg #[.int .i64 a1_0, .int .i64 a1_1, .int .i64 a1_2], .agg #[.bool false, .bool true, .bool false, .bool false]] rfl (by (try simp only [List.map_toArray, List.map_cons, List.map_nil]); first | done | rfl | (simp only [List.length_drop, List.length_take]; rfl)) ?_; (with_reducible refine (substationlaw35_Settings_step.calls a0_0 a0_1 a0_2 a1_0 a1_1 a1_2 false true false false t257 t258 t259 t260 _ A16.out).mono ?_); rintro e w21 ⟨rfl, hb⟩; refine ⟨_, rfl, ?_⟩; have n0_ := Aside0.mk (blk_below (g := gb253) (o := .cells #[.int .i64 a0_0, .int .i64 a0_1, .int .i64 a0_2] 23 (0, 0)) (by (with_reducible repeat (first | refine blk_drewN ?_ _ | refine blk_drew ?_ | refine blk_alloc ?_ _)); exact BK253.out) hb); have n1_ := Aside0.mk (blk_below (g := gb254) (o := .cells #[.int .i64 a1_0, .int .i64 a1_1, .int .i64 a1_2] 25 (0, 0)) (by (with_reducible repeat (first | refine blk_drewN ?_ _ | refine blk_drew ?_ | refine blk_alloc ?_ _)); exact BK254.out) hb); have n2_ := Aside0.mk (below_step (by repeat (first | (with_reducible first | exact HB.out | apply below_alloc | apply pw_below_drewN | apply below_drew1 | refine below_set ?_ GE253.out | refine below_set ?_ GE254.out) | exact HB.out)) hb); clear BK253; clear BK254; clear HB; have BK253 := n0_; have BK254 := n1_; have HB := n2_; clear n0_ n1_ n2_; (try clear hb); (try clear hb2); (try clear hk); (try clear hi)) | ((with_reducible refine gate_dst (N := 7) rfl ?_); refine box_event ?hg (N := 7) ?hd (cs := #[.int .i64 0, .int .i64 0, .int .i64 0]) (t := 25) ?hr ?_; (case hd => rfl); (case hg => rfl); (case hr => first | (go_simp; done) | (go_simp; rfl)); intro gb261 hg w22 hbox hb; have n0_ := Aside0.mk (blk_below (g := gb253) (o := .cells #[.int .i64 a0_0, .int .i64 a0_1, .int .i64 a0_2] 23 (0, 0)) (by (with_reducible repeat (first | refine blk_drewN ?_ _ | refine blk_drew ?_ | refine blk_alloc ?_ _)); exact BK253.out) hb); have n1_ := Aside0.mk (blk_below (g := gb254) (o := .cells #[.int .i64 a1_0, .int .i64 a1_1, .int .i64 a1_2] 25 (0, 0)) (by (with_reducible repeat (first | refine blk_drewN ?_ _ | refine blk_drew ?_ | refine blk_alloc ?_ _)); exact BK254.out) hb); have n2_ := Aside0.mk (below_step (by repeat (first | (with_reducible first | exact HB.out | apply below_alloc | apply pw_below_drewN | apply below_drew1 | refine below_set ?_ GE253.out | refine below_set ?_ GE254.out) | exact HB.out)) hb); have n3_ := Aside0.mk (hbox); have n4_ := Aside0.mk ((by rw [hg]; exact (below_size (by repeat (first | (with_reducible first | exact HB.out | apply below_alloc | apply pw_below_drewN | apply below_drew1 | refine below_set ?_ GE253.out | refine below_set ?_ GE254.out) | exact HB.out))) : w.heap.size ≤ gb261)); have n5_ := Aside0.mk ((by rw [hg]; exact (below_size (by repeat (first | (with_reducible first | exact HB.out | apply below_alloc | apply pw_below_drewN | apply below_drew1 | refine below_set ?_ GE253.out | refine below_set ?_ GE254.out) | exact HB.out))) : w.heap.size ≤ gb261)); have n6_ := Aside0.mk ((by rw [hg]; exact Nat.ne_of_lt (blk_lt (g := gb253) (o := .cells #[.int .i64 a0_0, .int .i64 a0_1, .int .i64 a0_2] 23 (0, 0)) (by (with_reducible repeat (first | refine blk_drewN ?_ _ | refine blk_drew ?_ | refine blk_alloc ?_ _)); exact BK253.out)) : gb253 ≠ gb261)); have n7_ := Aside0.mk ((by rw [hg]; exact Nat.ne_of_gt (blk_lt (g := gb253) (o := .cells #[.int .i64 a0_0, .int .i64 a0_1, .int .i64 a0_2] 23 (0, 0)) (by (with_reducible repeat (first | refine blk_drewN ?_ _ | refine blk_drew ?_ | refine blk_alloc ?_ _)); exact BK253.out)) : gb261 ≠ gb253)); have n8_ := Aside0.mk ((by rw [hg]; exact Nat.ne_of_lt (blk_lt (g := gb254) (o := .cells #[.int .i64 a1_0, .int .i64 a1_1, .int .i64 a1_2] 25 (0, 0)) (by (with_reducible repeat (first | refine blk_drewN ?_ _ | refine blk_drew ?_ | refine blk_alloc ?_ _)); exact BK254.out)) : gb254 ≠ gb261)); have n9_ := Aside0.mk ((by rw [hg]; exact Nat.ne_of_gt (blk_lt (g := gb254) (o := .cells #[.int .i64 a1_0, .int .i64 a1_1, .int .i64 a1_2] 25 (0, 0)) (by (with_reducible repeat (first | refine blk_drewN ?_ _ | refine blk_drew ?_ | refine blk_alloc ?_ _)); exact BK254.out)) : gb261 ≠ gb254)); clear BK253; clear BK254; clear HB; have BK253 := n0_; have BK254 := n1_; have HB := n2_; have BK261 := n3_; have GW261 := n4_; have GE261 := n5_; have NB253_261 := n6_; have NB261_253 := n7_; have NB254_261 := n8_; have NB261_254 := n9_; clear n0_ n1_ n2_ n3_ n4_ n5_ n6_ n7_ n8_ n9_; clear hb hbox hg; have hnb23 := NB261_253.out; have hnc23 := NB253_261.out; have hnb24 := NB261_254.out; have hnc24 := NB254_261.out; have hcz25_0 : w22.cell? ⟨gb261, 0, none⟩ = some (.int .i64 0) := (blk_cell BK261.out 0).trans rfl; have hcz25_1 : w22.cell? ⟨gb261, 1, none⟩ = some (.int .i64 0) := (blk_cell BK261.out 1).trans rfl; have hcz25_2 : w22.cell? ⟨gb261, 2, none⟩ = some (.int .i64 0) := (blk_cell BK261.out 2).trans rfl; have hfz25_0 := blk_frozen BK261.out 0; have hfz25_1 := blk_frozen BK261.out 1; have hfz25_2 := blk_frozen BK261.out 2))
        (try simp only [Act.put, List.setIfInBounds_toArray, List.set_cons_zero, List.set_cons_succ])
        go_cut [40] (fun v40 wc => ∃ (kq : Nat) (x40_16 : Bool), v40 = .bool x40_16 ∧ Aside0 (substationlaw35_RecloserLockout.j1 kq l2 x40_16 a0_0 a0_1 a0_2 t257 t258 t259 = some r) ∧ Aside0 (kq ≤ kj3) ∧ Aside0 (wc.heap[gb253]? = some (.cells #[.int .i64 a0_0, .int .i64 a0_1, .int .i64 a0_2] 23 (0, 0))) ∧ Aside0 (wc.heap[gb254]? = some (.cells #[.int .i64 a1_0, .int .i64 a1_1, .int .i64 a1_2] 25 (0, 0))) ∧ Aside0 (wc.heap[gb261]? = some (.cells #[.int .i64 t257, .int .i64 t258, .int .i64 t259] 25 (0, 0))) ∧ Aside0 (Below w.heap.size w wc))
        case first =>
          have H := HC17.out
          clear HC17
          by_cases c26 : t260 = true
          · subst c26
            have H1 : (substationlaw35_RecloserLockout.j1 kj3 l2 true a0_0 a0_1 a0_2 t257 t258 t259) = some r := by rw [if_pos rfl] at H; exact H
            clear H
            have H := H1
            clear H1
            have H' := Aside0.mk H
            clear H
            go_wp2
            go_meet
            case rel => exact ⟨_, (true), (by first | rfl | (simp; done) | (simp [*]; done)), H', ⟨by have := HJ3.out; first | omega | exact Nat.le_refl _⟩, ⟨by (with_reducible repeat (first | refine blk_drewN ?_ _ | refine blk_drew ?_ | refine blk_alloc ?_ _)); refine blk_far ?_ NB253_261.out _; (with_reducible repeat (first | refine blk_drewN ?_ _ | refine blk_drew ?_ | refine blk_alloc ?_ _)); refine blk_far ?_ NB253_261.out _; (with_reducible repeat (first | refine blk_drewN ?_ _ | refine blk_drew ?_ | refine blk_alloc ?_ _)); refine blk_far ?_ NB253_261.out _; (with_reducible repeat (first | refine blk_drewN ?_ _ | refine blk_drew ?_ | refine blk_alloc ?_ _)); exact BK253.out⟩, ⟨by (with_reducible repeat (first | refine blk_drewN ?_ _ | refine blk_drew ?_ | refine blk_alloc ?_ _)); refine blk_far ?_ NB254_261.out _; (with_reducible repeat (first | refine blk_drewN ?_ _ | refine blk_drew ?_ | refine blk_alloc ?_ _)); refine blk_far ?_ NB254_261.out _; (with_reducible repeat (first | refine blk_drewN ?_ _ | refine blk_drew ?_ | refine blk_alloc ?_ _)); refine blk_far ?_ NB254_261.out _; (with_reducible repeat (first | refine blk_drewN ?_ _ | refine blk_drew ?_ | refine blk_alloc ?_ _)); exact BK254.out⟩, ⟨by (with_reducible repeat (first | refine blk_drewN ?_ _ | refine blk_drew ?_ | refine blk_alloc ?_ _)); refine blk_put (cs := #[.int .i64 t257, .int .i64 t258, .int .i64 0]) ?_ 2 _ rfl; (with_reducible repeat (first | refine blk_drewN ?_ _ | refine blk_drew ?_ | refine blk_alloc ?_ _)); refine blk_put (cs := #[.int .i64 t257, .int .i64 0, .int .i64 0]) ?_ 1 _ rfl; (with_reducible repeat (first | refine blk_drewN ?_ _ | refine blk_drew ?_ | refine blk_alloc ?_ _)); refine blk_put (cs := #[.int .i64 0, .int .i64 0, .int .i64 0]) ?_ 0 _ rfl; (with_reducible repeat (first | refine blk_drewN ?_ _ | refine blk_drew ?_ | refine blk_alloc ?_ _)); exact BK261.out⟩, ⟨by repeat (first | (with_reducible first | exact HB.out | apply below_alloc | apply pw_below_drewN | apply below_drew1 | refine below_set ?_ GE253.out | refine below_set ?_ GE254.out | refine below_set ?_ GE261.out) | exact HB.out)⟩⟩
          · replace c26 := Bool.eq_false_iff.mpr c26
            subst c26
            have H1 : (substationlaw35_RecloserLockout.j1 kj3 l2 (!(t257 == 5) || (!(t258 == 0) || (!(t259 == 0)))) a0_0 a0_1 a0_2 t257 t258 t259) = some r := by rw [if_neg (show ¬ (false = true) by decide)] at H; exact H
            clear H
            have H := H1
            clear H1
            have H' := Aside0.mk H
            clear H
            have hnb27 := NB261_253.out
            have hnc27 := NB253_261.out
            have hnb28 := NB261_254.out
            have hnc28 := NB254_261.out
            have hcz29_0 : w22.cell? ⟨gb261, 0, none⟩ = some (.int .i64 0) := (blk_cell BK261.out 0).trans rfl
            have hcz29_1 : w22.cell? ⟨gb261, 1, none⟩ = some (.int .i64 0) := (blk_cell BK261.out 1).trans rfl
            have hcz29_2 : w22.cell? ⟨gb261, 2, none⟩ = some (.int .i64 0) := (blk_cell BK261.out 2).trans rfl
            have hfz29_0 := blk_frozen BK261.out 0
            have hfz29_1 := blk_frozen BK261.out 1
            have hfz29_2 := blk_frozen BK261.out 2
            go_wp2
            go_meet
            case rel => exact ⟨_, ((!(t257 == 5) || (!(t258 == 0) || (!(t259 == 0))))), (by first | rfl | (simp; done) | (simp [*]; done)), H', ⟨by have := HJ3.out; first | omega | exact Nat.le_refl _⟩, ⟨by (with_reducible repeat (first | refine blk_drewN ?_ _ | refine blk_drew ?_ | refine blk_alloc ?_ _)); refine blk_far ?_ NB253_261.out _; (with_reducible repeat (first | refine blk_drewN ?_ _ | refine blk_drew ?_ | refine blk_alloc ?_ _)); refine blk_far ?_ NB253_261.out _; (with_reducible repeat (first | refine blk_drewN ?_ _ | refine blk_drew ?_ | refine blk_alloc ?_ _)); refine blk_far ?_ NB253_261.out _; (with_reducible repeat (first | refine blk_drewN ?_ _ | refine blk_drew ?_ | refine blk_alloc ?_ _)); exact BK253.out⟩, ⟨by (with_reducible repeat (first | refine blk_drewN ?_ _ | refine blk_drew ?_ | refine blk_alloc ?_ _)); refine blk_far ?_ NB254_261.out _; (with_reducible repeat (first | refine blk_drewN ?_ _ | refine blk_drew ?_ | refine blk_alloc ?_ _)); refine blk_far ?_ NB254_261.out _; (with_reducible repeat (first | refine blk_drewN ?_ _ | refine blk_drew ?_ | refine blk_alloc ?_ _)); refine blk_far ?_ NB254_261.out _; (with_reducible repeat (first | refine blk_drewN ?_ _ | refine blk_drew ?_ | refine blk_alloc ?_ _)); exact BK254.out⟩, ⟨by (with_reducible repeat (first | refine blk_drewN ?_ _ | refine blk_drew ?_ | refine blk_alloc ?_ _)); refine blk_put (cs := #[.int .i64 t257, .int .i64 t258, .int .i64 0]) ?_ 2 _ rfl; (with_reducible repeat (first | refine blk_drewN ?_ _ | refine blk_drew ?_ | refine blk_alloc ?_ _)); refine blk_put (cs := #[.int .i64 t257, .int .i64 0, .int .i64 0]) ?_ 1 _ rfl; (with_reducible repeat (first | refine blk_drewN ?_ _ | refine blk_drew ?_ | refine blk_alloc ?_ _)); refine blk_put (cs := #[.int .i64 0, .int .i64 0, .int .i64 0]) ?_ 0 _ rfl; (with_reducible repeat (first | refine blk_drewN ?_ _ | refine blk_drew ?_ | refine blk_alloc ?_ _)); exact BK261.out⟩, ⟨by repeat (first | (with_reducible first | exact HB.out | apply below_alloc | apply pw_below_drewN | apply below_drew1 | refine below_set ?_ GE253.out | refine below_set ?_ GE254.out | refine below_set ?_ GE261.out) | exact HB.out)⟩⟩
        case rest =>
          clear HC17
          try clear c1
          try clear c2
          try clear p2
          try clear c7
          try clear c7b0
          try clear c7b1
          try clear c9
          try clear c10
          try clear c12
          try clear c13
          try clear c18
          try clear c23
          try clear c24
          try clear c26
          try clear c27
          try clear c28
          try clear hcz10_0
          try clear hcz10_1
          try clear hcz10_2
          try clear hcz11_0
          try clear hcz11_1
          try clear hcz11_2
          try clear hcz19_0
          try clear hcz19_1
          try clear hcz19_2
          try clear hcz20_0
          try clear hcz20_1
          try clear hcz20_2
          try clear hcz25_0
          try clear hcz25_1
          try clear hcz25_2
          try clear hcz29_0
          try clear hcz29_1
          try clear hcz29_2
          try clear hfz10_0
          try clear hfz10_1
          try clear hfz10_2
          try clear hfz11_0
          try clear hfz11_1
          try clear hfz11_2
          try clear hfz19_0
          try clear hfz19_1
          try clear hfz19_2
          try clear hfz20_0
          try clear hfz20_1
          try clear hfz20_2
          try clear hfz25_0
          try clear hfz25_1
          try clear hfz25_2
          try clear hfz29_0
          try clear hfz29_1
          try clear hfz29_2
          try clear p2
          obtain ⟨kq, x40_16, rfl, HA, HJ16, BK253, BK254, BK261, HB⟩ := hcut
          cases kq with
          | zero => exact absurd HA.out (by simp [substationlaw35_RecloserLockout.j1])
          | succ kj16 =>
            have H := HA.out
            clear HA
            simp only [substationlaw35_RecloserLockout.j1] at H
            by_cases c30 : x40_16 = true
            · subst c30
              have H1 : (some false) = some r := by rw [if_pos rfl] at H; exact H
              clear H
              have H := H1
              clear H1
              obtain rfl := Option.some.inj H
              go_wp2
              go_ret
              exact ⟨by first | rfl | (simp [errW_none, errW_some] <;> rfl) | (simp [*, errW_none, errW_some] <;> rfl), by repeat (first | (with_reducible first | exact HB.out | apply below_alloc | apply pw_below_drewN | apply below_drew1 | refine below_set ?_ GE253.out | refine below_set ?_ GE254.out | refine below_set ?_ GE261.out) | exact HB.out)⟩
            · replace c30 := Bool.eq_false_iff.mpr c30
              subst c30
              have H1 : (substationlaw35_RecloserLockout.l0 kj16 0 false l2 (l2.length : Int) 0 a0_0 a0_1 a0_2 t257 t258 t259) = some r := by rw [if_neg (show ¬ (false = true) by decide)] at H; exact H
              clear H
              have H := H1
              clear H1
              have H' := Aside0.mk H
              clear H
              go_wp2
              go_loopg [9, 10, 43] kj16 (fun kq v9 v10 v43 w' => ∃ (x9_3 : Int) (x10_3 : Bool) (x43_3 : Int) (x262000_3 : Int) (x262001_3 : Int) (x262002_3 : Int), v9 = .int .i64 x9_3 ∧ v10 = .bool x10_3 ∧ v43 = .int .i64 x43_3 ∧ Aside0 (substationlaw35_RecloserLockout.l0 kq x9_3 x10_3 l2 (l2.length : Int) x43_3 a0_0 a0_1 a0_2 x262000_3 x262001_3 x262002_3 = some r) ∧ Aside0 (kq ≤ kj16) ∧ Aside0 (w'.heap[gb253]? = some (.cells #[.int .i64 a0_0, .int .i64 a0_1, .int .i64 a0_2] 23 (0, 0))) ∧ Aside0 (w'.heap[gb254]? = some (.cells #[.int .i64 a1_0, .int .i64 a1_1, .int .i64 a1_2] 25 (0, 0))) ∧ Aside0 (w'.heap[gb261]? = some (.cells #[.int .i64 x262000_3, .int .i64 x262001_3, .int .i64 x262002_3] 25 (0, 0))) ∧ Aside0 (Below w.heap.size w w'))
              case atStart => exact ⟨(0), (false), (0), (t257), (t258), (t259), (by first | rfl | (simp; done) | (simp [*]; done)), (by first | rfl | (simp; done) | (simp [*]; done)), (by first | rfl | (simp; done) | (simp [*]; done)), H', ⟨Nat.le_refl _⟩, ⟨by (with_reducible repeat (first | refine blk_drewN ?_ _ | refine blk_drew ?_ | refine blk_alloc ?_ _)); exact BK253.out⟩, ⟨by (with_reducible repeat (first | refine blk_drewN ?_ _ | refine blk_drew ?_ | refine blk_alloc ?_ _)); exact BK254.out⟩, ⟨by (with_reducible repeat (first | refine blk_drewN ?_ _ | refine blk_drew ?_ | refine blk_alloc ?_ _)); exact BK261.out⟩, ⟨by repeat (first | (with_reducible first | exact HB.out | apply below_alloc | apply pw_below_drewN | apply below_drew1 | refine below_set ?_ GE253.out | refine below_set ?_ GE254.out | refine below_set ?_ GE261.out) | exact HB.out)⟩⟩
              case round =>
                clear H'
                try clear c1
                try clear c2
                try clear p2
                try clear c3
                try clear c7
                try clear c7b0
                try clear c7b1
                try clear c9
                try clear c10
                try clear c12
                try clear c13
                try clear c18
                try clear c23
                try clear c24
                try clear c26
                try clear c27
                try clear c28
                try clear c30
                try clear hcz10_0
                try clear hcz10_1
                try clear hcz10_2
                try clear hcz11_0
                try clear hcz11_1
                try clear hcz11_2
                try clear hcz19_0
                try clear hcz19_1
                try clear hcz19_2
                try clear hcz20_0
                try clear hcz20_1
                try clear hcz20_2
                try clear hcz25_0
                try clear hcz25_1
                try clear hcz25_2
                try clear hcz29_0
                try clear hcz29_1
                try clear hcz29_2
                try clear hfz10_0
                try clear hfz10_1
                try clear hfz10_2
                try clear hfz11_0
                try clear hfz11_1
                try clear hfz11_2
                try clear hfz19_0
                try clear hfz19_1
                try clear hfz19_2
                try clear hfz20_0
                try clear hfz20_1
                try clear hfz20_2
                try clear hfz25_0
                try clear hfz25_1
                try clear hfz25_2
                try clear hfz29_0
                try clear hfz29_1
                try clear hfz29_2
                try clear p2
                obtain ⟨x9_3, x10_3, x43_3, x262000_3, x262001_3, x262002_3, rfl, rfl, rfl, HA, HK3, BK253, BK254, BK261, HB⟩ := hrel
                cases gk with
                | zero => exact absurd HA.out (by simp [substationlaw35_RecloserLockout.l0])
                | succ k3 =>
                  have H := HA.out
                  clear HA
                  simp only [substationlaw35_RecloserLockout.l0] at H
                  by_cases c31 : x43_3 < (l2.length : Int)
                  · rw [if_pos c31] at H
                    have c31b0 : decide (x43_3 < (l2.length : Int)) = true := decide_eq_true c31
                    clear c31
                    by_cases c32 : 0 ≤ x43_3
                    · rw [if_pos c32] at H
                      have c32b0 : decide (0 ≤ x43_3) = true := decide_eq_true c32
                      clear c32
                      by_cases c33 : x43_3 < (l2.length : Int)
                      · rw [if_pos c33] at H
                        have c33b0 : decide (x43_3 < (l2.length : Int)) = true := decide_eq_true c33
                        clear c33
                        have HC34 := Aside0.mk H
                        clear H
                        have p263 : 0 ≤ (x43_3 : Int) := of_decide_eq_true (by first | (with_reducible assumption) | assumption)
                        have q263 : x43_3 < (l2.length : Int) := of_decide_eq_true (by first | (with_reducible assumption) | assumption)
                        obtain ⟨ad263, e263, hx263_0, hx263_1, hx263_2, hx263_3⟩ := at_T29 HR2.out x43_3 p263 q263
                        cases e263
                        replace hx263_0 := (HB.out.cell (World.block_lt_of_cell? w _ hx263_0)).trans hx263_0
                        replace hx263_1 := (HB.out.cell (World.block_lt_of_cell? w _ hx263_1)).trans hx263_1
                        replace hx263_2 := (HB.out.cell (World.block_lt_of_cell? w _ hx263_2)).trans hx263_2
                        replace hx263_3 := (HB.out.cell (World.block_lt_of_cell? w _ hx263_3)).trans hx263_3
                        replace p263 := eq_true p263
                        replace q263 := eq_true q263
                        go_upto_region 10 with (first | ((with_reducible refine gate_dst (N := 12) rfl ?_); refine box_event ?hg (N := 12) ?hd (cs := #[.bool false, .bool false, .bool false, .bool false]) (t := 29) ?hr ?_; (case hd => rfl); (case hg => rfl); (case hr => first | (go_simp; done) | (go_simp; rfl)); intro gb264 hg w35 hbox hb; have n0_ := Aside0.mk (blk_below (g := gb253) (o := .cells #[.int .i64 a0_0, .int .i64 a0_1, .int .i64 a0_2] 23 (0, 0)) (by (with_reducible repeat (first | refine blk_drewN ?_ _ | refine blk_drew ?_ | refine blk_alloc ?_ _)); exact BK253.out) hb); have n1_ := Aside0.mk (blk_below (g := gb254) (o := .cells #[.int .i64 a1_0, .int .i64 a1_1, .int .i64 a1_2] 25 (0, 0)) (by (with_reducible repeat (first | refine blk_drewN ?_ _ | refine blk_drew ?_ | refine blk_alloc ?_ _)); exact BK254.out) hb); have n2_ := Aside0.mk (blk_below (g := gb261) (o := .cells #[.int .i64 x262000_3, .int .i64 x262001_3, .int .i64 x262002_3] 25 (0, 0)) (by (with_reducible repeat (first | refine blk_drewN ?_ _ | refine blk_drew ?_ | refine blk_alloc ?_ _)); exact BK261.out) hb); have n3_ := Aside0.mk (below_step (by repeat (first | (with_reducible first | exact HB.out | apply below_alloc | apply pw_below_drewN | apply below_drew1 | refine below_set ?_ GE253.out | refine below_set ?_ GE254.out | refine below_set ?_ GE261.out) | exact HB.out)) hb); have n4_ := Aside0.mk (hbox); have n5_ := Aside0.mk ((by rw [hg]; exact (below_size (by repeat (first | (with_reducible first | exact HB.out | apply below_alloc | apply pw_below_drewN | apply below_drew1 | refine below_set ?_ GE253.out | refine below_set ?_ GE254.out | refine below_set ?_ GE261.out) | exact HB.out))) : w.heap.size ≤ gb264)); have n6_ := Aside0.mk ((by rw [hg]; exact (below_size (by repeat (first | (with_reducible first | exact HB.out | apply below_alloc | apply pw_below_drewN | apply below_drew1 | refine below_set ?_ GE253.out | refine below_set ?_ GE254.out | refine below_set ?_ GE261.out) | exact HB.out))) : w.heap.size ≤ gb264)); have n7_ := Aside0.mk ((by rw [hg]; exact Nat.ne_of_lt (blk_lt (g := gb253) (o := .cells #[.int .i64 a0_0, .int .i64 a0_1, .int .i64 a0_2] 23 (0, 0)) (by (with_reducible repeat (first | refine blk_drewN ?_ _ | refine blk_drew ?_ | refine blk_alloc ?_ _)); exact BK253.out)) : gb253 ≠ gb264)); have n8_ := Aside0.mk ((by rw [hg]; exact Nat.ne_of_gt (blk_lt (g := gb253) (o := .cells #[.int .i64 a0_0, .int .i64 a0_1, .int .i64 a0_2] 23 (0, 0)) (by (with_reducible repeat (first | refine blk_drewN ?_ _ | refine blk_drew ?_ | refine blk_alloc ?_ _)); exact BK253.out)) : gb264 ≠ gb253)); have n9_ := Aside0.mk ((by rw [hg]; exact Nat.ne_of_lt (blk_lt (g := gb254) (o := .cells #[.int .i64 a1_0, .int .i64 a1_1, .int .i64 a1_2] 25 (0, 0)) (by (with_reducible repeat (first | refine blk_drewN ?_ _ | refine blk_drew ?_ | refine blk_alloc ?_ _)); exact BK254.out)) : gb254 ≠ gb264)); have n10_ := Aside0.mk ((by rw [hg]; exact Nat.ne_of_gt (blk_lt (g := gb254) (o := .cells #[.int .i64 a1_0, .int .i64 a1_1, .int .i64 a1_2] 25 (0, 0)) (by (with_reducible repeat (first | refine blk_drewN ?_ _ | refine blk_drew ?_ | refine blk_alloc ?_ _)); exact BK254.out)) : gb264 ≠ gb254)); have n11_ := Aside0.mk ((by rw [hg]; exact Nat.ne_of_lt (blk_lt (g := gb261) (o := .cells #[.int .i64 x262000_3, .int .i64 x262001_3, .int .i64 x262002_3] 25 (0, 0)) (by (with_reducible repeat (first | refine blk_drewN ?_ _ | refine blk_drew ?_ | refine blk_alloc ?_ _)); exact BK261.out)) : gb261 ≠ gb264)); have n12_ := Aside0.mk ((by rw [hg]; exact Nat.ne_of_gt (blk_lt (g := gb261) (o := .cells #[.int .i64 x262000_3, .int .i64 x262001_3, .int .i64 x262002_3] 25 (0, 0)) (by (with_reducible repeat (first | refine blk_drewN ?_ _ | refine blk_drew ?_ | refine blk_alloc ?_ _)); exact BK261.out)) : gb264 ≠ gb261)); clear BK253; clear BK254; clear BK261; clear HB; have BK253 := n0_; have BK254 := n1_; have BK261 := n2_; have HB := n3_; have BK264 := n4_; have GW264 := n5_; have GE264 := n6_; have NB253_264 := n7_; have NB264_253 := n8_; have NB254_264 := n9_; have NB264_254 := n10_; have NB261_264 := n11_; have NB264_261 := n12_; clear n0_ n1_ n2_ n3_ n4_ n5_ n6_ n7_ n8_ n9_ n10_ n11_ n12_; clear hb hbox hg; have hnb36 := NB264_253.out; have hnc36 := NB253_264.out; have hnb37 := NB264_254.out; have hnc37 := NB254_264.out; have hnb38 := NB264_261.out; have hnc38 := NB261_264.out; have hcz39_0 : w35.cell? ⟨gb264, 0, none⟩ = some (.bool false) := (blk_cell BK264.out 0).trans rfl; have hcz39_1 : w35.cell? ⟨gb264, 1, none⟩ = some (.bool false) := (blk_cell BK264.out 1).trans rfl; have hcz39_2 : w35.cell? ⟨gb264, 2, none⟩ = some (.bool false) := (blk_cell BK264.out 2).trans rfl; have hcz39_3 : w35.cell? ⟨gb264, 3, none⟩ = some (.bool false) := (blk_cell BK264.out 3).trans rfl; have hfz39_0 := blk_frozen BK264.out 0; have hfz39_1 := blk_frozen BK264.out 1; have hfz39_2 := blk_frozen BK264.out 2; have hfz39_3 := blk_frozen BK264.out 3))
                        (try simp only [Act.put, List.setIfInBounds_toArray, List.set_cons_zero, List.set_cons_succ])
                        go_cut [10] (fun v10 wc => ∃ (kq : Nat) (x10_33 : Bool), v10 = .bool x10_33 ∧ Aside0 (substationlaw35_RecloserLockout.j3 kq x9_3 x10_33 l2 (l2.length : Int) x43_3 a0_0 a0_1 a0_2 x262000_3 x262001_3 x262002_3 ((rd_T29 l2 x43_3).f0) ((rd_T29 l2 x43_3).f1) ((rd_T29 l2 x43_3).f2) ((rd_T29 l2 x43_3).f3) = some r) ∧ Aside0 (kq ≤ k3) ∧ Aside0 (wc.heap[gb253]? = some (.cells #[.int .i64 a0_0, .int .i64 a0_1, .int .i64 a0_2] 23 (0, 0))) ∧ Aside0 (wc.heap[gb254]? = some (.cells #[.int .i64 a1_0, .int .i64 a1_1, .int .i64 a1_2] 25 (0, 0))) ∧ Aside0 (wc.heap[gb261]? = some (.cells #[.int .i64 x262000_3, .int .i64 x262001_3, .int .i64 x262002_3] 25 (0, 0))) ∧ Aside0 (wc.heap[gb264]? = some (.cells #[.bool ((rd_T29 l2 x43_3).f0), .bool ((rd_T29 l2 x43_3).f1), .bool ((rd_T29 l2 x43_3).f2), .bool ((rd_T29 l2 x43_3).f3)] 29 (0, 0))) ∧ Aside0 (Below w.heap.size w wc))
                        case first =>
                          have H := HC34.out
                          clear HC34
                          by_cases c40 : x10_3 = true
                          · subst c40
                            have H1 : (substationlaw35_RecloserLockout.j3 k3 x9_3 true l2 (l2.length : Int) x43_3 a0_0 a0_1 a0_2 x262000_3 x262001_3 x262002_3 ((rd_T29 l2 x43_3).f0) ((rd_T29 l2 x43_3).f1) ((rd_T29 l2 x43_3).f2) ((rd_T29 l2 x43_3).f3)) = some r := by rw [if_pos rfl] at H; exact H
                            clear H
                            have H := H1
                            clear H1
                            have H' := Aside0.mk H
                            clear H
                            go_wp2
                            go_meet
                            case rel => exact ⟨_, (true), (by first | rfl | (simp; done) | (simp [*]; done)), H', ⟨by have := HJ3.out; have := HJ16.out; have := HK3.out; first | omega | exact Nat.le_refl _⟩, ⟨by (with_reducible repeat (first | refine blk_drewN ?_ _ | refine blk_drew ?_ | refine blk_alloc ?_ _)); refine blk_far ?_ NB253_264.out _; (with_reducible repeat (first | refine blk_drewN ?_ _ | refine blk_drew ?_ | refine blk_alloc ?_ _)); refine blk_far ?_ NB253_264.out _; (with_reducible repeat (first | refine blk_drewN ?_ _ | refine blk_drew ?_ | refine blk_alloc ?_ _)); refine blk_far ?_ NB253_264.out _; (with_reducible repeat (first | refine blk_drewN ?_ _ | refine blk_drew ?_ | refine blk_alloc ?_ _)); refine blk_far ?_ NB253_264.out _; (with_reducible repeat (first | refine blk_drewN ?_ _ | refine blk_drew ?_ | refine blk_alloc ?_ _)); exact BK253.out⟩, ⟨by (with_reducible repeat (first | refine blk_drewN ?_ _ | refine blk_drew ?_ | refine blk_alloc ?_ _)); refine blk_far ?_ NB254_264.out _; (with_reducible repeat (first | refine blk_drewN ?_ _ | refine blk_drew ?_ | refine blk_alloc ?_ _)); refine blk_far ?_ NB254_264.out _; (with_reducible repeat (first | refine blk_drewN ?_ _ | refine blk_drew ?_ | refine blk_alloc ?_ _)); refine blk_far ?_ NB254_264.out _; (with_reducible repeat (first | refine blk_drewN ?_ _ | refine blk_drew ?_ | refine blk_alloc ?_ _)); refine blk_far ?_ NB254_264.out _; (with_reducible repeat (first | refine blk_drewN ?_ _ | refine blk_drew ?_ | refine blk_alloc ?_ _)); exact BK254.out⟩, ⟨by (with_reducible repeat (first | refine blk_drewN ?_ _ | refine blk_drew ?_ | refine blk_alloc ?_ _)); refine blk_far ?_ NB261_264.out _; (with_reducible repeat (first | refine blk_drewN ?_ _ | refine blk_drew ?_ | refine blk_alloc ?_ _)); refine blk_far ?_ NB261_264.out _; (with_reducible repeat (first | refine blk_drewN ?_ _ | refine blk_drew ?_ | refine blk_alloc ?_ _)); refine blk_far ?_ NB261_264.out _; (with_reducible repeat (first | refine blk_drewN ?_ _ | refine blk_drew ?_ | refine blk_alloc ?_ _)); refine blk_far ?_ NB261_264.out _; (with_reducible repeat (first | refine blk_drewN ?_ _ | refine blk_drew ?_ | refine blk_alloc ?_ _)); exact BK261.out⟩, ⟨by (with_reducible repeat (first | refine blk_drewN ?_ _ | refine blk_drew ?_ | refine blk_alloc ?_ _)); refine blk_put (cs := #[.bool ((rd_T29 l2 x43_3).f0), .bool ((rd_T29 l2 x43_3).f1), .bool ((rd_T29 l2 x43_3).f2), .bool false]) ?_ 3 _ rfl; (with_reducible repeat (first | refine blk_drewN ?_ _ | refine blk_drew ?_ | refine blk_alloc ?_ _)); refine blk_put (cs := #[.bool ((rd_T29 l2 x43_3).f0), .bool ((rd_T29 l2 x43_3).f1), .bool false, .bool false]) ?_ 2 _ rfl; (with_reducible repeat (first | refine blk_drewN ?_ _ | refine blk_drew ?_ | refine blk_alloc ?_ _)); refine blk_put (cs := #[.bool ((rd_T29 l2 x43_3).f0), .bool false, .bool false, .bool false]) ?_ 1 _ rfl; (with_reducible repeat (first | refine blk_drewN ?_ _ | refine blk_drew ?_ | refine blk_alloc ?_ _)); refine blk_put (cs := #[.bool false, .bool false, .bool false, .bool false]) ?_ 0 _ rfl; (with_reducible repeat (first | refine blk_drewN ?_ _ | refine blk_drew ?_ | refine blk_alloc ?_ _)); exact BK264.out⟩, ⟨by repeat (first | (with_reducible first | exact HB.out | apply below_alloc | apply pw_below_drewN | apply below_drew1 | refine below_set ?_ GE253.out | refine below_set ?_ GE254.out | refine below_set ?_ GE261.out | refine below_set ?_ GE264.out) | exact HB.out)⟩⟩
                          · replace c40 := Bool.eq_false_iff.mpr c40
                            subst c40
                            have H1 : (if (rd_T29 l2 x43_3).f0 = true then (substationlaw35_RecloserLockout.j3 k3 x9_3 (x262000_3 != 5) l2 (l2.length : Int) x43_3 a0_0 a0_1 a0_2 x262000_3 x262001_3 x262002_3 ((rd_T29 l2 x43_3).f0) ((rd_T29 l2 x43_3).f1) ((rd_T29 l2 x43_3).f2) ((rd_T29 l2 x43_3).f3)) else (substationlaw35_RecloserLockout.j3 k3 x9_3 false l2 (l2.length : Int) x43_3 a0_0 a0_1 a0_2 x262000_3 x262001_3 x262002_3 ((rd_T29 l2 x43_3).f0) ((rd_T29 l2 x43_3).f1) ((rd_T29 l2 x43_3).f2) ((rd_T29 l2 x43_3).f3))) = some r := by rw [if_neg (show ¬ (false = true) by decide)] at H; exact H
                            clear H
                            have H := H1
                            clear H1
                            obtain ⟨bq41, hbq41⟩ : ∃ b_ : Bool, b_ = ((rd_T29 l2 x43_3).f0) := ⟨_, rfl⟩
                            replace H : (if bq41 = true then (substationlaw35_RecloserLockout.j3 k3 x9_3 (x262000_3 != 5) l2 (l2.length : Int) x43_3 a0_0 a0_1 a0_2 x262000_3 x262001_3 x262002_3 bq41 ((rd_T29 l2 x43_3).f1) ((rd_T29 l2 x43_3).f2) ((rd_T29 l2 x43_3).f3)) else (substationlaw35_RecloserLockout.j3 k3 x9_3 false l2 (l2.length : Int) x43_3 a0_0 a0_1 a0_2 x262000_3 x262001_3 x262002_3 bq41 ((rd_T29 l2 x43_3).f1) ((rd_T29 l2 x43_3).f2) ((rd_T29 l2 x43_3).f3))) = some r := by rw [← hbq41] at H; exact H
                            have Nbq41 := Aside0.mk hbq41
                            clear hbq41
                            (try rw [← Nbq41.out])
                            by_cases c42 : bq41 = true
                            · subst c42
                              have H1 : (substationlaw35_RecloserLockout.j3 k3 x9_3 (x262000_3 != 5) l2 (l2.length : Int) x43_3 a0_0 a0_1 a0_2 x262000_3 x262001_3 x262002_3 true ((rd_T29 l2 x43_3).f1) ((rd_T29 l2 x43_3).f2) ((rd_T29 l2 x43_3).f3)) = some r := by rw [if_pos rfl] at H; exact H
                              clear H
                              have H := H1
                              clear H1
                              have H' := Aside0.mk H
                              clear H
                              have hnb43 := NB264_253.out
                              have hnc43 := NB253_264.out
                              have hnb44 := NB264_254.out
                              have hnc44 := NB254_264.out
                              have hnb45 := NB264_261.out
                              have hnc45 := NB261_264.out
                              have hcz46_0 : w35.cell? ⟨gb264, 0, none⟩ = some (.bool false) := (blk_cell BK264.out 0).trans rfl
                              have hcz46_1 : w35.cell? ⟨gb264, 1, none⟩ = some (.bool false) := (blk_cell BK264.out 1).trans rfl
                              have hcz46_2 : w35.cell? ⟨gb264, 2, none⟩ = some (.bool false) := (blk_cell BK264.out 2).trans rfl
                              have hcz46_3 : w35.cell? ⟨gb264, 3, none⟩ = some (.bool false) := (blk_cell BK264.out 3).trans rfl
                              have hfz46_0 := blk_frozen BK264.out 0
                              have hfz46_1 := blk_frozen BK264.out 1
                              have hfz46_2 := blk_frozen BK264.out 2
                              have hfz46_3 := blk_frozen BK264.out 3
                              have hnb47 := NB261_253.out
                              have hnc47 := NB253_261.out
                              have hnb48 := NB261_254.out
                              have hnc48 := NB254_261.out
                              have hcz49_0 : w35.cell? ⟨gb261, 0, none⟩ = some (.int .i64 x262000_3) := (blk_cell BK261.out 0).trans rfl
                              have hcz49_1 : w35.cell? ⟨gb261, 1, none⟩ = some (.int .i64 x262001_3) := (blk_cell BK261.out 1).trans rfl
                              have hcz49_2 : w35.cell? ⟨gb261, 2, none⟩ = some (.int .i64 x262002_3) := (blk_cell BK261.out 2).trans rfl
                              have hfz49_0 := blk_frozen BK261.out 0
                              have hfz49_1 := blk_frozen BK261.out 1
                              have hfz49_2 := blk_frozen BK261.out 2
                              go_wp2
                              go_meet
                              case rel => exact ⟨_, ((x262000_3 != 5)), (by first | rfl | (simp; done) | (simp [*]; done)), ⟨by rw [← Nbq41.out]; exact H'.out⟩, ⟨by have := HJ3.out; have := HJ16.out; have := HK3.out; first | omega | exact Nat.le_refl _⟩, ⟨by (with_reducible repeat (first | refine blk_drewN ?_ _ | refine blk_drew ?_ | refine blk_alloc ?_ _)); refine blk_far ?_ NB253_264.out _; (with_reducible repeat (first | refine blk_drewN ?_ _ | refine blk_drew ?_ | refine blk_alloc ?_ _)); refine blk_far ?_ NB253_264.out _; (with_reducible repeat (first | refine blk_drewN ?_ _ | refine blk_drew ?_ | refine blk_alloc ?_ _)); refine blk_far ?_ NB253_264.out _; (with_reducible repeat (first | refine blk_drewN ?_ _ | refine blk_drew ?_ | refine blk_alloc ?_ _)); refine blk_far ?_ NB253_264.out _; (with_reducible repeat (first | refine blk_drewN ?_ _ | refine blk_drew ?_ | refine blk_alloc ?_ _)); exact BK253.out⟩, ⟨by (with_reducible repeat (first | refine blk_drewN ?_ _ | refine blk_drew ?_ | refine blk_alloc ?_ _)); refine blk_far ?_ NB254_264.out _; (with_reducible repeat (first | refine blk_drewN ?_ _ | refine blk_drew ?_ | refine blk_alloc ?_ _)); refine blk_far ?_ NB254_264.out _; (with_reducible repeat (first | refine blk_drewN ?_ _ | refine blk_drew ?_ | refine blk_alloc ?_ _)); refine blk_far ?_ NB254_264.out _; (with_reducible repeat (first | refine blk_drewN ?_ _ | refine blk_drew ?_ | refine blk_alloc ?_ _)); refine blk_far ?_ NB254_264.out _; (with_reducible repeat (first | refine blk_drewN ?_ _ | refine blk_drew ?_ | refine blk_alloc ?_ _)); exact BK254.out⟩, ⟨by (with_reducible repeat (first | refine blk_drewN ?_ _ | refine blk_drew ?_ | refine blk_alloc ?_ _)); refine blk_far ?_ NB261_264.out _; (with_reducible repeat (first | refine blk_drewN ?_ _ | refine blk_drew ?_ | refine blk_alloc ?_ _)); refine blk_far ?_ NB261_264.out _; (with_reducible repeat (first | refine blk_drewN ?_ _ | refine blk_drew ?_ | refine blk_alloc ?_ _)); refine blk_far ?_ NB261_264.out _; (with_reducible repeat (first | refine blk_drewN ?_ _ | refine blk_drew ?_ | refine blk_alloc ?_ _)); refine blk_far ?_ NB261_264.out _; (with_reducible repeat (first | refine blk_drewN ?_ _ | refine blk_drew ?_ | refine blk_alloc ?_ _)); exact BK261.out⟩, ⟨by rw [← Nbq41.out]; (with_reducible repeat (first | refine blk_drewN ?_ _ | refine blk_drew ?_ | refine blk_alloc ?_ _)); refine blk_put (cs := #[.bool (true), .bool ((rd_T29 l2 x43_3).f1), .bool ((rd_T29 l2 x43_3).f2), .bool false]) ?_ 3 _ rfl; (with_reducible repeat (first | refine blk_drewN ?_ _ | refine blk_drew ?_ | refine blk_alloc ?_ _)); refine blk_put (cs := #[.bool (true), .bool ((rd_T29 l2 x43_3).f1), .bool false, .bool false]) ?_ 2 _ rfl; (with_reducible repeat (first | refine blk_drewN ?_ _ | refine blk_drew ?_ | refine blk_alloc ?_ _)); refine blk_put (cs := #[.bool (true), .bool false, .bool false, .bool false]) ?_ 1 _ rfl; (with_reducible repeat (first | refine blk_drewN ?_ _ | refine blk_drew ?_ | refine blk_alloc ?_ _)); refine blk_put (cs := #[.bool false, .bool false, .bool false, .bool false]) ?_ 0 _ rfl; (with_reducible repeat (first | refine blk_drewN ?_ _ | refine blk_drew ?_ | refine blk_alloc ?_ _)); exact BK264.out⟩, ⟨by repeat (first | (with_reducible first | exact HB.out | apply below_alloc | apply pw_below_drewN | apply below_drew1 | refine below_set ?_ GE253.out | refine below_set ?_ GE254.out | refine below_set ?_ GE261.out | refine below_set ?_ GE264.out) | exact HB.out)⟩⟩
                            · replace c42 := Bool.eq_false_iff.mpr c42
                              subst c42
                              have H1 : (substationlaw35_RecloserLockout.j3 k3 x9_3 false l2 (l2.length : Int) x43_3 a0_0 a0_1 a0_2 x262000_3 x262001_3 x262002_3 false ((rd_T29 l2 x43_3).f1) ((rd_T29 l2 x43_3).f2) ((rd_T29 l2 x43_3).f3)) = some r := by rw [if_neg (show ¬ (false = true) by decide)] at H; exact H
                              clear H
                              have H := H1
                              clear H1
                              have H' := Aside0.mk H
                              clear H
                              have hnb50 := NB264_253.out
                              have hnc50 := NB253_264.out
                              have hnb51 := NB264_254.out
                              have hnc51 := NB254_264.out
                              have hnb52 := NB264_261.out
                              have hnc52 := NB261_264.out
                              have hcz53_0 : w35.cell? ⟨gb264, 0, none⟩ = some (.bool false) := (blk_cell BK264.out 0).trans rfl
                              have hcz53_1 : w35.cell? ⟨gb264, 1, none⟩ = some (.bool false) := (blk_cell BK264.out 1).trans rfl
                              have hcz53_2 : w35.cell? ⟨gb264, 2, none⟩ = some (.bool false) := (blk_cell BK264.out 2).trans rfl
                              have hcz53_3 : w35.cell? ⟨gb264, 3, none⟩ = some (.bool false) := (blk_cell BK264.out 3).trans rfl
                              have hfz53_0 := blk_frozen BK264.out 0
                              have hfz53_1 := blk_frozen BK264.out 1
                              have hfz53_2 := blk_frozen BK264.out 2
                              have hfz53_3 := blk_frozen BK264.out 3
                              go_wp2
                              go_meet
                              case rel => exact ⟨_, (false), (by first | rfl | (simp; done) | (simp [*]; done)), ⟨by rw [← Nbq41.out]; exact H'.out⟩, ⟨by have := HJ3.out; have := HJ16.out; have := HK3.out; first | omega | exact Nat.le_refl _⟩, ⟨by (with_reducible repeat (first | refine blk_drewN ?_ _ | refine blk_drew ?_ | refine blk_alloc ?_ _)); refine blk_far ?_ NB253_264.out _; (with_reducible repeat (first | refine blk_drewN ?_ _ | refine blk_drew ?_ | refine blk_alloc ?_ _)); refine blk_far ?_ NB253_264.out _; (with_reducible repeat (first | refine blk_drewN ?_ _ | refine blk_drew ?_ | refine blk_alloc ?_ _)); refine blk_far ?_ NB253_264.out _; (with_reducible repeat (first | refine blk_drewN ?_ _ | refine blk_drew ?_ | refine blk_alloc ?_ _)); refine blk_far ?_ NB253_264.out _; (with_reducible repeat (first | refine blk_drewN ?_ _ | refine blk_drew ?_ | refine blk_alloc ?_ _)); exact BK253.out⟩, ⟨by (with_reducible repeat (first | refine blk_drewN ?_ _ | refine blk_drew ?_ | refine blk_alloc ?_ _)); refine blk_far ?_ NB254_264.out _; (with_reducible repeat (first | refine blk_drewN ?_ _ | refine blk_drew ?_ | refine blk_alloc ?_ _)); refine blk_far ?_ NB254_264.out _; (with_reducible repeat (first | refine blk_drewN ?_ _ | refine blk_drew ?_ | refine blk_alloc ?_ _)); refine blk_far ?_ NB254_264.out _; (with_reducible repeat (first | refine blk_drewN ?_ _ | refine blk_drew ?_ | refine blk_alloc ?_ _)); refine blk_far ?_ NB254_264.out _; (with_reducible repeat (first | refine blk_drewN ?_ _ | refine blk_drew ?_ | refine blk_alloc ?_ _)); exact BK254.out⟩, ⟨by (with_reducible repeat (first | refine blk_drewN ?_ _ | refine blk_drew ?_ | refine blk_alloc ?_ _)); refine blk_far ?_ NB261_264.out _; (with_reducible repeat (first | refine blk_drewN ?_ _ | refine blk_drew ?_ | refine blk_alloc ?_ _)); refine blk_far ?_ NB261_264.out _; (with_reducible repeat (first | refine blk_drewN ?_ _ | refine blk_drew ?_ | refine blk_alloc ?_ _)); refine blk_far ?_ NB261_264.out _; (with_reducible repeat (first | refine blk_drewN ?_ _ | refine blk_drew ?_ | refine blk_alloc ?_ _)); refine blk_far ?_ NB261_264.out _; (with_reducible repeat (first | refine blk_drewN ?_ _ | refine blk_drew ?_ | refine blk_alloc ?_ _)); exact BK261.out⟩, ⟨by rw [← Nbq41.out]; (with_reducible repeat (first | refine blk_drewN ?_ _ | refine blk_drew ?_ | refine blk_alloc ?_ _)); refine blk_put (cs := #[.bool (false), .bool ((rd_T29 l2 x43_3).f1), .bool ((rd_T29 l2 x43_3).f2), .bool false]) ?_ 3 _ rfl; (with_reducible repeat (first | refine blk_drewN ?_ _ | refine blk_drew ?_ | refine blk_alloc ?_ _)); refine blk_put (cs := #[.bool (false), .bool ((rd_T29 l2 x43_3).f1), .bool false, .bool false]) ?_ 2 _ rfl; (with_reducible repeat (first | refine blk_drewN ?_ _ | refine blk_drew ?_ | refine blk_alloc ?_ _)); refine blk_put (cs := #[.bool (false), .bool false, .bool false, .bool false]) ?_ 1 _ rfl; (with_reducible repeat (first | refine blk_drewN ?_ _ | refine blk_drew ?_ | refine blk_alloc ?_ _)); refine blk_put (cs := #[.bool false, .bool false, .bool false, .bool false]) ?_ 0 _ rfl; (with_reducible repeat (first | refine blk_drewN ?_ _ | refine blk_drew ?_ | refine blk_alloc ?_ _)); exact BK264.out⟩, ⟨by repeat (first | (with_reducible first | exact HB.out | apply below_alloc | apply pw_below_drewN | apply below_drew1 | refine below_set ?_ GE253.out | refine below_set ?_ GE254.out | refine below_set ?_ GE261.out | refine below_set ?_ GE264.out) | exact HB.out)⟩⟩
                        case rest =>
                          clear HC34
                          try clear c1
                          try clear c2
                          try clear p2
                          try clear q2
                          try clear hx2
                          try clear c3
                          try clear c4
                          try clear q4
                          try clear c5
                          try clear c7
                          try clear c7b0
                          try clear c7b1
                          try clear c9
                          try clear c10
                          try clear c12
                          try clear c13
                          try clear c18
                          try clear c23
                          try clear c24
                          try clear c26
                          try clear p26
                          try clear q26
                          try clear hx26
                          try clear c27
                          try clear c28
                          try clear c30
                          try clear c31
                          try clear c31b0
                          try clear c32
                          try clear c32b0
                          try clear c33
                          try clear c33b0
                          try clear c36
                          try clear c37
                          try clear c38
                          try clear c40
                          try clear q41
                          try clear c42
                          try clear c43
                          try clear c44
                          try clear c45
                          try clear c47
                          try clear c48
                          try clear c50
                          try clear c51
                          try clear c52
                          try clear hcz10_0
                          try clear hcz10_1
                          try clear hcz10_2
                          try clear hcz11_0
                          try clear hcz11_1
                          try clear hcz11_2
                          try clear hcz19_0
                          try clear hcz19_1
                          try clear hcz19_2
                          try clear hcz20_0
                          try clear hcz20_1
                          try clear hcz20_2
                          try clear hcz25_0
                          try clear hcz25_1
                          try clear hcz25_2
                          try clear hcz29_0
                          try clear hcz29_1
                          try clear hcz29_2
                          try clear hcz39_0
                          try clear hcz39_1
                          try clear hcz39_2
                          try clear hcz39_3
                          try clear hcz46_0
                          try clear hcz46_1
                          try clear hcz46_2
                          try clear hcz46_3
                          try clear hcz49_0
                          try clear hcz49_1
                          try clear hcz49_2
                          try clear hcz53_0
                          try clear hcz53_1
                          try clear hcz53_2
                          try clear hcz53_3
                          try clear hfz10_0
                          try clear hfz10_1
                          try clear hfz10_2
                          try clear hfz11_0
                          try clear hfz11_1
                          try clear hfz11_2
                          try clear hfz19_0
                          try clear hfz19_1
                          try clear hfz19_2
                          try clear hfz20_0
                          try clear hfz20_1
                          try clear hfz20_2
                          try clear hfz25_0
                          try clear hfz25_1
                          try clear hfz25_2
                          try clear hfz29_0
                          try clear hfz29_1
                          try clear hfz29_2
                          try clear hfz39_0
                          try clear hfz39_1
                          try clear hfz39_2
                          try clear hfz39_3
                          try clear hfz46_0
                          try clear hfz46_1
                          try clear hfz46_2
                          try clear hfz46_3
                          try clear hfz49_0
                          try clear hfz49_1
                          try clear hfz49_2
                          try clear hfz53_0
                          try clear hfz53_1
                          try clear hfz53_2
                          try clear hfz53_3
                          try clear hx263_0
                          try clear hx263_1
                          try clear hx263_2
                          try clear hx263_3
                          try clear p2
                          try clear p263
                          try clear q263
                          obtain ⟨kq, x10_33, rfl, HA, HJ33, BK253, BK254, BK261, BK264, HB⟩ := hcut
                          cases kq with
                          | zero => exact absurd HA.out (by simp [substationlaw35_RecloserLockout.j3])
                          | succ kj33 =>
                            have H := HA.out
                            clear HA
                            simp only [substationlaw35_RecloserLockout.j3] at H
                            replace H := Option.bind_eq_some_iff.mp H
                            obtain ⟨⟨t265, t266, t267, t268⟩, A540, H⟩ := H
                            replace H : (if ((rd_T29 l2 x43_3).f2) = true then (substationlaw35_RecloserLockout.j4 kj33 t268 0 x10_33 l2 (l2.length : Int) x43_3 a0_0 a0_1 a0_2 t265 t266 t267) else (if ((rd_T29 l2 x43_3).f3) = true then (substationlaw35_RecloserLockout.j4 kj33 t268 x9_3 x10_33 l2 (l2.length : Int) x43_3 a0_0 a0_1 a0_2 t265 t266 t267) else (substationlaw35_RecloserLockout.j4 kj33 t268 (wrap64 (x9_3 + 1)) x10_33 l2 (l2.length : Int) x43_3 a0_0 a0_1 a0_2 t265 t266 t267))) = some r := H
                            have A54 := Aside0.mk A540
                            clear A540
                            have HC55 := Aside0.mk H
                            clear H
                            have hnb56 := NB253_254.out
                            have hnc56 := NB254_253.out
                            have hnb57 := NB253_261.out
                            have hnc57 := NB261_253.out
                            have hnb58 := NB253_264.out
                            have hnc58 := NB264_253.out
                            have hcz59_0 : wc.cell? ⟨gb253, 0, none⟩ = some (.int .i64 a0_0) := (blk_cell BK253.out 0).trans rfl
                            have hcz59_1 : wc.cell? ⟨gb253, 1, none⟩ = some (.int .i64 a0_1) := (blk_cell BK253.out 1).trans rfl
                            have hcz59_2 : wc.cell? ⟨gb253, 2, none⟩ = some (.int .i64 a0_2) := (blk_cell BK253.out 2).trans rfl
                            have hfz59_0 := blk_frozen BK253.out 0
                            have hfz59_1 := blk_frozen BK253.out 1
                            have hfz59_2 := blk_frozen BK253.out 2
                            have hnb60 := NB261_254.out
                            have hnc60 := NB254_261.out
                            have hnb61 := NB261_264.out
                            have hnc61 := NB264_261.out
                            have hcz62_0 : wc.cell? ⟨gb261, 0, none⟩ = some (.int .i64 x262000_3) := (blk_cell BK261.out 0).trans rfl
                            have hcz62_1 : wc.cell? ⟨gb261, 1, none⟩ = some (.int .i64 x262001_3) := (blk_cell BK261.out 1).trans rfl
                            have hcz62_2 : wc.cell? ⟨gb261, 2, none⟩ = some (.int .i64 x262002_3) := (blk_cell BK261.out 2).trans rfl
                            have hfz62_0 := blk_frozen BK261.out 0
                            have hfz62_1 := blk_frozen BK261.out 1
                            have hfz62_2 := blk_frozen BK261.out 2
                            have hnb63 := NB264_254.out
                            have hnc63 := NB254_264.out
                            have hcz64_0 : wc.cell? ⟨gb264, 0, none⟩ = some (.bool ((rd_T29 l2 x43_3).f0)) := (blk_cell BK264.out 0).trans rfl
                            have hcz64_1 : wc.cell? ⟨gb264, 1, none⟩ = some (.bool ((rd_T29 l2 x43_3).f1)) := (blk_cell BK264.out 1).trans rfl
                            have hcz64_2 : wc.cell? ⟨gb264, 2, none⟩ = some (.bool ((rd_T29 l2 x43_3).f2)) := (blk_cell BK264.out 2).trans rfl
                            have hcz64_3 : wc.cell? ⟨gb264, 3, none⟩ = some (.bool ((rd_T29 l2 x43_3).f3)) := (blk_cell BK264.out 3).trans rfl
                            have hfz64_0 := blk_frozen BK264.out 0
                            have hfz64_1 := blk_frozen BK264.out 1
                            have hfz64_2 := blk_frozen BK264.out 2
                            have hfz64_3 := blk_frozen BK264.out 3
                            go_upto_if 65 with (first | ((with_reducible refine gate_callee (f := 10) rfl ?_); refine goesL_ (some 61) rfl rfl Try.func10 (by kernel_rfl) rfl #[.agg #[.int .i64 a0_0, .int .i64 a0_1, .int .i64 a0_2], .agg #[.int .i64 x262000_3, .int .i64 x262001_3, .int .i64 x262002_3], .agg #[.bool ((rd_T29 l2 x43_3).f0), .bool ((rd_T29 l2 x43_3).f1), .bool ((rd_T29 l2 x43_3).f2), .bool ((rd_T29 l2 x43_3).f3)]] rfl (by (try simp only [List.map_toArray, List.map_cons, List.map_nil]); first | done | rfl | (simp only [List.length_drop, List.length_take]; rfl)) ?_; (with_reducible refine (substationlaw35_Settings_step.calls a0_0 a0_1 a0_2 x262000_3 x262001_3 x262002_3 ((rd_T29 l2 x43_3).f0) ((rd_T29 l2 x43_3).f1) ((rd_T29 l2 x43_3).f2) ((rd_T29 l2 x43_3).f3) t265 t266 t267 t268 _ A54.out).mono ?_); rintro e w65 ⟨rfl, hb⟩; refine ⟨_, rfl, ?_⟩; have n0_ := Aside0.mk (blk_below (g := gb253) (o := .cells #[.int .i64 a0_0, .int .i64 a0_1, .int .i64 a0_2] 23 (0, 0)) (by (with_reducible repeat (first | refine blk_drewN ?_ _ | refine blk_drew ?_ | refine blk_alloc ?_ _)); exact BK253.out) hb); have n1_ := Aside0.mk (blk_below (g := gb254) (o := .cells #[.int .i64 a1_0, .int .i64 a1_1, .int .i64 a1_2] 25 (0, 0)) (by (with_reducible repeat (first | refine blk_drewN ?_ _ | refine blk_drew ?_ | refine blk_alloc ?_ _)); exact BK254.out) hb); have n2_ := Aside0.mk (blk_below (g := gb261) (o := .cells #[.int .i64 x262000_3, .int .i64 x262001_3, .int .i64 x262002_3] 25 (0, 0)) (by (with_reducible repeat (first | refine blk_drewN ?_ _ | refine blk_drew ?_ | refine blk_alloc ?_ _)); exact BK261.out) hb); have n3_ := Aside0.mk (blk_below (g := gb264) (o := .cells #[.bool ((rd_T29 l2 x43_3).f0), .bool ((rd_T29 l2 x43_3).f1), .bool ((rd_T29 l2 x43_3).f2), .bool ((rd_T29 l2 x43_3).f3)] 29 (0, 0)) (by (with_reducible repeat (first | refine blk_drewN ?_ _ | refine blk_drew ?_ | refine blk_alloc ?_ _)); exact BK264.out) hb); have n4_ := Aside0.mk (below_step (by repeat (first | (with_reducible first | exact HB.out | apply below_alloc | apply pw_below_drewN | apply below_drew1 | refine below_set ?_ GE253.out | refine below_set ?_ GE254.out | refine below_set ?_ GE261.out | refine below_set ?_ GE264.out) | exact HB.out)) hb); clear BK253; clear BK254; clear BK261; clear BK264; clear HB; have BK253 := n0_; have BK254 := n1_; have BK261 := n2_; have BK264 := n3_; have HB := n4_; clear n0_ n1_ n2_ n3_ n4_; (try clear hb); (try clear hb2); (try clear hk); (try clear hi); have hcz66_0 : w65.cell? ⟨gb261, 0, none⟩ = some (.int .i64 x262000_3) := (blk_cell BK261.out 0).trans rfl; have hcz66_1 : w65.cell? ⟨gb261, 1, none⟩ = some (.int .i64 x262001_3) := (blk_cell BK261.out 1).trans rfl; have hcz66_2 : w65.cell? ⟨gb261, 2, none⟩ = some (.int .i64 x262002_3) := (blk_cell BK261.out 2).trans rfl; have hfz66_0 := blk_frozen BK261.out 0; have hfz66_1 := blk_frozen BK261.out 1; have hfz66_2 := blk_frozen BK261.out 2; have hcz67_0 : w65.cell? ⟨gb264, 0, none⟩ = some (.bool ((rd_T29 l2 x43_3).f0)) := (blk_cell BK264.out 0).trans rfl; have hcz67_1 : w65.cell? ⟨gb264, 1, none⟩ = some (.bool ((rd_T29 l2 x43_3).f1)) := (blk_cell BK264.out 1).trans rfl; have hcz67_2 : w65.cell? ⟨gb264, 2, none⟩ = some (.bool ((rd_T29 l2 x43_3).f2)) := (blk_cell BK264.out 2).trans rfl; have hcz67_3 : w65.cell? ⟨gb264, 3, none⟩ = some (.bool ((rd_T29 l2 x43_3).f3)) := (blk_cell BK264.out 3).trans rfl; have hfz67_0 := blk_frozen BK264.out 0; have hfz67_1 := blk_frozen BK264.out 1; have hfz67_2 := blk_frozen BK264.out 2; have hfz67_3 := blk_frozen BK264.out 3))
                            (try simp only [Act.put, List.setIfInBounds_toArray, List.set_cons_zero, List.set_cons_succ])
                            go_cut [9] (fun v9 wc => ∃ (kq : Nat) (x9_54 : Int), v9 = .int .i64 x9_54 ∧ Aside0 (substationlaw35_RecloserLockout.j4 kq t268 x9_54 x10_33 l2 (l2.length : Int) x43_3 a0_0 a0_1 a0_2 t265 t266 t267 = some r) ∧ Aside0 (kq ≤ kj33) ∧ Aside0 (wc.heap[gb253]? = some (.cells #[.int .i64 a0_0, .int .i64 a0_1, .int .i64 a0_2] 23 (0, 0))) ∧ Aside0 (wc.heap[gb254]? = some (.cells #[.int .i64 a1_0, .int .i64 a1_1, .int .i64 a1_2] 25 (0, 0))) ∧ Aside0 (wc.heap[gb261]? = some (.cells #[.int .i64 t265, .int .i64 t266, .int .i64 t267] 25 (0, 0))) ∧ Aside0 (wc.heap[gb264]? = some (.cells #[.bool ((rd_T29 l2 x43_3).f0), .bool ((rd_T29 l2 x43_3).f1), .bool ((rd_T29 l2 x43_3).f2), .bool ((rd_T29 l2 x43_3).f3)] 29 (0, 0))) ∧ Aside0 (Below w.heap.size w wc))
                            case first =>
                              have H := HC55.out
                              clear HC55
                              by_cases c68 : ((rd_T29 l2 x43_3).f2) = true
                              · rw [if_pos c68] at H
                                have c68b0 : ((rd_T29 l2 x43_3).f2) = true := c68
                                clear c68
                                (first | rw [c68b0] | (simp only [i64_w, i32_w]; rw [c68b0]) | skip)
                                have H' := Aside0.mk H
                                clear H
                                go_wp2
                                go_meet
                                case rel => exact ⟨_, (0), (by first | rfl | (simp; done) | (simp [*]; done)), H', ⟨by have := HJ3.out; have := HJ16.out; have := HK3.out; have := HJ33.out; first | omega | exact Nat.le_refl _⟩, ⟨by (with_reducible repeat (first | refine blk_drewN ?_ _ | refine blk_drew ?_ | refine blk_alloc ?_ _)); refine blk_far ?_ NB253_261.out _; (with_reducible repeat (first | refine blk_drewN ?_ _ | refine blk_drew ?_ | refine blk_alloc ?_ _)); refine blk_far ?_ NB253_261.out _; (with_reducible repeat (first | refine blk_drewN ?_ _ | refine blk_drew ?_ | refine blk_alloc ?_ _)); refine blk_far ?_ NB253_261.out _; (with_reducible repeat (first | refine blk_drewN ?_ _ | refine blk_drew ?_ | refine blk_alloc ?_ _)); exact BK253.out⟩, ⟨by (with_reducible repeat (first | refine blk_drewN ?_ _ | refine blk_drew ?_ | refine blk_alloc ?_ _)); refine blk_far ?_ NB254_261.out _; (with_reducible repeat (first | refine blk_drewN ?_ _ | refine blk_drew ?_ | refine blk_alloc ?_ _)); refine blk_far ?_ NB254_261.out _; (with_reducible repeat (first | refine blk_drewN ?_ _ | refine blk_drew ?_ | refine blk_alloc ?_ _)); refine blk_far ?_ NB254_261.out _; (with_reducible repeat (first | refine blk_drewN ?_ _ | refine blk_drew ?_ | refine blk_alloc ?_ _)); exact BK254.out⟩, ⟨by (with_reducible repeat (first | refine blk_drewN ?_ _ | refine blk_drew ?_ | refine blk_alloc ?_ _)); refine blk_put (cs := #[.int .i64 t265, .int .i64 t266, .int .i64 x262002_3]) ?_ 2 _ rfl; (with_reducible repeat (first | refine blk_drewN ?_ _ | refine blk_drew ?_ | refine blk_alloc ?_ _)); refine blk_put (cs := #[.int .i64 t265, .int .i64 x262001_3, .int .i64 x262002_3]) ?_ 1 _ rfl; (with_reducible repeat (first | refine blk_drewN ?_ _ | refine blk_drew ?_ | refine blk_alloc ?_ _)); refine blk_put (cs := #[.int .i64 x262000_3, .int .i64 x262001_3, .int .i64 x262002_3]) ?_ 0 _ rfl; (with_reducible repeat (first | refine blk_drewN ?_ _ | refine blk_drew ?_ | refine blk_alloc ?_ _)); exact BK261.out⟩, ⟨by (with_reducible repeat (first | refine blk_drewN ?_ _ | refine blk_drew ?_ | refine blk_alloc ?_ _)); refine blk_far ?_ NB264_261.out _; (with_reducible repeat (first | refine blk_drewN ?_ _ | refine blk_drew ?_ | refine blk_alloc ?_ _)); refine blk_far ?_ NB264_261.out _; (with_reducible repeat (first | refine blk_drewN ?_ _ | refine blk_drew ?_ | refine blk_alloc ?_ _)); refine blk_far ?_ NB264_261.out _; (with_reducible repeat (first | refine blk_drewN ?_ _ | refine blk_drew ?_ | refine blk_alloc ?_ _)); exact BK264.out⟩, ⟨by repeat (first | (with_reducible first | exact HB.out | apply below_alloc | apply pw_below_drewN | apply below_drew1 | refine below_set ?_ GE253.out | refine below_set ?_ GE254.out | refine below_set ?_ GE261.out | refine below_set ?_ GE264.out) | exact HB.out)⟩⟩
                              · rw [if_neg c68] at H
                                have c68b0 : ((rd_T29 l2 x43_3).f2) = false := by simpa using c68
                                clear c68
                                (first | rw [c68b0] | (simp only [i64_w, i32_w]; rw [c68b0]) | skip)
                                by_cases c69 : ((rd_T29 l2 x43_3).f3) = true
                                · rw [if_pos c69] at H
                                  have c69b0 : ((rd_T29 l2 x43_3).f3) = true := c69
                                  clear c69
                                  have H' := Aside0.mk H
                                  clear H
                                  have hnb70 := NB264_253.out
                                  have hnc70 := NB253_264.out
                                  have hnb71 := NB264_254.out
                                  have hnc71 := NB254_264.out
                                  have hnb72 := NB264_261.out
                                  have hnc72 := NB261_264.out
                                  have hcz73_0 : w65.cell? ⟨gb264, 0, none⟩ = some (.bool ((rd_T29 l2 x43_3).f0)) := (blk_cell BK264.out 0).trans rfl
                                  have hcz73_1 : w65.cell? ⟨gb264, 1, none⟩ = some (.bool ((rd_T29 l2 x43_3).f1)) := (blk_cell BK264.out 1).trans rfl
                                  have hcz73_2 : w65.cell? ⟨gb264, 2, none⟩ = some (.bool ((rd_T29 l2 x43_3).f2)) := (blk_cell BK264.out 2).trans rfl
                                  have hcz73_3 : w65.cell? ⟨gb264, 3, none⟩ = some (.bool ((rd_T29 l2 x43_3).f3)) := (blk_cell BK264.out 3).trans rfl
                                  have hfz73_0 := blk_frozen BK264.out 0
                                  have hfz73_1 := blk_frozen BK264.out 1
                                  have hfz73_2 := blk_frozen BK264.out 2
                                  have hfz73_3 := blk_frozen BK264.out 3
                                  go_wp2
                                  go_meet
                                  case rel => exact ⟨_, (x9_3), (by first | rfl | (simp; done) | (simp [*]; done)), H', ⟨by have := HJ3.out; have := HJ16.out; have := HK3.out; have := HJ33.out; first | omega | exact Nat.le_refl _⟩, ⟨by (with_reducible repeat (first | refine blk_drewN ?_ _ | refine blk_drew ?_ | refine blk_alloc ?_ _)); refine blk_far ?_ NB253_261.out _; (with_reducible repeat (first | refine blk_drewN ?_ _ | refine blk_drew ?_ | refine blk_alloc ?_ _)); refine blk_far ?_ NB253_261.out _; (with_reducible repeat (first | refine blk_drewN ?_ _ | refine blk_drew ?_ | refine blk_alloc ?_ _)); refine blk_far ?_ NB253_261.out _; (with_reducible repeat (first | refine blk_drewN ?_ _ | refine blk_drew ?_ | refine blk_alloc ?_ _)); exact BK253.out⟩, ⟨by (with_reducible repeat (first | refine blk_drewN ?_ _ | refine blk_drew ?_ | refine blk_alloc ?_ _)); refine blk_far ?_ NB254_261.out _; (with_reducible repeat (first | refine blk_drewN ?_ _ | refine blk_drew ?_ | refine blk_alloc ?_ _)); refine blk_far ?_ NB254_261.out _; (with_reducible repeat (first | refine blk_drewN ?_ _ | refine blk_drew ?_ | refine blk_alloc ?_ _)); refine blk_far ?_ NB254_261.out _; (with_reducible repeat (first | refine blk_drewN ?_ _ | refine blk_drew ?_ | refine blk_alloc ?_ _)); exact BK254.out⟩, ⟨by (with_reducible repeat (first | refine blk_drewN ?_ _ | refine blk_drew ?_ | refine blk_alloc ?_ _)); refine blk_put (cs := #[.int .i64 t265, .int .i64 t266, .int .i64 x262002_3]) ?_ 2 _ rfl; (with_reducible repeat (first | refine blk_drewN ?_ _ | refine blk_drew ?_ | refine blk_alloc ?_ _)); refine blk_put (cs := #[.int .i64 t265, .int .i64 x262001_3, .int .i64 x262002_3]) ?_ 1 _ rfl; (with_reducible repeat (first | refine blk_drewN ?_ _ | refine blk_drew ?_ | refine blk_alloc ?_ _)); refine blk_put (cs := #[.int .i64 x262000_3, .int .i64 x262001_3, .int .i64 x262002_3]) ?_ 0 _ rfl; (with_reducible repeat (first | refine blk_drewN ?_ _ | refine blk_drew ?_ | refine blk_alloc ?_ _)); exact BK261.out⟩, ⟨by (with_reducible repeat (first | refine blk_drewN ?_ _ | refine blk_drew ?_ | refine blk_alloc ?_ _)); refine blk_far ?_ NB264_261.out _; (with_reducible repeat (first | refine blk_drewN ?_ _ | refine blk_drew ?_ | refine blk_alloc ?_ _)); refine blk_far ?_ NB264_261.out _; (with_reducible repeat (first | refine blk_drewN ?_ _ | refine blk_drew ?_ | refine blk_alloc ?_ _)); refine blk_far ?_ NB264_261.out _; (with_reducible repeat (first | refine blk_drewN ?_ _ | refine blk_drew ?_ | refine blk_alloc ?_ _)); exact BK264.out⟩, ⟨by repeat (first | (with_reducible first | exact HB.out | apply below_alloc | apply pw_below_drewN | apply below_drew1 | refine below_set ?_ GE253.out | refine below_set ?_ GE254.out | refine below_set ?_ GE261.out | refine below_set ?_ GE264.out) | exact HB.out)⟩⟩
                                · rw [if_neg c69] at H
                                  have c69b0 : ((rd_T29 l2 x43_3).f3) = false := by simpa using c69
                                  clear c69
                                  have H' := Aside0.mk H
                                  clear H
                                  have hnb74 := NB264_253.out
                                  have hnc74 := NB253_264.out
                                  have hnb75 := NB264_254.out
                                  have hnc75 := NB254_264.out
                                  have hnb76 := NB264_261.out
                                  have hnc76 := NB261_264.out
                                  have hcz77_0 : w65.cell? ⟨gb264, 0, none⟩ = some (.bool ((rd_T29 l2 x43_3).f0)) := (blk_cell BK264.out 0).trans rfl
                                  have hcz77_1 : w65.cell? ⟨gb264, 1, none⟩ = some (.bool ((rd_T29 l2 x43_3).f1)) := (blk_cell BK264.out 1).trans rfl
                                  have hcz77_2 : w65.cell? ⟨gb264, 2, none⟩ = some (.bool ((rd_T29 l2 x43_3).f2)) := (blk_cell BK264.out 2).trans rfl
                                  have hcz77_3 : w65.cell? ⟨gb264, 3, none⟩ = some (.bool ((rd_T29 l2 x43_3).f3)) := (blk_cell BK264.out 3).trans rfl
                                  have hfz77_0 := blk_frozen BK264.out 0
                                  have hfz77_1 := blk_frozen BK264.out 1
                                  have hfz77_2 := blk_frozen BK264.out 2
                                  have hfz77_3 := blk_frozen BK264.out 3
                                  go_wp2
                                  go_meet
                                  case rel => exact ⟨_, (wrap64 (x9_3 + 1)), (by first | rfl | (simp; done) | (simp [*]; done)), H', ⟨by have := HJ3.out; have := HJ16.out; have := HK3.out; have := HJ33.out; first | omega | exact Nat.le_refl _⟩, ⟨by (with_reducible repeat (first | refine blk_drewN ?_ _ | refine blk_drew ?_ | refine blk_alloc ?_ _)); refine blk_far ?_ NB253_261.out _; (with_reducible repeat (first | refine blk_drewN ?_ _ | refine blk_drew ?_ | refine blk_alloc ?_ _)); refine blk_far ?_ NB253_261.out _; (with_reducible repeat (first | refine blk_drewN ?_ _ | refine blk_drew ?_ | refine blk_alloc ?_ _)); refine blk_far ?_ NB253_261.out _; (with_reducible repeat (first | refine blk_drewN ?_ _ | refine blk_drew ?_ | refine blk_alloc ?_ _)); exact BK253.out⟩, ⟨by (with_reducible repeat (first | refine blk_drewN ?_ _ | refine blk_drew ?_ | refine blk_alloc ?_ _)); refine blk_far ?_ NB254_261.out _; (with_reducible repeat (first | refine blk_drewN ?_ _ | refine blk_drew ?_ | refine blk_alloc ?_ _)); refine blk_far ?_ NB254_261.out _; (with_reducible repeat (first | refine blk_drewN ?_ _ | refine blk_drew ?_ | refine blk_alloc ?_ _)); refine blk_far ?_ NB254_261.out _; (with_reducible repeat (first | refine blk_drewN ?_ _ | refine blk_drew ?_ | refine blk_alloc ?_ _)); exact BK254.out⟩, ⟨by (with_reducible repeat (first | refine blk_drewN ?_ _ | refine blk_drew ?_ | refine blk_alloc ?_ _)); refine blk_put (cs := #[.int .i64 t265, .int .i64 t266, .int .i64 x262002_3]) ?_ 2 _ rfl; (with_reducible repeat (first | refine blk_drewN ?_ _ | refine blk_drew ?_ | refine blk_alloc ?_ _)); refine blk_put (cs := #[.int .i64 t265, .int .i64 x262001_3, .int .i64 x262002_3]) ?_ 1 _ rfl; (with_reducible repeat (first | refine blk_drewN ?_ _ | refine blk_drew ?_ | refine blk_alloc ?_ _)); refine blk_put (cs := #[.int .i64 x262000_3, .int .i64 x262001_3, .int .i64 x262002_3]) ?_ 0 _ rfl; (with_reducible repeat (first | refine blk_drewN ?_ _ | refine blk_drew ?_ | refine blk_alloc ?_ _)); exact BK261.out⟩, ⟨by (with_reducible repeat (first | refine blk_drewN ?_ _ | refine blk_drew ?_ | refine blk_alloc ?_ _)); refine blk_far ?_ NB264_261.out _; (with_reducible repeat (first | refine blk_drewN ?_ _ | refine blk_drew ?_ | refine blk_alloc ?_ _)); refine blk_far ?_ NB264_261.out _; (with_reducible repeat (first | refine blk_drewN ?_ _ | refine blk_drew ?_ | refine blk_alloc ?_ _)); refine blk_far ?_ NB264_261.out _; (with_reducible repeat (first | refine blk_drewN ?_ _ | refine blk_drew ?_ | refine blk_alloc ?_ _)); exact BK264.out⟩, ⟨by repeat (first | (with_reducible first | exact HB.out | apply below_alloc | apply pw_below_drewN | apply below_drew1 | refine below_set ?_ GE253.out | refine below_set ?_ GE254.out | refine below_set ?_ GE261.out | refine below_set ?_ GE264.out) | exact HB.out)⟩⟩
                            case rest =>
                              clear HC55
                              try clear c1
                              try clear c2
                              try clear p2
                              try clear q2
                              try clear hx2
                              try clear c3
                              try clear c4
                              try clear q4
                              try clear c5
                              try clear c6
                              try clear p6
                              try clear c7
                              try clear c7b0
                              try clear c7b1
                              try clear c9
                              try clear c10
                              try clear c12
                              try clear c13
                              try clear c18
                              try clear c23
                              try clear c24
                              try clear c26
                              try clear p26
                              try clear q26
                              try clear hx26
                              try clear c27
                              try clear c28
                              try clear c30
                              try clear c31
                              try clear c31b0
                              try clear c32
                              try clear c32b0
                              try clear c33
                              try clear c33b0
                              try clear c36
                              try clear c37
                              try clear c38
                              try clear c40
                              try clear q41
                              try clear c42
                              try clear c43
                              try clear c44
                              try clear c45
                              try clear c47
                              try clear c48
                              try clear c50
                              try clear c51
                              try clear c52
                              try clear c56
                              try clear c57
                              try clear c58
                              try clear c60
                              try clear c61
                              try clear c63
                              try clear p64
                              try clear c68
                              try clear c68b0
                              try clear c69
                              try clear c69b0
                              try clear c70
                              try clear c71
                              try clear c72
                              try clear c74
                              try clear c75
                              try clear c76
                              try clear hcz10_0
                              try clear hcz10_1
                              try clear hcz10_2
                              try clear hcz11_0
                              try clear hcz11_1
                              try clear hcz11_2
                              try clear hcz19_0
                              try clear hcz19_1
                              try clear hcz19_2
                              try clear hcz20_0
                              try clear hcz20_1
                              try clear hcz20_2
                              try clear hcz25_0
                              try clear hcz25_1
                              try clear hcz25_2
                              try clear hcz29_0
                              try clear hcz29_1
                              try clear hcz29_2
                              try clear hcz39_0
                              try clear hcz39_1
                              try clear hcz39_2
                              try clear hcz39_3
                              try clear hcz46_0
                              try clear hcz46_1
                              try clear hcz46_2
                              try clear hcz46_3
                              try clear hcz49_0
                              try clear hcz49_1
                              try clear hcz49_2
                              try clear hcz53_0
                              try clear hcz53_1
                              try clear hcz53_2
                              try clear hcz53_3
                              try clear hcz59_0
                              try clear hcz59_1
                              try clear hcz59_2
                              try clear hcz62_0
                              try clear hcz62_1
                              try clear hcz62_2
                              try clear hcz64_0
                              try clear hcz64_1
                              try clear hcz64_2
                              try clear hcz64_3
                              try clear hcz66_0
                              try clear hcz66_1
                              try clear hcz66_2
                              try clear hcz67_0
                              try clear hcz67_1
                              try clear hcz67_2
                              try clear hcz67_3
                              try clear hcz73_0
                              try clear hcz73_1
                              try clear hcz73_2
                              try clear hcz73_3
                              try clear hcz77_0
                              try clear hcz77_1
                              try clear hcz77_2
                              try clear hcz77_3
                              try clear hfz10_0
                              try clear hfz10_1
                              try clear hfz10_2
                              try clear hfz11_0
                              try clear hfz11_1
                              try clear hfz11_2
                              try clear hfz19_0
                              try clear hfz19_1
                              try clear hfz19_2
                              try clear hfz20_0
                              try clear hfz20_1
                              try clear hfz20_2
                              try clear hfz25_0
                              try clear hfz25_1
                              try clear hfz25_2
                              try clear hfz29_0
                              try clear hfz29_1
                              try clear hfz29_2
                              try clear hfz39_0
                              try clear hfz39_1
                              try clear hfz39_2
                              try clear hfz39_3
                              try clear hfz46_0
                              try clear hfz46_1
                              try clear hfz46_2
                              try clear hfz46_3
                              try clear hfz49_0
                              try clear hfz49_1
                              try clear hfz49_2
                              try clear hfz53_0
                              try clear hfz53_1
                              try clear hfz53_2
                              try clear hfz53_3
                              try clear hfz59_0
                              try clear hfz59_1
                              try clear hfz59_2
                              try clear hfz62_0
                              try clear hfz62_1
                              try clear hfz62_2
                              try clear hfz64_0
                              try clear hfz64_1
                              try clear hfz64_2
                              try clear hfz64_3
                              try clear hfz66_0
                              try clear hfz66_1
                              try clear hfz66_2
                              try clear hfz67_0
                              try clear hfz67_1
                              try clear hfz67_2
                              try clear hfz67_3
                              try clear hfz73_0
                              try clear hfz73_1
                              try clear hfz73_2
                              try clear hfz73_3
                              try clear hfz77_0
                              try clear hfz77_1
                              try clear hfz77_2
                              try clear hfz77_3
                              try clear hx263_0
                              try clear hx263_1
                              try clear hx263_2
                              try clear hx263_3
                              try clear p2
                              try clear p26
                              try clear p263
                              try clear q2
                              try clear q26
                              try clear q263
                              try clear q4
                              try clear q41
                              obtain ⟨kq, x9_54, rfl, HA, HJ54, BK253, BK254, BK261, BK264, HB⟩ := hcut
                              cases kq with
                              | zero => exact absurd HA.out (by simp [substationlaw35_RecloserLockout.j4])
                              | succ kj54 =>
                                have H := HA.out
                                clear HA
                                simp only [substationlaw35_RecloserLockout.j4] at H
                                have HC78 := Aside0.mk H
                                clear H
                                go_upto_region 16 with (fail)
                                go_cut [75] (fun v75 wc => ∃ (kq : Nat) (x75_77 : Bool), v75 = .bool x75_77 ∧ Aside0 (substationlaw35_RecloserLockout.j5 kq x9_54 x10_33 l2 (l2.length : Int) x43_3 x75_77 a0_0 a0_1 a0_2 t265 t266 t267 = some r) ∧ Aside0 (kq ≤ kj54) ∧ Aside0 (wc.heap[gb253]? = some (.cells #[.int .i64 a0_0, .int .i64 a0_1, .int .i64 a0_2] 23 (0, 0))) ∧ Aside0 (wc.heap[gb254]? = some (.cells #[.int .i64 a1_0, .int .i64 a1_1, .int .i64 a1_2] 25 (0, 0))) ∧ Aside0 (wc.heap[gb261]? = some (.cells #[.int .i64 t265, .int .i64 t266, .int .i64 t267] 25 (0, 0))) ∧ Aside0 (wc.heap[gb264]? = some (.cells #[.bool ((rd_T29 l2 x43_3).f0), .bool ((rd_T29 l2 x43_3).f1), .bool ((rd_T29 l2 x43_3).f2), .bool ((rd_T29 l2 x43_3).f3)] 29 (0, 0))) ∧ Aside0 (Below w.heap.size w wc))
                                case first =>
                                  have H := HC78.out
                                  clear HC78
                                  by_cases c79 : t268 = true
                                  · subst c79
                                    have H1 : (substationlaw35_RecloserLockout.j5 kj54 x9_54 x10_33 l2 (l2.length : Int) x43_3 (!x10_33) a0_0 a0_1 a0_2 t265 t266 t267) = some r := by rw [if_pos rfl] at H; exact H
                                    clear H
                                    have H := H1
                                    clear H1
                                    have H' := Aside0.mk H
                                    clear H
                                    go_wp2
                                    go_meet
                                    case rel => exact ⟨_, (!x10_33), (by first | rfl | (simp; done) | (simp [*]; done)), H', ⟨by have := HJ3.out; have := HJ16.out; have := HK3.out; have := HJ33.out; have := HJ54.out; first | omega | exact Nat.le_refl _⟩, ⟨by (with_reducible repeat (first | refine blk_drewN ?_ _ | refine blk_drew ?_ | refine blk_alloc ?_ _)); exact BK253.out⟩, ⟨by (with_reducible repeat (first | refine blk_drewN ?_ _ | refine blk_drew ?_ | refine blk_alloc ?_ _)); exact BK254.out⟩, ⟨by (with_reducible repeat (first | refine blk_drewN ?_ _ | refine blk_drew ?_ | refine blk_alloc ?_ _)); exact BK261.out⟩, ⟨by (with_reducible repeat (first | refine blk_drewN ?_ _ | refine blk_drew ?_ | refine blk_alloc ?_ _)); exact BK264.out⟩, ⟨by repeat (first | (with_reducible first | exact HB.out | apply below_alloc | apply pw_below_drewN | apply below_drew1 | refine below_set ?_ GE253.out | refine below_set ?_ GE254.out | refine below_set ?_ GE261.out | refine below_set ?_ GE264.out) | exact HB.out)⟩⟩
                                  · replace c79 := Bool.eq_false_iff.mpr c79
                                    subst c79
                                    have H1 : (substationlaw35_RecloserLockout.j5 kj54 x9_54 x10_33 l2 (l2.length : Int) x43_3 false a0_0 a0_1 a0_2 t265 t266 t267) = some r := by rw [if_neg (show ¬ (false = true) by decide)] at H; exact H
                                    clear H
                                    have H := H1
                                    clear H1
                                    have H' := Aside0.mk H
                                    clear H
                                    go_wp2
                                    go_meet
                                    case rel => exact ⟨_, (false), (by first | rfl | (simp; done) | (simp [*]; done)), H', ⟨by have := HJ3.out; have := HJ16.out; have := HK3.out; have := HJ33.out; have := HJ54.out; first | omega | exact Nat.le_refl _⟩, ⟨by (with_reducible repeat (first | refine blk_drewN ?_ _ | refine blk_drew ?_ | refine blk_alloc ?_ _)); exact BK253.out⟩, ⟨by (with_reducible repeat (first | refine blk_drewN ?_ _ | refine blk_drew ?_ | refine blk_alloc ?_ _)); exact BK254.out⟩, ⟨by (with_reducible repeat (first | refine blk_drewN ?_ _ | refine blk_drew ?_ | refine blk_alloc ?_ _)); exact BK261.out⟩, ⟨by (with_reducible repeat (first | refine blk_drewN ?_ _ | refine blk_drew ?_ | refine blk_alloc ?_ _)); exact BK264.out⟩, ⟨by repeat (first | (with_reducible first | exact HB.out | apply below_alloc | apply pw_below_drewN | apply below_drew1 | refine below_set ?_ GE253.out | refine below_set ?_ GE254.out | refine below_set ?_ GE261.out | refine below_set ?_ GE264.out) | exact HB.out)⟩⟩
                                case rest =>
                                  clear HC78
                                  try clear c1
                                  try clear c2
                                  try clear p2
                                  try clear q2
                                  try clear hx2
                                  try clear c3
                                  try clear c4
                                  try clear q4
                                  try clear c5
                                  try clear c6
                                  try clear p6
                                  try clear c7
                                  try clear c7b0
                                  try clear c7b1
                                  try clear c9
                                  try clear c10
                                  try clear c12
                                  try clear c13
                                  try clear c18
                                  try clear c23
                                  try clear c24
                                  try clear c26
                                  try clear p26
                                  try clear q26
                                  try clear hx26
                                  try clear c27
                                  try clear c28
                                  try clear c30
                                  try clear c31
                                  try clear c31b0
                                  try clear c32
                                  try clear c32b0
                                  try clear c33
                                  try clear c33b0
                                  try clear c36
                                  try clear c37
                                  try clear c38
                                  try clear c40
                                  try clear q41
                                  try clear c42
                                  try clear c43
                                  try clear c44
                                  try clear c45
                                  try clear c47
                                  try clear c48
                                  try clear c50
                                  try clear c51
                                  try clear c52
                                  try clear c56
                                  try clear c57
                                  try clear c58
                                  try clear c60
                                  try clear c61
                                  try clear c63
                                  try clear p64
                                  try clear c68
                                  try clear c68b0
                                  try clear c69
                                  try clear c69b0
                                  try clear c70
                                  try clear c71
                                  try clear c72
                                  try clear c74
                                  try clear c75
                                  try clear c76
                                  try clear c79
                                  try clear hcz10_0
                                  try clear hcz10_1
                                  try clear hcz10_2
                                  try clear hcz11_0
                                  try clear hcz11_1
                                  try clear hcz11_2
                                  try clear hcz19_0
                                  try clear hcz19_1
                                  try clear hcz19_2
                                  try clear hcz20_0
                                  try clear hcz20_1
                                  try clear hcz20_2
                                  try clear hcz25_0
                                  try clear hcz25_1
                                  try clear hcz25_2
                                  try clear hcz29_0
                                  try clear hcz29_1
                                  try clear hcz29_2
                                  try clear hcz39_0
                                  try clear hcz39_1
                                  try clear hcz39_2
                                  try clear hcz39_3
                                  try clear hcz46_0
                                  try clear hcz46_1
                                  try clear hcz46_2
                                  try clear hcz46_3
                                  try clear hcz49_0
                                  try clear hcz49_1
                                  try clear hcz49_2
                                  try clear hcz53_0
                                  try clear hcz53_1
                                  try clear hcz53_2
                                  try clear hcz53_3
                                  try clear hcz59_0
                                  try clear hcz59_1
                                  try clear hcz59_2
                                  try clear hcz62_0
                                  try clear hcz62_1
                                  try clear hcz62_2
                                  try clear hcz64_0
                                  try clear hcz64_1
                                  try clear hcz64_2
                                  try clear hcz64_3
                                  try clear hcz66_0
                                  try clear hcz66_1
                                  try clear hcz66_2
                                  try clear hcz67_0
                                  try clear hcz67_1
                                  try clear hcz67_2
                                  try clear hcz67_3
                                  try clear hcz73_0
                                  try clear hcz73_1
                                  try clear hcz73_2
                                  try clear hcz73_3
                                  try clear hcz77_0
                                  try clear hcz77_1
                                  try clear hcz77_2
                                  try clear hcz77_3
                                  try clear hfz10_0
                                  try clear hfz10_1
                                  try clear hfz10_2
                                  try clear hfz11_0
                                  try clear hfz11_1
                                  try clear hfz11_2
                                  try clear hfz19_0
                                  try clear hfz19_1
                                  try clear hfz19_2
                                  try clear hfz20_0
                                  try clear hfz20_1
                                  try clear hfz20_2
                                  try clear hfz25_0
                                  try clear hfz25_1
                                  try clear hfz25_2
                                  try clear hfz29_0
                                  try clear hfz29_1
                                  try clear hfz29_2
                                  try clear hfz39_0
                                  try clear hfz39_1
                                  try clear hfz39_2
                                  try clear hfz39_3
                                  try clear hfz46_0
                                  try clear hfz46_1
                                  try clear hfz46_2
                                  try clear hfz46_3
                                  try clear hfz49_0
                                  try clear hfz49_1
                                  try clear hfz49_2
                                  try clear hfz53_0
                                  try clear hfz53_1
                                  try clear hfz53_2
                                  try clear hfz53_3
                                  try clear hfz59_0
                                  try clear hfz59_1
                                  try clear hfz59_2
                                  try clear hfz62_0
                                  try clear hfz62_1
                                  try clear hfz62_2
                                  try clear hfz64_0
                                  try clear hfz64_1
                                  try clear hfz64_2
                                  try clear hfz64_3
                                  try clear hfz66_0
                                  try clear hfz66_1
                                  try clear hfz66_2
                                  try clear hfz67_0
                                  try clear hfz67_1
                                  try clear hfz67_2
                                  try clear hfz67_3
                                  try clear hfz73_0
                                  try clear hfz73_1
                                  try clear hfz73_2
                                  try clear hfz73_3
                                  try clear hfz77_0
                                  try clear hfz77_1
                                  try clear hfz77_2
                                  try clear hfz77_3
                                  try clear hx263_0
                                  try clear hx263_1
                                  try clear hx263_2
                                  try clear hx263_3
                                  try clear p2
                                  try clear p26
                                  try clear p263
                                  try clear p6
                                  try clear p64
                                  try clear q2
                                  try clear q26
                                  try clear q263
                                  try clear q4
                                  try clear q41
                                  obtain ⟨kq, x75_77, rfl, HA, HJ77, BK253, BK254, BK261, BK264, HB⟩ := hcut
                                  cases kq with
                                  | zero => exact absurd HA.out (by simp [substationlaw35_RecloserLockout.j5])
                                  | succ kj77 =>
                                    have H := HA.out
                                    clear HA
                                    simp only [substationlaw35_RecloserLockout.j5] at H
                                    by_cases c80 : x75_77 = true
                                    · subst c80
                                      have H1 : (some false) = some r := by rw [if_pos rfl] at H; exact H
                                      clear H
                                      have H := H1
                                      clear H1
                                      obtain rfl := Option.some.inj H
                                      go_wp2
                                      go_ret
                                      exact ⟨by first | rfl | (simp [errW_none, errW_some] <;> rfl) | (simp [*, errW_none, errW_some] <;> rfl), by repeat (first | (with_reducible first | exact HB.out | apply below_alloc | apply pw_below_drewN | apply below_drew1 | refine below_set ?_ GE253.out | refine below_set ?_ GE254.out | refine below_set ?_ GE261.out | refine below_set ?_ GE264.out) | exact HB.out)⟩
                                    · replace c80 := Bool.eq_false_iff.mpr c80
                                      subst c80
                                      have H1 : (if t265 = 5 then (substationlaw35_RecloserLockout.l0 kj77 x9_54 x10_33 l2 (l2.length : Int) (wrap64 (x43_3 + 1)) a0_0 a0_1 a0_2 t265 t266 t267) else (if x9_54 < a0_2 then (if x10_33 = true then (substationlaw35_RecloserLockout.l0 kj77 x9_54 x10_33 l2 (l2.length : Int) (wrap64 (x43_3 + 1)) a0_0 a0_1 a0_2 t265 t266 t267) else (some false)) else (substationlaw35_RecloserLockout.l0 kj77 x9_54 x10_33 l2 (l2.length : Int) (wrap64 (x43_3 + 1)) a0_0 a0_1 a0_2 t265 t266 t267))) = some r := by rw [if_neg (show ¬ (false = true) by decide)] at H; exact H
                                      clear H
                                      have H := H1
                                      clear H1
                                      by_cases c81 : t265 = 5
                                      · rw [if_pos c81] at H
                                        have c81b0 : (t265 == 5) = true := beq_iff_eq.mpr c81
                                        have c81b1 : (t265 != 5) = false := bne_eq_false_iff_eq.mpr c81
                                        clear c81
                                        have H' := Aside0.mk H
                                        clear H
                                        have hnb82 := NB261_253.out
                                        have hnc82 := NB253_261.out
                                        have hnb83 := NB261_254.out
                                        have hnc83 := NB254_261.out
                                        have hnb84 := NB261_264.out
                                        have hnc84 := NB264_261.out
                                        have hcz85_0 : wc.cell? ⟨gb261, 0, none⟩ = some (.int .i64 t265) := (blk_cell BK261.out 0).trans rfl
                                        have hcz85_1 : wc.cell? ⟨gb261, 1, none⟩ = some (.int .i64 t266) := (blk_cell BK261.out 1).trans rfl
                                        have hcz85_2 : wc.cell? ⟨gb261, 2, none⟩ = some (.int .i64 t267) := (blk_cell BK261.out 2).trans rfl
                                        have hfz85_0 := blk_frozen BK261.out 0
                                        have hfz85_1 := blk_frozen BK261.out 1
                                        have hfz85_2 := blk_frozen BK261.out 2
                                        go_wp2
                                        go_roundg kj77
                                        case measure => have := HJ3.out; have := HJ16.out; have := HK3.out; have := HJ33.out; have := HJ54.out; have := HJ77.out; omega
                                        case rel => exact ⟨(x9_54), (x10_33), (wrap64 (x43_3 + 1)), (t265), (t266), (t267), (by first | rfl | (simp; done) | (simp [*]; done)), (by first | rfl | (simp; done) | (simp [*]; done)), (by first | rfl | (simp; done) | (simp [*]; done)), H', ⟨by have := HJ3.out; have := HJ16.out; have := HK3.out; have := HJ33.out; have := HJ54.out; have := HJ77.out; omega⟩, ⟨by (with_reducible repeat (first | refine blk_drewN ?_ _ | refine blk_drew ?_ | refine blk_alloc ?_ _)); exact BK253.out⟩, ⟨by (with_reducible repeat (first | refine blk_drewN ?_ _ | refine blk_drew ?_ | refine blk_alloc ?_ _)); exact BK254.out⟩, ⟨by (with_reducible repeat (first | refine blk_drewN ?_ _ | refine blk_drew ?_ | refine blk_alloc ?_ _)); exact BK261.out⟩, ⟨by repeat (first | (with_reducible first | exact HB.out | apply below_alloc | apply pw_below_drewN | apply below_drew1 | refine below_set ?_ GE253.out | refine below_set ?_ GE254.out | refine below_set ?_ GE261.out | refine below_set ?_ GE264.out) | exact HB.out)⟩⟩
                                      · rw [if_neg c81] at H
                                        have c81b0 : (t265 == 5) = false := beq_eq_false_iff_ne.mpr c81
                                        have c81b1 : (t265 != 5) = true := bne_iff_ne.mpr c81
                                        by_cases c86 : x9_54 < a0_2
                                        · rw [if_pos c86] at H
                                          have c86b0 : decide (x9_54 < a0_2) = true := decide_eq_true c86
                                          clear c86
                                          by_cases c87 : x10_33 = true
                                          · subst c87
                                            have H1 : (substationlaw35_RecloserLockout.l0 kj77 x9_54 true l2 (l2.length : Int) (wrap64 (x43_3 + 1)) a0_0 a0_1 a0_2 t265 t266 t267) = some r := by rw [if_pos rfl] at H; exact H
                                            clear H
                                            have H := H1
                                            clear H1
                                            have H' := Aside0.mk H
                                            clear H
                                            have hnb88 := NB261_253.out
                                            have hnc88 := NB253_261.out
                                            have hnb89 := NB261_254.out
                                            have hnc89 := NB254_261.out
                                            have hnb90 := NB261_264.out
                                            have hnc90 := NB264_261.out
                                            have hcz91_0 : wc.cell? ⟨gb261, 0, none⟩ = some (.int .i64 t265) := (blk_cell BK261.out 0).trans rfl
                                            have hcz91_1 : wc.cell? ⟨gb261, 1, none⟩ = some (.int .i64 t266) := (blk_cell BK261.out 1).trans rfl
                                            have hcz91_2 : wc.cell? ⟨gb261, 2, none⟩ = some (.int .i64 t267) := (blk_cell BK261.out 2).trans rfl
                                            have hfz91_0 := blk_frozen BK261.out 0
                                            have hfz91_1 := blk_frozen BK261.out 1
                                            have hfz91_2 := blk_frozen BK261.out 2
                                            have hnb92 := NB253_254.out
                                            have hnc92 := NB254_253.out
                                            have hnb93 := NB253_264.out
                                            have hnc93 := NB264_253.out
                                            have hcz94_0 : wc.cell? ⟨gb253, 0, none⟩ = some (.int .i64 a0_0) := (blk_cell BK253.out 0).trans rfl
                                            have hcz94_1 : wc.cell? ⟨gb253, 1, none⟩ = some (.int .i64 a0_1) := (blk_cell BK253.out 1).trans rfl
                                            have hcz94_2 : wc.cell? ⟨gb253, 2, none⟩ = some (.int .i64 a0_2) := (blk_cell BK253.out 2).trans rfl
                                            have hfz94_0 := blk_frozen BK253.out 0
                                            have hfz94_1 := blk_frozen BK253.out 1
                                            have hfz94_2 := blk_frozen BK253.out 2
                                            go_wp2
                                            go_roundg kj77
                                            case measure => have := HJ3.out; have := HJ16.out; have := HK3.out; have := HJ33.out; have := HJ54.out; have := HJ77.out; omega
                                            case rel => exact ⟨(x9_54), (true), (wrap64 (x43_3 + 1)), (t265), (t266), (t267), (by first | rfl | (simp; done) | (simp [*]; done)), (by first | rfl | (simp; done) | (simp [*]; done)), (by first | rfl | (simp; done) | (simp [*]; done)), H', ⟨by have := HJ3.out; have := HJ16.out; have := HK3.out; have := HJ33.out; have := HJ54.out; have := HJ77.out; omega⟩, ⟨by (with_reducible repeat (first | refine blk_drewN ?_ _ | refine blk_drew ?_ | refine blk_alloc ?_ _)); exact BK253.out⟩, ⟨by (with_reducible repeat (first | refine blk_drewN ?_ _ | refine blk_drew ?_ | refine blk_alloc ?_ _)); exact BK254.out⟩, ⟨by (with_reducible repeat (first | refine blk_drewN ?_ _ | refine blk_drew ?_ | refine blk_alloc ?_ _)); exact BK261.out⟩, ⟨by repeat (first | (with_reducible first | exact HB.out | apply below_alloc | apply pw_below_drewN | apply below_drew1 | refine below_set ?_ GE253.out | refine below_set ?_ GE254.out | refine below_set ?_ GE261.out | refine below_set ?_ GE264.out) | exact HB.out)⟩⟩
                                          · replace c87 := Bool.eq_false_iff.mpr c87
                                            subst c87
                                            have H1 : (some false) = some r := by rw [if_neg (show ¬ (false = true) by decide)] at H; exact H
                                            clear H
                                            have H := H1
                                            clear H1
                                            obtain rfl := Option.some.inj H
                                            have hnb95 := NB261_253.out
                                            have hnc95 := NB253_261.out
                                            have hnb96 := NB261_254.out
                                            have hnc96 := NB254_261.out
                                            have hnb97 := NB261_264.out
                                            have hnc97 := NB264_261.out
                                            have hcz98_0 : wc.cell? ⟨gb261, 0, none⟩ = some (.int .i64 t265) := (blk_cell BK261.out 0).trans rfl
                                            have hcz98_1 : wc.cell? ⟨gb261, 1, none⟩ = some (.int .i64 t266) := (blk_cell BK261.out 1).trans rfl
                                            have hcz98_2 : wc.cell? ⟨gb261, 2, none⟩ = some (.int .i64 t267) := (blk_cell BK261.out 2).trans rfl
                                            have hfz98_0 := blk_frozen BK261.out 0
                                            have hfz98_1 := blk_frozen BK261.out 1
                                            have hfz98_2 := blk_frozen BK261.out 2
                                            have hnb99 := NB253_254.out
                                            have hnc99 := NB254_253.out
                                            have hnb100 := NB253_264.out
                                            have hnc100 := NB264_253.out
                                            have hcz101_0 : wc.cell? ⟨gb253, 0, none⟩ = some (.int .i64 a0_0) := (blk_cell BK253.out 0).trans rfl
                                            have hcz101_1 : wc.cell? ⟨gb253, 1, none⟩ = some (.int .i64 a0_1) := (blk_cell BK253.out 1).trans rfl
                                            have hcz101_2 : wc.cell? ⟨gb253, 2, none⟩ = some (.int .i64 a0_2) := (blk_cell BK253.out 2).trans rfl
                                            have hfz101_0 := blk_frozen BK253.out 0
                                            have hfz101_1 := blk_frozen BK253.out 1
                                            have hfz101_2 := blk_frozen BK253.out 2
                                            go_wp2
                                            go_ret
                                            exact ⟨by first | rfl | (simp [errW_none, errW_some] <;> rfl) | (simp [*, errW_none, errW_some] <;> rfl), by repeat (first | (with_reducible first | exact HB.out | apply below_alloc | apply pw_below_drewN | apply below_drew1 | refine below_set ?_ GE253.out | refine below_set ?_ GE254.out | refine below_set ?_ GE261.out | refine below_set ?_ GE264.out) | exact HB.out)⟩
                                        · rw [if_neg c86] at H
                                          have c86b0 : decide (x9_54 < a0_2) = false := decide_eq_false c86
                                          clear c86
                                          have H' := Aside0.mk H
                                          clear H
                                          have hnb102 := NB261_253.out
                                          have hnc102 := NB253_261.out
                                          have hnb103 := NB261_254.out
                                          have hnc103 := NB254_261.out
                                          have hnb104 := NB261_264.out
                                          have hnc104 := NB264_261.out
                                          have hcz105_0 : wc.cell? ⟨gb261, 0, none⟩ = some (.int .i64 t265) := (blk_cell BK261.out 0).trans rfl
                                          have hcz105_1 : wc.cell? ⟨gb261, 1, none⟩ = some (.int .i64 t266) := (blk_cell BK261.out 1).trans rfl
                                          have hcz105_2 : wc.cell? ⟨gb261, 2, none⟩ = some (.int .i64 t267) := (blk_cell BK261.out 2).trans rfl
                                          have hfz105_0 := blk_frozen BK261.out 0
                                          have hfz105_1 := blk_frozen BK261.out 1
                                          have hfz105_2 := blk_frozen BK261.out 2
                                          have hnb106 := NB253_254.out
                                          have hnc106 := NB254_253.out
                                          have hnb107 := NB253_264.out
                                          have hnc107 := NB264_253.out
                                          have hcz108_0 : wc.cell? ⟨gb253, 0, none⟩ = some (.int .i64 a0_0) := (blk_cell BK253.out 0).trans rfl
                                          have hcz108_1 : wc.cell? ⟨gb253, 1, none⟩ = some (.int .i64 a0_1) := (blk_cell BK253.out 1).trans rfl
                                          have hcz108_2 : wc.cell? ⟨gb253, 2, none⟩ = some (.int .i64 a0_2) := (blk_cell BK253.out 2).trans rfl
                                          have hfz108_0 := blk_frozen BK253.out 0
                                          have hfz108_1 := blk_frozen BK253.out 1
                                          have hfz108_2 := blk_frozen BK253.out 2
                                          go_wp2
                                          go_roundg kj77
                                          case measure => have := HJ3.out; have := HJ16.out; have := HK3.out; have := HJ33.out; have := HJ54.out; have := HJ77.out; omega
                                          case rel => exact ⟨(x9_54), (x10_33), (wrap64 (x43_3 + 1)), (t265), (t266), (t267), (by first | rfl | (simp; done) | (simp [*]; done)), (by first | rfl | (simp; done) | (simp [*]; done)), (by first | rfl | (simp; done) | (simp [*]; done)), H', ⟨by have := HJ3.out; have := HJ16.out; have := HK3.out; have := HJ33.out; have := HJ54.out; have := HJ77.out; omega⟩, ⟨by (with_reducible repeat (first | refine blk_drewN ?_ _ | refine blk_drew ?_ | refine blk_alloc ?_ _)); exact BK253.out⟩, ⟨by (with_reducible repeat (first | refine blk_drewN ?_ _ | refine blk_drew ?_ | refine blk_alloc ?_ _)); exact BK254.out⟩, ⟨by (with_reducible repeat (first | refine blk_drewN ?_ _ | refine blk_drew ?_ | refine blk_alloc ?_ _)); exact BK261.out⟩, ⟨by repeat (first | (with_reducible first | exact HB.out | apply below_alloc | apply pw_below_drewN | apply below_drew1 | refine below_set ?_ GE253.out | refine below_set ?_ GE254.out | refine below_set ?_ GE261.out | refine below_set ?_ GE264.out) | exact HB.out)⟩⟩
                      · rw [if_neg c33] at H
                        exact absurd H (by simp)
                    · rw [if_neg c32] at H
                      exact absurd H (by simp)
                  · rw [if_neg c31] at H
                    have c31b0 : decide (x43_3 < (l2.length : Int)) = false := decide_eq_false c31
                    clear c31
                    replace H := Option.bind_eq_some_iff.mp H
                    obtain ⟨t262, A1090, H⟩ := H
                    replace H : (some t262) = some r := H
                    have A109 := Aside0.mk A1090
                    clear A1090
                    obtain rfl := Option.some.inj H
                    go_wp2_with (first | ((with_reducible refine gate_callee (f := 12) rfl ?_); refine goesL_ (some 90) rfl rfl Try.func12 (by kernel_rfl) rfl #[] rfl (by (try simp only [List.map_toArray, List.map_cons, List.map_nil]); first | done | rfl | (simp only [List.length_drop, List.length_take]; rfl)) ?_; (with_reducible refine (substationlaw35_known.calls k3  t262 _ A109.out).mono ?_); rintro e w110 ⟨rfl, hb⟩; refine ⟨_, rfl, ?_⟩; have n0_ := Aside0.mk (blk_below (g := gb253) (o := .cells #[.int .i64 a0_0, .int .i64 a0_1, .int .i64 a0_2] 23 (0, 0)) (by (with_reducible repeat (first | refine blk_drewN ?_ _ | refine blk_drew ?_ | refine blk_alloc ?_ _)); exact BK253.out) hb); have n1_ := Aside0.mk (blk_below (g := gb254) (o := .cells #[.int .i64 a1_0, .int .i64 a1_1, .int .i64 a1_2] 25 (0, 0)) (by (with_reducible repeat (first | refine blk_drewN ?_ _ | refine blk_drew ?_ | refine blk_alloc ?_ _)); exact BK254.out) hb); have n2_ := Aside0.mk (blk_below (g := gb261) (o := .cells #[.int .i64 x262000_3, .int .i64 x262001_3, .int .i64 x262002_3] 25 (0, 0)) (by (with_reducible repeat (first | refine blk_drewN ?_ _ | refine blk_drew ?_ | refine blk_alloc ?_ _)); exact BK261.out) hb); have n3_ := Aside0.mk (below_step (by repeat (first | (with_reducible first | exact HB.out | apply below_alloc | apply pw_below_drewN | apply below_drew1 | refine below_set ?_ GE253.out | refine below_set ?_ GE254.out | refine below_set ?_ GE261.out) | exact HB.out)) hb); clear BK253; clear BK254; clear BK261; clear HB; have BK253 := n0_; have BK254 := n1_; have BK261 := n2_; have HB := n3_; clear n0_ n1_ n2_ n3_; (try clear hb); (try clear hb2); (try clear hk); (try clear hi)))
                    go_ret
                    exact ⟨by first | rfl | (simp [errW_none, errW_some] <;> rfl) | (simp [*, errW_none, errW_some] <;> rfl), by repeat (first | (with_reducible first | exact HB.out | apply below_alloc | apply pw_below_drewN | apply below_drew1 | refine below_set ?_ GE253.out | refine below_set ?_ GE254.out | refine below_set ?_ GE261.out) | exact HB.out)⟩

end Go.Proofs.Ytmppijipaocfiaa.PAll
