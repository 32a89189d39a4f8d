/- The walk of one law: what it computes is its '.f'. Conditions: none. -/
import Derived.Test.YtooeljgandaelaaPAllx0
import Derived.Test.YtooeljgandaelaaPAllx8
namespace Go.Proofs.Ytooeljgandaelaa.PAll
open Go.RowKit Go.Proofs.YtooeljgandaelaaW.PrintWords Go.Proofs.YtooeljgandaelaaW.PrintLast Go.Proofs.YtooeljgandaelaaW.PrintMore
attribute [local go_sem] max2_int min2_int max_two min_two max_three min_three max_four min_four   -- for this text's walks alone
set_option linter.unusedVariables false
set_option linter.unusedSimpArgs false

/-! ### substationlaw29_BreakerClosesAfter: function 13 -/
mutual
def substationlaw29_BreakerClosesAfter.j0 : Nat → Int → List Bool → List Bool → Bool → Bool → Int → Bool → List Bool → List Bool → Option (Bool)
  | 0, _, _, _, _, _, _, _, _, _ => none
  | k + 1, x3, x4, x5, x34, x373000, x373001, x373002, x373003, x373004 => if x34 = true then ((substationlaw29_known.f k).bind fun t373 => (some t373)) else ((breaker_Run.f k false x3 x373002 x4 x5).bind fun t374 => (if (t374.length : Int) = (x4.length : Int) then (substationlaw29_BreakerClosesAfter.l0 k x3 x4 x5 t374 t374 (t374.length : Int) 0) else (some false)))
def substationlaw29_BreakerClosesAfter.l0 : Nat → Int → List Bool → List Bool → List (S36) → List (S36) → Int → Int → Option (Bool)
  | 0, _, _, _, _, _, _, _ => none
  | k + 1, x3, x4, x5, x6, x47, x48, x49 => if x49 < x48 then (if 0 ≤ x49 then (if x49 < (x47.length : Int) then (if ((rd_T36 x47 x49).f0 = true) then (if x49 > 0 then (if 0 ≤ (wrap64 (x49 - 1)) then (if (wrap64 (x49 - 1)) < (x6.length : Int) then (substationlaw29_BreakerClosesAfter.j2 k x3 x4 x5 x6 x49 x47 x48 x49 ((rd_T36 x6 (wrap64 (x49 - 1))).f0)) else (none)) else (none)) else (substationlaw29_BreakerClosesAfter.j2 k x3 x4 x5 x6 x49 x47 x48 x49 false)) else (substationlaw29_BreakerClosesAfter.j2 k x3 x4 x5 x6 x49 x47 x48 x49 true)) else (none)) else (none)) else ((substationlaw29_known.f k).bind fun t377 => (some t377))
def substationlaw29_BreakerClosesAfter.j2 : Nat → Int → List Bool → List Bool → List (S36) → Int → List (S36) → Int → Int → Bool → Option (Bool)
  | 0, _, _, _, _, _, _, _, _, _ => none
  | k + 1, x3, x4, x5, x6, x7, x47, x48, x49, x68 => if x68 = true then (substationlaw29_BreakerClosesAfter.l0 k x3 x4 x5 x6 x47 x48 (wrap64 (x49 + 1))) else (if (wrap64 (x7 - x3)) < 0 then (substationlaw29_BreakerClosesAfter.j3 k x3 x4 x5 x6 x7 (wrap64 (x7 - x3)) x47 x48 x49 true) else (if 0 ≤ (wrap64 (x7 - x3)) then (if (wrap64 (x7 - x3)) < (x5.length : Int) then (substationlaw29_BreakerClosesAfter.j3 k x3 x4 x5 x6 x7 (wrap64 (x7 - x3)) x47 x48 x49 (!(rdOf false x5 (wrap64 (x7 - x3))))) else (none)) else (none)))
def substationlaw29_BreakerClosesAfter.j3 : Nat → Int → List Bool → List Bool → List (S36) → Int → Int → List (S36) → Int → Int → Bool → Option (Bool)
  | 0, _, _, _, _, _, _, _, _, _, _ => none
  | k + 1, x3, x4, x5, x6, x7, x9, x47, x48, x49, x80 => if x80 = true then (some false) else (substationlaw29_BreakerClosesAfter.l1 k x3 x4 x5 x6 x7 x9 x47 x48 x49)
def substationlaw29_BreakerClosesAfter.l1 : Nat → Int → List Bool → List Bool → List (S36) → Int → Int → List (S36) → Int → Int → Option (Bool)
  | 0, _, _, _, _, _, _, _, _, _ => none
  | k + 1, x3, x4, x5, x6, x7, x10, x47, x48, x49 => if x10 < x7 then (if 0 ≤ x10 then (if x10 < (x4.length : Int) then (if rdOf false x4 x10 = true then (some false) else (substationlaw29_BreakerClosesAfter.l1 k x3 x4 x5 x6 x7 (wrap64 (x10 + 1)) x47 x48 x49)) else (none)) else (none)) else (substationlaw29_BreakerClosesAfter.l0 k x3 x4 x5 x6 x47 x48 (wrap64 (x49 + 1)))
end
def substationlaw29_BreakerClosesAfter.f (k : Nat) (a0_0 : Bool) (a0_1 : Int) (a0_2 : Bool) (l0_3 : List Bool) (l0_4 : List Bool) : Option (Bool) := if a0_1 < 1 then (substationlaw29_BreakerClosesAfter.j0 k a0_1 l0_3 l0_4 true a0_0 a0_1 a0_2 l0_3 l0_4) else (if a0_1 > 6 then (substationlaw29_BreakerClosesAfter.j0 k a0_1 l0_3 l0_4 true a0_0 a0_1 a0_2 l0_3 l0_4) else (if (l0_3.length : Int) = (l0_4.length : Int) then (substationlaw29_BreakerClosesAfter.j0 k a0_1 l0_3 l0_4 (decide ((l0_3.length : Int) > 80)) a0_0 a0_1 a0_2 l0_3 l0_4) else (substationlaw29_BreakerClosesAfter.j0 k a0_1 l0_3 l0_4 true a0_0 a0_1 a0_2 l0_3 l0_4)))
theorem substationlaw29_BreakerClosesAfter.mono_l : ∀ k, (∀ y0 y1 y2 y3 y4 y5 y6 y7 y8, LeO (substationlaw29_BreakerClosesAfter.j0 k y0 y1 y2 y3 y4 y5 y6 y7 y8) (substationlaw29_BreakerClosesAfter.j0 (k + 1) y0 y1 y2 y3 y4 y5 y6 y7 y8)) ∧ (∀ y0 y1 y2 y3 y4 y5 y6, LeO (substationlaw29_BreakerClosesAfter.l0 k y0 y1 y2 y3 y4 y5 y6) (substationlaw29_BreakerClosesAfter.l0 (k + 1) y0 y1 y2 y3 y4 y5 y6)) ∧ (∀ y0 y1 y2 y3 y4 y5 y6 y7 y8, LeO (substationlaw29_BreakerClosesAfter.j2 k y0 y1 y2 y3 y4 y5 y6 y7 y8) (substationlaw29_BreakerClosesAfter.j2 (k + 1) y0 y1 y2 y3 y4 y5 y6 y7 y8)) ∧ (∀ y0 y1 y2 y3 y4 y5 y6 y7 y8 y9, LeO (substationlaw29_BreakerClosesAfter.j3 k y0 y1 y2 y3 y4 y5 y6 y7 y8 y9) (substationlaw29_BreakerClosesAfter.j3 (k + 1) y0 y1 y2 y3 y4 y5 y6 y7 y8 y9)) ∧ (∀ y0 y1 y2 y3 y4 y5 y6 y7 y8, LeO (substationlaw29_BreakerClosesAfter.l1 k y0 y1 y2 y3 y4 y5 y6 y7 y8) (substationlaw29_BreakerClosesAfter.l1 (k + 1) y0 y1 y2 y3 y4 y5 y6 y7 y8))
  | 0 => ⟨fun _ _ _ _ _ _ _ _ _ r h => by simp [substationlaw29_BreakerClosesAfter.j0] at h, fun _ _ _ _ _ _ _ r h => by simp [substationlaw29_BreakerClosesAfter.l0] at h, fun _ _ _ _ _ _ _ _ _ r h => by simp [substationlaw29_BreakerClosesAfter.j2] at h, fun _ _ _ _ _ _ _ _ _ _ r h => by simp [substationlaw29_BreakerClosesAfter.j3] at h, fun _ _ _ _ _ _ _ _ _ r h => by simp [substationlaw29_BreakerClosesAfter.l1] at h⟩
  | k + 1 => by
    obtain ⟨ih0, ih1, ih2, ih3, ih4⟩ := substationlaw29_BreakerClosesAfter.mono_l k
    refine ⟨?_, ?_, ?_, ?_, ?_⟩
    · intro y0 y1 y2 y3 y4 y5 y6 y7 y8
      unfold substationlaw29_BreakerClosesAfter.j0
      repeat' first
      | (with_reducible exact ih0 _ _ _ _ _ _ _ _ _)
      | (with_reducible exact ih1 _ _ _ _ _ _ _)
      | (with_reducible exact ih2 _ _ _ _ _ _ _ _ _)
      | (with_reducible exact ih3 _ _ _ _ _ _ _ _ _ _)
      | (with_reducible exact ih4 _ _ _ _ _ _ _ _ _)
      | (with_reducible exact breaker_Run.mono _ _ _ _ _ _)
      | (with_reducible exact substationlaw29_known.mono _)
      | (with_reducible exact LeO.refl _)
      | (with_reducible exact LeO.none _)
      | (with_reducible refine LeO.ite ?_ ?_)
      | (with_reducible refine LeO.bind ?_ (fun _ => ?_))
      | exact ih0 _ _ _ _ _ _ _ _ _
      | exact ih1 _ _ _ _ _ _ _
      | exact ih2 _ _ _ _ _ _ _ _ _
      | exact ih3 _ _ _ _ _ _ _ _ _ _
      | exact ih4 _ _ _ _ _ _ _ _ _
      | exact breaker_Run.mono _ _ _ _ _ _
      | exact substationlaw29_known.mono _
      | exact LeO.none _
      | refine LeO.ite ?_ ?_
      | refine LeO.bind ?_ (fun _ => ?_)
    · intro y0 y1 y2 y3 y4 y5 y6
      unfold substationlaw29_BreakerClosesAfter.l0
      repeat' first
      | (with_reducible exact ih0 _ _ _ _ _ _ _ _ _)
      | (with_reducible exact ih1 _ _ _ _ _ _ _)
      | (with_reducible exact ih2 _ _ _ _ _ _ _ _ _)
      | (with_reducible exact ih3 _ _ _ _ _ _ _ _ _ _)
      | (with_reducible exact ih4 _ _ _ _ _ _ _ _ _)
      | (with_reducible exact breaker_Run.mono _ _ _ _ _ _)
      | (with_reducible exact substationlaw29_known.mono _)
      | (with_reducible exact LeO.refl _)
      | (with_reducible exact LeO.none _)
      | (with_reducible refine LeO.ite ?_ ?_)
      | (with_reducible refine LeO.bind ?_ (fun _ => ?_))
      | exact ih0 _ _ _ _ _ _ _ _ _
      | exact ih1 _ _ _ _ _ _ _
      | exact ih2 _ _ _ _ _ _ _ _ _
      | exact ih3 _ _ _ _ _ _ _ _ _ _
      | exact ih4 _ _ _ _ _ _ _ _ _
      | exact breaker_Run.mono _ _ _ _ _ _
      | exact substationlaw29_known.mono _
      | exact LeO.none _
      | refine LeO.ite ?_ ?_
      | refine LeO.bind ?_ (fun _ => ?_)
    · intro y0 y1 y2 y3 y4 y5 y6 y7 y8
      unfold substationlaw29_BreakerClosesAfter.j2
      repeat' first
      | (with_reducible exact ih0 _ _ _ _ _ _ _ _ _)
      | (with_reducible exact ih1 _ _ _ _ _ _ _)
      | (with_reducible exact ih2 _ _ _ _ _ _ _ _ _)
      | (with_reducible exact ih3 _ _ _ _ _ _ _ _ _ _)
      | (with_reducible exact ih4 _ _ _ _ _ _ _ _ _)
      | (with_reducible exact breaker_Run.mono _ _ _ _ _ _)
      | (with_reducible exact substationlaw29_known.mono _)
      | (with_reducible exact LeO.refl _)
      | (with_reducible exact LeO.none _)
      | (with_reducible refine LeO.ite ?_ ?_)
      | (with_reducible refine LeO.bind ?_ (fun _ => ?_))
      | exact ih0 _ _ _ _ _ _ _ _ _
      | exact ih1 _ _ _ _ _ _ _
      | exact ih2 _ _ _ _ _ _ _ _ _
      | exact ih3 _ _ _ _ _ _ _ _ _ _
      | exact ih4 _ _ _ _ _ _ _ _ _
      | exact breaker_Run.mono _ _ _ _ _ _
      | exact substationlaw29_known.mono _
      | exact LeO.none _
      | refine LeO.ite ?_ ?_
      | refine LeO.bind ?_ (fun _ => ?_)
    · intro y0 y1 y2 y3 y4 y5 y6 y7 y8 y9
      unfold substationlaw29_BreakerClosesAfter.j3
      repeat' first
      | (with_reducible exact ih0 _ _ _ _ _ _ _ _ _)
      | (with_reducible exact ih1 _ _ _ _ _ _ _)
      | (with_reducible exact ih2 _ _ _ _ _ _ _ _ _)
      | (with_reducible exact ih3 _ _ _ _ _ _ _ _ _ _)
      | (with_reducible exact ih4 _ _ _ _ _ _ _ _ _)
      | (with_reducible exact breaker_Run.mono _ _ _ _ _ _)
      | (with_reducible exact substationlaw29_known.mono _)
      | (with_reducible exact LeO.refl _)
      | (with_reducible exact LeO.none _)
      | (with_reducible refine LeO.ite ?_ ?_)
      | (with_reducible refine LeO.bind ?_ (fun _ => ?_))
      | exact ih0 _ _ _ _ _ _ _ _ _
      | exact ih1 _ _ _ _ _ _ _
      | exact ih2 _ _ _ _ _ _ _ _ _
      | exact ih3 _ _ _ _ _ _ _ _ _ _
      | exact ih4 _ _ _ _ _ _ _ _ _
      | exact breaker_Run.mono _ _ _ _ _ _
      | exact substationlaw29_known.mono _
      | exact LeO.none _
      | refine LeO.ite ?_ ?_
      | refine LeO.bind ?_ (fun _ => ?_)
    · intro y0 y1 y2 y3 y4 y5 y6 y7 y8
      unfold substationlaw29_BreakerClosesAfter.l1
      repeat' first
      | (with_reducible exact ih0 _ _ _ _ _ _ _ _ _)
      | (with_reducible exact ih1 _ _ _ _ _ _ _)
      | (with_reducible exact ih2 _ _ _ _ _ _ _ _ _)
      | (with_reducible exact ih3 _ _ _ _ _ _ _ _ _ _)
      | (with_reducible exact ih4 _ _ _ _ _ _ _ _ _)
      | (with_reducible exact breaker_Run.mono _ _ _ _ _ _)
      | (with_reducible exact substationlaw29_known.mono _)
      | (with_reducible exact LeO.refl _)
      | (with_reducible exact LeO.none _)
      | (with_reducible refine LeO.ite ?_ ?_)
      | (with_reducible refine LeO.bind ?_ (fun _ => ?_))
      | exact ih0 _ _ _ _ _ _ _ _ _
      | exact ih1 _ _ _ _ _ _ _
      | exact ih2 _ _ _ _ _ _ _ _ _
      | exact ih3 _ _ _ _ _ _ _ _ _ _
      | exact ih4 _ _ _ _ _ _ _ _ _
      | exact breaker_Run.mono _ _ _ _ _ _
      | exact substationlaw29_known.mono _
      | exact LeO.none _
      | refine LeO.ite ?_ ?_
      | refine LeO.bind ?_ (fun _ => ?_)
theorem substationlaw29_BreakerClosesAfter.mono : ∀ a0 a1 a2 a3 a4 k, LeO (substationlaw29_BreakerClosesAfter.f k a0 a1 a2 a3 a4) (substationlaw29_BreakerClosesAfter.f (k + 1) a0 a1 a2 a3 a4) := by
  intro a0 a1 a2 a3 a4 k
  obtain ⟨ih0, ih1, ih2, ih3, ih4⟩ := substationlaw29_BreakerClosesAfter.mono_l k
  unfold substationlaw29_BreakerClosesAfter.f
  repeat' first
      | (with_reducible exact ih0 _ _ _ _ _ _ _ _ _)
      | (with_reducible exact ih1 _ _ _ _ _ _ _)
      | (with_reducible exact ih2 _ _ _ _ _ _ _ _ _)
      | (with_reducible exact ih3 _ _ _ _ _ _ _ _ _ _)
      | (with_reducible exact ih4 _ _ _ _ _ _ _ _ _)
      | (with_reducible exact breaker_Run.mono _ _ _ _ _ _)
      | (with_reducible exact substationlaw29_known.mono _)
      | (with_reducible exact LeO.refl _)
      | (with_reducible exact LeO.none _)
      | (with_reducible refine LeO.ite ?_ ?_)
      | (with_reducible refine LeO.bind ?_ (fun _ => ?_))
      | exact ih0 _ _ _ _ _ _ _ _ _
      | exact ih1 _ _ _ _ _ _ _
      | exact ih2 _ _ _ _ _ _ _ _ _
      | exact ih3 _ _ _ _ _ _ _ _ _ _
      | exact ih4 _ _ _ _ _ _ _ _ _
      | exact breaker_Run.mono _ _ _ _ _ _
      | exact substationlaw29_known.mono _
      | exact LeO.none _
      | refine LeO.ite ?_ ?_
      | refine LeO.bind ?_ (fun _ => ?_)
set_option maxHeartbeats 8000000 in
set_option maxRecDepth 100000 in
theorem substationlaw29_BreakerClosesAfter.calls (k : Nat) (a0_0 : Bool) (a0_1 : Int) (a0_2 : Bool) (A0_3 : Option Addr) (c0_3 : Nat) (l0_3 : List Bool) (A0_4 : Option Addr) (c0_4 : Nat) (l0_4 : List Bool) (r : Bool) (w : World) (hr0_3 : Kd.C Kd.bool w A0_3 l0_3.length l0_3) (hc0_3 : l0_3.length ≤ c0_3) (hr0_4 : Kd.C Kd.bool w A0_4 l0_4.length l0_4) (hc0_4 : l0_4.length ≤ c0_4) (h : substationlaw29_BreakerClosesAfter.f k a0_0 a0_1 a0_2 l0_3 l0_4 = some r) :
    Calls Try.prog 13 #[.agg #[.bool a0_0, .int .i64 a0_1, .bool a0_2, .slice A0_3 l0_3.length c0_3, .slice A0_4 l0_4.length c0_4]] w fun e w' => e = .returned (.bool r) ∧ Below w.heap.size w w' := by
  have hu48 := Try.underlying48
  have hu36 := Try.underlying36
  have HR0_3 := Aside0.mk hr0_3
  have HC0_3 := Aside0.mk hc0_3
  clear hr0_3 hc0_3
  have HR0_4 := Aside0.mk hr0_4
  have HC0_4 := Aside0.mk hc0_4
  clear hr0_4 hc0_4
  have HB := Aside0.mk (Below.refl w.heap.size w)
  have H : (if a0_1 < 1 then (substationlaw29_BreakerClosesAfter.j0 k a0_1 l0_3 l0_4 true a0_0 a0_1 a0_2 l0_3 l0_4) else (if a0_1 > 6 then (substationlaw29_BreakerClosesAfter.j0 k a0_1 l0_3 l0_4 true a0_0 a0_1 a0_2 l0_3 l0_4) else (if (l0_3.length : Int) = (l0_4.length : Int) then (substationlaw29_BreakerClosesAfter.j0 k a0_1 l0_3 l0_4 (decide ((l0_3.length : Int) > 80)) a0_0 a0_1 a0_2 l0_3 l0_4) else (substationlaw29_BreakerClosesAfter.j0 k a0_1 l0_3 l0_4 true a0_0 a0_1 a0_2 l0_3 l0_4)))) = some r := h
  clear h
  have HC2 := Aside0.mk H
  clear H
  go_enter Try.func13, Try.ntmps13
  go_upto_region 2 with (first | ((with_reducible refine gate_dst (N := 1) rfl ?_); (try (refine gate_guard (by rfl) ?_; dsimp only)); refine box_event ?hg (N := 1) ?hd (cs := #[.bool a0_0, .int .i64 a0_1, .bool a0_2, .slice A0_3 l0_3.length c0_3, .slice A0_4 l0_4.length c0_4]) (t := 48) ?hr ?_; (case hd => rfl); (case hg => rfl); (case hr => first | (go_simp; done) | (go_simp; rfl)); intro gb372 hg w3 hbox hb; have n0_ := Aside0.mk (below_step (by repeat (first | (with_reducible first | exact HB.out | apply below_alloc | apply pw_below_drewN | apply below_drew1) | exact HB.out)) hb); have n1_ := Aside0.mk (hbox); have n2_ := Aside0.mk ((by rw [hg]; exact (below_size (by repeat (first | (with_reducible first | exact HB.out | apply below_alloc | apply pw_below_drewN | apply below_drew1) | exact HB.out))) : w.heap.size ≤ gb372)); have n3_ := Aside0.mk ((by rw [hg]; exact (below_size (by repeat (first | (with_reducible first | exact HB.out | apply below_alloc | apply pw_below_drewN | apply below_drew1) | exact HB.out))) : w.heap.size ≤ gb372)); clear HB; have HB := n0_; have BK372 := n1_; have GW372 := n2_; have GE372 := n3_; clear n0_ n1_ n2_ n3_; clear hb hbox hg; have hcz4_0 : w3.cell? ⟨gb372, 0, none⟩ = some (.bool a0_0) := (blk_cell BK372.out 0).trans rfl; have hcz4_1 : w3.cell? ⟨gb372, 1, none⟩ = some (.int .i64 a0_1) := (blk_cell BK372.out 1).trans rfl; have hcz4_2 : w3.cell? ⟨gb372, 2, none⟩ = some (.bool a0_2) := (blk_cell BK372.out 2).trans rfl; have hcz4_3 : w3.cell? ⟨gb372, 3, none⟩ = some (.slice A0_3 l0_3.length c0_3) := (blk_cell BK372.out 3).trans rfl; have hcz4_4 : w3.cell? ⟨gb372, 4, none⟩ = some (.slice A0_4 l0_4.length c0_4) := (blk_cell BK372.out 4).trans rfl; have hfz4_0 := blk_frozen BK372.out 0; have hfz4_1 := blk_frozen BK372.out 1; have hfz4_2 := blk_frozen BK372.out 2; have hfz4_3 := blk_frozen BK372.out 3; have hfz4_4 := blk_frozen BK372.out 4))
  repeat (go_quiet (first | ((with_reducible refine gate_dst (N := 1) rfl ?_); (try (refine gate_guard (by rfl) ?_; dsimp only)); refine box_event ?hg (N := 1) ?hd (cs := #[.bool a0_0, .int .i64 a0_1, .bool a0_2, .slice A0_3 l0_3.length c0_3, .slice A0_4 l0_4.length c0_4]) (t := 48) ?hr ?_; (case hd => rfl); (case hg => rfl); (case hr => first | (go_simp; done) | (go_simp; rfl)); intro gb372 hg w3 hbox hb; have n0_ := Aside0.mk (below_step (by repeat (first | (with_reducible first | exact HB.out | apply below_alloc | apply pw_below_drewN | apply below_drew1) | exact HB.out)) hb); have n1_ := Aside0.mk (hbox); have n2_ := Aside0.mk ((by rw [hg]; exact (below_size (by repeat (first | (with_reducible first | exact HB.out | apply below_alloc | apply pw_below_drewN | apply below_drew1) | exact HB.out))) : w.heap.size ≤ gb372)); have n3_ := Aside0.mk ((by rw [hg]; exact (below_size (by repeat (first | (with_reducible first | exact HB.out | apply below_alloc | apply pw_below_drewN | apply below_drew1) | exact HB.out))) : w.heap.size ≤ gb372)); clear HB; have HB := n0_; have BK372 := n1_; have GW372 := n2_; have GE372 := n3_; clear n0_ n1_ n2_ n3_; clear hb hbox hg; have hcz4_0 : w3.cell? ⟨gb372, 0, none⟩ = some (.bool a0_0) := (blk_cell BK372.out 0).trans rfl; have hcz4_1 : w3.cell? ⟨gb372, 1, none⟩ = some (.int .i64 a0_1) := (blk_cell BK372.out 1).trans rfl; have hcz4_2 : w3.cell? ⟨gb372, 2, none⟩ = some (.bool a0_2) := (blk_cell BK372.out 2).trans rfl; have hcz4_3 : w3.cell? ⟨gb372, 3, none⟩ = some (.slice A0_3 l0_3.length c0_3) := (blk_cell BK372.out 3).trans rfl; have hcz4_4 : w3.cell? ⟨gb372, 4, none⟩ = some (.slice A0_4 l0_4.length c0_4) := (blk_cell BK372.out 4).trans rfl; have hfz4_0 := blk_frozen BK372.out 0; have hfz4_1 := blk_frozen BK372.out 1; have hfz4_2 := blk_frozen BK372.out 2; have hfz4_3 := blk_frozen BK372.out 3; have hfz4_4 := blk_frozen BK372.out 4)); go_upto_region 2 with (first | ((with_reducible refine gate_dst (N := 1) rfl ?_); (try (refine gate_guard (by rfl) ?_; dsimp only)); refine box_event ?hg (N := 1) ?hd (cs := #[.bool a0_0, .int .i64 a0_1, .bool a0_2, .slice A0_3 l0_3.length c0_3, .slice A0_4 l0_4.length c0_4]) (t := 48) ?hr ?_; (case hd => rfl); (case hg => rfl); (case hr => first | (go_simp; done) | (go_simp; rfl)); intro gb372 hg w3 hbox hb; have n0_ := Aside0.mk (below_step (by repeat (first | (with_reducible first | exact HB.out | apply below_alloc | apply pw_below_drewN | apply below_drew1) | exact HB.out)) hb); have n1_ := Aside0.mk (hbox); have n2_ := Aside0.mk ((by rw [hg]; exact (below_size (by repeat (first | (with_reducible first | exact HB.out | apply below_alloc | apply pw_below_drewN | apply below_drew1) | exact HB.out))) : w.heap.size ≤ gb372)); have n3_ := Aside0.mk ((by rw [hg]; exact (below_size (by repeat (first | (with_reducible first | exact HB.out | apply below_alloc | apply pw_below_drewN | apply below_drew1) | exact HB.out))) : w.heap.size ≤ gb372)); clear HB; have HB := n0_; have BK372 := n1_; have GW372 := n2_; have GE372 := n3_; clear n0_ n1_ n2_ n3_; clear hb hbox hg; have hcz4_0 : w3.cell? ⟨gb372, 0, none⟩ = some (.bool a0_0) := (blk_cell BK372.out 0).trans rfl; have hcz4_1 : w3.cell? ⟨gb372, 1, none⟩ = some (.int .i64 a0_1) := (blk_cell BK372.out 1).trans rfl; have hcz4_2 : w3.cell? ⟨gb372, 2, none⟩ = some (.bool a0_2) := (blk_cell BK372.out 2).trans rfl; have hcz4_3 : w3.cell? ⟨gb372, 3, none⟩ = some (.slice A0_3 l0_3.length c0_3) := (blk_cell BK372.out 3).trans rfl; have hcz4_4 : w3.cell? ⟨gb372, 4, none⟩ = some (.slice A0_4 l0_4.length c0_4) := (blk_cell BK372.out 4).trans rfl; have hfz4_0 := blk_frozen BK372.out 0; have hfz4_1 := blk_frozen BK372.out 1; have hfz4_2 := blk_frozen BK372.out 2; have hfz4_3 := blk_frozen BK372.out 3; have hfz4_4 := blk_frozen BK372.out 4)))
  (try simp only [Act.put, List.setIfInBounds_toArray, List.set_cons_zero, List.set_cons_succ])
  go_cut [34] (fun v34 wc => ∃ (kq : Nat) (x34_1 : Bool), v34 = .bool x34_1 ∧ Aside0 (substationlaw29_BreakerClosesAfter.j0 kq a0_1 l0_3 l0_4 x34_1 a0_0 a0_1 a0_2 l0_3 l0_4 = some r) ∧ Aside0 (kq ≤ k) ∧ Aside0 (wc.heap[gb372]? = some (.cells #[.bool a0_0, .int .i64 a0_1, .bool a0_2, (.slice A0_3 l0_3.length c0_3), (.slice A0_4 l0_4.length c0_4)] 48 (0, 0))) ∧ Aside0 (Below w.heap.size w wc))
  case first =>
    have H := HC2.out
    clear HC2
    by_cases c5 : a0_1 < 1
    · rw [if_pos c5] at H
      have c5b0 : decide (a0_1 < 1) = true := decide_eq_true c5
      clear c5
      (first | rw [c5b0] | (simp only [i64_w, i32_w]; rw [c5b0]) | skip)
      have H' := Aside0.mk H
      clear H
      go_wp2
      repeat (go_quiet (fail); try go_wp2)
      go_meet
      case rel => exact ⟨_, (true), (by first | rfl | (simp; done) | (simp [*]; done)), H', ⟨by first | omega | exact Nat.le_refl _⟩, ⟨by (with_reducible repeat (first | refine blk_drewN ?_ _ | refine blk_drew ?_ | refine blk_alloc ?_ _)); exact BK372.out⟩, ⟨by repeat (first | (with_reducible first | exact HB.out | apply below_alloc | apply pw_below_drewN | apply below_drew1 | refine below_set ?_ GE372.out) | exact HB.out)⟩⟩
    · rw [if_neg c5] at H
      have c5b0 : decide (a0_1 < 1) = false := decide_eq_false c5
      clear c5
      (first | rw [c5b0] | (simp only [i64_w, i32_w]; rw [c5b0]) | skip)
      by_cases c6 : a0_1 > 6
      · rw [if_pos c6] at H
        have c6b0 : decide (6 < a0_1) = true := decide_eq_true c6
        clear c6
        have H' := Aside0.mk H
        clear H
        go_wp2
        repeat (go_quiet (fail); try go_wp2)
        go_meet
        case rel => exact ⟨_, (true), (by first | rfl | (simp; done) | (simp [*]; done)), H', ⟨by first | omega | exact Nat.le_refl _⟩, ⟨by (with_reducible repeat (first | refine blk_drewN ?_ _ | refine blk_drew ?_ | refine blk_alloc ?_ _)); exact BK372.out⟩, ⟨by repeat (first | (with_reducible first | exact HB.out | apply below_alloc | apply pw_below_drewN | apply below_drew1 | refine below_set ?_ GE372.out) | exact HB.out)⟩⟩
      · rw [if_neg c6] at H
        have c6b0 : decide (6 < a0_1) = false := decide_eq_false c6
        clear c6
        by_cases c7 : (l0_3.length : Int) = (l0_4.length : Int)
        · rw [if_pos c7] at H
          have c7b0 : ((l0_3.length : Int) == (l0_4.length : Int)) = true := beq_iff_eq.mpr c7
          have c7b1 : ((l0_3.length : Int) != (l0_4.length : Int)) = false := bne_eq_false_iff_eq.mpr c7
          have c7b2 : (l0_3.length == l0_4.length) = true := by first | simpa using c7 | (simp at c7 ⊢; omega)
          clear c7
          have H' := Aside0.mk H
          clear H
          go_wp2
          repeat (go_quiet (fail); try go_wp2)
          go_meet
          case rel => exact ⟨_, (decide ((l0_3.length : Int) > 80)), (by first | rfl | (simp; done) | (simp [*]; done)), H', ⟨by first | omega | exact Nat.le_refl _⟩, ⟨by (with_reducible repeat (first | refine blk_drewN ?_ _ | refine blk_drew ?_ | refine blk_alloc ?_ _)); exact BK372.out⟩, ⟨by repeat (first | (with_reducible first | exact HB.out | apply below_alloc | apply pw_below_drewN | apply below_drew1 | refine below_set ?_ GE372.out) | exact HB.out)⟩⟩
        · rw [if_neg c7] at H
          have c7b0 : ((l0_3.length : Int) == (l0_4.length : Int)) = false := beq_eq_false_iff_ne.mpr c7
          have c7b1 : ((l0_3.length : Int) != (l0_4.length : Int)) = true := bne_iff_ne.mpr c7
          have c7b2 : (l0_3.length == l0_4.length) = false := by first | simpa using c7 | (simp at c7 ⊢; omega)
          have H' := Aside0.mk H
          clear H
          go_wp2
          repeat (go_quiet (fail); try go_wp2)
          go_meet
          case rel => exact ⟨_, (true), (by first | rfl | (simp; done) | (simp [*]; done)), H', ⟨by first | omega | exact Nat.le_refl _⟩, ⟨by (with_reducible repeat (first | refine blk_drewN ?_ _ | refine blk_drew ?_ | refine blk_alloc ?_ _)); exact BK372.out⟩, ⟨by repeat (first | (with_reducible first | exact HB.out | apply below_alloc | apply pw_below_drewN | apply below_drew1 | refine below_set ?_ GE372.out) | exact HB.out)⟩⟩
  case rest =>
    clear HC2
    try clear c1
    try clear p2
    try clear c5
    try clear c5b0
    try clear c6
    try clear c6b0
    try clear c7
    try clear c7b0
    try clear c7b1
    try clear c7b2
    try clear hcz4_0
    try clear hcz4_1
    try clear hcz4_2
    try clear hcz4_3
    try clear hcz4_4
    try clear hfz4_0
    try clear hfz4_1
    try clear hfz4_2
    try clear hfz4_3
    try clear hfz4_4
    obtain ⟨kq, x34_1, rfl, HA, HJ1, BK372, HB⟩ := hcut
    cases kq with
    | zero => exact absurd HA.out (by simp [substationlaw29_BreakerClosesAfter.j0])
    | succ kj1 =>
      have H := HA.out
      clear HA
      simp only [substationlaw29_BreakerClosesAfter.j0] at H
      by_cases c8 : x34_1 = true
      · subst c8
        have H1 : ((substationlaw29_known.f kj1).bind fun t373 => (some t373)) = some r := by rw [if_pos rfl] at H; exact H
        clear H
        have H := H1
        clear H1
        replace H := Option.bind_eq_some_iff.mp H
        obtain ⟨t373, A90, H⟩ := H
        replace H : (some t373) = some r := H
        have A9 := Aside0.mk A90
        clear A90
        obtain rfl := Option.some.inj H
        go_wp2_with (first | (go_at_call 22; (with_reducible refine (substationlaw29_known.calls kj1  t373 _ A9.out).mono ?_); rintro e w10 ⟨rfl, hb⟩; have n0_ := Aside0.mk (blk_below (g := gb372) (o := .cells #[.bool a0_0, .int .i64 a0_1, .bool a0_2, .slice A0_3 l0_3.length c0_3, .slice A0_4 l0_4.length c0_4] 48 (0, 0)) (by (with_reducible repeat (first | refine blk_drewN ?_ _ | refine blk_drew ?_ | refine blk_alloc ?_ _)); exact BK372.out) hb); have n1_ := Aside0.mk (below_step (by repeat (first | (with_reducible first | exact HB.out | apply below_alloc | apply pw_below_drewN | apply below_drew1 | refine below_set ?_ GE372.out) | exact HB.out)) hb); clear BK372; clear HB; have BK372 := n0_; have HB := n1_; clear n0_ n1_; (try clear hb); (try clear hb2); (try clear hk); (try clear hi)))
        repeat (go_quiet (first | (go_at_call 22; (with_reducible refine (substationlaw29_known.calls kj1  t373 _ A9.out).mono ?_); rintro e w10 ⟨rfl, hb⟩; have n0_ := Aside0.mk (blk_below (g := gb372) (o := .cells #[.bool a0_0, .int .i64 a0_1, .bool a0_2, .slice A0_3 l0_3.length c0_3, .slice A0_4 l0_4.length c0_4] 48 (0, 0)) (by (with_reducible repeat (first | refine blk_drewN ?_ _ | refine blk_drew ?_ | refine blk_alloc ?_ _)); exact BK372.out) hb); have n1_ := Aside0.mk (below_step (by repeat (first | (with_reducible first | exact HB.out | apply below_alloc | apply pw_below_drewN | apply below_drew1 | refine below_set ?_ GE372.out) | exact HB.out)) hb); clear BK372; clear HB; have BK372 := n0_; have HB := n1_; clear n0_ n1_; (try clear hb); (try clear hb2); (try clear hk); (try clear hi))); try go_wp2_with (first | (go_at_call 22; (with_reducible refine (substationlaw29_known.calls kj1  t373 _ A9.out).mono ?_); rintro e w10 ⟨rfl, hb⟩; have n0_ := Aside0.mk (blk_below (g := gb372) (o := .cells #[.bool a0_0, .int .i64 a0_1, .bool a0_2, .slice A0_3 l0_3.length c0_3, .slice A0_4 l0_4.length c0_4] 48 (0, 0)) (by (with_reducible repeat (first | refine blk_drewN ?_ _ | refine blk_drew ?_ | refine blk_alloc ?_ _)); exact BK372.out) hb); have n1_ := Aside0.mk (below_step (by repeat (first | (with_reducible first | exact HB.out | apply below_alloc | apply pw_below_drewN | apply below_drew1 | refine below_set ?_ GE372.out) | exact HB.out)) hb); clear BK372; clear HB; have BK372 := n0_; have HB := n1_; clear n0_ n1_; (try clear hb); (try clear hb2); (try clear hk); (try clear hi))))
        go_ret
        exact ⟨by first | rfl | (simp [errW_none, errW_some] <;> rfl) | (simp [*, errW_none, errW_some] <;> rfl), by repeat (first | (with_reducible first | exact HB.out | apply below_alloc | apply pw_below_drewN | apply below_drew1 | refine below_set ?_ GE372.out) | exact HB.out)⟩
      · replace c8 := Bool.eq_false_iff.mpr c8
        subst c8
        have H1 : ((breaker_Run.f kj1 false a0_1 a0_2 l0_3 l0_4).bind fun t374 => (if (t374.length : Int) = (l0_3.length : Int) then (substationlaw29_BreakerClosesAfter.l0 kj1 a0_1 l0_3 l0_4 t374 t374 (t374.length : Int) 0) else (some false))) = some r := by rw [if_neg (show ¬ (false = true) by decide)] at H; exact H
        clear H
        have H := H1
        clear H1
        replace H := Option.bind_eq_some_iff.mp H
        obtain ⟨t374, A110, H⟩ := H
        replace H : (if (t374.length : Int) = (l0_3.length : Int) then (substationlaw29_BreakerClosesAfter.l0 kj1 a0_1 l0_3 l0_4 t374 t374 (t374.length : Int) 0) else (some false)) = some r := H
        have A11 := Aside0.mk A110
        clear A110
        by_cases c12 : (t374.length : Int) = (l0_3.length : Int)
        · rw [if_pos c12] at H
          have c12b0 : ((t374.length : Int) == (l0_3.length : Int)) = true := beq_iff_eq.mpr c12
          have c12b1 : ((t374.length : Int) != (l0_3.length : Int)) = false := bne_eq_false_iff_eq.mpr c12
          have c12b2 : (t374.length == l0_3.length) = true := by first | simpa using c12 | (simp at c12 ⊢; omega)
          clear c12
          have H' := Aside0.mk H
          clear H
          have hcz13_0 : wc.cell? ⟨gb372, 0, none⟩ = some (.bool a0_0) := (blk_cell BK372.out 0).trans rfl
          have hcz13_1 : wc.cell? ⟨gb372, 1, none⟩ = some (.int .i64 a0_1) := (blk_cell BK372.out 1).trans rfl
          have hcz13_2 : wc.cell? ⟨gb372, 2, none⟩ = some (.bool a0_2) := (blk_cell BK372.out 2).trans rfl
          have hcz13_3 : wc.cell? ⟨gb372, 3, none⟩ = some (.slice A0_3 l0_3.length c0_3) := (blk_cell BK372.out 3).trans rfl
          have hcz13_4 : wc.cell? ⟨gb372, 4, none⟩ = some (.slice A0_4 l0_4.length c0_4) := (blk_cell BK372.out 4).trans rfl
          have hfz13_0 := blk_frozen BK372.out 0
          have hfz13_1 := blk_frozen BK372.out 1
          have hfz13_2 := blk_frozen BK372.out 2
          have hfz13_3 := blk_frozen BK372.out 3
          have hfz13_4 := blk_frozen BK372.out 4
          go_wp2_with (first | (go_at_call 21; (with_reducible refine (breaker_Run.calls kj1 false a0_1 a0_2 _ _ l0_3 _ _ l0_4 t374 _ ?side1 ?side2 ?side3 ?side4 A11.out).mono ?_); (case side1 => repeat (first | exact (Kd.C_below HR0_3.out HB.out) | (with_reducible refine Kd.C_alloc ?_ _) | (with_reducible refine Kd.C_drewN ?_ _) | (with_reducible refine Kd.C_drew ?_))); (case side2 => exact HC0_3.out); (case side3 => repeat (first | exact (Kd.C_below HR0_4.out HB.out) | (with_reducible refine Kd.C_alloc ?_ _) | (with_reducible refine Kd.C_drewN ?_ _) | (with_reducible refine Kd.C_drew ?_))); (case side4 => exact HC0_4.out); rintro e w14 ⟨v375, rfl, ho0, hb⟩; have n0_ := Aside0.mk (Kd.R_lower ho0 (below_size (by repeat (first | (with_reducible first | exact HB.out | apply below_alloc | apply pw_below_drewN | apply below_drew1 | refine below_set ?_ GE372.out) | exact HB.out)))); have n1_ := Aside0.mk (blk_below (g := gb372) (o := .cells #[.bool a0_0, .int .i64 a0_1, .bool a0_2, .slice A0_3 l0_3.length c0_3, .slice A0_4 l0_4.length c0_4] 48 (0, 0)) (by (with_reducible repeat (first | refine blk_drewN ?_ _ | refine blk_drew ?_ | refine blk_alloc ?_ _)); exact BK372.out) hb); have n2_ := Aside0.mk (below_step (by repeat (first | (with_reducible first | exact HB.out | apply below_alloc | apply pw_below_drewN | apply below_drew1 | refine below_set ?_ GE372.out) | exact HB.out)) hb); clear BK372; clear HB; have HO376 := n0_; have BK372 := n1_; have HB := n2_; clear n0_ n1_ n2_; (try clear hb); (try clear hb2); (try clear hk); (try clear hi); (try clear ho0); obtain ⟨Ao15, co15, eo15⟩ := Kd.R_slice HO376.out; subst eo15))
          repeat (go_quiet (first | (go_at_call 21; (with_reducible refine (breaker_Run.calls kj1 false a0_1 a0_2 _ _ l0_3 _ _ l0_4 t374 _ ?side1 ?side2 ?side3 ?side4 A11.out).mono ?_); (case side1 => repeat (first | exact (Kd.C_below HR0_3.out HB.out) | (with_reducible refine Kd.C_alloc ?_ _) | (with_reducible refine Kd.C_drewN ?_ _) | (with_reducible refine Kd.C_drew ?_))); (case side2 => exact HC0_3.out); (case side3 => repeat (first | exact (Kd.C_below HR0_4.out HB.out) | (with_reducible refine Kd.C_alloc ?_ _) | (with_reducible refine Kd.C_drewN ?_ _) | (with_reducible refine Kd.C_drew ?_))); (case side4 => exact HC0_4.out); rintro e w14 ⟨v375, rfl, ho0, hb⟩; have n0_ := Aside0.mk (Kd.R_lower ho0 (below_size (by repeat (first | (with_reducible first | exact HB.out | apply below_alloc | apply pw_below_drewN | apply below_drew1 | refine below_set ?_ GE372.out) | exact HB.out)))); have n1_ := Aside0.mk (blk_below (g := gb372) (o := .cells #[.bool a0_0, .int .i64 a0_1, .bool a0_2, .slice A0_3 l0_3.length c0_3, .slice A0_4 l0_4.length c0_4] 48 (0, 0)) (by (with_reducible repeat (first | refine blk_drewN ?_ _ | refine blk_drew ?_ | refine blk_alloc ?_ _)); exact BK372.out) hb); have n2_ := Aside0.mk (below_step (by repeat (first | (with_reducible first | exact HB.out | apply below_alloc | apply pw_below_drewN | apply below_drew1 | refine below_set ?_ GE372.out) | exact HB.out)) hb); clear BK372; clear HB; have HO376 := n0_; have BK372 := n1_; have HB := n2_; clear n0_ n1_ n2_; (try clear hb); (try clear hb2); (try clear hk); (try clear hi); (try clear ho0); obtain ⟨Ao15, co15, eo15⟩ := Kd.R_slice HO376.out; subst eo15)); try go_wp2_with (first | (go_at_call 21; (with_reducible refine (breaker_Run.calls kj1 false a0_1 a0_2 _ _ l0_3 _ _ l0_4 t374 _ ?side1 ?side2 ?side3 ?side4 A11.out).mono ?_); (case side1 => repeat (first | exact (Kd.C_below HR0_3.out HB.out) | (with_reducible refine Kd.C_alloc ?_ _) | (with_reducible refine Kd.C_drewN ?_ _) | (with_reducible refine Kd.C_drew ?_))); (case side2 => exact HC0_3.out); (case side3 => repeat (first | exact (Kd.C_below HR0_4.out HB.out) | (with_reducible refine Kd.C_alloc ?_ _) | (with_reducible refine Kd.C_drewN ?_ _) | (with_reducible refine Kd.C_drew ?_))); (case side4 => exact HC0_4.out); rintro e w14 ⟨v375, rfl, ho0, hb⟩; have n0_ := Aside0.mk (Kd.R_lower ho0 (below_size (by repeat (first | (with_reducible first | exact HB.out | apply below_alloc | apply pw_below_drewN | apply below_drew1 | refine below_set ?_ GE372.out) | exact HB.out)))); have n1_ := Aside0.mk (blk_below (g := gb372) (o := .cells #[.bool a0_0, .int .i64 a0_1, .bool a0_2, .slice A0_3 l0_3.length c0_3, .slice A0_4 l0_4.length c0_4] 48 (0, 0)) (by (with_reducible repeat (first | refine blk_drewN ?_ _ | refine blk_drew ?_ | refine blk_alloc ?_ _)); exact BK372.out) hb); have n2_ := Aside0.mk (below_step (by repeat (first | (with_reducible first | exact HB.out | apply below_alloc | apply pw_below_drewN | apply below_drew1 | refine below_set ?_ GE372.out) | exact HB.out)) hb); clear BK372; clear HB; have HO376 := n0_; have BK372 := n1_; have HB := n2_; clear n0_ n1_ n2_; (try clear hb); (try clear hb2); (try clear hk); (try clear hi); (try clear ho0); obtain ⟨Ao15, co15, eo15⟩ := Kd.R_slice HO376.out; subst eo15)))
          go_loopg [49] kj1 (fun kq v49 w' => ∃ (x49_2 : Int), v49 = .int .i64 x49_2 ∧ Aside0 (substationlaw29_BreakerClosesAfter.l0 kq a0_1 l0_3 l0_4 t374 t374 (t374.length : Int) x49_2 = some r) ∧ Aside0 (kq ≤ kj1) ∧ Aside0 (Kd.R k36 36 w' w.heap.size (fun _ => True) (.slice Ao15 t374.length co15) t374) ∧ Aside0 (Kd.R k36 36 w' w.heap.size (fun _ => True) (.slice Ao15 t374.length co15) t374) ∧ Aside0 (w'.heap[gb372]? = some (.cells #[.bool a0_0, .int .i64 a0_1, .bool a0_2, (.slice A0_3 l0_3.length c0_3), (.slice A0_4 l0_4.length c0_4)] 48 (0, 0))) ∧ Aside0 (Below w.heap.size w w'))
          case atStart => exact ⟨(0), (by first | rfl | (simp; done) | (simp [*]; done)), H', ⟨Nat.le_refl _⟩, ⟨by (with_reducible repeat (first | apply Kd.R_alloc | apply Kd.R_drewN | apply Kd.R_drew)); exact HO376.out⟩, ⟨by (with_reducible repeat (first | apply Kd.R_alloc | apply Kd.R_drewN | apply Kd.R_drew)); exact HO376.out⟩, ⟨by (with_reducible repeat (first | refine blk_drewN ?_ _ | refine blk_drew ?_ | refine blk_alloc ?_ _)); exact BK372.out⟩, ⟨by repeat (first | (with_reducible first | exact HB.out | apply below_alloc | apply pw_below_drewN | apply below_drew1 | refine below_set ?_ GE372.out) | exact HB.out)⟩⟩
          case round =>
            clear H'
            try clear c1
            try clear p2
            try clear c5
            try clear c5b0
            try clear c6
            try clear c6b0
            try clear c7
            try clear c7b0
            try clear c7b1
            try clear c7b2
            try clear c8
            try clear c12
            try clear c12b0
            try clear c12b1
            try clear c12b2
            try clear c13
            try clear hcz13_0
            try clear hcz13_1
            try clear hcz13_2
            try clear hcz13_3
            try clear hcz13_4
            try clear hcz4_0
            try clear hcz4_1
            try clear hcz4_2
            try clear hcz4_3
            try clear hcz4_4
            try clear hfz13_0
            try clear hfz13_1
            try clear hfz13_2
            try clear hfz13_3
            try clear hfz13_4
            try clear hfz4_0
            try clear hfz4_1
            try clear hfz4_2
            try clear hfz4_3
            try clear hfz4_4
            try clear p2
            obtain ⟨x49_2, rfl, HA, HK2, HO_6, HO_47, BK372, HB⟩ := hrel
            cases gk with
            | zero => exact absurd HA.out (by simp [substationlaw29_BreakerClosesAfter.l0])
            | succ k2 =>
              have H := HA.out
              clear HA
              simp only [substationlaw29_BreakerClosesAfter.l0] at H
              by_cases c16 : x49_2 < (t374.length : Int)
              · rw [if_pos c16] at H
                have c16b0 : decide (x49_2 < (t374.length : Int)) = true := decide_eq_true c16
                clear c16
                by_cases c17 : 0 ≤ x49_2
                · rw [if_pos c17] at H
                  have c17b0 : decide (0 ≤ x49_2) = true := decide_eq_true c17
                  clear c17
                  by_cases c18 : x49_2 < (t374.length : Int)
                  · rw [if_pos c18] at H
                    have c18b0 : decide (x49_2 < (t374.length : Int)) = true := decide_eq_true c18
                    clear c18
                    have HC19 := Aside0.mk H
                    clear H
                    have p378 : 0 ≤ (x49_2 : Int) := of_decide_eq_true (by first | (with_reducible assumption) | assumption)
                    have q378 : x49_2 < (t374.length : Int) := of_decide_eq_true (by first | (with_reducible assumption) | assumption)
                    obtain ⟨ad378, e378, hx378_0, hx378_1, hx378_2, hx378_3⟩ := at_T36 (Kd.R_reads' HO_47.out).2.2 x49_2 p378 q378
                    cases e378
                    replace p378 := eq_true p378
                    replace q378 := eq_true q378
                    go_upto_region 10 with (first | ((with_reducible refine gate_dst (N := 8) rfl ?_); (try (refine gate_guard (by rfl) ?_; dsimp only)); refine box_event ?hg (N := 8) ?hd (cs := #[.bool false, .bool false, .int .i64 0, .bool false]) (t := 36) ?hr ?_; (case hd => rfl); (case hg => rfl); (case hr => first | (go_simp; done) | (go_simp; rfl)); intro gb379 hg w20 hbox hb; have RL6 := Aside0.mk (Kd.R_lt HO_6.out); have HG379 := Aside0.mk hg; have n0_ := Aside0.mk (Kd.R_below (Kd.R_elderB (by (with_reducible repeat (first | apply Kd.R_alloc | apply Kd.R_drewN | apply Kd.R_drew)); exact HO_6.out) gb379 (Nat.le_of_eq hg.symm)) hb); have n1_ := Aside0.mk (Kd.R_below (Kd.R_elderB (by (with_reducible repeat (first | apply Kd.R_alloc | apply Kd.R_drewN | apply Kd.R_drew)); exact HO_47.out) gb379 (Nat.le_of_eq hg.symm)) hb); have n2_ := Aside0.mk (blk_below (g := gb372) (o := .cells #[.bool a0_0, .int .i64 a0_1, .bool a0_2, .slice A0_3 l0_3.length c0_3, .slice A0_4 l0_4.length c0_4] 48 (0, 0)) (by (with_reducible repeat (first | refine blk_drewN ?_ _ | refine blk_drew ?_ | refine blk_alloc ?_ _)); exact BK372.out) hb); have n3_ := Aside0.mk (below_step (by repeat (first | (with_reducible first | exact HB.out | apply below_alloc | apply pw_below_drewN | apply below_drew1 | refine below_set ?_ GE372.out) | exact HB.out)) hb); have n4_ := Aside0.mk (hbox); have n5_ := Aside0.mk ((by rw [hg]; exact (below_size (by repeat (first | (with_reducible first | exact HB.out | apply below_alloc | apply pw_below_drewN | apply below_drew1 | refine below_set ?_ GE372.out) | exact HB.out))) : w.heap.size ≤ gb379)); have n6_ := Aside0.mk ((by rw [hg]; exact (below_size (by repeat (first | (with_reducible first | exact HB.out | apply below_alloc | apply pw_below_drewN | apply below_drew1 | refine below_set ?_ GE372.out) | exact HB.out))) : w.heap.size ≤ gb379)); have n7_ := Aside0.mk ((by rw [hg]; exact Nat.ne_of_lt (blk_lt (g := gb372) (o := .cells #[.bool a0_0, .int .i64 a0_1, .bool a0_2, .slice A0_3 l0_3.length c0_3, .slice A0_4 l0_4.length c0_4] 48 (0, 0)) (by (with_reducible repeat (first | refine blk_drewN ?_ _ | refine blk_drew ?_ | refine blk_alloc ?_ _)); exact BK372.out)) : gb372 ≠ gb379)); have n8_ := Aside0.mk ((by rw [hg]; exact Nat.ne_of_gt (blk_lt (g := gb372) (o := .cells #[.bool a0_0, .int .i64 a0_1, .bool a0_2, .slice A0_3 l0_3.length c0_3, .slice A0_4 l0_4.length c0_4] 48 (0, 0)) (by (with_reducible repeat (first | refine blk_drewN ?_ _ | refine blk_drew ?_ | refine blk_alloc ?_ _)); exact BK372.out)) : gb379 ≠ gb372)); clear HO_6; clear HO_47; clear BK372; clear HB; have HO_6 := n0_; have HO_47 := n1_; have BK372 := n2_; have HB := n3_; have BK379 := n4_; have GW379 := n5_; have GE379 := n6_; have NB372_379 := n7_; have NB379_372 := n8_; clear n0_ n1_ n2_ n3_ n4_ n5_ n6_ n7_ n8_; clear hb hbox hg; have hnb21 := NB379_372.out; have hnc21 := NB372_379.out; have hcz22_0 : w20.cell? ⟨gb379, 0, none⟩ = some (.bool false) := (blk_cell BK379.out 0).trans rfl; have hcz22_1 : w20.cell? ⟨gb379, 1, none⟩ = some (.bool false) := (blk_cell BK379.out 1).trans rfl; have hcz22_2 : w20.cell? ⟨gb379, 2, none⟩ = some (.int .i64 0) := (blk_cell BK379.out 2).trans rfl; have hcz22_3 : w20.cell? ⟨gb379, 3, none⟩ = some (.bool false) := (blk_cell BK379.out 3).trans rfl; have hfz22_0 := blk_frozen BK379.out 0; have hfz22_1 := blk_frozen BK379.out 1; have hfz22_2 := blk_frozen BK379.out 2; have hfz22_3 := blk_frozen BK379.out 3))
                    repeat (go_quiet (first | ((with_reducible refine gate_dst (N := 8) rfl ?_); (try (refine gate_guard (by rfl) ?_; dsimp only)); refine box_event ?hg (N := 8) ?hd (cs := #[.bool false, .bool false, .int .i64 0, .bool false]) (t := 36) ?hr ?_; (case hd => rfl); (case hg => rfl); (case hr => first | (go_simp; done) | (go_simp; rfl)); intro gb379 hg w20 hbox hb; have RL6 := Aside0.mk (Kd.R_lt HO_6.out); have HG379 := Aside0.mk hg; have n0_ := Aside0.mk (Kd.R_below (Kd.R_elderB (by (with_reducible repeat (first | apply Kd.R_alloc | apply Kd.R_drewN | apply Kd.R_drew)); exact HO_6.out) gb379 (Nat.le_of_eq hg.symm)) hb); have n1_ := Aside0.mk (Kd.R_below (Kd.R_elderB (by (with_reducible repeat (first | apply Kd.R_alloc | apply Kd.R_drewN | apply Kd.R_drew)); exact HO_47.out) gb379 (Nat.le_of_eq hg.symm)) hb); have n2_ := Aside0.mk (blk_below (g := gb372) (o := .cells #[.bool a0_0, .int .i64 a0_1, .bool a0_2, .slice A0_3 l0_3.length c0_3, .slice A0_4 l0_4.length c0_4] 48 (0, 0)) (by (with_reducible repeat (first | refine blk_drewN ?_ _ | refine blk_drew ?_ | refine blk_alloc ?_ _)); exact BK372.out) hb); have n3_ := Aside0.mk (below_step (by repeat (first | (with_reducible first | exact HB.out | apply below_alloc | apply pw_below_drewN | apply below_drew1 | refine below_set ?_ GE372.out) | exact HB.out)) hb); have n4_ := Aside0.mk (hbox); have n5_ := Aside0.mk ((by rw [hg]; exact (below_size (by repeat (first | (with_reducible first | exact HB.out | apply below_alloc | apply pw_below_drewN | apply below_drew1 | refine below_set ?_ GE372.out) | exact HB.out))) : w.heap.size ≤ gb379)); have n6_ := Aside0.mk ((by rw [hg]; exact (below_size (by repeat (first | (with_reducible first | exact HB.out | apply below_alloc | apply pw_below_drewN | apply below_drew1 | refine below_set ?_ GE372.out) | exact HB.out))) : w.heap.size ≤ gb379)); have n7_ := Aside0.mk ((by rw [hg]; exact Nat.ne_of_lt (blk_lt (g := gb372) (o := .cells #[.bool a0_0, .int .i64 a0_1, .bool a0_2, .slice A0_3 l0_3.length c0_3, .slice A0_4 l0_4.length c0_4] 48 (0, 0)) (by (with_reducible repeat (first | refine blk_drewN ?_ _ | refine blk_drew ?_ | refine blk_alloc ?_ _)); exact BK372.out)) : gb372 ≠ gb379)); have n8_ := Aside0.mk ((by rw [hg]; exact Nat.ne_of_gt (blk_lt (g := gb372) (o := .cells #[.bool a0_0, .int .i64 a0_1, .bool a0_2, .slice A0_3 l0_3.length c0_3, .slice A0_4 l0_4.length c0_4] 48 (0, 0)) (by (with_reducible repeat (first | refine blk_drewN ?_ _ | refine blk_drew ?_ | refine blk_alloc ?_ _)); exact BK372.out)) : gb379 ≠ gb372)); clear HO_6; clear HO_47; clear BK372; clear HB; have HO_6 := n0_; have HO_47 := n1_; have BK372 := n2_; have HB := n3_; have BK379 := n4_; have GW379 := n5_; have GE379 := n6_; have NB372_379 := n7_; have NB379_372 := n8_; clear n0_ n1_ n2_ n3_ n4_ n5_ n6_ n7_ n8_; clear hb hbox hg; have hnb21 := NB379_372.out; have hnc21 := NB372_379.out; have hcz22_0 : w20.cell? ⟨gb379, 0, none⟩ = some (.bool false) := (blk_cell BK379.out 0).trans rfl; have hcz22_1 : w20.cell? ⟨gb379, 1, none⟩ = some (.bool false) := (blk_cell BK379.out 1).trans rfl; have hcz22_2 : w20.cell? ⟨gb379, 2, none⟩ = some (.int .i64 0) := (blk_cell BK379.out 2).trans rfl; have hcz22_3 : w20.cell? ⟨gb379, 3, none⟩ = some (.bool false) := (blk_cell BK379.out 3).trans rfl; have hfz22_0 := blk_frozen BK379.out 0; have hfz22_1 := blk_frozen BK379.out 1; have hfz22_2 := blk_frozen BK379.out 2; have hfz22_3 := blk_frozen BK379.out 3)); go_upto_region 10 with (first | ((with_reducible refine gate_dst (N := 8) rfl ?_); (try (refine gate_guard (by rfl) ?_; dsimp only)); refine box_event ?hg (N := 8) ?hd (cs := #[.bool false, .bool false, .int .i64 0, .bool false]) (t := 36) ?hr ?_; (case hd => rfl); (case hg => rfl); (case hr => first | (go_simp; done) | (go_simp; rfl)); intro gb379 hg w20 hbox hb; have RL6 := Aside0.mk (Kd.R_lt HO_6.out); have HG379 := Aside0.mk hg; have n0_ := Aside0.mk (Kd.R_below (Kd.R_elderB (by (with_reducible repeat (first | apply Kd.R_alloc | apply Kd.R_drewN | apply Kd.R_drew)); exact HO_6.out) gb379 (Nat.le_of_eq hg.symm)) hb); have n1_ := Aside0.mk (Kd.R_below (Kd.R_elderB (by (with_reducible repeat (first | apply Kd.R_alloc | apply Kd.R_drewN | apply Kd.R_drew)); exact HO_47.out) gb379 (Nat.le_of_eq hg.symm)) hb); have n2_ := Aside0.mk (blk_below (g := gb372) (o := .cells #[.bool a0_0, .int .i64 a0_1, .bool a0_2, .slice A0_3 l0_3.length c0_3, .slice A0_4 l0_4.length c0_4] 48 (0, 0)) (by (with_reducible repeat (first | refine blk_drewN ?_ _ | refine blk_drew ?_ | refine blk_alloc ?_ _)); exact BK372.out) hb); have n3_ := Aside0.mk (below_step (by repeat (first | (with_reducible first | exact HB.out | apply below_alloc | apply pw_below_drewN | apply below_drew1 | refine below_set ?_ GE372.out) | exact HB.out)) hb); have n4_ := Aside0.mk (hbox); have n5_ := Aside0.mk ((by rw [hg]; exact (below_size (by repeat (first | (with_reducible first | exact HB.out | apply below_alloc | apply pw_below_drewN | apply below_drew1 | refine below_set ?_ GE372.out) | exact HB.out))) : w.heap.size ≤ gb379)); have n6_ := Aside0.mk ((by rw [hg]; exact (below_size (by repeat (first | (with_reducible first | exact HB.out | apply below_alloc | apply pw_below_drewN | apply below_drew1 | refine below_set ?_ GE372.out) | exact HB.out))) : w.heap.size ≤ gb379)); have n7_ := Aside0.mk ((by rw [hg]; exact Nat.ne_of_lt (blk_lt (g := gb372) (o := .cells #[.bool a0_0, .int .i64 a0_1, .bool a0_2, .slice A0_3 l0_3.length c0_3, .slice A0_4 l0_4.length c0_4] 48 (0, 0)) (by (with_reducible repeat (first | refine blk_drewN ?_ _ | refine blk_drew ?_ | refine blk_alloc ?_ _)); exact BK372.out)) : gb372 ≠ gb379)); have n8_ := Aside0.mk ((by rw [hg]; exact Nat.ne_of_gt (blk_lt (g := gb372) (o := .cells #[.bool a0_0, .int .i64 a0_1, .bool a0_2, .slice A0_3 l0_3.length c0_3, .slice A0_4 l0_4.length c0_4] 48 (0, 0)) (by (with_reducible repeat (first | refine blk_drewN ?_ _ | refine blk_drew ?_ | refine blk_alloc ?_ _)); exact BK372.out)) : gb379 ≠ gb372)); clear HO_6; clear HO_47; clear BK372; clear HB; have HO_6 := n0_; have HO_47 := n1_; have BK372 := n2_; have HB := n3_; have BK379 := n4_; have GW379 := n5_; have GE379 := n6_; have NB372_379 := n7_; have NB379_372 := n8_; clear n0_ n1_ n2_ n3_ n4_ n5_ n6_ n7_ n8_; clear hb hbox hg; have hnb21 := NB379_372.out; have hnc21 := NB372_379.out; have hcz22_0 : w20.cell? ⟨gb379, 0, none⟩ = some (.bool false) := (blk_cell BK379.out 0).trans rfl; have hcz22_1 : w20.cell? ⟨gb379, 1, none⟩ = some (.bool false) := (blk_cell BK379.out 1).trans rfl; have hcz22_2 : w20.cell? ⟨gb379, 2, none⟩ = some (.int .i64 0) := (blk_cell BK379.out 2).trans rfl; have hcz22_3 : w20.cell? ⟨gb379, 3, none⟩ = some (.bool false) := (blk_cell BK379.out 3).trans rfl; have hfz22_0 := blk_frozen BK379.out 0; have hfz22_1 := blk_frozen BK379.out 1; have hfz22_2 := blk_frozen BK379.out 2; have hfz22_3 := blk_frozen BK379.out 3)))
                    (try simp only [Act.put, List.setIfInBounds_toArray, List.set_cons_zero, List.set_cons_succ])
                    go_cut [68] (fun v68 wc => ∃ (kq : Nat) (x68_18 : Bool), v68 = .bool x68_18 ∧ Aside0 (substationlaw29_BreakerClosesAfter.j2 kq a0_1 l0_3 l0_4 t374 x49_2 t374 (t374.length : Int) x49_2 x68_18 = some r) ∧ Aside0 (kq ≤ k2) ∧ Aside0 (Kd.R k36 36 wc w.heap.size (fun k_ => k_ ≠ gb379) (.slice (some ad378) t374.length co15) t374) ∧ Aside0 (Kd.R k36 36 wc w.heap.size (fun k_ => k_ ≠ gb379) (.slice (some ad378) t374.length co15) t374) ∧ Aside0 (wc.heap[gb372]? = some (.cells #[.bool a0_0, .int .i64 a0_1, .bool a0_2, (.slice A0_3 l0_3.length c0_3), (.slice A0_4 l0_4.length c0_4)] 48 (0, 0))) ∧ Aside0 (wc.heap[gb379]? = some (.cells #[.bool ((rd_T36 t374 x49_2).f0), .bool ((rd_T36 t374 x49_2).f1), .int .i64 ((rd_T36 t374 x49_2).f2), .bool ((rd_T36 t374 x49_2).f3)] 36 (0, 0))) ∧ Aside0 (Below w.heap.size w wc))
                    case first =>
                      have H := HC19.out
                      clear HC19
                      obtain ⟨bq23, hbq23⟩ : ∃ b_ : Bool, b_ = ((rd_T36 t374 x49_2).f0) := ⟨_, rfl⟩
                      replace H : (if (bq23 = true) then (if x49_2 > 0 then (if 0 ≤ (wrap64 (x49_2 - 1)) then (if (wrap64 (x49_2 - 1)) < (t374.length : Int) then (substationlaw29_BreakerClosesAfter.j2 k2 a0_1 l0_3 l0_4 t374 x49_2 t374 (t374.length : Int) x49_2 ((rd_T36 t374 (wrap64 (x49_2 - 1))).f0)) else (none)) else (none)) else (substationlaw29_BreakerClosesAfter.j2 k2 a0_1 l0_3 l0_4 t374 x49_2 t374 (t374.length : Int) x49_2 false)) else (substationlaw29_BreakerClosesAfter.j2 k2 a0_1 l0_3 l0_4 t374 x49_2 t374 (t374.length : Int) x49_2 true)) = some r := by rw [← hbq23] at H; exact H
                      have Nbq23 := Aside0.mk hbq23
                      clear hbq23
                      (try rw [← Nbq23.out])
                      by_cases c24 : (bq23 = true)
                      · subst c24
                        have H1 : (if x49_2 > 0 then (if 0 ≤ (wrap64 (x49_2 - 1)) then (if (wrap64 (x49_2 - 1)) < (t374.length : Int) then (substationlaw29_BreakerClosesAfter.j2 k2 a0_1 l0_3 l0_4 t374 x49_2 t374 (t374.length : Int) x49_2 ((rd_T36 t374 (wrap64 (x49_2 - 1))).f0)) else (none)) else (none)) else (substationlaw29_BreakerClosesAfter.j2 k2 a0_1 l0_3 l0_4 t374 x49_2 t374 (t374.length : Int) x49_2 false)) = some r := by rw [if_pos rfl] at H; exact H
                        clear H
                        have H := H1
                        clear H1
                        by_cases c25 : x49_2 > 0
                        · rw [if_pos c25] at H
                          have c25b0 : decide (0 < x49_2) = true := decide_eq_true c25
                          clear c25
                          obtain ⟨ji26, hji26⟩ : ∃ j_ : Int, (wrap64 (x49_2 - 1)) = j_ := ⟨_, rfl⟩
                          replace H : (if 0 ≤ (ji26) then (if (ji26) < (t374.length : Int) then (substationlaw29_BreakerClosesAfter.j2 k2 a0_1 l0_3 l0_4 t374 x49_2 t374 (t374.length : Int) x49_2 ((rd_T36 t374 (ji26)).f0)) else (none)) else (none)) = some r := by first | (rw [hji26] at H; exact H) | (simp only [hji26] at H ⊢; exact H)
                          have hji26w : (IntKind.i64.wrap (x49_2 - 1)) = ji26 := (i64_w _).trans hji26
                          by_cases c27 : 0 ≤ (ji26)
                          · rw [if_pos c27] at H
                            have c27b0 : decide (0 ≤ (ji26)) = true := decide_eq_true c27
                            clear c27
                            by_cases c28 : (ji26) < (t374.length : Int)
                            · rw [if_pos c28] at H
                              have c28b0 : decide ((ji26) < (t374.length : Int)) = true := decide_eq_true c28
                              clear c28
                              have H' := Aside0.mk H
                              clear H
                              have hnb29 := NB379_372.out
                              have hnc29 := NB372_379.out
                              have hcz30_0 : w20.cell? ⟨gb379, 0, none⟩ = some (.bool false) := (blk_cell BK379.out 0).trans rfl
                              have hcz30_1 : w20.cell? ⟨gb379, 1, none⟩ = some (.bool false) := (blk_cell BK379.out 1).trans rfl
                              have hcz30_2 : w20.cell? ⟨gb379, 2, none⟩ = some (.int .i64 0) := (blk_cell BK379.out 2).trans rfl
                              have hcz30_3 : w20.cell? ⟨gb379, 3, none⟩ = some (.bool false) := (blk_cell BK379.out 3).trans rfl
                              have hfz30_0 := blk_frozen BK379.out 0
                              have hfz30_1 := blk_frozen BK379.out 1
                              have hfz30_2 := blk_frozen BK379.out 2
                              have hfz30_3 := blk_frozen BK379.out 3
                              have p380 : 0 ≤ ((ji26) : Int) := of_decide_eq_true (by first | (with_reducible assumption) | assumption)
                              have q380 : (ji26) < (t374.length : Int) := of_decide_eq_true (by first | (with_reducible assumption) | assumption)
                              obtain ⟨ad380, e380, hx380_0, hx380_1, hx380_2, hx380_3⟩ := at_T36 (Kd.R_reads' HO_6.out).2.2 (ji26) p380 q380
                              (try rw [← Nbq23.out] at hx380_0)
                              (try rw [← Nbq23.out] at hx380_1)
                              (try rw [← Nbq23.out] at hx380_3)
                              obtain rfl : ad378 = ad380 := (by injection e380)
                              have hn380_0 : ad378.block ≠ gb379 := Kd.own_blk (fun he => by have h0 := RL6.out _ he.symm; rw [HG379.out] at h0; simp at h0)
                              have hn380_1 : ad378.block ≠ gb379 := Kd.own_blk (fun he => by have h0 := RL6.out _ he.symm; rw [HG379.out] at h0; simp at h0)
                              have hn380_2 : ad378.block ≠ gb379 := Kd.own_blk (fun he => by have h0 := RL6.out _ he.symm; rw [HG379.out] at h0; simp at h0)
                              have hn380_3 : ad378.block ≠ gb379 := Kd.own_blk (fun he => by have h0 := RL6.out _ he.symm; rw [HG379.out] at h0; simp at h0)
                              replace hx380_0 := (cell_far (p := ⟨gb379, 0, none⟩) (by first | (rw [add_block]; exact hn380_0) | (show (Addr.add _ _).block ≠ _; rw [add_block]; exact hn380_0) | exact hn380_0) (.bool (true))).trans hx380_0
                              replace hx380_1 := (cell_far (p := ⟨gb379, 0, none⟩) (by first | (rw [add_block]; exact hn380_0) | (show (Addr.add _ _).block ≠ _; rw [add_block]; exact hn380_0) | exact hn380_0) (.bool (true))).trans hx380_1
                              replace hx380_2 := (cell_far (p := ⟨gb379, 0, none⟩) (by first | (rw [add_block]; exact hn380_0) | (show (Addr.add _ _).block ≠ _; rw [add_block]; exact hn380_0) | exact hn380_0) (.bool (true))).trans hx380_2
                              replace hx380_3 := (cell_far (p := ⟨gb379, 0, none⟩) (by first | (rw [add_block]; exact hn380_0) | (show (Addr.add _ _).block ≠ _; rw [add_block]; exact hn380_0) | exact hn380_0) (.bool (true))).trans hx380_3
                              replace hx380_0 := (cell_far (p := ⟨gb379, 1, none⟩) (by first | (rw [add_block]; exact hn380_1) | (show (Addr.add _ _).block ≠ _; rw [add_block]; exact hn380_1) | exact hn380_1) (.bool ((rd_T36 t374 x49_2).f1))).trans hx380_0
                              replace hx380_1 := (cell_far (p := ⟨gb379, 1, none⟩) (by first | (rw [add_block]; exact hn380_1) | (show (Addr.add _ _).block ≠ _; rw [add_block]; exact hn380_1) | exact hn380_1) (.bool ((rd_T36 t374 x49_2).f1))).trans hx380_1
                              replace hx380_2 := (cell_far (p := ⟨gb379, 1, none⟩) (by first | (rw [add_block]; exact hn380_1) | (show (Addr.add _ _).block ≠ _; rw [add_block]; exact hn380_1) | exact hn380_1) (.bool ((rd_T36 t374 x49_2).f1))).trans hx380_2
                              replace hx380_3 := (cell_far (p := ⟨gb379, 1, none⟩) (by first | (rw [add_block]; exact hn380_1) | (show (Addr.add _ _).block ≠ _; rw [add_block]; exact hn380_1) | exact hn380_1) (.bool ((rd_T36 t374 x49_2).f1))).trans hx380_3
                              replace hx380_0 := (cell_far (p := ⟨gb379, 2, none⟩) (by first | (rw [add_block]; exact hn380_2) | (show (Addr.add _ _).block ≠ _; rw [add_block]; exact hn380_2) | exact hn380_2) (.int .i64 ((rd_T36 t374 x49_2).f2))).trans hx380_0
                              replace hx380_1 := (cell_far (p := ⟨gb379, 2, none⟩) (by first | (rw [add_block]; exact hn380_2) | (show (Addr.add _ _).block ≠ _; rw [add_block]; exact hn380_2) | exact hn380_2) (.int .i64 ((rd_T36 t374 x49_2).f2))).trans hx380_1
                              replace hx380_2 := (cell_far (p := ⟨gb379, 2, none⟩) (by first | (rw [add_block]; exact hn380_2) | (show (Addr.add _ _).block ≠ _; rw [add_block]; exact hn380_2) | exact hn380_2) (.int .i64 ((rd_T36 t374 x49_2).f2))).trans hx380_2
                              replace hx380_3 := (cell_far (p := ⟨gb379, 2, none⟩) (by first | (rw [add_block]; exact hn380_2) | (show (Addr.add _ _).block ≠ _; rw [add_block]; exact hn380_2) | exact hn380_2) (.int .i64 ((rd_T36 t374 x49_2).f2))).trans hx380_3
                              replace hx380_0 := (cell_far (p := ⟨gb379, 3, none⟩) (by first | (rw [add_block]; exact hn380_3) | (show (Addr.add _ _).block ≠ _; rw [add_block]; exact hn380_3) | exact hn380_3) (.bool ((rd_T36 t374 x49_2).f3))).trans hx380_0
                              replace hx380_1 := (cell_far (p := ⟨gb379, 3, none⟩) (by first | (rw [add_block]; exact hn380_3) | (show (Addr.add _ _).block ≠ _; rw [add_block]; exact hn380_3) | exact hn380_3) (.bool ((rd_T36 t374 x49_2).f3))).trans hx380_1
                              replace hx380_2 := (cell_far (p := ⟨gb379, 3, none⟩) (by first | (rw [add_block]; exact hn380_3) | (show (Addr.add _ _).block ≠ _; rw [add_block]; exact hn380_3) | exact hn380_3) (.bool ((rd_T36 t374 x49_2).f3))).trans hx380_2
                              replace hx380_3 := (cell_far (p := ⟨gb379, 3, none⟩) (by first | (rw [add_block]; exact hn380_3) | (show (Addr.add _ _).block ≠ _; rw [add_block]; exact hn380_3) | exact hn380_3) (.bool ((rd_T36 t374 x49_2).f3))).trans hx380_3
                              (try have hy380_0 := fun (n_ : Nat) => (show ((((((w20.drewN n_).setCell ⟨gb379, 0, none⟩ (.bool (true))).setCell ⟨gb379, 1, none⟩ (.bool ((rd_T36 t374 x49_2).f1))).setCell ⟨gb379, 2, none⟩ (.int .i64 ((rd_T36 t374 x49_2).f2))).setCell ⟨gb379, 3, none⟩ (.bool ((rd_T36 t374 x49_2).f3)))).cell? _ = some _ from hx380_0))
                              (try have hy380_1 := fun (n_ : Nat) => (show ((((((w20.drewN n_).setCell ⟨gb379, 0, none⟩ (.bool (true))).setCell ⟨gb379, 1, none⟩ (.bool ((rd_T36 t374 x49_2).f1))).setCell ⟨gb379, 2, none⟩ (.int .i64 ((rd_T36 t374 x49_2).f2))).setCell ⟨gb379, 3, none⟩ (.bool ((rd_T36 t374 x49_2).f3)))).cell? _ = some _ from hx380_1))
                              (try have hy380_2 := fun (n_ : Nat) => (show ((((((w20.drewN n_).setCell ⟨gb379, 0, none⟩ (.bool (true))).setCell ⟨gb379, 1, none⟩ (.bool ((rd_T36 t374 x49_2).f1))).setCell ⟨gb379, 2, none⟩ (.int .i64 ((rd_T36 t374 x49_2).f2))).setCell ⟨gb379, 3, none⟩ (.bool ((rd_T36 t374 x49_2).f3)))).cell? _ = some _ from hx380_2))
                              (try have hy380_3 := fun (n_ : Nat) => (show ((((((w20.drewN n_).setCell ⟨gb379, 0, none⟩ (.bool (true))).setCell ⟨gb379, 1, none⟩ (.bool ((rd_T36 t374 x49_2).f1))).setCell ⟨gb379, 2, none⟩ (.int .i64 ((rd_T36 t374 x49_2).f2))).setCell ⟨gb379, 3, none⟩ (.bool ((rd_T36 t374 x49_2).f3)))).cell? _ = some _ from hx380_3))
                              clear hn380_0
                              clear hn380_1
                              clear hn380_2
                              clear hn380_3
                              replace p380 := eq_true p380
                              replace q380 := eq_true q380
                              go_wp2
                              repeat (go_quiet (fail); try go_wp2)
                              go_meet
                              case rel => exact ⟨_, ((rd_T36 t374 (ji26)).f0), (by first | rfl | (simp; done) | (simp only [← hji26] <;> (first | rfl | simp)) | (simp [*]; done)), H', ⟨by have := HJ1.out; have := HK2.out; first | omega | exact Nat.le_refl _⟩, ⟨by (with_reducible repeat (first | apply Kd.R_alloc | apply Kd.R_drewN | apply Kd.R_drew)); exact Kd.R_mono (Kd.R_far (p := ⟨gb379, 3, none⟩) (Kd.R_far (p := ⟨gb379, 2, none⟩) (Kd.R_far (p := ⟨gb379, 1, none⟩) (Kd.R_far (p := ⟨gb379, 0, none⟩) (Kd.R_mono HO_6.out (fun k_ hk => (⟨hk, hk.2⟩ : _ ∧ k_ ≠ gb379))) (fun _ hk => hk.2) (.bool (true))) (fun _ hk => hk.2) (.bool ((rd_T36 t374 x49_2).f1))) (fun _ hk => hk.2) (.int .i64 ((rd_T36 t374 x49_2).f2))) (fun _ hk => hk.2) (.bool ((rd_T36 t374 x49_2).f3))) (fun _ hk => hk.1.2)⟩, ⟨by (with_reducible repeat (first | apply Kd.R_alloc | apply Kd.R_drewN | apply Kd.R_drew)); exact Kd.R_mono (Kd.R_far (p := ⟨gb379, 3, none⟩) (Kd.R_far (p := ⟨gb379, 2, none⟩) (Kd.R_far (p := ⟨gb379, 1, none⟩) (Kd.R_far (p := ⟨gb379, 0, none⟩) (Kd.R_mono HO_47.out (fun k_ hk => (⟨hk, hk.2⟩ : _ ∧ k_ ≠ gb379))) (fun _ hk => hk.2) (.bool (true))) (fun _ hk => hk.2) (.bool ((rd_T36 t374 x49_2).f1))) (fun _ hk => hk.2) (.int .i64 ((rd_T36 t374 x49_2).f2))) (fun _ hk => hk.2) (.bool ((rd_T36 t374 x49_2).f3))) (fun _ hk => hk.1.2)⟩, ⟨by (with_reducible repeat (first | refine blk_drewN ?_ _ | refine blk_drew ?_ | refine blk_alloc ?_ _)); refine blk_far ?_ NB372_379.out _; (with_reducible repeat (first | refine blk_drewN ?_ _ | refine blk_drew ?_ | refine blk_alloc ?_ _)); refine blk_far ?_ NB372_379.out _; (with_reducible repeat (first | refine blk_drewN ?_ _ | refine blk_drew ?_ | refine blk_alloc ?_ _)); refine blk_far ?_ NB372_379.out _; (with_reducible repeat (first | refine blk_drewN ?_ _ | refine blk_drew ?_ | refine blk_alloc ?_ _)); refine blk_far ?_ NB372_379.out _; (with_reducible repeat (first | refine blk_drewN ?_ _ | refine blk_drew ?_ | refine blk_alloc ?_ _)); exact BK372.out⟩, ⟨by rw [← Nbq23.out]; (with_reducible repeat (first | refine blk_drewN ?_ _ | refine blk_drew ?_ | refine blk_alloc ?_ _)); refine blk_put (cs := #[.bool (true), .bool ((rd_T36 t374 x49_2).f1), .int .i64 ((rd_T36 t374 x49_2).f2), .bool false]) ?_ 3 _ rfl; (with_reducible repeat (first | refine blk_drewN ?_ _ | refine blk_drew ?_ | refine blk_alloc ?_ _)); refine blk_put (cs := #[.bool (true), .bool ((rd_T36 t374 x49_2).f1), .int .i64 0, .bool false]) ?_ 2 _ rfl; (with_reducible repeat (first | refine blk_drewN ?_ _ | refine blk_drew ?_ | refine blk_alloc ?_ _)); refine blk_put (cs := #[.bool (true), .bool false, .int .i64 0, .bool false]) ?_ 1 _ rfl; (with_reducible repeat (first | refine blk_drewN ?_ _ | refine blk_drew ?_ | refine blk_alloc ?_ _)); refine blk_put (cs := #[.bool false, .bool false, .int .i64 0, .bool false]) ?_ 0 _ rfl; (with_reducible repeat (first | refine blk_drewN ?_ _ | refine blk_drew ?_ | refine blk_alloc ?_ _)); exact BK379.out⟩, ⟨by repeat (first | (with_reducible first | exact HB.out | apply below_alloc | apply pw_below_drewN | apply below_drew1 | refine below_set ?_ GE372.out | refine below_set ?_ GE379.out) | exact HB.out)⟩⟩
                            · rw [if_neg c28] at H
                              exact absurd H (by simp)
                          · rw [if_neg c27] at H
                            exact absurd H (by simp)
                        · rw [if_neg c25] at H
                          have c25b0 : decide (0 < x49_2) = false := decide_eq_false c25
                          clear c25
                          have H' := Aside0.mk H
                          clear H
                          have hnb31 := NB379_372.out
                          have hnc31 := NB372_379.out
                          have hcz32_0 : w20.cell? ⟨gb379, 0, none⟩ = some (.bool false) := (blk_cell BK379.out 0).trans rfl
                          have hcz32_1 : w20.cell? ⟨gb379, 1, none⟩ = some (.bool false) := (blk_cell BK379.out 1).trans rfl
                          have hcz32_2 : w20.cell? ⟨gb379, 2, none⟩ = some (.int .i64 0) := (blk_cell BK379.out 2).trans rfl
                          have hcz32_3 : w20.cell? ⟨gb379, 3, none⟩ = some (.bool false) := (blk_cell BK379.out 3).trans rfl
                          have hfz32_0 := blk_frozen BK379.out 0
                          have hfz32_1 := blk_frozen BK379.out 1
                          have hfz32_2 := blk_frozen BK379.out 2
                          have hfz32_3 := blk_frozen BK379.out 3
                          go_wp2
                          repeat (go_quiet (fail); try go_wp2)
                          go_meet
                          case rel => exact ⟨_, (false), (by first | rfl | (simp; done) | (simp [*]; done)), H', ⟨by have := HJ1.out; have := HK2.out; first | omega | exact Nat.le_refl _⟩, ⟨by (with_reducible repeat (first | apply Kd.R_alloc | apply Kd.R_drewN | apply Kd.R_drew)); exact Kd.R_mono (Kd.R_far (p := ⟨gb379, 3, none⟩) (Kd.R_far (p := ⟨gb379, 2, none⟩) (Kd.R_far (p := ⟨gb379, 1, none⟩) (Kd.R_far (p := ⟨gb379, 0, none⟩) (Kd.R_mono HO_6.out (fun k_ hk => (⟨hk, hk.2⟩ : _ ∧ k_ ≠ gb379))) (fun _ hk => hk.2) (.bool (true))) (fun _ hk => hk.2) (.bool ((rd_T36 t374 x49_2).f1))) (fun _ hk => hk.2) (.int .i64 ((rd_T36 t374 x49_2).f2))) (fun _ hk => hk.2) (.bool ((rd_T36 t374 x49_2).f3))) (fun _ hk => hk.1.2)⟩, ⟨by (with_reducible repeat (first | apply Kd.R_alloc | apply Kd.R_drewN | apply Kd.R_drew)); exact Kd.R_mono (Kd.R_far (p := ⟨gb379, 3, none⟩) (Kd.R_far (p := ⟨gb379, 2, none⟩) (Kd.R_far (p := ⟨gb379, 1, none⟩) (Kd.R_far (p := ⟨gb379, 0, none⟩) (Kd.R_mono HO_47.out (fun k_ hk => (⟨hk, hk.2⟩ : _ ∧ k_ ≠ gb379))) (fun _ hk => hk.2) (.bool (true))) (fun _ hk => hk.2) (.bool ((rd_T36 t374 x49_2).f1))) (fun _ hk => hk.2) (.int .i64 ((rd_T36 t374 x49_2).f2))) (fun _ hk => hk.2) (.bool ((rd_T36 t374 x49_2).f3))) (fun _ hk => hk.1.2)⟩, ⟨by (with_reducible repeat (first | refine blk_drewN ?_ _ | refine blk_drew ?_ | refine blk_alloc ?_ _)); refine blk_far ?_ NB372_379.out _; (with_reducible repeat (first | refine blk_drewN ?_ _ | refine blk_drew ?_ | refine blk_alloc ?_ _)); refine blk_far ?_ NB372_379.out _; (with_reducible repeat (first | refine blk_drewN ?_ _ | refine blk_drew ?_ | refine blk_alloc ?_ _)); refine blk_far ?_ NB372_379.out _; (with_reducible repeat (first | refine blk_drewN ?_ _ | refine blk_drew ?_ | refine blk_alloc ?_ _)); refine blk_far ?_ NB372_379.out _; (with_reducible repeat (first | refine blk_drewN ?_ _ | refine blk_drew ?_ | refine blk_alloc ?_ _)); exact BK372.out⟩, ⟨by rw [← Nbq23.out]; (with_reducible repeat (first | refine blk_drewN ?_ _ | refine blk_drew ?_ | refine blk_alloc ?_ _)); refine blk_put (cs := #[.bool (true), .bool ((rd_T36 t374 x49_2).f1), .int .i64 ((rd_T36 t374 x49_2).f2), .bool false]) ?_ 3 _ rfl; (with_reducible repeat (first | refine blk_drewN ?_ _ | refine blk_drew ?_ | refine blk_alloc ?_ _)); refine blk_put (cs := #[.bool (true), .bool ((rd_T36 t374 x49_2).f1), .int .i64 0, .bool false]) ?_ 2 _ rfl; (with_reducible repeat (first | refine blk_drewN ?_ _ | refine blk_drew ?_ | refine blk_alloc ?_ _)); refine blk_put (cs := #[.bool (true), .bool false, .int .i64 0, .bool false]) ?_ 1 _ rfl; (with_reducible repeat (first | refine blk_drewN ?_ _ | refine blk_drew ?_ | refine blk_alloc ?_ _)); refine blk_put (cs := #[.bool false, .bool false, .int .i64 0, .bool false]) ?_ 0 _ rfl; (with_reducible repeat (first | refine blk_drewN ?_ _ | refine blk_drew ?_ | refine blk_alloc ?_ _)); exact BK379.out⟩, ⟨by repeat (first | (with_reducible first | exact HB.out | apply below_alloc | apply pw_below_drewN | apply below_drew1 | refine below_set ?_ GE372.out | refine below_set ?_ GE379.out) | exact HB.out)⟩⟩
                      · replace c24 := Bool.eq_false_iff.mpr c24
                        subst c24
                        have H1 : (substationlaw29_BreakerClosesAfter.j2 k2 a0_1 l0_3 l0_4 t374 x49_2 t374 (t374.length : Int) x49_2 true) = some r := by rw [if_neg (show ¬ (false = true) by decide)] at H; exact H
                        clear H
                        have H := H1
                        clear H1
                        have H' := Aside0.mk H
                        clear H
                        have hnb33 := NB379_372.out
                        have hnc33 := NB372_379.out
                        have hcz34_0 : w20.cell? ⟨gb379, 0, none⟩ = some (.bool false) := (blk_cell BK379.out 0).trans rfl
                        have hcz34_1 : w20.cell? ⟨gb379, 1, none⟩ = some (.bool false) := (blk_cell BK379.out 1).trans rfl
                        have hcz34_2 : w20.cell? ⟨gb379, 2, none⟩ = some (.int .i64 0) := (blk_cell BK379.out 2).trans rfl
                        have hcz34_3 : w20.cell? ⟨gb379, 3, none⟩ = some (.bool false) := (blk_cell BK379.out 3).trans rfl
                        have hfz34_0 := blk_frozen BK379.out 0
                        have hfz34_1 := blk_frozen BK379.out 1
                        have hfz34_2 := blk_frozen BK379.out 2
                        have hfz34_3 := blk_frozen BK379.out 3
                        go_wp2
                        repeat (go_quiet (fail); try go_wp2)
                        go_meet
                        case rel => exact ⟨_, (true), (by first | rfl | (simp; done) | (simp [*]; done)), H', ⟨by have := HJ1.out; have := HK2.out; first | omega | exact Nat.le_refl _⟩, ⟨by (with_reducible repeat (first | apply Kd.R_alloc | apply Kd.R_drewN | apply Kd.R_drew)); exact Kd.R_mono (Kd.R_far (p := ⟨gb379, 3, none⟩) (Kd.R_far (p := ⟨gb379, 2, none⟩) (Kd.R_far (p := ⟨gb379, 1, none⟩) (Kd.R_far (p := ⟨gb379, 0, none⟩) (Kd.R_mono HO_6.out (fun k_ hk => (⟨hk, hk.2⟩ : _ ∧ k_ ≠ gb379))) (fun _ hk => hk.2) (.bool (false))) (fun _ hk => hk.2) (.bool ((rd_T36 t374 x49_2).f1))) (fun _ hk => hk.2) (.int .i64 ((rd_T36 t374 x49_2).f2))) (fun _ hk => hk.2) (.bool ((rd_T36 t374 x49_2).f3))) (fun _ hk => hk.1.2)⟩, ⟨by (with_reducible repeat (first | apply Kd.R_alloc | apply Kd.R_drewN | apply Kd.R_drew)); exact Kd.R_mono (Kd.R_far (p := ⟨gb379, 3, none⟩) (Kd.R_far (p := ⟨gb379, 2, none⟩) (Kd.R_far (p := ⟨gb379, 1, none⟩) (Kd.R_far (p := ⟨gb379, 0, none⟩) (Kd.R_mono HO_47.out (fun k_ hk => (⟨hk, hk.2⟩ : _ ∧ k_ ≠ gb379))) (fun _ hk => hk.2) (.bool (false))) (fun _ hk => hk.2) (.bool ((rd_T36 t374 x49_2).f1))) (fun _ hk => hk.2) (.int .i64 ((rd_T36 t374 x49_2).f2))) (fun _ hk => hk.2) (.bool ((rd_T36 t374 x49_2).f3))) (fun _ hk => hk.1.2)⟩, ⟨by (with_reducible repeat (first | refine blk_drewN ?_ _ | refine blk_drew ?_ | refine blk_alloc ?_ _)); refine blk_far ?_ NB372_379.out _; (with_reducible repeat (first | refine blk_drewN ?_ _ | refine blk_drew ?_ | refine blk_alloc ?_ _)); refine blk_far ?_ NB372_379.out _; (with_reducible repeat (first | refine blk_drewN ?_ _ | refine blk_drew ?_ | refine blk_alloc ?_ _)); refine blk_far ?_ NB372_379.out _; (with_reducible repeat (first | refine blk_drewN ?_ _ | refine blk_drew ?_ | refine blk_alloc ?_ _)); refine blk_far ?_ NB372_379.out _; (with_reducible repeat (first | refine blk_drewN ?_ _ | refine blk_drew ?_ | refine blk_alloc ?_ _)); exact BK372.out⟩, ⟨by rw [← Nbq23.out]; (with_reducible repeat (first | refine blk_drewN ?_ _ | refine blk_drew ?_ | refine blk_alloc ?_ _)); refine blk_put (cs := #[.bool (false), .bool ((rd_T36 t374 x49_2).f1), .int .i64 ((rd_T36 t374 x49_2).f2), .bool false]) ?_ 3 _ rfl; (with_reducible repeat (first | refine blk_drewN ?_ _ | refine blk_drew ?_ | refine blk_alloc ?_ _)); refine blk_put (cs := #[.bool (false), .bool ((rd_T36 t374 x49_2).f1), .int .i64 0, .bool false]) ?_ 2 _ rfl; (with_reducible repeat (first | refine blk_drewN ?_ _ | refine blk_drew ?_ | refine blk_alloc ?_ _)); refine blk_put (cs := #[.bool (false), .bool false, .int .i64 0, .bool false]) ?_ 1 _ rfl; (with_reducible repeat (first | refine blk_drewN ?_ _ | refine blk_drew ?_ | refine blk_alloc ?_ _)); refine blk_put (cs := #[.bool false, .bool false, .int .i64 0, .bool false]) ?_ 0 _ rfl; (with_reducible repeat (first | refine blk_drewN ?_ _ | refine blk_drew ?_ | refine blk_alloc ?_ _)); exact BK379.out⟩, ⟨by repeat (first | (with_reducible first | exact HB.out | apply below_alloc | apply pw_below_drewN | apply below_drew1 | refine below_set ?_ GE372.out | refine below_set ?_ GE379.out) | exact HB.out)⟩⟩
                    case rest =>
                      clear HC19
                      try clear c1
                      try clear c2
                      try clear p2
                      try clear q2
                      try clear c3
                      try clear p3
                      try clear q3
                      try clear hx3
                      try clear c5
                      try clear c5b0
                      try clear c6
                      try clear c6b0
                      try clear p6
                      try clear c7
                      try clear c7b0
                      try clear c7b1
                      try clear c7b2
                      try clear c8
                      try clear c12
                      try clear c12b0
                      try clear c12b1
                      try clear c12b2
                      try clear c13
                      try clear c16
                      try clear c16b0
                      try clear c17
                      try clear c17b0
                      try clear c18
                      try clear c18b0
                      try clear c21
                      try clear q23
                      try clear c24
                      try clear c25
                      try clear c25b0
                      try clear c27
                      try clear c27b0
                      try clear c28
                      try clear c28b0
                      try clear c29
                      try clear c31
                      try clear c33
                      try clear hcz13_0
                      try clear hcz13_1
                      try clear hcz13_2
                      try clear hcz13_3
                      try clear hcz13_4
                      try clear hcz22_0
                      try clear hcz22_1
                      try clear hcz22_2
                      try clear hcz22_3
                      try clear hcz30_0
                      try clear hcz30_1
                      try clear hcz30_2
                      try clear hcz30_3
                      try clear hcz32_0
                      try clear hcz32_1
                      try clear hcz32_2
                      try clear hcz32_3
                      try clear hcz34_0
                      try clear hcz34_1
                      try clear hcz34_2
                      try clear hcz34_3
                      try clear hcz4_0
                      try clear hcz4_1
                      try clear hcz4_2
                      try clear hcz4_3
                      try clear hcz4_4
                      try clear hfz13_0
                      try clear hfz13_1
                      try clear hfz13_2
                      try clear hfz13_3
                      try clear hfz13_4
                      try clear hfz22_0
                      try clear hfz22_1
                      try clear hfz22_2
                      try clear hfz22_3
                      try clear hfz30_0
                      try clear hfz30_1
                      try clear hfz30_2
                      try clear hfz30_3
                      try clear hfz32_0
                      try clear hfz32_1
                      try clear hfz32_2
                      try clear hfz32_3
                      try clear hfz34_0
                      try clear hfz34_1
                      try clear hfz34_2
                      try clear hfz34_3
                      try clear hfz4_0
                      try clear hfz4_1
                      try clear hfz4_2
                      try clear hfz4_3
                      try clear hfz4_4
                      try clear hx378_0
                      try clear hx378_1
                      try clear hx378_2
                      try clear hx378_3
                      try clear hx380_0
                      try clear hx380_1
                      try clear hx380_2
                      try clear hx380_3
                      try clear p2
                      try clear p378
                      try clear p380
                      try clear q378
                      try clear q380
                      obtain ⟨kq, x68_18, rfl, HA, HJ18, HO_6, HO_47, BK372, BK379, HB⟩ := hcut
                      cases kq with
                      | zero => exact absurd HA.out (by simp [substationlaw29_BreakerClosesAfter.j2])
                      | succ kj18 =>
                        have H := HA.out
                        clear HA
                        simp only [substationlaw29_BreakerClosesAfter.j2] at H
                        by_cases c35 : x68_18 = true
                        · subst c35
                          have H1 : (substationlaw29_BreakerClosesAfter.l0 kj18 a0_1 l0_3 l0_4 t374 t374 (t374.length : Int) (wrap64 (x49_2 + 1))) = some r := by rw [if_pos rfl] at H; exact H
                          clear H
                          have H := H1
                          clear H1
                          have H' := Aside0.mk H
                          clear H
                          go_wp2
                          repeat (go_quiet (fail); try go_wp2)
                          go_roundg kj18
                          case measure => have := HJ1.out; have := HK2.out; have := HJ18.out; omega
                          case rel => exact ⟨(wrap64 (x49_2 + 1)), (by first | rfl | (simp; done) | (simp [*]; done)), H', ⟨by have := HJ1.out; have := HK2.out; have := HJ18.out; omega⟩, ⟨by (with_reducible repeat (first | apply Kd.R_alloc | apply Kd.R_drewN | apply Kd.R_drew)); exact Kd.R_mono HO_6.out (fun _ hk => trivial)⟩, ⟨by (with_reducible repeat (first | apply Kd.R_alloc | apply Kd.R_drewN | apply Kd.R_drew)); exact Kd.R_mono HO_47.out (fun _ hk => trivial)⟩, ⟨by (with_reducible repeat (first | refine blk_drewN ?_ _ | refine blk_drew ?_ | refine blk_alloc ?_ _)); exact BK372.out⟩, ⟨by repeat (first | (with_reducible first | exact HB.out | apply below_alloc | apply pw_below_drewN | apply below_drew1 | refine below_set ?_ GE372.out | refine below_set ?_ GE379.out) | exact HB.out)⟩⟩
                        · replace c35 := Bool.eq_false_iff.mpr c35
                          subst c35
                          have H1 : (if (wrap64 (x49_2 - a0_1)) < 0 then (substationlaw29_BreakerClosesAfter.j3 kj18 a0_1 l0_3 l0_4 t374 x49_2 (wrap64 (x49_2 - a0_1)) t374 (t374.length : Int) x49_2 true) else (if 0 ≤ (wrap64 (x49_2 - a0_1)) then (if (wrap64 (x49_2 - a0_1)) < (l0_4.length : Int) then (substationlaw29_BreakerClosesAfter.j3 kj18 a0_1 l0_3 l0_4 t374 x49_2 (wrap64 (x49_2 - a0_1)) t374 (t374.length : Int) x49_2 (!(rdOf false l0_4 (wrap64 (x49_2 - a0_1))))) else (none)) else (none))) = some r := by rw [if_neg (show ¬ (false = true) by decide)] at H; exact H
                          clear H
                          have H := H1
                          clear H1
                          have HC36 := Aside0.mk H
                          clear H
                          go_upto_region 12 with (fail)
                          repeat (go_quiet (fail); go_upto_region 12 with (fail))
                          go_cut [80] (fun v80 wc => ∃ (kq : Nat) (x80_35 : Bool), v80 = .bool x80_35 ∧ Aside0 (substationlaw29_BreakerClosesAfter.j3 kq a0_1 l0_3 l0_4 t374 x49_2 (wrap64 (x49_2 - a0_1)) t374 (t374.length : Int) x49_2 x80_35 = some r) ∧ Aside0 (kq ≤ kj18) ∧ Aside0 (Kd.R k36 36 wc w.heap.size (fun k_ => k_ ≠ gb379) (.slice (some ad378) t374.length co15) t374) ∧ Aside0 (Kd.R k36 36 wc w.heap.size (fun k_ => k_ ≠ gb379) (.slice (some ad378) t374.length co15) t374) ∧ Aside0 (wc.heap[gb372]? = some (.cells #[.bool a0_0, .int .i64 a0_1, .bool a0_2, (.slice A0_3 l0_3.length c0_3), (.slice A0_4 l0_4.length c0_4)] 48 (0, 0))) ∧ Aside0 (wc.heap[gb379]? = some (.cells #[.bool ((rd_T36 t374 x49_2).f0), .bool ((rd_T36 t374 x49_2).f1), .int .i64 ((rd_T36 t374 x49_2).f2), .bool ((rd_T36 t374 x49_2).f3)] 36 (0, 0))) ∧ Aside0 (Below w.heap.size w wc))
                          case first =>
                            have H := HC36.out
                            clear HC36
                            by_cases c37 : (wrap64 (x49_2 - a0_1)) < 0
                            · rw [if_pos c37] at H
                              have c37b0 : decide ((wrap64 (x49_2 - a0_1)) < 0) = true := decide_eq_true c37
                              clear c37
                              (first | rw [c37b0] | (simp only [i64_w, i32_w]; rw [c37b0]) | skip)
                              have H' := Aside0.mk H
                              clear H
                              go_wp2
                              repeat (go_quiet (fail); try go_wp2)
                              go_meet
                              case rel => exact ⟨_, (true), (by first | rfl | (simp; done) | (simp [*]; done)), H', ⟨by have := HJ1.out; have := HK2.out; have := HJ18.out; first | omega | exact Nat.le_refl _⟩, ⟨by (with_reducible repeat (first | apply Kd.R_alloc | apply Kd.R_drewN | apply Kd.R_drew)); exact HO_6.out⟩, ⟨by (with_reducible repeat (first | apply Kd.R_alloc | apply Kd.R_drewN | apply Kd.R_drew)); exact HO_47.out⟩, ⟨by (with_reducible repeat (first | refine blk_drewN ?_ _ | refine blk_drew ?_ | refine blk_alloc ?_ _)); exact BK372.out⟩, ⟨by (with_reducible repeat (first | refine blk_drewN ?_ _ | refine blk_drew ?_ | refine blk_alloc ?_ _)); exact BK379.out⟩, ⟨by repeat (first | (with_reducible first | exact HB.out | apply below_alloc | apply pw_below_drewN | apply below_drew1 | refine below_set ?_ GE372.out | refine below_set ?_ GE379.out) | exact HB.out)⟩⟩
                            · rw [if_neg c37] at H
                              have c37b0 : decide ((wrap64 (x49_2 - a0_1)) < 0) = false := decide_eq_false c37
                              clear c37
                              (first | rw [c37b0] | (simp only [i64_w, i32_w]; rw [c37b0]) | skip)
                              obtain ⟨ji38, hji38⟩ : ∃ j_ : Int, (wrap64 (x49_2 - a0_1)) = j_ := ⟨_, rfl⟩
                              replace H : (if 0 ≤ (ji38) then (if (ji38) < (l0_4.length : Int) then (substationlaw29_BreakerClosesAfter.j3 kj18 a0_1 l0_3 l0_4 t374 x49_2 ji38 t374 (t374.length : Int) x49_2 (!(rdOf false l0_4 (ji38)))) else (none)) else (none)) = some r := by first | (rw [hji38] at H; exact H) | (simp only [hji38] at H ⊢; exact H)
                              (try rw [hji38] at c37b0)
                              have hji38w : (IntKind.i64.wrap (x49_2 - a0_1)) = ji38 := (i64_w _).trans hji38
                              by_cases c39 : 0 ≤ (ji38)
                              · rw [if_pos c39] at H
                                have c39b0 : decide (0 ≤ (ji38)) = true := decide_eq_true c39
                                clear c39
                                by_cases c40 : (ji38) < (l0_4.length : Int)
                                · rw [if_pos c40] at H
                                  have c40b0 : decide ((ji38) < (l0_4.length : Int)) = true := decide_eq_true c40
                                  clear c40
                                  have H' := Aside0.mk H
                                  clear H
                                  have p381 : 0 ≤ ((ji38) : Int) := of_decide_eq_true (by first | (with_reducible assumption) | assumption)
                                  have q381 : (ji38) < (l0_4.length : Int) := of_decide_eq_true (by first | (with_reducible assumption) | assumption)
                                  obtain ⟨ad381, e381, hx381_0⟩ := Kd.at_bool HR0_4.out (ji38) p381 q381
                                  cases e381
                                  replace hx381_0 := (HB.out.cell (World.block_lt_of_cell? w _ hx381_0)).trans hx381_0
                                  replace p381 := eq_true p381
                                  replace q381 := eq_true q381
                                  go_wp2
                                  repeat (go_quiet (fail); try go_wp2)
                                  rw [← hji38]
                                  go_meet
                                  case rel => exact ⟨_, (!(rdOf false l0_4 (ji38))), (by first | rfl | (simp; done) | (simp only [← hji38] <;> (first | rfl | simp)) | (simp [*]; done)), ⟨by rw [hji38]; exact H'.out⟩, ⟨by have := HJ1.out; have := HK2.out; have := HJ18.out; first | omega | exact Nat.le_refl _⟩, ⟨by (with_reducible repeat (first | apply Kd.R_alloc | apply Kd.R_drewN | apply Kd.R_drew)); exact HO_6.out⟩, ⟨by (with_reducible repeat (first | apply Kd.R_alloc | apply Kd.R_drewN | apply Kd.R_drew)); exact HO_47.out⟩, ⟨by (with_reducible repeat (first | refine blk_drewN ?_ _ | refine blk_drew ?_ | refine blk_alloc ?_ _)); exact BK372.out⟩, ⟨by (with_reducible repeat (first | refine blk_drewN ?_ _ | refine blk_drew ?_ | refine blk_alloc ?_ _)); exact BK379.out⟩, ⟨by repeat (first | (with_reducible first | exact HB.out | apply below_alloc | apply pw_below_drewN | apply below_drew1 | refine below_set ?_ GE372.out | refine below_set ?_ GE379.out) | exact HB.out)⟩⟩
                                · rw [if_neg c40] at H
                                  exact absurd H (by simp)
                              · rw [if_neg c39] at H
                                exact absurd H (by simp)
                          case rest =>
                            clear HC36
                            try clear c1
                            try clear c2
                            try clear p2
                            try clear q2
                            try clear c3
                            try clear p3
                            try clear q3
                            try clear hx3
                            try clear c4
                            try clear c5
                            try clear c5b0
                            try clear c6
                            try clear c6b0
                            try clear p6
                            try clear c7
                            try clear c7b0
                            try clear c7b1
                            try clear c7b2
                            try clear c8
                            try clear c12
                            try clear c12b0
                            try clear c12b1
                            try clear c12b2
                            try clear c13
                            try clear c16
                            try clear c16b0
                            try clear c17
                            try clear c17b0
                            try clear c18
                            try clear c18b0
                            try clear c21
                            try clear q23
                            try clear c24
                            try clear c25
                            try clear c25b0
                            try clear c27
                            try clear c27b0
                            try clear c28
                            try clear c28b0
                            try clear c29
                            try clear c31
                            try clear c33
                            try clear c35
                            try clear c37
                            try clear c37b0
                            try clear p37
                            try clear q37
                            try clear hx37
                            try clear p38
                            try clear q38
                            try clear hx38
                            try clear c39
                            try clear c39b0
                            try clear c40
                            try clear c40b0
                            try clear hcz13_0
                            try clear hcz13_1
                            try clear hcz13_2
                            try clear hcz13_3
                            try clear hcz13_4
                            try clear hcz22_0
                            try clear hcz22_1
                            try clear hcz22_2
                            try clear hcz22_3
                            try clear hcz30_0
                            try clear hcz30_1
                            try clear hcz30_2
                            try clear hcz30_3
                            try clear hcz32_0
                            try clear hcz32_1
                            try clear hcz32_2
                            try clear hcz32_3
                            try clear hcz34_0
                            try clear hcz34_1
                            try clear hcz34_2
                            try clear hcz34_3
                            try clear hcz4_0
                            try clear hcz4_1
                            try clear hcz4_2
                            try clear hcz4_3
                            try clear hcz4_4
                            try clear hfz13_0
                            try clear hfz13_1
                            try clear hfz13_2
                            try clear hfz13_3
                            try clear hfz13_4
                            try clear hfz22_0
                            try clear hfz22_1
                            try clear hfz22_2
                            try clear hfz22_3
                            try clear hfz30_0
                            try clear hfz30_1
                            try clear hfz30_2
                            try clear hfz30_3
                            try clear hfz32_0
                            try clear hfz32_1
                            try clear hfz32_2
                            try clear hfz32_3
                            try clear hfz34_0
                            try clear hfz34_1
                            try clear hfz34_2
                            try clear hfz34_3
                            try clear hfz4_0
                            try clear hfz4_1
                            try clear hfz4_2
                            try clear hfz4_3
                            try clear hfz4_4
                            try clear hx378_0
                            try clear hx378_1
                            try clear hx378_2
                            try clear hx378_3
                            try clear hx380_0
                            try clear hx380_1
                            try clear hx380_2
                            try clear hx380_3
                            try clear hx381_0
                            try clear p2
                            try clear p3
                            try clear p378
                            try clear p380
                            try clear p381
                            try clear p6
                            try clear q2
                            try clear q23
                            try clear q3
                            try clear q378
                            try clear q380
                            try clear q381
                            obtain ⟨kq, x80_35, rfl, HA, HJ35, HO_6, HO_47, BK372, BK379, HB⟩ := hcut
                            cases kq with
                            | zero => exact absurd HA.out (by simp [substationlaw29_BreakerClosesAfter.j3])
                            | succ kj35 =>
                              have H := HA.out
                              clear HA
                              simp only [substationlaw29_BreakerClosesAfter.j3] at H
                              by_cases c41 : x80_35 = true
                              · subst c41
                                have H1 : (some false) = some r := by rw [if_pos rfl] at H; exact H
                                clear H
                                have H := H1
                                clear H1
                                obtain rfl := Option.some.inj H
                                go_wp2
                                repeat (go_quiet (fail); try go_wp2)
                                go_ret
                                exact ⟨by first | rfl | (simp [errW_none, errW_some] <;> rfl) | (simp [*, errW_none, errW_some] <;> rfl), by repeat (first | (with_reducible first | exact HB.out | apply below_alloc | apply pw_below_drewN | apply below_drew1 | refine below_set ?_ GE372.out | refine below_set ?_ GE379.out) | exact HB.out)⟩
                              · replace c41 := Bool.eq_false_iff.mpr c41
                                subst c41
                                have H1 : (substationlaw29_BreakerClosesAfter.l1 kj35 a0_1 l0_3 l0_4 t374 x49_2 (wrap64 (x49_2 - a0_1)) t374 (t374.length : Int) x49_2) = some r := by rw [if_neg (show ¬ (false = true) by decide)] at H; exact H
                                clear H
                                have H := H1
                                clear H1
                                have H' := Aside0.mk H
                                clear H
                                go_wp2
                                repeat (go_quiet (fail); try go_wp2)
                                go_loopg [10] kj35 (fun kq v10 w' => ∃ (x10_5 : Int), v10 = .int .i64 x10_5 ∧ Aside0 (substationlaw29_BreakerClosesAfter.l1 kq a0_1 l0_3 l0_4 t374 x49_2 x10_5 t374 (t374.length : Int) x49_2 = some r) ∧ Aside0 (kq ≤ kj35) ∧ Aside0 (Kd.R k36 36 w' w.heap.size (fun k_ => k_ ≠ gb379) (.slice (some ad378) t374.length co15) t374) ∧ Aside0 (Kd.R k36 36 w' w.heap.size (fun k_ => k_ ≠ gb379) (.slice (some ad378) t374.length co15) t374) ∧ Aside0 (w'.heap[gb372]? = some (.cells #[.bool a0_0, .int .i64 a0_1, .bool a0_2, (.slice A0_3 l0_3.length c0_3), (.slice A0_4 l0_4.length c0_4)] 48 (0, 0))) ∧ Aside0 (w'.heap[gb379]? = some (.cells #[.bool ((rd_T36 t374 x49_2).f0), .bool ((rd_T36 t374 x49_2).f1), .int .i64 ((rd_T36 t374 x49_2).f2), .bool ((rd_T36 t374 x49_2).f3)] 36 (0, 0))) ∧ Aside0 (Below w.heap.size w w'))
                                case atStart => exact ⟨((wrap64 (x49_2 - a0_1))), (by first | rfl | (simp; done) | (simp [*]; done)), H', ⟨Nat.le_refl _⟩, ⟨by (with_reducible repeat (first | apply Kd.R_alloc | apply Kd.R_drewN | apply Kd.R_drew)); exact HO_6.out⟩, ⟨by (with_reducible repeat (first | apply Kd.R_alloc | apply Kd.R_drewN | apply Kd.R_drew)); exact HO_47.out⟩, ⟨by (with_reducible repeat (first | refine blk_drewN ?_ _ | refine blk_drew ?_ | refine blk_alloc ?_ _)); exact BK372.out⟩, ⟨by (with_reducible repeat (first | refine blk_drewN ?_ _ | refine blk_drew ?_ | refine blk_alloc ?_ _)); exact BK379.out⟩, ⟨by repeat (first | (with_reducible first | exact HB.out | apply below_alloc | apply pw_below_drewN | apply below_drew1 | refine below_set ?_ GE372.out | refine below_set ?_ GE379.out) | exact HB.out)⟩⟩
                                case round =>
                                  clear H'
                                  try clear c1
                                  try clear c2
                                  try clear p2
                                  try clear q2
                                  try clear c3
                                  try clear p3
                                  try clear q3
                                  try clear hx3
                                  try clear c4
                                  try clear c5
                                  try clear c5b0
                                  try clear c6
                                  try clear c6b0
                                  try clear p6
                                  try clear c7
                                  try clear c7b0
                                  try clear c7b1
                                  try clear c7b2
                                  try clear c8
                                  try clear c12
                                  try clear c12b0
                                  try clear c12b1
                                  try clear c12b2
                                  try clear c13
                                  try clear c16
                                  try clear c16b0
                                  try clear c17
                                  try clear c17b0
                                  try clear c18
                                  try clear c18b0
                                  try clear c21
                                  try clear q23
                                  try clear c24
                                  try clear c25
                                  try clear c25b0
                                  try clear c27
                                  try clear c27b0
                                  try clear c28
                                  try clear c28b0
                                  try clear c29
                                  try clear c31
                                  try clear c33
                                  try clear c35
                                  try clear c37
                                  try clear c37b0
                                  try clear p37
                                  try clear q37
                                  try clear hx37
                                  try clear p38
                                  try clear q38
                                  try clear hx38
                                  try clear c39
                                  try clear c39b0
                                  try clear c40
                                  try clear c40b0
                                  try clear c41
                                  try clear hcz13_0
                                  try clear hcz13_1
                                  try clear hcz13_2
                                  try clear hcz13_3
                                  try clear hcz13_4
                                  try clear hcz22_0
                                  try clear hcz22_1
                                  try clear hcz22_2
                                  try clear hcz22_3
                                  try clear hcz30_0
                                  try clear hcz30_1
                                  try clear hcz30_2
                                  try clear hcz30_3
                                  try clear hcz32_0
                                  try clear hcz32_1
                                  try clear hcz32_2
                                  try clear hcz32_3
                                  try clear hcz34_0
                                  try clear hcz34_1
                                  try clear hcz34_2
                                  try clear hcz34_3
                                  try clear hcz4_0
                                  try clear hcz4_1
                                  try clear hcz4_2
                                  try clear hcz4_3
                                  try clear hcz4_4
                                  try clear hfz13_0
                                  try clear hfz13_1
                                  try clear hfz13_2
                                  try clear hfz13_3
                                  try clear hfz13_4
                                  try clear hfz22_0
                                  try clear hfz22_1
                                  try clear hfz22_2
                                  try clear hfz22_3
                                  try clear hfz30_0
                                  try clear hfz30_1
                                  try clear hfz30_2
                                  try clear hfz30_3
                                  try clear hfz32_0
                                  try clear hfz32_1
                                  try clear hfz32_2
                                  try clear hfz32_3
                                  try clear hfz34_0
                                  try clear hfz34_1
                                  try clear hfz34_2
                                  try clear hfz34_3
                                  try clear hfz4_0
                                  try clear hfz4_1
                                  try clear hfz4_2
                                  try clear hfz4_3
                                  try clear hfz4_4
                                  try clear hx378_0
                                  try clear hx378_1
                                  try clear hx378_2
                                  try clear hx378_3
                                  try clear hx380_0
                                  try clear hx380_1
                                  try clear hx380_2
                                  try clear hx380_3
                                  try clear hx381_0
                                  try clear p2
                                  try clear p3
                                  try clear p37
                                  try clear p378
                                  try clear p38
                                  try clear p380
                                  try clear p381
                                  try clear p6
                                  try clear q2
                                  try clear q23
                                  try clear q3
                                  try clear q37
                                  try clear q378
                                  try clear q38
                                  try clear q380
                                  try clear q381
                                  obtain ⟨x10_5, rfl, HA, HK5, HO_6, HO_47, BK372, BK379, HB⟩ := hrel
                                  cases gk with
                                  | zero => exact absurd HA.out (by simp [substationlaw29_BreakerClosesAfter.l1])
                                  | succ k5 =>
                                    have H := HA.out
                                    clear HA
                                    simp only [substationlaw29_BreakerClosesAfter.l1] at H
                                    by_cases c42 : x10_5 < x49_2
                                    · rw [if_pos c42] at H
                                      have c42b0 : decide (x10_5 < x49_2) = true := decide_eq_true c42
                                      clear c42
                                      by_cases c43 : 0 ≤ x10_5
                                      · rw [if_pos c43] at H
                                        have c43b0 : decide (0 ≤ x10_5) = true := decide_eq_true c43
                                        clear c43
                                        by_cases c44 : x10_5 < (l0_3.length : Int)
                                        · rw [if_pos c44] at H
                                          have c44b0 : decide (x10_5 < (l0_3.length : Int)) = true := decide_eq_true c44
                                          clear c44
                                          obtain ⟨bq45, hbq45⟩ : ∃ b_ : Bool, b_ = (rdOf false l0_3 x10_5) := ⟨_, rfl⟩
                                          replace H : (if bq45 = true then (some false) else (substationlaw29_BreakerClosesAfter.l1 k5 a0_1 l0_3 l0_4 t374 x49_2 (wrap64 (x10_5 + 1)) t374 (t374.length : Int) x49_2)) = some r := by rw [← hbq45] at H; exact H
                                          have Nbq45 := Aside0.mk hbq45
                                          clear hbq45
                                          by_cases c46 : bq45 = true
                                          · subst c46
                                            have H1 : (some false) = some r := by rw [if_pos rfl] at H; exact H
                                            clear H
                                            have H := H1
                                            clear H1
                                            obtain rfl := Option.some.inj H
                                            have p382 : 0 ≤ (x10_5 : Int) := of_decide_eq_true (by first | (with_reducible assumption) | assumption)
                                            have q382 : x10_5 < (l0_3.length : Int) := of_decide_eq_true (by first | (with_reducible assumption) | assumption)
                                            obtain ⟨ad382, e382, hx382_0⟩ := Kd.at_bool HR0_3.out x10_5 p382 q382
                                            (try rw [← Nbq45.out] at hx382_0)
                                            cases e382
                                            replace hx382_0 := (HB.out.cell (World.block_lt_of_cell? w _ hx382_0)).trans hx382_0
                                            replace p382 := eq_true p382
                                            replace q382 := eq_true q382
                                            go_wp2
                                            repeat (go_quiet (fail); try go_wp2)
                                            go_ret
                                            exact ⟨by first | rfl | (simp [errW_none, errW_some] <;> rfl) | (simp [*, errW_none, errW_some] <;> rfl), by repeat (first | (with_reducible first | exact HB.out | apply below_alloc | apply pw_below_drewN | apply below_drew1 | refine below_set ?_ GE372.out | refine below_set ?_ GE379.out) | exact HB.out)⟩
                                          · replace c46 := Bool.eq_false_iff.mpr c46
                                            subst c46
                                            have H1 : (substationlaw29_BreakerClosesAfter.l1 k5 a0_1 l0_3 l0_4 t374 x49_2 (wrap64 (x10_5 + 1)) t374 (t374.length : Int) x49_2) = some r := by rw [if_neg (show ¬ (false = true) by decide)] at H; exact H
                                            clear H
                                            have H := H1
                                            clear H1
                                            have H' := Aside0.mk H
                                            clear H
                                            have p382 : 0 ≤ (x10_5 : Int) := of_decide_eq_true (by first | (with_reducible assumption) | assumption)
                                            have q382 : x10_5 < (l0_3.length : Int) := of_decide_eq_true (by first | (with_reducible assumption) | assumption)
                                            obtain ⟨ad382, e382, hx382_0⟩ := Kd.at_bool HR0_3.out x10_5 p382 q382
                                            (try rw [← Nbq45.out] at hx382_0)
                                            cases e382
                                            replace hx382_0 := (HB.out.cell (World.block_lt_of_cell? w _ hx382_0)).trans hx382_0
                                            replace p382 := eq_true p382
                                            replace q382 := eq_true q382
                                            go_wp2
                                            repeat (go_quiet (fail); try go_wp2)
                                            go_roundg k5
                                            case measure => have := HJ1.out; have := HK2.out; have := HJ18.out; have := HJ35.out; have := HK5.out; omega
                                            case rel => exact ⟨(wrap64 (x10_5 + 1)), (by first | rfl | (simp; done) | (simp [*]; done)), H', ⟨by have := HJ1.out; have := HK2.out; have := HJ18.out; have := HJ35.out; have := HK5.out; omega⟩, ⟨by (with_reducible repeat (first | apply Kd.R_alloc | apply Kd.R_drewN | apply Kd.R_drew)); exact HO_6.out⟩, ⟨by (with_reducible repeat (first | apply Kd.R_alloc | apply Kd.R_drewN | apply Kd.R_drew)); exact HO_47.out⟩, ⟨by (with_reducible repeat (first | refine blk_drewN ?_ _ | refine blk_drew ?_ | refine blk_alloc ?_ _)); exact BK372.out⟩, ⟨by (with_reducible repeat (first | refine blk_drewN ?_ _ | refine blk_drew ?_ | refine blk_alloc ?_ _)); exact BK379.out⟩, ⟨by repeat (first | (with_reducible first | exact HB.out | apply below_alloc | apply pw_below_drewN | apply below_drew1 | refine below_set ?_ GE372.out | refine below_set ?_ GE379.out) | exact HB.out)⟩⟩
                                        · rw [if_neg c44] at H
                                          exact absurd H (by simp)
                                      · rw [if_neg c43] at H
                                        exact absurd H (by simp)
                                    · rw [if_neg c42] at H
                                      have c42b0 : decide (x10_5 < x49_2) = false := decide_eq_false c42
                                      clear c42
                                      have H' := Aside0.mk H
                                      clear H
                                      go_wp2
                                      repeat (go_quiet (fail); try go_wp2)
                                      go_roundg k5
                                      case measure => have := HJ1.out; have := HK2.out; have := HJ18.out; have := HJ35.out; have := HK5.out; omega
                                      case rel => exact ⟨(wrap64 (x49_2 + 1)), (by first | rfl | (simp; done) | (simp [*]; done)), H', ⟨by have := HJ1.out; have := HK2.out; have := HJ18.out; have := HJ35.out; have := HK5.out; omega⟩, ⟨by (with_reducible repeat (first | apply Kd.R_alloc | apply Kd.R_drewN | apply Kd.R_drew)); exact Kd.R_mono HO_6.out (fun _ hk => trivial)⟩, ⟨by (with_reducible repeat (first | apply Kd.R_alloc | apply Kd.R_drewN | apply Kd.R_drew)); exact Kd.R_mono HO_47.out (fun _ hk => trivial)⟩, ⟨by (with_reducible repeat (first | refine blk_drewN ?_ _ | refine blk_drew ?_ | refine blk_alloc ?_ _)); exact BK372.out⟩, ⟨by repeat (first | (with_reducible first | exact HB.out | apply below_alloc | apply pw_below_drewN | apply below_drew1 | refine below_set ?_ GE372.out | refine below_set ?_ GE379.out) | exact HB.out)⟩⟩
                  · rw [if_neg c18] at H
                    exact absurd H (by simp)
                · rw [if_neg c17] at H
                  exact absurd H (by simp)
              · rw [if_neg c16] at H
                have c16b0 : decide (x49_2 < (t374.length : Int)) = false := decide_eq_false c16
                clear c16
                replace H := Option.bind_eq_some_iff.mp H
                obtain ⟨t377, A470, H⟩ := H
                replace H : (some t377) = some r := H
                have A47 := Aside0.mk A470
                clear A470
                obtain rfl := Option.some.inj H
                go_wp2_with (first | (go_at_call 22; (with_reducible refine (substationlaw29_known.calls k2  t377 _ A47.out).mono ?_); rintro e w48 ⟨rfl, hb⟩; have n0_ := Aside0.mk (Kd.R_below (by (with_reducible repeat (first | apply Kd.R_alloc | apply Kd.R_drewN | apply Kd.R_drew)); exact HO_6.out) hb); have n1_ := Aside0.mk (Kd.R_below (by (with_reducible repeat (first | apply Kd.R_alloc | apply Kd.R_drewN | apply Kd.R_drew)); exact HO_47.out) hb); have n2_ := Aside0.mk (blk_below (g := gb372) (o := .cells #[.bool a0_0, .int .i64 a0_1, .bool a0_2, .slice A0_3 l0_3.length c0_3, .slice A0_4 l0_4.length c0_4] 48 (0, 0)) (by (with_reducible repeat (first | refine blk_drewN ?_ _ | refine blk_drew ?_ | refine blk_alloc ?_ _)); exact BK372.out) hb); have n3_ := Aside0.mk (below_step (by repeat (first | (with_reducible first | exact HB.out | apply below_alloc | apply pw_below_drewN | apply below_drew1 | refine below_set ?_ GE372.out) | exact HB.out)) hb); clear HO_6; clear HO_47; clear BK372; clear HB; have HO_6 := n0_; have HO_47 := n1_; have BK372 := n2_; have HB := n3_; clear n0_ n1_ n2_ n3_; (try clear hb); (try clear hb2); (try clear hk); (try clear hi)))
                repeat (go_quiet (first | (go_at_call 22; (with_reducible refine (substationlaw29_known.calls k2  t377 _ A47.out).mono ?_); rintro e w48 ⟨rfl, hb⟩; have n0_ := Aside0.mk (Kd.R_below (by (with_reducible repeat (first | apply Kd.R_alloc | apply Kd.R_drewN | apply Kd.R_drew)); exact HO_6.out) hb); have n1_ := Aside0.mk (Kd.R_below (by (with_reducible repeat (first | apply Kd.R_alloc | apply Kd.R_drewN | apply Kd.R_drew)); exact HO_47.out) hb); have n2_ := Aside0.mk (blk_below (g := gb372) (o := .cells #[.bool a0_0, .int .i64 a0_1, .bool a0_2, .slice A0_3 l0_3.length c0_3, .slice A0_4 l0_4.length c0_4] 48 (0, 0)) (by (with_reducible repeat (first | refine blk_drewN ?_ _ | refine blk_drew ?_ | refine blk_alloc ?_ _)); exact BK372.out) hb); have n3_ := Aside0.mk (below_step (by repeat (first | (with_reducible first | exact HB.out | apply below_alloc | apply pw_below_drewN | apply below_drew1 | refine below_set ?_ GE372.out) | exact HB.out)) hb); clear HO_6; clear HO_47; clear BK372; clear HB; have HO_6 := n0_; have HO_47 := n1_; have BK372 := n2_; have HB := n3_; clear n0_ n1_ n2_ n3_; (try clear hb); (try clear hb2); (try clear hk); (try clear hi))); try go_wp2_with (first | (go_at_call 22; (with_reducible refine (substationlaw29_known.calls k2  t377 _ A47.out).mono ?_); rintro e w48 ⟨rfl, hb⟩; have n0_ := Aside0.mk (Kd.R_below (by (with_reducible repeat (first | apply Kd.R_alloc | apply Kd.R_drewN | apply Kd.R_drew)); exact HO_6.out) hb); have n1_ := Aside0.mk (Kd.R_below (by (with_reducible repeat (first | apply Kd.R_alloc | apply Kd.R_drewN | apply Kd.R_drew)); exact HO_47.out) hb); have n2_ := Aside0.mk (blk_below (g := gb372) (o := .cells #[.bool a0_0, .int .i64 a0_1, .bool a0_2, .slice A0_3 l0_3.length c0_3, .slice A0_4 l0_4.length c0_4] 48 (0, 0)) (by (with_reducible repeat (first | refine blk_drewN ?_ _ | refine blk_drew ?_ | refine blk_alloc ?_ _)); exact BK372.out) hb); have n3_ := Aside0.mk (below_step (by repeat (first | (with_reducible first | exact HB.out | apply below_alloc | apply pw_below_drewN | apply below_drew1 | refine below_set ?_ GE372.out) | exact HB.out)) hb); clear HO_6; clear HO_47; clear BK372; clear HB; have HO_6 := n0_; have HO_47 := n1_; have BK372 := n2_; have HB := n3_; clear n0_ n1_ n2_ n3_; (try clear hb); (try clear hb2); (try clear hk); (try clear hi))))
                go_ret
                exact ⟨by first | rfl | (simp [errW_none, errW_some] <;> rfl) | (simp [*, errW_none, errW_some] <;> rfl), by repeat (first | (with_reducible first | exact HB.out | apply below_alloc | apply pw_below_drewN | apply below_drew1 | refine below_set ?_ GE372.out) | exact HB.out)⟩
        · rw [if_neg c12] at H
          have c12b0 : ((t374.length : Int) == (l0_3.length : Int)) = false := beq_eq_false_iff_ne.mpr c12
          have c12b1 : ((t374.length : Int) != (l0_3.length : Int)) = true := bne_iff_ne.mpr c12
          have c12b2 : (t374.length == l0_3.length) = false := by first | simpa using c12 | (simp at c12 ⊢; omega)
          obtain rfl := Option.some.inj H
          have hcz49_0 : wc.cell? ⟨gb372, 0, none⟩ = some (.bool a0_0) := (blk_cell BK372.out 0).trans rfl
          have hcz49_1 : wc.cell? ⟨gb372, 1, none⟩ = some (.int .i64 a0_1) := (blk_cell BK372.out 1).trans rfl
          have hcz49_2 : wc.cell? ⟨gb372, 2, none⟩ = some (.bool a0_2) := (blk_cell BK372.out 2).trans rfl
          have hcz49_3 : wc.cell? ⟨gb372, 3, none⟩ = some (.slice A0_3 l0_3.length c0_3) := (blk_cell BK372.out 3).trans rfl
          have hcz49_4 : wc.cell? ⟨gb372, 4, none⟩ = some (.slice A0_4 l0_4.length c0_4) := (blk_cell BK372.out 4).trans rfl
          have hfz49_0 := blk_frozen BK372.out 0
          have hfz49_1 := blk_frozen BK372.out 1
          have hfz49_2 := blk_frozen BK372.out 2
          have hfz49_3 := blk_frozen BK372.out 3
          have hfz49_4 := blk_frozen BK372.out 4
          go_wp2_with (first | (go_at_call 21; (with_reducible refine (breaker_Run.calls kj1 false a0_1 a0_2 _ _ l0_3 _ _ l0_4 t374 _ ?side1 ?side2 ?side3 ?side4 A11.out).mono ?_); (case side1 => repeat (first | exact (Kd.C_below HR0_3.out HB.out) | (with_reducible refine Kd.C_alloc ?_ _) | (with_reducible refine Kd.C_drewN ?_ _) | (with_reducible refine Kd.C_drew ?_))); (case side2 => exact HC0_3.out); (case side3 => repeat (first | exact (Kd.C_below HR0_4.out HB.out) | (with_reducible refine Kd.C_alloc ?_ _) | (with_reducible refine Kd.C_drewN ?_ _) | (with_reducible refine Kd.C_drew ?_))); (case side4 => exact HC0_4.out); rintro e w50 ⟨v375, rfl, ho0, hb⟩; have n0_ := Aside0.mk (Kd.R_lower ho0 (below_size (by repeat (first | (with_reducible first | exact HB.out | apply below_alloc | apply pw_below_drewN | apply below_drew1 | refine below_set ?_ GE372.out) | exact HB.out)))); have n1_ := Aside0.mk (blk_below (g := gb372) (o := .cells #[.bool a0_0, .int .i64 a0_1, .bool a0_2, .slice A0_3 l0_3.length c0_3, .slice A0_4 l0_4.length c0_4] 48 (0, 0)) (by (with_reducible repeat (first | refine blk_drewN ?_ _ | refine blk_drew ?_ | refine blk_alloc ?_ _)); exact BK372.out) hb); have n2_ := Aside0.mk (below_step (by repeat (first | (with_reducible first | exact HB.out | apply below_alloc | apply pw_below_drewN | apply below_drew1 | refine below_set ?_ GE372.out) | exact HB.out)) hb); clear BK372; clear HB; have HO376 := n0_; have BK372 := n1_; have HB := n2_; clear n0_ n1_ n2_; (try clear hb); (try clear hb2); (try clear hk); (try clear hi); (try clear ho0); obtain ⟨Ao51, co51, eo51⟩ := Kd.R_slice HO376.out; subst eo51))
          repeat (go_quiet (first | (go_at_call 21; (with_reducible refine (breaker_Run.calls kj1 false a0_1 a0_2 _ _ l0_3 _ _ l0_4 t374 _ ?side1 ?side2 ?side3 ?side4 A11.out).mono ?_); (case side1 => repeat (first | exact (Kd.C_below HR0_3.out HB.out) | (with_reducible refine Kd.C_alloc ?_ _) | (with_reducible refine Kd.C_drewN ?_ _) | (with_reducible refine Kd.C_drew ?_))); (case side2 => exact HC0_3.out); (case side3 => repeat (first | exact (Kd.C_below HR0_4.out HB.out) | (with_reducible refine Kd.C_alloc ?_ _) | (with_reducible refine Kd.C_drewN ?_ _) | (with_reducible refine Kd.C_drew ?_))); (case side4 => exact HC0_4.out); rintro e w50 ⟨v375, rfl, ho0, hb⟩; have n0_ := Aside0.mk (Kd.R_lower ho0 (below_size (by repeat (first | (with_reducible first | exact HB.out | apply below_alloc | apply pw_below_drewN | apply below_drew1 | refine below_set ?_ GE372.out) | exact HB.out)))); have n1_ := Aside0.mk (blk_below (g := gb372) (o := .cells #[.bool a0_0, .int .i64 a0_1, .bool a0_2, .slice A0_3 l0_3.length c0_3, .slice A0_4 l0_4.length c0_4] 48 (0, 0)) (by (with_reducible repeat (first | refine blk_drewN ?_ _ | refine blk_drew ?_ | refine blk_alloc ?_ _)); exact BK372.out) hb); have n2_ := Aside0.mk (below_step (by repeat (first | (with_reducible first | exact HB.out | apply below_alloc | apply pw_below_drewN | apply below_drew1 | refine below_set ?_ GE372.out) | exact HB.out)) hb); clear BK372; clear HB; have HO376 := n0_; have BK372 := n1_; have HB := n2_; clear n0_ n1_ n2_; (try clear hb); (try clear hb2); (try clear hk); (try clear hi); (try clear ho0); obtain ⟨Ao51, co51, eo51⟩ := Kd.R_slice HO376.out; subst eo51)); try go_wp2_with (first | (go_at_call 21; (with_reducible refine (breaker_Run.calls kj1 false a0_1 a0_2 _ _ l0_3 _ _ l0_4 t374 _ ?side1 ?side2 ?side3 ?side4 A11.out).mono ?_); (case side1 => repeat (first | exact (Kd.C_below HR0_3.out HB.out) | (with_reducible refine Kd.C_alloc ?_ _) | (with_reducible refine Kd.C_drewN ?_ _) | (with_reducible refine Kd.C_drew ?_))); (case side2 => exact HC0_3.out); (case side3 => repeat (first | exact (Kd.C_below HR0_4.out HB.out) | (with_reducible refine Kd.C_alloc ?_ _) | (with_reducible refine Kd.C_drewN ?_ _) | (with_reducible refine Kd.C_drew ?_))); (case side4 => exact HC0_4.out); rintro e w50 ⟨v375, rfl, ho0, hb⟩; have n0_ := Aside0.mk (Kd.R_lower ho0 (below_size (by repeat (first | (with_reducible first | exact HB.out | apply below_alloc | apply pw_below_drewN | apply below_drew1 | refine below_set ?_ GE372.out) | exact HB.out)))); have n1_ := Aside0.mk (blk_below (g := gb372) (o := .cells #[.bool a0_0, .int .i64 a0_1, .bool a0_2, .slice A0_3 l0_3.length c0_3, .slice A0_4 l0_4.length c0_4] 48 (0, 0)) (by (with_reducible repeat (first | refine blk_drewN ?_ _ | refine blk_drew ?_ | refine blk_alloc ?_ _)); exact BK372.out) hb); have n2_ := Aside0.mk (below_step (by repeat (first | (with_reducible first | exact HB.out | apply below_alloc | apply pw_below_drewN | apply below_drew1 | refine below_set ?_ GE372.out) | exact HB.out)) hb); clear BK372; clear HB; have HO376 := n0_; have BK372 := n1_; have HB := n2_; clear n0_ n1_ n2_; (try clear hb); (try clear hb2); (try clear hk); (try clear hi); (try clear ho0); obtain ⟨Ao51, co51, eo51⟩ := Kd.R_slice HO376.out; subst eo51)))
          go_ret
          exact ⟨by first | rfl | (simp [errW_none, errW_some] <;> rfl) | (simp [*, errW_none, errW_some] <;> rfl), by repeat (first | (with_reducible first | exact HB.out | apply below_alloc | apply pw_below_drewN | apply below_drew1 | refine below_set ?_ GE372.out) | exact HB.out)⟩

end Go.Proofs.Ytooeljgandaelaa.PAll
