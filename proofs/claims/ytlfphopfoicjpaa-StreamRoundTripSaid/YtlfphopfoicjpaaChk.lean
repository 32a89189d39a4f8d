/- The walk of the law StreamChecks, as far as it returns true: what it computes is its '.f'. Conditions: none. -/
import Derived.Test.YtlfphopfoicjpaaPAllx1
import Derived.Test.YtlfphopfoicjpaaPAllx2
import Derived.Test.YtlfphopfoicjpaaPAllx3
import Derived.Test.YtlfphopfoicjpaaPAllx4
namespace Go.Proofs.Ytlfphopfoicjpaa.PAll
open Go.RowKit Go.Proofs.YtlfphopfoicjpaaW.PrintWords Go.Proofs.YtlfphopfoicjpaaW.PrintLast Go.Proofs.YtlfphopfoicjpaaW.PrintMore
attribute [local go_sem] max2_int min2_int max_two min_two max_three min_three max_four min_four
set_option linter.unusedVariables false
set_option linter.unusedSimpArgs false
set_option maxHeartbeats 1000000 in
theorem to_x (u c : Int) (b : Bool) (A3 : Option Addr) (n3 c3 : Nat) (A4 : Option Addr) (n4 c4 : Nat) (w : World) :
    Calls Try.prog 12 #[.agg #[.int .i64 u, .int .i64 c, .bool b, .slice A3 n3 c3, .slice A4 n4 c4]] w fun e w' => e = .returned (.agg #[.int .i64 u, .int .i64 c, .bool b, .slice A3 n3 c3, .slice A4 n4 c4]) ∧ Below w.heap.size w w' := by
  have hu24 := Try.underlying24
  have hu29 := Try.underlying29
  go_enter Try.func12, Try.ntmps12
  go_wp2
  exact bodyPost_ret (v := .agg #[.int .i64 u, .int .i64 c, .bool b, .slice A3 n3 c3, .slice A4 n4 c4]) (by simp [results, Try.results12, go_sem]) rfl ⟨rfl, ((Below.refl _ _).alloc (Nat.le_refl _) _).alloc (by simp) _⟩
set_option maxHeartbeats 8000000 in
set_option maxRecDepth 100000 in
theorem checks_walk (k : Nat) (a_0 a_1 : Int) (a_2 : Bool) (Aa_3 : Option Addr) (ca_3 : Nat) (la_3 : List Int) (Aa_4 : Option Addr) (ca_4 : Nat) (la_4 : List Int) (b_0 b_1 : Int) (b_2 : Bool) (Ab_3 : Option Addr) (cb_3 : Nat) (lb_3 : List Int) (Ab_4 : Option Addr) (cb_4 : Nat) (lb_4 : List Int) (st : Int) (w : World) (hra_3 : Kd.C (Kd.int .i64) w Aa_3 la_3.length la_3) (hca_3 : la_3.length ≤ ca_3) (hra_4 : Kd.C (Kd.int .i64) w Aa_4 la_4.length la_4) (hca_4 : la_4.length ≤ ca_4) (hrb_3 : Kd.C (Kd.int .i64) w Ab_3 lb_3.length lb_3) (hcb_3 : lb_3.length ≤ cb_3) (hrb_4 : Kd.C (Kd.int .i64) w Ab_4 lb_4.length lb_4) (hcb_4 : lb_4.length ≤ cb_4) (x1 x3 x4 : Int) (x2 : Bool)
    (ha3 : la_3.length ≤ 100) (hb3 : lb_3.length ≤ 100) (ha4 : la_4.length ≤ 100) (hb4 : lb_4.length ≤ 100)
    (e0 : substationlaw15_known.f k = some true) (e1 : stream_Check.f k a_0 a_1 a_2 la_3 la_4 = some x1) (e2 : substationref15_Check.f k a_0 a_1 a_2 la_3 la_4 = some x1)
    (e3 : stream_Same.f k a_0 a_1 a_2 la_3 la_4 b_0 b_1 b_2 lb_3 lb_4 = some x2) (e4 : substationref15_Same.f k a_0 a_1 a_2 la_3 la_4 b_0 b_1 b_2 lb_3 lb_4 = some x2)
    (e5 : stream_Same.f k a_0 a_1 a_2 la_3 la_4 a_0 a_1 a_2 la_3 la_4 = some true) (e6 : stream_Count.f k st a_1 = some x3) (e7 : substationref15_Count.f st a_1 = some x3)
    (e8 : stream_Count.f k st 11 = some x4) (e9 : substationref15_Count.f st 11 = some x4) :
    Calls Try.prog 3 #[.agg #[.int .i64 a_0, .int .i64 a_1, .bool a_2, .slice Aa_3 la_3.length ca_3, .slice Aa_4 la_4.length ca_4], .agg #[.int .i64 b_0, .int .i64 b_1, .bool b_2, .slice Ab_3 lb_3.length cb_3, .slice Ab_4 lb_4.length cb_4], .int .i64 st] w fun e w' => e = .returned (.bool true) ∧ Below w.heap.size w w' := by
  have hu24 := Try.underlying24
  have hu29 := Try.underlying29
  have E0 := Aside0.mk e0
  have E1 := Aside0.mk e1
  have E2 := Aside0.mk e2
  have E3 := Aside0.mk e3
  have E4 := Aside0.mk e4
  have E5 := Aside0.mk e5
  have E6 := Aside0.mk e6
  have E7 := Aside0.mk e7
  have E8 := Aside0.mk e8
  have E9 := Aside0.mk e9
  clear e0 e1 e2 e3 e4 e5 e6 e7 e8 e9
  have t1 : decide (100 < (la_3.length : Int)) = false := by simp; omega
  have t2 : decide (100 < (lb_3.length : Int)) = false := by simp; omega
  have t3 : decide (100 < (la_4.length : Int)) = false := by simp; omega
  have t4 : decide (100 < (lb_4.length : Int)) = false := by simp; omega
  clear ha3 hb3 ha4 hb4
  have HB := Aside0.mk (Below.refl w.heap.size w)
  go_enter Try.func3, Try.ntmps3
  go_wp2_with (first
    | ((with_reducible refine gate_dst (N := 3) rfl ?_); refine box_event ?hg (N := 3) ?hd (cs := #[.int .i64 a_0, .int .i64 a_1, .bool a_2, .slice Aa_3 la_3.length ca_3, .slice Aa_4 la_4.length ca_4]) (t := 24) ?hr ?_; (case hd => rfl); (case hg => rfl); (case hr => first | (go_simp; done) | (go_simp; rfl)); intro g3 hg wa hbox hb; have BK3 := Aside0.mk hbox; have n0_ := Aside0.mk (below_step HB.out hb); clear HB; have HB := n0_; clear n0_; clear hb hbox hg)
    | ((with_reducible refine gate_dst (N := 4) rfl ?_); refine box_event ?hg (N := 4) ?hd (cs := #[.int .i64 b_0, .int .i64 b_1, .bool b_2, .slice Ab_3 lb_3.length cb_3, .slice Ab_4 lb_4.length cb_4]) (t := 24) ?hr ?_; (case hd => rfl); (case hg => rfl); (case hr => first | (go_simp; done) | (go_simp; rfl)); intro g4 hg wb hbox hb; have n1_ := Aside0.mk (blk_below BK3.out hb); have BK4 := Aside0.mk hbox; have n0_ := Aside0.mk (below_step HB.out hb); clear HB BK3; have HB := n0_; have BK3 := n1_; clear n0_ n1_; clear hb hbox hg)
    | (go_at_call 9; (with_reducible refine (substationlaw15_known.calls k true _ E0.out).mono ?_); rintro e wc ⟨rfl, hb⟩; have n0_ := Aside0.mk (blk_below BK3.out hb); have n1_ := Aside0.mk (blk_below BK4.out hb); have n2_ := Aside0.mk (below_step HB.out hb); clear BK3 BK4 HB hb; have BK3 := n0_; have BK4 := n1_; have HB := n2_; clear n0_ n1_ n2_; have hc33 : wc.cell? ⟨g3, 3, none⟩ = some (.slice Aa_3 la_3.length ca_3) := (blk_cell BK3.out 3).trans rfl; have hc34 : wc.cell? ⟨g3, 4, none⟩ = some (.slice Aa_4 la_4.length ca_4) := (blk_cell BK3.out 4).trans rfl; have hc43 : wc.cell? ⟨g4, 3, none⟩ = some (.slice Ab_3 lb_3.length cb_3) := (blk_cell BK4.out 3).trans rfl; have hc44 : wc.cell? ⟨g4, 4, none⟩ = some (.slice Ab_4 lb_4.length cb_4) := (blk_cell BK4.out 4).trans rfl))
  clear hc33 hc34 hc43 hc44
  have n0_ := Aside0.mk (blk_drew BK3.out)
  have n1_ := Aside0.mk (blk_drew BK4.out)
  have n2_ := Aside0.mk (below_drew1 HB.out)
  clear BK3 BK4 HB
  have BK3 := n0_
  have BK4 := n1_
  have HB := n2_
  clear n0_ n1_ n2_
  refine start_ (n := 41) (S := fun w' => w'.cell? ⟨g3, 0, none⟩ = some (.int .i64 a_0) ∧ w'.cell? ⟨g3, 1, none⟩ = some (.int .i64 a_1) ∧ w'.cell? ⟨g3, 2, none⟩ = some (.bool a_2) ∧ w'.cell? ⟨g3, 3, none⟩ = some (.slice Aa_3 la_3.length ca_3) ∧ w'.cell? ⟨g3, 4, none⟩ = some (.slice Aa_4 la_4.length ca_4) ∧ w'.cell? ⟨g4, 0, none⟩ = some (.int .i64 b_0) ∧ w'.cell? ⟨g4, 1, none⟩ = some (.int .i64 b_1) ∧ w'.cell? ⟨g4, 2, none⟩ = some (.bool b_2) ∧ w'.cell? ⟨g4, 3, none⟩ = some (.slice Ab_3 lb_3.length cb_3) ∧ w'.cell? ⟨g4, 4, none⟩ = some (.slice Ab_4 lb_4.length cb_4)) (ds := []) #[false, false, false, false, false, false, false, false, false, false, false, false, false, false, false, false, false, false, false, false, false, false, false, false, false, false, false, false, false, false, false, false, false, false, false, false, false, false, false, false, false] (by kernel_rfl) rfl rfl ⟨(blk_cell BK3.out 0).trans rfl, (blk_cell BK3.out 1).trans rfl, (blk_cell BK3.out 2).trans rfl, (blk_cell BK3.out 3).trans rfl, (blk_cell BK3.out 4).trans rfl, (blk_cell BK4.out 0).trans rfl, (blk_cell BK4.out 1).trans rfl, (blk_cell BK4.out 2).trans rfl, (blk_cell BK4.out 3).trans rfl, (blk_cell BK4.out 4).trans rfl⟩ (fun hHeld => ?_)
  generalize wc.drew = wd at BK3 BK4 HB hHeld ⊢
  refine take_ (i := 0) (N := some 31) (v := ?_) (a' := ?_) #[true, false, false, false, false, false, false, false, false, false, false, false, false, false, false, false, false, false, false, false, false, false, false, false, false, false, false, false, false, false, false, false, false, false, false, false, false, false, false, false, false] rfl rfl (by kernel_rfl) (fun _ _ _ h => h) (Or.inl ⟨by rfl, ?_⟩) hHeld ?_ ?_
  rotate_left
  · rintro w' ⟨s0, s1, s2, s3, s4, s5, s6, s7, s8, s9⟩
    go_simp
    with_reducible rfl
  rotate_left
  · simp only [Act.put, List.setIfInBounds_toArray, List.set_cons_zero, List.set_cons_succ, i64_w, i32_w]
    rfl
  refine take_ (i := 2) (N := some 33) (v := ?_) (a' := ?_) #[true, false, true, false, false, false, false, false, false, false, false, false, false, false, false, false, false, false, false, false, false, false, false, false, false, false, false, false, false, false, false, false, false, false, false, false, false, false, false, false, false] rfl rfl (by kernel_rfl) (fun _ _ _ h => h) (Or.inl ⟨by rfl, ?_⟩) hHeld ?_ ?_
  rotate_left
  · rintro w' ⟨s0, s1, s2, s3, s4, s5, s6, s7, s8, s9⟩
    go_simp
    with_reducible rfl
  rotate_left
  · simp only [Act.put, List.setIfInBounds_toArray, List.set_cons_zero, List.set_cons_succ, i64_w, i32_w]
    rfl
  refine one_ (i := 1) (N := some 32) #[true, true, true, false, false, false, false, false, false, false, false, false, false, false, false, false, false, false, false, false, false, false, false, false, false, false, false, false, false, false, false, false, false, false, false, false, false, false, false, false, false] rfl rfl (by kernel_rfl) (by decide) (fun K hK => ?_)
  refine goes_ Try.func10 (by kernel_rfl) rfl #[.agg #[.int .i64 a_0, .int .i64 a_1, .bool a_2, .slice Aa_3 la_3.length ca_3, .slice Aa_4 la_4.length ca_4]] (by rfl) rfl rfl (by simp only [List.map_toArray, List.map_cons, List.map_nil]; rfl) ?_
  with_reducible refine (stream_Check.calls k a_0 a_1 a_2 Aa_3 ca_3 la_3 Aa_4 ca_4 la_4 x1 _ (Kd.C_below hra_3 HB.out) hca_3 (Kd.C_below hra_4 HB.out) hca_4 E1.out).mono ?_
  rintro e w3 ⟨rfl, hb⟩
  refine ⟨_, rfl, ?_⟩
  have n0_ := Aside0.mk (blk_below BK3.out hb)
  have n1_ := Aside0.mk (blk_below BK4.out hb)
  have n2_ := Aside0.mk (below_step HB.out hb)
  clear BK3 BK4 HB hb
  have BK3 := n0_
  have BK4 := n1_
  have HB := n2_
  clear n0_ n1_ n2_
  refine hK.out _ _ ⟨(blk_cell BK3.out 0).trans rfl, (blk_cell BK3.out 1).trans rfl, (blk_cell BK3.out 2).trans rfl, (blk_cell BK3.out 3).trans rfl, (blk_cell BK3.out 4).trans rfl, (blk_cell BK4.out 0).trans rfl, (blk_cell BK4.out 1).trans rfl, (blk_cell BK4.out 2).trans rfl, (blk_cell BK4.out 3).trans rfl, (blk_cell BK4.out 4).trans rfl⟩ (fun hHeld => ?_)
  clear hK K
  refine norm_ (a' := ?_) ?_ ?_
  rotate_left
  · show Act.put _ (some 32) _ = _
    simp only [Act.put, List.setIfInBounds_toArray, List.set_cons_zero, List.set_cons_succ, i64_w, i32_w]
    rfl
  refine one_ (i := 3) (N := some 34) #[true, true, true, true, false, false, false, false, false, false, false, false, false, false, false, false, false, false, false, false, false, false, false, false, false, false, false, false, false, false, false, false, false, false, false, false, false, false, false, false, false] rfl rfl (by kernel_rfl) (by decide) (fun K hK => ?_)
  refine goes_ Try.func12 (by kernel_rfl) rfl #[.agg #[.int .i64 a_0, .int .i64 a_1, .bool a_2, .slice Aa_3 la_3.length ca_3, .slice Aa_4 la_4.length ca_4]] (by rfl) rfl rfl (by simp only [List.map_toArray, List.map_cons, List.map_nil]; rfl) ?_
  with_reducible refine (to_x a_0 a_1 a_2 Aa_3 la_3.length ca_3 Aa_4 la_4.length ca_4 _).mono ?_
  rintro e w3 ⟨rfl, hb⟩
  refine ⟨_, rfl, ?_⟩
  have n0_ := Aside0.mk (blk_below BK3.out hb)
  have n1_ := Aside0.mk (blk_below BK4.out hb)
  have n2_ := Aside0.mk (below_step HB.out hb)
  clear BK3 BK4 HB hb
  have BK3 := n0_
  have BK4 := n1_
  have HB := n2_
  clear n0_ n1_ n2_
  refine hK.out _ _ ⟨(blk_cell BK3.out 0).trans rfl, (blk_cell BK3.out 1).trans rfl, (blk_cell BK3.out 2).trans rfl, (blk_cell BK3.out 3).trans rfl, (blk_cell BK3.out 4).trans rfl, (blk_cell BK4.out 0).trans rfl, (blk_cell BK4.out 1).trans rfl, (blk_cell BK4.out 2).trans rfl, (blk_cell BK4.out 3).trans rfl, (blk_cell BK4.out 4).trans rfl⟩ (fun hHeld => ?_)
  clear hK K
  refine norm_ (a' := ?_) ?_ ?_
  rotate_left
  · show Act.put _ (some 34) _ = _
    simp only [Act.put, List.setIfInBounds_toArray, List.set_cons_zero, List.set_cons_succ, i64_w, i32_w]
    rfl
  refine one_ (i := 4) (N := some 35) #[true, true, true, true, true, false, false, false, false, false, false, false, false, false, false, false, false, false, false, false, false, false, false, false, false, false, false, false, false, false, false, false, false, false, false, false, false, false, false, false, false] rfl rfl (by kernel_rfl) (by decide) (fun K hK => ?_)
  refine goes_ Try.func11 (by kernel_rfl) rfl #[.agg #[.int .i64 a_0, .int .i64 a_1, .bool a_2, .slice Aa_3 la_3.length ca_3, .slice Aa_4 la_4.length ca_4]] (by rfl) rfl rfl (by simp only [List.map_toArray, List.map_cons, List.map_nil]; rfl) ?_
  with_reducible refine (substationref15_Check.calls k a_0 a_1 a_2 Aa_3 ca_3 la_3 Aa_4 ca_4 la_4 x1 _ (Kd.C_below hra_3 HB.out) hca_3 (Kd.C_below hra_4 HB.out) hca_4 E2.out).mono ?_
  rintro e w3 ⟨rfl, hb⟩
  refine ⟨_, rfl, ?_⟩
  have n0_ := Aside0.mk (blk_below BK3.out hb)
  have n1_ := Aside0.mk (blk_below BK4.out hb)
  have n2_ := Aside0.mk (below_step HB.out hb)
  clear BK3 BK4 HB hb
  have BK3 := n0_
  have BK4 := n1_
  have HB := n2_
  clear n0_ n1_ n2_
  refine hK.out _ _ ⟨(blk_cell BK3.out 0).trans rfl, (blk_cell BK3.out 1).trans rfl, (blk_cell BK3.out 2).trans rfl, (blk_cell BK3.out 3).trans rfl, (blk_cell BK3.out 4).trans rfl, (blk_cell BK4.out 0).trans rfl, (blk_cell BK4.out 1).trans rfl, (blk_cell BK4.out 2).trans rfl, (blk_cell BK4.out 3).trans rfl, (blk_cell BK4.out 4).trans rfl⟩ (fun hHeld => ?_)
  clear hK K
  refine norm_ (a' := ?_) ?_ ?_
  rotate_left
  · show Act.put _ (some 35) _ = _
    simp only [Act.put, List.setIfInBounds_toArray, List.set_cons_zero, List.set_cons_succ, i64_w, i32_w]
    rfl
  refine pure_ (i := 5) (N := some 36) (v := ?_) (a' := ?_) #[true, true, true, true, true, true, false, false, false, false, false, false, false, false, false, false, false, false, false, false, false, false, false, false, false, false, false, false, false, false, false, false, false, false, false, false, false, false, false, false, false] rfl rfl (by kernel_rfl) (fun _ _ _ h => h) (Or.inl ⟨by rfl, ?_⟩) ?_ ?_
  rotate_left
  · intro w'
    go_simp
    with_reducible rfl
  rotate_left
  · simp only [Act.put, List.setIfInBounds_toArray, List.set_cons_zero, List.set_cons_succ, i64_w, i32_w]
    rfl
  refine pure_ (i := 6) (N := some 37) (v := ?_) (a' := ?_) #[true, true, true, true, true, true, true, false, false, false, false, false, false, false, false, false, false, false, false, false, false, false, false, false, false, false, false, false, false, false, false, false, false, false, false, false, false, false, false, false, false] rfl rfl (by kernel_rfl) (fun _ _ _ h => h) (Or.inl ⟨by rfl, ?_⟩) ?_ ?_
  rotate_left
  · intro w'
    go_simp
    with_reducible rfl
  rotate_left
  · simp only [Act.put, List.setIfInBounds_toArray, List.set_cons_zero, List.set_cons_succ, i64_w, i32_w]
    rfl
  refine take_ (i := 7) (N := some 38) (v := ?_) (a' := ?_) #[true, true, true, true, true, true, true, true, false, false, false, false, false, false, false, false, false, false, false, false, false, false, false, false, false, false, false, false, false, false, false, false, false, false, false, false, false, false, false, false, false] rfl rfl (by kernel_rfl) (fun _ _ _ h => h) (Or.inl ⟨by rfl, ?_⟩) hHeld ?_ ?_
  rotate_left
  · rintro w' ⟨s0, s1, s2, s3, s4, s5, s6, s7, s8, s9⟩
    go_simp
    with_reducible rfl
  rotate_left
  · simp only [Act.put, List.setIfInBounds_toArray, List.set_cons_zero, List.set_cons_succ, i64_w, i32_w]
    rfl
  refine take_ (i := 8) (N := some 39) (v := ?_) (a' := ?_) #[true, true, true, true, true, true, true, true, true, false, false, false, false, false, false, false, false, false, false, false, false, false, false, false, false, false, false, false, false, false, false, false, false, false, false, false, false, false, false, false, false] rfl rfl (by kernel_rfl) (fun _ _ _ h => h) (Or.inl ⟨by rfl, ?_⟩) hHeld ?_ ?_
  rotate_left
  · rintro w' ⟨s0, s1, s2, s3, s4, s5, s6, s7, s8, s9⟩
    go_simp
    with_reducible rfl
  rotate_left
  · simp only [Act.put, List.setIfInBounds_toArray, List.set_cons_zero, List.set_cons_succ, i64_w, i32_w]
    rfl
  refine take_ (i := 10) (N := some 41) (v := ?_) (a' := ?_) #[true, true, true, true, true, true, true, true, true, false, true, false, false, false, false, false, false, false, false, false, false, false, false, false, false, false, false, false, false, false, false, false, false, false, false, false, false, false, false, false, false] rfl rfl (by kernel_rfl) (fun _ _ _ h => h) (Or.inl ⟨by rfl, ?_⟩) hHeld ?_ ?_
  rotate_left
  · rintro w' ⟨s0, s1, s2, s3, s4, s5, s6, s7, s8, s9⟩
    go_simp
    with_reducible rfl
  rotate_left
  · simp only [Act.put, List.setIfInBounds_toArray, List.set_cons_zero, List.set_cons_succ, i64_w, i32_w]
    rfl
  refine take_ (i := 12) (N := some 43) (v := ?_) (a' := ?_) #[true, true, true, true, true, true, true, true, true, false, true, false, true, false, false, false, false, false, false, false, false, false, false, false, false, false, false, false, false, false, false, false, false, false, false, false, false, false, false, false, false] rfl rfl (by kernel_rfl) (fun _ _ _ h => h) (Or.inl ⟨by rfl, ?_⟩) hHeld ?_ ?_
  rotate_left
  · rintro w' ⟨s0, s1, s2, s3, s4, s5, s6, s7, s8, s9⟩
    go_simp
    with_reducible rfl
  rotate_left
  · simp only [Act.put, List.setIfInBounds_toArray, List.set_cons_zero, List.set_cons_succ, i64_w, i32_w]
    rfl
  refine one_ (i := 9) (N := some 40) #[true, true, true, true, true, true, true, true, true, true, true, false, true, false, false, false, false, false, false, false, false, false, false, false, false, false, false, false, false, false, false, false, false, false, false, false, false, false, false, false, false] rfl rfl (by kernel_rfl) (by decide) (fun K hK => ?_)
  refine goes_ Try.func13 (by kernel_rfl) rfl #[.agg #[.int .i64 a_0, .int .i64 a_1, .bool a_2, .slice Aa_3 la_3.length ca_3, .slice Aa_4 la_4.length ca_4], .agg #[.int .i64 b_0, .int .i64 b_1, .bool b_2, .slice Ab_3 lb_3.length cb_3, .slice Ab_4 lb_4.length cb_4]] (by rfl) rfl rfl (by simp only [List.map_toArray, List.map_cons, List.map_nil]; rfl) ?_
  with_reducible refine (stream_Same.calls k a_0 a_1 a_2 Aa_3 ca_3 la_3 Aa_4 ca_4 la_4 b_0 b_1 b_2 Ab_3 cb_3 lb_3 Ab_4 cb_4 lb_4 x2 _ (Kd.C_below hra_3 HB.out) hca_3 (Kd.C_below hra_4 HB.out) hca_4 (Kd.C_below hrb_3 HB.out) hcb_3 (Kd.C_below hrb_4 HB.out) hcb_4 E3.out).mono ?_
  rintro e w3 ⟨rfl, hb⟩
  refine ⟨_, rfl, ?_⟩
  have n0_ := Aside0.mk (blk_below BK3.out hb)
  have n1_ := Aside0.mk (blk_below BK4.out hb)
  have n2_ := Aside0.mk (below_step HB.out hb)
  clear BK3 BK4 HB hb
  have BK3 := n0_
  have BK4 := n1_
  have HB := n2_
  clear n0_ n1_ n2_
  refine hK.out _ _ ⟨(blk_cell BK3.out 0).trans rfl, (blk_cell BK3.out 1).trans rfl, (blk_cell BK3.out 2).trans rfl, (blk_cell BK3.out 3).trans rfl, (blk_cell BK3.out 4).trans rfl, (blk_cell BK4.out 0).trans rfl, (blk_cell BK4.out 1).trans rfl, (blk_cell BK4.out 2).trans rfl, (blk_cell BK4.out 3).trans rfl, (blk_cell BK4.out 4).trans rfl⟩ (fun hHeld => ?_)
  clear hK K
  refine norm_ (a' := ?_) ?_ ?_
  rotate_left
  · show Act.put _ (some 40) _ = _
    simp only [Act.put, List.setIfInBounds_toArray, List.set_cons_zero, List.set_cons_succ, i64_w, i32_w]
    rfl
  refine one_ (i := 11) (N := some 42) #[true, true, true, true, true, true, true, true, true, true, true, true, true, false, false, false, false, false, false, false, false, false, false, false, false, false, false, false, false, false, false, false, false, false, false, false, false, false, false, false, false] rfl rfl (by kernel_rfl) (by decide) (fun K hK => ?_)
  refine goes_ Try.func12 (by kernel_rfl) rfl #[.agg #[.int .i64 a_0, .int .i64 a_1, .bool a_2, .slice Aa_3 la_3.length ca_3, .slice Aa_4 la_4.length ca_4]] (by rfl) rfl rfl (by simp only [List.map_toArray, List.map_cons, List.map_nil]; rfl) ?_
  with_reducible refine (to_x a_0 a_1 a_2 Aa_3 la_3.length ca_3 Aa_4 la_4.length ca_4 _).mono ?_
  rintro e w3 ⟨rfl, hb⟩
  refine ⟨_, rfl, ?_⟩
  have n0_ := Aside0.mk (blk_below BK3.out hb)
  have n1_ := Aside0.mk (blk_below BK4.out hb)
  have n2_ := Aside0.mk (below_step HB.out hb)
  clear BK3 BK4 HB hb
  have BK3 := n0_
  have BK4 := n1_
  have HB := n2_
  clear n0_ n1_ n2_
  refine hK.out _ _ ⟨(blk_cell BK3.out 0).trans rfl, (blk_cell BK3.out 1).trans rfl, (blk_cell BK3.out 2).trans rfl, (blk_cell BK3.out 3).trans rfl, (blk_cell BK3.out 4).trans rfl, (blk_cell BK4.out 0).trans rfl, (blk_cell BK4.out 1).trans rfl, (blk_cell BK4.out 2).trans rfl, (blk_cell BK4.out 3).trans rfl, (blk_cell BK4.out 4).trans rfl⟩ (fun hHeld => ?_)
  clear hK K
  refine norm_ (a' := ?_) ?_ ?_
  rotate_left
  · show Act.put _ (some 42) _ = _
    simp only [Act.put, List.setIfInBounds_toArray, List.set_cons_zero, List.set_cons_succ, i64_w, i32_w]
    rfl
  refine one_ (i := 13) (N := some 44) #[true, true, true, true, true, true, true, true, true, true, true, true, true, true, false, false, false, false, false, false, false, false, false, false, false, false, false, false, false, false, false, false, false, false, false, false, false, false, false, false, false] rfl rfl (by kernel_rfl) (by decide) (fun K hK => ?_)
  refine goes_ Try.func12 (by kernel_rfl) rfl #[.agg #[.int .i64 b_0, .int .i64 b_1, .bool b_2, .slice Ab_3 lb_3.length cb_3, .slice Ab_4 lb_4.length cb_4]] (by rfl) rfl rfl (by simp only [List.map_toArray, List.map_cons, List.map_nil]; rfl) ?_
  with_reducible refine (to_x b_0 b_1 b_2 Ab_3 lb_3.length cb_3 Ab_4 lb_4.length cb_4 _).mono ?_
  rintro e w3 ⟨rfl, hb⟩
  refine ⟨_, rfl, ?_⟩
  have n0_ := Aside0.mk (blk_below BK3.out hb)
  have n1_ := Aside0.mk (blk_below BK4.out hb)
  have n2_ := Aside0.mk (below_step HB.out hb)
  clear BK3 BK4 HB hb
  have BK3 := n0_
  have BK4 := n1_
  have HB := n2_
  clear n0_ n1_ n2_
  refine hK.out _ _ ⟨(blk_cell BK3.out 0).trans rfl, (blk_cell BK3.out 1).trans rfl, (blk_cell BK3.out 2).trans rfl, (blk_cell BK3.out 3).trans rfl, (blk_cell BK3.out 4).trans rfl, (blk_cell BK4.out 0).trans rfl, (blk_cell BK4.out 1).trans rfl, (blk_cell BK4.out 2).trans rfl, (blk_cell BK4.out 3).trans rfl, (blk_cell BK4.out 4).trans rfl⟩ (fun hHeld => ?_)
  clear hK K
  refine norm_ (a' := ?_) ?_ ?_
  rotate_left
  · show Act.put _ (some 44) _ = _
    simp only [Act.put, List.setIfInBounds_toArray, List.set_cons_zero, List.set_cons_succ, i64_w, i32_w]
    rfl
  refine one_ (i := 14) (N := some 45) #[true, true, true, true, true, true, true, true, true, true, true, true, true, true, true, false, false, false, false, false, false, false, false, false, false, false, false, false, false, false, false, false, false, false, false, false, false, false, false, false, false] rfl rfl (by kernel_rfl) (by decide) (fun K hK => ?_)
  refine goes_ Try.func14 (by kernel_rfl) rfl #[.agg #[.int .i64 a_0, .int .i64 a_1, .bool a_2, .slice Aa_3 la_3.length ca_3, .slice Aa_4 la_4.length ca_4], .agg #[.int .i64 b_0, .int .i64 b_1, .bool b_2, .slice Ab_3 lb_3.length cb_3, .slice Ab_4 lb_4.length cb_4]] (by rfl) rfl rfl (by simp only [List.map_toArray, List.map_cons, List.map_nil]; rfl) ?_
  with_reducible refine (substationref15_Same.calls k a_0 a_1 a_2 Aa_3 ca_3 la_3 Aa_4 ca_4 la_4 b_0 b_1 b_2 Ab_3 cb_3 lb_3 Ab_4 cb_4 lb_4 x2 _ (Kd.C_below hra_3 HB.out) hca_3 (Kd.C_below hra_4 HB.out) hca_4 (Kd.C_below hrb_3 HB.out) hcb_3 (Kd.C_below hrb_4 HB.out) hcb_4 E4.out).mono ?_
  rintro e w3 ⟨rfl, hb⟩
  refine ⟨_, rfl, ?_⟩
  have n0_ := Aside0.mk (blk_below BK3.out hb)
  have n1_ := Aside0.mk (blk_below BK4.out hb)
  have n2_ := Aside0.mk (below_step HB.out hb)
  clear BK3 BK4 HB hb
  have BK3 := n0_
  have BK4 := n1_
  have HB := n2_
  clear n0_ n1_ n2_
  refine hK.out _ _ ⟨(blk_cell BK3.out 0).trans rfl, (blk_cell BK3.out 1).trans rfl, (blk_cell BK3.out 2).trans rfl, (blk_cell BK3.out 3).trans rfl, (blk_cell BK3.out 4).trans rfl, (blk_cell BK4.out 0).trans rfl, (blk_cell BK4.out 1).trans rfl, (blk_cell BK4.out 2).trans rfl, (blk_cell BK4.out 3).trans rfl, (blk_cell BK4.out 4).trans rfl⟩ (fun hHeld => ?_)
  clear hK K
  refine norm_ (a' := ?_) ?_ ?_
  rotate_left
  · show Act.put _ (some 45) _ = _
    simp only [Act.put, List.setIfInBounds_toArray, List.set_cons_zero, List.set_cons_succ, i64_w, i32_w]
    rfl
  refine pure_ (i := 15) (N := some 46) (v := ?_) (a' := ?_) #[true, true, true, true, true, true, true, true, true, true, true, true, true, true, true, true, false, false, false, false, false, false, false, false, false, false, false, false, false, false, false, false, false, false, false, false, false, false, false, false, false] rfl rfl (by kernel_rfl) (fun _ _ _ h => h) (Or.inl ⟨by rfl, ?_⟩) ?_ ?_
  rotate_left
  · intro w'
    go_simp
    with_reducible rfl
  rotate_left
  · simp only [Act.put, List.setIfInBounds_toArray, List.set_cons_zero, List.set_cons_succ, i64_w, i32_w]
    rfl
  refine pure_ (i := 16) (N := some 47) (v := ?_) (a' := ?_) #[true, true, true, true, true, true, true, true, true, true, true, true, true, true, true, true, true, false, false, false, false, false, false, false, false, false, false, false, false, false, false, false, false, false, false, false, false, false, false, false, false] rfl rfl (by kernel_rfl) (fun _ _ _ h => h) (Or.inl ⟨by rfl, ?_⟩) ?_ ?_
  rotate_left
  · intro w'
    go_simp
    with_reducible rfl
  rotate_left
  · simp only [Act.put, List.setIfInBounds_toArray, List.set_cons_zero, List.set_cons_succ, i64_w, i32_w]
    rfl
  refine pure_ (i := 17) (N := some 48) (v := ?_) (a' := ?_) #[true, true, true, true, true, true, true, true, true, true, true, true, true, true, true, true, true, true, false, false, false, false, false, false, false, false, false, false, false, false, false, false, false, false, false, false, false, false, false, false, false] rfl rfl (by kernel_rfl) (fun _ _ _ h => h) (Or.inl ⟨by rfl, ?_⟩) ?_ ?_
  rotate_left
  · intro w'
    go_simp
    with_reducible rfl
  rotate_left
  · simp only [Act.put, List.setIfInBounds_toArray, List.set_cons_zero, List.set_cons_succ, i64_w, i32_w]
    rfl
  refine take_ (i := 18) (N := some 49) (v := ?_) (a' := ?_) #[true, true, true, true, true, true, true, true, true, true, true, true, true, true, true, true, true, true, true, false, false, false, false, false, false, false, false, false, false, false, false, false, false, false, false, false, false, false, false, false, false] rfl rfl (by kernel_rfl) (fun _ _ _ h => h) (Or.inl ⟨by rfl, ?_⟩) hHeld ?_ ?_
  rotate_left
  · rintro w' ⟨s0, s1, s2, s3, s4, s5, s6, s7, s8, s9⟩
    go_simp
    with_reducible rfl
  rotate_left
  · simp only [Act.put, List.setIfInBounds_toArray, List.set_cons_zero, List.set_cons_succ, i64_w, i32_w]
    rfl
  refine take_ (i := 19) (N := some 50) (v := ?_) (a' := ?_) #[true, true, true, true, true, true, true, true, true, true, true, true, true, true, true, true, true, true, true, true, false, false, false, false, false, false, false, false, false, false, false, false, false, false, false, false, false, false, false, false, false] rfl rfl (by kernel_rfl) (fun _ _ _ h => h) (Or.inl ⟨by rfl, ?_⟩) hHeld ?_ ?_
  rotate_left
  · rintro w' ⟨s0, s1, s2, s3, s4, s5, s6, s7, s8, s9⟩
    go_simp
    with_reducible rfl
  rotate_left
  · simp only [Act.put, List.setIfInBounds_toArray, List.set_cons_zero, List.set_cons_succ, i64_w, i32_w]
    rfl
  refine one_ (i := 20) (N := some 51) #[true, true, true, true, true, true, true, true, true, true, true, true, true, true, true, true, true, true, true, true, true, false, false, false, false, false, false, false, false, false, false, false, false, false, false, false, false, false, false, false, false] rfl rfl (by kernel_rfl) (by decide) (fun K hK => ?_)
  refine goes_ Try.func13 (by kernel_rfl) rfl #[.agg #[.int .i64 a_0, .int .i64 a_1, .bool a_2, .slice Aa_3 la_3.length ca_3, .slice Aa_4 la_4.length ca_4], .agg #[.int .i64 a_0, .int .i64 a_1, .bool a_2, .slice Aa_3 la_3.length ca_3, .slice Aa_4 la_4.length ca_4]] (by rfl) rfl rfl (by simp only [List.map_toArray, List.map_cons, List.map_nil]; rfl) ?_
  with_reducible refine (stream_Same.calls k a_0 a_1 a_2 Aa_3 ca_3 la_3 Aa_4 ca_4 la_4 a_0 a_1 a_2 Aa_3 ca_3 la_3 Aa_4 ca_4 la_4 true _ (Kd.C_below hra_3 HB.out) hca_3 (Kd.C_below hra_4 HB.out) hca_4 (Kd.C_below hra_3 HB.out) hca_3 (Kd.C_below hra_4 HB.out) hca_4 E5.out).mono ?_
  rintro e w3 ⟨rfl, hb⟩
  refine ⟨_, rfl, ?_⟩
  have n0_ := Aside0.mk (blk_below BK3.out hb)
  have n1_ := Aside0.mk (blk_below BK4.out hb)
  have n2_ := Aside0.mk (below_step HB.out hb)
  clear BK3 BK4 HB hb
  have BK3 := n0_
  have BK4 := n1_
  have HB := n2_
  clear n0_ n1_ n2_
  refine hK.out _ _ ⟨(blk_cell BK3.out 0).trans rfl, (blk_cell BK3.out 1).trans rfl, (blk_cell BK3.out 2).trans rfl, (blk_cell BK3.out 3).trans rfl, (blk_cell BK3.out 4).trans rfl, (blk_cell BK4.out 0).trans rfl, (blk_cell BK4.out 1).trans rfl, (blk_cell BK4.out 2).trans rfl, (blk_cell BK4.out 3).trans rfl, (blk_cell BK4.out 4).trans rfl⟩ (fun hHeld => ?_)
  clear hK K
  refine norm_ (a' := ?_) ?_ ?_
  rotate_left
  · show Act.put _ (some 51) _ = _
    simp only [Act.put, List.setIfInBounds_toArray, List.set_cons_zero, List.set_cons_succ, i64_w, i32_w]
    rfl
  refine pure_ (i := 21) (N := some 52) (v := ?_) (a' := ?_) #[true, true, true, true, true, true, true, true, true, true, true, true, true, true, true, true, true, true, true, true, true, true, false, false, false, false, false, false, false, false, false, false, false, false, false, false, false, false, false, false, false] rfl rfl (by kernel_rfl) (fun _ _ _ h => h) (Or.inl ⟨by rfl, ?_⟩) ?_ ?_
  rotate_left
  · intro w'
    go_simp
    with_reducible rfl
  rotate_left
  · simp only [Act.put, List.setIfInBounds_toArray, List.set_cons_zero, List.set_cons_succ, i64_w, i32_w]
    rfl
  refine pure_ (i := 22) (N := some 53) (v := ?_) (a' := ?_) #[true, true, true, true, true, true, true, true, true, true, true, true, true, true, true, true, true, true, true, true, true, true, true, false, false, false, false, false, false, false, false, false, false, false, false, false, false, false, false, false, false] rfl rfl (by kernel_rfl) (fun _ _ _ h => h) (Or.inl ⟨by rfl, ?_⟩) ?_ ?_
  rotate_left
  · intro w'
    go_simp
    with_reducible rfl
  rotate_left
  · simp only [Act.put, List.setIfInBounds_toArray, List.set_cons_zero, List.set_cons_succ, i64_w, i32_w]
    rfl
  refine pure_ (i := 23) (N := some 54) (v := ?_) (a' := ?_) #[true, true, true, true, true, true, true, true, true, true, true, true, true, true, true, true, true, true, true, true, true, true, true, true, false, false, false, false, false, false, false, false, false, false, false, false, false, false, false, false, false] rfl rfl (by kernel_rfl) (fun _ _ _ h => h) (Or.inl ⟨by rfl, ?_⟩) ?_ ?_
  rotate_left
  · intro w'
    go_simp
    with_reducible rfl
  rotate_left
  · simp only [Act.put, List.setIfInBounds_toArray, List.set_cons_zero, List.set_cons_succ, i64_w, i32_w]
    rfl
  refine pure_ (i := 24) (N := some 55) (v := ?_) (a' := ?_) #[true, true, true, true, true, true, true, true, true, true, true, true, true, true, true, true, true, true, true, true, true, true, true, true, true, false, false, false, false, false, false, false, false, false, false, false, false, false, false, false, false] rfl rfl (by kernel_rfl) (fun _ _ _ h => h) (Or.inl ⟨by rfl, ?_⟩) ?_ ?_
  rotate_left
  · intro w'
    go_simp
    with_reducible rfl
  rotate_left
  · simp only [Act.put, List.setIfInBounds_toArray, List.set_cons_zero, List.set_cons_succ, i64_w, i32_w]
    rfl
  refine pure_ (i := 27) (N := some 58) (v := ?_) (a' := ?_) #[true, true, true, true, true, true, true, true, true, true, true, true, true, true, true, true, true, true, true, true, true, true, true, true, true, false, false, true, false, false, false, false, false, false, false, false, false, false, false, false, false] rfl rfl (by kernel_rfl) (fun _ _ _ h => h) (Or.inl ⟨by rfl, ?_⟩) ?_ ?_
  rotate_left
  · intro w'
    go_simp
    with_reducible rfl
  rotate_left
  · simp only [Act.put, List.setIfInBounds_toArray, List.set_cons_zero, List.set_cons_succ, i64_w, i32_w]
    rfl
  refine pure_ (i := 28) (N := some 59) (v := ?_) (a' := ?_) #[true, true, true, true, true, true, true, true, true, true, true, true, true, true, true, true, true, true, true, true, true, true, true, true, true, false, false, true, true, false, false, false, false, false, false, false, false, false, false, false, false] rfl rfl (by kernel_rfl) (fun _ _ _ h => h) (Or.inl ⟨by rfl, ?_⟩) ?_ ?_
  rotate_left
  · intro w'
    go_simp
    with_reducible rfl
  rotate_left
  · simp only [Act.put, List.setIfInBounds_toArray, List.set_cons_zero, List.set_cons_succ, i64_w, i32_w]
    rfl
  refine take_ (i := 25) (N := some 56) (v := ?_) (a' := ?_) #[true, true, true, true, true, true, true, true, true, true, true, true, true, true, true, true, true, true, true, true, true, true, true, true, true, true, false, true, true, false, false, false, false, false, false, false, false, false, false, false, false] rfl rfl (by kernel_rfl) (fun _ _ _ h => h) (Or.inl ⟨by rfl, ?_⟩) hHeld ?_ ?_
  rotate_left
  · rintro w' ⟨s0, s1, s2, s3, s4, s5, s6, s7, s8, s9⟩
    go_simp
    with_reducible rfl
  rotate_left
  · simp only [Act.put, List.setIfInBounds_toArray, List.set_cons_zero, List.set_cons_succ, i64_w, i32_w]
    rfl
  refine take_ (i := 29) (N := some 60) (v := ?_) (a' := ?_) #[true, true, true, true, true, true, true, true, true, true, true, true, true, true, true, true, true, true, true, true, true, true, true, true, true, true, false, true, true, true, false, false, false, false, false, false, false, false, false, false, false] rfl rfl (by kernel_rfl) (fun _ _ _ h => h) (Or.inl ⟨by rfl, ?_⟩) hHeld ?_ ?_
  rotate_left
  · rintro w' ⟨s0, s1, s2, s3, s4, s5, s6, s7, s8, s9⟩
    go_simp
    with_reducible rfl
  rotate_left
  · simp only [Act.put, List.setIfInBounds_toArray, List.set_cons_zero, List.set_cons_succ, i64_w, i32_w]
    rfl
  refine one_ (i := 26) (N := some 57) #[true, true, true, true, true, true, true, true, true, true, true, true, true, true, true, true, true, true, true, true, true, true, true, true, true, true, true, true, true, true, false, false, false, false, false, false, false, false, false, false, false] rfl rfl (by kernel_rfl) (by decide) (fun K hK => ?_)
  refine goes_ Try.func15 (by kernel_rfl) rfl #[.int .i64 st, .int .i64 a_1] (by rfl) rfl rfl (by simp only [List.map_toArray, List.map_cons, List.map_nil]; rfl) ?_
  with_reducible refine (stream_Count.calls k st a_1 x3 _ E6.out).mono ?_
  rintro e w3 ⟨rfl, hb⟩
  refine ⟨_, rfl, ?_⟩
  have n0_ := Aside0.mk (blk_below BK3.out hb)
  have n1_ := Aside0.mk (blk_below BK4.out hb)
  have n2_ := Aside0.mk (below_step HB.out hb)
  clear BK3 BK4 HB hb
  have BK3 := n0_
  have BK4 := n1_
  have HB := n2_
  clear n0_ n1_ n2_
  refine hK.out _ _ ⟨(blk_cell BK3.out 0).trans rfl, (blk_cell BK3.out 1).trans rfl, (blk_cell BK3.out 2).trans rfl, (blk_cell BK3.out 3).trans rfl, (blk_cell BK3.out 4).trans rfl, (blk_cell BK4.out 0).trans rfl, (blk_cell BK4.out 1).trans rfl, (blk_cell BK4.out 2).trans rfl, (blk_cell BK4.out 3).trans rfl, (blk_cell BK4.out 4).trans rfl⟩ (fun hHeld => ?_)
  clear hK K
  refine norm_ (a' := ?_) ?_ ?_
  rotate_left
  · show Act.put _ (some 57) _ = _
    simp only [Act.put, List.setIfInBounds_toArray, List.set_cons_zero, List.set_cons_succ, i64_w, i32_w]
    rfl
  refine one_ (i := 30) (N := some 61) #[true, true, true, true, true, true, true, true, true, true, true, true, true, true, true, true, true, true, true, true, true, true, true, true, true, true, true, true, true, true, true, false, false, false, false, false, false, false, false, false, false] rfl rfl (by kernel_rfl) (by decide) (fun K hK => ?_)
  refine goes_ Try.func16 (by kernel_rfl) rfl #[.int .i64 st, .int .i64 a_1] (by rfl) rfl rfl (by simp only [List.map_toArray, List.map_cons, List.map_nil]; rfl) ?_
  with_reducible refine ((substationref15_Count.calls st a_1 x3 _ E7.out)).mono ?_
  rintro e w3 ⟨rfl, hd⟩
  refine ⟨_, rfl, ?_⟩
  have hb := hd.below
  clear hd
  have n0_ := Aside0.mk (blk_below BK3.out hb)
  have n1_ := Aside0.mk (blk_below BK4.out hb)
  have n2_ := Aside0.mk (below_step HB.out hb)
  clear BK3 BK4 HB hb
  have BK3 := n0_
  have BK4 := n1_
  have HB := n2_
  clear n0_ n1_ n2_
  refine hK.out _ _ ⟨(blk_cell BK3.out 0).trans rfl, (blk_cell BK3.out 1).trans rfl, (blk_cell BK3.out 2).trans rfl, (blk_cell BK3.out 3).trans rfl, (blk_cell BK3.out 4).trans rfl, (blk_cell BK4.out 0).trans rfl, (blk_cell BK4.out 1).trans rfl, (blk_cell BK4.out 2).trans rfl, (blk_cell BK4.out 3).trans rfl, (blk_cell BK4.out 4).trans rfl⟩ (fun hHeld => ?_)
  clear hK K
  refine norm_ (a' := ?_) ?_ ?_
  rotate_left
  · show Act.put _ (some 61) _ = _
    simp only [Act.put, List.setIfInBounds_toArray, List.set_cons_zero, List.set_cons_succ, i64_w, i32_w]
    rfl
  refine pure_ (i := 31) (N := some 62) (v := ?_) (a' := ?_) #[true, true, true, true, true, true, true, true, true, true, true, true, true, true, true, true, true, true, true, true, true, true, true, true, true, true, true, true, true, true, true, true, false, false, false, false, false, false, false, false, false] rfl rfl (by kernel_rfl) (fun _ _ _ h => h) (Or.inl ⟨by rfl, ?_⟩) ?_ ?_
  rotate_left
  · intro w'
    go_simp
    with_reducible rfl
  rotate_left
  · simp only [Act.put, List.setIfInBounds_toArray, List.set_cons_zero, List.set_cons_succ, i64_w, i32_w]
    rfl
  refine pure_ (i := 32) (N := some 63) (v := ?_) (a' := ?_) #[true, true, true, true, true, true, true, true, true, true, true, true, true, true, true, true, true, true, true, true, true, true, true, true, true, true, true, true, true, true, true, true, true, false, false, false, false, false, false, false, false] rfl rfl (by kernel_rfl) (fun _ _ _ h => h) (Or.inl ⟨by rfl, ?_⟩) ?_ ?_
  rotate_left
  · intro w'
    go_simp
    with_reducible rfl
  rotate_left
  · simp only [Act.put, List.setIfInBounds_toArray, List.set_cons_zero, List.set_cons_succ, i64_w, i32_w]
    rfl
  refine pure_ (i := 33) (N := some 64) (v := ?_) (a' := ?_) #[true, true, true, true, true, true, true, true, true, true, true, true, true, true, true, true, true, true, true, true, true, true, true, true, true, true, true, true, true, true, true, true, true, true, false, false, false, false, false, false, false] rfl rfl (by kernel_rfl) (fun _ _ _ h => h) (Or.inl ⟨by rfl, ?_⟩) ?_ ?_
  rotate_left
  · intro w'
    go_simp
    with_reducible rfl
  rotate_left
  · simp only [Act.put, List.setIfInBounds_toArray, List.set_cons_zero, List.set_cons_succ, i64_w, i32_w]
    rfl
  refine pure_ (i := 34) (N := some 65) (v := ?_) (a' := ?_) #[true, true, true, true, true, true, true, true, true, true, true, true, true, true, true, true, true, true, true, true, true, true, true, true, true, true, true, true, true, true, true, true, true, true, true, false, false, false, false, false, false] rfl rfl (by kernel_rfl) (fun _ _ _ h => h) (Or.inl ⟨by rfl, ?_⟩) ?_ ?_
  rotate_left
  · intro w'
    go_simp
    with_reducible rfl
  rotate_left
  · simp only [Act.put, List.setIfInBounds_toArray, List.set_cons_zero, List.set_cons_succ, i64_w, i32_w]
    rfl
  refine pure_ (i := 36) (N := some 67) (v := ?_) (a' := ?_) #[true, true, true, true, true, true, true, true, true, true, true, true, true, true, true, true, true, true, true, true, true, true, true, true, true, true, true, true, true, true, true, true, true, true, true, false, true, false, false, false, false] rfl rfl (by kernel_rfl) (fun _ _ _ h => h) (Or.inl ⟨by rfl, ?_⟩) ?_ ?_
  rotate_left
  · intro w'
    go_simp
    with_reducible rfl
  rotate_left
  · simp only [Act.put, List.setIfInBounds_toArray, List.set_cons_zero, List.set_cons_succ, i64_w, i32_w]
    rfl
  refine one_ (i := 35) (N := some 66) #[true, true, true, true, true, true, true, true, true, true, true, true, true, true, true, true, true, true, true, true, true, true, true, true, true, true, true, true, true, true, true, true, true, true, true, true, true, false, false, false, false] rfl rfl (by kernel_rfl) (by decide) (fun K hK => ?_)
  refine goes_ Try.func15 (by kernel_rfl) rfl #[.int .i64 st, .int .i64 11] (by rfl) rfl rfl (by simp only [List.map_toArray, List.map_cons, List.map_nil]; rfl) ?_
  with_reducible refine (stream_Count.calls k st 11 x4 _ E8.out).mono ?_
  rintro e w3 ⟨rfl, hb⟩
  refine ⟨_, rfl, ?_⟩
  have n0_ := Aside0.mk (blk_below BK3.out hb)
  have n1_ := Aside0.mk (blk_below BK4.out hb)
  have n2_ := Aside0.mk (below_step HB.out hb)
  clear BK3 BK4 HB hb
  have BK3 := n0_
  have BK4 := n1_
  have HB := n2_
  clear n0_ n1_ n2_
  refine hK.out _ _ ⟨(blk_cell BK3.out 0).trans rfl, (blk_cell BK3.out 1).trans rfl, (blk_cell BK3.out 2).trans rfl, (blk_cell BK3.out 3).trans rfl, (blk_cell BK3.out 4).trans rfl, (blk_cell BK4.out 0).trans rfl, (blk_cell BK4.out 1).trans rfl, (blk_cell BK4.out 2).trans rfl, (blk_cell BK4.out 3).trans rfl, (blk_cell BK4.out 4).trans rfl⟩ (fun hHeld => ?_)
  clear hK K
  refine norm_ (a' := ?_) ?_ ?_
  rotate_left
  · show Act.put _ (some 66) _ = _
    simp only [Act.put, List.setIfInBounds_toArray, List.set_cons_zero, List.set_cons_succ, i64_w, i32_w]
    rfl
  refine one_ (i := 37) (N := some 68) #[true, true, true, true, true, true, true, true, true, true, true, true, true, true, true, true, true, true, true, true, true, true, true, true, true, true, true, true, true, true, true, true, true, true, true, true, true, true, false, false, false] rfl rfl (by kernel_rfl) (by decide) (fun K hK => ?_)
  refine goes_ Try.func16 (by kernel_rfl) rfl #[.int .i64 st, .int .i64 11] (by rfl) rfl rfl (by simp only [List.map_toArray, List.map_cons, List.map_nil]; rfl) ?_
  with_reducible refine ((substationref15_Count.calls st 11 x4 _ E9.out)).mono ?_
  rintro e w3 ⟨rfl, hd⟩
  refine ⟨_, rfl, ?_⟩
  have hb := hd.below
  clear hd
  have n0_ := Aside0.mk (blk_below BK3.out hb)
  have n1_ := Aside0.mk (blk_below BK4.out hb)
  have n2_ := Aside0.mk (below_step HB.out hb)
  clear BK3 BK4 HB hb
  have BK3 := n0_
  have BK4 := n1_
  have HB := n2_
  clear n0_ n1_ n2_
  refine hK.out _ _ ⟨(blk_cell BK3.out 0).trans rfl, (blk_cell BK3.out 1).trans rfl, (blk_cell BK3.out 2).trans rfl, (blk_cell BK3.out 3).trans rfl, (blk_cell BK3.out 4).trans rfl, (blk_cell BK4.out 0).trans rfl, (blk_cell BK4.out 1).trans rfl, (blk_cell BK4.out 2).trans rfl, (blk_cell BK4.out 3).trans rfl, (blk_cell BK4.out 4).trans rfl⟩ (fun hHeld => ?_)
  clear hK K
  refine norm_ (a' := ?_) ?_ ?_
  rotate_left
  · show Act.put _ (some 68) _ = _
    simp only [Act.put, List.setIfInBounds_toArray, List.set_cons_zero, List.set_cons_succ, i64_w, i32_w]
    rfl
  refine pure_ (i := 38) (N := some 69) (v := ?_) (a' := ?_) #[true, true, true, true, true, true, true, true, true, true, true, true, true, true, true, true, true, true, true, true, true, true, true, true, true, true, true, true, true, true, true, true, true, true, true, true, true, true, true, false, false] rfl rfl (by kernel_rfl) (fun _ _ _ h => h) (Or.inl ⟨by rfl, ?_⟩) ?_ ?_
  rotate_left
  · intro w'
    go_simp
    with_reducible rfl
  rotate_left
  · simp only [Act.put, List.setIfInBounds_toArray, List.set_cons_zero, List.set_cons_succ, i64_w, i32_w]
    rfl
  refine pure_ (i := 39) (N := some 70) (v := ?_) (a' := ?_) #[true, true, true, true, true, true, true, true, true, true, true, true, true, true, true, true, true, true, true, true, true, true, true, true, true, true, true, true, true, true, true, true, true, true, true, true, true, true, true, true, false] rfl rfl (by kernel_rfl) (fun _ _ _ h => h) (Or.inl ⟨by rfl, ?_⟩) ?_ ?_
  rotate_left
  · intro w'
    go_simp
    with_reducible rfl
  rotate_left
  · simp only [Act.put, List.setIfInBounds_toArray, List.set_cons_zero, List.set_cons_succ, i64_w, i32_w]
    rfl
  refine pure_ (i := 40) (N := some 6) (v := ?_) (a' := ?_) #[true, true, true, true, true, true, true, true, true, true, true, true, true, true, true, true, true, true, true, true, true, true, true, true, true, true, true, true, true, true, true, true, true, true, true, true, true, true, true, true, true] rfl rfl (by kernel_rfl) (fun _ _ _ h => h) (Or.inl ⟨by rfl, ?_⟩) ?_ ?_
  rotate_left
  · intro w'
    go_simp
    with_reducible rfl
  rotate_left
  · simp only [Act.put, List.setIfInBounds_toArray, List.set_cons_zero, List.set_cons_succ, i64_w, i32_w]
    rfl
  refine done_ (by kernel_rfl) ?_

  go_wp2
  go_ret
  exact ⟨rfl, HB.out⟩
set_option maxHeartbeats 8000000 in
set_option maxRecDepth 100000 in
theorem big1 (k : Nat) (a_0 a_1 : Int) (a_2 : Bool) (Aa_3 : Option Addr) (ca_3 : Nat) (la_3 : List Int) (Aa_4 : Option Addr) (ca_4 : Nat) (la_4 : List Int) (b_0 b_1 : Int) (b_2 : Bool) (Ab_3 : Option Addr) (cb_3 : Nat) (lb_3 : List Int) (Ab_4 : Option Addr) (cb_4 : Nat) (lb_4 : List Int) (st : Int) (w : World)  (h1 : 100 < la_3.length) (e0 : substationlaw15_known.f k = some true) :
    Calls Try.prog 3 #[.agg #[.int .i64 a_0, .int .i64 a_1, .bool a_2, .slice Aa_3 la_3.length ca_3, .slice Aa_4 la_4.length ca_4], .agg #[.int .i64 b_0, .int .i64 b_1, .bool b_2, .slice Ab_3 lb_3.length cb_3, .slice Ab_4 lb_4.length cb_4], .int .i64 st] w fun e w' => e = .returned (.bool true) ∧ Below w.heap.size w w' := by
  have hu24 := Try.underlying24
  have hu29 := Try.underlying29
  have E0 := Aside0.mk e0
  clear e0
  have t1 : decide (100 < (la_3.length : Int)) = true := by simp; omega
  clear h1
  have HB := Aside0.mk (Below.refl w.heap.size w)
  go_enter Try.func3, Try.ntmps3
  go_wp2_with (first
    | ((with_reducible refine gate_dst (N := 3) rfl ?_); refine box_event ?hg (N := 3) ?hd (cs := #[.int .i64 a_0, .int .i64 a_1, .bool a_2, .slice Aa_3 la_3.length ca_3, .slice Aa_4 la_4.length ca_4]) (t := 24) ?hr ?_; (case hd => rfl); (case hg => rfl); (case hr => first | (go_simp; done) | (go_simp; rfl)); intro g3 hg wa hbox hb; have BK3 := Aside0.mk hbox; have n0_ := Aside0.mk (below_step HB.out hb); clear HB; have HB := n0_; clear n0_; clear hb hbox hg)
    | ((with_reducible refine gate_dst (N := 4) rfl ?_); refine box_event ?hg (N := 4) ?hd (cs := #[.int .i64 b_0, .int .i64 b_1, .bool b_2, .slice Ab_3 lb_3.length cb_3, .slice Ab_4 lb_4.length cb_4]) (t := 24) ?hr ?_; (case hd => rfl); (case hg => rfl); (case hr => first | (go_simp; done) | (go_simp; rfl)); intro g4 hg wb hbox hb; have n1_ := Aside0.mk (blk_below BK3.out hb); have BK4 := Aside0.mk hbox; have n0_ := Aside0.mk (below_step HB.out hb); clear HB BK3; have HB := n0_; have BK3 := n1_; clear n0_ n1_; clear hb hbox hg)
    | (go_at_call 9; (with_reducible refine (substationlaw15_known.calls k true _ E0.out).mono ?_); rintro e wc ⟨rfl, hb⟩; have n0_ := Aside0.mk (blk_below BK3.out hb); have n1_ := Aside0.mk (blk_below BK4.out hb); have n2_ := Aside0.mk (below_step HB.out hb); clear BK3 BK4 HB hb; have BK3 := n0_; have BK4 := n1_; have HB := n2_; clear n0_ n1_ n2_; have hc33 : wc.cell? ⟨g3, 3, none⟩ = some (.slice Aa_3 la_3.length ca_3) := (blk_cell BK3.out 3).trans rfl; have hc34 : wc.cell? ⟨g3, 4, none⟩ = some (.slice Aa_4 la_4.length ca_4) := (blk_cell BK3.out 4).trans rfl; have hc43 : wc.cell? ⟨g4, 3, none⟩ = some (.slice Ab_3 lb_3.length cb_3) := (blk_cell BK4.out 3).trans rfl; have hc44 : wc.cell? ⟨g4, 4, none⟩ = some (.slice Ab_4 lb_4.length cb_4) := (blk_cell BK4.out 4).trans rfl))
  go_ret
  exact ⟨rfl, HB.out⟩
set_option maxHeartbeats 8000000 in
set_option maxRecDepth 100000 in
theorem big2 (k : Nat) (a_0 a_1 : Int) (a_2 : Bool) (Aa_3 : Option Addr) (ca_3 : Nat) (la_3 : List Int) (Aa_4 : Option Addr) (ca_4 : Nat) (la_4 : List Int) (b_0 b_1 : Int) (b_2 : Bool) (Ab_3 : Option Addr) (cb_3 : Nat) (lb_3 : List Int) (Ab_4 : Option Addr) (cb_4 : Nat) (lb_4 : List Int) (st : Int) (w : World) (h1 : ¬ 100 < la_3.length) (h2 : 100 < lb_3.length) (e0 : substationlaw15_known.f k = some true) :
    Calls Try.prog 3 #[.agg #[.int .i64 a_0, .int .i64 a_1, .bool a_2, .slice Aa_3 la_3.length ca_3, .slice Aa_4 la_4.length ca_4], .agg #[.int .i64 b_0, .int .i64 b_1, .bool b_2, .slice Ab_3 lb_3.length cb_3, .slice Ab_4 lb_4.length cb_4], .int .i64 st] w fun e w' => e = .returned (.bool true) ∧ Below w.heap.size w w' := by
  have hu24 := Try.underlying24
  have hu29 := Try.underlying29
  have E0 := Aside0.mk e0
  clear e0
  have t1 : decide (100 < (la_3.length : Int)) = false := by simp; omega
  have t2 : decide (100 < (lb_3.length : Int)) = true := by simp; omega
  clear h1 h2
  have HB := Aside0.mk (Below.refl w.heap.size w)
  go_enter Try.func3, Try.ntmps3
  go_wp2_with (first
    | ((with_reducible refine gate_dst (N := 3) rfl ?_); refine box_event ?hg (N := 3) ?hd (cs := #[.int .i64 a_0, .int .i64 a_1, .bool a_2, .slice Aa_3 la_3.length ca_3, .slice Aa_4 la_4.length ca_4]) (t := 24) ?hr ?_; (case hd => rfl); (case hg => rfl); (case hr => first | (go_simp; done) | (go_simp; rfl)); intro g3 hg wa hbox hb; have BK3 := Aside0.mk hbox; have n0_ := Aside0.mk (below_step HB.out hb); clear HB; have HB := n0_; clear n0_; clear hb hbox hg)
    | ((with_reducible refine gate_dst (N := 4) rfl ?_); refine box_event ?hg (N := 4) ?hd (cs := #[.int .i64 b_0, .int .i64 b_1, .bool b_2, .slice Ab_3 lb_3.length cb_3, .slice Ab_4 lb_4.length cb_4]) (t := 24) ?hr ?_; (case hd => rfl); (case hg => rfl); (case hr => first | (go_simp; done) | (go_simp; rfl)); intro g4 hg wb hbox hb; have n1_ := Aside0.mk (blk_below BK3.out hb); have BK4 := Aside0.mk hbox; have n0_ := Aside0.mk (below_step HB.out hb); clear HB BK3; have HB := n0_; have BK3 := n1_; clear n0_ n1_; clear hb hbox hg)
    | (go_at_call 9; (with_reducible refine (substationlaw15_known.calls k true _ E0.out).mono ?_); rintro e wc ⟨rfl, hb⟩; have n0_ := Aside0.mk (blk_below BK3.out hb); have n1_ := Aside0.mk (blk_below BK4.out hb); have n2_ := Aside0.mk (below_step HB.out hb); clear BK3 BK4 HB hb; have BK3 := n0_; have BK4 := n1_; have HB := n2_; clear n0_ n1_ n2_; have hc33 : wc.cell? ⟨g3, 3, none⟩ = some (.slice Aa_3 la_3.length ca_3) := (blk_cell BK3.out 3).trans rfl; have hc34 : wc.cell? ⟨g3, 4, none⟩ = some (.slice Aa_4 la_4.length ca_4) := (blk_cell BK3.out 4).trans rfl; have hc43 : wc.cell? ⟨g4, 3, none⟩ = some (.slice Ab_3 lb_3.length cb_3) := (blk_cell BK4.out 3).trans rfl; have hc44 : wc.cell? ⟨g4, 4, none⟩ = some (.slice Ab_4 lb_4.length cb_4) := (blk_cell BK4.out 4).trans rfl))
  go_ret
  exact ⟨rfl, HB.out⟩
set_option maxHeartbeats 8000000 in
set_option maxRecDepth 100000 in
theorem big3 (k : Nat) (a_0 a_1 : Int) (a_2 : Bool) (Aa_3 : Option Addr) (ca_3 : Nat) (la_3 : List Int) (Aa_4 : Option Addr) (ca_4 : Nat) (la_4 : List Int) (b_0 b_1 : Int) (b_2 : Bool) (Ab_3 : Option Addr) (cb_3 : Nat) (lb_3 : List Int) (Ab_4 : Option Addr) (cb_4 : Nat) (lb_4 : List Int) (st : Int) (w : World) (h1 : ¬ 100 < la_3.length) (h2 : ¬ 100 < lb_3.length) (h3 : 100 < la_4.length) (e0 : substationlaw15_known.f k = some true) :
    Calls Try.prog 3 #[.agg #[.int .i64 a_0, .int .i64 a_1, .bool a_2, .slice Aa_3 la_3.length ca_3, .slice Aa_4 la_4.length ca_4], .agg #[.int .i64 b_0, .int .i64 b_1, .bool b_2, .slice Ab_3 lb_3.length cb_3, .slice Ab_4 lb_4.length cb_4], .int .i64 st] w fun e w' => e = .returned (.bool true) ∧ Below w.heap.size w w' := by
  have hu24 := Try.underlying24
  have hu29 := Try.underlying29
  have E0 := Aside0.mk e0
  clear e0
  have t1 : decide (100 < (la_3.length : Int)) = false := by simp; omega
  have t2 : decide (100 < (lb_3.length : Int)) = false := by simp; omega
  have t3 : decide (100 < (la_4.length : Int)) = true := by simp; omega
  clear h1 h2 h3
  have HB := Aside0.mk (Below.refl w.heap.size w)
  go_enter Try.func3, Try.ntmps3
  go_wp2_with (first
    | ((with_reducible refine gate_dst (N := 3) rfl ?_); refine box_event ?hg (N := 3) ?hd (cs := #[.int .i64 a_0, .int .i64 a_1, .bool a_2, .slice Aa_3 la_3.length ca_3, .slice Aa_4 la_4.length ca_4]) (t := 24) ?hr ?_; (case hd => rfl); (case hg => rfl); (case hr => first | (go_simp; done) | (go_simp; rfl)); intro g3 hg wa hbox hb; have BK3 := Aside0.mk hbox; have n0_ := Aside0.mk (below_step HB.out hb); clear HB; have HB := n0_; clear n0_; clear hb hbox hg)
    | ((with_reducible refine gate_dst (N := 4) rfl ?_); refine box_event ?hg (N := 4) ?hd (cs := #[.int .i64 b_0, .int .i64 b_1, .bool b_2, .slice Ab_3 lb_3.length cb_3, .slice Ab_4 lb_4.length cb_4]) (t := 24) ?hr ?_; (case hd => rfl); (case hg => rfl); (case hr => first | (go_simp; done) | (go_simp; rfl)); intro g4 hg wb hbox hb; have n1_ := Aside0.mk (blk_below BK3.out hb); have BK4 := Aside0.mk hbox; have n0_ := Aside0.mk (below_step HB.out hb); clear HB BK3; have HB := n0_; have BK3 := n1_; clear n0_ n1_; clear hb hbox hg)
    | (go_at_call 9; (with_reducible refine (substationlaw15_known.calls k true _ E0.out).mono ?_); rintro e wc ⟨rfl, hb⟩; have n0_ := Aside0.mk (blk_below BK3.out hb); have n1_ := Aside0.mk (blk_below BK4.out hb); have n2_ := Aside0.mk (below_step HB.out hb); clear BK3 BK4 HB hb; have BK3 := n0_; have BK4 := n1_; have HB := n2_; clear n0_ n1_ n2_; have hc33 : wc.cell? ⟨g3, 3, none⟩ = some (.slice Aa_3 la_3.length ca_3) := (blk_cell BK3.out 3).trans rfl; have hc34 : wc.cell? ⟨g3, 4, none⟩ = some (.slice Aa_4 la_4.length ca_4) := (blk_cell BK3.out 4).trans rfl; have hc43 : wc.cell? ⟨g4, 3, none⟩ = some (.slice Ab_3 lb_3.length cb_3) := (blk_cell BK4.out 3).trans rfl; have hc44 : wc.cell? ⟨g4, 4, none⟩ = some (.slice Ab_4 lb_4.length cb_4) := (blk_cell BK4.out 4).trans rfl))
  go_ret
  exact ⟨rfl, HB.out⟩
set_option maxHeartbeats 8000000 in
set_option maxRecDepth 100000 in
theorem big4 (k : Nat) (a_0 a_1 : Int) (a_2 : Bool) (Aa_3 : Option Addr) (ca_3 : Nat) (la_3 : List Int) (Aa_4 : Option Addr) (ca_4 : Nat) (la_4 : List Int) (b_0 b_1 : Int) (b_2 : Bool) (Ab_3 : Option Addr) (cb_3 : Nat) (lb_3 : List Int) (Ab_4 : Option Addr) (cb_4 : Nat) (lb_4 : List Int) (st : Int) (w : World) (h1 : ¬ 100 < la_3.length) (h2 : ¬ 100 < lb_3.length) (h3 : ¬ 100 < la_4.length) (h4 : 100 < lb_4.length) (e0 : substationlaw15_known.f k = some true) :
    Calls Try.prog 3 #[.agg #[.int .i64 a_0, .int .i64 a_1, .bool a_2, .slice Aa_3 la_3.length ca_3, .slice Aa_4 la_4.length ca_4], .agg #[.int .i64 b_0, .int .i64 b_1, .bool b_2, .slice Ab_3 lb_3.length cb_3, .slice Ab_4 lb_4.length cb_4], .int .i64 st] w fun e w' => e = .returned (.bool true) ∧ Below w.heap.size w w' := by
  have hu24 := Try.underlying24
  have hu29 := Try.underlying29
  have E0 := Aside0.mk e0
  clear e0
  have t1 : decide (100 < (la_3.length : Int)) = false := by simp; omega
  have t2 : decide (100 < (lb_3.length : Int)) = false := by simp; omega
  have t3 : decide (100 < (la_4.length : Int)) = false := by simp; omega
  have t4 : decide (100 < (lb_4.length : Int)) = true := by simp; omega
  clear h1 h2 h3 h4
  have HB := Aside0.mk (Below.refl w.heap.size w)
  go_enter Try.func3, Try.ntmps3
  go_wp2_with (first
    | ((with_reducible refine gate_dst (N := 3) rfl ?_); refine box_event ?hg (N := 3) ?hd (cs := #[.int .i64 a_0, .int .i64 a_1, .bool a_2, .slice Aa_3 la_3.length ca_3, .slice Aa_4 la_4.length ca_4]) (t := 24) ?hr ?_; (case hd => rfl); (case hg => rfl); (case hr => first | (go_simp; done) | (go_simp; rfl)); intro g3 hg wa hbox hb; have BK3 := Aside0.mk hbox; have n0_ := Aside0.mk (below_step HB.out hb); clear HB; have HB := n0_; clear n0_; clear hb hbox hg)
    | ((with_reducible refine gate_dst (N := 4) rfl ?_); refine box_event ?hg (N := 4) ?hd (cs := #[.int .i64 b_0, .int .i64 b_1, .bool b_2, .slice Ab_3 lb_3.length cb_3, .slice Ab_4 lb_4.length cb_4]) (t := 24) ?hr ?_; (case hd => rfl); (case hg => rfl); (case hr => first | (go_simp; done) | (go_simp; rfl)); intro g4 hg wb hbox hb; have n1_ := Aside0.mk (blk_below BK3.out hb); have BK4 := Aside0.mk hbox; have n0_ := Aside0.mk (below_step HB.out hb); clear HB BK3; have HB := n0_; have BK3 := n1_; clear n0_ n1_; clear hb hbox hg)
    | (go_at_call 9; (with_reducible refine (substationlaw15_known.calls k true _ E0.out).mono ?_); rintro e wc ⟨rfl, hb⟩; have n0_ := Aside0.mk (blk_below BK3.out hb); have n1_ := Aside0.mk (blk_below BK4.out hb); have n2_ := Aside0.mk (below_step HB.out hb); clear BK3 BK4 HB hb; have BK3 := n0_; have BK4 := n1_; have HB := n2_; clear n0_ n1_ n2_; have hc33 : wc.cell? ⟨g3, 3, none⟩ = some (.slice Aa_3 la_3.length ca_3) := (blk_cell BK3.out 3).trans rfl; have hc34 : wc.cell? ⟨g3, 4, none⟩ = some (.slice Aa_4 la_4.length ca_4) := (blk_cell BK3.out 4).trans rfl; have hc43 : wc.cell? ⟨g4, 3, none⟩ = some (.slice Ab_3 lb_3.length cb_3) := (blk_cell BK4.out 3).trans rfl; have hc44 : wc.cell? ⟨g4, 4, none⟩ = some (.slice Ab_4 lb_4.length cb_4) := (blk_cell BK4.out 4).trans rfl))
  go_ret
  exact ⟨rfl, HB.out⟩

def substationlaw15_StreamChecks.f (k : Nat) (a_0 a_1 : Int) (a_2 : Bool) (la_3 la_4 : List Int) (b_0 b_1 : Int) (b_2 : Bool) (lb_3 lb_4 : List Int) (st : Int) : Option Bool :=
  (substationlaw15_known.f k).bind fun t => if t = true then (if 100 < la_3.length ∨ 100 < lb_3.length ∨ 100 < la_4.length ∨ 100 < lb_4.length then some true else
    (stream_Check.f k a_0 a_1 a_2 la_3 la_4).bind fun x1 => (substationref15_Check.f k a_0 a_1 a_2 la_3 la_4).bind fun y1 =>
    (stream_Same.f k a_0 a_1 a_2 la_3 la_4 b_0 b_1 b_2 lb_3 lb_4).bind fun x2 => (substationref15_Same.f k a_0 a_1 a_2 la_3 la_4 b_0 b_1 b_2 lb_3 lb_4).bind fun y2 =>
    (stream_Same.f k a_0 a_1 a_2 la_3 la_4 a_0 a_1 a_2 la_3 la_4).bind fun z => (stream_Count.f k st a_1).bind fun x3 => (substationref15_Count.f st a_1).bind fun y3 =>
    (stream_Count.f k st 11).bind fun x4 => (substationref15_Count.f st 11).bind fun y4 => if x1 = y1 ∧ x2 = y2 ∧ z = true ∧ x3 = y3 ∧ x4 = y4 then some true else none) else none
theorem substationlaw15_StreamChecks.calls (k : Nat) (a_0 a_1 : Int) (a_2 : Bool) (Aa_3 : Option Addr) (ca_3 : Nat) (la_3 : List Int) (Aa_4 : Option Addr) (ca_4 : Nat) (la_4 : List Int) (b_0 b_1 : Int) (b_2 : Bool) (Ab_3 : Option Addr) (cb_3 : Nat) (lb_3 : List Int) (Ab_4 : Option Addr) (cb_4 : Nat) (lb_4 : List Int) (st : Int) (w : World) (hra_3 : Kd.C (Kd.int .i64) w Aa_3 la_3.length la_3) (hca_3 : la_3.length ≤ ca_3) (hra_4 : Kd.C (Kd.int .i64) w Aa_4 la_4.length la_4) (hca_4 : la_4.length ≤ ca_4) (hrb_3 : Kd.C (Kd.int .i64) w Ab_3 lb_3.length lb_3) (hcb_3 : lb_3.length ≤ cb_3) (hrb_4 : Kd.C (Kd.int .i64) w Ab_4 lb_4.length lb_4) (hcb_4 : lb_4.length ≤ cb_4)
    (h : substationlaw15_StreamChecks.f k a_0 a_1 a_2 la_3 la_4 b_0 b_1 b_2 lb_3 lb_4 st = some true) :
    Calls Try.prog 3 #[.agg #[.int .i64 a_0, .int .i64 a_1, .bool a_2, .slice Aa_3 la_3.length ca_3, .slice Aa_4 la_4.length ca_4], .agg #[.int .i64 b_0, .int .i64 b_1, .bool b_2, .slice Ab_3 lb_3.length cb_3, .slice Ab_4 lb_4.length cb_4], .int .i64 st] w fun e w' => e = .returned (.bool true) ∧ Below w.heap.size w w' := by
  unfold substationlaw15_StreamChecks.f at h
  obtain ⟨t, e0, h⟩ := Option.bind_eq_some_iff.mp h
  by_cases ht : t = true
  · rw [if_pos ht] at h
    subst ht
    by_cases h1 : 100 < la_3.length
    · exact big1 k a_0 a_1 a_2 Aa_3 ca_3 la_3 Aa_4 ca_4 la_4 b_0 b_1 b_2 Ab_3 cb_3 lb_3 Ab_4 cb_4 lb_4 st w h1 e0
    by_cases h2 : 100 < lb_3.length
    · exact big2 k a_0 a_1 a_2 Aa_3 ca_3 la_3 Aa_4 ca_4 la_4 b_0 b_1 b_2 Ab_3 cb_3 lb_3 Ab_4 cb_4 lb_4 st w h1 h2 e0
    by_cases h3 : 100 < la_4.length
    · exact big3 k a_0 a_1 a_2 Aa_3 ca_3 la_3 Aa_4 ca_4 la_4 b_0 b_1 b_2 Ab_3 cb_3 lb_3 Ab_4 cb_4 lb_4 st w h1 h2 h3 e0
    by_cases h4 : 100 < lb_4.length
    · exact big4 k a_0 a_1 a_2 Aa_3 ca_3 la_3 Aa_4 ca_4 la_4 b_0 b_1 b_2 Ab_3 cb_3 lb_3 Ab_4 cb_4 lb_4 st w h1 h2 h3 h4 e0
    rw [if_neg (by omega)] at h
    obtain ⟨x1, e1, h⟩ := Option.bind_eq_some_iff.mp h
    obtain ⟨y1, e2, h⟩ := Option.bind_eq_some_iff.mp h
    obtain ⟨x2, e3, h⟩ := Option.bind_eq_some_iff.mp h
    obtain ⟨y2, e4, h⟩ := Option.bind_eq_some_iff.mp h
    obtain ⟨z, e5, h⟩ := Option.bind_eq_some_iff.mp h
    obtain ⟨x3, e6, h⟩ := Option.bind_eq_some_iff.mp h
    obtain ⟨y3, e7, h⟩ := Option.bind_eq_some_iff.mp h
    obtain ⟨x4, e8, h⟩ := Option.bind_eq_some_iff.mp h
    obtain ⟨y4, e9, h⟩ := Option.bind_eq_some_iff.mp h
    by_cases hc : x1 = y1 ∧ x2 = y2 ∧ z = true ∧ x3 = y3 ∧ x4 = y4
    · obtain ⟨rfl, rfl, rfl, rfl, rfl⟩ := hc
      exact checks_walk k a_0 a_1 a_2 Aa_3 ca_3 la_3 Aa_4 ca_4 la_4 b_0 b_1 b_2 Ab_3 cb_3 lb_3 Ab_4 cb_4 lb_4 st w hra_3 hca_3 hra_4 hca_4 hrb_3 hcb_3 hrb_4 hcb_4 _ _ _ _ (by omega) (by omega) (by omega) (by omega) e0 e1 e2 e3 e4 e5 e6 e7 e8 e9
    · rw [if_neg hc] at h; cases h
  · rw [if_neg ht] at h; cases h
end Go.Proofs.Ytlfphopfoicjpaa.PAll
