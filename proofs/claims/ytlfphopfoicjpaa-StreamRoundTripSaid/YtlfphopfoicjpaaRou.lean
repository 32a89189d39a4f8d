/- The walk of the law StreamRoundTrip, as far as it returns true: what it computes is its '.f'. Conditions: none. -/
import Derived.Test.YtlfphopfoicjpaaPAllx7
import Derived.Test.YtlfphopfoicjpaaPAllx5
import Derived.Test.YtlfphopfoicjpaaChk
namespace Go.Proofs.Ytlfphopfoicjpaa.PAll
open Go.RowKit Go.Proofs.YtlfphopfoicjpaaW.PrintWords Go.Proofs.YtlfphopfoicjpaaW.PrintLast Go.Proofs.YtlfphopfoicjpaaW.PrintMore
attribute [local go_sem] max2_int min2_int max_two min_two max_three min_three max_four min_four
set_option linter.unusedVariables false
set_option linter.unusedSimpArgs false
set_option maxHeartbeats 8000000 in
set_option maxRecDepth 100000 in
theorem round_11 (k : Nat) (a_0 a_1 : Int) (a_2 : Bool) (Aa_3 : Option Addr) (ca_3 : Nat) (la_3 : List Int) (Aa_4 : Option Addr) (ca_4 : Nat) (la_4 : List Int) (Ab : Option Addr) (cb : Nat) (lb : List Int) (w : World) (hra_3 : Kd.C (Kd.int .i64) w Aa_3 la_3.length la_3) (hca_3 : la_3.length ≤ ca_3) (hra_4 : Kd.C (Kd.int .i64) w Aa_4 la_4.length la_4) (hca_4 : la_4.length ≤ ca_4) (hrb : Kd.C (Kd.int .u8) w Ab lb.length lb) (hcb : lb.length ≤ cb)
    (x : List Int) (e : Int) (q_0 q_1 : Int) (q_2 : Bool) (lq_3 lq_4 : List Int) (h : Int) (p_0 p_1 : Int) (p_2 : Bool) (lp_3 lp_4 : List Int) (y : List Int) (e0 : substationlaw15_known.f k = some true) (e1 : stream_Encode.f k a_0 a_1 a_2 la_3 la_4 = some (x, 0)) (e2 : stream_Decode.f k x = some (p_0, p_1, p_2, lp_3, lp_4, 0)) (e3 : substationref15_Same.f k p_0 p_1 p_2 lp_3 lp_4 a_0 a_1 a_2 la_3 la_4 = some true) (e4 : stream_Decode.f k lb = some (q_0, q_1, q_2, lq_3, lq_4, 0)) (e5 : stream_Encode.f k q_0 q_1 q_2 lq_3 lq_4 = some (y, 0)) (e6 : strOfNums y = strOfNums lb)  :
    Calls Try.prog 6 #[.agg #[.int .i64 a_0, .int .i64 a_1, .bool a_2, .slice Aa_3 la_3.length ca_3, .slice Aa_4 la_4.length ca_4], .slice Ab lb.length cb] w fun e w' => e = .returned (.bool true) ∧ Below w.heap.size w w' := by
  have hu24 := Try.underlying24
  have hu29 := Try.underlying29
  have E0 := Aside0.mk e0
  have E1 := Aside0.mk e1
  have E2 := Aside0.mk e2
  have E3 := Aside0.mk e3
  have E4 := Aside0.mk e4
  have E5 := Aside0.mk e5
  have E6 := Aside0.mk e6
  clear e0 e1 e2 e3 e4 e5 e6
  have HB := Aside0.mk (Below.refl w.heap.size w)
  have HA3 := Aside0.mk hra_3
  have HA4 := Aside0.mk hra_4
  have HR := Aside0.mk hrb
  clear hra_3 hra_4 hrb
  go_enter Try.func6, Try.ntmps6
  go_wp2_with (first | ((with_reducible refine gate_dst (N := 2) rfl ?_); refine box_event ?hg (N := 2) ?hd (cs := #[.int .i64 a_0, .int .i64 a_1, .bool a_2, .slice Aa_3 la_3.length ca_3, .slice Aa_4 la_4.length ca_4]) (t := 24) ?hr ?_; (case hd => rfl); (case hg => rfl); (case hr => first | (go_simp; done) | (go_simp; rfl)); intro g2 hg wx2 hbox hb; have BK2 := Aside0.mk hbox; have Hb := Aside0.mk hb; clear hbox hb hg))
  have n0_ := Aside0.mk (Kd.C_below HA3.out Hb.out)
  have n1_ := Aside0.mk (Kd.C_below HA4.out Hb.out)
  have n2_ := Aside0.mk (Kd.C_below HR.out Hb.out)
  have n3_ := Aside0.mk (below_step HB.out Hb.out)
  clear HA3 HA4 HR HB
  have HA3 := n0_
  have HA4 := n1_
  have HR := n2_
  have HB := n3_
  clear n0_ n1_ n2_ n3_
  clear Hb
  refine (substationlaw15_known.calls k true _ E0.out).mono ?_
  rintro e_ w1 ⟨rfl, hb⟩
  have n0_ := Aside0.mk (blk_below BK2.out hb)
  have n1_ := Aside0.mk (Kd.C_below HA3.out hb)
  have n2_ := Aside0.mk (Kd.C_below HA4.out hb)
  have n3_ := Aside0.mk (Kd.C_below HR.out hb)
  have n4_ := Aside0.mk (below_step HB.out hb)
  clear BK2 HA3 HA4 HR HB
  have BK2 := n0_
  have HA3 := n1_
  have HA4 := n2_
  have HR := n3_
  have HB := n4_
  clear n0_ n1_ n2_ n3_ n4_
  clear hb
  have hc_BK2_0 : w1.cell? ⟨g2, 0, none⟩ = some (.int .i64 a_0) := (blk_cell BK2.out 0).trans rfl
  have hc_BK2_1 : w1.cell? ⟨g2, 1, none⟩ = some (.int .i64 a_1) := (blk_cell BK2.out 1).trans rfl
  have hc_BK2_2 : w1.cell? ⟨g2, 2, none⟩ = some (.bool a_2) := (blk_cell BK2.out 2).trans rfl
  have hc_BK2_3 : w1.cell? ⟨g2, 3, none⟩ = some (.slice Aa_3 la_3.length ca_3) := (blk_cell BK2.out 3).trans rfl
  have hc_BK2_4 : w1.cell? ⟨g2, 4, none⟩ = some (.slice Aa_4 la_4.length ca_4) := (blk_cell BK2.out 4).trans rfl
  go_wp2_with fail
  clear hc_BK2_0 hc_BK2_1 hc_BK2_2 hc_BK2_3 hc_BK2_4
  refine (stream_Encode.calls k a_0 a_1 a_2 Aa_3 ca_3 la_3 Aa_4 ca_4 la_4 x 0 _ HA3.out hca_3 HA4.out hca_4 E1.out).mono ?_
  rintro e_ w2 ⟨v_, rfl, ho, hb⟩
  have n0_ := Aside0.mk (blk_below BK2.out hb)
  have n1_ := Aside0.mk (Kd.C_below HA3.out hb)
  have n2_ := Aside0.mk (Kd.C_below HA4.out hb)
  have n3_ := Aside0.mk (Kd.C_below HR.out hb)
  have n4_ := Aside0.mk (below_step HB.out hb)
  clear BK2 HA3 HA4 HR HB
  have BK2 := n0_
  have HA3 := n1_
  have HA4 := n2_
  have HR := n3_
  have HB := n4_
  clear n0_ n1_ n2_ n3_ n4_
  obtain ⟨Ax, cx, rfl⟩ := Kd.R_slice ho
  have hHX := (Kd.R_reads' ho).2.1
  have HX := Aside0.mk (Kd.R_reads' ho).2.2
  clear ho
  clear hb
  go_wp2_with fail
  refine (stream_Decode.calls k Ax cx x p_0 p_1 p_2 lp_3 lp_4 0 _ HX.out hHX E2.out).mono ?_
  rintro e_ w3 ⟨v_, u_, rfl, ho, hp, hb⟩
  have n0_ := Aside0.mk (blk_below BK2.out hb)
  have n1_ := Aside0.mk (Kd.C_below HA3.out hb)
  have n2_ := Aside0.mk (Kd.C_below HA4.out hb)
  have n3_ := Aside0.mk (Kd.C_below HR.out hb)
  have n4_ := Aside0.mk (Kd.C_below HX.out hb)
  have n5_ := Aside0.mk (below_step HB.out hb)
  clear BK2 HA3 HA4 HR HX HB
  have BK2 := n0_
  have HA3 := n1_
  have HA4 := n2_
  have HR := n3_
  have HX := n4_
  have HB := n5_
  clear n0_ n1_ n2_ n3_ n4_ n5_
  obtain ⟨Ap_3, cp_3, rfl⟩ := Kd.R_slice ho
  have hHp3 := (Kd.R_reads' ho).2.1
  have Hp3 := Aside0.mk (Kd.R_reads' ho).2.2
  clear ho
  obtain ⟨Ap_4, cp_4, rfl⟩ := Kd.R_slice hp
  have hHp4 := (Kd.R_reads' hp).2.1
  have Hp4 := Aside0.mk (Kd.R_reads' hp).2.2
  clear hp
  clear hb
  go_upto_region 6 with (first | ((with_reducible refine gate_dst (N := 7) rfl ?_); refine box_event ?hg (N := 7) ?hd (cs := #[.int .i64 0, .int .i64 0, .bool false, .slice none 0 0, .slice none 0 0]) (t := 24) ?hr ?_; (case hd => rfl); (case hg => rfl); (case hr => first | (go_simp; done) | (go_simp; rfl)); intro g7 hg wx7 hbox hb; have BK := Aside0.mk hbox; have Hb := Aside0.mk hb; have Hg := Aside0.mk hg; clear hg hbox hb; have hcz_0 : wx7.cell? ⟨g7, 0, none⟩ = some (.int .i64 0) := (blk_cell BK.out 0).trans rfl; have hfz_0 := blk_frozen BK.out 0; have hcz_1 : wx7.cell? ⟨g7, 1, none⟩ = some (.int .i64 0) := (blk_cell BK.out 1).trans rfl; have hfz_1 := blk_frozen BK.out 1; have hcz_2 : wx7.cell? ⟨g7, 2, none⟩ = some (.bool false) := (blk_cell BK.out 2).trans rfl; have hfz_2 := blk_frozen BK.out 2; have hcz_3 : wx7.cell? ⟨g7, 3, none⟩ = some (.slice none 0 0) := (blk_cell BK.out 3).trans rfl; have hfz_3 := blk_frozen BK.out 3; have hcz_4 : wx7.cell? ⟨g7, 4, none⟩ = some (.slice none 0 0) := (blk_cell BK.out 4).trans rfl; have hfz_4 := blk_frozen BK.out 4))
  have hge : w3.heap.size ≤ g7 := by rw [Hg.out]; exact Nat.le_refl _
  have hb : Below w3.heap.size w3 (((((wx7.setCell ⟨g7, 0, none⟩ (.int .i64 p_0)).setCell ⟨g7, 1, none⟩ (.int .i64 p_1)).setCell ⟨g7, 2, none⟩ (.bool p_2)).setCell ⟨g7, 3, none⟩ (.slice Ap_3 lp_3.length cp_3)).setCell ⟨g7, 4, none⟩ (.slice Ap_4 lp_4.length cp_4)) := (below_set (below_set (below_set (below_set (below_set Hb.out hge) hge) hge) hge) hge)
  have hbx : (((((wx7.setCell ⟨g7, 0, none⟩ (.int .i64 p_0)).setCell ⟨g7, 1, none⟩ (.int .i64 p_1)).setCell ⟨g7, 2, none⟩ (.bool p_2)).setCell ⟨g7, 3, none⟩ (.slice Ap_3 lp_3.length cp_3)).setCell ⟨g7, 4, none⟩ (.slice Ap_4 lp_4.length cp_4)).heap[g7]? = some (.cells #[.int .i64 p_0, .int .i64 p_1, .bool p_2, .slice Ap_3 lp_3.length cp_3, .slice Ap_4 lp_4.length cp_4] 24 (0, 0)) := (blk_put (cs' := #[.int .i64 p_0, .int .i64 p_1, .bool p_2, .slice Ap_3 lp_3.length cp_3, .slice Ap_4 lp_4.length cp_4]) (blk_put (cs' := #[.int .i64 p_0, .int .i64 p_1, .bool p_2, .slice Ap_3 lp_3.length cp_3, .slice none 0 0]) (blk_put (cs' := #[.int .i64 p_0, .int .i64 p_1, .bool p_2, .slice none 0 0, .slice none 0 0]) (blk_put (cs' := #[.int .i64 p_0, .int .i64 p_1, .bool false, .slice none 0 0, .slice none 0 0]) (blk_put (cs' := #[.int .i64 p_0, .int .i64 0, .bool false, .slice none 0 0, .slice none 0 0]) BK.out 0 (.int .i64 p_0) rfl) 1 (.int .i64 p_1) rfl) 2 (.bool p_2) rfl) 3 (.slice Ap_3 lp_3.length cp_3) rfl) 4 (.slice Ap_4 lp_4.length cp_4) rfl)
  clear hcz_0 hfz_0 hcz_1 hfz_1 hcz_2 hfz_2 hcz_3 hfz_3 hcz_4 hfz_4 BK Hb Hg hge
  generalize (((((wx7.setCell ⟨g7, 0, none⟩ (.int .i64 p_0)).setCell ⟨g7, 1, none⟩ (.int .i64 p_1)).setCell ⟨g7, 2, none⟩ (.bool p_2)).setCell ⟨g7, 3, none⟩ (.slice Ap_3 lp_3.length cp_3)).setCell ⟨g7, 4, none⟩ (.slice Ap_4 lp_4.length cp_4)) = w4 at hb hbx ⊢
  have n0_ := Aside0.mk (blk_below BK2.out hb)
  have n1_ := Aside0.mk (Kd.C_below HA3.out hb)
  have n2_ := Aside0.mk (Kd.C_below HA4.out hb)
  have n3_ := Aside0.mk (Kd.C_below HR.out hb)
  have n4_ := Aside0.mk (Kd.C_below HX.out hb)
  have n5_ := Aside0.mk (Kd.C_below Hp3.out hb)
  have n6_ := Aside0.mk (Kd.C_below Hp4.out hb)
  have n7_ := Aside0.mk (below_step HB.out hb)
  clear BK2 HA3 HA4 HR HX Hp3 Hp4 HB
  have BK2 := n0_
  have HA3 := n1_
  have HA4 := n2_
  have HR := n3_
  have HX := n4_
  have Hp3 := n5_
  have Hp4 := n6_
  have HB := n7_
  clear n0_ n1_ n2_ n3_ n4_ n5_ n6_ n7_
  clear hb
  have BK7 := Aside0.mk hbx
  clear hbx
  have n0_ := Aside0.mk (blk_drew BK2.out)
  have n1_ := Aside0.mk (blk_drew BK7.out)
  have n2_ := Aside0.mk (Kd.C_drew HA3.out)
  have n3_ := Aside0.mk (Kd.C_drew HA4.out)
  have n4_ := Aside0.mk (Kd.C_drew HR.out)
  have n5_ := Aside0.mk (Kd.C_drew HX.out)
  have n6_ := Aside0.mk (Kd.C_drew Hp3.out)
  have n7_ := Aside0.mk (Kd.C_drew Hp4.out)
  have n8_ := Aside0.mk (below_drew1 HB.out)
  clear BK2 BK7 HA3 HA4 HR HX Hp3 Hp4 HB
  have BK2 := n0_
  have BK7 := n1_
  have HA3 := n2_
  have HA4 := n3_
  have HR := n4_
  have HX := n5_
  have Hp3 := n6_
  have Hp4 := n7_
  have HB := n8_
  clear n0_ n1_ n2_ n3_ n4_ n5_ n6_ n7_ n8_
  refine start_ (n := 10) (S := fun w' => w'.cell? ⟨g7, 0, none⟩ = some (.int .i64 p_0) ∧ w'.cell? ⟨g7, 1, none⟩ = some (.int .i64 p_1) ∧ w'.cell? ⟨g7, 2, none⟩ = some (.bool p_2) ∧ w'.cell? ⟨g7, 3, none⟩ = some (.slice Ap_3 lp_3.length cp_3) ∧ w'.cell? ⟨g7, 4, none⟩ = some (.slice Ap_4 lp_4.length cp_4) ∧ w'.cell? ⟨g2, 0, none⟩ = some (.int .i64 a_0) ∧ w'.cell? ⟨g2, 1, none⟩ = some (.int .i64 a_1) ∧ w'.cell? ⟨g2, 2, none⟩ = some (.bool a_2) ∧ w'.cell? ⟨g2, 3, none⟩ = some (.slice Aa_3 la_3.length ca_3) ∧ w'.cell? ⟨g2, 4, none⟩ = some (.slice Aa_4 la_4.length ca_4)) (ds := []) #[false, false, false, false, false, false, false, false, false, false] (by kernel_rfl) rfl rfl ⟨(blk_cell BK7.out 0).trans rfl, (blk_cell BK7.out 1).trans rfl, (blk_cell BK7.out 2).trans rfl, (blk_cell BK7.out 3).trans rfl, (blk_cell BK7.out 4).trans rfl, (blk_cell BK2.out 0).trans rfl, (blk_cell BK2.out 1).trans rfl, (blk_cell BK2.out 2).trans rfl, (blk_cell BK2.out 3).trans rfl, (blk_cell BK2.out 4).trans rfl⟩ (fun hHeld => ?_)
  generalize w4.drew = wd at BK2 BK7 HA3 HA4 HR HX Hp3 Hp4 HB hHeld ⊢
  refine pure_ (i := 0) (N := some 27) (v := ?_) (a' := ?_) #[true, false, false, false, false, false, false, false, false, false] rfl rfl (by kernel_rfl) (fun _ _ _ h => h) (Or.inl ⟨by rfl, ?_⟩) ?_ ?_
  rotate_left
  · intro w'
    go_simp
    with_reducible rfl
  rotate_left
  · simp only [Act.put, List.setIfInBounds_toArray, List.set_cons_zero, List.set_cons_succ, i64_w, i32_w]
    rfl
  refine pure_ (i := 1) (N := some 28) (v := ?_) (a' := ?_) #[true, true, false, false, false, false, false, false, false, false] rfl rfl (by kernel_rfl) (fun _ _ _ h => h) (Or.inl ⟨by rfl, ?_⟩) ?_ ?_
  rotate_left
  · intro w'
    go_simp
    with_reducible rfl
  rotate_left
  · simp only [Act.put, List.setIfInBounds_toArray, List.set_cons_zero, List.set_cons_succ, i64_w, i32_w]
    rfl
  refine pure_ (i := 2) (N := some 29) (v := ?_) (a' := ?_) #[true, true, true, false, false, false, false, false, false, false] rfl rfl (by kernel_rfl) (fun _ _ _ h => h) (Or.inl ⟨by rfl, ?_⟩) ?_ ?_
  rotate_left
  · intro w'
    go_simp
    with_reducible rfl
  rotate_left
  · simp only [Act.put, List.setIfInBounds_toArray, List.set_cons_zero, List.set_cons_succ, i64_w, i32_w]
    rfl
  refine take_ (i := 3) (N := some 30) (v := ?_) (a' := ?_) #[true, true, true, true, false, false, false, false, false, false] rfl rfl (by kernel_rfl) (fun _ _ _ h => h) (Or.inl ⟨by rfl, ?_⟩) hHeld ?_ ?_
  rotate_left
  · rintro w' ⟨s0, s1, s2, s3, s4, s5, s6, s7, s8, s9⟩
    go_simp
    with_reducible rfl
  rotate_left
  · simp only [Act.put, List.setIfInBounds_toArray, List.set_cons_zero, List.set_cons_succ, i64_w, i32_w]
    rfl
  refine take_ (i := 5) (N := some 32) (v := ?_) (a' := ?_) #[true, true, true, true, false, true, false, false, false, false] rfl rfl (by kernel_rfl) (fun _ _ _ h => h) (Or.inl ⟨by rfl, ?_⟩) hHeld ?_ ?_
  rotate_left
  · rintro w' ⟨s0, s1, s2, s3, s4, s5, s6, s7, s8, s9⟩
    go_simp
    with_reducible rfl
  rotate_left
  · simp only [Act.put, List.setIfInBounds_toArray, List.set_cons_zero, List.set_cons_succ, i64_w, i32_w]
    rfl
  refine one_ (i := 4) (N := some 31) #[true, true, true, true, true, true, false, false, false, false] rfl rfl (by kernel_rfl) (by decide) (fun K hK => ?_)
  refine goes_ Try.func12 (by kernel_rfl) rfl #[.agg #[.int .i64 p_0, .int .i64 p_1, .bool p_2, .slice Ap_3 lp_3.length cp_3, .slice Ap_4 lp_4.length cp_4]] (by rfl) rfl rfl (by simp only [List.map_toArray, List.map_cons, List.map_nil]; rfl) ?_
  with_reducible refine (to_x p_0 p_1 p_2 Ap_3 lp_3.length cp_3 Ap_4 lp_4.length cp_4 _).mono ?_
  rintro e_ w5 ⟨rfl, hb⟩
  refine ⟨_, rfl, ?_⟩
  have n0_ := Aside0.mk (blk_below BK2.out hb)
  have n1_ := Aside0.mk (blk_below BK7.out hb)
  have n2_ := Aside0.mk (Kd.C_below HA3.out hb)
  have n3_ := Aside0.mk (Kd.C_below HA4.out hb)
  have n4_ := Aside0.mk (Kd.C_below HR.out hb)
  have n5_ := Aside0.mk (Kd.C_below HX.out hb)
  have n6_ := Aside0.mk (Kd.C_below Hp3.out hb)
  have n7_ := Aside0.mk (Kd.C_below Hp4.out hb)
  have n8_ := Aside0.mk (below_step HB.out hb)
  clear BK2 BK7 HA3 HA4 HR HX Hp3 Hp4 HB
  have BK2 := n0_
  have BK7 := n1_
  have HA3 := n2_
  have HA4 := n3_
  have HR := n4_
  have HX := n5_
  have Hp3 := n6_
  have Hp4 := n7_
  have HB := n8_
  clear n0_ n1_ n2_ n3_ n4_ n5_ n6_ n7_ n8_
  clear hb
  refine hK.out _ _ ⟨(blk_cell BK7.out 0).trans rfl, (blk_cell BK7.out 1).trans rfl, (blk_cell BK7.out 2).trans rfl, (blk_cell BK7.out 3).trans rfl, (blk_cell BK7.out 4).trans rfl, (blk_cell BK2.out 0).trans rfl, (blk_cell BK2.out 1).trans rfl, (blk_cell BK2.out 2).trans rfl, (blk_cell BK2.out 3).trans rfl, (blk_cell BK2.out 4).trans rfl⟩ (fun hHeld => ?_)
  clear hK K
  refine norm_ (a' := ?_) ?_ ?_
  rotate_left
  · show Act.put _ (some 31) _ = _
    simp only [Act.put, List.setIfInBounds_toArray, List.set_cons_zero, List.set_cons_succ, i64_w, i32_w]
    rfl
  refine one_ (i := 6) (N := some 33) #[true, true, true, true, true, true, true, false, false, false] rfl rfl (by kernel_rfl) (by decide) (fun K hK => ?_)
  refine goes_ Try.func12 (by kernel_rfl) rfl #[.agg #[.int .i64 a_0, .int .i64 a_1, .bool a_2, .slice Aa_3 la_3.length ca_3, .slice Aa_4 la_4.length ca_4]] (by rfl) rfl rfl (by simp only [List.map_toArray, List.map_cons, List.map_nil]; rfl) ?_
  with_reducible refine (to_x a_0 a_1 a_2 Aa_3 la_3.length ca_3 Aa_4 la_4.length ca_4 _).mono ?_
  rintro e_ w6 ⟨rfl, hb⟩
  refine ⟨_, rfl, ?_⟩
  have n0_ := Aside0.mk (blk_below BK2.out hb)
  have n1_ := Aside0.mk (blk_below BK7.out hb)
  have n2_ := Aside0.mk (Kd.C_below HA3.out hb)
  have n3_ := Aside0.mk (Kd.C_below HA4.out hb)
  have n4_ := Aside0.mk (Kd.C_below HR.out hb)
  have n5_ := Aside0.mk (Kd.C_below HX.out hb)
  have n6_ := Aside0.mk (Kd.C_below Hp3.out hb)
  have n7_ := Aside0.mk (Kd.C_below Hp4.out hb)
  have n8_ := Aside0.mk (below_step HB.out hb)
  clear BK2 BK7 HA3 HA4 HR HX Hp3 Hp4 HB
  have BK2 := n0_
  have BK7 := n1_
  have HA3 := n2_
  have HA4 := n3_
  have HR := n4_
  have HX := n5_
  have Hp3 := n6_
  have Hp4 := n7_
  have HB := n8_
  clear n0_ n1_ n2_ n3_ n4_ n5_ n6_ n7_ n8_
  clear hb
  refine hK.out _ _ ⟨(blk_cell BK7.out 0).trans rfl, (blk_cell BK7.out 1).trans rfl, (blk_cell BK7.out 2).trans rfl, (blk_cell BK7.out 3).trans rfl, (blk_cell BK7.out 4).trans rfl, (blk_cell BK2.out 0).trans rfl, (blk_cell BK2.out 1).trans rfl, (blk_cell BK2.out 2).trans rfl, (blk_cell BK2.out 3).trans rfl, (blk_cell BK2.out 4).trans rfl⟩ (fun hHeld => ?_)
  clear hK K
  refine norm_ (a' := ?_) ?_ ?_
  rotate_left
  · show Act.put _ (some 33) _ = _
    simp only [Act.put, List.setIfInBounds_toArray, List.set_cons_zero, List.set_cons_succ, i64_w, i32_w]
    rfl
  refine one_ (i := 7) (N := some 34) #[true, true, true, true, true, true, true, true, false, false] rfl rfl (by kernel_rfl) (by decide) (fun K hK => ?_)
  refine goes_ Try.func14 (by kernel_rfl) rfl #[.agg #[.int .i64 p_0, .int .i64 p_1, .bool p_2, .slice Ap_3 lp_3.length cp_3, .slice Ap_4 lp_4.length cp_4], .agg #[.int .i64 a_0, .int .i64 a_1, .bool a_2, .slice Aa_3 la_3.length ca_3, .slice Aa_4 la_4.length ca_4]] (by rfl) rfl rfl (by simp only [List.map_toArray, List.map_cons, List.map_nil]; rfl) ?_
  with_reducible refine (substationref15_Same.calls k p_0 p_1 p_2 Ap_3 cp_3 lp_3 Ap_4 cp_4 lp_4 a_0 a_1 a_2 Aa_3 ca_3 la_3 Aa_4 ca_4 la_4 true _ Hp3.out hHp3 Hp4.out hHp4 HA3.out hca_3 HA4.out hca_4 E3.out).mono ?_
  rintro e_ w7 ⟨rfl, hb⟩
  refine ⟨_, rfl, ?_⟩
  have n0_ := Aside0.mk (blk_below BK2.out hb)
  have n1_ := Aside0.mk (blk_below BK7.out hb)
  have n2_ := Aside0.mk (Kd.C_below HA3.out hb)
  have n3_ := Aside0.mk (Kd.C_below HA4.out hb)
  have n4_ := Aside0.mk (Kd.C_below HR.out hb)
  have n5_ := Aside0.mk (Kd.C_below HX.out hb)
  have n6_ := Aside0.mk (Kd.C_below Hp3.out hb)
  have n7_ := Aside0.mk (Kd.C_below Hp4.out hb)
  have n8_ := Aside0.mk (below_step HB.out hb)
  clear BK2 BK7 HA3 HA4 HR HX Hp3 Hp4 HB
  have BK2 := n0_
  have BK7 := n1_
  have HA3 := n2_
  have HA4 := n3_
  have HR := n4_
  have HX := n5_
  have Hp3 := n6_
  have Hp4 := n7_
  have HB := n8_
  clear n0_ n1_ n2_ n3_ n4_ n5_ n6_ n7_ n8_
  clear hb
  refine hK.out _ _ ⟨(blk_cell BK7.out 0).trans rfl, (blk_cell BK7.out 1).trans rfl, (blk_cell BK7.out 2).trans rfl, (blk_cell BK7.out 3).trans rfl, (blk_cell BK7.out 4).trans rfl, (blk_cell BK2.out 0).trans rfl, (blk_cell BK2.out 1).trans rfl, (blk_cell BK2.out 2).trans rfl, (blk_cell BK2.out 3).trans rfl, (blk_cell BK2.out 4).trans rfl⟩ (fun hHeld => ?_)
  clear hK K
  refine norm_ (a' := ?_) ?_ ?_
  rotate_left
  · show Act.put _ (some 34) _ = _
    simp only [Act.put, List.setIfInBounds_toArray, List.set_cons_zero, List.set_cons_succ, i64_w, i32_w]
    rfl
  refine pure_ (i := 8) (N := some 35) (v := ?_) (a' := ?_) #[true, true, true, true, true, true, true, true, true, false] rfl rfl (by kernel_rfl) (fun _ _ _ h => h) (Or.inl ⟨by rfl, ?_⟩) ?_ ?_
  rotate_left
  · intro w'
    go_simp
    with_reducible rfl
  rotate_left
  · simp only [Act.put, List.setIfInBounds_toArray, List.set_cons_zero, List.set_cons_succ, i64_w, i32_w]
    rfl
  refine pure_ (i := 9) (N := some 36) (v := ?_) (a' := ?_) #[true, true, true, true, true, true, true, true, true, true] rfl rfl (by kernel_rfl) (fun _ _ _ h => h) (Or.inl ⟨by rfl, ?_⟩) ?_ ?_
  rotate_left
  · intro w'
    go_simp
    with_reducible rfl
  rotate_left
  · simp only [Act.put, List.setIfInBounds_toArray, List.set_cons_zero, List.set_cons_succ, i64_w, i32_w]
    rfl
  refine done_ (by kernel_rfl) ?_
  go_wp2_with fail
  refine (stream_Decode.calls k Ab cb lb q_0 q_1 q_2 lq_3 lq_4 0 _ HR.out hcb E4.out).mono ?_
  rintro e_ w8 ⟨v_, u_, rfl, ho, hp, hb⟩
  have n0_ := Aside0.mk (blk_below BK2.out hb)
  have n1_ := Aside0.mk (blk_below BK7.out hb)
  have n2_ := Aside0.mk (Kd.C_below HA3.out hb)
  have n3_ := Aside0.mk (Kd.C_below HA4.out hb)
  have n4_ := Aside0.mk (Kd.C_below HR.out hb)
  have n5_ := Aside0.mk (Kd.C_below HX.out hb)
  have n6_ := Aside0.mk (Kd.C_below Hp3.out hb)
  have n7_ := Aside0.mk (Kd.C_below Hp4.out hb)
  have n8_ := Aside0.mk (below_step HB.out hb)
  clear BK2 BK7 HA3 HA4 HR HX Hp3 Hp4 HB
  have BK2 := n0_
  have BK7 := n1_
  have HA3 := n2_
  have HA4 := n3_
  have HR := n4_
  have HX := n5_
  have Hp3 := n6_
  have Hp4 := n7_
  have HB := n8_
  clear n0_ n1_ n2_ n3_ n4_ n5_ n6_ n7_ n8_
  obtain ⟨Aq_3, cq_3, rfl⟩ := Kd.R_slice ho
  have hHq3 := (Kd.R_reads' ho).2.1
  have Hq3 := Aside0.mk (Kd.R_reads' ho).2.2
  clear ho
  obtain ⟨Aq_4, cq_4, rfl⟩ := Kd.R_slice hp
  have hHq4 := (Kd.R_reads' hp).2.1
  have Hq4 := Aside0.mk (Kd.R_reads' hp).2.2
  clear hp
  clear hb
  go_upto_region 9 with (first | ((with_reducible refine gate_dst (N := 9) rfl ?_); refine box_event ?hg (N := 9) ?hd (cs := #[.int .i64 0, .int .i64 0, .bool false, .slice none 0 0, .slice none 0 0]) (t := 24) ?hr ?_; (case hd => rfl); (case hg => rfl); (case hr => first | (go_simp; done) | (go_simp; rfl)); intro g9 hg wx9 hbox hb; have BK := Aside0.mk hbox; have Hb := Aside0.mk hb; have Hg := Aside0.mk hg; clear hg hbox hb; have hcz_0 : wx9.cell? ⟨g9, 0, none⟩ = some (.int .i64 0) := (blk_cell BK.out 0).trans rfl; have hfz_0 := blk_frozen BK.out 0; have hcz_1 : wx9.cell? ⟨g9, 1, none⟩ = some (.int .i64 0) := (blk_cell BK.out 1).trans rfl; have hfz_1 := blk_frozen BK.out 1; have hcz_2 : wx9.cell? ⟨g9, 2, none⟩ = some (.bool false) := (blk_cell BK.out 2).trans rfl; have hfz_2 := blk_frozen BK.out 2; have hcz_3 : wx9.cell? ⟨g9, 3, none⟩ = some (.slice none 0 0) := (blk_cell BK.out 3).trans rfl; have hfz_3 := blk_frozen BK.out 3; have hcz_4 : wx9.cell? ⟨g9, 4, none⟩ = some (.slice none 0 0) := (blk_cell BK.out 4).trans rfl; have hfz_4 := blk_frozen BK.out 4))
  have hge : w8.heap.size ≤ g9 := by rw [Hg.out]; exact Nat.le_refl _
  have hb : Below w8.heap.size w8 (((((wx9.setCell ⟨g9, 0, none⟩ (.int .i64 q_0)).setCell ⟨g9, 1, none⟩ (.int .i64 q_1)).setCell ⟨g9, 2, none⟩ (.bool q_2)).setCell ⟨g9, 3, none⟩ (.slice Aq_3 lq_3.length cq_3)).setCell ⟨g9, 4, none⟩ (.slice Aq_4 lq_4.length cq_4)) := (below_set (below_set (below_set (below_set (below_set Hb.out hge) hge) hge) hge) hge)
  have hbx : (((((wx9.setCell ⟨g9, 0, none⟩ (.int .i64 q_0)).setCell ⟨g9, 1, none⟩ (.int .i64 q_1)).setCell ⟨g9, 2, none⟩ (.bool q_2)).setCell ⟨g9, 3, none⟩ (.slice Aq_3 lq_3.length cq_3)).setCell ⟨g9, 4, none⟩ (.slice Aq_4 lq_4.length cq_4)).heap[g9]? = some (.cells #[.int .i64 q_0, .int .i64 q_1, .bool q_2, .slice Aq_3 lq_3.length cq_3, .slice Aq_4 lq_4.length cq_4] 24 (0, 0)) := (blk_put (cs' := #[.int .i64 q_0, .int .i64 q_1, .bool q_2, .slice Aq_3 lq_3.length cq_3, .slice Aq_4 lq_4.length cq_4]) (blk_put (cs' := #[.int .i64 q_0, .int .i64 q_1, .bool q_2, .slice Aq_3 lq_3.length cq_3, .slice none 0 0]) (blk_put (cs' := #[.int .i64 q_0, .int .i64 q_1, .bool q_2, .slice none 0 0, .slice none 0 0]) (blk_put (cs' := #[.int .i64 q_0, .int .i64 q_1, .bool false, .slice none 0 0, .slice none 0 0]) (blk_put (cs' := #[.int .i64 q_0, .int .i64 0, .bool false, .slice none 0 0, .slice none 0 0]) BK.out 0 (.int .i64 q_0) rfl) 1 (.int .i64 q_1) rfl) 2 (.bool q_2) rfl) 3 (.slice Aq_3 lq_3.length cq_3) rfl) 4 (.slice Aq_4 lq_4.length cq_4) rfl)
  clear hcz_0 hfz_0 hcz_1 hfz_1 hcz_2 hfz_2 hcz_3 hfz_3 hcz_4 hfz_4 BK Hb Hg hge
  generalize (((((wx9.setCell ⟨g9, 0, none⟩ (.int .i64 q_0)).setCell ⟨g9, 1, none⟩ (.int .i64 q_1)).setCell ⟨g9, 2, none⟩ (.bool q_2)).setCell ⟨g9, 3, none⟩ (.slice Aq_3 lq_3.length cq_3)).setCell ⟨g9, 4, none⟩ (.slice Aq_4 lq_4.length cq_4)) = w9 at hb hbx ⊢
  have n0_ := Aside0.mk (blk_below BK2.out hb)
  have n1_ := Aside0.mk (blk_below BK7.out hb)
  have n2_ := Aside0.mk (Kd.C_below HA3.out hb)
  have n3_ := Aside0.mk (Kd.C_below HA4.out hb)
  have n4_ := Aside0.mk (Kd.C_below HR.out hb)
  have n5_ := Aside0.mk (Kd.C_below HX.out hb)
  have n6_ := Aside0.mk (Kd.C_below Hp3.out hb)
  have n7_ := Aside0.mk (Kd.C_below Hp4.out hb)
  have n8_ := Aside0.mk (Kd.C_below Hq3.out hb)
  have n9_ := Aside0.mk (Kd.C_below Hq4.out hb)
  have n10_ := Aside0.mk (below_step HB.out hb)
  clear BK2 BK7 HA3 HA4 HR HX Hp3 Hp4 Hq3 Hq4 HB
  have BK2 := n0_
  have BK7 := n1_
  have HA3 := n2_
  have HA4 := n3_
  have HR := n4_
  have HX := n5_
  have Hp3 := n6_
  have Hp4 := n7_
  have Hq3 := n8_
  have Hq4 := n9_
  have HB := n10_
  clear n0_ n1_ n2_ n3_ n4_ n5_ n6_ n7_ n8_ n9_ n10_
  clear hb
  have BK9 := Aside0.mk hbx
  clear hbx
  have hc_BK9_0 : w9.cell? ⟨g9, 0, none⟩ = some (.int .i64 q_0) := (blk_cell BK9.out 0).trans rfl
  have hc_BK9_1 : w9.cell? ⟨g9, 1, none⟩ = some (.int .i64 q_1) := (blk_cell BK9.out 1).trans rfl
  have hc_BK9_2 : w9.cell? ⟨g9, 2, none⟩ = some (.bool q_2) := (blk_cell BK9.out 2).trans rfl
  have hc_BK9_3 : w9.cell? ⟨g9, 3, none⟩ = some (.slice Aq_3 lq_3.length cq_3) := (blk_cell BK9.out 3).trans rfl
  have hc_BK9_4 : w9.cell? ⟨g9, 4, none⟩ = some (.slice Aq_4 lq_4.length cq_4) := (blk_cell BK9.out 4).trans rfl
  go_wp2_with fail
  clear hc_BK9_0 hc_BK9_1 hc_BK9_2 hc_BK9_3 hc_BK9_4
  refine (stream_Encode.calls k q_0 q_1 q_2 Aq_3 cq_3 lq_3 Aq_4 cq_4 lq_4 y 0 _ Hq3.out hHq3 Hq4.out hHq4 E5.out).mono ?_
  rintro e_ w10 ⟨v_, rfl, ho, hb⟩
  have n0_ := Aside0.mk (blk_below BK2.out hb)
  have n1_ := Aside0.mk (blk_below BK7.out hb)
  have n2_ := Aside0.mk (blk_below BK9.out hb)
  have n3_ := Aside0.mk (Kd.C_below HA3.out hb)
  have n4_ := Aside0.mk (Kd.C_below HA4.out hb)
  have n5_ := Aside0.mk (Kd.C_below HR.out hb)
  have n6_ := Aside0.mk (Kd.C_below HX.out hb)
  have n7_ := Aside0.mk (Kd.C_below Hp3.out hb)
  have n8_ := Aside0.mk (Kd.C_below Hp4.out hb)
  have n9_ := Aside0.mk (Kd.C_below Hq3.out hb)
  have n10_ := Aside0.mk (Kd.C_below Hq4.out hb)
  have n11_ := Aside0.mk (below_step HB.out hb)
  clear BK2 BK7 BK9 HA3 HA4 HR HX Hp3 Hp4 Hq3 Hq4 HB
  have BK2 := n0_
  have BK7 := n1_
  have BK9 := n2_
  have HA3 := n3_
  have HA4 := n4_
  have HR := n5_
  have HX := n6_
  have Hp3 := n7_
  have Hp4 := n8_
  have Hq3 := n9_
  have Hq4 := n10_
  have HB := n11_
  clear n0_ n1_ n2_ n3_ n4_ n5_ n6_ n7_ n8_ n9_ n10_ n11_
  obtain ⟨Ay, cy, rfl⟩ := Kd.R_slice ho
  have hHY := (Kd.R_reads' ho).2.1
  have HY := Aside0.mk (Kd.R_reads' ho).2.2
  clear ho
  clear hb
  have hcv1 := Kd.C_string (P := Try.prog) (c := cy) Try.underlying35 Try.underlying5 Try.underlying9 HY.out
  have hcv2 : (Go.convert 35 9 (.slice Ab lb.length cb)).run Try.prog w10 = .ok (.string (strOfNums y)) w10 := (Kd.C_string Try.underlying35 Try.underlying5 Try.underlying9 HR.out).trans (by rw [E6.out])
  go_wp2_with fail
  go_ret
  exact ⟨rfl, HB.out⟩
set_option maxHeartbeats 8000000 in
set_option maxRecDepth 100000 in
theorem round_10 (k : Nat) (a_0 a_1 : Int) (a_2 : Bool) (Aa_3 : Option Addr) (ca_3 : Nat) (la_3 : List Int) (Aa_4 : Option Addr) (ca_4 : Nat) (la_4 : List Int) (Ab : Option Addr) (cb : Nat) (lb : List Int) (w : World) (hra_3 : Kd.C (Kd.int .i64) w Aa_3 la_3.length la_3) (hca_3 : la_3.length ≤ ca_3) (hra_4 : Kd.C (Kd.int .i64) w Aa_4 la_4.length la_4) (hca_4 : la_4.length ≤ ca_4) (hrb : Kd.C (Kd.int .u8) w Ab lb.length lb) (hcb : lb.length ≤ cb)
    (x : List Int) (e : Int) (q_0 q_1 : Int) (q_2 : Bool) (lq_3 lq_4 : List Int) (h : Int) (p_0 p_1 : Int) (p_2 : Bool) (lp_3 lp_4 : List Int) (e0 : substationlaw15_known.f k = some true) (e1 : stream_Encode.f k a_0 a_1 a_2 la_3 la_4 = some (x, 0)) (e2 : stream_Decode.f k x = some (p_0, p_1, p_2, lp_3, lp_4, 0)) (e3 : substationref15_Same.f k p_0 p_1 p_2 lp_3 lp_4 a_0 a_1 a_2 la_3 la_4 = some true) (e4 : stream_Decode.f k lb = some (q_0, q_1, q_2, lq_3, lq_4, h)) (hh : (h != 0) = true) (hz : ((lq_3.length : Int) == 0) = true) :
    Calls Try.prog 6 #[.agg #[.int .i64 a_0, .int .i64 a_1, .bool a_2, .slice Aa_3 la_3.length ca_3, .slice Aa_4 la_4.length ca_4], .slice Ab lb.length cb] w fun e w' => e = .returned (.bool true) ∧ Below w.heap.size w w' := by
  have hu24 := Try.underlying24
  have hu29 := Try.underlying29
  have E0 := Aside0.mk e0
  have E1 := Aside0.mk e1
  have E2 := Aside0.mk e2
  have E3 := Aside0.mk e3
  have E4 := Aside0.mk e4
  clear e0 e1 e2 e3 e4
  have HB := Aside0.mk (Below.refl w.heap.size w)
  have HA3 := Aside0.mk hra_3
  have HA4 := Aside0.mk hra_4
  have HR := Aside0.mk hrb
  clear hra_3 hra_4 hrb
  go_enter Try.func6, Try.ntmps6
  go_wp2_with (first | ((with_reducible refine gate_dst (N := 2) rfl ?_); refine box_event ?hg (N := 2) ?hd (cs := #[.int .i64 a_0, .int .i64 a_1, .bool a_2, .slice Aa_3 la_3.length ca_3, .slice Aa_4 la_4.length ca_4]) (t := 24) ?hr ?_; (case hd => rfl); (case hg => rfl); (case hr => first | (go_simp; done) | (go_simp; rfl)); intro g2 hg wx2 hbox hb; have BK2 := Aside0.mk hbox; have Hb := Aside0.mk hb; clear hbox hb hg))
  have n0_ := Aside0.mk (Kd.C_below HA3.out Hb.out)
  have n1_ := Aside0.mk (Kd.C_below HA4.out Hb.out)
  have n2_ := Aside0.mk (Kd.C_below HR.out Hb.out)
  have n3_ := Aside0.mk (below_step HB.out Hb.out)
  clear HA3 HA4 HR HB
  have HA3 := n0_
  have HA4 := n1_
  have HR := n2_
  have HB := n3_
  clear n0_ n1_ n2_ n3_
  clear Hb
  refine (substationlaw15_known.calls k true _ E0.out).mono ?_
  rintro e_ w1 ⟨rfl, hb⟩
  have n0_ := Aside0.mk (blk_below BK2.out hb)
  have n1_ := Aside0.mk (Kd.C_below HA3.out hb)
  have n2_ := Aside0.mk (Kd.C_below HA4.out hb)
  have n3_ := Aside0.mk (Kd.C_below HR.out hb)
  have n4_ := Aside0.mk (below_step HB.out hb)
  clear BK2 HA3 HA4 HR HB
  have BK2 := n0_
  have HA3 := n1_
  have HA4 := n2_
  have HR := n3_
  have HB := n4_
  clear n0_ n1_ n2_ n3_ n4_
  clear hb
  have hc_BK2_0 : w1.cell? ⟨g2, 0, none⟩ = some (.int .i64 a_0) := (blk_cell BK2.out 0).trans rfl
  have hc_BK2_1 : w1.cell? ⟨g2, 1, none⟩ = some (.int .i64 a_1) := (blk_cell BK2.out 1).trans rfl
  have hc_BK2_2 : w1.cell? ⟨g2, 2, none⟩ = some (.bool a_2) := (blk_cell BK2.out 2).trans rfl
  have hc_BK2_3 : w1.cell? ⟨g2, 3, none⟩ = some (.slice Aa_3 la_3.length ca_3) := (blk_cell BK2.out 3).trans rfl
  have hc_BK2_4 : w1.cell? ⟨g2, 4, none⟩ = some (.slice Aa_4 la_4.length ca_4) := (blk_cell BK2.out 4).trans rfl
  go_wp2_with fail
  clear hc_BK2_0 hc_BK2_1 hc_BK2_2 hc_BK2_3 hc_BK2_4
  refine (stream_Encode.calls k a_0 a_1 a_2 Aa_3 ca_3 la_3 Aa_4 ca_4 la_4 x 0 _ HA3.out hca_3 HA4.out hca_4 E1.out).mono ?_
  rintro e_ w2 ⟨v_, rfl, ho, hb⟩
  have n0_ := Aside0.mk (blk_below BK2.out hb)
  have n1_ := Aside0.mk (Kd.C_below HA3.out hb)
  have n2_ := Aside0.mk (Kd.C_below HA4.out hb)
  have n3_ := Aside0.mk (Kd.C_below HR.out hb)
  have n4_ := Aside0.mk (below_step HB.out hb)
  clear BK2 HA3 HA4 HR HB
  have BK2 := n0_
  have HA3 := n1_
  have HA4 := n2_
  have HR := n3_
  have HB := n4_
  clear n0_ n1_ n2_ n3_ n4_
  obtain ⟨Ax, cx, rfl⟩ := Kd.R_slice ho
  have hHX := (Kd.R_reads' ho).2.1
  have HX := Aside0.mk (Kd.R_reads' ho).2.2
  clear ho
  clear hb
  go_wp2_with fail
  refine (stream_Decode.calls k Ax cx x p_0 p_1 p_2 lp_3 lp_4 0 _ HX.out hHX E2.out).mono ?_
  rintro e_ w3 ⟨v_, u_, rfl, ho, hp, hb⟩
  have n0_ := Aside0.mk (blk_below BK2.out hb)
  have n1_ := Aside0.mk (Kd.C_below HA3.out hb)
  have n2_ := Aside0.mk (Kd.C_below HA4.out hb)
  have n3_ := Aside0.mk (Kd.C_below HR.out hb)
  have n4_ := Aside0.mk (Kd.C_below HX.out hb)
  have n5_ := Aside0.mk (below_step HB.out hb)
  clear BK2 HA3 HA4 HR HX HB
  have BK2 := n0_
  have HA3 := n1_
  have HA4 := n2_
  have HR := n3_
  have HX := n4_
  have HB := n5_
  clear n0_ n1_ n2_ n3_ n4_ n5_
  obtain ⟨Ap_3, cp_3, rfl⟩ := Kd.R_slice ho
  have hHp3 := (Kd.R_reads' ho).2.1
  have Hp3 := Aside0.mk (Kd.R_reads' ho).2.2
  clear ho
  obtain ⟨Ap_4, cp_4, rfl⟩ := Kd.R_slice hp
  have hHp4 := (Kd.R_reads' hp).2.1
  have Hp4 := Aside0.mk (Kd.R_reads' hp).2.2
  clear hp
  clear hb
  go_upto_region 6 with (first | ((with_reducible refine gate_dst (N := 7) rfl ?_); refine box_event ?hg (N := 7) ?hd (cs := #[.int .i64 0, .int .i64 0, .bool false, .slice none 0 0, .slice none 0 0]) (t := 24) ?hr ?_; (case hd => rfl); (case hg => rfl); (case hr => first | (go_simp; done) | (go_simp; rfl)); intro g7 hg wx7 hbox hb; have BK := Aside0.mk hbox; have Hb := Aside0.mk hb; have Hg := Aside0.mk hg; clear hg hbox hb; have hcz_0 : wx7.cell? ⟨g7, 0, none⟩ = some (.int .i64 0) := (blk_cell BK.out 0).trans rfl; have hfz_0 := blk_frozen BK.out 0; have hcz_1 : wx7.cell? ⟨g7, 1, none⟩ = some (.int .i64 0) := (blk_cell BK.out 1).trans rfl; have hfz_1 := blk_frozen BK.out 1; have hcz_2 : wx7.cell? ⟨g7, 2, none⟩ = some (.bool false) := (blk_cell BK.out 2).trans rfl; have hfz_2 := blk_frozen BK.out 2; have hcz_3 : wx7.cell? ⟨g7, 3, none⟩ = some (.slice none 0 0) := (blk_cell BK.out 3).trans rfl; have hfz_3 := blk_frozen BK.out 3; have hcz_4 : wx7.cell? ⟨g7, 4, none⟩ = some (.slice none 0 0) := (blk_cell BK.out 4).trans rfl; have hfz_4 := blk_frozen BK.out 4))
  have hge : w3.heap.size ≤ g7 := by rw [Hg.out]; exact Nat.le_refl _
  have hb : Below w3.heap.size w3 (((((wx7.setCell ⟨g7, 0, none⟩ (.int .i64 p_0)).setCell ⟨g7, 1, none⟩ (.int .i64 p_1)).setCell ⟨g7, 2, none⟩ (.bool p_2)).setCell ⟨g7, 3, none⟩ (.slice Ap_3 lp_3.length cp_3)).setCell ⟨g7, 4, none⟩ (.slice Ap_4 lp_4.length cp_4)) := (below_set (below_set (below_set (below_set (below_set Hb.out hge) hge) hge) hge) hge)
  have hbx : (((((wx7.setCell ⟨g7, 0, none⟩ (.int .i64 p_0)).setCell ⟨g7, 1, none⟩ (.int .i64 p_1)).setCell ⟨g7, 2, none⟩ (.bool p_2)).setCell ⟨g7, 3, none⟩ (.slice Ap_3 lp_3.length cp_3)).setCell ⟨g7, 4, none⟩ (.slice Ap_4 lp_4.length cp_4)).heap[g7]? = some (.cells #[.int .i64 p_0, .int .i64 p_1, .bool p_2, .slice Ap_3 lp_3.length cp_3, .slice Ap_4 lp_4.length cp_4] 24 (0, 0)) := (blk_put (cs' := #[.int .i64 p_0, .int .i64 p_1, .bool p_2, .slice Ap_3 lp_3.length cp_3, .slice Ap_4 lp_4.length cp_4]) (blk_put (cs' := #[.int .i64 p_0, .int .i64 p_1, .bool p_2, .slice Ap_3 lp_3.length cp_3, .slice none 0 0]) (blk_put (cs' := #[.int .i64 p_0, .int .i64 p_1, .bool p_2, .slice none 0 0, .slice none 0 0]) (blk_put (cs' := #[.int .i64 p_0, .int .i64 p_1, .bool false, .slice none 0 0, .slice none 0 0]) (blk_put (cs' := #[.int .i64 p_0, .int .i64 0, .bool false, .slice none 0 0, .slice none 0 0]) BK.out 0 (.int .i64 p_0) rfl) 1 (.int .i64 p_1) rfl) 2 (.bool p_2) rfl) 3 (.slice Ap_3 lp_3.length cp_3) rfl) 4 (.slice Ap_4 lp_4.length cp_4) rfl)
  clear hcz_0 hfz_0 hcz_1 hfz_1 hcz_2 hfz_2 hcz_3 hfz_3 hcz_4 hfz_4 BK Hb Hg hge
  generalize (((((wx7.setCell ⟨g7, 0, none⟩ (.int .i64 p_0)).setCell ⟨g7, 1, none⟩ (.int .i64 p_1)).setCell ⟨g7, 2, none⟩ (.bool p_2)).setCell ⟨g7, 3, none⟩ (.slice Ap_3 lp_3.length cp_3)).setCell ⟨g7, 4, none⟩ (.slice Ap_4 lp_4.length cp_4)) = w4 at hb hbx ⊢
  have n0_ := Aside0.mk (blk_below BK2.out hb)
  have n1_ := Aside0.mk (Kd.C_below HA3.out hb)
  have n2_ := Aside0.mk (Kd.C_below HA4.out hb)
  have n3_ := Aside0.mk (Kd.C_below HR.out hb)
  have n4_ := Aside0.mk (Kd.C_below HX.out hb)
  have n5_ := Aside0.mk (Kd.C_below Hp3.out hb)
  have n6_ := Aside0.mk (Kd.C_below Hp4.out hb)
  have n7_ := Aside0.mk (below_step HB.out hb)
  clear BK2 HA3 HA4 HR HX Hp3 Hp4 HB
  have BK2 := n0_
  have HA3 := n1_
  have HA4 := n2_
  have HR := n3_
  have HX := n4_
  have Hp3 := n5_
  have Hp4 := n6_
  have HB := n7_
  clear n0_ n1_ n2_ n3_ n4_ n5_ n6_ n7_
  clear hb
  have BK7 := Aside0.mk hbx
  clear hbx
  have n0_ := Aside0.mk (blk_drew BK2.out)
  have n1_ := Aside0.mk (blk_drew BK7.out)
  have n2_ := Aside0.mk (Kd.C_drew HA3.out)
  have n3_ := Aside0.mk (Kd.C_drew HA4.out)
  have n4_ := Aside0.mk (Kd.C_drew HR.out)
  have n5_ := Aside0.mk (Kd.C_drew HX.out)
  have n6_ := Aside0.mk (Kd.C_drew Hp3.out)
  have n7_ := Aside0.mk (Kd.C_drew Hp4.out)
  have n8_ := Aside0.mk (below_drew1 HB.out)
  clear BK2 BK7 HA3 HA4 HR HX Hp3 Hp4 HB
  have BK2 := n0_
  have BK7 := n1_
  have HA3 := n2_
  have HA4 := n3_
  have HR := n4_
  have HX := n5_
  have Hp3 := n6_
  have Hp4 := n7_
  have HB := n8_
  clear n0_ n1_ n2_ n3_ n4_ n5_ n6_ n7_ n8_
  refine start_ (n := 10) (S := fun w' => w'.cell? ⟨g7, 0, none⟩ = some (.int .i64 p_0) ∧ w'.cell? ⟨g7, 1, none⟩ = some (.int .i64 p_1) ∧ w'.cell? ⟨g7, 2, none⟩ = some (.bool p_2) ∧ w'.cell? ⟨g7, 3, none⟩ = some (.slice Ap_3 lp_3.length cp_3) ∧ w'.cell? ⟨g7, 4, none⟩ = some (.slice Ap_4 lp_4.length cp_4) ∧ w'.cell? ⟨g2, 0, none⟩ = some (.int .i64 a_0) ∧ w'.cell? ⟨g2, 1, none⟩ = some (.int .i64 a_1) ∧ w'.cell? ⟨g2, 2, none⟩ = some (.bool a_2) ∧ w'.cell? ⟨g2, 3, none⟩ = some (.slice Aa_3 la_3.length ca_3) ∧ w'.cell? ⟨g2, 4, none⟩ = some (.slice Aa_4 la_4.length ca_4)) (ds := []) #[false, false, false, false, false, false, false, false, false, false] (by kernel_rfl) rfl rfl ⟨(blk_cell BK7.out 0).trans rfl, (blk_cell BK7.out 1).trans rfl, (blk_cell BK7.out 2).trans rfl, (blk_cell BK7.out 3).trans rfl, (blk_cell BK7.out 4).trans rfl, (blk_cell BK2.out 0).trans rfl, (blk_cell BK2.out 1).trans rfl, (blk_cell BK2.out 2).trans rfl, (blk_cell BK2.out 3).trans rfl, (blk_cell BK2.out 4).trans rfl⟩ (fun hHeld => ?_)
  generalize w4.drew = wd at BK2 BK7 HA3 HA4 HR HX Hp3 Hp4 HB hHeld ⊢
  refine pure_ (i := 0) (N := some 27) (v := ?_) (a' := ?_) #[true, false, false, false, false, false, false, false, false, false] rfl rfl (by kernel_rfl) (fun _ _ _ h => h) (Or.inl ⟨by rfl, ?_⟩) ?_ ?_
  rotate_left
  · intro w'
    go_simp
    with_reducible rfl
  rotate_left
  · simp only [Act.put, List.setIfInBounds_toArray, List.set_cons_zero, List.set_cons_succ, i64_w, i32_w]
    rfl
  refine pure_ (i := 1) (N := some 28) (v := ?_) (a' := ?_) #[true, true, false, false, false, false, false, false, false, false] rfl rfl (by kernel_rfl) (fun _ _ _ h => h) (Or.inl ⟨by rfl, ?_⟩) ?_ ?_
  rotate_left
  · intro w'
    go_simp
    with_reducible rfl
  rotate_left
  · simp only [Act.put, List.setIfInBounds_toArray, List.set_cons_zero, List.set_cons_succ, i64_w, i32_w]
    rfl
  refine pure_ (i := 2) (N := some 29) (v := ?_) (a' := ?_) #[true, true, true, false, false, false, false, false, false, false] rfl rfl (by kernel_rfl) (fun _ _ _ h => h) (Or.inl ⟨by rfl, ?_⟩) ?_ ?_
  rotate_left
  · intro w'
    go_simp
    with_reducible rfl
  rotate_left
  · simp only [Act.put, List.setIfInBounds_toArray, List.set_cons_zero, List.set_cons_succ, i64_w, i32_w]
    rfl
  refine take_ (i := 3) (N := some 30) (v := ?_) (a' := ?_) #[true, true, true, true, false, false, false, false, false, false] rfl rfl (by kernel_rfl) (fun _ _ _ h => h) (Or.inl ⟨by rfl, ?_⟩) hHeld ?_ ?_
  rotate_left
  · rintro w' ⟨s0, s1, s2, s3, s4, s5, s6, s7, s8, s9⟩
    go_simp
    with_reducible rfl
  rotate_left
  · simp only [Act.put, List.setIfInBounds_toArray, List.set_cons_zero, List.set_cons_succ, i64_w, i32_w]
    rfl
  refine take_ (i := 5) (N := some 32) (v := ?_) (a' := ?_) #[true, true, true, true, false, true, false, false, false, false] rfl rfl (by kernel_rfl) (fun _ _ _ h => h) (Or.inl ⟨by rfl, ?_⟩) hHeld ?_ ?_
  rotate_left
  · rintro w' ⟨s0, s1, s2, s3, s4, s5, s6, s7, s8, s9⟩
    go_simp
    with_reducible rfl
  rotate_left
  · simp only [Act.put, List.setIfInBounds_toArray, List.set_cons_zero, List.set_cons_succ, i64_w, i32_w]
    rfl
  refine one_ (i := 4) (N := some 31) #[true, true, true, true, true, true, false, false, false, false] rfl rfl (by kernel_rfl) (by decide) (fun K hK => ?_)
  refine goes_ Try.func12 (by kernel_rfl) rfl #[.agg #[.int .i64 p_0, .int .i64 p_1, .bool p_2, .slice Ap_3 lp_3.length cp_3, .slice Ap_4 lp_4.length cp_4]] (by rfl) rfl rfl (by simp only [List.map_toArray, List.map_cons, List.map_nil]; rfl) ?_
  with_reducible refine (to_x p_0 p_1 p_2 Ap_3 lp_3.length cp_3 Ap_4 lp_4.length cp_4 _).mono ?_
  rintro e_ w5 ⟨rfl, hb⟩
  refine ⟨_, rfl, ?_⟩
  have n0_ := Aside0.mk (blk_below BK2.out hb)
  have n1_ := Aside0.mk (blk_below BK7.out hb)
  have n2_ := Aside0.mk (Kd.C_below HA3.out hb)
  have n3_ := Aside0.mk (Kd.C_below HA4.out hb)
  have n4_ := Aside0.mk (Kd.C_below HR.out hb)
  have n5_ := Aside0.mk (Kd.C_below HX.out hb)
  have n6_ := Aside0.mk (Kd.C_below Hp3.out hb)
  have n7_ := Aside0.mk (Kd.C_below Hp4.out hb)
  have n8_ := Aside0.mk (below_step HB.out hb)
  clear BK2 BK7 HA3 HA4 HR HX Hp3 Hp4 HB
  have BK2 := n0_
  have BK7 := n1_
  have HA3 := n2_
  have HA4 := n3_
  have HR := n4_
  have HX := n5_
  have Hp3 := n6_
  have Hp4 := n7_
  have HB := n8_
  clear n0_ n1_ n2_ n3_ n4_ n5_ n6_ n7_ n8_
  clear hb
  refine hK.out _ _ ⟨(blk_cell BK7.out 0).trans rfl, (blk_cell BK7.out 1).trans rfl, (blk_cell BK7.out 2).trans rfl, (blk_cell BK7.out 3).trans rfl, (blk_cell BK7.out 4).trans rfl, (blk_cell BK2.out 0).trans rfl, (blk_cell BK2.out 1).trans rfl, (blk_cell BK2.out 2).trans rfl, (blk_cell BK2.out 3).trans rfl, (blk_cell BK2.out 4).trans rfl⟩ (fun hHeld => ?_)
  clear hK K
  refine norm_ (a' := ?_) ?_ ?_
  rotate_left
  · show Act.put _ (some 31) _ = _
    simp only [Act.put, List.setIfInBounds_toArray, List.set_cons_zero, List.set_cons_succ, i64_w, i32_w]
    rfl
  refine one_ (i := 6) (N := some 33) #[true, true, true, true, true, true, true, false, false, false] rfl rfl (by kernel_rfl) (by decide) (fun K hK => ?_)
  refine goes_ Try.func12 (by kernel_rfl) rfl #[.agg #[.int .i64 a_0, .int .i64 a_1, .bool a_2, .slice Aa_3 la_3.length ca_3, .slice Aa_4 la_4.length ca_4]] (by rfl) rfl rfl (by simp only [List.map_toArray, List.map_cons, List.map_nil]; rfl) ?_
  with_reducible refine (to_x a_0 a_1 a_2 Aa_3 la_3.length ca_3 Aa_4 la_4.length ca_4 _).mono ?_
  rintro e_ w6 ⟨rfl, hb⟩
  refine ⟨_, rfl, ?_⟩
  have n0_ := Aside0.mk (blk_below BK2.out hb)
  have n1_ := Aside0.mk (blk_below BK7.out hb)
  have n2_ := Aside0.mk (Kd.C_below HA3.out hb)
  have n3_ := Aside0.mk (Kd.C_below HA4.out hb)
  have n4_ := Aside0.mk (Kd.C_below HR.out hb)
  have n5_ := Aside0.mk (Kd.C_below HX.out hb)
  have n6_ := Aside0.mk (Kd.C_below Hp3.out hb)
  have n7_ := Aside0.mk (Kd.C_below Hp4.out hb)
  have n8_ := Aside0.mk (below_step HB.out hb)
  clear BK2 BK7 HA3 HA4 HR HX Hp3 Hp4 HB
  have BK2 := n0_
  have BK7 := n1_
  have HA3 := n2_
  have HA4 := n3_
  have HR := n4_
  have HX := n5_
  have Hp3 := n6_
  have Hp4 := n7_
  have HB := n8_
  clear n0_ n1_ n2_ n3_ n4_ n5_ n6_ n7_ n8_
  clear hb
  refine hK.out _ _ ⟨(blk_cell BK7.out 0).trans rfl, (blk_cell BK7.out 1).trans rfl, (blk_cell BK7.out 2).trans rfl, (blk_cell BK7.out 3).trans rfl, (blk_cell BK7.out 4).trans rfl, (blk_cell BK2.out 0).trans rfl, (blk_cell BK2.out 1).trans rfl, (blk_cell BK2.out 2).trans rfl, (blk_cell BK2.out 3).trans rfl, (blk_cell BK2.out 4).trans rfl⟩ (fun hHeld => ?_)
  clear hK K
  refine norm_ (a' := ?_) ?_ ?_
  rotate_left
  · show Act.put _ (some 33) _ = _
    simp only [Act.put, List.setIfInBounds_toArray, List.set_cons_zero, List.set_cons_succ, i64_w, i32_w]
    rfl
  refine one_ (i := 7) (N := some 34) #[true, true, true, true, true, true, true, true, false, false] rfl rfl (by kernel_rfl) (by decide) (fun K hK => ?_)
  refine goes_ Try.func14 (by kernel_rfl) rfl #[.agg #[.int .i64 p_0, .int .i64 p_1, .bool p_2, .slice Ap_3 lp_3.length cp_3, .slice Ap_4 lp_4.length cp_4], .agg #[.int .i64 a_0, .int .i64 a_1, .bool a_2, .slice Aa_3 la_3.length ca_3, .slice Aa_4 la_4.length ca_4]] (by rfl) rfl rfl (by simp only [List.map_toArray, List.map_cons, List.map_nil]; rfl) ?_
  with_reducible refine (substationref15_Same.calls k p_0 p_1 p_2 Ap_3 cp_3 lp_3 Ap_4 cp_4 lp_4 a_0 a_1 a_2 Aa_3 ca_3 la_3 Aa_4 ca_4 la_4 true _ Hp3.out hHp3 Hp4.out hHp4 HA3.out hca_3 HA4.out hca_4 E3.out).mono ?_
  rintro e_ w7 ⟨rfl, hb⟩
  refine ⟨_, rfl, ?_⟩
  have n0_ := Aside0.mk (blk_below BK2.out hb)
  have n1_ := Aside0.mk (blk_below BK7.out hb)
  have n2_ := Aside0.mk (Kd.C_below HA3.out hb)
  have n3_ := Aside0.mk (Kd.C_below HA4.out hb)
  have n4_ := Aside0.mk (Kd.C_below HR.out hb)
  have n5_ := Aside0.mk (Kd.C_below HX.out hb)
  have n6_ := Aside0.mk (Kd.C_below Hp3.out hb)
  have n7_ := Aside0.mk (Kd.C_below Hp4.out hb)
  have n8_ := Aside0.mk (below_step HB.out hb)
  clear BK2 BK7 HA3 HA4 HR HX Hp3 Hp4 HB
  have BK2 := n0_
  have BK7 := n1_
  have HA3 := n2_
  have HA4 := n3_
  have HR := n4_
  have HX := n5_
  have Hp3 := n6_
  have Hp4 := n7_
  have HB := n8_
  clear n0_ n1_ n2_ n3_ n4_ n5_ n6_ n7_ n8_
  clear hb
  refine hK.out _ _ ⟨(blk_cell BK7.out 0).trans rfl, (blk_cell BK7.out 1).trans rfl, (blk_cell BK7.out 2).trans rfl, (blk_cell BK7.out 3).trans rfl, (blk_cell BK7.out 4).trans rfl, (blk_cell BK2.out 0).trans rfl, (blk_cell BK2.out 1).trans rfl, (blk_cell BK2.out 2).trans rfl, (blk_cell BK2.out 3).trans rfl, (blk_cell BK2.out 4).trans rfl⟩ (fun hHeld => ?_)
  clear hK K
  refine norm_ (a' := ?_) ?_ ?_
  rotate_left
  · show Act.put _ (some 34) _ = _
    simp only [Act.put, List.setIfInBounds_toArray, List.set_cons_zero, List.set_cons_succ, i64_w, i32_w]
    rfl
  refine pure_ (i := 8) (N := some 35) (v := ?_) (a' := ?_) #[true, true, true, true, true, true, true, true, true, false] rfl rfl (by kernel_rfl) (fun _ _ _ h => h) (Or.inl ⟨by rfl, ?_⟩) ?_ ?_
  rotate_left
  · intro w'
    go_simp
    with_reducible rfl
  rotate_left
  · simp only [Act.put, List.setIfInBounds_toArray, List.set_cons_zero, List.set_cons_succ, i64_w, i32_w]
    rfl
  refine pure_ (i := 9) (N := some 36) (v := ?_) (a' := ?_) #[true, true, true, true, true, true, true, true, true, true] rfl rfl (by kernel_rfl) (fun _ _ _ h => h) (Or.inl ⟨by rfl, ?_⟩) ?_ ?_
  rotate_left
  · intro w'
    go_simp
    with_reducible rfl
  rotate_left
  · simp only [Act.put, List.setIfInBounds_toArray, List.set_cons_zero, List.set_cons_succ, i64_w, i32_w]
    rfl
  refine done_ (by kernel_rfl) ?_
  go_wp2_with fail
  refine (stream_Decode.calls k Ab cb lb q_0 q_1 q_2 lq_3 lq_4 h _ HR.out hcb E4.out).mono ?_
  rintro e_ w8 ⟨v_, u_, rfl, ho, hp, hb⟩
  have n0_ := Aside0.mk (blk_below BK2.out hb)
  have n1_ := Aside0.mk (blk_below BK7.out hb)
  have n2_ := Aside0.mk (Kd.C_below HA3.out hb)
  have n3_ := Aside0.mk (Kd.C_below HA4.out hb)
  have n4_ := Aside0.mk (Kd.C_below HR.out hb)
  have n5_ := Aside0.mk (Kd.C_below HX.out hb)
  have n6_ := Aside0.mk (Kd.C_below Hp3.out hb)
  have n7_ := Aside0.mk (Kd.C_below Hp4.out hb)
  have n8_ := Aside0.mk (below_step HB.out hb)
  clear BK2 BK7 HA3 HA4 HR HX Hp3 Hp4 HB
  have BK2 := n0_
  have BK7 := n1_
  have HA3 := n2_
  have HA4 := n3_
  have HR := n4_
  have HX := n5_
  have Hp3 := n6_
  have Hp4 := n7_
  have HB := n8_
  clear n0_ n1_ n2_ n3_ n4_ n5_ n6_ n7_ n8_
  obtain ⟨Aq_3, cq_3, rfl⟩ := Kd.R_slice ho
  have hHq3 := (Kd.R_reads' ho).2.1
  have Hq3 := Aside0.mk (Kd.R_reads' ho).2.2
  clear ho
  obtain ⟨Aq_4, cq_4, rfl⟩ := Kd.R_slice hp
  have hHq4 := (Kd.R_reads' hp).2.1
  have Hq4 := Aside0.mk (Kd.R_reads' hp).2.2
  clear hp
  clear hb
  go_upto_region 9 with (first | ((with_reducible refine gate_dst (N := 9) rfl ?_); refine box_event ?hg (N := 9) ?hd (cs := #[.int .i64 0, .int .i64 0, .bool false, .slice none 0 0, .slice none 0 0]) (t := 24) ?hr ?_; (case hd => rfl); (case hg => rfl); (case hr => first | (go_simp; done) | (go_simp; rfl)); intro g9 hg wx9 hbox hb; have BK := Aside0.mk hbox; have Hb := Aside0.mk hb; have Hg := Aside0.mk hg; clear hg hbox hb; have hcz_0 : wx9.cell? ⟨g9, 0, none⟩ = some (.int .i64 0) := (blk_cell BK.out 0).trans rfl; have hfz_0 := blk_frozen BK.out 0; have hcz_1 : wx9.cell? ⟨g9, 1, none⟩ = some (.int .i64 0) := (blk_cell BK.out 1).trans rfl; have hfz_1 := blk_frozen BK.out 1; have hcz_2 : wx9.cell? ⟨g9, 2, none⟩ = some (.bool false) := (blk_cell BK.out 2).trans rfl; have hfz_2 := blk_frozen BK.out 2; have hcz_3 : wx9.cell? ⟨g9, 3, none⟩ = some (.slice none 0 0) := (blk_cell BK.out 3).trans rfl; have hfz_3 := blk_frozen BK.out 3; have hcz_4 : wx9.cell? ⟨g9, 4, none⟩ = some (.slice none 0 0) := (blk_cell BK.out 4).trans rfl; have hfz_4 := blk_frozen BK.out 4))
  have hge : w8.heap.size ≤ g9 := by rw [Hg.out]; exact Nat.le_refl _
  have hb : Below w8.heap.size w8 (((((wx9.setCell ⟨g9, 0, none⟩ (.int .i64 q_0)).setCell ⟨g9, 1, none⟩ (.int .i64 q_1)).setCell ⟨g9, 2, none⟩ (.bool q_2)).setCell ⟨g9, 3, none⟩ (.slice Aq_3 lq_3.length cq_3)).setCell ⟨g9, 4, none⟩ (.slice Aq_4 lq_4.length cq_4)) := (below_set (below_set (below_set (below_set (below_set Hb.out hge) hge) hge) hge) hge)
  have hbx : (((((wx9.setCell ⟨g9, 0, none⟩ (.int .i64 q_0)).setCell ⟨g9, 1, none⟩ (.int .i64 q_1)).setCell ⟨g9, 2, none⟩ (.bool q_2)).setCell ⟨g9, 3, none⟩ (.slice Aq_3 lq_3.length cq_3)).setCell ⟨g9, 4, none⟩ (.slice Aq_4 lq_4.length cq_4)).heap[g9]? = some (.cells #[.int .i64 q_0, .int .i64 q_1, .bool q_2, .slice Aq_3 lq_3.length cq_3, .slice Aq_4 lq_4.length cq_4] 24 (0, 0)) := (blk_put (cs' := #[.int .i64 q_0, .int .i64 q_1, .bool q_2, .slice Aq_3 lq_3.length cq_3, .slice Aq_4 lq_4.length cq_4]) (blk_put (cs' := #[.int .i64 q_0, .int .i64 q_1, .bool q_2, .slice Aq_3 lq_3.length cq_3, .slice none 0 0]) (blk_put (cs' := #[.int .i64 q_0, .int .i64 q_1, .bool q_2, .slice none 0 0, .slice none 0 0]) (blk_put (cs' := #[.int .i64 q_0, .int .i64 q_1, .bool false, .slice none 0 0, .slice none 0 0]) (blk_put (cs' := #[.int .i64 q_0, .int .i64 0, .bool false, .slice none 0 0, .slice none 0 0]) BK.out 0 (.int .i64 q_0) rfl) 1 (.int .i64 q_1) rfl) 2 (.bool q_2) rfl) 3 (.slice Aq_3 lq_3.length cq_3) rfl) 4 (.slice Aq_4 lq_4.length cq_4) rfl)
  clear hcz_0 hfz_0 hcz_1 hfz_1 hcz_2 hfz_2 hcz_3 hfz_3 hcz_4 hfz_4 BK Hb Hg hge
  generalize (((((wx9.setCell ⟨g9, 0, none⟩ (.int .i64 q_0)).setCell ⟨g9, 1, none⟩ (.int .i64 q_1)).setCell ⟨g9, 2, none⟩ (.bool q_2)).setCell ⟨g9, 3, none⟩ (.slice Aq_3 lq_3.length cq_3)).setCell ⟨g9, 4, none⟩ (.slice Aq_4 lq_4.length cq_4)) = w9 at hb hbx ⊢
  have n0_ := Aside0.mk (blk_below BK2.out hb)
  have n1_ := Aside0.mk (blk_below BK7.out hb)
  have n2_ := Aside0.mk (Kd.C_below HA3.out hb)
  have n3_ := Aside0.mk (Kd.C_below HA4.out hb)
  have n4_ := Aside0.mk (Kd.C_below HR.out hb)
  have n5_ := Aside0.mk (Kd.C_below HX.out hb)
  have n6_ := Aside0.mk (Kd.C_below Hp3.out hb)
  have n7_ := Aside0.mk (Kd.C_below Hp4.out hb)
  have n8_ := Aside0.mk (Kd.C_below Hq3.out hb)
  have n9_ := Aside0.mk (Kd.C_below Hq4.out hb)
  have n10_ := Aside0.mk (below_step HB.out hb)
  clear BK2 BK7 HA3 HA4 HR HX Hp3 Hp4 Hq3 Hq4 HB
  have BK2 := n0_
  have BK7 := n1_
  have HA3 := n2_
  have HA4 := n3_
  have HR := n4_
  have HX := n5_
  have Hp3 := n6_
  have Hp4 := n7_
  have Hq3 := n8_
  have Hq4 := n9_
  have HB := n10_
  clear n0_ n1_ n2_ n3_ n4_ n5_ n6_ n7_ n8_ n9_ n10_
  clear hb
  have BK9 := Aside0.mk hbx
  clear hbx
  have hc_BK9_0 : w9.cell? ⟨g9, 0, none⟩ = some (.int .i64 q_0) := (blk_cell BK9.out 0).trans rfl
  have hc_BK9_1 : w9.cell? ⟨g9, 1, none⟩ = some (.int .i64 q_1) := (blk_cell BK9.out 1).trans rfl
  have hc_BK9_2 : w9.cell? ⟨g9, 2, none⟩ = some (.bool q_2) := (blk_cell BK9.out 2).trans rfl
  have hc_BK9_3 : w9.cell? ⟨g9, 3, none⟩ = some (.slice Aq_3 lq_3.length cq_3) := (blk_cell BK9.out 3).trans rfl
  have hc_BK9_4 : w9.cell? ⟨g9, 4, none⟩ = some (.slice Aq_4 lq_4.length cq_4) := (blk_cell BK9.out 4).trans rfl
  go_wp2_with fail
  go_ret
  exact ⟨rfl, HB.out⟩
set_option maxHeartbeats 8000000 in
set_option maxRecDepth 100000 in
theorem round_01 (k : Nat) (a_0 a_1 : Int) (a_2 : Bool) (Aa_3 : Option Addr) (ca_3 : Nat) (la_3 : List Int) (Aa_4 : Option Addr) (ca_4 : Nat) (la_4 : List Int) (Ab : Option Addr) (cb : Nat) (lb : List Int) (w : World) (hra_3 : Kd.C (Kd.int .i64) w Aa_3 la_3.length la_3) (hca_3 : la_3.length ≤ ca_3) (hra_4 : Kd.C (Kd.int .i64) w Aa_4 la_4.length la_4) (hca_4 : la_4.length ≤ ca_4) (hrb : Kd.C (Kd.int .u8) w Ab lb.length lb) (hcb : lb.length ≤ cb)
    (x : List Int) (e : Int) (q_0 q_1 : Int) (q_2 : Bool) (lq_3 lq_4 : List Int) (h : Int) (y : List Int) (e0 : substationlaw15_known.f k = some true) (e1 : stream_Encode.f k a_0 a_1 a_2 la_3 la_4 = some (x, e)) (e4 : stream_Decode.f k lb = some (q_0, q_1, q_2, lq_3, lq_4, 0)) (e5 : stream_Encode.f k q_0 q_1 q_2 lq_3 lq_4 = some (y, 0)) (e6 : strOfNums y = strOfNums lb) (he : (e == 0) = false) :
    Calls Try.prog 6 #[.agg #[.int .i64 a_0, .int .i64 a_1, .bool a_2, .slice Aa_3 la_3.length ca_3, .slice Aa_4 la_4.length ca_4], .slice Ab lb.length cb] w fun e w' => e = .returned (.bool true) ∧ Below w.heap.size w w' := by
  have hu24 := Try.underlying24
  have hu29 := Try.underlying29
  have E0 := Aside0.mk e0
  have E1 := Aside0.mk e1
  have E4 := Aside0.mk e4
  have E5 := Aside0.mk e5
  have E6 := Aside0.mk e6
  clear e0 e1 e4 e5 e6
  have HB := Aside0.mk (Below.refl w.heap.size w)
  have HA3 := Aside0.mk hra_3
  have HA4 := Aside0.mk hra_4
  have HR := Aside0.mk hrb
  clear hra_3 hra_4 hrb
  go_enter Try.func6, Try.ntmps6
  go_wp2_with (first | ((with_reducible refine gate_dst (N := 2) rfl ?_); refine box_event ?hg (N := 2) ?hd (cs := #[.int .i64 a_0, .int .i64 a_1, .bool a_2, .slice Aa_3 la_3.length ca_3, .slice Aa_4 la_4.length ca_4]) (t := 24) ?hr ?_; (case hd => rfl); (case hg => rfl); (case hr => first | (go_simp; done) | (go_simp; rfl)); intro g2 hg wx2 hbox hb; have BK2 := Aside0.mk hbox; have Hb := Aside0.mk hb; clear hbox hb hg))
  have n0_ := Aside0.mk (Kd.C_below HA3.out Hb.out)
  have n1_ := Aside0.mk (Kd.C_below HA4.out Hb.out)
  have n2_ := Aside0.mk (Kd.C_below HR.out Hb.out)
  have n3_ := Aside0.mk (below_step HB.out Hb.out)
  clear HA3 HA4 HR HB
  have HA3 := n0_
  have HA4 := n1_
  have HR := n2_
  have HB := n3_
  clear n0_ n1_ n2_ n3_
  clear Hb
  refine (substationlaw15_known.calls k true _ E0.out).mono ?_
  rintro e_ w1 ⟨rfl, hb⟩
  have n0_ := Aside0.mk (blk_below BK2.out hb)
  have n1_ := Aside0.mk (Kd.C_below HA3.out hb)
  have n2_ := Aside0.mk (Kd.C_below HA4.out hb)
  have n3_ := Aside0.mk (Kd.C_below HR.out hb)
  have n4_ := Aside0.mk (below_step HB.out hb)
  clear BK2 HA3 HA4 HR HB
  have BK2 := n0_
  have HA3 := n1_
  have HA4 := n2_
  have HR := n3_
  have HB := n4_
  clear n0_ n1_ n2_ n3_ n4_
  clear hb
  have hc_BK2_0 : w1.cell? ⟨g2, 0, none⟩ = some (.int .i64 a_0) := (blk_cell BK2.out 0).trans rfl
  have hc_BK2_1 : w1.cell? ⟨g2, 1, none⟩ = some (.int .i64 a_1) := (blk_cell BK2.out 1).trans rfl
  have hc_BK2_2 : w1.cell? ⟨g2, 2, none⟩ = some (.bool a_2) := (blk_cell BK2.out 2).trans rfl
  have hc_BK2_3 : w1.cell? ⟨g2, 3, none⟩ = some (.slice Aa_3 la_3.length ca_3) := (blk_cell BK2.out 3).trans rfl
  have hc_BK2_4 : w1.cell? ⟨g2, 4, none⟩ = some (.slice Aa_4 la_4.length ca_4) := (blk_cell BK2.out 4).trans rfl
  go_wp2_with fail
  clear hc_BK2_0 hc_BK2_1 hc_BK2_2 hc_BK2_3 hc_BK2_4
  refine (stream_Encode.calls k a_0 a_1 a_2 Aa_3 ca_3 la_3 Aa_4 ca_4 la_4 x e _ HA3.out hca_3 HA4.out hca_4 E1.out).mono ?_
  rintro e_ w2 ⟨v_, rfl, ho, hb⟩
  have n0_ := Aside0.mk (blk_below BK2.out hb)
  have n1_ := Aside0.mk (Kd.C_below HA3.out hb)
  have n2_ := Aside0.mk (Kd.C_below HA4.out hb)
  have n3_ := Aside0.mk (Kd.C_below HR.out hb)
  have n4_ := Aside0.mk (below_step HB.out hb)
  clear BK2 HA3 HA4 HR HB
  have BK2 := n0_
  have HA3 := n1_
  have HA4 := n2_
  have HR := n3_
  have HB := n4_
  clear n0_ n1_ n2_ n3_ n4_
  obtain ⟨Ax, cx, rfl⟩ := Kd.R_slice ho
  have hHX := (Kd.R_reads' ho).2.1
  have HX := Aside0.mk (Kd.R_reads' ho).2.2
  clear ho
  clear hb
  go_wp2_with fail
  refine (stream_Decode.calls k Ab cb lb q_0 q_1 q_2 lq_3 lq_4 0 _ HR.out hcb E4.out).mono ?_
  rintro e_ w8 ⟨v_, u_, rfl, ho, hp, hb⟩
  have n0_ := Aside0.mk (blk_below BK2.out hb)
  have n1_ := Aside0.mk (Kd.C_below HA3.out hb)
  have n2_ := Aside0.mk (Kd.C_below HA4.out hb)
  have n3_ := Aside0.mk (Kd.C_below HR.out hb)
  have n4_ := Aside0.mk (Kd.C_below HX.out hb)
  have n5_ := Aside0.mk (below_step HB.out hb)
  clear BK2 HA3 HA4 HR HX HB
  have BK2 := n0_
  have HA3 := n1_
  have HA4 := n2_
  have HR := n3_
  have HX := n4_
  have HB := n5_
  clear n0_ n1_ n2_ n3_ n4_ n5_
  obtain ⟨Aq_3, cq_3, rfl⟩ := Kd.R_slice ho
  have hHq3 := (Kd.R_reads' ho).2.1
  have Hq3 := Aside0.mk (Kd.R_reads' ho).2.2
  clear ho
  obtain ⟨Aq_4, cq_4, rfl⟩ := Kd.R_slice hp
  have hHq4 := (Kd.R_reads' hp).2.1
  have Hq4 := Aside0.mk (Kd.R_reads' hp).2.2
  clear hp
  clear hb
  go_upto_region 9 with (first | ((with_reducible refine gate_dst (N := 9) rfl ?_); refine box_event ?hg (N := 9) ?hd (cs := #[.int .i64 0, .int .i64 0, .bool false, .slice none 0 0, .slice none 0 0]) (t := 24) ?hr ?_; (case hd => rfl); (case hg => rfl); (case hr => first | (go_simp; done) | (go_simp; rfl)); intro g9 hg wx9 hbox hb; have BK := Aside0.mk hbox; have Hb := Aside0.mk hb; have Hg := Aside0.mk hg; clear hg hbox hb; have hcz_0 : wx9.cell? ⟨g9, 0, none⟩ = some (.int .i64 0) := (blk_cell BK.out 0).trans rfl; have hfz_0 := blk_frozen BK.out 0; have hcz_1 : wx9.cell? ⟨g9, 1, none⟩ = some (.int .i64 0) := (blk_cell BK.out 1).trans rfl; have hfz_1 := blk_frozen BK.out 1; have hcz_2 : wx9.cell? ⟨g9, 2, none⟩ = some (.bool false) := (blk_cell BK.out 2).trans rfl; have hfz_2 := blk_frozen BK.out 2; have hcz_3 : wx9.cell? ⟨g9, 3, none⟩ = some (.slice none 0 0) := (blk_cell BK.out 3).trans rfl; have hfz_3 := blk_frozen BK.out 3; have hcz_4 : wx9.cell? ⟨g9, 4, none⟩ = some (.slice none 0 0) := (blk_cell BK.out 4).trans rfl; have hfz_4 := blk_frozen BK.out 4))
  have hge : w8.heap.size ≤ g9 := by rw [Hg.out]; exact Nat.le_refl _
  have hb : Below w8.heap.size w8 (((((wx9.setCell ⟨g9, 0, none⟩ (.int .i64 q_0)).setCell ⟨g9, 1, none⟩ (.int .i64 q_1)).setCell ⟨g9, 2, none⟩ (.bool q_2)).setCell ⟨g9, 3, none⟩ (.slice Aq_3 lq_3.length cq_3)).setCell ⟨g9, 4, none⟩ (.slice Aq_4 lq_4.length cq_4)) := (below_set (below_set (below_set (below_set (below_set Hb.out hge) hge) hge) hge) hge)
  have hbx : (((((wx9.setCell ⟨g9, 0, none⟩ (.int .i64 q_0)).setCell ⟨g9, 1, none⟩ (.int .i64 q_1)).setCell ⟨g9, 2, none⟩ (.bool q_2)).setCell ⟨g9, 3, none⟩ (.slice Aq_3 lq_3.length cq_3)).setCell ⟨g9, 4, none⟩ (.slice Aq_4 lq_4.length cq_4)).heap[g9]? = some (.cells #[.int .i64 q_0, .int .i64 q_1, .bool q_2, .slice Aq_3 lq_3.length cq_3, .slice Aq_4 lq_4.length cq_4] 24 (0, 0)) := (blk_put (cs' := #[.int .i64 q_0, .int .i64 q_1, .bool q_2, .slice Aq_3 lq_3.length cq_3, .slice Aq_4 lq_4.length cq_4]) (blk_put (cs' := #[.int .i64 q_0, .int .i64 q_1, .bool q_2, .slice Aq_3 lq_3.length cq_3, .slice none 0 0]) (blk_put (cs' := #[.int .i64 q_0, .int .i64 q_1, .bool q_2, .slice none 0 0, .slice none 0 0]) (blk_put (cs' := #[.int .i64 q_0, .int .i64 q_1, .bool false, .slice none 0 0, .slice none 0 0]) (blk_put (cs' := #[.int .i64 q_0, .int .i64 0, .bool false, .slice none 0 0, .slice none 0 0]) BK.out 0 (.int .i64 q_0) rfl) 1 (.int .i64 q_1) rfl) 2 (.bool q_2) rfl) 3 (.slice Aq_3 lq_3.length cq_3) rfl) 4 (.slice Aq_4 lq_4.length cq_4) rfl)
  clear hcz_0 hfz_0 hcz_1 hfz_1 hcz_2 hfz_2 hcz_3 hfz_3 hcz_4 hfz_4 BK Hb Hg hge
  generalize (((((wx9.setCell ⟨g9, 0, none⟩ (.int .i64 q_0)).setCell ⟨g9, 1, none⟩ (.int .i64 q_1)).setCell ⟨g9, 2, none⟩ (.bool q_2)).setCell ⟨g9, 3, none⟩ (.slice Aq_3 lq_3.length cq_3)).setCell ⟨g9, 4, none⟩ (.slice Aq_4 lq_4.length cq_4)) = w9 at hb hbx ⊢
  have n0_ := Aside0.mk (blk_below BK2.out hb)
  have n1_ := Aside0.mk (Kd.C_below HA3.out hb)
  have n2_ := Aside0.mk (Kd.C_below HA4.out hb)
  have n3_ := Aside0.mk (Kd.C_below HR.out hb)
  have n4_ := Aside0.mk (Kd.C_below HX.out hb)
  have n5_ := Aside0.mk (Kd.C_below Hq3.out hb)
  have n6_ := Aside0.mk (Kd.C_below Hq4.out hb)
  have n7_ := Aside0.mk (below_step HB.out hb)
  clear BK2 HA3 HA4 HR HX Hq3 Hq4 HB
  have BK2 := n0_
  have HA3 := n1_
  have HA4 := n2_
  have HR := n3_
  have HX := n4_
  have Hq3 := n5_
  have Hq4 := n6_
  have HB := n7_
  clear n0_ n1_ n2_ n3_ n4_ n5_ n6_ n7_
  clear hb
  have BK9 := Aside0.mk hbx
  clear hbx
  have hc_BK9_0 : w9.cell? ⟨g9, 0, none⟩ = some (.int .i64 q_0) := (blk_cell BK9.out 0).trans rfl
  have hc_BK9_1 : w9.cell? ⟨g9, 1, none⟩ = some (.int .i64 q_1) := (blk_cell BK9.out 1).trans rfl
  have hc_BK9_2 : w9.cell? ⟨g9, 2, none⟩ = some (.bool q_2) := (blk_cell BK9.out 2).trans rfl
  have hc_BK9_3 : w9.cell? ⟨g9, 3, none⟩ = some (.slice Aq_3 lq_3.length cq_3) := (blk_cell BK9.out 3).trans rfl
  have hc_BK9_4 : w9.cell? ⟨g9, 4, none⟩ = some (.slice Aq_4 lq_4.length cq_4) := (blk_cell BK9.out 4).trans rfl
  go_wp2_with fail
  clear hc_BK9_0 hc_BK9_1 hc_BK9_2 hc_BK9_3 hc_BK9_4
  refine (stream_Encode.calls k q_0 q_1 q_2 Aq_3 cq_3 lq_3 Aq_4 cq_4 lq_4 y 0 _ Hq3.out hHq3 Hq4.out hHq4 E5.out).mono ?_
  rintro e_ w10 ⟨v_, rfl, ho, hb⟩
  have n0_ := Aside0.mk (blk_below BK2.out hb)
  have n1_ := Aside0.mk (blk_below BK9.out hb)
  have n2_ := Aside0.mk (Kd.C_below HA3.out hb)
  have n3_ := Aside0.mk (Kd.C_below HA4.out hb)
  have n4_ := Aside0.mk (Kd.C_below HR.out hb)
  have n5_ := Aside0.mk (Kd.C_below HX.out hb)
  have n6_ := Aside0.mk (Kd.C_below Hq3.out hb)
  have n7_ := Aside0.mk (Kd.C_below Hq4.out hb)
  have n8_ := Aside0.mk (below_step HB.out hb)
  clear BK2 BK9 HA3 HA4 HR HX Hq3 Hq4 HB
  have BK2 := n0_
  have BK9 := n1_
  have HA3 := n2_
  have HA4 := n3_
  have HR := n4_
  have HX := n5_
  have Hq3 := n6_
  have Hq4 := n7_
  have HB := n8_
  clear n0_ n1_ n2_ n3_ n4_ n5_ n6_ n7_ n8_
  obtain ⟨Ay, cy, rfl⟩ := Kd.R_slice ho
  have hHY := (Kd.R_reads' ho).2.1
  have HY := Aside0.mk (Kd.R_reads' ho).2.2
  clear ho
  clear hb
  have hcv1 := Kd.C_string (P := Try.prog) (c := cy) Try.underlying35 Try.underlying5 Try.underlying9 HY.out
  have hcv2 : (Go.convert 35 9 (.slice Ab lb.length cb)).run Try.prog w10 = .ok (.string (strOfNums y)) w10 := (Kd.C_string Try.underlying35 Try.underlying5 Try.underlying9 HR.out).trans (by rw [E6.out])
  go_wp2_with fail
  go_ret
  exact ⟨rfl, HB.out⟩
set_option maxHeartbeats 8000000 in
set_option maxRecDepth 100000 in
theorem round_00 (k : Nat) (a_0 a_1 : Int) (a_2 : Bool) (Aa_3 : Option Addr) (ca_3 : Nat) (la_3 : List Int) (Aa_4 : Option Addr) (ca_4 : Nat) (la_4 : List Int) (Ab : Option Addr) (cb : Nat) (lb : List Int) (w : World) (hra_3 : Kd.C (Kd.int .i64) w Aa_3 la_3.length la_3) (hca_3 : la_3.length ≤ ca_3) (hra_4 : Kd.C (Kd.int .i64) w Aa_4 la_4.length la_4) (hca_4 : la_4.length ≤ ca_4) (hrb : Kd.C (Kd.int .u8) w Ab lb.length lb) (hcb : lb.length ≤ cb)
    (x : List Int) (e : Int) (q_0 q_1 : Int) (q_2 : Bool) (lq_3 lq_4 : List Int) (h : Int) (e0 : substationlaw15_known.f k = some true) (e1 : stream_Encode.f k a_0 a_1 a_2 la_3 la_4 = some (x, e)) (e4 : stream_Decode.f k lb = some (q_0, q_1, q_2, lq_3, lq_4, h)) (he : (e == 0) = false) (hh : (h != 0) = true) (hz : ((lq_3.length : Int) == 0) = true) :
    Calls Try.prog 6 #[.agg #[.int .i64 a_0, .int .i64 a_1, .bool a_2, .slice Aa_3 la_3.length ca_3, .slice Aa_4 la_4.length ca_4], .slice Ab lb.length cb] w fun e w' => e = .returned (.bool true) ∧ Below w.heap.size w w' := by
  have hu24 := Try.underlying24
  have hu29 := Try.underlying29
  have E0 := Aside0.mk e0
  have E1 := Aside0.mk e1
  have E4 := Aside0.mk e4
  clear e0 e1 e4
  have HB := Aside0.mk (Below.refl w.heap.size w)
  have HA3 := Aside0.mk hra_3
  have HA4 := Aside0.mk hra_4
  have HR := Aside0.mk hrb
  clear hra_3 hra_4 hrb
  go_enter Try.func6, Try.ntmps6
  go_wp2_with (first | ((with_reducible refine gate_dst (N := 2) rfl ?_); refine box_event ?hg (N := 2) ?hd (cs := #[.int .i64 a_0, .int .i64 a_1, .bool a_2, .slice Aa_3 la_3.length ca_3, .slice Aa_4 la_4.length ca_4]) (t := 24) ?hr ?_; (case hd => rfl); (case hg => rfl); (case hr => first | (go_simp; done) | (go_simp; rfl)); intro g2 hg wx2 hbox hb; have BK2 := Aside0.mk hbox; have Hb := Aside0.mk hb; clear hbox hb hg))
  have n0_ := Aside0.mk (Kd.C_below HA3.out Hb.out)
  have n1_ := Aside0.mk (Kd.C_below HA4.out Hb.out)
  have n2_ := Aside0.mk (Kd.C_below HR.out Hb.out)
  have n3_ := Aside0.mk (below_step HB.out Hb.out)
  clear HA3 HA4 HR HB
  have HA3 := n0_
  have HA4 := n1_
  have HR := n2_
  have HB := n3_
  clear n0_ n1_ n2_ n3_
  clear Hb
  refine (substationlaw15_known.calls k true _ E0.out).mono ?_
  rintro e_ w1 ⟨rfl, hb⟩
  have n0_ := Aside0.mk (blk_below BK2.out hb)
  have n1_ := Aside0.mk (Kd.C_below HA3.out hb)
  have n2_ := Aside0.mk (Kd.C_below HA4.out hb)
  have n3_ := Aside0.mk (Kd.C_below HR.out hb)
  have n4_ := Aside0.mk (below_step HB.out hb)
  clear BK2 HA3 HA4 HR HB
  have BK2 := n0_
  have HA3 := n1_
  have HA4 := n2_
  have HR := n3_
  have HB := n4_
  clear n0_ n1_ n2_ n3_ n4_
  clear hb
  have hc_BK2_0 : w1.cell? ⟨g2, 0, none⟩ = some (.int .i64 a_0) := (blk_cell BK2.out 0).trans rfl
  have hc_BK2_1 : w1.cell? ⟨g2, 1, none⟩ = some (.int .i64 a_1) := (blk_cell BK2.out 1).trans rfl
  have hc_BK2_2 : w1.cell? ⟨g2, 2, none⟩ = some (.bool a_2) := (blk_cell BK2.out 2).trans rfl
  have hc_BK2_3 : w1.cell? ⟨g2, 3, none⟩ = some (.slice Aa_3 la_3.length ca_3) := (blk_cell BK2.out 3).trans rfl
  have hc_BK2_4 : w1.cell? ⟨g2, 4, none⟩ = some (.slice Aa_4 la_4.length ca_4) := (blk_cell BK2.out 4).trans rfl
  go_wp2_with fail
  clear hc_BK2_0 hc_BK2_1 hc_BK2_2 hc_BK2_3 hc_BK2_4
  refine (stream_Encode.calls k a_0 a_1 a_2 Aa_3 ca_3 la_3 Aa_4 ca_4 la_4 x e _ HA3.out hca_3 HA4.out hca_4 E1.out).mono ?_
  rintro e_ w2 ⟨v_, rfl, ho, hb⟩
  have n0_ := Aside0.mk (blk_below BK2.out hb)
  have n1_ := Aside0.mk (Kd.C_below HA3.out hb)
  have n2_ := Aside0.mk (Kd.C_below HA4.out hb)
  have n3_ := Aside0.mk (Kd.C_below HR.out hb)
  have n4_ := Aside0.mk (below_step HB.out hb)
  clear BK2 HA3 HA4 HR HB
  have BK2 := n0_
  have HA3 := n1_
  have HA4 := n2_
  have HR := n3_
  have HB := n4_
  clear n0_ n1_ n2_ n3_ n4_
  obtain ⟨Ax, cx, rfl⟩ := Kd.R_slice ho
  have hHX := (Kd.R_reads' ho).2.1
  have HX := Aside0.mk (Kd.R_reads' ho).2.2
  clear ho
  clear hb
  go_wp2_with fail
  refine (stream_Decode.calls k Ab cb lb q_0 q_1 q_2 lq_3 lq_4 h _ HR.out hcb E4.out).mono ?_
  rintro e_ w8 ⟨v_, u_, rfl, ho, hp, hb⟩
  have n0_ := Aside0.mk (blk_below BK2.out hb)
  have n1_ := Aside0.mk (Kd.C_below HA3.out hb)
  have n2_ := Aside0.mk (Kd.C_below HA4.out hb)
  have n3_ := Aside0.mk (Kd.C_below HR.out hb)
  have n4_ := Aside0.mk (Kd.C_below HX.out hb)
  have n5_ := Aside0.mk (below_step HB.out hb)
  clear BK2 HA3 HA4 HR HX HB
  have BK2 := n0_
  have HA3 := n1_
  have HA4 := n2_
  have HR := n3_
  have HX := n4_
  have HB := n5_
  clear n0_ n1_ n2_ n3_ n4_ n5_
  obtain ⟨Aq_3, cq_3, rfl⟩ := Kd.R_slice ho
  have hHq3 := (Kd.R_reads' ho).2.1
  have Hq3 := Aside0.mk (Kd.R_reads' ho).2.2
  clear ho
  obtain ⟨Aq_4, cq_4, rfl⟩ := Kd.R_slice hp
  have hHq4 := (Kd.R_reads' hp).2.1
  have Hq4 := Aside0.mk (Kd.R_reads' hp).2.2
  clear hp
  clear hb
  go_upto_region 9 with (first | ((with_reducible refine gate_dst (N := 9) rfl ?_); refine box_event ?hg (N := 9) ?hd (cs := #[.int .i64 0, .int .i64 0, .bool false, .slice none 0 0, .slice none 0 0]) (t := 24) ?hr ?_; (case hd => rfl); (case hg => rfl); (case hr => first | (go_simp; done) | (go_simp; rfl)); intro g9 hg wx9 hbox hb; have BK := Aside0.mk hbox; have Hb := Aside0.mk hb; have Hg := Aside0.mk hg; clear hg hbox hb; have hcz_0 : wx9.cell? ⟨g9, 0, none⟩ = some (.int .i64 0) := (blk_cell BK.out 0).trans rfl; have hfz_0 := blk_frozen BK.out 0; have hcz_1 : wx9.cell? ⟨g9, 1, none⟩ = some (.int .i64 0) := (blk_cell BK.out 1).trans rfl; have hfz_1 := blk_frozen BK.out 1; have hcz_2 : wx9.cell? ⟨g9, 2, none⟩ = some (.bool false) := (blk_cell BK.out 2).trans rfl; have hfz_2 := blk_frozen BK.out 2; have hcz_3 : wx9.cell? ⟨g9, 3, none⟩ = some (.slice none 0 0) := (blk_cell BK.out 3).trans rfl; have hfz_3 := blk_frozen BK.out 3; have hcz_4 : wx9.cell? ⟨g9, 4, none⟩ = some (.slice none 0 0) := (blk_cell BK.out 4).trans rfl; have hfz_4 := blk_frozen BK.out 4))
  have hge : w8.heap.size ≤ g9 := by rw [Hg.out]; exact Nat.le_refl _
  have hb : Below w8.heap.size w8 (((((wx9.setCell ⟨g9, 0, none⟩ (.int .i64 q_0)).setCell ⟨g9, 1, none⟩ (.int .i64 q_1)).setCell ⟨g9, 2, none⟩ (.bool q_2)).setCell ⟨g9, 3, none⟩ (.slice Aq_3 lq_3.length cq_3)).setCell ⟨g9, 4, none⟩ (.slice Aq_4 lq_4.length cq_4)) := (below_set (below_set (below_set (below_set (below_set Hb.out hge) hge) hge) hge) hge)
  have hbx : (((((wx9.setCell ⟨g9, 0, none⟩ (.int .i64 q_0)).setCell ⟨g9, 1, none⟩ (.int .i64 q_1)).setCell ⟨g9, 2, none⟩ (.bool q_2)).setCell ⟨g9, 3, none⟩ (.slice Aq_3 lq_3.length cq_3)).setCell ⟨g9, 4, none⟩ (.slice Aq_4 lq_4.length cq_4)).heap[g9]? = some (.cells #[.int .i64 q_0, .int .i64 q_1, .bool q_2, .slice Aq_3 lq_3.length cq_3, .slice Aq_4 lq_4.length cq_4] 24 (0, 0)) := (blk_put (cs' := #[.int .i64 q_0, .int .i64 q_1, .bool q_2, .slice Aq_3 lq_3.length cq_3, .slice Aq_4 lq_4.length cq_4]) (blk_put (cs' := #[.int .i64 q_0, .int .i64 q_1, .bool q_2, .slice Aq_3 lq_3.length cq_3, .slice none 0 0]) (blk_put (cs' := #[.int .i64 q_0, .int .i64 q_1, .bool q_2, .slice none 0 0, .slice none 0 0]) (blk_put (cs' := #[.int .i64 q_0, .int .i64 q_1, .bool false, .slice none 0 0, .slice none 0 0]) (blk_put (cs' := #[.int .i64 q_0, .int .i64 0, .bool false, .slice none 0 0, .slice none 0 0]) BK.out 0 (.int .i64 q_0) rfl) 1 (.int .i64 q_1) rfl) 2 (.bool q_2) rfl) 3 (.slice Aq_3 lq_3.length cq_3) rfl) 4 (.slice Aq_4 lq_4.length cq_4) rfl)
  clear hcz_0 hfz_0 hcz_1 hfz_1 hcz_2 hfz_2 hcz_3 hfz_3 hcz_4 hfz_4 BK Hb Hg hge
  generalize (((((wx9.setCell ⟨g9, 0, none⟩ (.int .i64 q_0)).setCell ⟨g9, 1, none⟩ (.int .i64 q_1)).setCell ⟨g9, 2, none⟩ (.bool q_2)).setCell ⟨g9, 3, none⟩ (.slice Aq_3 lq_3.length cq_3)).setCell ⟨g9, 4, none⟩ (.slice Aq_4 lq_4.length cq_4)) = w9 at hb hbx ⊢
  have n0_ := Aside0.mk (blk_below BK2.out hb)
  have n1_ := Aside0.mk (Kd.C_below HA3.out hb)
  have n2_ := Aside0.mk (Kd.C_below HA4.out hb)
  have n3_ := Aside0.mk (Kd.C_below HR.out hb)
  have n4_ := Aside0.mk (Kd.C_below HX.out hb)
  have n5_ := Aside0.mk (Kd.C_below Hq3.out hb)
  have n6_ := Aside0.mk (Kd.C_below Hq4.out hb)
  have n7_ := Aside0.mk (below_step HB.out hb)
  clear BK2 HA3 HA4 HR HX Hq3 Hq4 HB
  have BK2 := n0_
  have HA3 := n1_
  have HA4 := n2_
  have HR := n3_
  have HX := n4_
  have Hq3 := n5_
  have Hq4 := n6_
  have HB := n7_
  clear n0_ n1_ n2_ n3_ n4_ n5_ n6_ n7_
  clear hb
  have BK9 := Aside0.mk hbx
  clear hbx
  have hc_BK9_0 : w9.cell? ⟨g9, 0, none⟩ = some (.int .i64 q_0) := (blk_cell BK9.out 0).trans rfl
  have hc_BK9_1 : w9.cell? ⟨g9, 1, none⟩ = some (.int .i64 q_1) := (blk_cell BK9.out 1).trans rfl
  have hc_BK9_2 : w9.cell? ⟨g9, 2, none⟩ = some (.bool q_2) := (blk_cell BK9.out 2).trans rfl
  have hc_BK9_3 : w9.cell? ⟨g9, 3, none⟩ = some (.slice Aq_3 lq_3.length cq_3) := (blk_cell BK9.out 3).trans rfl
  have hc_BK9_4 : w9.cell? ⟨g9, 4, none⟩ = some (.slice Aq_4 lq_4.length cq_4) := (blk_cell BK9.out 4).trans rfl
  go_wp2_with fail
  go_ret
  exact ⟨rfl, HB.out⟩
def substationlaw15_StreamRoundTrip.f (k : Nat) (a_0 a_1 : Int) (a_2 : Bool) (la_3 la_4 : List Int) (lb : List Int) : Option Bool :=
  (substationlaw15_known.f k).bind fun t => if t = true then (stream_Encode.f k a_0 a_1 a_2 la_3 la_4).bind fun x =>
    (if x.2 = 0 then (stream_Decode.f k x.1).bind fun p => (substationref15_Same.f k p.1 p.2.1 p.2.2.1 p.2.2.2.1 p.2.2.2.2.1 a_0 a_1 a_2 la_3 la_4).bind fun s => some (decide (p.2.2.2.2.2 = 0 ∧ s = true)) else some true).bind fun b =>
    if b = true then (stream_Decode.f k lb).bind fun q => if q.2.2.2.2.2 = 0 then (stream_Encode.f k q.1 q.2.1 q.2.2.1 q.2.2.2.1 q.2.2.2.2.1).bind fun y => if y.2 = 0 ∧ strOfNums y.1 = strOfNums lb then some true else none else if q.2.2.2.1.length = 0 then some true else none else none else none
theorem substationlaw15_StreamRoundTrip.calls (k : Nat) (a_0 a_1 : Int) (a_2 : Bool) (Aa_3 : Option Addr) (ca_3 : Nat) (la_3 : List Int) (Aa_4 : Option Addr) (ca_4 : Nat) (la_4 : List Int) (Ab : Option Addr) (cb : Nat) (lb : List Int) (w : World) (hra_3 : Kd.C (Kd.int .i64) w Aa_3 la_3.length la_3) (hca_3 : la_3.length ≤ ca_3) (hra_4 : Kd.C (Kd.int .i64) w Aa_4 la_4.length la_4) (hca_4 : la_4.length ≤ ca_4) (hrb : Kd.C (Kd.int .u8) w Ab lb.length lb) (hcb : lb.length ≤ cb)
    (h : substationlaw15_StreamRoundTrip.f k a_0 a_1 a_2 la_3 la_4 lb = some true) : Calls Try.prog 6 #[.agg #[.int .i64 a_0, .int .i64 a_1, .bool a_2, .slice Aa_3 la_3.length ca_3, .slice Aa_4 la_4.length ca_4], .slice Ab lb.length cb] w fun e w' => e = .returned (.bool true) ∧ Below w.heap.size w w' := by
  unfold substationlaw15_StreamRoundTrip.f at h
  obtain ⟨t, e0, h⟩ := Option.bind_eq_some_iff.mp h
  by_cases ht : t = true
  · rw [if_pos ht] at h
    subst ht
    obtain ⟨⟨x, ex⟩, e1, h⟩ := Option.bind_eq_some_iff.mp h
    dsimp only at h
    obtain ⟨b, eb, h⟩ := Option.bind_eq_some_iff.mp h
    by_cases hb : b = true
    · rw [if_pos hb] at h
      subst hb
      obtain ⟨⟨q0, q1, q2, q3, q4, q5⟩, e4, h⟩ := Option.bind_eq_some_iff.mp h
      dsimp only at h
      by_cases h5 : q5 = 0
      · rw [if_pos h5] at h
        subst h5
        obtain ⟨⟨y, ey⟩, e5, h⟩ := Option.bind_eq_some_iff.mp h
        dsimp only at h
        by_cases hy : ey = 0 ∧ strOfNums y = strOfNums lb
        · obtain ⟨rfl, e6⟩ := hy
          by_cases hx : ex = 0
          · subst hx
            rw [if_pos rfl] at eb
            obtain ⟨⟨p0, p1, p2, p3, p4, p5⟩, e2, eb⟩ := Option.bind_eq_some_iff.mp eb
            dsimp only at eb
            obtain ⟨s, e3, eb⟩ := Option.bind_eq_some_iff.mp eb
            obtain ⟨rfl, rfl⟩ := of_decide_eq_true (Option.some.inj eb)
            exact round_11 k a_0 a_1 a_2 Aa_3 ca_3 la_3 Aa_4 ca_4 la_4 Ab cb lb w hra_3 hca_3 hra_4 hca_4 hrb hcb x 0 _ _ _ _ _ 0 _ _ _ _ _ y e0 e1 e2 e3 e4 e5 e6
          · exact round_01 k a_0 a_1 a_2 Aa_3 ca_3 la_3 Aa_4 ca_4 la_4 Ab cb lb w hra_3 hca_3 hra_4 hca_4 hrb hcb x ex _ _ _ _ _ 0 y e0 e1 e4 e5 e6 (beq_eq_false_iff_ne.mpr hx)
        · rw [if_neg hy] at h; cases h
      · rw [if_neg h5] at h
        by_cases hz : q3.length = 0
        · by_cases hx : ex = 0
          · subst hx
            rw [if_pos rfl] at eb
            obtain ⟨⟨p0, p1, p2, p3, p4, p5⟩, e2, eb⟩ := Option.bind_eq_some_iff.mp eb
            dsimp only at eb
            obtain ⟨s, e3, eb⟩ := Option.bind_eq_some_iff.mp eb
            obtain ⟨rfl, rfl⟩ := of_decide_eq_true (Option.some.inj eb)
            exact round_10 k a_0 a_1 a_2 Aa_3 ca_3 la_3 Aa_4 ca_4 la_4 Ab cb lb w hra_3 hca_3 hra_4 hca_4 hrb hcb x 0 _ _ _ _ _ q5 _ _ _ _ _ e0 e1 e2 e3 e4 (bne_iff_ne.mpr h5) (by rw [hz]; rfl)
          · exact round_00 k a_0 a_1 a_2 Aa_3 ca_3 la_3 Aa_4 ca_4 la_4 Ab cb lb w hra_3 hca_3 hra_4 hca_4 hrb hcb x ex _ _ _ _ _ q5 e0 e1 e4 (beq_eq_false_iff_ne.mpr hx) (bne_iff_ne.mpr h5) (by rw [hz]; rfl)
        · rw [if_neg hz] at h; cases h
    · rw [if_neg hb] at h; cases h
  · rw [if_neg ht] at h; cases h
end Go.Proofs.Ytlfphopfoicjpaa.PAll
