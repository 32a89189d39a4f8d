/- The walk of the law StreamBytes, as far as it returns true: what it computes is its '.f'. Conditions: none. -/
import Derived.Test.YtlfphopfoicjpaaPAllx7
import Derived.Test.YtlfphopfoicjpaaPAllx5
import Derived.Test.YtlfphopfoicjpaaChk
namespace Go.Proofs.Ytlfphopfoicjpaa.PAll
open Go.RowKit Go.Proofs.YtlfphopfoicjpaaW.PrintWords Go.Proofs.YtlfphopfoicjpaaW.PrintLast Go.Proofs.YtlfphopfoicjpaaW.PrintMore
attribute [local go_sem] max2_int min2_int max_two min_two max_three min_three max_four min_four
set_option linter.unusedVariables false
set_option linter.unusedSimpArgs false
set_option maxHeartbeats 8000000 in
set_option maxRecDepth 100000 in
theorem bytes_walk (k : Nat) (a_0 a_1 : Int) (a_2 : Bool) (Aa_3 : Option Addr) (ca_3 : Nat) (la_3 : List Int) (Aa_4 : Option Addr) (ca_4 : Nat) (la_4 : List Int) (Ab : Option Addr) (cb : Nat) (lb : List Int) (w : World) (hra_3 : Kd.C (Kd.int .i64) w Aa_3 la_3.length la_3) (hca_3 : la_3.length ≤ ca_3) (hra_4 : Kd.C (Kd.int .i64) w Aa_4 la_4.length la_4) (hca_4 : la_4.length ≤ ca_4) (hrb : Kd.C (Kd.int .u8) w Ab lb.length lb) (hcb : lb.length ≤ cb)
    (x y : List Int) (e : Int) (p_0 p_1 : Int) (p_2 : Bool) (lp_3 lp_4 : List Int) (q_0 q_1 : Int) (q_2 : Bool) (lq_3 lq_4 : List Int) (i : Int) (e0 : substationlaw15_known.f k = some true) (e1 : stream_Encode.f k a_0 a_1 a_2 la_3 la_4 = some (x, e)) (e2 : substationref15_Encode.f k a_0 a_1 a_2 la_3 la_4 = some (y, e)) (exy : strOfNums x = strOfNums y)
    (e3 : stream_Decode.f k lb = some (p_0, p_1, p_2, lp_3, lp_4, i)) (e4 : substationref15_Decode.f k lb = some (q_0, q_1, q_2, lq_3, lq_4, i)) (e5 : substationref15_Same.f k p_0 p_1 p_2 lp_3 lp_4 q_0 q_1 q_2 lq_3 lq_4 = some true) :
    Calls Try.prog 4 #[.agg #[.int .i64 a_0, .int .i64 a_1, .bool a_2, .slice Aa_3 la_3.length ca_3, .slice Aa_4 la_4.length ca_4], .slice Ab lb.length cb] w fun e w' => e = .returned (.bool true) ∧ Below w.heap.size w w' := by
  have hu24 := Try.underlying24
  have hu29 := Try.underlying29
  have E0 := Aside0.mk e0
  have E1 := Aside0.mk e1
  have E2 := Aside0.mk e2
  have E3 := Aside0.mk e3
  have E4 := Aside0.mk e4
  have E5 := Aside0.mk e5
  have EXY := Aside0.mk exy
  clear e0 e1 e2 e3 e4 e5 exy
  have HB := Aside0.mk (Below.refl w.heap.size w)
  have HA3 := Aside0.mk hra_3
  have HA4 := Aside0.mk hra_4
  have HR := Aside0.mk hrb
  clear hra_3 hra_4 hrb
  go_enter Try.func4, Try.ntmps4
  go_wp2_with (first | ((with_reducible refine gate_dst (N := 2) rfl ?_); refine box_event ?hg (N := 2) ?hd (cs := #[.int .i64 a_0, .int .i64 a_1, .bool a_2, .slice Aa_3 la_3.length ca_3, .slice Aa_4 la_4.length ca_4]) (t := 24) ?hr ?_; (case hd => rfl); (case hg => rfl); (case hr => first | (go_simp; done) | (go_simp; rfl)); intro g2 hg wx2 hbox hb; have BK2 := Aside0.mk hbox; have Hb := Aside0.mk hb; clear hbox hb hg))
  have n0_ := Aside0.mk (Kd.C_below HA3.out Hb.out)
  have n1_ := Aside0.mk (Kd.C_below HA4.out Hb.out)
  have n2_ := Aside0.mk (Kd.C_below HR.out Hb.out)
  have n3_ := Aside0.mk (below_step HB.out Hb.out)
  clear HA3 HA4 HR HB
  have HA3 := n0_
  have HA4 := n1_
  have HR := n2_
  have HB := n3_
  clear n0_ n1_ n2_ n3_
  clear Hb
  refine (substationlaw15_known.calls k true _ E0.out).mono ?_
  rintro e_ w1 ⟨rfl, hb⟩
  have n0_ := Aside0.mk (blk_below BK2.out hb)
  have n1_ := Aside0.mk (Kd.C_below HA3.out hb)
  have n2_ := Aside0.mk (Kd.C_below HA4.out hb)
  have n3_ := Aside0.mk (Kd.C_below HR.out hb)
  have n4_ := Aside0.mk (below_step HB.out hb)
  clear BK2 HA3 HA4 HR HB
  have BK2 := n0_
  have HA3 := n1_
  have HA4 := n2_
  have HR := n3_
  have HB := n4_
  clear n0_ n1_ n2_ n3_ n4_
  clear hb
  have hc_BK2_0 : w1.cell? ⟨g2, 0, none⟩ = some (.int .i64 a_0) := (blk_cell BK2.out 0).trans rfl
  have hc_BK2_1 : w1.cell? ⟨g2, 1, none⟩ = some (.int .i64 a_1) := (blk_cell BK2.out 1).trans rfl
  have hc_BK2_2 : w1.cell? ⟨g2, 2, none⟩ = some (.bool a_2) := (blk_cell BK2.out 2).trans rfl
  have hc_BK2_3 : w1.cell? ⟨g2, 3, none⟩ = some (.slice Aa_3 la_3.length ca_3) := (blk_cell BK2.out 3).trans rfl
  have hc_BK2_4 : w1.cell? ⟨g2, 4, none⟩ = some (.slice Aa_4 la_4.length ca_4) := (blk_cell BK2.out 4).trans rfl
  go_wp2_with fail
  clear hc_BK2_0 hc_BK2_1 hc_BK2_2 hc_BK2_3 hc_BK2_4
  refine (stream_Encode.calls k a_0 a_1 a_2 Aa_3 ca_3 la_3 Aa_4 ca_4 la_4 x e _ HA3.out hca_3 HA4.out hca_4 E1.out).mono ?_
  rintro e_ w2 ⟨v_, rfl, ho, hb⟩
  have n0_ := Aside0.mk (blk_below BK2.out hb)
  have n1_ := Aside0.mk (Kd.C_below HA3.out hb)
  have n2_ := Aside0.mk (Kd.C_below HA4.out hb)
  have n3_ := Aside0.mk (Kd.C_below HR.out hb)
  have n4_ := Aside0.mk (below_step HB.out hb)
  clear BK2 HA3 HA4 HR HB
  have BK2 := n0_
  have HA3 := n1_
  have HA4 := n2_
  have HR := n3_
  have HB := n4_
  clear n0_ n1_ n2_ n3_ n4_
  obtain ⟨Ax, cx, rfl⟩ := Kd.R_slice ho
  have hHX := (Kd.R_reads' ho).2.1
  have HX := Aside0.mk (Kd.R_reads' ho).2.2
  clear ho
  clear hb
  have hc_BK2_0 : w2.cell? ⟨g2, 0, none⟩ = some (.int .i64 a_0) := (blk_cell BK2.out 0).trans rfl
  have hc_BK2_1 : w2.cell? ⟨g2, 1, none⟩ = some (.int .i64 a_1) := (blk_cell BK2.out 1).trans rfl
  have hc_BK2_2 : w2.cell? ⟨g2, 2, none⟩ = some (.bool a_2) := (blk_cell BK2.out 2).trans rfl
  have hc_BK2_3 : w2.cell? ⟨g2, 3, none⟩ = some (.slice Aa_3 la_3.length ca_3) := (blk_cell BK2.out 3).trans rfl
  have hc_BK2_4 : w2.cell? ⟨g2, 4, none⟩ = some (.slice Aa_4 la_4.length ca_4) := (blk_cell BK2.out 4).trans rfl
  go_wp2_with fail
  clear hc_BK2_0 hc_BK2_1 hc_BK2_2 hc_BK2_3 hc_BK2_4
  refine (to_x a_0 a_1 a_2 Aa_3 la_3.length ca_3 Aa_4 la_4.length ca_4 _).mono ?_
  rintro e_ w3 ⟨rfl, hb⟩
  have n0_ := Aside0.mk (blk_below BK2.out hb)
  have n1_ := Aside0.mk (Kd.C_below HA3.out hb)
  have n2_ := Aside0.mk (Kd.C_below HA4.out hb)
  have n3_ := Aside0.mk (Kd.C_below HR.out hb)
  have n4_ := Aside0.mk (Kd.C_below HX.out hb)
  have n5_ := Aside0.mk (below_step HB.out hb)
  clear BK2 HA3 HA4 HR HX HB
  have BK2 := n0_
  have HA3 := n1_
  have HA4 := n2_
  have HR := n3_
  have HX := n4_
  have HB := n5_
  clear n0_ n1_ n2_ n3_ n4_ n5_
  clear hb
  go_wp2_with fail
  refine (substationref15_Encode.calls k a_0 a_1 a_2 Aa_3 ca_3 la_3 Aa_4 ca_4 la_4 y e _ HA3.out hca_3 HA4.out hca_4 E2.out).mono ?_
  rintro e_ w4 ⟨v_, rfl, ho, hb⟩
  have n0_ := Aside0.mk (blk_below BK2.out hb)
  have n1_ := Aside0.mk (Kd.C_below HA3.out hb)
  have n2_ := Aside0.mk (Kd.C_below HA4.out hb)
  have n3_ := Aside0.mk (Kd.C_below HR.out hb)
  have n4_ := Aside0.mk (Kd.C_below HX.out hb)
  have n5_ := Aside0.mk (below_step HB.out hb)
  clear BK2 HA3 HA4 HR HX HB
  have BK2 := n0_
  have HA3 := n1_
  have HA4 := n2_
  have HR := n3_
  have HX := n4_
  have HB := n5_
  clear n0_ n1_ n2_ n3_ n4_ n5_
  obtain ⟨Ay, cy, rfl⟩ := Kd.R_slice ho
  have hHY := (Kd.R_reads' ho).2.1
  have HY := Aside0.mk (Kd.R_reads' ho).2.2
  clear ho
  clear hb
  go_wp2_with fail
  refine (stream_Decode.calls k Ab cb lb p_0 p_1 p_2 lp_3 lp_4 i _ HR.out hcb E3.out).mono ?_
  rintro e_ w5 ⟨v_, u_, rfl, ho, hp, hb⟩
  have n0_ := Aside0.mk (blk_below BK2.out hb)
  have n1_ := Aside0.mk (Kd.C_below HA3.out hb)
  have n2_ := Aside0.mk (Kd.C_below HA4.out hb)
  have n3_ := Aside0.mk (Kd.C_below HR.out hb)
  have n4_ := Aside0.mk (Kd.C_below HX.out hb)
  have n5_ := Aside0.mk (Kd.C_below HY.out hb)
  have n6_ := Aside0.mk (below_step HB.out hb)
  clear BK2 HA3 HA4 HR HX HY HB
  have BK2 := n0_
  have HA3 := n1_
  have HA4 := n2_
  have HR := n3_
  have HX := n4_
  have HY := n5_
  have HB := n6_
  clear n0_ n1_ n2_ n3_ n4_ n5_ n6_
  obtain ⟨Ap_3, cp_3, rfl⟩ := Kd.R_slice ho
  have hHp3 := (Kd.R_reads' ho).2.1
  have Hp3 := Aside0.mk (Kd.R_reads' ho).2.2
  clear ho
  obtain ⟨Ap_4, cp_4, rfl⟩ := Kd.R_slice hp
  have hHp4 := (Kd.R_reads' hp).2.1
  have Hp4 := Aside0.mk (Kd.R_reads' hp).2.2
  clear hp
  clear hb
  go_wp2_with (first | ((with_reducible refine gate_dst (N := 9) rfl ?_); refine box_event ?hg (N := 9) ?hd (cs := #[.int .i64 0, .int .i64 0, .bool false, .slice none 0 0, .slice none 0 0]) (t := 24) ?hr ?_; (case hd => rfl); (case hg => rfl); (case hr => first | (go_simp; done) | (go_simp; rfl)); intro g9 hg wx9 hbox hb; have BK := Aside0.mk hbox; have Hb := Aside0.mk hb; have Hg := Aside0.mk hg; clear hg hbox hb; have hcz_0 : wx9.cell? ⟨g9, 0, none⟩ = some (.int .i64 0) := (blk_cell BK.out 0).trans rfl; have hfz_0 := blk_frozen BK.out 0; have hcz_1 : wx9.cell? ⟨g9, 1, none⟩ = some (.int .i64 0) := (blk_cell BK.out 1).trans rfl; have hfz_1 := blk_frozen BK.out 1; have hcz_2 : wx9.cell? ⟨g9, 2, none⟩ = some (.bool false) := (blk_cell BK.out 2).trans rfl; have hfz_2 := blk_frozen BK.out 2; have hcz_3 : wx9.cell? ⟨g9, 3, none⟩ = some (.slice none 0 0) := (blk_cell BK.out 3).trans rfl; have hfz_3 := blk_frozen BK.out 3; have hcz_4 : wx9.cell? ⟨g9, 4, none⟩ = some (.slice none 0 0) := (blk_cell BK.out 4).trans rfl; have hfz_4 := blk_frozen BK.out 4))
  have hge : w5.heap.size ≤ g9 := by rw [Hg.out]; exact Nat.le_refl _
  have hb : Below w5.heap.size w5 (((((wx9.setCell ⟨g9, 0, none⟩ (.int .i64 p_0)).setCell ⟨g9, 1, none⟩ (.int .i64 p_1)).setCell ⟨g9, 2, none⟩ (.bool p_2)).setCell ⟨g9, 3, none⟩ (.slice Ap_3 lp_3.length cp_3)).setCell ⟨g9, 4, none⟩ (.slice Ap_4 lp_4.length cp_4)) := (below_set (below_set (below_set (below_set (below_set Hb.out hge) hge) hge) hge) hge)
  have hbx : (((((wx9.setCell ⟨g9, 0, none⟩ (.int .i64 p_0)).setCell ⟨g9, 1, none⟩ (.int .i64 p_1)).setCell ⟨g9, 2, none⟩ (.bool p_2)).setCell ⟨g9, 3, none⟩ (.slice Ap_3 lp_3.length cp_3)).setCell ⟨g9, 4, none⟩ (.slice Ap_4 lp_4.length cp_4)).heap[g9]? = some (.cells #[.int .i64 p_0, .int .i64 p_1, .bool p_2, .slice Ap_3 lp_3.length cp_3, .slice Ap_4 lp_4.length cp_4] 24 (0, 0)) := (blk_put (cs' := #[.int .i64 p_0, .int .i64 p_1, .bool p_2, .slice Ap_3 lp_3.length cp_3, .slice Ap_4 lp_4.length cp_4]) (blk_put (cs' := #[.int .i64 p_0, .int .i64 p_1, .bool p_2, .slice Ap_3 lp_3.length cp_3, .slice none 0 0]) (blk_put (cs' := #[.int .i64 p_0, .int .i64 p_1, .bool p_2, .slice none 0 0, .slice none 0 0]) (blk_put (cs' := #[.int .i64 p_0, .int .i64 p_1, .bool false, .slice none 0 0, .slice none 0 0]) (blk_put (cs' := #[.int .i64 p_0, .int .i64 0, .bool false, .slice none 0 0, .slice none 0 0]) BK.out 0 (.int .i64 p_0) rfl) 1 (.int .i64 p_1) rfl) 2 (.bool p_2) rfl) 3 (.slice Ap_3 lp_3.length cp_3) rfl) 4 (.slice Ap_4 lp_4.length cp_4) rfl)
  clear hcz_0 hfz_0 hcz_1 hfz_1 hcz_2 hfz_2 hcz_3 hfz_3 hcz_4 hfz_4 BK Hb Hg hge
  generalize (((((wx9.setCell ⟨g9, 0, none⟩ (.int .i64 p_0)).setCell ⟨g9, 1, none⟩ (.int .i64 p_1)).setCell ⟨g9, 2, none⟩ (.bool p_2)).setCell ⟨g9, 3, none⟩ (.slice Ap_3 lp_3.length cp_3)).setCell ⟨g9, 4, none⟩ (.slice Ap_4 lp_4.length cp_4)) = w6 at hb hbx ⊢
  have n0_ := Aside0.mk (blk_below BK2.out hb)
  have n1_ := Aside0.mk (Kd.C_below HA3.out hb)
  have n2_ := Aside0.mk (Kd.C_below HA4.out hb)
  have n3_ := Aside0.mk (Kd.C_below HR.out hb)
  have n4_ := Aside0.mk (Kd.C_below HX.out hb)
  have n5_ := Aside0.mk (Kd.C_below HY.out hb)
  have n6_ := Aside0.mk (Kd.C_below Hp3.out hb)
  have n7_ := Aside0.mk (Kd.C_below Hp4.out hb)
  have n8_ := Aside0.mk (below_step HB.out hb)
  clear BK2 HA3 HA4 HR HX HY Hp3 Hp4 HB
  have BK2 := n0_
  have HA3 := n1_
  have HA4 := n2_
  have HR := n3_
  have HX := n4_
  have HY := n5_
  have Hp3 := n6_
  have Hp4 := n7_
  have HB := n8_
  clear n0_ n1_ n2_ n3_ n4_ n5_ n6_ n7_ n8_
  clear hb
  have BK9 := Aside0.mk hbx
  clear hbx
  refine (substationref15_Decode.calls k Ab cb lb q_0 q_1 q_2 lq_3 lq_4 i _ HR.out hcb E4.out).mono ?_
  rintro e_ w7 ⟨v_, u_, rfl, ho, hp, hb⟩
  have n0_ := Aside0.mk (blk_below BK2.out hb)
  have n1_ := Aside0.mk (blk_below BK9.out hb)
  have n2_ := Aside0.mk (Kd.C_below HA3.out hb)
  have n3_ := Aside0.mk (Kd.C_below HA4.out hb)
  have n4_ := Aside0.mk (Kd.C_below HR.out hb)
  have n5_ := Aside0.mk (Kd.C_below HX.out hb)
  have n6_ := Aside0.mk (Kd.C_below HY.out hb)
  have n7_ := Aside0.mk (Kd.C_below Hp3.out hb)
  have n8_ := Aside0.mk (Kd.C_below Hp4.out hb)
  have n9_ := Aside0.mk (below_step HB.out hb)
  clear BK2 BK9 HA3 HA4 HR HX HY Hp3 Hp4 HB
  have BK2 := n0_
  have BK9 := n1_
  have HA3 := n2_
  have HA4 := n3_
  have HR := n4_
  have HX := n5_
  have HY := n6_
  have Hp3 := n7_
  have Hp4 := n8_
  have HB := n9_
  clear n0_ n1_ n2_ n3_ n4_ n5_ n6_ n7_ n8_ n9_
  obtain ⟨Aq_3, cq_3, rfl⟩ := Kd.R_slice ho
  have hHq3 := (Kd.R_reads' ho).2.1
  have Hq3 := Aside0.mk (Kd.R_reads' ho).2.2
  clear ho
  obtain ⟨Aq_4, cq_4, rfl⟩ := Kd.R_slice hp
  have hHq4 := (Kd.R_reads' hp).2.1
  have Hq4 := Aside0.mk (Kd.R_reads' hp).2.2
  clear hp
  clear hb
  go_wp2_with (first | ((with_reducible refine gate_dst (N := 11) rfl ?_); refine box_event ?hg (N := 11) ?hd (cs := #[.int .i64 0, .int .i64 0, .bool false, .slice none 0 0, .slice none 0 0]) (t := 29) ?hr ?_; (case hd => rfl); (case hg => rfl); (case hr => first | (go_simp; done) | (go_simp; rfl)); intro g11 hg wx11 hbox hb; have BK := Aside0.mk hbox; have Hb := Aside0.mk hb; have Hg := Aside0.mk hg; clear hg hbox hb; have hcz_0 : wx11.cell? ⟨g11, 0, none⟩ = some (.int .i64 0) := (blk_cell BK.out 0).trans rfl; have hfz_0 := blk_frozen BK.out 0; have hcz_1 : wx11.cell? ⟨g11, 1, none⟩ = some (.int .i64 0) := (blk_cell BK.out 1).trans rfl; have hfz_1 := blk_frozen BK.out 1; have hcz_2 : wx11.cell? ⟨g11, 2, none⟩ = some (.bool false) := (blk_cell BK.out 2).trans rfl; have hfz_2 := blk_frozen BK.out 2; have hcz_3 : wx11.cell? ⟨g11, 3, none⟩ = some (.slice none 0 0) := (blk_cell BK.out 3).trans rfl; have hfz_3 := blk_frozen BK.out 3; have hcz_4 : wx11.cell? ⟨g11, 4, none⟩ = some (.slice none 0 0) := (blk_cell BK.out 4).trans rfl; have hfz_4 := blk_frozen BK.out 4))
  have hge : w7.heap.size ≤ g11 := by rw [Hg.out]; exact Nat.le_refl _
  have hb : Below w7.heap.size w7 (((((wx11.setCell ⟨g11, 0, none⟩ (.int .i64 q_0)).setCell ⟨g11, 1, none⟩ (.int .i64 q_1)).setCell ⟨g11, 2, none⟩ (.bool q_2)).setCell ⟨g11, 3, none⟩ (.slice Aq_3 lq_3.length cq_3)).setCell ⟨g11, 4, none⟩ (.slice Aq_4 lq_4.length cq_4)) := (below_set (below_set (below_set (below_set (below_set Hb.out hge) hge) hge) hge) hge)
  have hbx : (((((wx11.setCell ⟨g11, 0, none⟩ (.int .i64 q_0)).setCell ⟨g11, 1, none⟩ (.int .i64 q_1)).setCell ⟨g11, 2, none⟩ (.bool q_2)).setCell ⟨g11, 3, none⟩ (.slice Aq_3 lq_3.length cq_3)).setCell ⟨g11, 4, none⟩ (.slice Aq_4 lq_4.length cq_4)).heap[g11]? = some (.cells #[.int .i64 q_0, .int .i64 q_1, .bool q_2, .slice Aq_3 lq_3.length cq_3, .slice Aq_4 lq_4.length cq_4] 29 (0, 0)) := (blk_put (cs' := #[.int .i64 q_0, .int .i64 q_1, .bool q_2, .slice Aq_3 lq_3.length cq_3, .slice Aq_4 lq_4.length cq_4]) (blk_put (cs' := #[.int .i64 q_0, .int .i64 q_1, .bool q_2, .slice Aq_3 lq_3.length cq_3, .slice none 0 0]) (blk_put (cs' := #[.int .i64 q_0, .int .i64 q_1, .bool q_2, .slice none 0 0, .slice none 0 0]) (blk_put (cs' := #[.int .i64 q_0, .int .i64 q_1, .bool false, .slice none 0 0, .slice none 0 0]) (blk_put (cs' := #[.int .i64 q_0, .int .i64 0, .bool false, .slice none 0 0, .slice none 0 0]) BK.out 0 (.int .i64 q_0) rfl) 1 (.int .i64 q_1) rfl) 2 (.bool q_2) rfl) 3 (.slice Aq_3 lq_3.length cq_3) rfl) 4 (.slice Aq_4 lq_4.length cq_4) rfl)
  clear hcz_0 hfz_0 hcz_1 hfz_1 hcz_2 hfz_2 hcz_3 hfz_3 hcz_4 hfz_4 BK Hb Hg hge
  generalize (((((wx11.setCell ⟨g11, 0, none⟩ (.int .i64 q_0)).setCell ⟨g11, 1, none⟩ (.int .i64 q_1)).setCell ⟨g11, 2, none⟩ (.bool q_2)).setCell ⟨g11, 3, none⟩ (.slice Aq_3 lq_3.length cq_3)).setCell ⟨g11, 4, none⟩ (.slice Aq_4 lq_4.length cq_4)) = w8 at hb hbx ⊢
  have n0_ := Aside0.mk (blk_below BK2.out hb)
  have n1_ := Aside0.mk (blk_below BK9.out hb)
  have n2_ := Aside0.mk (Kd.C_below HA3.out hb)
  have n3_ := Aside0.mk (Kd.C_below HA4.out hb)
  have n4_ := Aside0.mk (Kd.C_below HR.out hb)
  have n5_ := Aside0.mk (Kd.C_below HX.out hb)
  have n6_ := Aside0.mk (Kd.C_below HY.out hb)
  have n7_ := Aside0.mk (Kd.C_below Hp3.out hb)
  have n8_ := Aside0.mk (Kd.C_below Hp4.out hb)
  have n9_ := Aside0.mk (Kd.C_below Hq3.out hb)
  have n10_ := Aside0.mk (Kd.C_below Hq4.out hb)
  have n11_ := Aside0.mk (below_step HB.out hb)
  clear BK2 BK9 HA3 HA4 HR HX HY Hp3 Hp4 Hq3 Hq4 HB
  have BK2 := n0_
  have BK9 := n1_
  have HA3 := n2_
  have HA4 := n3_
  have HR := n4_
  have HX := n5_
  have HY := n6_
  have Hp3 := n7_
  have Hp4 := n8_
  have Hq3 := n9_
  have Hq4 := n10_
  have HB := n11_
  clear n0_ n1_ n2_ n3_ n4_ n5_ n6_ n7_ n8_ n9_ n10_ n11_
  clear hb
  have BK11 := Aside0.mk hbx
  clear hbx
  have n0_ := Aside0.mk (blk_drew BK2.out)
  have n1_ := Aside0.mk (blk_drew BK9.out)
  have n2_ := Aside0.mk (blk_drew BK11.out)
  have n3_ := Aside0.mk (Kd.C_drew HA3.out)
  have n4_ := Aside0.mk (Kd.C_drew HA4.out)
  have n5_ := Aside0.mk (Kd.C_drew HR.out)
  have n6_ := Aside0.mk (Kd.C_drew HX.out)
  have n7_ := Aside0.mk (Kd.C_drew HY.out)
  have n8_ := Aside0.mk (Kd.C_drew Hp3.out)
  have n9_ := Aside0.mk (Kd.C_drew Hp4.out)
  have n10_ := Aside0.mk (Kd.C_drew Hq3.out)
  have n11_ := Aside0.mk (Kd.C_drew Hq4.out)
  have n12_ := Aside0.mk (below_drew1 HB.out)
  clear BK2 BK9 BK11 HA3 HA4 HR HX HY Hp3 Hp4 Hq3 Hq4 HB
  have BK2 := n0_
  have BK9 := n1_
  have BK11 := n2_
  have HA3 := n3_
  have HA4 := n4_
  have HR := n5_
  have HX := n6_
  have HY := n7_
  have Hp3 := n8_
  have Hp4 := n9_
  have Hq3 := n10_
  have Hq4 := n11_
  have HB := n12_
  clear n0_ n1_ n2_ n3_ n4_ n5_ n6_ n7_ n8_ n9_ n10_ n11_ n12_
  refine start_ (n := 22) (S := fun w' => w'.cell? ⟨g9, 0, none⟩ = some (.int .i64 p_0) ∧ w'.cell? ⟨g9, 1, none⟩ = some (.int .i64 p_1) ∧ w'.cell? ⟨g9, 2, none⟩ = some (.bool p_2) ∧ w'.cell? ⟨g9, 3, none⟩ = some (.slice Ap_3 lp_3.length cp_3) ∧ w'.cell? ⟨g9, 4, none⟩ = some (.slice Ap_4 lp_4.length cp_4) ∧ w'.cell? ⟨g11, 0, none⟩ = some (.int .i64 q_0) ∧ w'.cell? ⟨g11, 1, none⟩ = some (.int .i64 q_1) ∧ w'.cell? ⟨g11, 2, none⟩ = some (.bool q_2) ∧ w'.cell? ⟨g11, 3, none⟩ = some (.slice Aq_3 lq_3.length cq_3) ∧ w'.cell? ⟨g11, 4, none⟩ = some (.slice Aq_4 lq_4.length cq_4) ∧ (Go.convert 35 9 (.slice Ax x.length cx)).run Try.prog w' = .ok (.string (strOfNums x)) w' ∧ (Go.convert 35 9 (.slice Ay y.length cy)).run Try.prog w' = .ok (.string (strOfNums x)) w') (ds := []) #[false, false, false, false, false, false, false, false, false, false, false, false, false, false, false, false, false, false, false, false, false, false] (by kernel_rfl) rfl rfl ⟨(blk_cell BK9.out 0).trans rfl, (blk_cell BK9.out 1).trans rfl, (blk_cell BK9.out 2).trans rfl, (blk_cell BK9.out 3).trans rfl, (blk_cell BK9.out 4).trans rfl, (blk_cell BK11.out 0).trans rfl, (blk_cell BK11.out 1).trans rfl, (blk_cell BK11.out 2).trans rfl, (blk_cell BK11.out 3).trans rfl, (blk_cell BK11.out 4).trans rfl, Kd.C_string Try.underlying35 Try.underlying5 Try.underlying9 HX.out, (Kd.C_string Try.underlying35 Try.underlying5 Try.underlying9 HY.out).trans (by rw [EXY.out])⟩ (fun hHeld => ?_)
  generalize w8.drew = wd at BK2 BK9 BK11 HA3 HA4 HR HX HY Hp3 Hp4 Hq3 Hq4 HB hHeld ⊢
  refine pure_ (i := 0) (N := some 36) (v := ?_) (a' := ?_) #[true, false, false, false, false, false, false, false, false, false, false, false, false, false, false, false, false, false, false, false, false, false] rfl rfl (by kernel_rfl) (fun _ _ _ h => h) (Or.inl ⟨by rfl, ?_⟩) ?_ ?_
  rotate_left
  · intro w'
    go_simp
    with_reducible rfl
  rotate_left
  · simp only [Act.put, List.setIfInBounds_toArray, List.set_cons_zero, List.set_cons_succ, i64_w, i32_w]
    rfl
  refine pure_ (i := 1) (N := some 37) (v := ?_) (a' := ?_) #[true, true, false, false, false, false, false, false, false, false, false, false, false, false, false, false, false, false, false, false, false, false] rfl rfl (by kernel_rfl) (fun _ _ _ h => h) (Or.inl ⟨by rfl, ?_⟩) ?_ ?_
  rotate_left
  · intro w'
    go_simp
    with_reducible rfl
  rotate_left
  · simp only [Act.put, List.setIfInBounds_toArray, List.set_cons_zero, List.set_cons_succ, i64_w, i32_w]
    rfl
  refine pure_ (i := 2) (N := some 38) (v := ?_) (a' := ?_) #[true, true, true, false, false, false, false, false, false, false, false, false, false, false, false, false, false, false, false, false, false, false] rfl rfl (by kernel_rfl) (fun _ _ _ h => h) (Or.inl ⟨by rfl, ?_⟩) ?_ ?_
  rotate_left
  · intro w'
    go_simp
    with_reducible rfl
  rotate_left
  · simp only [Act.put, List.setIfInBounds_toArray, List.set_cons_zero, List.set_cons_succ, i64_w, i32_w]
    rfl
  refine pure_ (i := 3) (N := some 39) (v := ?_) (a' := ?_) #[true, true, true, true, false, false, false, false, false, false, false, false, false, false, false, false, false, false, false, false, false, false] rfl rfl (by kernel_rfl) (fun _ _ _ h => h) (Or.inl ⟨by rfl, ?_⟩) ?_ ?_
  rotate_left
  · intro w'
    go_simp
    with_reducible rfl
  rotate_left
  · simp only [Act.put, List.setIfInBounds_toArray, List.set_cons_zero, List.set_cons_succ, i64_w, i32_w]
    rfl
  refine pure_ (i := 4) (N := some 40) (v := ?_) (a' := ?_) #[true, true, true, true, true, false, false, false, false, false, false, false, false, false, false, false, false, false, false, false, false, false] rfl rfl (by kernel_rfl) (fun _ _ _ h => h) (Or.inl ⟨by rfl, ?_⟩) ?_ ?_
  rotate_left
  · intro w'
    go_simp
    with_reducible rfl
  rotate_left
  · simp only [Act.put, List.setIfInBounds_toArray, List.set_cons_zero, List.set_cons_succ, i64_w, i32_w]
    rfl
  refine pure_ (i := 6) (N := some 42) (v := ?_) (a' := ?_) #[true, true, true, true, true, false, true, false, false, false, false, false, false, false, false, false, false, false, false, false, false, false] rfl rfl (by kernel_rfl) (fun _ _ _ h => h) (Or.inl ⟨by rfl, ?_⟩) ?_ ?_
  rotate_left
  · intro w'
    go_simp
    with_reducible rfl
  rotate_left
  · simp only [Act.put, List.setIfInBounds_toArray, List.set_cons_zero, List.set_cons_succ, i64_w, i32_w]
    rfl
  refine take_ (i := 5) (N := some 41) (v := ?_) (a' := ?_) #[true, true, true, true, true, true, true, false, false, false, false, false, false, false, false, false, false, false, false, false, false, false] rfl rfl (by kernel_rfl) (fun _ _ _ h => h) (Or.inl ⟨by rfl, ?_⟩) hHeld ?_ ?_
  rotate_left
  · rintro w' ⟨s0, s1, s2, s3, s4, s5, s6, s7, s8, s9, s10, s11⟩
    go_simp
    with_reducible rfl
  rotate_left
  · simp only [Act.put, List.setIfInBounds_toArray, List.set_cons_zero, List.set_cons_succ, i64_w, i32_w]
    rfl
  refine take_ (i := 7) (N := some 43) (v := ?_) (a' := ?_) #[true, true, true, true, true, true, true, true, false, false, false, false, false, false, false, false, false, false, false, false, false, false] rfl rfl (by kernel_rfl) (fun _ _ _ h => h) (Or.inl ⟨by rfl, ?_⟩) hHeld ?_ ?_
  rotate_left
  · rintro w' ⟨s0, s1, s2, s3, s4, s5, s6, s7, s8, s9, s10, s11⟩
    go_simp
    with_reducible rfl
  rotate_left
  · simp only [Act.put, List.setIfInBounds_toArray, List.set_cons_zero, List.set_cons_succ, i64_w, i32_w]
    rfl
  refine pure_ (i := 8) (N := some 44) (v := ?_) (a' := ?_) #[true, true, true, true, true, true, true, true, true, false, false, false, false, false, false, false, false, false, false, false, false, false] rfl rfl (by kernel_rfl) (fun _ _ _ h => h) (Or.inl ⟨by rfl, ?_⟩) ?_ ?_
  rotate_left
  · intro w'
    go_simp
    with_reducible rfl
  rotate_left
  · simp only [Act.put, List.setIfInBounds_toArray, List.set_cons_zero, List.set_cons_succ, i64_w, i32_w]
    rfl
  refine pure_ (i := 9) (N := some 45) (v := ?_) (a' := ?_) #[true, true, true, true, true, true, true, true, true, true, false, false, false, false, false, false, false, false, false, false, false, false] rfl rfl (by kernel_rfl) (fun _ _ _ h => h) (Or.inl ⟨by rfl, ?_⟩) ?_ ?_
  rotate_left
  · intro w'
    go_simp
    with_reducible rfl
  rotate_left
  · simp only [Act.put, List.setIfInBounds_toArray, List.set_cons_zero, List.set_cons_succ, i64_w, i32_w]
    rfl
  refine pure_ (i := 10) (N := some 46) (v := ?_) (a' := ?_) #[true, true, true, true, true, true, true, true, true, true, true, false, false, false, false, false, false, false, false, false, false, false] rfl rfl (by kernel_rfl) (fun _ _ _ h => h) (Or.inl ⟨by rfl, ?_⟩) ?_ ?_
  rotate_left
  · intro w'
    go_simp
    with_reducible rfl
  rotate_left
  · simp only [Act.put, List.setIfInBounds_toArray, List.set_cons_zero, List.set_cons_succ, i64_w, i32_w]
    rfl
  refine pure_ (i := 11) (N := some 47) (v := ?_) (a' := ?_) #[true, true, true, true, true, true, true, true, true, true, true, true, false, false, false, false, false, false, false, false, false, false] rfl rfl (by kernel_rfl) (fun _ _ _ h => h) (Or.inl ⟨by rfl, ?_⟩) ?_ ?_
  rotate_left
  · intro w'
    go_simp
    with_reducible rfl
  rotate_left
  · simp only [Act.put, List.setIfInBounds_toArray, List.set_cons_zero, List.set_cons_succ, i64_w, i32_w]
    rfl
  refine pure_ (i := 12) (N := some 48) (v := ?_) (a' := ?_) #[true, true, true, true, true, true, true, true, true, true, true, true, true, false, false, false, false, false, false, false, false, false] rfl rfl (by kernel_rfl) (fun _ _ _ h => h) (Or.inl ⟨by rfl, ?_⟩) ?_ ?_
  rotate_left
  · intro w'
    go_simp
    with_reducible rfl
  rotate_left
  · simp only [Act.put, List.setIfInBounds_toArray, List.set_cons_zero, List.set_cons_succ, i64_w, i32_w]
    rfl
  refine pure_ (i := 13) (N := some 49) (v := ?_) (a' := ?_) #[true, true, true, true, true, true, true, true, true, true, true, true, true, true, false, false, false, false, false, false, false, false] rfl rfl (by kernel_rfl) (fun _ _ _ h => h) (Or.inl ⟨by rfl, ?_⟩) ?_ ?_
  rotate_left
  · intro w'
    go_simp
    with_reducible rfl
  rotate_left
  · simp only [Act.put, List.setIfInBounds_toArray, List.set_cons_zero, List.set_cons_succ, i64_w, i32_w]
    rfl
  refine pure_ (i := 14) (N := some 50) (v := ?_) (a' := ?_) #[true, true, true, true, true, true, true, true, true, true, true, true, true, true, true, false, false, false, false, false, false, false] rfl rfl (by kernel_rfl) (fun _ _ _ h => h) (Or.inl ⟨by rfl, ?_⟩) ?_ ?_
  rotate_left
  · intro w'
    go_simp
    with_reducible rfl
  rotate_left
  · simp only [Act.put, List.setIfInBounds_toArray, List.set_cons_zero, List.set_cons_succ, i64_w, i32_w]
    rfl
  refine pure_ (i := 15) (N := some 51) (v := ?_) (a' := ?_) #[true, true, true, true, true, true, true, true, true, true, true, true, true, true, true, true, false, false, false, false, false, false] rfl rfl (by kernel_rfl) (fun _ _ _ h => h) (Or.inl ⟨by rfl, ?_⟩) ?_ ?_
  rotate_left
  · intro w'
    go_simp
    with_reducible rfl
  rotate_left
  · simp only [Act.put, List.setIfInBounds_toArray, List.set_cons_zero, List.set_cons_succ, i64_w, i32_w]
    rfl
  refine take_ (i := 16) (N := some 52) (v := ?_) (a' := ?_) #[true, true, true, true, true, true, true, true, true, true, true, true, true, true, true, true, true, false, false, false, false, false] rfl rfl (by kernel_rfl) (fun _ _ _ h => h) (Or.inl ⟨by rfl, ?_⟩) hHeld ?_ ?_
  rotate_left
  · rintro w' ⟨s0, s1, s2, s3, s4, s5, s6, s7, s8, s9, s10, s11⟩
    go_simp
    with_reducible rfl
  rotate_left
  · simp only [Act.put, List.setIfInBounds_toArray, List.set_cons_zero, List.set_cons_succ, i64_w, i32_w]
    rfl
  refine take_ (i := 18) (N := some 54) (v := ?_) (a' := ?_) #[true, true, true, true, true, true, true, true, true, true, true, true, true, true, true, true, true, false, true, false, false, false] rfl rfl (by kernel_rfl) (fun _ _ _ h => h) (Or.inl ⟨by rfl, ?_⟩) hHeld ?_ ?_
  rotate_left
  · rintro w' ⟨s0, s1, s2, s3, s4, s5, s6, s7, s8, s9, s10, s11⟩
    go_simp
    with_reducible rfl
  rotate_left
  · simp only [Act.put, List.setIfInBounds_toArray, List.set_cons_zero, List.set_cons_succ, i64_w, i32_w]
    rfl
  refine one_ (i := 17) (N := some 53) #[true, true, true, true, true, true, true, true, true, true, true, true, true, true, true, true, true, true, true, false, false, false] rfl rfl (by kernel_rfl) (by decide) (fun K hK => ?_)
  refine goes_ Try.func12 (by kernel_rfl) rfl #[.agg #[.int .i64 p_0, .int .i64 p_1, .bool p_2, .slice Ap_3 lp_3.length cp_3, .slice Ap_4 lp_4.length cp_4]] (by rfl) rfl rfl (by simp only [List.map_toArray, List.map_cons, List.map_nil]; rfl) ?_
  with_reducible refine (to_x p_0 p_1 p_2 Ap_3 lp_3.length cp_3 Ap_4 lp_4.length cp_4 _).mono ?_
  rintro e_ w9 ⟨rfl, hb⟩
  refine ⟨_, rfl, ?_⟩
  have n0_ := Aside0.mk (blk_below BK2.out hb)
  have n1_ := Aside0.mk (blk_below BK9.out hb)
  have n2_ := Aside0.mk (blk_below BK11.out hb)
  have n3_ := Aside0.mk (Kd.C_below HA3.out hb)
  have n4_ := Aside0.mk (Kd.C_below HA4.out hb)
  have n5_ := Aside0.mk (Kd.C_below HR.out hb)
  have n6_ := Aside0.mk (Kd.C_below HX.out hb)
  have n7_ := Aside0.mk (Kd.C_below HY.out hb)
  have n8_ := Aside0.mk (Kd.C_below Hp3.out hb)
  have n9_ := Aside0.mk (Kd.C_below Hp4.out hb)
  have n10_ := Aside0.mk (Kd.C_below Hq3.out hb)
  have n11_ := Aside0.mk (Kd.C_below Hq4.out hb)
  have n12_ := Aside0.mk (below_step HB.out hb)
  clear BK2 BK9 BK11 HA3 HA4 HR HX HY Hp3 Hp4 Hq3 Hq4 HB
  have BK2 := n0_
  have BK9 := n1_
  have BK11 := n2_
  have HA3 := n3_
  have HA4 := n4_
  have HR := n5_
  have HX := n6_
  have HY := n7_
  have Hp3 := n8_
  have Hp4 := n9_
  have Hq3 := n10_
  have Hq4 := n11_
  have HB := n12_
  clear n0_ n1_ n2_ n3_ n4_ n5_ n6_ n7_ n8_ n9_ n10_ n11_ n12_
  clear hb
  refine hK.out _ _ ⟨(blk_cell BK9.out 0).trans rfl, (blk_cell BK9.out 1).trans rfl, (blk_cell BK9.out 2).trans rfl, (blk_cell BK9.out 3).trans rfl, (blk_cell BK9.out 4).trans rfl, (blk_cell BK11.out 0).trans rfl, (blk_cell BK11.out 1).trans rfl, (blk_cell BK11.out 2).trans rfl, (blk_cell BK11.out 3).trans rfl, (blk_cell BK11.out 4).trans rfl, Kd.C_string Try.underlying35 Try.underlying5 Try.underlying9 HX.out, (Kd.C_string Try.underlying35 Try.underlying5 Try.underlying9 HY.out).trans (by rw [EXY.out])⟩ (fun hHeld => ?_)
  clear hK K
  refine norm_ (a' := ?_) ?_ ?_
  rotate_left
  · show Act.put _ (some 53) _ = _
    simp only [Act.put, List.setIfInBounds_toArray, List.set_cons_zero, List.set_cons_succ, i64_w, i32_w]
    rfl
  refine one_ (i := 19) (N := some 55) #[true, true, true, true, true, true, true, true, true, true, true, true, true, true, true, true, true, true, true, true, false, false] rfl rfl (by kernel_rfl) (by decide) (fun K hK => ?_)
  refine goes_ Try.func14 (by kernel_rfl) rfl #[.agg #[.int .i64 p_0, .int .i64 p_1, .bool p_2, .slice Ap_3 lp_3.length cp_3, .slice Ap_4 lp_4.length cp_4], .agg #[.int .i64 q_0, .int .i64 q_1, .bool q_2, .slice Aq_3 lq_3.length cq_3, .slice Aq_4 lq_4.length cq_4]] (by rfl) rfl rfl (by simp only [List.map_toArray, List.map_cons, List.map_nil]; rfl) ?_
  with_reducible refine (substationref15_Same.calls k p_0 p_1 p_2 Ap_3 cp_3 lp_3 Ap_4 cp_4 lp_4 q_0 q_1 q_2 Aq_3 cq_3 lq_3 Aq_4 cq_4 lq_4 true _ Hp3.out hHp3 Hp4.out hHp4 Hq3.out hHq3 Hq4.out hHq4 E5.out).mono ?_
  rintro e_ w10 ⟨rfl, hb⟩
  refine ⟨_, rfl, ?_⟩
  have n0_ := Aside0.mk (blk_below BK2.out hb)
  have n1_ := Aside0.mk (blk_below BK9.out hb)
  have n2_ := Aside0.mk (blk_below BK11.out hb)
  have n3_ := Aside0.mk (Kd.C_below HA3.out hb)
  have n4_ := Aside0.mk (Kd.C_below HA4.out hb)
  have n5_ := Aside0.mk (Kd.C_below HR.out hb)
  have n6_ := Aside0.mk (Kd.C_below HX.out hb)
  have n7_ := Aside0.mk (Kd.C_below HY.out hb)
  have n8_ := Aside0.mk (Kd.C_below Hp3.out hb)
  have n9_ := Aside0.mk (Kd.C_below Hp4.out hb)
  have n10_ := Aside0.mk (Kd.C_below Hq3.out hb)
  have n11_ := Aside0.mk (Kd.C_below Hq4.out hb)
  have n12_ := Aside0.mk (below_step HB.out hb)
  clear BK2 BK9 BK11 HA3 HA4 HR HX HY Hp3 Hp4 Hq3 Hq4 HB
  have BK2 := n0_
  have BK9 := n1_
  have BK11 := n2_
  have HA3 := n3_
  have HA4 := n4_
  have HR := n5_
  have HX := n6_
  have HY := n7_
  have Hp3 := n8_
  have Hp4 := n9_
  have Hq3 := n10_
  have Hq4 := n11_
  have HB := n12_
  clear n0_ n1_ n2_ n3_ n4_ n5_ n6_ n7_ n8_ n9_ n10_ n11_ n12_
  clear hb
  refine hK.out _ _ ⟨(blk_cell BK9.out 0).trans rfl, (blk_cell BK9.out 1).trans rfl, (blk_cell BK9.out 2).trans rfl, (blk_cell BK9.out 3).trans rfl, (blk_cell BK9.out 4).trans rfl, (blk_cell BK11.out 0).trans rfl, (blk_cell BK11.out 1).trans rfl, (blk_cell BK11.out 2).trans rfl, (blk_cell BK11.out 3).trans rfl, (blk_cell BK11.out 4).trans rfl, Kd.C_string Try.underlying35 Try.underlying5 Try.underlying9 HX.out, (Kd.C_string Try.underlying35 Try.underlying5 Try.underlying9 HY.out).trans (by rw [EXY.out])⟩ (fun hHeld => ?_)
  clear hK K
  refine norm_ (a' := ?_) ?_ ?_
  rotate_left
  · show Act.put _ (some 55) _ = _
    simp only [Act.put, List.setIfInBounds_toArray, List.set_cons_zero, List.set_cons_succ, i64_w, i32_w]
    rfl
  refine pure_ (i := 20) (N := some 56) (v := ?_) (a' := ?_) #[true, true, true, true, true, true, true, true, true, true, true, true, true, true, true, true, true, true, true, true, true, false] rfl rfl (by kernel_rfl) (fun _ _ _ h => h) (Or.inl ⟨by rfl, ?_⟩) ?_ ?_
  rotate_left
  · intro w'
    go_simp
    with_reducible rfl
  rotate_left
  · simp only [Act.put, List.setIfInBounds_toArray, List.set_cons_zero, List.set_cons_succ, i64_w, i32_w]
    rfl
  refine pure_ (i := 21) (N := some 4) (v := ?_) (a' := ?_) #[true, true, true, true, true, true, true, true, true, true, true, true, true, true, true, true, true, true, true, true, true, true] rfl rfl (by kernel_rfl) (fun _ _ _ h => h) (Or.inl ⟨by rfl, ?_⟩) ?_ ?_
  rotate_left
  · intro w'
    go_simp
    with_reducible rfl
  rotate_left
  · simp only [Act.put, List.setIfInBounds_toArray, List.set_cons_zero, List.set_cons_succ, i64_w, i32_w]
    rfl
  refine done_ (by kernel_rfl) ?_
  go_wp2
  go_ret
  exact ⟨rfl, HB.out⟩
def substationlaw15_StreamBytes.f (k : Nat) (a_0 a_1 : Int) (a_2 : Bool) (la_3 la_4 : List Int) (lb : List Int) : Option Bool :=
  (substationlaw15_known.f k).bind fun t => if t = true then (stream_Encode.f k a_0 a_1 a_2 la_3 la_4).bind fun x => (substationref15_Encode.f k a_0 a_1 a_2 la_3 la_4).bind fun y => (stream_Decode.f k lb).bind fun p => (substationref15_Decode.f k lb).bind fun q =>
    (substationref15_Same.f k p.1 p.2.1 p.2.2.1 p.2.2.2.1 p.2.2.2.2.1 q.1 q.2.1 q.2.2.1 q.2.2.2.1 q.2.2.2.2.1).bind fun s => if x.2 = y.2 ∧ strOfNums x.1 = strOfNums y.1 ∧ p.2.2.2.2.2 = q.2.2.2.2.2 ∧ s = true then some true else none else none
theorem substationlaw15_StreamBytes.calls (k : Nat) (a_0 a_1 : Int) (a_2 : Bool) (Aa_3 : Option Addr) (ca_3 : Nat) (la_3 : List Int) (Aa_4 : Option Addr) (ca_4 : Nat) (la_4 : List Int) (Ab : Option Addr) (cb : Nat) (lb : List Int) (w : World) (hra_3 : Kd.C (Kd.int .i64) w Aa_3 la_3.length la_3) (hca_3 : la_3.length ≤ ca_3) (hra_4 : Kd.C (Kd.int .i64) w Aa_4 la_4.length la_4) (hca_4 : la_4.length ≤ ca_4) (hrb : Kd.C (Kd.int .u8) w Ab lb.length lb) (hcb : lb.length ≤ cb)
    (h : substationlaw15_StreamBytes.f k a_0 a_1 a_2 la_3 la_4 lb = some true) : Calls Try.prog 4 #[.agg #[.int .i64 a_0, .int .i64 a_1, .bool a_2, .slice Aa_3 la_3.length ca_3, .slice Aa_4 la_4.length ca_4], .slice Ab lb.length cb] w fun e w' => e = .returned (.bool true) ∧ Below w.heap.size w w' := by
  unfold substationlaw15_StreamBytes.f at h
  obtain ⟨t, e0, h⟩ := Option.bind_eq_some_iff.mp h
  by_cases ht : t = true
  · rw [if_pos ht] at h
    subst ht
    obtain ⟨⟨x, ex⟩, e1, h⟩ := Option.bind_eq_some_iff.mp h
    obtain ⟨⟨y, ey⟩, e2, h⟩ := Option.bind_eq_some_iff.mp h
    obtain ⟨⟨p0, p1, p2, p3, p4, p5⟩, e3, h⟩ := Option.bind_eq_some_iff.mp h
    obtain ⟨⟨q0, q1, q2, q3, q4, q5⟩, e4, h⟩ := Option.bind_eq_some_iff.mp h
    obtain ⟨s, e5, h⟩ := Option.bind_eq_some_iff.mp h
    dsimp only at h e5
    by_cases hc : ex = ey ∧ strOfNums x = strOfNums y ∧ p5 = q5 ∧ s = true
    · obtain ⟨rfl, exy, rfl, rfl⟩ := hc
      exact bytes_walk k a_0 a_1 a_2 Aa_3 ca_3 la_3 Aa_4 ca_4 la_4 Ab cb lb w hra_3 hca_3 hra_4 hca_4 hrb hcb x y _ _ _ _ _ _ _ _ _ _ _ _ e0 e1 e2 exy e3 e4 e5
    · rw [if_neg hc] at h; cases h
  · rw [if_neg ht] at h; cases h
end Go.Proofs.Ytlfphopfoicjpaa.PAll
