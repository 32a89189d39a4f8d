/- The walk of the law StreamSplits, as far as it returns true: what it computes is its '.f'. Conditions: none. -/
import Derived.Test.YtlfphopfoicjpaaPSplx3
import Derived.Test.YtlfphopfoicjpaaPSplx5
namespace Go.Proofs.Ytlfphopfoicjpaa.PSpl
open Go.RowKit Go.Proofs.YtlfphopfoicjpaaW.PrintWords Go.Proofs.YtlfphopfoicjpaaW.PrintLast Go.Proofs.YtlfphopfoicjpaaW.PrintMore
attribute [local go_sem] max2_int min2_int max_two min_two max_three min_three max_four min_four
set_option linter.unusedVariables false
set_option linter.unusedSimpArgs false
set_option maxHeartbeats 1000000 in
theorem to_x (u c : Int) (b : Bool) (A3 : Option Addr) (n3 c3 : Nat) (A4 : Option Addr) (n4 c4 : Nat) (w : World) :
    Calls Try.prog 12 #[.agg #[.int .i64 u, .int .i64 c, .bool b, .slice A3 n3 c3, .slice A4 n4 c4]] w fun e w' => e = .returned (.agg #[.int .i64 u, .int .i64 c, .bool b, .slice A3 n3 c3, .slice A4 n4 c4]) ∧ Below w.heap.size w w' := by
  have hu24 := Try.underlying24
  have hu29 := Try.underlying29
  go_enter Try.func12, Try.ntmps12
  go_wp2
  exact bodyPost_ret (v := .agg #[.int .i64 u, .int .i64 c, .bool b, .slice A3 n3 c3, .slice A4 n4 c4]) (by simp [results, Try.results12, go_sem]) rfl ⟨rfl, ((Below.refl _ _).alloc (Nat.le_refl _) _).alloc (by simp) _⟩
set_option maxHeartbeats 8000000 in
set_option maxRecDepth 100000 in
theorem splits_long (k : Nat) (a0 a1 : Int) (A2 : Option Addr) (c2 : Nat) (l2 : List (List Int)) (w : World) (e0 : substationlaw15_known.f k = some true) (hl : 20 < l2.length) :
    Calls Try.prog 7 #[.int .i64 a0, .int .i64 a1, .slice A2 l2.length c2] w fun e w' => e = .returned (.bool true) ∧ Below w.heap.size w w' := by
  have t1 : decide (20 < (l2.length : Int)) = true := by simp; omega
  have E0 := Aside0.mk e0
  clear hl e0
  go_enter Try.func7, Try.ntmps7
  go_wp2_with fail
  refine (substationlaw15_known.calls k true _ E0.out).mono ?_
  rintro e_ w1 ⟨rfl, hb⟩
  go_wp2_with fail
  go_ret
  exact ⟨rfl, hb⟩
set_option maxHeartbeats 8000000 in
set_option maxRecDepth 100000 in
theorem splits_walk (k : Nat) (a0 a1 : Int) (A2 : Option Addr) (c2 : Nat) (l2 : List (List Int)) (w : World) (hr2 : Kd.C (Kd.slice 3 (Kd.int .i64)) w A2 l2.length l2) (hc2 : l2.length ≤ c2)
    (la : List S24) (lb : List S29) (er : Int) (e0 : substationlaw15_known.f k = some true) (hl : ¬ 20 < l2.length) (e1 : stream_Split.f k a0 a1 (Int.tmod a1 2 == 0) l2 = some (la, er)) (e2 : substationref15_Split.f k a0 a1 (Int.tmod a1 2 == 0) l2 = some (lb, er)) (hn : lb.length = la.length) (hm : la.length ≤ 1000)
    (e3 : ∀ i : Nat, i < la.length → substationref15_Same.f k (rd_T24 la (i : Int)).f0 (rd_T24 la (i : Int)).f1 (rd_T24 la (i : Int)).f2 (rd_T24 la (i : Int)).f3 (rd_T24 la (i : Int)).f4 (rd_T29 lb (i : Int)).f0 (rd_T29 lb (i : Int)).f1 (rd_T29 lb (i : Int)).f2 (rd_T29 lb (i : Int)).f3 (rd_T29 lb (i : Int)).f4 = some true) :
    Calls Try.prog 7 #[.int .i64 a0, .int .i64 a1, .slice A2 l2.length c2] w fun e w' => e = .returned (.bool true) ∧ Below w.heap.size w w' := by
  have hu24 := Try.underlying24
  have hu29 := Try.underlying29
  have t1 : decide (20 < (l2.length : Int)) = false := by simp; omega
  have t2 : ((la.length : Int) != (lb.length : Int)) = false := by simp [hn]
  have HR := Aside0.mk hr2
  have E0 := Aside0.mk e0
  have E1 := Aside0.mk e1
  have E2 := Aside0.mk e2
  have E3 := Aside0.mk e3
  have HN := Aside0.mk hn
  have HM := Aside0.mk hm
  have HB := Aside0.mk (Below.refl w.heap.size w)
  clear hl e0 e1 e2 e3 hr2 hn hm
  go_enter Try.func7, Try.ntmps7
  go_wp2_with fail
  refine (substationlaw15_known.calls k true _ E0.out).mono ?_
  rintro e_ w1 ⟨rfl, hb⟩
  have n0_ := Aside0.mk (Kd.C_below HR.out hb)
  have n1_ := Aside0.mk (below_step HB.out hb)
  clear HR HB
  have HR := n0_
  have HB := n1_
  clear n0_ n1_
  clear hb
  go_wp2_with fail
  refine (stream_Split.calls k a0 a1 _ A2 c2 l2 la er _ HR.out hc2 E1.out).mono ?_
  rintro e_ w2 ⟨v_, rfl, ho, hb⟩
  have n0_ := Aside0.mk (Kd.C_below HR.out hb)
  have n1_ := Aside0.mk (below_step HB.out hb)
  clear HR HB
  have HR := n0_
  have HB := n1_
  clear n0_ n1_
  obtain ⟨Ax, cx, rfl⟩ := Kd.S_slice ho
  have hHX := (Kd.S_reads' ho).2.1
  have HX := Aside0.mk (Kd.S_reads' ho).2.2
  clear ho
  clear hb
  go_wp2_with fail
  refine (substationref15_Split.calls k a0 a1 _ A2 c2 l2 lb er _ HR.out hc2 E2.out).mono ?_
  rintro e_ w3 ⟨v_, rfl, ho, hb⟩
  have n0_ := Aside0.mk (Kd.C_below HR.out hb)
  have n1_ := Aside0.mk (Kd.C_below HX.out hb)
  have n2_ := Aside0.mk (below_step HB.out hb)
  clear HR HX HB
  have HR := n0_
  have HX := n1_
  have HB := n2_
  clear n0_ n1_ n2_
  obtain ⟨Ay, cy, rfl⟩ := Kd.S_slice ho
  have hHY := (Kd.S_reads' ho).2.1
  have HY := Aside0.mk (Kd.S_reads' ho).2.2
  clear ho
  clear hb
  go_wp2_with fail
  go_loopg [11] (la.length + 1) (fun kq v11 w' => ∃ i : Nat, v11 = .int .i64 (i : Int) ∧ Aside0 (i + kq = la.length + 1) ∧ Aside0 (Below w3.heap.size w3 w'))
  case atStart => exact ⟨0, rfl, ⟨by omega⟩, ⟨Below.refl _ _⟩⟩
  case round =>
    obtain ⟨i, rfl, HK, HL⟩ := hrel
    by_cases hi : i < la.length
    · obtain ⟨k1, rfl⟩ : ∃ k1, gk = k1 + 1 := ⟨gk - 1, by have := HK.out; omega⟩
      have hib : i < lb.length := by have := HN.out; omega
      have t3 : decide ((i : Int) < (la.length : Int)) = true := by simp; omega
      obtain ⟨ada, Aa3, ca3, Aa4, ca4, ea, xa0, xa1, xa2, xa3, xa4, ha3, ga3, ha4, ga4⟩ := at_T24 (Kd.C_below HX.out HL.out) (i : Int) (by omega) (by omega)
      obtain ⟨adb, Ab3, cb3, Ab4, cb4, eb, xb0, xb1, xb2, xb3, xb4, hb3, gb3, hb4, gb4⟩ := at_T29 (Kd.C_below HY.out HL.out) (i : Int) (by omega) (by omega)
      cases ea
      cases eb
      have p0 : (0 ≤ (i : Int)) = True := eq_true (by omega)
      have pa : ((i : Int) < (la.length : Int)) = True := eq_true (by omega)
      have pb : ((i : Int) < (lb.length : Int)) = True := eq_true (by omega)
      have pa' : (i < la.length) = True := eq_true hi
      have pb' : (i < lb.length) = True := eq_true hib
      have E4 := Aside0.mk (E3.out i hi)
      have HI := Aside0.mk hi
      clear hi hib
      have GA3 := Aside0.mk ga3
      clear ga3
      have GA4 := Aside0.mk ga4
      clear ga4
      have GB3 := Aside0.mk gb3
      clear gb3
      have GB4 := Aside0.mk gb4
      clear gb4
      rw [Int.toNat_natCast] at xa0 xa1 xa2 xa3 xa4 xb0 xb1 xb2 xb3 xb4
      have Xa0 := Aside0.mk xa0
      have Xa1 := Aside0.mk xa1
      have Xa2 := Aside0.mk xa2
      have Xa3 := Aside0.mk xa3
      have Xa4 := Aside0.mk xa4
      have Xb0 := Aside0.mk xb0
      have Xb1 := Aside0.mk xb1
      have Xb2 := Aside0.mk xb2
      have Xb3 := Aside0.mk xb3
      have Xb4 := Aside0.mk xb4
      clear xa0 xa1 xa2 xa3 xa4 xb0 xb1 xb2 xb3 xb4
      have HW := Aside0.mk (Below.refl wr.heap.size wr)
      go_wp2_with fail
      have n0_ := Aside0.mk (below_drew1 HW.out)
      clear HW
      have HW := n0_
      clear n0_
      refine start_ (n := 11) (S := fun w' => w'.cell? (ada.add (i * 5)) = some (.int .i64 (rd_T24 la (i : Int)).f0) ∧ w'.cell? ⟨(ada.add (i * 5)).block, (ada.add (i * 5)).off + 1, none⟩ = some (.int .i64 (rd_T24 la (i : Int)).f1) ∧ w'.cell? ⟨(ada.add (i * 5)).block, (ada.add (i * 5)).off + 2, none⟩ = some (.bool (rd_T24 la (i : Int)).f2) ∧ w'.cell? ⟨(ada.add (i * 5)).block, (ada.add (i * 5)).off + 3, none⟩ = some (.slice Aa3 (rd_T24 la (i : Int)).f3.length ca3) ∧ w'.cell? ⟨(ada.add (i * 5)).block, (ada.add (i * 5)).off + 4, none⟩ = some (.slice Aa4 (rd_T24 la (i : Int)).f4.length ca4) ∧ w'.cell? (adb.add (i * 5)) = some (.int .i64 (rd_T29 lb (i : Int)).f0) ∧ w'.cell? ⟨(adb.add (i * 5)).block, (adb.add (i * 5)).off + 1, none⟩ = some (.int .i64 (rd_T29 lb (i : Int)).f1) ∧ w'.cell? ⟨(adb.add (i * 5)).block, (adb.add (i * 5)).off + 2, none⟩ = some (.bool (rd_T29 lb (i : Int)).f2) ∧ w'.cell? ⟨(adb.add (i * 5)).block, (adb.add (i * 5)).off + 3, none⟩ = some (.slice Ab3 (rd_T29 lb (i : Int)).f3.length cb3) ∧ w'.cell? ⟨(adb.add (i * 5)).block, (adb.add (i * 5)).off + 4, none⟩ = some (.slice Ab4 (rd_T29 lb (i : Int)).f4.length cb4)) (ds := []) #[false, false, false, false, false, false, false, false, false, false, false] (by kernel_rfl) rfl rfl ⟨(HW.out.cell (World.block_lt_of_cell? wr _ Xa0.out)).trans Xa0.out, (HW.out.cell (World.block_lt_of_cell? wr _ Xa1.out)).trans Xa1.out, (HW.out.cell (World.block_lt_of_cell? wr _ Xa2.out)).trans Xa2.out, (HW.out.cell (World.block_lt_of_cell? wr _ Xa3.out)).trans Xa3.out, (HW.out.cell (World.block_lt_of_cell? wr _ Xa4.out)).trans Xa4.out, (HW.out.cell (World.block_lt_of_cell? wr _ Xb0.out)).trans Xb0.out, (HW.out.cell (World.block_lt_of_cell? wr _ Xb1.out)).trans Xb1.out, (HW.out.cell (World.block_lt_of_cell? wr _ Xb2.out)).trans Xb2.out, (HW.out.cell (World.block_lt_of_cell? wr _ Xb3.out)).trans Xb3.out, (HW.out.cell (World.block_lt_of_cell? wr _ Xb4.out)).trans Xb4.out⟩ (fun hHeld => ?_)
      generalize wr.drew = wd at HW hHeld ⊢
      refine pure_ (i := 0) (N := some 53) (v := ?_) (a' := ?_) #[true, false, false, false, false, false, false, false, false, false, false] rfl rfl (by kernel_rfl) (fun _ _ _ h => h) (Or.inl ⟨by rfl, ?_⟩) ?_ ?_
      rotate_left
      · intro w'
        go_simp
        with_reducible rfl
      rotate_left
      · simp only [Act.put, List.setIfInBounds_toArray, List.set_cons_zero, List.set_cons_succ, i64_w, i32_w]
        rfl
      refine pure_ (i := 1) (N := some 54) (v := ?_) (a' := ?_) #[true, true, false, false, false, false, false, false, false, false, false] rfl rfl (by kernel_rfl) (fun _ _ _ h => h) (Or.inl ⟨by rfl, ?_⟩) ?_ ?_
      rotate_left
      · intro w'
        go_simp
        with_reducible rfl
      rotate_left
      · simp only [Act.put, List.setIfInBounds_toArray, List.set_cons_zero, List.set_cons_succ, i64_w, i32_w]
        rfl
      refine pure_ (i := 2) (N := some 55) (v := ?_) (a' := ?_) #[true, true, true, false, false, false, false, false, false, false, false] rfl rfl (by kernel_rfl) (fun _ _ _ h => h) (Or.inl ⟨by rfl, ?_⟩) ?_ ?_
      rotate_left
      · intro w'
        go_simp
        with_reducible rfl
      rotate_left
      · simp only [Act.put, List.setIfInBounds_toArray, List.set_cons_zero, List.set_cons_succ, i64_w, i32_w]
        rfl
      refine pure_ (i := 5) (N := some 58) (v := ?_) (a' := ?_) #[true, true, true, false, false, true, false, false, false, false, false] rfl rfl (by kernel_rfl) (fun _ _ _ h => h) (Or.inl ⟨by rfl, ?_⟩) ?_ ?_
      rotate_left
      · intro w'
        go_simp
        with_reducible rfl
      rotate_left
      · simp only [Act.put, List.setIfInBounds_toArray, List.set_cons_zero, List.set_cons_succ, i64_w, i32_w]
        rfl
      refine pure_ (i := 6) (N := some 59) (v := ?_) (a' := ?_) #[true, true, true, false, false, true, true, false, false, false, false] rfl rfl (by kernel_rfl) (fun _ _ _ h => h) (Or.inl ⟨by rfl, ?_⟩) ?_ ?_
      rotate_left
      · intro w'
        go_simp
        with_reducible rfl
      rotate_left
      · simp only [Act.put, List.setIfInBounds_toArray, List.set_cons_zero, List.set_cons_succ, i64_w, i32_w]
        rfl
      refine pure_ (i := 7) (N := some 60) (v := ?_) (a' := ?_) #[true, true, true, false, false, true, true, true, false, false, false] rfl rfl (by kernel_rfl) (fun _ _ _ h => h) (Or.inl ⟨by rfl, ?_⟩) ?_ ?_
      rotate_left
      · intro w'
        go_simp
        with_reducible rfl
      rotate_left
      · simp only [Act.put, List.setIfInBounds_toArray, List.set_cons_zero, List.set_cons_succ, i64_w, i32_w]
        rfl
      refine take_ (i := 3) (N := some 56) (v := ?_) (a' := ?_) #[true, true, true, true, false, true, true, true, false, false, false] rfl rfl (by kernel_rfl) (fun _ _ _ h => h) (Or.inl ⟨by rfl, ?_⟩) hHeld ?_ ?_
      rotate_left
      · rintro w' ⟨s0, s1, s2, s3, s4, s5, s6, s7, s8, s9⟩
        go_simp
        with_reducible rfl
      rotate_left
      · simp only [Act.put, List.setIfInBounds_toArray, List.set_cons_zero, List.set_cons_succ, i64_w, i32_w]
        rfl
      refine take_ (i := 8) (N := some 61) (v := ?_) (a' := ?_) #[true, true, true, true, false, true, true, true, true, false, false] rfl rfl (by kernel_rfl) (fun _ _ _ h => h) (Or.inl ⟨by rfl, ?_⟩) hHeld ?_ ?_
      rotate_left
      · rintro w' ⟨s0, s1, s2, s3, s4, s5, s6, s7, s8, s9⟩
        go_simp
        with_reducible rfl
      rotate_left
      · simp only [Act.put, List.setIfInBounds_toArray, List.set_cons_zero, List.set_cons_succ, i64_w, i32_w]
        rfl
      refine one_ (i := 4) (N := some 57) #[true, true, true, true, true, true, true, true, true, false, false] rfl rfl (by kernel_rfl) (by decide) (fun K hK => ?_)
      refine goes_ Try.func12 (by kernel_rfl) rfl #[.agg #[.int .i64 (rd_T24 la (i : Int)).f0, .int .i64 (rd_T24 la (i : Int)).f1, .bool (rd_T24 la (i : Int)).f2, .slice Aa3 (rd_T24 la (i : Int)).f3.length ca3, .slice Aa4 (rd_T24 la (i : Int)).f4.length ca4]] (by rfl) rfl rfl (by simp only [List.map_toArray, List.map_cons, List.map_nil]; rfl) ?_
      with_reducible refine (to_x _ _ _ Aa3 _ ca3 Aa4 _ ca4 _).mono ?_
      rintro e_ w5 ⟨rfl, hb⟩
      refine ⟨_, rfl, ?_⟩
      have n0_ := Aside0.mk (below_step HW.out hb)
      clear HW hb
      have HW := n0_
      clear n0_
      refine hK.out _ _ ⟨(HW.out.cell (World.block_lt_of_cell? wr _ Xa0.out)).trans Xa0.out, (HW.out.cell (World.block_lt_of_cell? wr _ Xa1.out)).trans Xa1.out, (HW.out.cell (World.block_lt_of_cell? wr _ Xa2.out)).trans Xa2.out, (HW.out.cell (World.block_lt_of_cell? wr _ Xa3.out)).trans Xa3.out, (HW.out.cell (World.block_lt_of_cell? wr _ Xa4.out)).trans Xa4.out, (HW.out.cell (World.block_lt_of_cell? wr _ Xb0.out)).trans Xb0.out, (HW.out.cell (World.block_lt_of_cell? wr _ Xb1.out)).trans Xb1.out, (HW.out.cell (World.block_lt_of_cell? wr _ Xb2.out)).trans Xb2.out, (HW.out.cell (World.block_lt_of_cell? wr _ Xb3.out)).trans Xb3.out, (HW.out.cell (World.block_lt_of_cell? wr _ Xb4.out)).trans Xb4.out⟩ (fun hHeld => ?_)
      clear hK K
      refine norm_ (a' := ?_) ?_ ?_
      rotate_left
      · show Act.put _ (some 57) _ = _
        simp only [Act.put, List.setIfInBounds_toArray, List.set_cons_zero, List.set_cons_succ, i64_w, i32_w]
        rfl
      refine one_ (i := 9) (N := some 62) #[true, true, true, true, true, true, true, true, true, true, false] rfl rfl (by kernel_rfl) (by decide) (fun K hK => ?_)
      refine goes_ Try.func14 (by kernel_rfl) rfl #[.agg #[.int .i64 (rd_T24 la (i : Int)).f0, .int .i64 (rd_T24 la (i : Int)).f1, .bool (rd_T24 la (i : Int)).f2, .slice Aa3 (rd_T24 la (i : Int)).f3.length ca3, .slice Aa4 (rd_T24 la (i : Int)).f4.length ca4], .agg #[.int .i64 (rd_T29 lb (i : Int)).f0, .int .i64 (rd_T29 lb (i : Int)).f1, .bool (rd_T29 lb (i : Int)).f2, .slice Ab3 (rd_T29 lb (i : Int)).f3.length cb3, .slice Ab4 (rd_T29 lb (i : Int)).f4.length cb4]] (by rfl) rfl rfl (by simp only [List.map_toArray, List.map_cons, List.map_nil]; rfl) ?_
      with_reducible refine (substationref15_Same.calls k (rd_T24 la (i : Int)).f0 (rd_T24 la (i : Int)).f1 (rd_T24 la (i : Int)).f2 Aa3 ca3 (rd_T24 la (i : Int)).f3 Aa4 ca4 (rd_T24 la (i : Int)).f4 (rd_T29 lb (i : Int)).f0 (rd_T29 lb (i : Int)).f1 (rd_T29 lb (i : Int)).f2 Ab3 cb3 (rd_T29 lb (i : Int)).f3 Ab4 cb4 (rd_T29 lb (i : Int)).f4 true _ (Kd.C_below GA3.out HW.out) ha3 (Kd.C_below GA4.out HW.out) ha4 (Kd.C_below GB3.out HW.out) hb3 (Kd.C_below GB4.out HW.out) hb4 E4.out).mono ?_
      rintro e_ w6 ⟨rfl, hb⟩
      refine ⟨_, rfl, ?_⟩
      have hb := hb
      have n0_ := Aside0.mk (below_step HW.out hb)
      clear HW hb
      have HW := n0_
      clear n0_
      refine hK.out _ _ ⟨(HW.out.cell (World.block_lt_of_cell? wr _ Xa0.out)).trans Xa0.out, (HW.out.cell (World.block_lt_of_cell? wr _ Xa1.out)).trans Xa1.out, (HW.out.cell (World.block_lt_of_cell? wr _ Xa2.out)).trans Xa2.out, (HW.out.cell (World.block_lt_of_cell? wr _ Xa3.out)).trans Xa3.out, (HW.out.cell (World.block_lt_of_cell? wr _ Xa4.out)).trans Xa4.out, (HW.out.cell (World.block_lt_of_cell? wr _ Xb0.out)).trans Xb0.out, (HW.out.cell (World.block_lt_of_cell? wr _ Xb1.out)).trans Xb1.out, (HW.out.cell (World.block_lt_of_cell? wr _ Xb2.out)).trans Xb2.out, (HW.out.cell (World.block_lt_of_cell? wr _ Xb3.out)).trans Xb3.out, (HW.out.cell (World.block_lt_of_cell? wr _ Xb4.out)).trans Xb4.out⟩ (fun hHeld => ?_)
      clear hK K
      refine norm_ (a' := ?_) ?_ ?_
      rotate_left
      · show Act.put _ (some 62) _ = _
        simp only [Act.put, List.setIfInBounds_toArray, List.set_cons_zero, List.set_cons_succ, i64_w, i32_w]
        rfl
      refine pure_ (i := 10) (N := some 63) (v := ?_) (a' := ?_) #[true, true, true, true, true, true, true, true, true, true, true] rfl rfl (by kernel_rfl) (fun _ _ _ h => h) (Or.inl ⟨by rfl, ?_⟩) ?_ ?_
      rotate_left
      · intro w'
        go_simp
        with_reducible rfl
      rotate_left
      · simp only [Act.put, List.setIfInBounds_toArray, List.set_cons_zero, List.set_cons_succ, i64_w, i32_w]
        rfl
      refine done_ (by kernel_rfl) ?_
      go_wp2_with fail
      go_roundg k1
      case measure => omega
      case rel => exact ⟨i + 1, by rw [show wrap64 ((i : Int) + 1) = ((i + 1 : Nat) : Int) by unfold wrap64; have := HI.out; have := HM.out; omega], ⟨by have := HK.out; omega⟩, ⟨below_step HL.out HW.out⟩⟩
    · have t3 : decide ((i : Int) < (la.length : Int)) = false := by simp; omega
      go_wp2_with fail
      go_ret
      exact ⟨rfl, below_step HB.out HL.out⟩
def substationlaw15_StreamSplits.f (k : Nat) (a0 a1 : Int) (l2 : List (List Int)) : Option Bool :=
  (substationlaw15_known.f k).bind fun t => if t = true then (if 20 < l2.length then some true else
    (stream_Split.f k a0 a1 (Int.tmod a1 2 == 0) l2).bind fun x => (substationref15_Split.f k a0 a1 (Int.tmod a1 2 == 0) l2).bind fun y =>
    if x.2 = y.2 ∧ y.1.length = x.1.length ∧ x.1.length ≤ 1000 ∧ ∀ i : Nat, i < x.1.length → substationref15_Same.f k (rd_T24 x.1 (i : Int)).f0 (rd_T24 x.1 (i : Int)).f1 (rd_T24 x.1 (i : Int)).f2 (rd_T24 x.1 (i : Int)).f3 (rd_T24 x.1 (i : Int)).f4 (rd_T29 y.1 (i : Int)).f0 (rd_T29 y.1 (i : Int)).f1 (rd_T29 y.1 (i : Int)).f2 (rd_T29 y.1 (i : Int)).f3 (rd_T29 y.1 (i : Int)).f4 = some true then some true else none) else none
theorem substationlaw15_StreamSplits.calls (k : Nat) (a0 a1 : Int) (A2 : Option Addr) (c2 : Nat) (l2 : List (List Int)) (w : World) (hr2 : Kd.C (Kd.slice 3 (Kd.int .i64)) w A2 l2.length l2) (hc2 : l2.length ≤ c2)
    (h : substationlaw15_StreamSplits.f k a0 a1 l2 = some true) : Calls Try.prog 7 #[.int .i64 a0, .int .i64 a1, .slice A2 l2.length c2] w fun e w' => e = .returned (.bool true) ∧ Below w.heap.size w w' := by
  unfold substationlaw15_StreamSplits.f at h
  obtain ⟨t, e0, h⟩ := Option.bind_eq_some_iff.mp h
  by_cases ht : t = true
  · rw [if_pos ht] at h
    subst ht
    by_cases hl : 20 < l2.length
    · exact splits_long k a0 a1 A2 c2 l2 w e0 hl
    · rw [if_neg hl] at h
      obtain ⟨⟨x, ex⟩, e1, h⟩ := Option.bind_eq_some_iff.mp h
      obtain ⟨⟨y, ey⟩, e2, h⟩ := Option.bind_eq_some_iff.mp h
      dsimp only at h
      split at h
      · rename_i hh
        obtain ⟨rfl, hn, hm, e3⟩ := hh
        exact splits_walk k a0 a1 A2 c2 l2 w hr2 hc2 x y _ e0 hl e1 e2 hn hm e3
      · cases h
  · rw [if_neg ht] at h; cases h
end Go.Proofs.Ytlfphopfoicjpaa.PSpl
