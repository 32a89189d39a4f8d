/- Walks of the recloser's functions: what each computes is its '.f'. Conditions: none. -/
import Derived.Test.YtmppijipaocfiaaStpb
import Derived.WalkMore
import Derived.ScopeJumps
namespace Go.Proofs.Ytmppijipaocfiaa.PAll
open Go.RowKit Go.Proofs.YtmppijipaocfiaaW.PrintWords Go.Proofs.YtmppijipaocfiaaW.PrintLast Go.Proofs.YtmppijipaocfiaaW.PrintMore
attribute [local go_sem] max2_int min2_int max_two min_two max_three min_three max_four min_four   -- for this text's walks alone
set_option linter.unusedVariables false
set_option linter.unusedSimpArgs false
set_option maxHeartbeats 4000000 in
set_option maxRecDepth 100000 in
theorem step_1t (sh de rc s n : Int) (op bl : Bool) (w : World) (hv : vaR sh de rc 1 s n = true) (r1 r2 r3 : Int) (hr : recloser_wait.f 1 s n op 2 = some (r1, r2, r3)) :
    Calls Try.prog 11 #[.int .i64 sh, .int .i64 de, .int .i64 rc, .agg #[.int .i64 1, .int .i64 s, .int .i64 n], .agg #[.bool true, .bool false, .bool op, .bool bl]] w fun e w' => e = .returned (.tuple #[.agg #[.int .i64 (r1), .int .i64 (r2), .int .i64 (r3)], .bool false]) ∧ Below w.heap.size w w' := by
  have hu25 := Try.underlying25
  have hu29 := Try.underlying29
  have hva := va_eq 0 sh de rc 1 s n
  rw [hv] at hva
  clear hv
  have HV := Aside0.mk hva
  clear hva
  go_enter Try.func11, Try.ntmps11
  go_wp2_with fail
  go_step3
  go_wp2_with fail
  refine (recloser_Valid.calls 2 _ _ _ _ _ _ true _ HV.out).mono ?_
  rintro e w1 ⟨rfl, hb⟩
  obtain ⟨hc, hf⟩ := bcell hb
  have hz := hb.size
  simp at hz
  have B1 : Below w.heap.size w w1 := ((((Below.refl _ _).alloc (Nat.le_refl _) _).alloc (by simp) _).alloc (by simp; omega) _).trans (hb.mono (by simp; omega))
  go_wp2_with fail
  refine (recloser_wait.calls 1 s n op 2 r1 r2 r3 _ hr).mono ?_
  rintro e w2 ⟨rfl, hb2⟩
  obtain ⟨hc2, hf2⟩ := bcell hb2
  have hz2 := hb2.size
  have B2 : Below w.heap.size w w2 := B1.trans (hb2.mono B1.size)
  have y0 : w2.cell? ⟨w.heap.size + 1 + 1, 0, none⟩ = some (.int .i64 0) := (hc2 _ _ (by omega)).trans ((hc _ _ (by simp)).trans (by go_simp))
  have y1 : w2.cell? ⟨w.heap.size + 1 + 1, 1, none⟩ = some (.int .i64 0) := (hc2 _ _ (by omega)).trans ((hc _ _ (by simp)).trans (by go_simp))
  have y2 : w2.cell? ⟨w.heap.size + 1 + 1, 2, none⟩ = some (.int .i64 0) := (hc2 _ _ (by omega)).trans ((hc _ _ (by simp)).trans (by go_simp))
  have z0 : ∀ o, w2.frozen? ⟨w.heap.size + 1 + 1, o, none⟩ = false := fun o => (hf2 _ _ (by omega)).trans ((hf _ _ (by simp)).trans (by go_simp))
  clear hc2 hf2 hc hf
  go_wp2_with fail
  rw [Exit.noGoto_ret]
  refine bodyPost_ret (v := .tuple #[.agg #[.int .i64 (r1), .int .i64 (r2), .int .i64 (r3)], .bool false]) (by simp [results, Try.results11, go_sem, y0, y1, y2]) rfl ⟨rfl, ?_⟩
  exact (((B2.setCell (by show _ ≤ w.heap.size + 1 + 1; omega) _).setCell (by show _ ≤ w.heap.size + 1 + 1; omega) _).setCell (by show _ ≤ w.heap.size + 1 + 1; omega) _)
set_option maxHeartbeats 4000000 in
set_option maxRecDepth 100000 in
theorem step_3t (sh de rc s n : Int) (op bl : Bool) (w : World) (hv : vaR sh de rc 3 s n = true) (r1 r2 r3 : Int) (hr : recloser_wait.f 3 s n (!op) 4 = some (r1, r2, r3)) :
    Calls Try.prog 11 #[.int .i64 sh, .int .i64 de, .int .i64 rc, .agg #[.int .i64 3, .int .i64 s, .int .i64 n], .agg #[.bool true, .bool false, .bool op, .bool bl]] w fun e w' => e = .returned (.tuple #[.agg #[.int .i64 (r1), .int .i64 (r2), .int .i64 (r3)], .bool false]) ∧ Below w.heap.size w w' := by
  have hu25 := Try.underlying25
  have hu29 := Try.underlying29
  have hva := va_eq 0 sh de rc 3 s n
  rw [hv] at hva
  clear hv
  have HV := Aside0.mk hva
  clear hva
  go_enter Try.func11, Try.ntmps11
  go_wp2_with fail
  go_step3
  go_wp2_with fail
  refine (recloser_Valid.calls 2 _ _ _ _ _ _ true _ HV.out).mono ?_
  rintro e w1 ⟨rfl, hb⟩
  obtain ⟨hc, hf⟩ := bcell hb
  have hz := hb.size
  simp at hz
  have B1 : Below w.heap.size w w1 := ((((Below.refl _ _).alloc (Nat.le_refl _) _).alloc (by simp) _).alloc (by simp; omega) _).trans (hb.mono (by simp; omega))
  go_wp2_with fail
  refine (recloser_wait.calls 3 s n (!op) 4 r1 r2 r3 _ hr).mono ?_
  rintro e w2 ⟨rfl, hb2⟩
  obtain ⟨hc2, hf2⟩ := bcell hb2
  have hz2 := hb2.size
  have B2 : Below w.heap.size w w2 := B1.trans (hb2.mono B1.size)
  have y0 : w2.cell? ⟨w.heap.size + 1 + 1, 0, none⟩ = some (.int .i64 0) := (hc2 _ _ (by omega)).trans ((hc _ _ (by simp)).trans (by go_simp))
  have y1 : w2.cell? ⟨w.heap.size + 1 + 1, 1, none⟩ = some (.int .i64 0) := (hc2 _ _ (by omega)).trans ((hc _ _ (by simp)).trans (by go_simp))
  have y2 : w2.cell? ⟨w.heap.size + 1 + 1, 2, none⟩ = some (.int .i64 0) := (hc2 _ _ (by omega)).trans ((hc _ _ (by simp)).trans (by go_simp))
  have z0 : ∀ o, w2.frozen? ⟨w.heap.size + 1 + 1, o, none⟩ = false := fun o => (hf2 _ _ (by omega)).trans ((hf _ _ (by simp)).trans (by go_simp))
  clear hc2 hf2 hc hf
  go_wp2_with fail
  rw [Exit.noGoto_ret]
  refine bodyPost_ret (v := .tuple #[.agg #[.int .i64 (r1), .int .i64 (r2), .int .i64 (r3)], .bool false]) (by simp [results, Try.results11, go_sem, y0, y1, y2]) rfl ⟨rfl, ?_⟩
  exact (((B2.setCell (by show _ ≤ w.heap.size + 1 + 1; omega) _).setCell (by show _ ≤ w.heap.size + 1 + 1; omega) _).setCell (by show _ ≤ w.heap.size + 1 + 1; omega) _)
set_option maxHeartbeats 4000000 in
set_option maxRecDepth 100000 in
theorem step_2ct (sh de rc s n : Int) (bl : Bool) (w : World) (hv : vaR sh de rc 2 s n = true)  :
    Calls Try.prog 11 #[.int .i64 sh, .int .i64 de, .int .i64 rc, .agg #[.int .i64 2, .int .i64 s, .int .i64 n], .agg #[.bool true, .bool false, .bool false, .bool bl]] w fun e w' => e = .returned (.tuple #[.agg #[.int .i64 (5), .int .i64 (0), .int .i64 (0)], .bool false]) ∧ Below w.heap.size w w' := by
  have hu25 := Try.underlying25
  have hu29 := Try.underlying29
  have hva := va_eq 0 sh de rc 2 s n
  rw [hv] at hva
  clear hv
  have HV := Aside0.mk hva
  clear hva
  go_enter Try.func11, Try.ntmps11
  go_wp2_with fail
  refine wp_scope_jumps 0 (fun a' w' => (∃ u12 u13 u14 u15 u16 u17 u18 u19 u20 u21 u22 u23 u24 u25 u26 u27 u28 u29 u30 u31 u32 u33 u34 u35 u36 u37 u38 u39 u40 u41 u42 u43 u44 u45 u46 u47 u48 u49 u50 u51 u52 u53 u54 u55 u56 u57 u58 u59 u60 u61 u62 u63 u64 u65 u66 u67 u68 u69 u70 u71 u72 u73 u74 u75 u76 u77 u78 u79 u80 u81 u82 u83 : Value, a' = { tmps := #[.int .i64 sh, .int .i64 de, .int .i64 rc, .agg #[.int .i64 2, .int .i64 s, .int .i64 n], .agg #[.bool true, .bool false, .bool false, .bool bl], undef, undef, undef, .pointer (some ⟨w.heap.size, 0, none⟩), .pointer (some ⟨w.heap.size + 1, 0, none⟩), .pointer (some ⟨w.heap.size + 1 + 1, 0, none⟩), .bool false, u12, u13, u14, u15, u16, u17, u18, u19, u20, u21, u22, u23, u24, u25, u26, u27, u28, u29, u30, u31, u32, u33, u34, u35, u36, u37, u38, u39, u40, u41, u42, u43, u44, u45, u46, u47, u48, u49, u50, u51, u52, u53, u54, u55, u56, u57, u58, u59, u60, u61, u62, u63, u64, u65, u66, u67, u68, u69, u70, u71, u72, u73, u74, u75, u76, u77, u78, u79, u80, u81, u82, u83], defers := [] }) ∧ Below (((w.alloc (.cells #[.int .i64 2, .int .i64 s, .int .i64 n] 25)).alloc (.cells #[.bool true, .bool false, .bool false, .bool bl] 29)).alloc (.cells #[.int .i64 0, .int .i64 0, .int .i64 0] 25)).heap.size (((w.alloc (.cells #[.int .i64 2, .int .i64 s, .int .i64 n] 25)).alloc (.cells #[.bool true, .bool false, .bool false, .bool bl] 29)).alloc (.cells #[.int .i64 0, .int .i64 0, .int .i64 0] 25)) w') (fun _ _ => 0) rfl ?first ?pass
  case first =>
    go_wp2_with fail
    refine (recloser_Valid.calls 2 _ _ _ _ _ _ true _ HV.out).mono ?_
    rintro e w1 ⟨rfl, hb⟩
    obtain ⟨hc, hf⟩ := bcell hb
    have hz := hb.size
    simp at hz
    have B1 : Below w.heap.size w w1 := ((((Below.refl _ _).alloc (Nat.le_refl _) _).alloc (by simp) _).alloc (by simp; omega) _).trans (hb.mono (by simp; omega))
    go_wp2_with fail
    go_step3
    exact ⟨rfl, ⟨_, _, _, _, _, _, _, _, _, _, _, _, _, _, _, _, _, _, _, _, _, _, _, _, _, _, _, _, _, _, _, _, _, _, _, _, _, _, _, _, _, _, _, _, _, _, _, _, _, _, _, _, _, _, _, _, _, _, _, _, _, _, _, _, _, _, _, _, _, _, _, _, rfl⟩, hb⟩
  case pass =>
    rintro a' w1 ⟨⟨u12, u13, u14, u15, u16, u17, u18, u19, u20, u21, u22, u23, u24, u25, u26, u27, u28, u29, u30, u31, u32, u33, u34, u35, u36, u37, u38, u39, u40, u41, u42, u43, u44, u45, u46, u47, u48, u49, u50, u51, u52, u53, u54, u55, u56, u57, u58, u59, u60, u61, u62, u63, u64, u65, u66, u67, u68, u69, u70, u71, u72, u73, u74, u75, u76, u77, u78, u79, u80, u81, u82, u83, rfl⟩, hb⟩
    obtain ⟨hc, hf⟩ := bcell hb
    have hz := hb.size
    simp at hz
    have B1 : Below w.heap.size w w1 := ((((Below.refl _ _).alloc (Nat.le_refl _) _).alloc (by simp) _).alloc (by simp; omega) _).trans (hb.mono (by simp; omega))
    go_wp2_with fail
    refine (recloser_locked.calls 5 0 0 _ rfl).mono ?_
    rintro e w2 ⟨rfl, hb2⟩
    obtain ⟨hc2, hf2⟩ := bcell hb2
    have hz2 := hb2.size
    have B2 : Below w.heap.size w w2 := B1.trans (hb2.mono B1.size)
    have y0 : w2.cell? ⟨w.heap.size + 1 + 1, 0, none⟩ = some (.int .i64 0) := (hc2 _ _ (by omega)).trans ((hc _ _ (by simp)).trans (by go_simp))
    have y1 : w2.cell? ⟨w.heap.size + 1 + 1, 1, none⟩ = some (.int .i64 0) := (hc2 _ _ (by omega)).trans ((hc _ _ (by simp)).trans (by go_simp))
    have y2 : w2.cell? ⟨w.heap.size + 1 + 1, 2, none⟩ = some (.int .i64 0) := (hc2 _ _ (by omega)).trans ((hc _ _ (by simp)).trans (by go_simp))
    have z0 : ∀ o, w2.frozen? ⟨w.heap.size + 1 + 1, o, none⟩ = false := fun o => (hf2 _ _ (by omega)).trans ((hf _ _ (by simp)).trans (by go_simp))
    clear hc2 hf2 hc hf
    go_wp2_with fail
    simp only [Exit.jump]
    refine bodyPost_ret (v := .tuple #[.agg #[.int .i64 (5), .int .i64 (0), .int .i64 (0)], .bool false]) (by simp [results, Try.results11, go_sem, y0, y1, y2]) rfl ⟨rfl, ?_⟩
    exact (((B2.setCell (by show _ ≤ w.heap.size + 1 + 1; omega) _).setCell (by show _ ≤ w.heap.size + 1 + 1; omega) _).setCell (by show _ ≤ w.heap.size + 1 + 1; omega) _)
set_option maxHeartbeats 4000000 in
set_option maxRecDepth 100000 in
theorem step_2ot (sh de rc s n : Int) (bl : Bool) (w : World) (hv : vaR sh de rc 2 s n = true) (r1 r2 r3 : Int) (r4 : Bool) (hr : recloser_pause.f 2 s n de bl = some (r1, r2, r3, r4)) :
    Calls Try.prog 11 #[.int .i64 sh, .int .i64 de, .int .i64 rc, .agg #[.int .i64 2, .int .i64 s, .int .i64 n], .agg #[.bool true, .bool false, .bool true, .bool bl]] w fun e w' => e = .returned (.tuple #[.agg #[.int .i64 (r1), .int .i64 (r2), .int .i64 (r3)], .bool r4]) ∧ Below w.heap.size w w' := by
  have hu25 := Try.underlying25
  have hu29 := Try.underlying29
  have hva := va_eq 0 sh de rc 2 s n
  rw [hv] at hva
  clear hv
  have HV := Aside0.mk hva
  clear hva
  go_enter Try.func11, Try.ntmps11
  go_wp2_with fail
  go_step3
  go_wp2_with fail
  refine (recloser_Valid.calls 2 _ _ _ _ _ _ true _ HV.out).mono ?_
  rintro e w1 ⟨rfl, hb⟩
  obtain ⟨hc, hf⟩ := bcell hb
  have hz := hb.size
  simp at hz
  have B1 : Below w.heap.size w w1 := ((((Below.refl _ _).alloc (Nat.le_refl _) _).alloc (by simp) _).alloc (by simp; omega) _).trans (hb.mono (by simp; omega))
  go_wp2_with fail
  refine (recloser_pause.calls 2 s n de bl r1 r2 r3 r4 _ hr).mono ?_
  rintro e w2 ⟨rfl, hb2⟩
  obtain ⟨hc2, hf2⟩ := bcell hb2
  have hz2 := hb2.size
  have B2 : Below w.heap.size w w2 := B1.trans (hb2.mono B1.size)
  have y0 : w2.cell? ⟨w.heap.size + 1 + 1, 0, none⟩ = some (.int .i64 0) := (hc2 _ _ (by omega)).trans ((hc _ _ (by simp)).trans (by go_simp))
  have y1 : w2.cell? ⟨w.heap.size + 1 + 1, 1, none⟩ = some (.int .i64 0) := (hc2 _ _ (by omega)).trans ((hc _ _ (by simp)).trans (by go_simp))
  have y2 : w2.cell? ⟨w.heap.size + 1 + 1, 2, none⟩ = some (.int .i64 0) := (hc2 _ _ (by omega)).trans ((hc _ _ (by simp)).trans (by go_simp))
  have z0 : ∀ o, w2.frozen? ⟨w.heap.size + 1 + 1, o, none⟩ = false := fun o => (hf2 _ _ (by omega)).trans ((hf _ _ (by simp)).trans (by go_simp))
  clear hc2 hf2 hc hf
  go_wp2_with fail
  rw [Exit.noGoto_ret]
  refine bodyPost_ret (v := .tuple #[.agg #[.int .i64 (r1), .int .i64 (r2), .int .i64 (r3)], .bool r4]) (by simp [results, Try.results11, go_sem, y0, y1, y2]) rfl ⟨rfl, ?_⟩
  exact (((B2.setCell (by show _ ≤ w.heap.size + 1 + 1; omega) _).setCell (by show _ ≤ w.heap.size + 1 + 1; omega) _).setCell (by show _ ≤ w.heap.size + 1 + 1; omega) _)
set_option maxHeartbeats 4000000 in
set_option maxRecDepth 100000 in
theorem step_5t (sh de rc s n : Int) (op bl : Bool) (w : World) (hv : vaR sh de rc 5 s n = true) (r1 r2 r3 : Int) (hr : recloser_rest.f 5 s n rc true false op bl = some (r1, r2, r3)) :
    Calls Try.prog 11 #[.int .i64 sh, .int .i64 de, .int .i64 rc, .agg #[.int .i64 5, .int .i64 s, .int .i64 n], .agg #[.bool true, .bool false, .bool op, .bool bl]] w fun e w' => e = .returned (.tuple #[.agg #[.int .i64 (r1), .int .i64 (r2), .int .i64 (r3)], .bool false]) ∧ Below w.heap.size w w' := by
  have hu25 := Try.underlying25
  have hu29 := Try.underlying29
  have hva := va_eq 0 sh de rc 5 s n
  rw [hv] at hva
  clear hv
  have HV := Aside0.mk hva
  clear hva
  go_enter Try.func11, Try.ntmps11
  go_wp2_with fail
  go_step3
  go_wp2_with fail
  refine (recloser_Valid.calls 2 _ _ _ _ _ _ true _ HV.out).mono ?_
  rintro e w1 ⟨rfl, hb⟩
  obtain ⟨hc, hf⟩ := bcell hb
  have hz := hb.size
  simp at hz
  have B1 : Below w.heap.size w w1 := ((((Below.refl _ _).alloc (Nat.le_refl _) _).alloc (by simp) _).alloc (by simp; omega) _).trans (hb.mono (by simp; omega))
  go_wp2_with fail
  refine (recloser_rest.calls 5 s n rc true false op bl r1 r2 r3 _ hr).mono ?_
  rintro e w2 ⟨rfl, hb2⟩
  obtain ⟨hc2, hf2⟩ := bcell hb2
  have hz2 := hb2.size
  have B2 : Below w.heap.size w w2 := B1.trans (hb2.mono B1.size)
  have y0 : w2.cell? ⟨w.heap.size + 1 + 1, 0, none⟩ = some (.int .i64 0) := (hc2 _ _ (by omega)).trans ((hc _ _ (by simp)).trans (by go_simp))
  have y1 : w2.cell? ⟨w.heap.size + 1 + 1, 1, none⟩ = some (.int .i64 0) := (hc2 _ _ (by omega)).trans ((hc _ _ (by simp)).trans (by go_simp))
  have y2 : w2.cell? ⟨w.heap.size + 1 + 1, 2, none⟩ = some (.int .i64 0) := (hc2 _ _ (by omega)).trans ((hc _ _ (by simp)).trans (by go_simp))
  have z0 : ∀ o, w2.frozen? ⟨w.heap.size + 1 + 1, o, none⟩ = false := fun o => (hf2 _ _ (by omega)).trans ((hf _ _ (by simp)).trans (by go_simp))
  clear hc2 hf2 hc hf
  go_wp2_with fail
  rw [Exit.noGoto_ret]
  refine bodyPost_ret (v := .tuple #[.agg #[.int .i64 (r1), .int .i64 (r2), .int .i64 (r3)], .bool false]) (by simp [results, Try.results11, go_sem, y0, y1, y2]) rfl ⟨rfl, ?_⟩
  exact (((B2.setCell (by show _ ≤ w.heap.size + 1 + 1; omega) _).setCell (by show _ ≤ w.heap.size + 1 + 1; omega) _).setCell (by show _ ≤ w.heap.size + 1 + 1; omega) _)
set_option maxHeartbeats 4000000 in
set_option maxRecDepth 100000 in
theorem step_1f (sh de rc s n : Int) (op bl : Bool) (w : World) (hv : vaR sh de rc 1 s n = true) (r1 r2 r3 : Int) (hr : recloser_wait.f 1 s n op 2 = some (r1, r2, r3)) :
    Calls Try.prog 11 #[.int .i64 sh, .int .i64 de, .int .i64 rc, .agg #[.int .i64 1, .int .i64 s, .int .i64 n], .agg #[.bool false, .bool false, .bool op, .bool bl]] w fun e w' => e = .returned (.tuple #[.agg #[.int .i64 (r1), .int .i64 (r2), .int .i64 (r3)], .bool false]) ∧ Below w.heap.size w w' := by
  have hu25 := Try.underlying25
  have hu29 := Try.underlying29
  have hva := va_eq 0 sh de rc 1 s n
  rw [hv] at hva
  clear hv
  have HV := Aside0.mk hva
  clear hva
  go_enter Try.func11, Try.ntmps11
  go_wp2_with fail
  go_step3
  go_wp2_with fail
  refine (recloser_Valid.calls 2 _ _ _ _ _ _ true _ HV.out).mono ?_
  rintro e w1 ⟨rfl, hb⟩
  obtain ⟨hc, hf⟩ := bcell hb
  have hz := hb.size
  simp at hz
  have B1 : Below w.heap.size w w1 := ((((Below.refl _ _).alloc (Nat.le_refl _) _).alloc (by simp) _).alloc (by simp; omega) _).trans (hb.mono (by simp; omega))
  go_wp2_with fail
  refine (recloser_wait.calls 1 s n op 2 r1 r2 r3 _ hr).mono ?_
  rintro e w2 ⟨rfl, hb2⟩
  obtain ⟨hc2, hf2⟩ := bcell hb2
  have hz2 := hb2.size
  have B2 : Below w.heap.size w w2 := B1.trans (hb2.mono B1.size)
  have y0 : w2.cell? ⟨w.heap.size + 1 + 1, 0, none⟩ = some (.int .i64 0) := (hc2 _ _ (by omega)).trans ((hc _ _ (by simp)).trans (by go_simp))
  have y1 : w2.cell? ⟨w.heap.size + 1 + 1, 1, none⟩ = some (.int .i64 0) := (hc2 _ _ (by omega)).trans ((hc _ _ (by simp)).trans (by go_simp))
  have y2 : w2.cell? ⟨w.heap.size + 1 + 1, 2, none⟩ = some (.int .i64 0) := (hc2 _ _ (by omega)).trans ((hc _ _ (by simp)).trans (by go_simp))
  have z0 : ∀ o, w2.frozen? ⟨w.heap.size + 1 + 1, o, none⟩ = false := fun o => (hf2 _ _ (by omega)).trans ((hf _ _ (by simp)).trans (by go_simp))
  clear hc2 hf2 hc hf
  go_wp2_with fail
  rw [Exit.noGoto_ret]
  refine bodyPost_ret (v := .tuple #[.agg #[.int .i64 (r1), .int .i64 (r2), .int .i64 (r3)], .bool false]) (by simp [results, Try.results11, go_sem, y0, y1, y2]) rfl ⟨rfl, ?_⟩
  exact (((B2.setCell (by show _ ≤ w.heap.size + 1 + 1; omega) _).setCell (by show _ ≤ w.heap.size + 1 + 1; omega) _).setCell (by show _ ≤ w.heap.size + 1 + 1; omega) _)
set_option maxHeartbeats 4000000 in
set_option maxRecDepth 100000 in
theorem step_3f (sh de rc s n : Int) (op bl : Bool) (w : World) (hv : vaR sh de rc 3 s n = true) (r1 r2 r3 : Int) (hr : recloser_wait.f 3 s n (!op) 4 = some (r1, r2, r3)) :
    Calls Try.prog 11 #[.int .i64 sh, .int .i64 de, .int .i64 rc, .agg #[.int .i64 3, .int .i64 s, .int .i64 n], .agg #[.bool false, .bool false, .bool op, .bool bl]] w fun e w' => e = .returned (.tuple #[.agg #[.int .i64 (r1), .int .i64 (r2), .int .i64 (r3)], .bool false]) ∧ Below w.heap.size w w' := by
  have hu25 := Try.underlying25
  have hu29 := Try.underlying29
  have hva := va_eq 0 sh de rc 3 s n
  rw [hv] at hva
  clear hv
  have HV := Aside0.mk hva
  clear hva
  go_enter Try.func11, Try.ntmps11
  go_wp2_with fail
  go_step3
  go_wp2_with fail
  refine (recloser_Valid.calls 2 _ _ _ _ _ _ true _ HV.out).mono ?_
  rintro e w1 ⟨rfl, hb⟩
  obtain ⟨hc, hf⟩ := bcell hb
  have hz := hb.size
  simp at hz
  have B1 : Below w.heap.size w w1 := ((((Below.refl _ _).alloc (Nat.le_refl _) _).alloc (by simp) _).alloc (by simp; omega) _).trans (hb.mono (by simp; omega))
  go_wp2_with fail
  refine (recloser_wait.calls 3 s n (!op) 4 r1 r2 r3 _ hr).mono ?_
  rintro e w2 ⟨rfl, hb2⟩
  obtain ⟨hc2, hf2⟩ := bcell hb2
  have hz2 := hb2.size
  have B2 : Below w.heap.size w w2 := B1.trans (hb2.mono B1.size)
  have y0 : w2.cell? ⟨w.heap.size + 1 + 1, 0, none⟩ = some (.int .i64 0) := (hc2 _ _ (by omega)).trans ((hc _ _ (by simp)).trans (by go_simp))
  have y1 : w2.cell? ⟨w.heap.size + 1 + 1, 1, none⟩ = some (.int .i64 0) := (hc2 _ _ (by omega)).trans ((hc _ _ (by simp)).trans (by go_simp))
  have y2 : w2.cell? ⟨w.heap.size + 1 + 1, 2, none⟩ = some (.int .i64 0) := (hc2 _ _ (by omega)).trans ((hc _ _ (by simp)).trans (by go_simp))
  have z0 : ∀ o, w2.frozen? ⟨w.heap.size + 1 + 1, o, none⟩ = false := fun o => (hf2 _ _ (by omega)).trans ((hf _ _ (by simp)).trans (by go_simp))
  clear hc2 hf2 hc hf
  go_wp2_with fail
  rw [Exit.noGoto_ret]
  refine bodyPost_ret (v := .tuple #[.agg #[.int .i64 (r1), .int .i64 (r2), .int .i64 (r3)], .bool false]) (by simp [results, Try.results11, go_sem, y0, y1, y2]) rfl ⟨rfl, ?_⟩
  exact (((B2.setCell (by show _ ≤ w.heap.size + 1 + 1; omega) _).setCell (by show _ ≤ w.heap.size + 1 + 1; omega) _).setCell (by show _ ≤ w.heap.size + 1 + 1; omega) _)
set_option maxHeartbeats 4000000 in
set_option maxRecDepth 100000 in
theorem step_2cf (sh de rc s n : Int) (bl : Bool) (w : World) (hv : vaR sh de rc 2 s n = true)  :
    Calls Try.prog 11 #[.int .i64 sh, .int .i64 de, .int .i64 rc, .agg #[.int .i64 2, .int .i64 s, .int .i64 n], .agg #[.bool false, .bool false, .bool false, .bool bl]] w fun e w' => e = .returned (.tuple #[.agg #[.int .i64 (5), .int .i64 (0), .int .i64 (0)], .bool false]) ∧ Below w.heap.size w w' := by
  have hu25 := Try.underlying25
  have hu29 := Try.underlying29
  have hva := va_eq 0 sh de rc 2 s n
  rw [hv] at hva
  clear hv
  have HV := Aside0.mk hva
  clear hva
  go_enter Try.func11, Try.ntmps11
  go_wp2_with fail
  refine wp_scope_jumps 0 (fun a' w' => (∃ u12 u13 u14 u15 u16 u17 u18 u19 u20 u21 u22 u23 u24 u25 u26 u27 u28 u29 u30 u31 u32 u33 u34 u35 u36 u37 u38 u39 u40 u41 u42 u43 u44 u45 u46 u47 u48 u49 u50 u51 u52 u53 u54 u55 u56 u57 u58 u59 u60 u61 u62 u63 u64 u65 u66 u67 u68 u69 u70 u71 u72 u73 u74 u75 u76 u77 u78 u79 u80 u81 u82 u83 : Value, a' = { tmps := #[.int .i64 sh, .int .i64 de, .int .i64 rc, .agg #[.int .i64 2, .int .i64 s, .int .i64 n], .agg #[.bool false, .bool false, .bool false, .bool bl], undef, undef, undef, .pointer (some ⟨w.heap.size, 0, none⟩), .pointer (some ⟨w.heap.size + 1, 0, none⟩), .pointer (some ⟨w.heap.size + 1 + 1, 0, none⟩), .bool false, u12, u13, u14, u15, u16, u17, u18, u19, u20, u21, u22, u23, u24, u25, u26, u27, u28, u29, u30, u31, u32, u33, u34, u35, u36, u37, u38, u39, u40, u41, u42, u43, u44, u45, u46, u47, u48, u49, u50, u51, u52, u53, u54, u55, u56, u57, u58, u59, u60, u61, u62, u63, u64, u65, u66, u67, u68, u69, u70, u71, u72, u73, u74, u75, u76, u77, u78, u79, u80, u81, u82, u83], defers := [] }) ∧ Below (((w.alloc (.cells #[.int .i64 2, .int .i64 s, .int .i64 n] 25)).alloc (.cells #[.bool false, .bool false, .bool false, .bool bl] 29)).alloc (.cells #[.int .i64 0, .int .i64 0, .int .i64 0] 25)).heap.size (((w.alloc (.cells #[.int .i64 2, .int .i64 s, .int .i64 n] 25)).alloc (.cells #[.bool false, .bool false, .bool false, .bool bl] 29)).alloc (.cells #[.int .i64 0, .int .i64 0, .int .i64 0] 25)) w') (fun _ _ => 0) rfl ?first ?pass
  case first =>
    go_wp2_with fail
    refine (recloser_Valid.calls 2 _ _ _ _ _ _ true _ HV.out).mono ?_
    rintro e w1 ⟨rfl, hb⟩
    obtain ⟨hc, hf⟩ := bcell hb
    have hz := hb.size
    simp at hz
    have B1 : Below w.heap.size w w1 := ((((Below.refl _ _).alloc (Nat.le_refl _) _).alloc (by simp) _).alloc (by simp; omega) _).trans (hb.mono (by simp; omega))
    go_wp2_with fail
    go_step3
    exact ⟨rfl, ⟨_, _, _, _, _, _, _, _, _, _, _, _, _, _, _, _, _, _, _, _, _, _, _, _, _, _, _, _, _, _, _, _, _, _, _, _, _, _, _, _, _, _, _, _, _, _, _, _, _, _, _, _, _, _, _, _, _, _, _, _, _, _, _, _, _, _, _, _, _, _, _, _, rfl⟩, hb⟩
  case pass =>
    rintro a' w1 ⟨⟨u12, u13, u14, u15, u16, u17, u18, u19, u20, u21, u22, u23, u24, u25, u26, u27, u28, u29, u30, u31, u32, u33, u34, u35, u36, u37, u38, u39, u40, u41, u42, u43, u44, u45, u46, u47, u48, u49, u50, u51, u52, u53, u54, u55, u56, u57, u58, u59, u60, u61, u62, u63, u64, u65, u66, u67, u68, u69, u70, u71, u72, u73, u74, u75, u76, u77, u78, u79, u80, u81, u82, u83, rfl⟩, hb⟩
    obtain ⟨hc, hf⟩ := bcell hb
    have hz := hb.size
    simp at hz
    have B1 : Below w.heap.size w w1 := ((((Below.refl _ _).alloc (Nat.le_refl _) _).alloc (by simp) _).alloc (by simp; omega) _).trans (hb.mono (by simp; omega))
    go_wp2_with fail
    refine (recloser_locked.calls 5 0 0 _ rfl).mono ?_
    rintro e w2 ⟨rfl, hb2⟩
    obtain ⟨hc2, hf2⟩ := bcell hb2
    have hz2 := hb2.size
    have B2 : Below w.heap.size w w2 := B1.trans (hb2.mono B1.size)
    have y0 : w2.cell? ⟨w.heap.size + 1 + 1, 0, none⟩ = some (.int .i64 0) := (hc2 _ _ (by omega)).trans ((hc _ _ (by simp)).trans (by go_simp))
    have y1 : w2.cell? ⟨w.heap.size + 1 + 1, 1, none⟩ = some (.int .i64 0) := (hc2 _ _ (by omega)).trans ((hc _ _ (by simp)).trans (by go_simp))
    have y2 : w2.cell? ⟨w.heap.size + 1 + 1, 2, none⟩ = some (.int .i64 0) := (hc2 _ _ (by omega)).trans ((hc _ _ (by simp)).trans (by go_simp))
    have z0 : ∀ o, w2.frozen? ⟨w.heap.size + 1 + 1, o, none⟩ = false := fun o => (hf2 _ _ (by omega)).trans ((hf _ _ (by simp)).trans (by go_simp))
    clear hc2 hf2 hc hf
    go_wp2_with fail
    simp only [Exit.jump]
    refine bodyPost_ret (v := .tuple #[.agg #[.int .i64 (5), .int .i64 (0), .int .i64 (0)], .bool false]) (by simp [results, Try.results11, go_sem, y0, y1, y2]) rfl ⟨rfl, ?_⟩
    exact (((B2.setCell (by show _ ≤ w.heap.size + 1 + 1; omega) _).setCell (by show _ ≤ w.heap.size + 1 + 1; omega) _).setCell (by show _ ≤ w.heap.size + 1 + 1; omega) _)
set_option maxHeartbeats 4000000 in
set_option maxRecDepth 100000 in
theorem step_2of (sh de rc s n : Int) (bl : Bool) (w : World) (hv : vaR sh de rc 2 s n = true) (r1 r2 r3 : Int) (r4 : Bool) (hr : recloser_pause.f 2 s n de bl = some (r1, r2, r3, r4)) :
    Calls Try.prog 11 #[.int .i64 sh, .int .i64 de, .int .i64 rc, .agg #[.int .i64 2, .int .i64 s, .int .i64 n], .agg #[.bool false, .bool false, .bool true, .bool bl]] w fun e w' => e = .returned (.tuple #[.agg #[.int .i64 (r1), .int .i64 (r2), .int .i64 (r3)], .bool r4]) ∧ Below w.heap.size w w' := by
  have hu25 := Try.underlying25
  have hu29 := Try.underlying29
  have hva := va_eq 0 sh de rc 2 s n
  rw [hv] at hva
  clear hv
  have HV := Aside0.mk hva
  clear hva
  go_enter Try.func11, Try.ntmps11
  go_wp2_with fail
  go_step3
  go_wp2_with fail
  refine (recloser_Valid.calls 2 _ _ _ _ _ _ true _ HV.out).mono ?_
  rintro e w1 ⟨rfl, hb⟩
  obtain ⟨hc, hf⟩ := bcell hb
  have hz := hb.size
  simp at hz
  have B1 : Below w.heap.size w w1 := ((((Below.refl _ _).alloc (Nat.le_refl _) _).alloc (by simp) _).alloc (by simp; omega) _).trans (hb.mono (by simp; omega))
  go_wp2_with fail
  refine (recloser_pause.calls 2 s n de bl r1 r2 r3 r4 _ hr).mono ?_
  rintro e w2 ⟨rfl, hb2⟩
  obtain ⟨hc2, hf2⟩ := bcell hb2
  have hz2 := hb2.size
  have B2 : Below w.heap.size w w2 := B1.trans (hb2.mono B1.size)
  have y0 : w2.cell? ⟨w.heap.size + 1 + 1, 0, none⟩ = some (.int .i64 0) := (hc2 _ _ (by omega)).trans ((hc _ _ (by simp)).trans (by go_simp))
  have y1 : w2.cell? ⟨w.heap.size + 1 + 1, 1, none⟩ = some (.int .i64 0) := (hc2 _ _ (by omega)).trans ((hc _ _ (by simp)).trans (by go_simp))
  have y2 : w2.cell? ⟨w.heap.size + 1 + 1, 2, none⟩ = some (.int .i64 0) := (hc2 _ _ (by omega)).trans ((hc _ _ (by simp)).trans (by go_simp))
  have z0 : ∀ o, w2.frozen? ⟨w.heap.size + 1 + 1, o, none⟩ = false := fun o => (hf2 _ _ (by omega)).trans ((hf _ _ (by simp)).trans (by go_simp))
  clear hc2 hf2 hc hf
  go_wp2_with fail
  rw [Exit.noGoto_ret]
  refine bodyPost_ret (v := .tuple #[.agg #[.int .i64 (r1), .int .i64 (r2), .int .i64 (r3)], .bool r4]) (by simp [results, Try.results11, go_sem, y0, y1, y2]) rfl ⟨rfl, ?_⟩
  exact (((B2.setCell (by show _ ≤ w.heap.size + 1 + 1; omega) _).setCell (by show _ ≤ w.heap.size + 1 + 1; omega) _).setCell (by show _ ≤ w.heap.size + 1 + 1; omega) _)
set_option maxHeartbeats 4000000 in
set_option maxRecDepth 100000 in
theorem step_5f (sh de rc s n : Int) (op bl : Bool) (w : World) (hv : vaR sh de rc 5 s n = true) (r1 r2 r3 : Int) (hr : recloser_rest.f 5 s n rc false false op bl = some (r1, r2, r3)) :
    Calls Try.prog 11 #[.int .i64 sh, .int .i64 de, .int .i64 rc, .agg #[.int .i64 5, .int .i64 s, .int .i64 n], .agg #[.bool false, .bool false, .bool op, .bool bl]] w fun e w' => e = .returned (.tuple #[.agg #[.int .i64 (r1), .int .i64 (r2), .int .i64 (r3)], .bool false]) ∧ Below w.heap.size w w' := by
  have hu25 := Try.underlying25
  have hu29 := Try.underlying29
  have hva := va_eq 0 sh de rc 5 s n
  rw [hv] at hva
  clear hv
  have HV := Aside0.mk hva
  clear hva
  go_enter Try.func11, Try.ntmps11
  go_wp2_with fail
  go_step3
  go_wp2_with fail
  refine (recloser_Valid.calls 2 _ _ _ _ _ _ true _ HV.out).mono ?_
  rintro e w1 ⟨rfl, hb⟩
  obtain ⟨hc, hf⟩ := bcell hb
  have hz := hb.size
  simp at hz
  have B1 : Below w.heap.size w w1 := ((((Below.refl _ _).alloc (Nat.le_refl _) _).alloc (by simp) _).alloc (by simp; omega) _).trans (hb.mono (by simp; omega))
  go_wp2_with fail
  refine (recloser_rest.calls 5 s n rc false false op bl r1 r2 r3 _ hr).mono ?_
  rintro e w2 ⟨rfl, hb2⟩
  obtain ⟨hc2, hf2⟩ := bcell hb2
  have hz2 := hb2.size
  have B2 : Below w.heap.size w w2 := B1.trans (hb2.mono B1.size)
  have y0 : w2.cell? ⟨w.heap.size + 1 + 1, 0, none⟩ = some (.int .i64 0) := (hc2 _ _ (by omega)).trans ((hc _ _ (by simp)).trans (by go_simp))
  have y1 : w2.cell? ⟨w.heap.size + 1 + 1, 1, none⟩ = some (.int .i64 0) := (hc2 _ _ (by omega)).trans ((hc _ _ (by simp)).trans (by go_simp))
  have y2 : w2.cell? ⟨w.heap.size + 1 + 1, 2, none⟩ = some (.int .i64 0) := (hc2 _ _ (by omega)).trans ((hc _ _ (by simp)).trans (by go_simp))
  have z0 : ∀ o, w2.frozen? ⟨w.heap.size + 1 + 1, o, none⟩ = false := fun o => (hf2 _ _ (by omega)).trans ((hf _ _ (by simp)).trans (by go_simp))
  clear hc2 hf2 hc hf
  go_wp2_with fail
  rw [Exit.noGoto_ret]
  refine bodyPost_ret (v := .tuple #[.agg #[.int .i64 (r1), .int .i64 (r2), .int .i64 (r3)], .bool false]) (by simp [results, Try.results11, go_sem, y0, y1, y2]) rfl ⟨rfl, ?_⟩
  exact (((B2.setCell (by show _ ≤ w.heap.size + 1 + 1; omega) _).setCell (by show _ ≤ w.heap.size + 1 + 1; omega) _).setCell (by show _ ≤ w.heap.size + 1 + 1; omega) _)
set_option maxHeartbeats 4000000 in
set_option maxRecDepth 100000 in
theorem step_4f (sh de rc s n : Int) (op bl : Bool) (w : World) (hv : vaR sh de rc 4 s n = true) (r1 r2 r3 : Int) (hr : recloser_rest.f 4 s n rc false false op bl = some (r1, r2, r3)) :
    Calls Try.prog 11 #[.int .i64 sh, .int .i64 de, .int .i64 rc, .agg #[.int .i64 4, .int .i64 s, .int .i64 n], .agg #[.bool false, .bool false, .bool op, .bool bl]] w fun e w' => e = .returned (.tuple #[.agg #[.int .i64 (r1), .int .i64 (r2), .int .i64 (r3)], .bool false]) ∧ Below w.heap.size w w' := by
  have hu25 := Try.underlying25
  have hu29 := Try.underlying29
  have hva := va_eq 0 sh de rc 4 s n
  rw [hv] at hva
  clear hv
  have HV := Aside0.mk hva
  clear hva
  go_enter Try.func11, Try.ntmps11
  go_wp2_with fail
  go_step3
  go_wp2_with fail
  refine (recloser_Valid.calls 2 _ _ _ _ _ _ true _ HV.out).mono ?_
  rintro e w1 ⟨rfl, hb⟩
  obtain ⟨hc, hf⟩ := bcell hb
  have hz := hb.size
  simp at hz
  have B1 : Below w.heap.size w w1 := ((((Below.refl _ _).alloc (Nat.le_refl _) _).alloc (by simp) _).alloc (by simp; omega) _).trans (hb.mono (by simp; omega))
  go_wp2_with fail
  refine (recloser_rest.calls 4 s n rc false false op bl r1 r2 r3 _ hr).mono ?_
  rintro e w2 ⟨rfl, hb2⟩
  obtain ⟨hc2, hf2⟩ := bcell hb2
  have hz2 := hb2.size
  have B2 : Below w.heap.size w w2 := B1.trans (hb2.mono B1.size)
  have y0 : w2.cell? ⟨w.heap.size + 1 + 1, 0, none⟩ = some (.int .i64 0) := (hc2 _ _ (by omega)).trans ((hc _ _ (by simp)).trans (by go_simp))
  have y1 : w2.cell? ⟨w.heap.size + 1 + 1, 1, none⟩ = some (.int .i64 0) := (hc2 _ _ (by omega)).trans ((hc _ _ (by simp)).trans (by go_simp))
  have y2 : w2.cell? ⟨w.heap.size + 1 + 1, 2, none⟩ = some (.int .i64 0) := (hc2 _ _ (by omega)).trans ((hc _ _ (by simp)).trans (by go_simp))
  have z0 : ∀ o, w2.frozen? ⟨w.heap.size + 1 + 1, o, none⟩ = false := fun o => (hf2 _ _ (by omega)).trans ((hf _ _ (by simp)).trans (by go_simp))
  clear hc2 hf2 hc hf
  go_wp2_with fail
  rw [Exit.noGoto_ret]
  refine bodyPost_ret (v := .tuple #[.agg #[.int .i64 (r1), .int .i64 (r2), .int .i64 (r3)], .bool false]) (by simp [results, Try.results11, go_sem, y0, y1, y2]) rfl ⟨rfl, ?_⟩
  exact (((B2.setCell (by show _ ≤ w.heap.size + 1 + 1; omega) _).setCell (by show _ ≤ w.heap.size + 1 + 1; omega) _).setCell (by show _ ≤ w.heap.size + 1 + 1; omega) _)
theorem vaR_le {sh de rc ph s n : Int} (h : vaR sh de rc ph s n = true) : usB sh de rc = true ∧ 0 ≤ n ∧ 0 ≤ s ∧ s ≤ 3 ∧
    ((ph = 0 ∧ n = 0 ∧ s = 0) ∨ (ph = 1 ∧ n ≤ 20 ∧ 1 ≤ s ∧ s ≤ sh) ∨ (ph = 2 ∧ n ≤ de - 1 ∧ 1 ≤ s ∧ s ≤ sh) ∨ (ph = 3 ∧ n ≤ 20 ∧ 1 ≤ s ∧ s ≤ sh) ∨ (ph = 4 ∧ n ≤ rc - 1 ∧ 1 ≤ s ∧ s ≤ sh) ∨ (ph = 5 ∧ n ≤ rc - 1 ∧ s = 0)) := by
  simp only [vaR, Bool.and_eq_true, decide_eq_true_eq] at h
  obtain ⟨hu, hn, h⟩ := h
  have hl := usB_le hu
  by_cases h0 : ph = 0
  · rw [if_pos h0] at h
    simp at h
    refine ⟨hu, hn, ?_, ?_, .inl ⟨h0, ?_, ?_⟩⟩ <;> omega
  rw [if_neg h0] at h
  by_cases h5 : ph = 5
  · rw [if_pos h5] at h
    simp at h
    refine ⟨hu, hn, ?_, ?_, ?_⟩ <;> omega
  rw [if_neg h5] at h
  simp only [Bool.and_eq_true, decide_eq_true_eq] at h
  obtain ⟨hs, h⟩ := h
  by_cases h13 : ph = 1 ∨ ph = 3
  · rw [if_pos h13] at h
    simp at h
    refine ⟨hu, hn, ?_, ?_, ?_⟩ <;> omega
  rw [if_neg h13] at h
  by_cases h2 : ph = 2
  · rw [if_pos h2] at h
    simp at h
    refine ⟨hu, hn, ?_, ?_, ?_⟩ <;> omega
  rw [if_neg h2] at h
  by_cases h4 : ph = 4
  · rw [if_pos h4] at h
    simp at h
    refine ⟨hu, hn, ?_, ?_, ?_⟩ <;> omega
  rw [if_neg h4] at h
  exact absurd h (by decide)
theorem stR_on {sh de rc ph s n : Int} (hv : vaR sh de rc ph s n = true) (fa op bl : Bool) : stR sh de rc ph s n fa false op bl =
    if fa = true ∧ (ph = 0 ∨ ph = 4) then (if bl = true ∨ s = sh then (5, 0, 0, false) else (1, s + 1, 0, false))
    else if ph = 0 then (if op = true then (5, 0, 0, false) else (ph, s, n, false))
    else if ph = 1 then (if op = true then (2, s, 0, false) else if n = 20 then (5, 0, 0, false) else (ph, s, n + 1, false))
    else if ph = 3 then (if op = false then (4, s, 0, false) else if n = 20 then (5, 0, 0, false) else (ph, s, n + 1, false))
    else if ph = 2 then (if op = false then (5, 0, 0, false) else if bl = true then (ph, s, n, false) else if n = de - 1 then (3, s, 0, true) else (ph, s, n + 1, false))
    else if op = true then (5, 0, 0, false) else if bl = true then (ph, s, n, false) else if n = rc - 1 then (0, 0, 0, false) else (ph, s, n + 1, false) := by
  unfold stR
  rw [if_neg (by rw [hv]; decide), if_neg (by decide)]
theorem wait_st (ph s n : Int) (b : Bool) (nx : Int) (h0 : 0 ≤ n) (h1 : n ≤ 20) : recloser_wait.f ph s n b nx = some (if b = true then (nx, s, 0) else if n = 20 then (5, 0, 0) else (ph, s, n + 1)) := by
  unfold recloser_wait.f
  rw [wrap_id (x := n + 1) (by omega) (by omega)]
  split
  · rfl
  · split <;> rfl
theorem rest_st (ph s n rc : Int) (fa sl op bl : Bool) (h0 : 0 ≤ n) (h1 : n ≤ 1000) (h2 : 1 ≤ rc ∧ rc ≤ 1000) : recloser_rest.f ph s n rc fa sl op bl = some (if op = true then (5, 0, 0) else if bl = true then (ph, s, n) else if n = rc - 1 then (0, 0, 0) else (ph, s, n + 1)) := by
  unfold recloser_rest.f
  rw [wrap_id (x := n + 1) (by omega) (by omega), wrap_id (x := rc - 1) (by omega) (by omega)]
  split
  · rfl
  · split
    · rfl
    · split <;> rfl
theorem pause_st (ph s n de : Int) (bl : Bool) (h0 : 0 ≤ n) (h1 : n ≤ 1000) (h2 : 1 ≤ de ∧ de ≤ 100) : recloser_pause.f ph s n de bl = some (if bl = true then (ph, s, n, false) else if n = de - 1 then (3, s, 0, true) else (ph, s, n + 1, false)) := by
  unfold recloser_pause.f
  rw [wrap_id (x := n + 1) (by omega) (by omega), wrap_id (x := de - 1) (by omega) (by omega)]
  split
  · rfl
  · split <;> rfl
theorem recloser_Step.calls (a0 : Int) (a1 : Int) (a2 : Int) (a3_0 : Int) (a3_1 : Int) (a3_2 : Int) (a4_0 : Bool) (a4_1 : Bool) (a4_2 : Bool) (a4_3 : Bool) (r1 : Int) (r2 : Int) (r3 : Int) (r4 : Bool) (w : World) (h : recloser_Step.f a0 a1 a2 a3_0 a3_1 a3_2 a4_0 a4_1 a4_2 a4_3 = some (r1, r2, r3, r4)) :
    Calls Try.prog 11 #[.int .i64 a0, .int .i64 a1, .int .i64 a2, .agg #[.int .i64 a3_0, .int .i64 a3_1, .int .i64 a3_2], .agg #[.bool a4_0, .bool a4_1, .bool a4_2, .bool a4_3]] w fun e w' => e = .returned (.tuple #[.agg #[.int .i64 r1, .int .i64 r2, .int .i64 r3], .bool r4]) ∧ Below w.heap.size w w' := by
  have h' := Option.some.inj h
  clear h
  by_cases hv : vaR a0 a1 a2 a3_0 a3_1 a3_2 = true
  · cases a4_1
    · rw [stR_on hv] at h'
      obtain ⟨hu, hn0, hs0, hs3, hp⟩ := vaR_le hv
      have hl := usB_le hu
      rcases hp with ⟨rfl, rfl, rfl⟩ | ⟨rfl, hn, hs⟩ | ⟨rfl, hn, hs⟩ | ⟨rfl, hn, hs⟩ | ⟨rfl, hn, hs⟩ | ⟨rfl, hn, rfl⟩
      · have hne : ¬ (0 : Int) = a0 := by omega
        cases a4_0
        · cases a4_2
          · simp at h'
            obtain ⟨rfl, rfl, rfl, rfl⟩ := h'
            exact step_0c _ _ _ _ _ _ w hv
          · simp at h'
            obtain ⟨rfl, rfl, rfl, rfl⟩ := h'
            exact step_0o _ _ _ _ _ _ w hv
        · cases a4_3
          · simp [hne] at h'
            obtain ⟨rfl, rfl, rfl, rfl⟩ := h'
            exact step_fw0 _ _ _ _ _ _ w hv (by simpa using hne) (by omega) (by omega)
          · simp at h'
            obtain ⟨rfl, rfl, rfl, rfl⟩ := h'
            exact step_fb0 _ _ _ _ _ _ w hv
      · have hw := wait_st 1 a3_1 a3_2 a4_2 2 hn0 hn
        have e : recloser_wait.f 1 a3_1 a3_2 a4_2 2 = some (r1, r2, r3) ∧ r4 = false := by
          rw [hw]
          simp at h'
          cases a4_2
          · by_cases h20 : a3_2 = 20 <;> simp [h20] at h' ⊢ <;> obtain ⟨rfl, rfl, rfl, rfl⟩ := h' <;> simp
          · simp at h' ⊢
            obtain ⟨rfl, rfl, rfl, rfl⟩ := h'
            simp
        obtain ⟨er, rfl⟩ := e
        cases a4_0
        · exact step_1f _ _ _ _ _ _ _ w hv r1 r2 r3 er
        · exact step_1t _ _ _ _ _ _ _ w hv r1 r2 r3 er
      · cases a4_2
        · simp at h'
          obtain ⟨rfl, rfl, rfl, rfl⟩ := h'
          cases a4_0
          · exact step_2cf _ _ _ _ _ _ w hv
          · exact step_2ct _ _ _ _ _ _ w hv
        · have hw := pause_st 2 a3_1 a3_2 a1 a4_3 hn0 (by omega) (by omega)
          have e : recloser_pause.f 2 a3_1 a3_2 a1 a4_3 = some (r1, r2, r3, r4) := by
            rw [hw, ← h']
            simp
          cases a4_0
          · exact step_2of _ _ _ _ _ _ w hv r1 r2 r3 r4 e
          · exact step_2ot _ _ _ _ _ _ w hv r1 r2 r3 r4 e
      · have hw := wait_st 3 a3_1 a3_2 (!a4_2) 4 hn0 hn
        have e : recloser_wait.f 3 a3_1 a3_2 (!a4_2) 4 = some (r1, r2, r3) ∧ r4 = false := by
          rw [hw]
          simp at h'
          cases a4_2
          · simp at h' ⊢
            obtain ⟨rfl, rfl, rfl, rfl⟩ := h'
            simp
          · by_cases h20 : a3_2 = 20 <;> simp [h20] at h' ⊢ <;> obtain ⟨rfl, rfl, rfl, rfl⟩ := h' <;> simp
        obtain ⟨er, rfl⟩ := e
        cases a4_0
        · exact step_3f _ _ _ _ _ _ _ w hv r1 r2 r3 er
        · exact step_3t _ _ _ _ _ _ _ w hv r1 r2 r3 er
      · cases a4_0
        · have hw := rest_st 4 a3_1 a3_2 a2 false false a4_2 a4_3 hn0 (by omega) (by omega)
          have e : recloser_rest.f 4 a3_1 a3_2 a2 false false a4_2 a4_3 = some (r1, r2, r3) ∧ r4 = false := by
            rw [hw]
            simp at h'
            cases a4_2
            · cases a4_3
              · by_cases hr : a3_2 = a2 - 1 <;> simp [hr] at h' ⊢ <;> obtain ⟨rfl, rfl, rfl, rfl⟩ := h' <;> simp
              · simp at h' ⊢; obtain ⟨rfl, rfl, rfl, rfl⟩ := h'; simp
            · simp at h' ⊢; obtain ⟨rfl, rfl, rfl, rfl⟩ := h'; simp
          obtain ⟨er, rfl⟩ := e
          exact step_4f _ _ _ _ _ _ _ w hv r1 r2 r3 er
        · cases a4_3
          · by_cases hsh : a3_1 = a0
            · simp [hsh] at h'
              obtain ⟨rfl, rfl, rfl, rfl⟩ := h'
              exact step_fs4 _ _ _ _ _ _ w hv (by simpa using hsh)
            · simp [hsh] at h'
              obtain ⟨rfl, rfl, rfl, rfl⟩ := h'
              exact step_fw4 _ _ _ _ _ _ w hv (by simpa using hsh) (by omega) (by omega)
          · simp at h'
            obtain ⟨rfl, rfl, rfl, rfl⟩ := h'
            exact step_fb4 _ _ _ _ _ _ w hv
      · have hw := rest_st 5 0 a3_2 a2 a4_0 false a4_2 a4_3 hn0 (by omega) (by omega)
        have e : recloser_rest.f 5 0 a3_2 a2 a4_0 false a4_2 a4_3 = some (r1, r2, r3) ∧ r4 = false := by
          rw [hw]
          simp at h'
          cases a4_2
          · cases a4_3
            · by_cases hr : a3_2 = a2 - 1 <;> simp [hr] at h' ⊢ <;> obtain ⟨rfl, rfl, rfl, rfl⟩ := h' <;> simp
            · simp at h' ⊢; obtain ⟨rfl, rfl, rfl, rfl⟩ := h'; simp
          · simp at h' ⊢; obtain ⟨rfl, rfl, rfl, rfl⟩ := h'; simp
        obtain ⟨er, rfl⟩ := e
        cases a4_0
        · exact step_5f _ _ _ _ _ _ _ w hv r1 r2 r3 er
        · exact step_5t _ _ _ _ _ _ _ w hv r1 r2 r3 er
    · have e : stR a0 a1 a2 a3_0 a3_1 a3_2 a4_0 true a4_2 a4_3 = (5, 0, 0, false) := by
        unfold stR; rw [if_neg (by rw [hv]; decide), if_pos rfl]
      rw [e] at h'
      simp at h'
      obtain ⟨rfl, rfl, rfl, rfl⟩ := h'
      exact step_slow _ _ _ _ _ _ _ _ _ w hv
  · have hf : vaR a0 a1 a2 a3_0 a3_1 a3_2 = false := by simpa using hv
    have e : stR a0 a1 a2 a3_0 a3_1 a3_2 a4_0 a4_1 a4_2 a4_3 = (0, 0, 0, false) := by
      unfold stR; rw [if_pos hf]
    rw [e] at h'
    simp at h'
    obtain ⟨rfl, rfl, rfl, rfl⟩ := h'
    exact step_no _ _ _ _ _ _ _ _ _ _ w hf

end Go.Proofs.Ytmppijipaocfiaa.PAll
