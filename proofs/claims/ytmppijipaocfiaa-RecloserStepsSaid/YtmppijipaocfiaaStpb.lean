/- Walks of the recloser's functions: what each computes is its '.f'. Conditions: none. -/
import Derived.Test.YtmppijipaocfiaaStpa
import Derived.WalkMore
import Derived.ScopeJumps
namespace Go.Proofs.Ytmppijipaocfiaa.PAll
open Go.RowKit Go.Proofs.YtmppijipaocfiaaW.PrintWords Go.Proofs.YtmppijipaocfiaaW.PrintLast Go.Proofs.YtmppijipaocfiaaW.PrintMore
attribute [local go_sem] max2_int min2_int max_two min_two max_three min_three max_four min_four   -- for this text's walks alone
set_option linter.unusedVariables false
set_option linter.unusedSimpArgs false
theorem bcell {W w1 : World} (hb : Below W.heap.size W w1) : (∀ b o, b < W.heap.size → w1.cell? ⟨b, o, none⟩ = W.cell? ⟨b, o, none⟩) ∧ (∀ b o, b < W.heap.size → w1.frozen? ⟨b, o, none⟩ = W.frozen? ⟨b, o, none⟩) :=
  ⟨fun b o h => hb.cell (p := ⟨b, o, none⟩) h, fun b o h => hb.frozen (p := ⟨b, o, none⟩) h⟩
set_option maxHeartbeats 4000000 in
set_option maxRecDepth 100000 in
theorem step_no (sh de rc ph s n : Int) (fa sl op bl : Bool) (w : World) (hv : vaR sh de rc ph s n = false)  :
    Calls Try.prog 11 #[.int .i64 sh, .int .i64 de, .int .i64 rc, .agg #[.int .i64 ph, .int .i64 s, .int .i64 n], .agg #[.bool fa, .bool sl, .bool op, .bool bl]] w fun e w' => e = .returned (.tuple #[.agg #[.int .i64 (0), .int .i64 (0), .int .i64 (0)], .bool false]) ∧ Below w.heap.size w w' := by
  have hu25 := Try.underlying25
  have hu29 := Try.underlying29
  have hva := va_eq 0 sh de rc ph s n
  rw [hv] at hva
  clear hv
  have HV := Aside0.mk hva
  clear hva
  go_enter Try.func11, Try.ntmps11
  go_wp2_with fail
  go_step3
  go_wp2_with fail
  refine (recloser_Valid.calls 2 _ _ _ _ _ _ false _ HV.out).mono ?_
  rintro e w1 ⟨rfl, hb⟩
  obtain ⟨hc, hf⟩ := bcell hb
  have hz := hb.size
  simp at hz
  have B1 : Below w.heap.size w w1 := ((((Below.refl _ _).alloc (Nat.le_refl _) _).alloc (by simp) _).alloc (by simp; omega) _).trans (hb.mono (by simp; omega))
  go_wp2_with fail
  rw [Exit.noGoto_ret]
  refine bodyPost_ret (v := .tuple #[.agg #[.int .i64 (0), .int .i64 (0), .int .i64 (0)], .bool false]) (by simp [results, Try.results11, go_sem, hc]) rfl ⟨rfl, ?_⟩
  exact (((B1.setCell (by show _ ≤ w.heap.size + 1 + 1; omega) _).setCell (by show _ ≤ w.heap.size + 1 + 1; omega) _).setCell (by show _ ≤ w.heap.size + 1 + 1; omega) _)
set_option maxHeartbeats 4000000 in
set_option maxRecDepth 100000 in
theorem step_slow (sh de rc ph s n : Int) (fa op bl : Bool) (w : World) (hv : vaR sh de rc ph s n = true)  :
    Calls Try.prog 11 #[.int .i64 sh, .int .i64 de, .int .i64 rc, .agg #[.int .i64 ph, .int .i64 s, .int .i64 n], .agg #[.bool fa, .bool true, .bool op, .bool bl]] w fun e w' => e = .returned (.tuple #[.agg #[.int .i64 (5), .int .i64 (0), .int .i64 (0)], .bool false]) ∧ Below w.heap.size w w' := by
  have hu25 := Try.underlying25
  have hu29 := Try.underlying29
  have hva := va_eq 0 sh de rc ph s n
  rw [hv] at hva
  clear hv
  have HV := Aside0.mk hva
  clear hva
  go_enter Try.func11, Try.ntmps11
  go_wp2_with fail
  refine wp_scope_jumps 0 (fun a' w' => (∃ u12 u13 u14 u15 u16 u17 u18 u19 u20 u21 u22 u23 u24 u25 u26 u27 u28 u29 u30 u31 u32 u33 u34 u35 u36 u37 u38 u39 u40 u41 u42 u43 u44 u45 u46 u47 u48 u49 u50 u51 u52 u53 u54 u55 u56 u57 u58 u59 u60 u61 u62 u63 u64 u65 u66 u67 u68 u69 u70 u71 u72 u73 u74 u75 u76 u77 u78 u79 u80 u81 u82 u83 : Value, a' = { tmps := #[.int .i64 sh, .int .i64 de, .int .i64 rc, .agg #[.int .i64 ph, .int .i64 s, .int .i64 n], .agg #[.bool fa, .bool true, .bool op, .bool bl], undef, undef, undef, .pointer (some ⟨w.heap.size, 0, none⟩), .pointer (some ⟨w.heap.size + 1, 0, none⟩), .pointer (some ⟨w.heap.size + 1 + 1, 0, none⟩), .bool false, u12, u13, u14, u15, u16, u17, u18, u19, u20, u21, u22, u23, u24, u25, u26, u27, u28, u29, u30, u31, u32, u33, u34, u35, u36, u37, u38, u39, u40, u41, u42, u43, u44, u45, u46, u47, u48, u49, u50, u51, u52, u53, u54, u55, u56, u57, u58, u59, u60, u61, u62, u63, u64, u65, u66, u67, u68, u69, u70, u71, u72, u73, u74, u75, u76, u77, u78, u79, u80, u81, u82, u83], defers := [] }) ∧ Below (((w.alloc (.cells #[.int .i64 ph, .int .i64 s, .int .i64 n] 25)).alloc (.cells #[.bool fa, .bool true, .bool op, .bool bl] 29)).alloc (.cells #[.int .i64 0, .int .i64 0, .int .i64 0] 25)).heap.size (((w.alloc (.cells #[.int .i64 ph, .int .i64 s, .int .i64 n] 25)).alloc (.cells #[.bool fa, .bool true, .bool op, .bool bl] 29)).alloc (.cells #[.int .i64 0, .int .i64 0, .int .i64 0] 25)) w') (fun _ _ => 0) rfl ?first ?pass
  case first =>
    go_wp2_with fail
    refine (recloser_Valid.calls 2 _ _ _ _ _ _ true _ HV.out).mono ?_
    rintro e w1 ⟨rfl, hb⟩
    obtain ⟨hc, hf⟩ := bcell hb
    have hz := hb.size
    simp at hz
    have B1 : Below w.heap.size w w1 := ((((Below.refl _ _).alloc (Nat.le_refl _) _).alloc (by simp) _).alloc (by simp; omega) _).trans (hb.mono (by simp; omega))
    go_wp2_with fail
    go_step3
    exact ⟨rfl, ⟨_, _, _, _, _, _, _, _, _, _, _, _, _, _, _, _, _, _, _, _, _, _, _, _, _, _, _, _, _, _, _, _, _, _, _, _, _, _, _, _, _, _, _, _, _, _, _, _, _, _, _, _, _, _, _, _, _, _, _, _, _, _, _, _, _, _, _, _, _, _, _, _, rfl⟩, hb⟩
  case pass =>
    rintro a' w1 ⟨⟨u12, u13, u14, u15, u16, u17, u18, u19, u20, u21, u22, u23, u24, u25, u26, u27, u28, u29, u30, u31, u32, u33, u34, u35, u36, u37, u38, u39, u40, u41, u42, u43, u44, u45, u46, u47, u48, u49, u50, u51, u52, u53, u54, u55, u56, u57, u58, u59, u60, u61, u62, u63, u64, u65, u66, u67, u68, u69, u70, u71, u72, u73, u74, u75, u76, u77, u78, u79, u80, u81, u82, u83, rfl⟩, hb⟩
    obtain ⟨hc, hf⟩ := bcell hb
    have hz := hb.size
    simp at hz
    have B1 : Below w.heap.size w w1 := ((((Below.refl _ _).alloc (Nat.le_refl _) _).alloc (by simp) _).alloc (by simp; omega) _).trans (hb.mono (by simp; omega))
    go_wp2_with fail
    refine (recloser_locked.calls 5 0 0 _ rfl).mono ?_
    rintro e w2 ⟨rfl, hb2⟩
    obtain ⟨hc2, hf2⟩ := bcell hb2
    have hz2 := hb2.size
    have B2 : Below w.heap.size w w2 := B1.trans (hb2.mono B1.size)
    have y0 : w2.cell? ⟨w.heap.size + 1 + 1, 0, none⟩ = some (.int .i64 0) := (hc2 _ _ (by omega)).trans ((hc _ _ (by simp)).trans (by go_simp))
    have y1 : w2.cell? ⟨w.heap.size + 1 + 1, 1, none⟩ = some (.int .i64 0) := (hc2 _ _ (by omega)).trans ((hc _ _ (by simp)).trans (by go_simp))
    have y2 : w2.cell? ⟨w.heap.size + 1 + 1, 2, none⟩ = some (.int .i64 0) := (hc2 _ _ (by omega)).trans ((hc _ _ (by simp)).trans (by go_simp))
    have z0 : ∀ o, w2.frozen? ⟨w.heap.size + 1 + 1, o, none⟩ = false := fun o => (hf2 _ _ (by omega)).trans ((hf _ _ (by simp)).trans (by go_simp))
    clear hc2 hf2 hc hf
    go_wp2_with fail
    simp only [Exit.jump]
    refine bodyPost_ret (v := .tuple #[.agg #[.int .i64 (5), .int .i64 (0), .int .i64 (0)], .bool false]) (by simp [results, Try.results11, go_sem, y0, y1, y2]) rfl ⟨rfl, ?_⟩
    exact (((B2.setCell (by show _ ≤ w.heap.size + 1 + 1; omega) _).setCell (by show _ ≤ w.heap.size + 1 + 1; omega) _).setCell (by show _ ≤ w.heap.size + 1 + 1; omega) _)
set_option maxHeartbeats 4000000 in
set_option maxRecDepth 100000 in
theorem step_fb0 (sh de rc s n : Int) (op : Bool) (w : World) (hv : vaR sh de rc 0 s n = true)  :
    Calls Try.prog 11 #[.int .i64 sh, .int .i64 de, .int .i64 rc, .agg #[.int .i64 0, .int .i64 s, .int .i64 n], .agg #[.bool true, .bool false, .bool op, .bool true]] w fun e w' => e = .returned (.tuple #[.agg #[.int .i64 (5), .int .i64 (0), .int .i64 (0)], .bool false]) ∧ Below w.heap.size w w' := by
  have hu25 := Try.underlying25
  have hu29 := Try.underlying29
  have hva := va_eq 0 sh de rc 0 s n
  rw [hv] at hva
  clear hv
  have HV := Aside0.mk hva
  clear hva
  go_enter Try.func11, Try.ntmps11
  go_wp2_with fail
  refine wp_scope_jumps 0 (fun a' w' => (∃ u12 u13 u14 u15 u16 u17 u18 u19 u20 u21 u22 u23 u24 u25 u26 u27 u28 u29 u30 u31 u32 u33 u34 u35 u36 u37 u38 u39 u40 u41 u42 u43 u44 u45 u46 u47 u48 u49 u50 u51 u52 u53 u54 u55 u56 u57 u58 u59 u60 u61 u62 u63 u64 u65 u66 u67 u68 u69 u70 u71 u72 u73 u74 u75 u76 u77 u78 u79 u80 u81 u82 u83 : Value, a' = { tmps := #[.int .i64 sh, .int .i64 de, .int .i64 rc, .agg #[.int .i64 0, .int .i64 s, .int .i64 n], .agg #[.bool true, .bool false, .bool op, .bool true], undef, undef, undef, .pointer (some ⟨w.heap.size, 0, none⟩), .pointer (some ⟨w.heap.size + 1, 0, none⟩), .pointer (some ⟨w.heap.size + 1 + 1, 0, none⟩), .bool false, u12, u13, u14, u15, u16, u17, u18, u19, u20, u21, u22, u23, u24, u25, u26, u27, u28, u29, u30, u31, u32, u33, u34, u35, u36, u37, u38, u39, u40, u41, u42, u43, u44, u45, u46, u47, u48, u49, u50, u51, u52, u53, u54, u55, u56, u57, u58, u59, u60, u61, u62, u63, u64, u65, u66, u67, u68, u69, u70, u71, u72, u73, u74, u75, u76, u77, u78, u79, u80, u81, u82, u83], defers := [] }) ∧ Below (((w.alloc (.cells #[.int .i64 0, .int .i64 s, .int .i64 n] 25)).alloc (.cells #[.bool true, .bool false, .bool op, .bool true] 29)).alloc (.cells #[.int .i64 0, .int .i64 0, .int .i64 0] 25)).heap.size (((w.alloc (.cells #[.int .i64 0, .int .i64 s, .int .i64 n] 25)).alloc (.cells #[.bool true, .bool false, .bool op, .bool true] 29)).alloc (.cells #[.int .i64 0, .int .i64 0, .int .i64 0] 25)) w') (fun _ _ => 0) rfl ?first ?pass
  case first =>
    go_wp2_with fail
    refine (recloser_Valid.calls 2 _ _ _ _ _ _ true _ HV.out).mono ?_
    rintro e w1 ⟨rfl, hb⟩
    obtain ⟨hc, hf⟩ := bcell hb
    have hz := hb.size
    simp at hz
    have B1 : Below w.heap.size w w1 := ((((Below.refl _ _).alloc (Nat.le_refl _) _).alloc (by simp) _).alloc (by simp; omega) _).trans (hb.mono (by simp; omega))
    go_wp2_with fail
    go_step3
    exact ⟨rfl, ⟨_, _, _, _, _, _, _, _, _, _, _, _, _, _, _, _, _, _, _, _, _, _, _, _, _, _, _, _, _, _, _, _, _, _, _, _, _, _, _, _, _, _, _, _, _, _, _, _, _, _, _, _, _, _, _, _, _, _, _, _, _, _, _, _, _, _, _, _, _, _, _, _, rfl⟩, hb⟩
  case pass =>
    rintro a' w1 ⟨⟨u12, u13, u14, u15, u16, u17, u18, u19, u20, u21, u22, u23, u24, u25, u26, u27, u28, u29, u30, u31, u32, u33, u34, u35, u36, u37, u38, u39, u40, u41, u42, u43, u44, u45, u46, u47, u48, u49, u50, u51, u52, u53, u54, u55, u56, u57, u58, u59, u60, u61, u62, u63, u64, u65, u66, u67, u68, u69, u70, u71, u72, u73, u74, u75, u76, u77, u78, u79, u80, u81, u82, u83, rfl⟩, hb⟩
    obtain ⟨hc, hf⟩ := bcell hb
    have hz := hb.size
    simp at hz
    have B1 : Below w.heap.size w w1 := ((((Below.refl _ _).alloc (Nat.le_refl _) _).alloc (by simp) _).alloc (by simp; omega) _).trans (hb.mono (by simp; omega))
    go_wp2_with fail
    refine (recloser_locked.calls 5 0 0 _ rfl).mono ?_
    rintro e w2 ⟨rfl, hb2⟩
    obtain ⟨hc2, hf2⟩ := bcell hb2
    have hz2 := hb2.size
    have B2 : Below w.heap.size w w2 := B1.trans (hb2.mono B1.size)
    have y0 : w2.cell? ⟨w.heap.size + 1 + 1, 0, none⟩ = some (.int .i64 0) := (hc2 _ _ (by omega)).trans ((hc _ _ (by simp)).trans (by go_simp))
    have y1 : w2.cell? ⟨w.heap.size + 1 + 1, 1, none⟩ = some (.int .i64 0) := (hc2 _ _ (by omega)).trans ((hc _ _ (by simp)).trans (by go_simp))
    have y2 : w2.cell? ⟨w.heap.size + 1 + 1, 2, none⟩ = some (.int .i64 0) := (hc2 _ _ (by omega)).trans ((hc _ _ (by simp)).trans (by go_simp))
    have z0 : ∀ o, w2.frozen? ⟨w.heap.size + 1 + 1, o, none⟩ = false := fun o => (hf2 _ _ (by omega)).trans ((hf _ _ (by simp)).trans (by go_simp))
    clear hc2 hf2 hc hf
    go_wp2_with fail
    simp only [Exit.jump]
    refine bodyPost_ret (v := .tuple #[.agg #[.int .i64 (5), .int .i64 (0), .int .i64 (0)], .bool false]) (by simp [results, Try.results11, go_sem, y0, y1, y2]) rfl ⟨rfl, ?_⟩
    exact (((B2.setCell (by show _ ≤ w.heap.size + 1 + 1; omega) _).setCell (by show _ ≤ w.heap.size + 1 + 1; omega) _).setCell (by show _ ≤ w.heap.size + 1 + 1; omega) _)
set_option maxHeartbeats 4000000 in
set_option maxRecDepth 100000 in
theorem step_fs0 (sh de rc s n : Int) (op : Bool) (w : World) (hv : vaR sh de rc 0 s n = true) (hs : (s == sh) = true) :
    Calls Try.prog 11 #[.int .i64 sh, .int .i64 de, .int .i64 rc, .agg #[.int .i64 0, .int .i64 s, .int .i64 n], .agg #[.bool true, .bool false, .bool op, .bool false]] w fun e w' => e = .returned (.tuple #[.agg #[.int .i64 (5), .int .i64 (0), .int .i64 (0)], .bool false]) ∧ Below w.heap.size w w' := by
  have hu25 := Try.underlying25
  have hu29 := Try.underlying29
  have hva := va_eq 0 sh de rc 0 s n
  rw [hv] at hva
  clear hv
  have HV := Aside0.mk hva
  clear hva
  go_enter Try.func11, Try.ntmps11
  go_wp2_with fail
  refine wp_scope_jumps 0 (fun a' w' => (∃ u12 u13 u14 u15 u16 u17 u18 u19 u20 u21 u22 u23 u24 u25 u26 u27 u28 u29 u30 u31 u32 u33 u34 u35 u36 u37 u38 u39 u40 u41 u42 u43 u44 u45 u46 u47 u48 u49 u50 u51 u52 u53 u54 u55 u56 u57 u58 u59 u60 u61 u62 u63 u64 u65 u66 u67 u68 u69 u70 u71 u72 u73 u74 u75 u76 u77 u78 u79 u80 u81 u82 u83 : Value, a' = { tmps := #[.int .i64 sh, .int .i64 de, .int .i64 rc, .agg #[.int .i64 0, .int .i64 s, .int .i64 n], .agg #[.bool true, .bool false, .bool op, .bool false], undef, undef, undef, .pointer (some ⟨w.heap.size, 0, none⟩), .pointer (some ⟨w.heap.size + 1, 0, none⟩), .pointer (some ⟨w.heap.size + 1 + 1, 0, none⟩), .bool false, u12, u13, u14, u15, u16, u17, u18, u19, u20, u21, u22, u23, u24, u25, u26, u27, u28, u29, u30, u31, u32, u33, u34, u35, u36, u37, u38, u39, u40, u41, u42, u43, u44, u45, u46, u47, u48, u49, u50, u51, u52, u53, u54, u55, u56, u57, u58, u59, u60, u61, u62, u63, u64, u65, u66, u67, u68, u69, u70, u71, u72, u73, u74, u75, u76, u77, u78, u79, u80, u81, u82, u83], defers := [] }) ∧ Below (((w.alloc (.cells #[.int .i64 0, .int .i64 s, .int .i64 n] 25)).alloc (.cells #[.bool true, .bool false, .bool op, .bool false] 29)).alloc (.cells #[.int .i64 0, .int .i64 0, .int .i64 0] 25)).heap.size (((w.alloc (.cells #[.int .i64 0, .int .i64 s, .int .i64 n] 25)).alloc (.cells #[.bool true, .bool false, .bool op, .bool false] 29)).alloc (.cells #[.int .i64 0, .int .i64 0, .int .i64 0] 25)) w') (fun _ _ => 0) rfl ?first ?pass
  case first =>
    go_wp2_with fail
    refine (recloser_Valid.calls 2 _ _ _ _ _ _ true _ HV.out).mono ?_
    rintro e w1 ⟨rfl, hb⟩
    obtain ⟨hc, hf⟩ := bcell hb
    have hz := hb.size
    simp at hz
    have B1 : Below w.heap.size w w1 := ((((Below.refl _ _).alloc (Nat.le_refl _) _).alloc (by simp) _).alloc (by simp; omega) _).trans (hb.mono (by simp; omega))
    go_wp2_with fail
    go_step3
    exact ⟨rfl, ⟨_, _, _, _, _, _, _, _, _, _, _, _, _, _, _, _, _, _, _, _, _, _, _, _, _, _, _, _, _, _, _, _, _, _, _, _, _, _, _, _, _, _, _, _, _, _, _, _, _, _, _, _, _, _, _, _, _, _, _, _, _, _, _, _, _, _, _, _, _, _, _, _, rfl⟩, hb⟩
  case pass =>
    rintro a' w1 ⟨⟨u12, u13, u14, u15, u16, u17, u18, u19, u20, u21, u22, u23, u24, u25, u26, u27, u28, u29, u30, u31, u32, u33, u34, u35, u36, u37, u38, u39, u40, u41, u42, u43, u44, u45, u46, u47, u48, u49, u50, u51, u52, u53, u54, u55, u56, u57, u58, u59, u60, u61, u62, u63, u64, u65, u66, u67, u68, u69, u70, u71, u72, u73, u74, u75, u76, u77, u78, u79, u80, u81, u82, u83, rfl⟩, hb⟩
    obtain ⟨hc, hf⟩ := bcell hb
    have hz := hb.size
    simp at hz
    have B1 : Below w.heap.size w w1 := ((((Below.refl _ _).alloc (Nat.le_refl _) _).alloc (by simp) _).alloc (by simp; omega) _).trans (hb.mono (by simp; omega))
    go_wp2_with fail
    refine (recloser_locked.calls 5 0 0 _ rfl).mono ?_
    rintro e w2 ⟨rfl, hb2⟩
    obtain ⟨hc2, hf2⟩ := bcell hb2
    have hz2 := hb2.size
    have B2 : Below w.heap.size w w2 := B1.trans (hb2.mono B1.size)
    have y0 : w2.cell? ⟨w.heap.size + 1 + 1, 0, none⟩ = some (.int .i64 0) := (hc2 _ _ (by omega)).trans ((hc _ _ (by simp)).trans (by go_simp))
    have y1 : w2.cell? ⟨w.heap.size + 1 + 1, 1, none⟩ = some (.int .i64 0) := (hc2 _ _ (by omega)).trans ((hc _ _ (by simp)).trans (by go_simp))
    have y2 : w2.cell? ⟨w.heap.size + 1 + 1, 2, none⟩ = some (.int .i64 0) := (hc2 _ _ (by omega)).trans ((hc _ _ (by simp)).trans (by go_simp))
    have z0 : ∀ o, w2.frozen? ⟨w.heap.size + 1 + 1, o, none⟩ = false := fun o => (hf2 _ _ (by omega)).trans ((hf _ _ (by simp)).trans (by go_simp))
    clear hc2 hf2 hc hf
    go_wp2_with fail
    simp only [Exit.jump]
    refine bodyPost_ret (v := .tuple #[.agg #[.int .i64 (5), .int .i64 (0), .int .i64 (0)], .bool false]) (by simp [results, Try.results11, go_sem, y0, y1, y2]) rfl ⟨rfl, ?_⟩
    exact (((B2.setCell (by show _ ≤ w.heap.size + 1 + 1; omega) _).setCell (by show _ ≤ w.heap.size + 1 + 1; omega) _).setCell (by show _ ≤ w.heap.size + 1 + 1; omega) _)
set_option maxHeartbeats 4000000 in
set_option maxRecDepth 100000 in
theorem step_fw0 (sh de rc s n : Int) (op : Bool) (w : World) (hv : vaR sh de rc 0 s n = true) (hs : (s == sh) = false) (hs0 : 0 ≤ s) (hs1 : s ≤ 3) :
    Calls Try.prog 11 #[.int .i64 sh, .int .i64 de, .int .i64 rc, .agg #[.int .i64 0, .int .i64 s, .int .i64 n], .agg #[.bool true, .bool false, .bool op, .bool false]] w fun e w' => e = .returned (.tuple #[.agg #[.int .i64 (1), .int .i64 (s + 1), .int .i64 (0)], .bool false]) ∧ Below w.heap.size w w' := by
  have hu25 := Try.underlying25
  have hu29 := Try.underlying29
  have hva := va_eq 0 sh de rc 0 s n
  rw [hv] at hva
  clear hv
  have HV := Aside0.mk hva
  clear hva
  go_enter Try.func11, Try.ntmps11
  go_wp2_with fail
  go_step3
  go_wp2_with fail
  refine (recloser_Valid.calls 2 _ _ _ _ _ _ true _ HV.out).mono ?_
  rintro e w1 ⟨rfl, hb⟩
  obtain ⟨hc, hf⟩ := bcell hb
  have hz := hb.size
  simp at hz
  have B1 : Below w.heap.size w w1 := ((((Below.refl _ _).alloc (Nat.le_refl _) _).alloc (by simp) _).alloc (by simp; omega) _).trans (hb.mono (by simp; omega))
  go_wp2_with fail
  rw [Exit.noGoto_ret]
  refine bodyPost_ret (v := .tuple #[.agg #[.int .i64 (1), .int .i64 (s + 1), .int .i64 (0)], .bool false]) (by simp [results, Try.results11, go_sem, hc]) rfl ⟨rfl, ?_⟩
  exact (((B1.setCell (by show _ ≤ w.heap.size + 1 + 1; omega) _).setCell (by show _ ≤ w.heap.size + 1 + 1; omega) _).setCell (by show _ ≤ w.heap.size + 1 + 1; omega) _)
set_option maxHeartbeats 4000000 in
set_option maxRecDepth 100000 in
theorem step_fb4 (sh de rc s n : Int) (op : Bool) (w : World) (hv : vaR sh de rc 4 s n = true)  :
    Calls Try.prog 11 #[.int .i64 sh, .int .i64 de, .int .i64 rc, .agg #[.int .i64 4, .int .i64 s, .int .i64 n], .agg #[.bool true, .bool false, .bool op, .bool true]] w fun e w' => e = .returned (.tuple #[.agg #[.int .i64 (5), .int .i64 (0), .int .i64 (0)], .bool false]) ∧ Below w.heap.size w w' := by
  have hu25 := Try.underlying25
  have hu29 := Try.underlying29
  have hva := va_eq 0 sh de rc 4 s n
  rw [hv] at hva
  clear hv
  have HV := Aside0.mk hva
  clear hva
  go_enter Try.func11, Try.ntmps11
  go_wp2_with fail
  refine wp_scope_jumps 0 (fun a' w' => (∃ u12 u13 u14 u15 u16 u17 u18 u19 u20 u21 u22 u23 u24 u25 u26 u27 u28 u29 u30 u31 u32 u33 u34 u35 u36 u37 u38 u39 u40 u41 u42 u43 u44 u45 u46 u47 u48 u49 u50 u51 u52 u53 u54 u55 u56 u57 u58 u59 u60 u61 u62 u63 u64 u65 u66 u67 u68 u69 u70 u71 u72 u73 u74 u75 u76 u77 u78 u79 u80 u81 u82 u83 : Value, a' = { tmps := #[.int .i64 sh, .int .i64 de, .int .i64 rc, .agg #[.int .i64 4, .int .i64 s, .int .i64 n], .agg #[.bool true, .bool false, .bool op, .bool true], undef, undef, undef, .pointer (some ⟨w.heap.size, 0, none⟩), .pointer (some ⟨w.heap.size + 1, 0, none⟩), .pointer (some ⟨w.heap.size + 1 + 1, 0, none⟩), .bool false, u12, u13, u14, u15, u16, u17, u18, u19, u20, u21, u22, u23, u24, u25, u26, u27, u28, u29, u30, u31, u32, u33, u34, u35, u36, u37, u38, u39, u40, u41, u42, u43, u44, u45, u46, u47, u48, u49, u50, u51, u52, u53, u54, u55, u56, u57, u58, u59, u60, u61, u62, u63, u64, u65, u66, u67, u68, u69, u70, u71, u72, u73, u74, u75, u76, u77, u78, u79, u80, u81, u82, u83], defers := [] }) ∧ Below (((w.alloc (.cells #[.int .i64 4, .int .i64 s, .int .i64 n] 25)).alloc (.cells #[.bool true, .bool false, .bool op, .bool true] 29)).alloc (.cells #[.int .i64 0, .int .i64 0, .int .i64 0] 25)).heap.size (((w.alloc (.cells #[.int .i64 4, .int .i64 s, .int .i64 n] 25)).alloc (.cells #[.bool true, .bool false, .bool op, .bool true] 29)).alloc (.cells #[.int .i64 0, .int .i64 0, .int .i64 0] 25)) w') (fun _ _ => 0) rfl ?first ?pass
  case first =>
    go_wp2_with fail
    refine (recloser_Valid.calls 2 _ _ _ _ _ _ true _ HV.out).mono ?_
    rintro e w1 ⟨rfl, hb⟩
    obtain ⟨hc, hf⟩ := bcell hb
    have hz := hb.size
    simp at hz
    have B1 : Below w.heap.size w w1 := ((((Below.refl _ _).alloc (Nat.le_refl _) _).alloc (by simp) _).alloc (by simp; omega) _).trans (hb.mono (by simp; omega))
    go_wp2_with fail
    go_step3
    exact ⟨rfl, ⟨_, _, _, _, _, _, _, _, _, _, _, _, _, _, _, _, _, _, _, _, _, _, _, _, _, _, _, _, _, _, _, _, _, _, _, _, _, _, _, _, _, _, _, _, _, _, _, _, _, _, _, _, _, _, _, _, _, _, _, _, _, _, _, _, _, _, _, _, _, _, _, _, rfl⟩, hb⟩
  case pass =>
    rintro a' w1 ⟨⟨u12, u13, u14, u15, u16, u17, u18, u19, u20, u21, u22, u23, u24, u25, u26, u27, u28, u29, u30, u31, u32, u33, u34, u35, u36, u37, u38, u39, u40, u41, u42, u43, u44, u45, u46, u47, u48, u49, u50, u51, u52, u53, u54, u55, u56, u57, u58, u59, u60, u61, u62, u63, u64, u65, u66, u67, u68, u69, u70, u71, u72, u73, u74, u75, u76, u77, u78, u79, u80, u81, u82, u83, rfl⟩, hb⟩
    obtain ⟨hc, hf⟩ := bcell hb
    have hz := hb.size
    simp at hz
    have B1 : Below w.heap.size w w1 := ((((Below.refl _ _).alloc (Nat.le_refl _) _).alloc (by simp) _).alloc (by simp; omega) _).trans (hb.mono (by simp; omega))
    go_wp2_with fail
    refine (recloser_locked.calls 5 0 0 _ rfl).mono ?_
    rintro e w2 ⟨rfl, hb2⟩
    obtain ⟨hc2, hf2⟩ := bcell hb2
    have hz2 := hb2.size
    have B2 : Below w.heap.size w w2 := B1.trans (hb2.mono B1.size)
    have y0 : w2.cell? ⟨w.heap.size + 1 + 1, 0, none⟩ = some (.int .i64 0) := (hc2 _ _ (by omega)).trans ((hc _ _ (by simp)).trans (by go_simp))
    have y1 : w2.cell? ⟨w.heap.size + 1 + 1, 1, none⟩ = some (.int .i64 0) := (hc2 _ _ (by omega)).trans ((hc _ _ (by simp)).trans (by go_simp))
    have y2 : w2.cell? ⟨w.heap.size + 1 + 1, 2, none⟩ = some (.int .i64 0) := (hc2 _ _ (by omega)).trans ((hc _ _ (by simp)).trans (by go_simp))
    have z0 : ∀ o, w2.frozen? ⟨w.heap.size + 1 + 1, o, none⟩ = false := fun o => (hf2 _ _ (by omega)).trans ((hf _ _ (by simp)).trans (by go_simp))
    clear hc2 hf2 hc hf
    go_wp2_with fail
    simp only [Exit.jump]
    refine bodyPost_ret (v := .tuple #[.agg #[.int .i64 (5), .int .i64 (0), .int .i64 (0)], .bool false]) (by simp [results, Try.results11, go_sem, y0, y1, y2]) rfl ⟨rfl, ?_⟩
    exact (((B2.setCell (by show _ ≤ w.heap.size + 1 + 1; omega) _).setCell (by show _ ≤ w.heap.size + 1 + 1; omega) _).setCell (by show _ ≤ w.heap.size + 1 + 1; omega) _)
set_option maxHeartbeats 4000000 in
set_option maxRecDepth 100000 in
theorem step_fs4 (sh de rc s n : Int) (op : Bool) (w : World) (hv : vaR sh de rc 4 s n = true) (hs : (s == sh) = true) :
    Calls Try.prog 11 #[.int .i64 sh, .int .i64 de, .int .i64 rc, .agg #[.int .i64 4, .int .i64 s, .int .i64 n], .agg #[.bool true, .bool false, .bool op, .bool false]] w fun e w' => e = .returned (.tuple #[.agg #[.int .i64 (5), .int .i64 (0), .int .i64 (0)], .bool false]) ∧ Below w.heap.size w w' := by
  have hu25 := Try.underlying25
  have hu29 := Try.underlying29
  have hva := va_eq 0 sh de rc 4 s n
  rw [hv] at hva
  clear hv
  have HV := Aside0.mk hva
  clear hva
  go_enter Try.func11, Try.ntmps11
  go_wp2_with fail
  refine wp_scope_jumps 0 (fun a' w' => (∃ u12 u13 u14 u15 u16 u17 u18 u19 u20 u21 u22 u23 u24 u25 u26 u27 u28 u29 u30 u31 u32 u33 u34 u35 u36 u37 u38 u39 u40 u41 u42 u43 u44 u45 u46 u47 u48 u49 u50 u51 u52 u53 u54 u55 u56 u57 u58 u59 u60 u61 u62 u63 u64 u65 u66 u67 u68 u69 u70 u71 u72 u73 u74 u75 u76 u77 u78 u79 u80 u81 u82 u83 : Value, a' = { tmps := #[.int .i64 sh, .int .i64 de, .int .i64 rc, .agg #[.int .i64 4, .int .i64 s, .int .i64 n], .agg #[.bool true, .bool false, .bool op, .bool false], undef, undef, undef, .pointer (some ⟨w.heap.size, 0, none⟩), .pointer (some ⟨w.heap.size + 1, 0, none⟩), .pointer (some ⟨w.heap.size + 1 + 1, 0, none⟩), .bool false, u12, u13, u14, u15, u16, u17, u18, u19, u20, u21, u22, u23, u24, u25, u26, u27, u28, u29, u30, u31, u32, u33, u34, u35, u36, u37, u38, u39, u40, u41, u42, u43, u44, u45, u46, u47, u48, u49, u50, u51, u52, u53, u54, u55, u56, u57, u58, u59, u60, u61, u62, u63, u64, u65, u66, u67, u68, u69, u70, u71, u72, u73, u74, u75, u76, u77, u78, u79, u80, u81, u82, u83], defers := [] }) ∧ Below (((w.alloc (.cells #[.int .i64 4, .int .i64 s, .int .i64 n] 25)).alloc (.cells #[.bool true, .bool false, .bool op, .bool false] 29)).alloc (.cells #[.int .i64 0, .int .i64 0, .int .i64 0] 25)).heap.size (((w.alloc (.cells #[.int .i64 4, .int .i64 s, .int .i64 n] 25)).alloc (.cells #[.bool true, .bool false, .bool op, .bool false] 29)).alloc (.cells #[.int .i64 0, .int .i64 0, .int .i64 0] 25)) w') (fun _ _ => 0) rfl ?first ?pass
  case first =>
    go_wp2_with fail
    refine (recloser_Valid.calls 2 _ _ _ _ _ _ true _ HV.out).mono ?_
    rintro e w1 ⟨rfl, hb⟩
    obtain ⟨hc, hf⟩ := bcell hb
    have hz := hb.size
    simp at hz
    have B1 : Below w.heap.size w w1 := ((((Below.refl _ _).alloc (Nat.le_refl _) _).alloc (by simp) _).alloc (by simp; omega) _).trans (hb.mono (by simp; omega))
    go_wp2_with fail
    go_step3
    exact ⟨rfl, ⟨_, _, _, _, _, _, _, _, _, _, _, _, _, _, _, _, _, _, _, _, _, _, _, _, _, _, _, _, _, _, _, _, _, _, _, _, _, _, _, _, _, _, _, _, _, _, _, _, _, _, _, _, _, _, _, _, _, _, _, _, _, _, _, _, _, _, _, _, _, _, _, _, rfl⟩, hb⟩
  case pass =>
    rintro a' w1 ⟨⟨u12, u13, u14, u15, u16, u17, u18, u19, u20, u21, u22, u23, u24, u25, u26, u27, u28, u29, u30, u31, u32, u33, u34, u35, u36, u37, u38, u39, u40, u41, u42, u43, u44, u45, u46, u47, u48, u49, u50, u51, u52, u53, u54, u55, u56, u57, u58, u59, u60, u61, u62, u63, u64, u65, u66, u67, u68, u69, u70, u71, u72, u73, u74, u75, u76, u77, u78, u79, u80, u81, u82, u83, rfl⟩, hb⟩
    obtain ⟨hc, hf⟩ := bcell hb
    have hz := hb.size
    simp at hz
    have B1 : Below w.heap.size w w1 := ((((Below.refl _ _).alloc (Nat.le_refl _) _).alloc (by simp) _).alloc (by simp; omega) _).trans (hb.mono (by simp; omega))
    go_wp2_with fail
    refine (recloser_locked.calls 5 0 0 _ rfl).mono ?_
    rintro e w2 ⟨rfl, hb2⟩
    obtain ⟨hc2, hf2⟩ := bcell hb2
    have hz2 := hb2.size
    have B2 : Below w.heap.size w w2 := B1.trans (hb2.mono B1.size)
    have y0 : w2.cell? ⟨w.heap.size + 1 + 1, 0, none⟩ = some (.int .i64 0) := (hc2 _ _ (by omega)).trans ((hc _ _ (by simp)).trans (by go_simp))
    have y1 : w2.cell? ⟨w.heap.size + 1 + 1, 1, none⟩ = some (.int .i64 0) := (hc2 _ _ (by omega)).trans ((hc _ _ (by simp)).trans (by go_simp))
    have y2 : w2.cell? ⟨w.heap.size + 1 + 1, 2, none⟩ = some (.int .i64 0) := (hc2 _ _ (by omega)).trans ((hc _ _ (by simp)).trans (by go_simp))
    have z0 : ∀ o, w2.frozen? ⟨w.heap.size + 1 + 1, o, none⟩ = false := fun o => (hf2 _ _ (by omega)).trans ((hf _ _ (by simp)).trans (by go_simp))
    clear hc2 hf2 hc hf
    go_wp2_with fail
    simp only [Exit.jump]
    refine bodyPost_ret (v := .tuple #[.agg #[.int .i64 (5), .int .i64 (0), .int .i64 (0)], .bool false]) (by simp [results, Try.results11, go_sem, y0, y1, y2]) rfl ⟨rfl, ?_⟩
    exact (((B2.setCell (by show _ ≤ w.heap.size + 1 + 1; omega) _).setCell (by show _ ≤ w.heap.size + 1 + 1; omega) _).setCell (by show _ ≤ w.heap.size + 1 + 1; omega) _)
set_option maxHeartbeats 4000000 in
set_option maxRecDepth 100000 in
theorem step_fw4 (sh de rc s n : Int) (op : Bool) (w : World) (hv : vaR sh de rc 4 s n = true) (hs : (s == sh) = false) (hs0 : 0 ≤ s) (hs1 : s ≤ 3) :
    Calls Try.prog 11 #[.int .i64 sh, .int .i64 de, .int .i64 rc, .agg #[.int .i64 4, .int .i64 s, .int .i64 n], .agg #[.bool true, .bool false, .bool op, .bool false]] w fun e w' => e = .returned (.tuple #[.agg #[.int .i64 (1), .int .i64 (s + 1), .int .i64 (0)], .bool false]) ∧ Below w.heap.size w w' := by
  have hu25 := Try.underlying25
  have hu29 := Try.underlying29
  have hva := va_eq 0 sh de rc 4 s n
  rw [hv] at hva
  clear hv
  have HV := Aside0.mk hva
  clear hva
  go_enter Try.func11, Try.ntmps11
  go_wp2_with fail
  go_step3
  go_wp2_with fail
  refine (recloser_Valid.calls 2 _ _ _ _ _ _ true _ HV.out).mono ?_
  rintro e w1 ⟨rfl, hb⟩
  obtain ⟨hc, hf⟩ := bcell hb
  have hz := hb.size
  simp at hz
  have B1 : Below w.heap.size w w1 := ((((Below.refl _ _).alloc (Nat.le_refl _) _).alloc (by simp) _).alloc (by simp; omega) _).trans (hb.mono (by simp; omega))
  go_wp2_with fail
  rw [Exit.noGoto_ret]
  refine bodyPost_ret (v := .tuple #[.agg #[.int .i64 (1), .int .i64 (s + 1), .int .i64 (0)], .bool false]) (by simp [results, Try.results11, go_sem, hc]) rfl ⟨rfl, ?_⟩
  exact (((B1.setCell (by show _ ≤ w.heap.size + 1 + 1; omega) _).setCell (by show _ ≤ w.heap.size + 1 + 1; omega) _).setCell (by show _ ≤ w.heap.size + 1 + 1; omega) _)
set_option maxHeartbeats 4000000 in
set_option maxRecDepth 100000 in
theorem step_0o (sh de rc s n : Int) (bl : Bool) (w : World) (hv : vaR sh de rc 0 s n = true)  :
    Calls Try.prog 11 #[.int .i64 sh, .int .i64 de, .int .i64 rc, .agg #[.int .i64 0, .int .i64 s, .int .i64 n], .agg #[.bool false, .bool false, .bool true, .bool bl]] w fun e w' => e = .returned (.tuple #[.agg #[.int .i64 (5), .int .i64 (0), .int .i64 (0)], .bool false]) ∧ Below w.heap.size w w' := by
  have hu25 := Try.underlying25
  have hu29 := Try.underlying29
  have hva := va_eq 0 sh de rc 0 s n
  rw [hv] at hva
  clear hv
  have HV := Aside0.mk hva
  clear hva
  go_enter Try.func11, Try.ntmps11
  go_wp2_with fail
  refine wp_scope_jumps 0 (fun a' w' => (∃ u12 u13 u14 u15 u16 u17 u18 u19 u20 u21 u22 u23 u24 u25 u26 u27 u28 u29 u30 u31 u32 u33 u34 u35 u36 u37 u38 u39 u40 u41 u42 u43 u44 u45 u46 u47 u48 u49 u50 u51 u52 u53 u54 u55 u56 u57 u58 u59 u60 u61 u62 u63 u64 u65 u66 u67 u68 u69 u70 u71 u72 u73 u74 u75 u76 u77 u78 u79 u80 u81 u82 u83 : Value, a' = { tmps := #[.int .i64 sh, .int .i64 de, .int .i64 rc, .agg #[.int .i64 0, .int .i64 s, .int .i64 n], .agg #[.bool false, .bool false, .bool true, .bool bl], undef, undef, undef, .pointer (some ⟨w.heap.size, 0, none⟩), .pointer (some ⟨w.heap.size + 1, 0, none⟩), .pointer (some ⟨w.heap.size + 1 + 1, 0, none⟩), .bool false, u12, u13, u14, u15, u16, u17, u18, u19, u20, u21, u22, u23, u24, u25, u26, u27, u28, u29, u30, u31, u32, u33, u34, u35, u36, u37, u38, u39, u40, u41, u42, u43, u44, u45, u46, u47, u48, u49, u50, u51, u52, u53, u54, u55, u56, u57, u58, u59, u60, u61, u62, u63, u64, u65, u66, u67, u68, u69, u70, u71, u72, u73, u74, u75, u76, u77, u78, u79, u80, u81, u82, u83], defers := [] }) ∧ Below (((w.alloc (.cells #[.int .i64 0, .int .i64 s, .int .i64 n] 25)).alloc (.cells #[.bool false, .bool false, .bool true, .bool bl] 29)).alloc (.cells #[.int .i64 0, .int .i64 0, .int .i64 0] 25)).heap.size (((w.alloc (.cells #[.int .i64 0, .int .i64 s, .int .i64 n] 25)).alloc (.cells #[.bool false, .bool false, .bool true, .bool bl] 29)).alloc (.cells #[.int .i64 0, .int .i64 0, .int .i64 0] 25)) w') (fun _ _ => 0) rfl ?first ?pass
  case first =>
    go_wp2_with fail
    refine (recloser_Valid.calls 2 _ _ _ _ _ _ true _ HV.out).mono ?_
    rintro e w1 ⟨rfl, hb⟩
    obtain ⟨hc, hf⟩ := bcell hb
    have hz := hb.size
    simp at hz
    have B1 : Below w.heap.size w w1 := ((((Below.refl _ _).alloc (Nat.le_refl _) _).alloc (by simp) _).alloc (by simp; omega) _).trans (hb.mono (by simp; omega))
    go_wp2_with fail
    go_step3
    exact ⟨rfl, ⟨_, _, _, _, _, _, _, _, _, _, _, _, _, _, _, _, _, _, _, _, _, _, _, _, _, _, _, _, _, _, _, _, _, _, _, _, _, _, _, _, _, _, _, _, _, _, _, _, _, _, _, _, _, _, _, _, _, _, _, _, _, _, _, _, _, _, _, _, _, _, _, _, rfl⟩, hb⟩
  case pass =>
    rintro a' w1 ⟨⟨u12, u13, u14, u15, u16, u17, u18, u19, u20, u21, u22, u23, u24, u25, u26, u27, u28, u29, u30, u31, u32, u33, u34, u35, u36, u37, u38, u39, u40, u41, u42, u43, u44, u45, u46, u47, u48, u49, u50, u51, u52, u53, u54, u55, u56, u57, u58, u59, u60, u61, u62, u63, u64, u65, u66, u67, u68, u69, u70, u71, u72, u73, u74, u75, u76, u77, u78, u79, u80, u81, u82, u83, rfl⟩, hb⟩
    obtain ⟨hc, hf⟩ := bcell hb
    have hz := hb.size
    simp at hz
    have B1 : Below w.heap.size w w1 := ((((Below.refl _ _).alloc (Nat.le_refl _) _).alloc (by simp) _).alloc (by simp; omega) _).trans (hb.mono (by simp; omega))
    go_wp2_with fail
    refine (recloser_locked.calls 5 0 0 _ rfl).mono ?_
    rintro e w2 ⟨rfl, hb2⟩
    obtain ⟨hc2, hf2⟩ := bcell hb2
    have hz2 := hb2.size
    have B2 : Below w.heap.size w w2 := B1.trans (hb2.mono B1.size)
    have y0 : w2.cell? ⟨w.heap.size + 1 + 1, 0, none⟩ = some (.int .i64 0) := (hc2 _ _ (by omega)).trans ((hc _ _ (by simp)).trans (by go_simp))
    have y1 : w2.cell? ⟨w.heap.size + 1 + 1, 1, none⟩ = some (.int .i64 0) := (hc2 _ _ (by omega)).trans ((hc _ _ (by simp)).trans (by go_simp))
    have y2 : w2.cell? ⟨w.heap.size + 1 + 1, 2, none⟩ = some (.int .i64 0) := (hc2 _ _ (by omega)).trans ((hc _ _ (by simp)).trans (by go_simp))
    have z0 : ∀ o, w2.frozen? ⟨w.heap.size + 1 + 1, o, none⟩ = false := fun o => (hf2 _ _ (by omega)).trans ((hf _ _ (by simp)).trans (by go_simp))
    clear hc2 hf2 hc hf
    go_wp2_with fail
    simp only [Exit.jump]
    refine bodyPost_ret (v := .tuple #[.agg #[.int .i64 (5), .int .i64 (0), .int .i64 (0)], .bool false]) (by simp [results, Try.results11, go_sem, y0, y1, y2]) rfl ⟨rfl, ?_⟩
    exact (((B2.setCell (by show _ ≤ w.heap.size + 1 + 1; omega) _).setCell (by show _ ≤ w.heap.size + 1 + 1; omega) _).setCell (by show _ ≤ w.heap.size + 1 + 1; omega) _)
set_option maxHeartbeats 4000000 in
set_option maxRecDepth 100000 in
theorem step_0c (sh de rc s n : Int) (bl : Bool) (w : World) (hv : vaR sh de rc 0 s n = true)  :
    Calls Try.prog 11 #[.int .i64 sh, .int .i64 de, .int .i64 rc, .agg #[.int .i64 0, .int .i64 s, .int .i64 n], .agg #[.bool false, .bool false, .bool false, .bool bl]] w fun e w' => e = .returned (.tuple #[.agg #[.int .i64 (0), .int .i64 (s), .int .i64 (n)], .bool false]) ∧ Below w.heap.size w w' := by
  have hu25 := Try.underlying25
  have hu29 := Try.underlying29
  have hva := va_eq 0 sh de rc 0 s n
  rw [hv] at hva
  clear hv
  have HV := Aside0.mk hva
  clear hva
  go_enter Try.func11, Try.ntmps11
  go_wp2_with fail
  go_step3
  go_wp2_with fail
  refine (recloser_Valid.calls 2 _ _ _ _ _ _ true _ HV.out).mono ?_
  rintro e w1 ⟨rfl, hb⟩
  obtain ⟨hc, hf⟩ := bcell hb
  have hz := hb.size
  simp at hz
  have B1 : Below w.heap.size w w1 := ((((Below.refl _ _).alloc (Nat.le_refl _) _).alloc (by simp) _).alloc (by simp; omega) _).trans (hb.mono (by simp; omega))
  go_wp2_with fail
  rw [Exit.noGoto_ret]
  refine bodyPost_ret (v := .tuple #[.agg #[.int .i64 (0), .int .i64 (s), .int .i64 (n)], .bool false]) (by simp [results, Try.results11, go_sem, hc]) rfl ⟨rfl, ?_⟩
  exact (((B1.setCell (by show _ ≤ w.heap.size + 1 + 1; omega) _).setCell (by show _ ≤ w.heap.size + 1 + 1; omega) _).setCell (by show _ ≤ w.heap.size + 1 + 1; omega) _)

end Go.Proofs.Ytmppijipaocfiaa.PAll
