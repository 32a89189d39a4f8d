/- The law BreakerKeepsValid holds for every input: the row, out of its plain statement and the walk of the code. Conditions: none. -/
import Derived.Test.YtooeljgandaelaaRows
import Derived.Test.YtooeljgandaelaaOpen
import Derived.Test.YtooeljgandaelaaStmBreakerKeepsValid
import Derived.Test.YtooeljgandaelaaPureBreakerKeepsValid
import Derived.WalkKit
import Derived.ProofKit
import Derived.OpenShut
import Derived.ShutString
import Derived.ChangeOld
import Derived.Below
import Derived.SizedLaws
import Derived.WideShapes
import Derived.Carry
namespace Go.Proofs.Ytooeljgandaelaa.breakerKeepsValid
open Go.ChangeShapes Go.WideShapes Go.ChangeAt Go.RowKit Go.Proofs.Ytooeljgandaelaa.Opened Go.Proofs.YtooeljgandaelaaW.PrintWords Go.Proofs.Ytooeljgandaelaa.PAll
open Go.ChangeMaps (open_string shut_string)
set_option linter.unusedVariables false
theorem own : ownKnob Try.prog.godebug = none := by kernel_rfl
theorem laidOut : laidOutB Try.prog = true := by kernel_rfl
set_option maxRecDepth 100000 in
theorem lifted (os : Os) (started : os.Started) (H : Type) (enc : TypeId × Value → H) :
    ReturnsInHanded {} Try.checked os 9 .any (Rows.breakerKeepsValidSpec.pre6 enc Try.prog Try.f9 Rows.breakerKeepsValidRow.domain false) (Rows.breakerKeepsValidSpec.post enc Try.prog Try.f9 false true false false) := by
  refine returnsInHanded_of_change_sized (C := Try.checked) own started (by kernel_rfl) Try.func9
    (ChangeSpec.witness6 (enc := enc) (C := Try.checked) false ⟨#[], #[.agg #[.bool false, .bool false, .int .i64 0, .bool false], .int .i64 0, .agg #[.bool false, .bool false, .bool false]], []⟩ 8 (by kernel_rfl) (by kernel_rfl) (by kernel_rfl) (by kernel_rfl)) ?_
  intro W base args ds gs before hval0 hW hcnd hsz0 _
  have hsz : (DataW.weightsEach Try.prog (Try.f9.params.toList ++ Rows.breakerKeepsValidSpec.plain.varTypes Try.prog) (ds ++ gs)).all (· ≤ reachBytes) = true := hsz0
  have hval : ∀ (j : Nat) t v, Try.f9.params[j]? = some t → args[j]? = some v → Value.okWide Try.prog W .any base t v := hval0
  have hW' := hW
  obtain ⟨p, q, hA0, hV, rfl, hfz, hnd⟩ := hW
  have hA : DataW.TrodAll enc Try.prog W 0 (fun _ => true) true Try.f9.params.toList args.toList ds p := hA0
  rw [Try.params9] at hA hval hsz
  obtain ⟨v0, vs0, d0, ds0, p0, q0, hargs, rfl, rfl, h0, r0⟩ := trodAll_cons hA
  obtain ⟨v1, vs1, d1, ds1, p1, q1, rfl, rfl, rfl, h1, r1⟩ := trodAll_cons r0
  obtain ⟨v2, vs2, d2, ds2, p2, q2, rfl, rfl, rfl, h2, r2⟩ := trodAll_cons r1
  obtain ⟨rfl, rfl, rfl⟩ := trodAll_nil r2
  obtain rfl : args = #[v0, v1, v2] := by cases args; simp_all
  obtain ⟨rfl, rfl⟩ := trodVars_none hV
  have k0 := h0
  have lt0 : ∀ x ∈ p0, x.block < W.heap.size := by obtain ⟨m, hm⟩ := k0; exact DataW.trod_lt m _ _ _ hm
  obtain ⟨cs0, rfl, _⟩ := okWide_struct Try.underlying36 (hval 0 36 v0 rfl rfl)
  obtain ⟨fuel0, hf0⟩ := h0
  obtain ⟨⟨a0_0, ⟨a0_1, ⟨a0_2, a0_3⟩⟩⟩, hK0, hG0⟩ := (show Opens Try.prog 36 (Kd.pair Kd.bool (Kd.pair Kd.bool (Kd.pair (Kd.int .i64) Kd.bool))) _ from (opens_struct Try.underlying36 (by kernel_rfl) (opensF_cons rfl (opens_bool Try.underlying4 (by kernel_rfl)) (opensF_cons rfl (opens_bool Try.underlying4 (by kernel_rfl)) (opensF_cons rfl (opens_int Try.underlying3 (by kernel_rfl)) (opensF_last rfl (opens_bool Try.underlying4 (by kernel_rfl)))))))).get enc W 0 _ _ fuel0 _ _ hf0 (fun n hn => by have := List.all_eq_true.1 hsz n (DataW.weights_mem_each (j := 0) rfl rfl n hn); simpa using this)
  obtain ⟨g0_0, ⟨g0_1, ⟨g0_2, g0_3⟩⟩⟩ := hG0
  have hcs0 : cs0 = #[Value.bool a0_0, Value.bool a0_1, Value.int .i64 a0_2, Value.bool a0_3] := by
    have e0 : ∃ z, z = cs0.toList := ⟨_, rfl⟩
    obtain ⟨z, hz⟩ := e0
    have hK : _ := hK0
    change _ at hK
    simp only [Value.cells] at hK
    rw [← hz] at hK
    obtain ⟨_, _, rfl, rfl, ⟨_, _, rfl, rfl, ⟨_, _, rfl, rfl, rfl⟩⟩⟩ := hK
    rw [← Array.toArray_toList (xs := cs0), ← hz]; rfl
  subst hcs0
  obtain ⟨a1, rfl, rfl, rfl, w1⟩ := open_int Try.underlying3 (hval 1 3 v1 rfl rfl) h1
  have k2 := h2
  have lt2 : ∀ x ∈ p2, x.block < W.heap.size := by obtain ⟨m, hm⟩ := k2; exact DataW.trod_lt m _ _ _ hm
  obtain ⟨cs2, rfl, _⟩ := okWide_struct Try.underlying45 (hval 2 45 v2 rfl rfl)
  obtain ⟨fuel2, hf2⟩ := h2
  obtain ⟨⟨a2_0, ⟨a2_1, a2_2⟩⟩, hK2, hG2⟩ := (show Opens Try.prog 45 (Kd.pair Kd.bool (Kd.pair Kd.bool Kd.bool)) _ from (opens_struct Try.underlying45 (by kernel_rfl) (opensF_cons rfl (opens_bool Try.underlying4 (by kernel_rfl)) (opensF_cons rfl (opens_bool Try.underlying4 (by kernel_rfl)) (opensF_last rfl (opens_bool Try.underlying4 (by kernel_rfl))))))).get enc W 0 _ _ fuel2 _ _ hf2 (fun n hn => by have := List.all_eq_true.1 hsz n (DataW.weights_mem_each (j := 2) rfl rfl n hn); simpa using this)
  obtain ⟨g2_0, ⟨g2_1, g2_2⟩⟩ := hG2
  have hcs2 : cs2 = #[Value.bool a2_0, Value.bool a2_1, Value.bool a2_2] := by
    have e2 : ∃ z, z = cs2.toList := ⟨_, rfl⟩
    obtain ⟨z, hz⟩ := e2
    have hK : _ := hK2
    change _ at hK
    simp only [Value.cells] at hK
    rw [← hz] at hK
    obtain ⟨_, _, rfl, rfl, ⟨_, _, rfl, rfl, rfl⟩⟩ := hK
    rw [← Array.toArray_toList (xs := cs2), ← hz]; rfl
  subst hcs2
  clear hA0 hval0 hsz0 hsz
  obtain ⟨k, hp⟩ := Pure.BreakerKeepsValid a0_0 a0_1 a0_2 a0_3 a1 a2_0 a2_1 a2_2 g0_2 w1
  refine (substationlaw29_BreakerKeepsValid.calls k a0_0 a0_1 a0_2 a0_3 a1 a2_0 a2_1 a2_2 true W  hp).mono fun e W' ⟨he, bel⟩ => ?_
  subst he
  exact ⟨_, rfl, _, _, _, [], _, [], hW', trodAll_mk1 (shut_bool Try.underlying4 _), (trodAll_cons_mk (Below.trod laidOut (by kernel_rfl) (of_decide_eq_true (by kernel_rfl)) k0 bel lt0) (trodAll_cons_mk (shut_int Try.underlying3 w1) (trodAll_cons_mk (Below.trod laidOut (by kernel_rfl) (of_decide_eq_true (by kernel_rfl)) k2 bel lt2) trodAll_mk0))), rfl, bel.frame _, fun h => by cases h⟩
theorem over : Rows.breakerKeepsValidRow.holds Try.pinned (OpenSpec.ofChange Rows.breakerKeepsValidSpec) :=
  OpenClaim.holds_of_wide 9 Try.f9 rfl rfl rfl rfl rfl rfl rfl ⟨rfl, rfl, rfl, rfl, rfl⟩ rfl rfl rfl rfl rfl (by kernel_rfl) Try.func9 (by kernel_rfl)
    (of_decide_eq_true (by kernel_rfl)) (by unfold Func.isWrapper; first | (rw [if_pos (by decide +kernel)]; kernel_rfl) | (rw [if_neg (by decide +kernel)]; exact ⟨rfl, rfl⟩))
    (fun os started H enc _ => lifted os started H enc)
theorem proved : Rows.BreakerKeepsValidSaid := over
#print axioms proved
end Go.Proofs.Ytooeljgandaelaa.breakerKeepsValid
namespace Go.Proofs.Ytooeljgandaelaa
/-- The row, under a short name, for the claim. -/
theorem breakerKeepsValid_holds : Rows.BreakerKeepsValidSaid := breakerKeepsValid.proved
end Go.Proofs.Ytooeljgandaelaa
