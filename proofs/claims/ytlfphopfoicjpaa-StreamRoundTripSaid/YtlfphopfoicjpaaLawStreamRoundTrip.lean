/- The law StreamRoundTrip holds for every input: the row, out of its plain statement and the walk of the code. Conditions: none. -/
import Derived.Test.YtlfphopfoicjpaaRows
import Derived.Test.YtlfphopfoicjpaaOpen
import Derived.Test.YtlfphopfoicjpaaStmStreamRoundTrip
import Derived.Test.YtlfphopfoicjpaaPureStreamRoundTrip
import Derived.WalkKit
import Derived.ProofKit
import Derived.OpenShut
import Derived.ShutString
import Derived.ChangeOld
import Derived.Below
import Derived.SizedLaws
import Derived.WideShapes
import Derived.Carry
namespace Go.Proofs.Ytlfphopfoicjpaa.streamRoundTrip
open Go.ChangeShapes Go.WideShapes Go.ChangeAt Go.RowKit Go.Proofs.Ytlfphopfoicjpaa.Opened Go.Proofs.YtlfphopfoicjpaaW.PrintWords Go.Proofs.Ytlfphopfoicjpaa.PAll
open Go.ChangeMaps (open_string shut_string)
set_option linter.unusedVariables false
theorem own : ownKnob Try.prog.godebug = none := by kernel_rfl
theorem laidOut : laidOutB Try.prog = true := by kernel_rfl
set_option maxRecDepth 100000 in
theorem lifted (os : Os) (started : os.Started) (H : Type) (enc : TypeId × Value → H) :
    ReturnsInHanded {} Try.checked os 6 .any (Rows.streamRoundTripSpec.pre6 enc Try.prog Try.f6 Rows.streamRoundTripRow.domain false) (Rows.streamRoundTripSpec.post enc Try.prog Try.f6 false true false false) := by
  refine returnsInHanded_of_change_sized (C := Try.checked) own started (by kernel_rfl) Try.func6
    (ChangeSpec.witness6 (enc := enc) (C := Try.checked) false ⟨#[], #[.agg #[.int .i64 0, .int .i64 0, .bool false, .slice none 0 0, .slice none 0 0], .slice none 0 0], []⟩ 8 (by kernel_rfl) (by kernel_rfl) (by kernel_rfl) (by kernel_rfl)) ?_
  intro W base args ds gs before hval0 hW hcnd hsz0 _
  have hsz : (DataW.weightsEach Try.prog (Try.f6.params.toList ++ Rows.streamRoundTripSpec.plain.varTypes Try.prog) (ds ++ gs)).all (· ≤ reachBytes) = true := hsz0
  have hval : ∀ (j : Nat) t v, Try.f6.params[j]? = some t → args[j]? = some v → Value.okWide Try.prog W .any base t v := hval0
  have hW' := hW
  obtain ⟨p, q, hA0, hV, rfl, hfz, hnd⟩ := hW
  have hA : DataW.TrodAll enc Try.prog W 0 (fun _ => true) true Try.f6.params.toList args.toList ds p := hA0
  rw [Try.params6] at hA hval hsz
  obtain ⟨v0, vs0, d0, ds0, p0, q0, hargs, rfl, rfl, h0, r0⟩ := trodAll_cons hA
  obtain ⟨v1, vs1, d1, ds1, p1, q1, rfl, rfl, rfl, h1, r1⟩ := trodAll_cons r0
  obtain ⟨rfl, rfl, rfl⟩ := trodAll_nil r1
  obtain rfl : args = #[v0, v1] := by cases args; simp_all
  obtain ⟨rfl, rfl⟩ := trodVars_none hV
  have k0 := h0
  have lt0 : ∀ x ∈ p0, x.block < W.heap.size := by obtain ⟨m, hm⟩ := k0; exact DataW.trod_lt m _ _ _ hm
  obtain ⟨cs0, rfl, _⟩ := okWide_struct Try.underlying24 (hval 0 24 v0 rfl rfl)
  obtain ⟨fuel0, hf0⟩ := h0
  obtain ⟨⟨a0_0, ⟨a0_1, ⟨a0_2, ⟨l0_3, l0_4⟩⟩⟩⟩, hK0, hG0⟩ := (show Opens Try.prog 24 (Kd.pair (Kd.int .i64) (Kd.pair (Kd.int .i64) (Kd.pair Kd.bool (Kd.pair (Kd.slice 3 (Kd.int .i64)) (Kd.slice 3 (Kd.int .i64)))))) _ from (opens_struct Try.underlying24 (by kernel_rfl) (opensF_cons rfl (opens_int Try.underlying3 (by kernel_rfl)) (opensF_cons rfl (opens_int Try.underlying3 (by kernel_rfl)) (opensF_cons rfl (opens_bool Try.underlying4 (by kernel_rfl)) (opensF_cons rfl (opens_slice 3 Try.underlying22 (by kernel_rfl) (B := 8) (by kernel_rfl) (opens_int Try.underlying3 (by kernel_rfl))) (opensF_last rfl (opens_slice 3 Try.underlying22 (by kernel_rfl) (B := 8) (by kernel_rfl) (opens_int Try.underlying3 (by kernel_rfl)))))))))).get enc W 0 _ _ fuel0 _ _ hf0 (fun n hn => by have := List.all_eq_true.1 hsz n (DataW.weights_mem_each (j := 0) rfl rfl n hn); simpa using this)
  obtain ⟨g0_0, ⟨g0_1, ⟨g0_2, ⟨g0_3, g0_4⟩⟩⟩⟩ := hG0
  obtain ⟨A0_3, c0_3, A0_4, c0_4, hcs0, hc0_3, hr0_3, hc0_4, hr0_4⟩ : ∃ A0_3 c0_3, ∃ A0_4 c0_4, cs0 = #[Value.int .i64 a0_0, Value.int .i64 a0_1, Value.bool a0_2, Value.slice A0_3 l0_3.length c0_3, Value.slice A0_4 l0_4.length c0_4] ∧ l0_3.length ≤ c0_3 ∧ Kd.C (Kd.int .i64) W A0_3 l0_3.length l0_3 ∧ l0_4.length ≤ c0_4 ∧ Kd.C (Kd.int .i64) W A0_4 l0_4.length l0_4 := by
    have e0 : ∃ z, z = cs0.toList := ⟨_, rfl⟩
    obtain ⟨z, hz⟩ := e0
    have hK : _ := hK0
    change _ at hK
    simp only [Value.cells] at hK
    rw [← hz] at hK
    obtain ⟨_, _, rfl, rfl, ⟨_, _, rfl, rfl, ⟨_, _, rfl, rfl, ⟨_, _, rfl, ⟨A0_3, c0_3, rfl, hc0_3, hr0_3⟩, ⟨A0_4, c0_4, rfl, hc0_4, hr0_4⟩⟩⟩⟩⟩ := hK
    exact ⟨A0_3, c0_3, A0_4, c0_4, by rw [← Array.toArray_toList (xs := cs0), ← hz]; rfl, hc0_3, hr0_3, hc0_4, hr0_4⟩
  subst hcs0
  have k1 := h1
  have lt1 : ∀ x ∈ p1, x.block < W.heap.size := by obtain ⟨m, hm⟩ := k1; exact DataW.trod_lt m _ _ _ hm
  obtain ⟨A1, len1, c1, rfl⟩ := okWide_slice Try.underlying35 (hval 1 35 v1 rfl rfl)
  obtain ⟨fuel1, hf1⟩ := h1
  obtain ⟨l1, ⟨A1', c1', hcs1, hc1, hr1⟩, g1⟩ := ((opens_slice 5 Try.underlying35 (by kernel_rfl) (B := 1) (by kernel_rfl) (opens_int Try.underlying5 (by kernel_rfl)))).get enc W 0 _ _ fuel1 _ _ hf1 (fun n hn => by have := List.all_eq_true.1 hsz n (DataW.weights_mem_each (j := 1) rfl rfl n hn); simpa using this)
  simp [Value.cells] at hcs1
  obtain ⟨rfl, rfl, rfl⟩ := hcs1
  clear hA0 hval0 hsz0 hsz
  obtain ⟨k, hp⟩ := Pure.StreamRoundTrip a0_0 a0_1 a0_2 l0_3 l0_4 l1 g0_0 g0_1 g0_3 g0_4 g1
  refine (substationlaw15_StreamRoundTrip.calls k a0_0 a0_1 a0_2 A0_3 c0_3 l0_3 A0_4 c0_4 l0_4 A1 c1 l1 W hr0_3 hc0_3 hr0_4 hc0_4 hr1 hc1 hp).mono fun e W' ⟨he, bel⟩ => ?_
  subst he
  exact ⟨_, rfl, _, _, _, [], _, [], hW', trodAll_mk1 (shut_bool Try.underlying4 _), (trodAll_cons_mk (Below.trod laidOut (by kernel_rfl) (of_decide_eq_true (by kernel_rfl)) k0 bel lt0) (trodAll_cons_mk (Below.trod laidOut (by kernel_rfl) (of_decide_eq_true (by kernel_rfl)) k1 bel lt1) trodAll_mk0)), rfl, bel.frame _, fun h => by cases h⟩
theorem over : Rows.streamRoundTripRow.holds Try.pinned (OpenSpec.ofChange Rows.streamRoundTripSpec) :=
  OpenClaim.holds_of_wide 6 Try.f6 rfl rfl rfl rfl rfl rfl rfl ⟨rfl, rfl, rfl, rfl, rfl⟩ rfl rfl rfl rfl rfl (by kernel_rfl) Try.func6 (by kernel_rfl)
    (of_decide_eq_true (by kernel_rfl)) (by unfold Func.isWrapper; first | (rw [if_pos (by decide +kernel)]; kernel_rfl) | (rw [if_neg (by decide +kernel)]; exact ⟨rfl, rfl⟩))
    (fun os started H enc _ => lifted os started H enc)
theorem proved : Rows.StreamRoundTripSaid := over
#print axioms proved
end Go.Proofs.Ytlfphopfoicjpaa.streamRoundTrip
namespace Go.Proofs.Ytlfphopfoicjpaa
/-- The row, under a short name, for the claim. -/
theorem streamRoundTrip_holds : Rows.StreamRoundTripSaid := streamRoundTrip.proved
end Go.Proofs.Ytlfphopfoicjpaa
