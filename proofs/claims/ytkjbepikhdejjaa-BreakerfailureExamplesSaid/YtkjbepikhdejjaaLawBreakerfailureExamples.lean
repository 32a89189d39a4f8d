/- The law BreakerfailureExamples holds for every input: the row, out of its plain statement and the walk of the code. Conditions: none. -/
import Derived.Test.YtkjbepikhdejjaaEnter
import Derived.Test.YtkjbepikhdejjaaRows
import Derived.Test.YtkjbepikhdejjaaOpen
import Derived.Test.YtkjbepikhdejjaaStmBreakerfailureExamples
import Derived.Test.YtkjbepikhdejjaaPureBreakerfailureExamples
import Derived.WalkKit
import Derived.ProofKit
import Derived.OpenShut
import Derived.ShutString
import Derived.ChangeOld
import Derived.Below
import Derived.SizedLaws
import Derived.WideShapes
import Derived.Carry
namespace Go.Proofs.Ytkjbepikhdejjaa.breakerfailureExamples
open Go.ChangeShapes Go.WideShapes Go.ChangeAt Go.RowKit Go.Proofs.Ytkjbepikhdejjaa.Opened Go.Proofs.YtkjbepikhdejjaaW.PrintWords Go.Proofs.Ytkjbepikhdejjaa.PAll
open Go.ChangeMaps (open_string shut_string)
set_option linter.unusedVariables false
theorem own : ownKnob Try.prog.godebug = none := by kernel_rfl
theorem laidOut : laidOutB Try.prog = true := by kernel_rfl
set_option maxRecDepth 100000 in
theorem lifted (os : Os) (started : os.Started) (H : Type) (enc : TypeId × Value → H) :
    ReturnsInHanded {} Try.checked os 5 .any (Rows.breakerfailureExamplesSpec.pre6 enc Try.prog Try.f5 Rows.breakerfailureExamplesRow.domain false) (Rows.breakerfailureExamplesSpec.post enc Try.prog Try.f5 false true false false) := by
  refine returnsInHanded_of_change_sized (C := Try.checked) own started (by kernel_rfl) Try.func5
    (ChangeSpec.witness6 (enc := enc) (C := Try.checked) false ⟨#[], #[], []⟩ 8 (by kernel_rfl) (by kernel_rfl) (by kernel_rfl) (by kernel_rfl)) ?_
  intro W base args ds gs before hval0 hW hcnd hsz0 _
  have hsz : (DataW.weightsEach Try.prog (Try.f5.params.toList ++ Rows.breakerfailureExamplesSpec.plain.varTypes Try.prog) (ds ++ gs)).all (· ≤ reachBytes) = true := hsz0
  have hval : ∀ (j : Nat) t v, Try.f5.params[j]? = some t → args[j]? = some v → Value.okWide Try.prog W .any base t v := hval0
  have hW' := hW
  obtain ⟨p, q, hA0, hV, rfl, hfz, hnd⟩ := hW
  have hA : DataW.TrodAll enc Try.prog W 0 (fun _ => true) true Try.f5.params.toList args.toList ds p := hA0
  rw [Try.params5] at hA hval hsz
  obtain ⟨rfl, rfl, rfl⟩ := trodAll_none hA
  obtain ⟨rfl, rfl⟩ := trodVars_none hV
  clear hA0 hval0 hsz0 hsz
  have hp := Pure.BreakerfailureExamples 
  refine (substationlaw32_BreakerfailureExamples.calls  W  hp).mono fun e W' ⟨he, bel⟩ => ?_
  subst he
  exact ⟨_, rfl, _, _, _, [], _, [], hW', trodAll_mk1 (shut_bool Try.underlying4 _), trodAll_mk0, rfl, bel.frame _, fun h => by cases h⟩
theorem joined : joinedFacts Try.checked.prog 5 Try.f5 Rows.breakerfailureExamplesSpec Rows.breakerfailureExamplesRow = true := by
  unfold joinedFacts
  simp only [Bool.and_eq_true]
  and_intros
  all_goals first | (rw [Entered.mayEnter']) | (rw [Entered.liftsFinal'] <;> kernel_rfl) | (rw [Entered.make'] <;> kernel_rfl) | kernel_rfl
theorem over : Rows.breakerfailureExamplesRow.holds Try.pinned (OpenSpec.ofChange Rows.breakerfailureExamplesSpec) :=
  OpenClaim.holds_of_wide 5 Try.f5 rfl rfl rfl rfl rfl rfl rfl ⟨rfl, rfl, rfl, rfl, rfl⟩ rfl rfl rfl rfl rfl (by kernel_rfl) Try.func5 joined
    (of_decide_eq_true (by kernel_rfl)) (by unfold Func.isWrapper; first | (rw [if_pos (by decide +kernel)]; kernel_rfl) | (rw [if_neg (by decide +kernel)]; exact ⟨rfl, rfl⟩))
    (fun os started H enc _ => lifted os started H enc)
theorem proved : Rows.BreakerfailureExamplesSaid := over
#print axioms proved
end Go.Proofs.Ytkjbepikhdejjaa.breakerfailureExamples
namespace Go.Proofs.Ytkjbepikhdejjaa
/-- The row, under a short name, for the claim. -/
theorem breakerfailureExamples_holds : Rows.BreakerfailureExamplesSaid := breakerfailureExamples.proved
end Go.Proofs.Ytkjbepikhdejjaa
