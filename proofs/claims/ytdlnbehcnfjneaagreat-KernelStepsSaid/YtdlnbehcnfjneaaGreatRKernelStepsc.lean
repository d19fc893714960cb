/-
  What is proved: KernelSteps: a cycle leads from any state, with any view, to the state and the aspects that the document says, of any station, for every input.
  Conditions: none.
-/
import Derived.Test.YtdlnbehcnfjneaaGreatRows
import Derived.Test.YtdlnbehcnfjneaaGreatP6
namespace Go.Proofs.YtdlnbehcnfjneaaGreat
open Go.ChangeShapes Go.WideShapes Go.RowKit Go.Fw

theorem kernelSteps_own : ownKnob Tryz.prog.godebug = none := by kernel_rfl
theorem kernelSteps_laidOut : laidOutB Tryz.prog = true := by kernel_rfl

set_option maxRecDepth 100000 in
theorem kernelSteps_lifted (os : Os) (started : os.Started) (H : Type) (enc : TypeId × Value → H) :
    ReturnsInHanded {} Tryz.checked os 13 .any (Rows.kernelStepsSpec.pre6 enc Tryz.prog Tryz.f13 Rows.kernelStepsRow.domain false) (Rows.kernelStepsSpec.post enc Tryz.prog Tryz.f13 false true false false) :=
  law_lifted (C := Tryz.checked) (fn := Tryz.f13) (s := Rows.kernelStepsSpec) (tb := t_bool) kernelSteps_own started (by kernel_rfl) Tryz.func13
    (ChangeSpec.witness6 (enc := enc) (C := Tryz.checked) false ⟨#[], #[zeroArg Tryz.prog t_Config, zeroArg Tryz.prog t_Core, zeroArg Tryz.prog t_law14_Cycle], []⟩ 8 (by kernel_rfl) (by kernel_rfl) (by kernel_rfl) (by kernel_rfl))
    kernelSteps_laidOut (by kernel_rfl) rfl (by kernel_rfl) (by kernel_rfl) (fun ds hds => law_fn3 hds) (fun xs h => law14_KernelSteps_ok h)

theorem kernelSteps_j1 : (Rows.kernelStepsRow.wf (OpenSpec.ofChange Rows.kernelStepsSpec) && mapsRowed Tryz.pinned.checked.prog && Tryz.f13.params.all (Tryz.pinned.checked.prog.readableRec ·) && namedTie Tryz.pinned.checked.prog Rows.kernelStepsRow.named Rows.kernelStepsSpec.vars && (Rows.kernelStepsRow.stops == []) && (Tryz.pinned.checked.prog.stops == []) && (Rows.kernelStepsRow.knobs == []) && (Tryz.pinned.checked.prog.stopKnobs == []) && (Rows.kernelStepsRow.inPlace == Tryz.pinned.checked.prog.inPlace 13)) = true := by kernel_rfl
theorem kernelSteps_j2 : (Rows.kernelStepsRow.unfollowed == Tryz.pinned.checked.prog.unfollowed 13) = true := by kernel_rfl
theorem kernelSteps_j3 : (Rows.kernelStepsRow.recurses == Tryz.pinned.checked.prog.recurses 13) = true := by kernel_rfl
theorem kernelSteps_j4 : (Rows.kernelStepsRow.named == Tryz.pinned.checked.prog.varsNamed 13) = true := by kernel_rfl
theorem kernelSteps_fn : Tryz.pinned.checked.prog.funcNamed Rows.kernelStepsRow.func = some 13 := by kernel_rfl

theorem kernelSteps_joined : joinedFacts Tryz.pinned.checked.prog 13 Tryz.f13 Rows.kernelStepsSpec Rows.kernelStepsRow = true :=
  joined_of kernelSteps_laidOut kernelSteps_j1 kernelSteps_j2 kernelSteps_j3 kernelSteps_j4 (by as_aux_lemma => kernel_rfl) (by as_aux_lemma => kernel_rfl) (by as_aux_lemma => kernel_rfl) (by as_aux_lemma => kernel_rfl)

theorem kernelSteps_holds : Rows.KernelStepsSaid :=
  OpenClaim.holds_of_wide 13 Tryz.f13 rfl rfl rfl rfl rfl rfl rfl ⟨rfl, rfl, rfl, rfl, rfl⟩ rfl rfl rfl rfl rfl kernelSteps_fn Tryz.func13 kernelSteps_joined
    (of_decide_eq_true (by as_aux_lemma => kernel_rfl)) (by unfold Func.isWrapper; first | (rw [if_pos (by decide +kernel)]; kernel_rfl) | (rw [if_neg (by decide +kernel)]; exact ⟨rfl, rfl⟩))
    (fun os started H enc _ => kernelSteps_lifted os started H enc)
end Go.Proofs.YtdlnbehcnfjneaaGreat
