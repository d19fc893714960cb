/-
  What is proved: KernelStops: a signal shows other than stop only where a route from it is open which is ready, and was open already or locked and recorded ahead of the cycle, for every input.
  Conditions: none.
-/
import Derived.Test.YtdlnbehcnfjneaaGreatRows
import Derived.Test.YtdlnbehcnfjneaaGreatP6
namespace Go.Proofs.YtdlnbehcnfjneaaGreat
open Go.ChangeShapes Go.WideShapes Go.RowKit Go.Fw

theorem kernelStops_own : ownKnob Tryz.prog.godebug = none := by kernel_rfl
theorem kernelStops_laidOut : laidOutB Tryz.prog = true := by kernel_rfl

set_option maxRecDepth 100000 in
theorem kernelStops_lifted (os : Os) (started : os.Started) (H : Type) (enc : TypeId × Value → H) :
    ReturnsInHanded {} Tryz.checked os 9 .any (Rows.kernelStopsSpec.pre6 enc Tryz.prog Tryz.f9 Rows.kernelStopsRow.domain false) (Rows.kernelStopsSpec.post enc Tryz.prog Tryz.f9 false true false false) :=
  law_lifted (C := Tryz.checked) (fn := Tryz.f9) (s := Rows.kernelStopsSpec) (tb := t_bool) kernelStops_own started (by kernel_rfl) Tryz.func9
    (ChangeSpec.witness6 (enc := enc) (C := Tryz.checked) false ⟨#[], #[zeroArg Tryz.prog t_Config, zeroArg Tryz.prog t_Core, zeroArg Tryz.prog t_law14_Cycle], []⟩ 8 (by kernel_rfl) (by kernel_rfl) (by kernel_rfl) (by kernel_rfl))
    kernelStops_laidOut (by kernel_rfl) rfl (by kernel_rfl) (by kernel_rfl) (fun ds hds => law_fn3 hds) (fun xs h => law14_KernelStops_ok h)

theorem kernelStops_j1 : (Rows.kernelStopsRow.wf (OpenSpec.ofChange Rows.kernelStopsSpec) && mapsRowed Tryz.pinned.checked.prog && Tryz.f9.params.all (Tryz.pinned.checked.prog.readableRec ·) && namedTie Tryz.pinned.checked.prog Rows.kernelStopsRow.named Rows.kernelStopsSpec.vars && (Rows.kernelStopsRow.stops == []) && (Tryz.pinned.checked.prog.stops == []) && (Rows.kernelStopsRow.knobs == []) && (Tryz.pinned.checked.prog.stopKnobs == []) && (Rows.kernelStopsRow.inPlace == Tryz.pinned.checked.prog.inPlace 9)) = true := by kernel_rfl
theorem kernelStops_j2 : (Rows.kernelStopsRow.unfollowed == Tryz.pinned.checked.prog.unfollowed 9) = true := by kernel_rfl
theorem kernelStops_j3 : (Rows.kernelStopsRow.recurses == Tryz.pinned.checked.prog.recurses 9) = true := by kernel_rfl
theorem kernelStops_j4 : (Rows.kernelStopsRow.named == Tryz.pinned.checked.prog.varsNamed 9) = true := by kernel_rfl
theorem kernelStops_fn : Tryz.pinned.checked.prog.funcNamed Rows.kernelStopsRow.func = some 9 := by kernel_rfl

theorem kernelStops_joined : joinedFacts Tryz.pinned.checked.prog 9 Tryz.f9 Rows.kernelStopsSpec Rows.kernelStopsRow = true :=
  joined_of kernelStops_laidOut kernelStops_j1 kernelStops_j2 kernelStops_j3 kernelStops_j4 (by as_aux_lemma => kernel_rfl) (by as_aux_lemma => kernel_rfl) (by as_aux_lemma => kernel_rfl) (by as_aux_lemma => kernel_rfl)

theorem kernelStops_holds : Rows.KernelStopsSaid :=
  OpenClaim.holds_of_wide 9 Tryz.f9 rfl rfl rfl rfl rfl rfl rfl ⟨rfl, rfl, rfl, rfl, rfl⟩ rfl rfl rfl rfl rfl kernelStops_fn Tryz.func9 kernelStops_joined
    (of_decide_eq_true (by as_aux_lemma => kernel_rfl)) (by unfold Func.isWrapper; first | (rw [if_pos (by decide +kernel)]; kernel_rfl) | (rw [if_neg (by decide +kernel)]; exact ⟨rfl, rfl⟩))
    (fun os started H enc _ => kernelStops_lifted os started H enc)
end Go.Proofs.YtdlnbehcnfjneaaGreat
