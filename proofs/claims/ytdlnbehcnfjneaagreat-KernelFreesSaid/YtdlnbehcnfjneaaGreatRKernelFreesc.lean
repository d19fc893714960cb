/-
  What is proved: KernelFrees: a section changes its owner only to go free, only if it is clear, and only behind a route that has been ending for long enough or because its reset was asked for, for every input.
  Conditions: none.
-/
import Derived.Test.YtdlnbehcnfjneaaGreatRows
import Derived.Test.YtdlnbehcnfjneaaGreatP6
namespace Go.Proofs.YtdlnbehcnfjneaaGreat
open Go.ChangeShapes Go.WideShapes Go.RowKit Go.Fw

theorem kernelFrees_own : ownKnob Tryz.prog.godebug = none := by kernel_rfl
theorem kernelFrees_laidOut : laidOutB Tryz.prog = true := by kernel_rfl

set_option maxRecDepth 100000 in
theorem kernelFrees_lifted (os : Os) (started : os.Started) (H : Type) (enc : TypeId × Value → H) :
    ReturnsInHanded {} Tryz.checked os 10 .any (Rows.kernelFreesSpec.pre6 enc Tryz.prog Tryz.f10 Rows.kernelFreesRow.domain false) (Rows.kernelFreesSpec.post enc Tryz.prog Tryz.f10 false true false false) :=
  law_lifted (C := Tryz.checked) (fn := Tryz.f10) (s := Rows.kernelFreesSpec) (tb := t_bool) kernelFrees_own started (by kernel_rfl) Tryz.func10
    (ChangeSpec.witness6 (enc := enc) (C := Tryz.checked) false ⟨#[], #[zeroArg Tryz.prog t_Config, zeroArg Tryz.prog t_Core, zeroArg Tryz.prog t_law14_Cycle], []⟩ 8 (by kernel_rfl) (by kernel_rfl) (by kernel_rfl) (by kernel_rfl))
    kernelFrees_laidOut (by kernel_rfl) rfl (by kernel_rfl) (by kernel_rfl) (fun ds hds => law_fn3 hds) (fun xs h => law14_KernelFrees_ok h)

theorem kernelFrees_j1 : (Rows.kernelFreesRow.wf (OpenSpec.ofChange Rows.kernelFreesSpec) && mapsRowed Tryz.pinned.checked.prog && Tryz.f10.params.all (Tryz.pinned.checked.prog.readableRec ·) && namedTie Tryz.pinned.checked.prog Rows.kernelFreesRow.named Rows.kernelFreesSpec.vars && (Rows.kernelFreesRow.stops == []) && (Tryz.pinned.checked.prog.stops == []) && (Rows.kernelFreesRow.knobs == []) && (Tryz.pinned.checked.prog.stopKnobs == []) && (Rows.kernelFreesRow.inPlace == Tryz.pinned.checked.prog.inPlace 10)) = true := by kernel_rfl
theorem kernelFrees_j2 : (Rows.kernelFreesRow.unfollowed == Tryz.pinned.checked.prog.unfollowed 10) = true := by kernel_rfl
theorem kernelFrees_j3 : (Rows.kernelFreesRow.recurses == Tryz.pinned.checked.prog.recurses 10) = true := by kernel_rfl
theorem kernelFrees_j4 : (Rows.kernelFreesRow.named == Tryz.pinned.checked.prog.varsNamed 10) = true := by kernel_rfl
theorem kernelFrees_fn : Tryz.pinned.checked.prog.funcNamed Rows.kernelFreesRow.func = some 10 := by kernel_rfl

theorem kernelFrees_joined : joinedFacts Tryz.pinned.checked.prog 10 Tryz.f10 Rows.kernelFreesSpec Rows.kernelFreesRow = true :=
  joined_of kernelFrees_laidOut kernelFrees_j1 kernelFrees_j2 kernelFrees_j3 kernelFrees_j4 (by as_aux_lemma => kernel_rfl) (by as_aux_lemma => kernel_rfl) (by as_aux_lemma => kernel_rfl) (by as_aux_lemma => kernel_rfl)

theorem kernelFrees_holds : Rows.KernelFreesSaid :=
  OpenClaim.holds_of_wide 10 Tryz.f10 rfl rfl rfl rfl rfl rfl rfl ⟨rfl, rfl, rfl, rfl, rfl⟩ rfl rfl rfl rfl rfl kernelFrees_fn Tryz.func10 kernelFrees_joined
    (of_decide_eq_true (by as_aux_lemma => kernel_rfl)) (by unfold Func.isWrapper; first | (rw [if_pos (by decide +kernel)]; kernel_rfl) | (rw [if_neg (by decide +kernel)]; exact ⟨rfl, rfl⟩))
    (fun os started H enc _ => kernelFrees_lifted os started H enc)
end Go.Proofs.YtdlnbehcnfjneaaGreat
