/-
  What is proved: KernelRests: where no route is locked and no reset is due a cycle changes no owner and no route, clears nothing, and lets crossings open, for every input.
  Conditions: none.
-/
import Derived.Test.YtdlnbehcnfjneaaGreatRows
import Derived.Test.YtdlnbehcnfjneaaGreatP6
namespace Go.Proofs.YtdlnbehcnfjneaaGreat
open Go.ChangeShapes Go.WideShapes Go.RowKit Go.Fw

theorem kernelRests_own : ownKnob Tryz.prog.godebug = none := by kernel_rfl
theorem kernelRests_laidOut : laidOutB Tryz.prog = true := by kernel_rfl

set_option maxRecDepth 100000 in
theorem kernelRests_lifted (os : Os) (started : os.Started) (H : Type) (enc : TypeId × Value → H) :
    ReturnsInHanded {} Tryz.checked os 12 .any (Rows.kernelRestsSpec.pre6 enc Tryz.prog Tryz.f12 Rows.kernelRestsRow.domain false) (Rows.kernelRestsSpec.post enc Tryz.prog Tryz.f12 false true false false) :=
  law_lifted (C := Tryz.checked) (fn := Tryz.f12) (s := Rows.kernelRestsSpec) (tb := t_bool) kernelRests_own started (by kernel_rfl) Tryz.func12
    (ChangeSpec.witness6 (enc := enc) (C := Tryz.checked) false ⟨#[], #[zeroArg Tryz.prog t_Config, zeroArg Tryz.prog t_View, zeroArg Tryz.prog t_int], []⟩ 8 (by kernel_rfl) (by kernel_rfl) (by kernel_rfl) (by kernel_rfl))
    kernelRests_laidOut (by kernel_rfl) rfl (by kernel_rfl) (by kernel_rfl) (fun ds hds => law_fn3 hds) (fun xs h => law14_KernelRests_ok h)

theorem kernelRests_j1 : (Rows.kernelRestsRow.wf (OpenSpec.ofChange Rows.kernelRestsSpec) && mapsRowed Tryz.pinned.checked.prog && Tryz.f12.params.all (Tryz.pinned.checked.prog.readableRec ·) && namedTie Tryz.pinned.checked.prog Rows.kernelRestsRow.named Rows.kernelRestsSpec.vars && (Rows.kernelRestsRow.stops == []) && (Tryz.pinned.checked.prog.stops == []) && (Rows.kernelRestsRow.knobs == []) && (Tryz.pinned.checked.prog.stopKnobs == []) && (Rows.kernelRestsRow.inPlace == Tryz.pinned.checked.prog.inPlace 12)) = true := by kernel_rfl
theorem kernelRests_j2 : (Rows.kernelRestsRow.unfollowed == Tryz.pinned.checked.prog.unfollowed 12) = true := by kernel_rfl
theorem kernelRests_j3 : (Rows.kernelRestsRow.recurses == Tryz.pinned.checked.prog.recurses 12) = true := by kernel_rfl
theorem kernelRests_j4 : (Rows.kernelRestsRow.named == Tryz.pinned.checked.prog.varsNamed 12) = true := by kernel_rfl
theorem kernelRests_fn : Tryz.pinned.checked.prog.funcNamed Rows.kernelRestsRow.func = some 12 := by kernel_rfl

theorem kernelRests_joined : joinedFacts Tryz.pinned.checked.prog 12 Tryz.f12 Rows.kernelRestsSpec Rows.kernelRestsRow = true :=
  joined_of kernelRests_laidOut kernelRests_j1 kernelRests_j2 kernelRests_j3 kernelRests_j4 (by as_aux_lemma => kernel_rfl) (by as_aux_lemma => kernel_rfl) (by as_aux_lemma => kernel_rfl) (by as_aux_lemma => kernel_rfl)

theorem kernelRests_holds : Rows.KernelRestsSaid :=
  OpenClaim.holds_of_wide 12 Tryz.f12 rfl rfl rfl rfl rfl rfl rfl ⟨rfl, rfl, rfl, rfl, rfl⟩ rfl rfl rfl rfl rfl kernelRests_fn Tryz.func12 kernelRests_joined
    (of_decide_eq_true (by as_aux_lemma => kernel_rfl)) (by unfold Func.isWrapper; first | (rw [if_pos (by decide +kernel)]; kernel_rfl) | (rw [if_neg (by decide +kernel)]; exact ⟨rfl, rfl⟩))
    (fun os started H enc _ => kernelRests_lifted os started H enc)
end Go.Proofs.YtdlnbehcnfjneaaGreat
