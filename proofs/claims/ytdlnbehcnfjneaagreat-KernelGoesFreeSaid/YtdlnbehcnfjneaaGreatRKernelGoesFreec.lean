/-
  What is proved: KernelGoesFree: a route that was cancelled is given back, all seen clear, in as many cycles behind its hold as its path has sections, not sooner, for every input.
  Conditions: none.
-/
import Derived.Test.YtdlnbehcnfjneaaGreatRows
import Derived.Test.YtdlnbehcnfjneaaGreatP6
namespace Go.Proofs.YtdlnbehcnfjneaaGreat
open Go.ChangeShapes Go.WideShapes Go.RowKit Go.Fw

theorem kernelGoesFree_own : ownKnob Tryz.prog.godebug = none := by kernel_rfl
theorem kernelGoesFree_laidOut : laidOutB Tryz.prog = true := by kernel_rfl

set_option maxRecDepth 100000 in
theorem kernelGoesFree_lifted (os : Os) (started : os.Started) (H : Type) (enc : TypeId × Value → H) :
    ReturnsInHanded {} Tryz.checked os 14 .any (Rows.kernelGoesFreeSpec.pre6 enc Tryz.prog Tryz.f14 Rows.kernelGoesFreeRow.domain false) (Rows.kernelGoesFreeSpec.post enc Tryz.prog Tryz.f14 false true false false) :=
  law_lifted (C := Tryz.checked) (fn := Tryz.f14) (s := Rows.kernelGoesFreeSpec) (tb := t_bool) kernelGoesFree_own started (by kernel_rfl) Tryz.func14
    (ChangeSpec.witness6 (enc := enc) (C := Tryz.checked) false ⟨#[], #[zeroArg Tryz.prog t_Config, zeroArg Tryz.prog t_int], []⟩ 8 (by kernel_rfl) (by kernel_rfl) (by kernel_rfl) (by kernel_rfl))
    kernelGoesFree_laidOut (by kernel_rfl) rfl (by kernel_rfl) (by kernel_rfl) (fun ds hds => law_fn2 hds) (fun xs h => law14_KernelGoesFree_ok h)

theorem kernelGoesFree_j1 : (Rows.kernelGoesFreeRow.wf (OpenSpec.ofChange Rows.kernelGoesFreeSpec) && mapsRowed Tryz.pinned.checked.prog && Tryz.f14.params.all (Tryz.pinned.checked.prog.readableRec ·) && namedTie Tryz.pinned.checked.prog Rows.kernelGoesFreeRow.named Rows.kernelGoesFreeSpec.vars && (Rows.kernelGoesFreeRow.stops == []) && (Tryz.pinned.checked.prog.stops == []) && (Rows.kernelGoesFreeRow.knobs == []) && (Tryz.pinned.checked.prog.stopKnobs == []) && (Rows.kernelGoesFreeRow.inPlace == Tryz.pinned.checked.prog.inPlace 14)) = true := by kernel_rfl
theorem kernelGoesFree_j2 : (Rows.kernelGoesFreeRow.unfollowed == Tryz.pinned.checked.prog.unfollowed 14) = true := by kernel_rfl
theorem kernelGoesFree_j3 : (Rows.kernelGoesFreeRow.recurses == Tryz.pinned.checked.prog.recurses 14) = true := by kernel_rfl
theorem kernelGoesFree_j4 : (Rows.kernelGoesFreeRow.named == Tryz.pinned.checked.prog.varsNamed 14) = true := by kernel_rfl
theorem kernelGoesFree_fn : Tryz.pinned.checked.prog.funcNamed Rows.kernelGoesFreeRow.func = some 14 := by kernel_rfl

theorem kernelGoesFree_joined : joinedFacts Tryz.pinned.checked.prog 14 Tryz.f14 Rows.kernelGoesFreeSpec Rows.kernelGoesFreeRow = true :=
  joined_of kernelGoesFree_laidOut kernelGoesFree_j1 kernelGoesFree_j2 kernelGoesFree_j3 kernelGoesFree_j4 (by as_aux_lemma => kernel_rfl) (by as_aux_lemma => kernel_rfl) (by as_aux_lemma => kernel_rfl) (by as_aux_lemma => kernel_rfl)

theorem kernelGoesFree_holds : Rows.KernelGoesFreeSaid :=
  OpenClaim.holds_of_wide 14 Tryz.f14 rfl rfl rfl rfl rfl rfl rfl ⟨rfl, rfl, rfl, rfl, rfl⟩ rfl rfl rfl rfl rfl kernelGoesFree_fn Tryz.func14 kernelGoesFree_joined
    (of_decide_eq_true (by as_aux_lemma => kernel_rfl)) (by unfold Func.isWrapper; first | (rw [if_pos (by decide +kernel)]; kernel_rfl) | (rw [if_neg (by decide +kernel)]; exact ⟨rfl, rfl⟩))
    (fun os started H enc _ => kernelGoesFree_lifted os started H enc)
end Go.Proofs.YtdlnbehcnfjneaaGreat
