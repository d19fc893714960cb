/-
  What is proved: BlockTells: the law answers true, for every input.
  Conditions: none.
-/
import Derived.Test.YtnochggjgopfeaaRows
import Derived.Test.YtnochggjgopfeaaP4
namespace Go.Proofs.Ytnochggjgopfeaa
open Go.ChangeShapes Go.WideShapes Go.RowKit Go.Fw

theorem blockTells_own : ownKnob Try.prog.godebug = none := by kernel_rfl
theorem blockTells_laidOut : laidOutB Try.prog = true := by kernel_rfl

set_option maxRecDepth 100000 in
theorem blockTells_lifted (os : Os) (started : os.Started) (H : Type) (enc : TypeId × Value → H) :
    ReturnsInHanded {} Try.checked os 4 .any (Rows.blockTellsSpec.pre6 enc Try.prog Try.f4 Rows.blockTellsRow.domain false) (Rows.blockTellsSpec.post enc Try.prog Try.f4 false true false false) :=
  law_lifted (C := Try.checked) (fn := Try.f4) (s := Rows.blockTellsSpec) (tb := t_bool) blockTells_own started (by kernel_rfl) Try.func4
    (ChangeSpec.witness6 (enc := enc) (C := Try.checked) false ⟨#[], #[zeroArg Try.prog t_Config, zeroArg Try.prog t_Core, zeroArg Try.prog t_law15_Cycle], []⟩ 8 (by kernel_rfl) (by kernel_rfl) (by kernel_rfl) (by kernel_rfl))
    blockTells_laidOut (by kernel_rfl) rfl (by kernel_rfl) (by kernel_rfl) (fun ds hds => law_fn3 hds) (fun xs h => law15_BlockTells_ok h)

theorem blockTells_holds : Rows.BlockTellsSaid :=
  OpenClaim.holds_of_wide 4 Try.f4 rfl rfl rfl rfl rfl rfl rfl ⟨rfl, rfl, rfl, rfl, rfl⟩ rfl rfl rfl rfl rfl (by kernel_rfl) Try.func4 (by kernel_rfl)
    (of_decide_eq_true (by kernel_rfl)) (by unfold Func.isWrapper; first | (rw [if_pos (by decide +kernel)]; kernel_rfl) | (rw [if_neg (by decide +kernel)]; exact ⟨rfl, rfl⟩))
    (fun os started H enc _ => blockTells_lifted os started H enc)
end Go.Proofs.Ytnochggjgopfeaa
