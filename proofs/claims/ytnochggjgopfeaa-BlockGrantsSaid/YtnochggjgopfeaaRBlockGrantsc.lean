/-
  What is proved: BlockGrants: who asks gets the line's section in the next cycle, and keeps it until it is done and the section is seen clear, for every input.
  Conditions: none.
-/
import Derived.Test.YtnochggjgopfeaaRows
import Derived.Test.YtnochggjgopfeaaP5
namespace Go.Proofs.Ytnochggjgopfeaa
open Go.ChangeShapes Go.WideShapes Go.RowKit Go.Fw

theorem blockGrants_own : ownKnob Try.prog.godebug = none := by kernel_rfl
theorem blockGrants_laidOut : laidOutB Try.prog = true := by kernel_rfl

set_option maxRecDepth 100000 in
theorem blockGrants_lifted (os : Os) (started : os.Started) (H : Type) (enc : TypeId × Value → H) :
    ReturnsInHanded {} Try.checked os 6 .any (Rows.blockGrantsSpec.pre6 enc Try.prog Try.f6 Rows.blockGrantsRow.domain false) (Rows.blockGrantsSpec.post enc Try.prog Try.f6 false true false false) :=
  law_lifted (C := Try.checked) (fn := Try.f6) (s := Rows.blockGrantsSpec) (tb := t_bool) blockGrants_own started (by kernel_rfl) Try.func6
    (ChangeSpec.witness6 (enc := enc) (C := Try.checked) false ⟨#[], #[zeroArg Try.prog t_int, zeroArg Try.prog t_int], []⟩ 8 (by kernel_rfl) (by kernel_rfl) (by kernel_rfl) (by kernel_rfl))
    blockGrants_laidOut (by kernel_rfl) rfl (by kernel_rfl) (by kernel_rfl) (fun ds hds => law_fn2 hds) (fun xs h => law15_BlockGrants_ok h)

theorem blockGrants_holds : Rows.BlockGrantsSaid :=
  OpenClaim.holds_of_wide 6 Try.f6 rfl rfl rfl rfl rfl rfl rfl ⟨rfl, rfl, rfl, rfl, rfl⟩ rfl rfl rfl rfl rfl (by kernel_rfl) Try.func6 (by kernel_rfl)
    (of_decide_eq_true (by kernel_rfl)) (by unfold Func.isWrapper; first | (rw [if_pos (by decide +kernel)]; kernel_rfl) | (rw [if_neg (by decide +kernel)]; exact ⟨rfl, rfl⟩))
    (fun os started H enc _ => blockGrants_lifted os started H enc)
end Go.Proofs.Ytnochggjgopfeaa
