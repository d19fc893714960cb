/-
  What is proved: BlockCalls: what is told, heard, and done in a cycle is what the document says, for every input.
  Conditions: none.
-/
import Derived.Test.YtnochggjgopfeaaRows
import Derived.Test.YtnochggjgopfeaaP6
namespace Go.Proofs.Ytnochggjgopfeaa
open Go.ChangeShapes Go.WideShapes Go.RowKit Go.Fw

theorem blockCalls_own : ownKnob Try.prog.godebug = none := by kernel_rfl
theorem blockCalls_laidOut : laidOutB Try.prog = true := by kernel_rfl

set_option maxRecDepth 100000 in
theorem blockCalls_lifted (os : Os) (started : os.Started) (H : Type) (enc : TypeId × Value → H) :
    ReturnsInHanded {} Try.checked os 3 .any (Rows.blockCallsSpec.pre6 enc Try.prog Try.f3 Rows.blockCallsRow.domain false) (Rows.blockCallsSpec.post enc Try.prog Try.f3 false true false false) :=
  law_lifted (C := Try.checked) (fn := Try.f3) (s := Rows.blockCallsSpec) (tb := t_bool) blockCalls_own started (by kernel_rfl) Try.func3
    (ChangeSpec.witness6 (enc := enc) (C := Try.checked) false ⟨#[], #[zeroArg Try.prog t_Config, zeroArg Try.prog t_Core, zeroArg Try.prog t_law15_Cycle], []⟩ 8 (by kernel_rfl) (by kernel_rfl) (by kernel_rfl) (by kernel_rfl))
    blockCalls_laidOut (by kernel_rfl) rfl (by kernel_rfl) (by kernel_rfl) (fun ds hds => law_fn3 hds) (fun xs h => law15_BlockCalls_ok h)

theorem blockCalls_holds : Rows.BlockCallsSaid :=
  OpenClaim.holds_of_wide 3 Try.f3 rfl rfl rfl rfl rfl rfl rfl ⟨rfl, rfl, rfl, rfl, rfl⟩ rfl rfl rfl rfl rfl (by kernel_rfl) Try.func3 (by kernel_rfl)
    (of_decide_eq_true (by kernel_rfl)) (by unfold Func.isWrapper; first | (rw [if_pos (by decide +kernel)]; kernel_rfl) | (rw [if_neg (by decide +kernel)]; exact ⟨rfl, rfl⟩))
    (fun os started H enc _ => blockCalls_lifted os started H enc)
end Go.Proofs.Ytnochggjgopfeaa
