/-
  What is proved: BlockQuiet: a neighbour that asks for nothing new gets nothing, cycle by cycle, for every input.
  Conditions: none.
-/
import Derived.Test.YtnochggjgopfeaaRows
import Derived.Test.YtnochggjgopfeaaP5
namespace Go.Proofs.Ytnochggjgopfeaa
open Go.ChangeShapes Go.WideShapes Go.RowKit Go.Fw

theorem blockQuiet_own : ownKnob Try.prog.godebug = none := by kernel_rfl
theorem blockQuiet_laidOut : laidOutB Try.prog = true := by kernel_rfl

set_option maxRecDepth 100000 in
theorem blockQuiet_lifted (os : Os) (started : os.Started) (H : Type) (enc : TypeId × Value → H) :
    ReturnsInHanded {} Try.checked os 5 .any (Rows.blockQuietSpec.pre6 enc Try.prog Try.f5 Rows.blockQuietRow.domain false) (Rows.blockQuietSpec.post enc Try.prog Try.f5 false true false false) :=
  law_lifted (C := Try.checked) (fn := Try.f5) (s := Rows.blockQuietSpec) (tb := t_bool) blockQuiet_own started (by kernel_rfl) Try.func5
    (ChangeSpec.witness6 (enc := enc) (C := Try.checked) false ⟨#[], #[zeroArg Try.prog t_int, zeroArg Try.prog t_sl_bool], []⟩ 8 (by kernel_rfl) (by kernel_rfl) (by kernel_rfl) (by kernel_rfl))
    blockQuiet_laidOut (by kernel_rfl) rfl (by kernel_rfl) (by kernel_rfl) (fun ds hds => law_fn2 hds) (fun xs h => law15_BlockQuiet_ok h)

theorem blockQuiet_holds : Rows.BlockQuietSaid :=
  OpenClaim.holds_of_wide 5 Try.f5 rfl rfl rfl rfl rfl rfl rfl ⟨rfl, rfl, rfl, rfl, rfl⟩ rfl rfl rfl rfl rfl (by kernel_rfl) Try.func5 (by kernel_rfl)
    (of_decide_eq_true (by kernel_rfl)) (by unfold Func.isWrapper; first | (rw [if_pos (by decide +kernel)]; kernel_rfl) | (rw [if_neg (by decide +kernel)]; exact ⟨rfl, rfl⟩))
    (fun os started H enc _ => blockQuiet_lifted os started H enc)
end Go.Proofs.Ytnochggjgopfeaa
