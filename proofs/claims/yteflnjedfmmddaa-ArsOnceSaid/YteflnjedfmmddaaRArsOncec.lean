/-
  What is proved: ArsOnce: when all that is due is done nothing is due any more at this time, and what becomes due later was not due yet, for every input.
  Conditions: none.
-/
import Derived.Test.YteflnjedfmmddaaRows
import Derived.Test.YteflnjedfmmddaaP4
namespace Go.Proofs.Yteflnjedfmmddaa
open Go.ChangeShapes Go.WideShapes Go.RowKit Go.Fw

theorem arsOnce_own : ownKnob Try.prog.godebug = none := by kernel_rfl
theorem arsOnce_laidOut : laidOutB Try.prog = true := by kernel_rfl

set_option maxRecDepth 100000 in
theorem arsOnce_lifted (os : Os) (started : os.Started) (H : Type) (enc : TypeId × Value → H) :
    ReturnsInHanded {} Try.checked os 5 .any (Rows.arsOnceSpec.pre6 enc Try.prog Try.f5 Rows.arsOnceRow.domain false) (Rows.arsOnceSpec.post enc Try.prog Try.f5 false true false false) :=
  law_lifted (C := Try.checked) (fn := Try.f5) (s := Rows.arsOnceSpec) (tb := t_bool) arsOnce_own started (by kernel_rfl) Try.func5
    (ChangeSpec.witness6 (enc := enc) (C := Try.checked) false ⟨#[], #[zeroArg Try.prog t_Config, zeroArg Try.prog t_law16_World, zeroArg Try.prog t_law16_Ask], []⟩ 8 (by kernel_rfl) (by kernel_rfl) (by kernel_rfl) (by kernel_rfl))
    arsOnce_laidOut (by kernel_rfl) rfl (by kernel_rfl) (by kernel_rfl) (fun ds hds => law_fn3 hds) (fun xs h => law16_ArsOnce_ok h)

theorem arsOnce_holds : Rows.ArsOnceSaid :=
  OpenClaim.holds_of_wide 5 Try.f5 rfl rfl rfl rfl rfl rfl rfl ⟨rfl, rfl, rfl, rfl, rfl⟩ rfl rfl rfl rfl rfl (by kernel_rfl) Try.func5 (by kernel_rfl)
    (of_decide_eq_true (by kernel_rfl)) (by unfold Func.isWrapper; first | (rw [if_pos (by decide +kernel)]; kernel_rfl) | (rw [if_neg (by decide +kernel)]; exact ⟨rfl, rfl⟩))
    (fun os started H enc _ => arsOnce_lifted os started H enc)
end Go.Proofs.Yteflnjedfmmddaa
