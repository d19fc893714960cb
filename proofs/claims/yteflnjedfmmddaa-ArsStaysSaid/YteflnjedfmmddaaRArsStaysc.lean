/-
  What is proved: ArsStays: where no route comes to be ending the numbers stay where they stand, for every input.
  Conditions: none.
-/
import Derived.Test.YteflnjedfmmddaaRows
import Derived.Test.YteflnjedfmmddaaP4
namespace Go.Proofs.Yteflnjedfmmddaa
open Go.ChangeShapes Go.WideShapes Go.RowKit Go.Fw

theorem arsStays_own : ownKnob Try.prog.godebug = none := by kernel_rfl
theorem arsStays_laidOut : laidOutB Try.prog = true := by kernel_rfl

set_option maxRecDepth 100000 in
theorem arsStays_lifted (os : Os) (started : os.Started) (H : Type) (enc : TypeId × Value → H) :
    ReturnsInHanded {} Try.checked os 8 .any (Rows.arsStaysSpec.pre6 enc Try.prog Try.f8 Rows.arsStaysRow.domain false) (Rows.arsStaysSpec.post enc Try.prog Try.f8 false true false false) :=
  law_lifted (C := Try.checked) (fn := Try.f8) (s := Rows.arsStaysSpec) (tb := t_bool) arsStays_own started (by kernel_rfl) Try.func8
    (ChangeSpec.witness6 (enc := enc) (C := Try.checked) false ⟨#[], #[zeroArg Try.prog t_Config, zeroArg Try.prog t_law16_World, zeroArg Try.prog t_sl_int], []⟩ 8 (by kernel_rfl) (by kernel_rfl) (by kernel_rfl) (by kernel_rfl))
    arsStays_laidOut (by kernel_rfl) rfl (by kernel_rfl) (by kernel_rfl) (fun ds hds => law_fn3 hds) (fun xs h => law16_ArsStays_ok h)

theorem arsStays_holds : Rows.ArsStaysSaid :=
  OpenClaim.holds_of_wide 8 Try.f8 rfl rfl rfl rfl rfl rfl rfl ⟨rfl, rfl, rfl, rfl, rfl⟩ rfl rfl rfl rfl rfl (by kernel_rfl) Try.func8 (by kernel_rfl)
    (of_decide_eq_true (by kernel_rfl)) (by unfold Func.isWrapper; first | (rw [if_pos (by decide +kernel)]; kernel_rfl) | (rw [if_neg (by decide +kernel)]; exact ⟨rfl, rfl⟩))
    (fun os started H enc _ => arsStays_lifted os started H enc)
end Go.Proofs.Yteflnjedfmmddaa
