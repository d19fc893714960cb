/-
  What is proved: ArsDue: nothing is due ahead of its time, when it is done, twice, or for a route that is locked, and earlier ones stand first, for every input.
  Conditions: none.
-/
import Derived.Test.YteflnjedfmmddaaRows
import Derived.Test.YteflnjedfmmddaaP4
namespace Go.Proofs.Yteflnjedfmmddaa
open Go.ChangeShapes Go.WideShapes Go.RowKit Go.Fw

theorem arsDue_own : ownKnob Try.prog.godebug = none := by kernel_rfl
theorem arsDue_laidOut : laidOutB Try.prog = true := by kernel_rfl

set_option maxRecDepth 100000 in
theorem arsDue_lifted (os : Os) (started : os.Started) (H : Type) (enc : TypeId × Value → H) :
    ReturnsInHanded {} Try.checked os 4 .any (Rows.arsDueSpec.pre6 enc Try.prog Try.f4 Rows.arsDueRow.domain false) (Rows.arsDueSpec.post enc Try.prog Try.f4 false true false false) :=
  law_lifted (C := Try.checked) (fn := Try.f4) (s := Rows.arsDueSpec) (tb := t_bool) arsDue_own started (by kernel_rfl) Try.func4
    (ChangeSpec.witness6 (enc := enc) (C := Try.checked) false ⟨#[], #[zeroArg Try.prog t_Config, zeroArg Try.prog t_law16_World, zeroArg Try.prog t_law16_Ask], []⟩ 8 (by kernel_rfl) (by kernel_rfl) (by kernel_rfl) (by kernel_rfl))
    arsDue_laidOut (by kernel_rfl) rfl (by kernel_rfl) (by kernel_rfl) (fun ds hds => law_fn3 hds) (fun xs h => law16_ArsDue_ok h)

theorem arsDue_holds : Rows.ArsDueSaid :=
  OpenClaim.holds_of_wide 4 Try.f4 rfl rfl rfl rfl rfl rfl rfl ⟨rfl, rfl, rfl, rfl, rfl⟩ rfl rfl rfl rfl rfl (by kernel_rfl) Try.func4 (by kernel_rfl)
    (of_decide_eq_true (by kernel_rfl)) (by unfold Func.isWrapper; first | (rw [if_pos (by decide +kernel)]; kernel_rfl) | (rw [if_neg (by decide +kernel)]; exact ⟨rfl, rfl⟩))
    (fun os started H enc _ => arsDue_lifted os started H enc)
end Go.Proofs.Yteflnjedfmmddaa
