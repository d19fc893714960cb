/-
  What is proved: ArsBerths: no number comes to stand at two berths, and none comes out of nowhere, for every input.
  Conditions: none.
-/
import Derived.Test.YteflnjedfmmddaaRows
import Derived.Test.YteflnjedfmmddaaP4
namespace Go.Proofs.Yteflnjedfmmddaa
open Go.ChangeShapes Go.WideShapes Go.RowKit Go.Fw

theorem arsBerths_own : ownKnob Try.prog.godebug = none := by kernel_rfl
theorem arsBerths_laidOut : laidOutB Try.prog = true := by kernel_rfl

set_option maxRecDepth 100000 in
theorem arsBerths_lifted (os : Os) (started : os.Started) (H : Type) (enc : TypeId × Value → H) :
    ReturnsInHanded {} Try.checked os 7 .any (Rows.arsBerthsSpec.pre6 enc Try.prog Try.f7 Rows.arsBerthsRow.domain false) (Rows.arsBerthsSpec.post enc Try.prog Try.f7 false true false false) :=
  law_lifted (C := Try.checked) (fn := Try.f7) (s := Rows.arsBerthsSpec) (tb := t_bool) arsBerths_own started (by kernel_rfl) Try.func7
    (ChangeSpec.witness6 (enc := enc) (C := Try.checked) false ⟨#[], #[zeroArg Try.prog t_Config, zeroArg Try.prog t_law16_World, zeroArg Try.prog t_sl_int], []⟩ 8 (by kernel_rfl) (by kernel_rfl) (by kernel_rfl) (by kernel_rfl))
    arsBerths_laidOut (by kernel_rfl) rfl (by kernel_rfl) (by kernel_rfl) (fun ds hds => law_fn3 hds) (fun xs h => law16_ArsBerths_ok h)

theorem arsBerths_holds : Rows.ArsBerthsSaid :=
  OpenClaim.holds_of_wide 7 Try.f7 rfl rfl rfl rfl rfl rfl rfl ⟨rfl, rfl, rfl, rfl, rfl⟩ rfl rfl rfl rfl rfl (by kernel_rfl) Try.func7 (by kernel_rfl)
    (of_decide_eq_true (by kernel_rfl)) (by unfold Func.isWrapper; first | (rw [if_pos (by decide +kernel)]; kernel_rfl) | (rw [if_neg (by decide +kernel)]; exact ⟨rfl, rfl⟩))
    (fun os started H enc _ => arsBerths_lifted os started H enc)
end Go.Proofs.Yteflnjedfmmddaa
