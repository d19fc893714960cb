/-
  What is proved: WatchExact: what is wrong with a state, and what went from owner to owner, is what the document says, for every input.
  Conditions: none.
-/
import Derived.Test.YteflnjedfmmddaaRows
import Derived.Test.YteflnjedfmmddaaP5
namespace Go.Proofs.Yteflnjedfmmddaa
open Go.ChangeShapes Go.WideShapes Go.RowKit Go.Fw

theorem watchExact_own : ownKnob Try.prog.godebug = none := by kernel_rfl
theorem watchExact_laidOut : laidOutB Try.prog = true := by kernel_rfl

set_option maxRecDepth 100000 in
theorem watchExact_lifted (os : Os) (started : os.Started) (H : Type) (enc : TypeId × Value → H) :
    ReturnsInHanded {} Try.checked os 3 .any (Rows.watchExactSpec.pre6 enc Try.prog Try.f3 Rows.watchExactRow.domain false) (Rows.watchExactSpec.post enc Try.prog Try.f3 false true false false) :=
  law_lifted (C := Try.checked) (fn := Try.f3) (s := Rows.watchExactSpec) (tb := t_bool) watchExact_own started (by kernel_rfl) Try.func3
    (ChangeSpec.witness6 (enc := enc) (C := Try.checked) false ⟨#[], #[zeroArg Try.prog t_Config, zeroArg Try.prog t_Core, zeroArg Try.prog t_Core], []⟩ 8 (by kernel_rfl) (by kernel_rfl) (by kernel_rfl) (by kernel_rfl))
    watchExact_laidOut (by kernel_rfl) rfl (by kernel_rfl) (by kernel_rfl) (fun ds hds => law_fn3 hds) (fun xs h => law22_WatchExact_ok h)

theorem watchExact_holds : Rows.WatchExactSaid :=
  OpenClaim.holds_of_wide 3 Try.f3 rfl rfl rfl rfl rfl rfl rfl ⟨rfl, rfl, rfl, rfl, rfl⟩ rfl rfl rfl rfl rfl (by kernel_rfl) Try.func3 (by kernel_rfl)
    (of_decide_eq_true (by kernel_rfl)) (by unfold Func.isWrapper; first | (rw [if_pos (by decide +kernel)]; kernel_rfl) | (rw [if_neg (by decide +kernel)]; exact ⟨rfl, rfl⟩))
    (fun os started H enc _ => watchExact_lifted os started H enc)
end Go.Proofs.Yteflnjedfmmddaa
