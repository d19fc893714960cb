/-
  What is proved: LocksColds: at the first start nothing can be locked and no point thrown, for every input.
  Conditions: none.
-/
import Derived.Test.YtjggnhjidheliaaGreatRows
import Derived.Test.YtjggnhjidheliaaGreatP5
namespace Go.Proofs.YtjggnhjidheliaaGreat
open Go.ChangeShapes Go.WideShapes Go.RowKit Go.Fw

theorem locksColds_own : ownKnob Tryz.prog.godebug = none := by kernel_rfl
theorem locksColds_laidOut : laidOutB Tryz.prog = true := by kernel_rfl

set_option maxRecDepth 100000 in
theorem locksColds_lifted (os : Os) (started : os.Started) (H : Type) (enc : TypeId × Value → H) :
    ReturnsInHanded {} Tryz.checked os 4 .any (Rows.locksColdsSpec.pre6 enc Tryz.prog Tryz.f4 Rows.locksColdsRow.domain false) (Rows.locksColdsSpec.post enc Tryz.prog Tryz.f4 false true false false) :=
  law_lifted (C := Tryz.checked) (fn := Tryz.f4) (s := Rows.locksColdsSpec) (tb := t_bool) locksColds_own started (by kernel_rfl) Tryz.func4
    (ChangeSpec.witness6 (enc := enc) (C := Tryz.checked) false ⟨#[], #[zeroArg Tryz.prog t_Config, zeroArg Tryz.prog t_int, zeroArg Tryz.prog t_int], []⟩ 8 (by kernel_rfl) (by kernel_rfl) (by kernel_rfl) (by kernel_rfl))
    locksColds_laidOut (by kernel_rfl) rfl (by kernel_rfl) (by kernel_rfl) (fun ds hds => law_fn3 hds) (fun xs h => law13_LocksColds_ok h)

theorem locksColds_holds : Rows.LocksColdsSaid :=
  OpenClaim.holds_of_wide 4 Tryz.f4 rfl rfl rfl rfl rfl rfl rfl ⟨rfl, rfl, rfl, rfl, rfl⟩ rfl rfl rfl rfl rfl (by kernel_rfl) Tryz.func4 (by kernel_rfl)
    (of_decide_eq_true (by kernel_rfl)) (by unfold Func.isWrapper; first | (rw [if_pos (by decide +kernel)]; kernel_rfl) | (rw [if_neg (by decide +kernel)]; exact ⟨rfl, rfl⟩))
    (fun os started H enc _ => locksColds_lifted os started H enc)
end Go.Proofs.YtjggnhjidheliaaGreat
