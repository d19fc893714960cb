/-
  What is proved: LocksApart: what can be locked in a free station, and what then can't, for every input.
  Conditions: none.
-/
import Derived.Test.YtjggnhjidheliaaGreatRows
import Derived.Test.YtjggnhjidheliaaGreatP5
namespace Go.Proofs.YtjggnhjidheliaaGreat
open Go.ChangeShapes Go.WideShapes Go.RowKit Go.Fw

theorem locksApart_own : ownKnob Tryz.prog.godebug = none := by kernel_rfl
theorem locksApart_laidOut : laidOutB Tryz.prog = true := by kernel_rfl

set_option maxRecDepth 100000 in
theorem locksApart_lifted (os : Os) (started : os.Started) (H : Type) (enc : TypeId × Value → H) :
    ReturnsInHanded {} Tryz.checked os 3 .any (Rows.locksApartSpec.pre6 enc Tryz.prog Tryz.f3 Rows.locksApartRow.domain false) (Rows.locksApartSpec.post enc Tryz.prog Tryz.f3 false true false false) :=
  law_lifted (C := Tryz.checked) (fn := Tryz.f3) (s := Rows.locksApartSpec) (tb := t_bool) locksApart_own started (by kernel_rfl) Tryz.func3
    (ChangeSpec.witness6 (enc := enc) (C := Tryz.checked) false ⟨#[], #[zeroArg Tryz.prog t_Config, zeroArg Tryz.prog t_int, zeroArg Tryz.prog t_int], []⟩ 8 (by kernel_rfl) (by kernel_rfl) (by kernel_rfl) (by kernel_rfl))
    locksApart_laidOut (by kernel_rfl) rfl (by kernel_rfl) (by kernel_rfl) (fun ds hds => law_fn3 hds) (fun xs h => law13_LocksApart_ok h)

theorem locksApart_holds : Rows.LocksApartSaid :=
  OpenClaim.holds_of_wide 3 Tryz.f3 rfl rfl rfl rfl rfl rfl rfl ⟨rfl, rfl, rfl, rfl, rfl⟩ rfl rfl rfl rfl rfl (by kernel_rfl) Tryz.func3 (by kernel_rfl)
    (of_decide_eq_true (by kernel_rfl)) (by unfold Func.isWrapper; first | (rw [if_pos (by decide +kernel)]; kernel_rfl) | (rw [if_neg (by decide +kernel)]; exact ⟨rfl, rfl⟩))
    (fun os started H enc _ => locksApart_lifted os started H enc)
end Go.Proofs.YtjggnhjidheliaaGreat
