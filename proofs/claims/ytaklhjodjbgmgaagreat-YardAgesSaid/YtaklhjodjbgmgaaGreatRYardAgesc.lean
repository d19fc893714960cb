/-
  What is proved: YardAges: what a controller was ordered to show is shown while the orders are at most the age old, and from then on every one of its signals shows stop, for every input.
  Conditions: none.
-/
import Derived.Test.YtaklhjodjbgmgaaGreatRows
import Derived.Test.YtaklhjodjbgmgaaGreatP6
namespace Go.Proofs.YtaklhjodjbgmgaaGreat
open Go.ChangeShapes Go.WideShapes Go.RowKit Go.Fw

theorem yardAges_own : ownKnob Tryz.prog.godebug = none := by kernel_rfl
theorem yardAges_laidOut : laidOutB Tryz.prog = true := by kernel_rfl

set_option maxRecDepth 100000 in
theorem yardAges_lifted (os : Os) (started : os.Started) (H : Type) (enc : TypeId × Value → H) :
    ReturnsInHanded {} Tryz.checked os 3 .any (Rows.yardAgesSpec.pre6 enc Tryz.prog Tryz.f3 Rows.yardAgesRow.domain false) (Rows.yardAgesSpec.post enc Tryz.prog Tryz.f3 false true false false) :=
  law_lifted (C := Tryz.checked) (fn := Tryz.f3) (s := Rows.yardAgesSpec) (tb := t_bool) yardAges_own started (by kernel_rfl) Tryz.func3
    (ChangeSpec.witness6 (enc := enc) (C := Tryz.checked) false ⟨#[], #[zeroArg Tryz.prog t_law19_Case, zeroArg Tryz.prog t_int, zeroArg Tryz.prog t_int], []⟩ 8 (by kernel_rfl) (by kernel_rfl) (by kernel_rfl) (by kernel_rfl))
    yardAges_laidOut (by kernel_rfl) rfl (by kernel_rfl) (by kernel_rfl) (fun ds hds => law_fn3 hds) (fun xs h => law19_YardAges_ok h)

theorem yardAges_j1 : (Rows.yardAgesRow.wf (OpenSpec.ofChange Rows.yardAgesSpec) && mapsRowed Tryz.pinned.checked.prog && Tryz.f3.params.all (Tryz.pinned.checked.prog.readableRec ·) && namedTie Tryz.pinned.checked.prog Rows.yardAgesRow.named Rows.yardAgesSpec.vars && (Rows.yardAgesRow.stops == []) && (Tryz.pinned.checked.prog.stops == []) && (Rows.yardAgesRow.knobs == []) && (Tryz.pinned.checked.prog.stopKnobs == []) && (Rows.yardAgesRow.inPlace == Tryz.pinned.checked.prog.inPlace 3)) = true := by kernel_rfl
theorem yardAges_j2 : (Rows.yardAgesRow.unfollowed == Tryz.pinned.checked.prog.unfollowed 3) = true := by kernel_rfl
theorem yardAges_j3 : (Rows.yardAgesRow.recurses == Tryz.pinned.checked.prog.recurses 3) = true := by kernel_rfl
theorem yardAges_j4 : (Rows.yardAgesRow.named == Tryz.pinned.checked.prog.varsNamed 3) = true := by kernel_rfl
theorem yardAges_fn : Tryz.pinned.checked.prog.funcNamed Rows.yardAgesRow.func = some 3 := by kernel_rfl

theorem yardAges_joined : joinedFacts Tryz.pinned.checked.prog 3 Tryz.f3 Rows.yardAgesSpec Rows.yardAgesRow = true :=
  joined_of yardAges_laidOut yardAges_j1 yardAges_j2 yardAges_j3 yardAges_j4 (by as_aux_lemma => kernel_rfl) (by as_aux_lemma => kernel_rfl) (by as_aux_lemma => kernel_rfl) (by as_aux_lemma => kernel_rfl)

theorem yardAges_holds : Rows.YardAgesSaid :=
  OpenClaim.holds_of_wide 3 Tryz.f3 rfl rfl rfl rfl rfl rfl rfl ⟨rfl, rfl, rfl, rfl, rfl⟩ rfl rfl rfl rfl rfl yardAges_fn Tryz.func3 yardAges_joined
    (of_decide_eq_true (by as_aux_lemma => kernel_rfl)) (by unfold Func.isWrapper; first | (rw [if_pos (by decide +kernel)]; kernel_rfl) | (rw [if_neg (by decide +kernel)]; exact ⟨rfl, rfl⟩))
    (fun os started H enc _ => yardAges_lifted os started H enc)
end Go.Proofs.YtaklhjodjbgmgaaGreat
