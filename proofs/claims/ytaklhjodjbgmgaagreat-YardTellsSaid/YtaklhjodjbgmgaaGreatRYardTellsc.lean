/-
  What is proved: YardTells: no section with a train is told as clear, no moving point as standing, no crossing that isn't closed as closed, for every input.
  Conditions: none.
-/
import Derived.Test.YtaklhjodjbgmgaaGreatRows
import Derived.Test.YtaklhjodjbgmgaaGreatP6
namespace Go.Proofs.YtaklhjodjbgmgaaGreat
open Go.ChangeShapes Go.WideShapes Go.RowKit Go.Fw

theorem yardTells_own : ownKnob Tryz.prog.godebug = none := by kernel_rfl
theorem yardTells_laidOut : laidOutB Tryz.prog = true := by kernel_rfl

set_option maxRecDepth 100000 in
theorem yardTells_lifted (os : Os) (started : os.Started) (H : Type) (enc : TypeId × Value → H) :
    ReturnsInHanded {} Tryz.checked os 6 .any (Rows.yardTellsSpec.pre6 enc Tryz.prog Tryz.f6 Rows.yardTellsRow.domain false) (Rows.yardTellsSpec.post enc Tryz.prog Tryz.f6 false true false false) :=
  law_lifted (C := Tryz.checked) (fn := Tryz.f6) (s := Rows.yardTellsSpec) (tb := t_bool) yardTells_own started (by kernel_rfl) Tryz.func6
    (ChangeSpec.witness6 (enc := enc) (C := Tryz.checked) false ⟨#[], #[zeroArg Tryz.prog t_law19_Case, zeroArg Tryz.prog t_sl_law19_Op], []⟩ 8 (by kernel_rfl) (by kernel_rfl) (by kernel_rfl) (by kernel_rfl))
    yardTells_laidOut (by kernel_rfl) rfl (by kernel_rfl) (by kernel_rfl) (fun ds hds => law_fn2 hds) (fun xs h => law19_YardTells_ok h)

theorem yardTells_j1 : (Rows.yardTellsRow.wf (OpenSpec.ofChange Rows.yardTellsSpec) && mapsRowed Tryz.pinned.checked.prog && Tryz.f6.params.all (Tryz.pinned.checked.prog.readableRec ·) && namedTie Tryz.pinned.checked.prog Rows.yardTellsRow.named Rows.yardTellsSpec.vars && (Rows.yardTellsRow.stops == []) && (Tryz.pinned.checked.prog.stops == []) && (Rows.yardTellsRow.knobs == []) && (Tryz.pinned.checked.prog.stopKnobs == []) && (Rows.yardTellsRow.inPlace == Tryz.pinned.checked.prog.inPlace 6)) = true := by kernel_rfl
theorem yardTells_j2 : (Rows.yardTellsRow.unfollowed == Tryz.pinned.checked.prog.unfollowed 6) = true := by kernel_rfl
theorem yardTells_j3 : (Rows.yardTellsRow.recurses == Tryz.pinned.checked.prog.recurses 6) = true := by kernel_rfl
theorem yardTells_j4 : (Rows.yardTellsRow.named == Tryz.pinned.checked.prog.varsNamed 6) = true := by kernel_rfl
theorem yardTells_fn : Tryz.pinned.checked.prog.funcNamed Rows.yardTellsRow.func = some 6 := by kernel_rfl

theorem yardTells_joined : joinedFacts Tryz.pinned.checked.prog 6 Tryz.f6 Rows.yardTellsSpec Rows.yardTellsRow = true :=
  joined_of yardTells_laidOut yardTells_j1 yardTells_j2 yardTells_j3 yardTells_j4 (by as_aux_lemma => kernel_rfl) (by as_aux_lemma => kernel_rfl) (by as_aux_lemma => kernel_rfl) (by as_aux_lemma => kernel_rfl)

theorem yardTells_holds : Rows.YardTellsSaid :=
  OpenClaim.holds_of_wide 6 Tryz.f6 rfl rfl rfl rfl rfl rfl rfl ⟨rfl, rfl, rfl, rfl, rfl⟩ rfl rfl rfl rfl rfl yardTells_fn Tryz.func6 yardTells_joined
    (of_decide_eq_true (by as_aux_lemma => kernel_rfl)) (by unfold Func.isWrapper; first | (rw [if_pos (by decide +kernel)]; kernel_rfl) | (rw [if_neg (by decide +kernel)]; exact ⟨rfl, rfl⟩))
    (fun os started H enc _ => yardTells_lifted os started H enc)
end Go.Proofs.YtaklhjodjbgmgaaGreat
