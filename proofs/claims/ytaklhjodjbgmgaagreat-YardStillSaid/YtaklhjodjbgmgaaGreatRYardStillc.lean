/-
  What is proved: YardStill: without orders no point and no crossing ever moves, and no train passes a signal, for every input.
  Conditions: none.
-/
import Derived.Test.YtaklhjodjbgmgaaGreatRows
import Derived.Test.YtaklhjodjbgmgaaGreatP6
namespace Go.Proofs.YtaklhjodjbgmgaaGreat
open Go.ChangeShapes Go.WideShapes Go.RowKit Go.Fw

theorem yardStill_own : ownKnob Tryz.prog.godebug = none := by kernel_rfl
theorem yardStill_laidOut : laidOutB Tryz.prog = true := by kernel_rfl

set_option maxRecDepth 100000 in
theorem yardStill_lifted (os : Os) (started : os.Started) (H : Type) (enc : TypeId × Value → H) :
    ReturnsInHanded {} Tryz.checked os 7 .any (Rows.yardStillSpec.pre6 enc Tryz.prog Tryz.f7 Rows.yardStillRow.domain false) (Rows.yardStillSpec.post enc Tryz.prog Tryz.f7 false true false false) :=
  law_lifted (C := Tryz.checked) (fn := Tryz.f7) (s := Rows.yardStillSpec) (tb := t_bool) yardStill_own started (by kernel_rfl) Tryz.func7
    (ChangeSpec.witness6 (enc := enc) (C := Tryz.checked) false ⟨#[], #[zeroArg Tryz.prog t_law19_Case, zeroArg Tryz.prog t_sl_law19_Op], []⟩ 8 (by kernel_rfl) (by kernel_rfl) (by kernel_rfl) (by kernel_rfl))
    yardStill_laidOut (by kernel_rfl) rfl (by kernel_rfl) (by kernel_rfl) (fun ds hds => law_fn2 hds) (fun xs h => law19_YardStill_ok h)

theorem yardStill_j1 : (Rows.yardStillRow.wf (OpenSpec.ofChange Rows.yardStillSpec) && mapsRowed Tryz.pinned.checked.prog && Tryz.f7.params.all (Tryz.pinned.checked.prog.readableRec ·) && namedTie Tryz.pinned.checked.prog Rows.yardStillRow.named Rows.yardStillSpec.vars && (Rows.yardStillRow.stops == []) && (Tryz.pinned.checked.prog.stops == []) && (Rows.yardStillRow.knobs == []) && (Tryz.pinned.checked.prog.stopKnobs == []) && (Rows.yardStillRow.inPlace == Tryz.pinned.checked.prog.inPlace 7)) = true := by kernel_rfl
theorem yardStill_j2 : (Rows.yardStillRow.unfollowed == Tryz.pinned.checked.prog.unfollowed 7) = true := by kernel_rfl
theorem yardStill_j3 : (Rows.yardStillRow.recurses == Tryz.pinned.checked.prog.recurses 7) = true := by kernel_rfl
theorem yardStill_j4 : (Rows.yardStillRow.named == Tryz.pinned.checked.prog.varsNamed 7) = true := by kernel_rfl
theorem yardStill_fn : Tryz.pinned.checked.prog.funcNamed Rows.yardStillRow.func = some 7 := by kernel_rfl

theorem yardStill_joined : joinedFacts Tryz.pinned.checked.prog 7 Tryz.f7 Rows.yardStillSpec Rows.yardStillRow = true :=
  joined_of yardStill_laidOut yardStill_j1 yardStill_j2 yardStill_j3 yardStill_j4 (by as_aux_lemma => kernel_rfl) (by as_aux_lemma => kernel_rfl) (by as_aux_lemma => kernel_rfl) (by as_aux_lemma => kernel_rfl)

theorem yardStill_holds : Rows.YardStillSaid :=
  OpenClaim.holds_of_wide 7 Tryz.f7 rfl rfl rfl rfl rfl rfl rfl ⟨rfl, rfl, rfl, rfl, rfl⟩ rfl rfl rfl rfl rfl yardStill_fn Tryz.func7 yardStill_joined
    (of_decide_eq_true (by as_aux_lemma => kernel_rfl)) (by unfold Func.isWrapper; first | (rw [if_pos (by decide +kernel)]; kernel_rfl) | (rw [if_neg (by decide +kernel)]; exact ⟨rfl, rfl⟩))
    (fun os started H enc _ => yardStill_lifted os started H enc)
end Go.Proofs.YtaklhjodjbgmgaaGreat
