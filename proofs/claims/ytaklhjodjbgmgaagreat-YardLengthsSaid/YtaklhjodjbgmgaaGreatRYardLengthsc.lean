/-
  What is proved: YardLengths: a train that goes on has one section more at its head, one that leaves its last section one less, and else its sections stay, for every input.
  Conditions: none.
-/
import Derived.Test.YtaklhjodjbgmgaaGreatRows
import Derived.Test.YtaklhjodjbgmgaaGreatP6
namespace Go.Proofs.YtaklhjodjbgmgaaGreat
open Go.ChangeShapes Go.WideShapes Go.RowKit Go.Fw

theorem yardLengths_own : ownKnob Tryz.prog.godebug = none := by kernel_rfl
theorem yardLengths_laidOut : laidOutB Tryz.prog = true := by kernel_rfl

set_option maxRecDepth 100000 in
theorem yardLengths_lifted (os : Os) (started : os.Started) (H : Type) (enc : TypeId × Value → H) :
    ReturnsInHanded {} Tryz.checked os 4 .any (Rows.yardLengthsSpec.pre6 enc Tryz.prog Tryz.f4 Rows.yardLengthsRow.domain false) (Rows.yardLengthsSpec.post enc Tryz.prog Tryz.f4 false true false false) :=
  law_lifted (C := Tryz.checked) (fn := Tryz.f4) (s := Rows.yardLengthsSpec) (tb := t_bool) yardLengths_own started (by kernel_rfl) Tryz.func4
    (ChangeSpec.witness6 (enc := enc) (C := Tryz.checked) false ⟨#[], #[zeroArg Tryz.prog t_law19_Case, zeroArg Tryz.prog t_sl_law19_Op], []⟩ 8 (by kernel_rfl) (by kernel_rfl) (by kernel_rfl) (by kernel_rfl))
    yardLengths_laidOut (by kernel_rfl) rfl (by kernel_rfl) (by kernel_rfl) (fun ds hds => law_fn2 hds) (fun xs h => law19_YardLengths_ok h)

theorem yardLengths_j1 : (Rows.yardLengthsRow.wf (OpenSpec.ofChange Rows.yardLengthsSpec) && mapsRowed Tryz.pinned.checked.prog && Tryz.f4.params.all (Tryz.pinned.checked.prog.readableRec ·) && namedTie Tryz.pinned.checked.prog Rows.yardLengthsRow.named Rows.yardLengthsSpec.vars && (Rows.yardLengthsRow.stops == []) && (Tryz.pinned.checked.prog.stops == []) && (Rows.yardLengthsRow.knobs == []) && (Tryz.pinned.checked.prog.stopKnobs == []) && (Rows.yardLengthsRow.inPlace == Tryz.pinned.checked.prog.inPlace 4)) = true := by kernel_rfl
theorem yardLengths_j2 : (Rows.yardLengthsRow.unfollowed == Tryz.pinned.checked.prog.unfollowed 4) = true := by kernel_rfl
theorem yardLengths_j3 : (Rows.yardLengthsRow.recurses == Tryz.pinned.checked.prog.recurses 4) = true := by kernel_rfl
theorem yardLengths_j4 : (Rows.yardLengthsRow.named == Tryz.pinned.checked.prog.varsNamed 4) = true := by kernel_rfl
theorem yardLengths_fn : Tryz.pinned.checked.prog.funcNamed Rows.yardLengthsRow.func = some 4 := by kernel_rfl

theorem yardLengths_joined : joinedFacts Tryz.pinned.checked.prog 4 Tryz.f4 Rows.yardLengthsSpec Rows.yardLengthsRow = true :=
  joined_of yardLengths_laidOut yardLengths_j1 yardLengths_j2 yardLengths_j3 yardLengths_j4 (by as_aux_lemma => kernel_rfl) (by as_aux_lemma => kernel_rfl) (by as_aux_lemma => kernel_rfl) (by as_aux_lemma => kernel_rfl)

theorem yardLengths_holds : Rows.YardLengthsSaid :=
  OpenClaim.holds_of_wide 4 Tryz.f4 rfl rfl rfl rfl rfl rfl rfl ⟨rfl, rfl, rfl, rfl, rfl⟩ rfl rfl rfl rfl rfl yardLengths_fn Tryz.func4 yardLengths_joined
    (of_decide_eq_true (by as_aux_lemma => kernel_rfl)) (by unfold Func.isWrapper; first | (rw [if_pos (by decide +kernel)]; kernel_rfl) | (rw [if_neg (by decide +kernel)]; exact ⟨rfl, rfl⟩))
    (fun os started H enc _ => yardLengths_lifted os started H enc)
end Go.Proofs.YtaklhjodjbgmgaaGreat
