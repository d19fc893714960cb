/-
  What is proved: YardTurns: a train that turns about and about again stands as it stood, for every input.
  Conditions: none.
-/
import Derived.Test.YtaklhjodjbgmgaaGreatRows
import Derived.Test.YtaklhjodjbgmgaaGreatP6
namespace Go.Proofs.YtaklhjodjbgmgaaGreat
open Go.ChangeShapes Go.WideShapes Go.RowKit Go.Fw

theorem yardTurns_own : ownKnob Tryz.prog.godebug = none := by kernel_rfl
theorem yardTurns_laidOut : laidOutB Tryz.prog = true := by kernel_rfl

set_option maxRecDepth 100000 in
theorem yardTurns_lifted (os : Os) (started : os.Started) (H : Type) (enc : TypeId × Value → H) :
    ReturnsInHanded {} Tryz.checked os 5 .any (Rows.yardTurnsSpec.pre6 enc Tryz.prog Tryz.f5 Rows.yardTurnsRow.domain false) (Rows.yardTurnsSpec.post enc Tryz.prog Tryz.f5 false true false false) :=
  law_lifted (C := Tryz.checked) (fn := Tryz.f5) (s := Rows.yardTurnsSpec) (tb := t_bool) yardTurns_own started (by kernel_rfl) Tryz.func5
    (ChangeSpec.witness6 (enc := enc) (C := Tryz.checked) false ⟨#[], #[zeroArg Tryz.prog t_law19_Case, zeroArg Tryz.prog t_sl_law19_Op, zeroArg Tryz.prog t_int], []⟩ 8 (by kernel_rfl) (by kernel_rfl) (by kernel_rfl) (by kernel_rfl))
    yardTurns_laidOut (by kernel_rfl) rfl (by kernel_rfl) (by kernel_rfl) (fun ds hds => law_fn3 hds) (fun xs h => law19_YardTurns_ok h)

theorem yardTurns_j1 : (Rows.yardTurnsRow.wf (OpenSpec.ofChange Rows.yardTurnsSpec) && mapsRowed Tryz.pinned.checked.prog && Tryz.f5.params.all (Tryz.pinned.checked.prog.readableRec ·) && namedTie Tryz.pinned.checked.prog Rows.yardTurnsRow.named Rows.yardTurnsSpec.vars && (Rows.yardTurnsRow.stops == []) && (Tryz.pinned.checked.prog.stops == []) && (Rows.yardTurnsRow.knobs == []) && (Tryz.pinned.checked.prog.stopKnobs == []) && (Rows.yardTurnsRow.inPlace == Tryz.pinned.checked.prog.inPlace 5)) = true := by kernel_rfl
theorem yardTurns_j2 : (Rows.yardTurnsRow.unfollowed == Tryz.pinned.checked.prog.unfollowed 5) = true := by kernel_rfl
theorem yardTurns_j3 : (Rows.yardTurnsRow.recurses == Tryz.pinned.checked.prog.recurses 5) = true := by kernel_rfl
theorem yardTurns_j4 : (Rows.yardTurnsRow.named == Tryz.pinned.checked.prog.varsNamed 5) = true := by kernel_rfl
theorem yardTurns_fn : Tryz.pinned.checked.prog.funcNamed Rows.yardTurnsRow.func = some 5 := by kernel_rfl

theorem yardTurns_joined : joinedFacts Tryz.pinned.checked.prog 5 Tryz.f5 Rows.yardTurnsSpec Rows.yardTurnsRow = true :=
  joined_of yardTurns_laidOut yardTurns_j1 yardTurns_j2 yardTurns_j3 yardTurns_j4 (by as_aux_lemma => kernel_rfl) (by as_aux_lemma => kernel_rfl) (by as_aux_lemma => kernel_rfl) (by as_aux_lemma => kernel_rfl)

theorem yardTurns_holds : Rows.YardTurnsSaid :=
  OpenClaim.holds_of_wide 5 Tryz.f5 rfl rfl rfl rfl rfl rfl rfl ⟨rfl, rfl, rfl, rfl, rfl⟩ rfl rfl rfl rfl rfl yardTurns_fn Tryz.func5 yardTurns_joined
    (of_decide_eq_true (by as_aux_lemma => kernel_rfl)) (by unfold Func.isWrapper; first | (rw [if_pos (by decide +kernel)]; kernel_rfl) | (rw [if_neg (by decide +kernel)]; exact ⟨rfl, rfl⟩))
    (fun os started H enc _ => yardTurns_lifted os started H enc)
end Go.Proofs.YtaklhjodjbgmgaaGreat
