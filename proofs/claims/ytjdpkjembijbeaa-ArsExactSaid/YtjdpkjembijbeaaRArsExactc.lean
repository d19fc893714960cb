/-
  What is proved: ArsExact: what is due, and where the numbers stand, is what the document says, for every input.
  Conditions: none.
-/
import Derived.Test.YtjdpkjembijbeaaRows
import Derived.Test.YtjdpkjembijbeaaP5
namespace Go.Proofs.Ytjdpkjembijbeaa
open Go.ChangeShapes Go.WideShapes Go.RowKit Go.Fw

theorem arsExact_own : ownKnob Try.prog.godebug = none := by kernel_rfl
theorem arsExact_laidOut : laidOutB Try.prog = true := by kernel_rfl

set_option maxRecDepth 100000 in
theorem arsExact_lifted (os : Os) (started : os.Started) (H : Type) (enc : TypeId × Value → H) :
    ReturnsInHanded {} Try.checked os 3 .any (Rows.arsExactSpec.pre6 enc Try.prog Try.f3 Rows.arsExactRow.domain false) (Rows.arsExactSpec.post enc Try.prog Try.f3 false true false false) :=
  law_lifted (C := Try.checked) (fn := Try.f3) (s := Rows.arsExactSpec) (tb := t_bool) arsExact_own started (by kernel_rfl) Try.func3
    (ChangeSpec.witness6 (enc := enc) (C := Try.checked) false ⟨#[], #[zeroArg Try.prog t_Config, zeroArg Try.prog t_law16_World, zeroArg Try.prog t_law16_Ask], []⟩ 8 (by kernel_rfl) (by kernel_rfl) (by kernel_rfl) (by kernel_rfl))
    arsExact_laidOut (by kernel_rfl) rfl (by kernel_rfl) (by kernel_rfl) (fun ds hds => law_fn3 hds) (fun xs h => law16_ArsExact_ok h)

theorem arsExact_j1 : (Rows.arsExactRow.wf (OpenSpec.ofChange Rows.arsExactSpec) && mapsRowed Try.pinned.checked.prog && Try.f3.params.all (Try.pinned.checked.prog.readableRec ·) && namedTie Try.pinned.checked.prog Rows.arsExactRow.named Rows.arsExactSpec.vars && (Rows.arsExactRow.stops == []) && (Try.pinned.checked.prog.stops == []) && (Rows.arsExactRow.knobs == []) && (Try.pinned.checked.prog.stopKnobs == []) && (Rows.arsExactRow.inPlace == Try.pinned.checked.prog.inPlace 3)) = true := by kernel_rfl
theorem arsExact_j2 : (Rows.arsExactRow.unfollowed == Try.pinned.checked.prog.unfollowed 3) = true := by kernel_rfl
theorem arsExact_j3 : (Rows.arsExactRow.recurses == Try.pinned.checked.prog.recurses 3) = true := by kernel_rfl
theorem arsExact_j4 : (Rows.arsExactRow.named == Try.pinned.checked.prog.varsNamed 3) = true := by kernel_rfl
theorem arsExact_fn : Try.pinned.checked.prog.funcNamed Rows.arsExactRow.func = some 3 := by kernel_rfl

theorem arsExact_joined : joinedFacts Try.pinned.checked.prog 3 Try.f3 Rows.arsExactSpec Rows.arsExactRow = true :=
  joined_of arsExact_laidOut arsExact_j1 arsExact_j2 arsExact_j3 arsExact_j4 (by as_aux_lemma => kernel_rfl) (by as_aux_lemma => kernel_rfl) (by as_aux_lemma => kernel_rfl) (by as_aux_lemma => kernel_rfl)

theorem arsExact_holds : Rows.ArsExactSaid :=
  OpenClaim.holds_of_wide 3 Try.f3 rfl rfl rfl rfl rfl rfl rfl ⟨rfl, rfl, rfl, rfl, rfl⟩ rfl rfl rfl rfl rfl arsExact_fn Try.func3 arsExact_joined
    (of_decide_eq_true (by as_aux_lemma => kernel_rfl)) (by unfold Func.isWrapper; first | (rw [if_pos (by decide +kernel)]; kernel_rfl) | (rw [if_neg (by decide +kernel)]; exact ⟨rfl, rfl⟩))
    (fun os started H enc _ => arsExact_lifted os started H enc)
end Go.Proofs.Ytjdpkjembijbeaa
