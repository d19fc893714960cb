/-
  What is proved: LocksTwice: what was cancelled can't be cancelled again, and cancelling gives nothing back at once, for every input.
  Conditions: none.
-/
import Derived.Test.YtdlnbehcnfjneaaGreatRows
import Derived.Test.YtdlnbehcnfjneaaGreatP5
namespace Go.Proofs.YtdlnbehcnfjneaaGreat
open Go.ChangeShapes Go.WideShapes Go.RowKit Go.Fw

theorem locksTwice_own : ownKnob Tryz.prog.godebug = none := by kernel_rfl
theorem locksTwice_laidOut : laidOutB Tryz.prog = true := by kernel_rfl

set_option maxRecDepth 100000 in
theorem locksTwice_lifted (os : Os) (started : os.Started) (H : Type) (enc : TypeId × Value → H) :
    ReturnsInHanded {} Tryz.checked os 8 .any (Rows.locksTwiceSpec.pre6 enc Tryz.prog Tryz.f8 Rows.locksTwiceRow.domain false) (Rows.locksTwiceSpec.post enc Tryz.prog Tryz.f8 false true false false) :=
  law_lifted (C := Tryz.checked) (fn := Tryz.f8) (s := Rows.locksTwiceSpec) (tb := t_bool) locksTwice_own started (by kernel_rfl) Tryz.func8
    (ChangeSpec.witness6 (enc := enc) (C := Tryz.checked) false ⟨#[], #[zeroArg Tryz.prog t_Config, zeroArg Tryz.prog t_int, zeroArg Tryz.prog t_int], []⟩ 8 (by kernel_rfl) (by kernel_rfl) (by kernel_rfl) (by kernel_rfl))
    locksTwice_laidOut (by kernel_rfl) rfl (by kernel_rfl) (by kernel_rfl) (fun ds hds => law_fn3 hds) (fun xs h => law13_LocksTwice_ok h)

theorem locksTwice_j1 : (Rows.locksTwiceRow.wf (OpenSpec.ofChange Rows.locksTwiceSpec) && mapsRowed Tryz.pinned.checked.prog && Tryz.f8.params.all (Tryz.pinned.checked.prog.readableRec ·) && namedTie Tryz.pinned.checked.prog Rows.locksTwiceRow.named Rows.locksTwiceSpec.vars && (Rows.locksTwiceRow.stops == []) && (Tryz.pinned.checked.prog.stops == []) && (Rows.locksTwiceRow.knobs == []) && (Tryz.pinned.checked.prog.stopKnobs == []) && (Rows.locksTwiceRow.inPlace == Tryz.pinned.checked.prog.inPlace 8)) = true := by kernel_rfl
theorem locksTwice_j2 : (Rows.locksTwiceRow.unfollowed == Tryz.pinned.checked.prog.unfollowed 8) = true := by kernel_rfl
theorem locksTwice_j3 : (Rows.locksTwiceRow.recurses == Tryz.pinned.checked.prog.recurses 8) = true := by kernel_rfl
theorem locksTwice_j4 : (Rows.locksTwiceRow.named == Tryz.pinned.checked.prog.varsNamed 8) = true := by kernel_rfl
theorem locksTwice_fn : Tryz.pinned.checked.prog.funcNamed Rows.locksTwiceRow.func = some 8 := by kernel_rfl

theorem locksTwice_joined : joinedFacts Tryz.pinned.checked.prog 8 Tryz.f8 Rows.locksTwiceSpec Rows.locksTwiceRow = true :=
  joined_of locksTwice_laidOut locksTwice_j1 locksTwice_j2 locksTwice_j3 locksTwice_j4 (by as_aux_lemma => kernel_rfl) (by as_aux_lemma => kernel_rfl) (by as_aux_lemma => kernel_rfl) (by as_aux_lemma => kernel_rfl)

theorem locksTwice_holds : Rows.LocksTwiceSaid :=
  OpenClaim.holds_of_wide 8 Tryz.f8 rfl rfl rfl rfl rfl rfl rfl ⟨rfl, rfl, rfl, rfl, rfl⟩ rfl rfl rfl rfl rfl locksTwice_fn Tryz.func8 locksTwice_joined
    (of_decide_eq_true (by as_aux_lemma => kernel_rfl)) (by unfold Func.isWrapper; first | (rw [if_pos (by decide +kernel)]; kernel_rfl) | (rw [if_neg (by decide +kernel)]; exact ⟨rfl, rfl⟩))
    (fun os started H enc _ => locksTwice_lifted os started H enc)
end Go.Proofs.YtdlnbehcnfjneaaGreat
