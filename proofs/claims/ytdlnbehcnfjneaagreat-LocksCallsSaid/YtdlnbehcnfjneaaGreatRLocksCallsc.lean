/-
  What is proved: LocksCalls: what is asked of any state, of any station, is answered as the document says, for every input.
  Conditions: none.
-/
import Derived.Test.YtdlnbehcnfjneaaGreatRows
import Derived.Test.YtdlnbehcnfjneaaGreatP6
namespace Go.Proofs.YtdlnbehcnfjneaaGreat
open Go.ChangeShapes Go.WideShapes Go.RowKit Go.Fw

theorem locksCalls_own : ownKnob Tryz.prog.godebug = none := by kernel_rfl
theorem locksCalls_laidOut : laidOutB Tryz.prog = true := by kernel_rfl

set_option maxRecDepth 100000 in
theorem locksCalls_lifted (os : Os) (started : os.Started) (H : Type) (enc : TypeId × Value → H) :
    ReturnsInHanded {} Tryz.checked os 3 .any (Rows.locksCallsSpec.pre6 enc Tryz.prog Tryz.f3 Rows.locksCallsRow.domain false) (Rows.locksCallsSpec.post enc Tryz.prog Tryz.f3 false true false false) :=
  law_lifted (C := Tryz.checked) (fn := Tryz.f3) (s := Rows.locksCallsSpec) (tb := t_bool) locksCalls_own started (by kernel_rfl) Tryz.func3
    (ChangeSpec.witness6 (enc := enc) (C := Tryz.checked) false ⟨#[], #[zeroArg Tryz.prog t_Config, zeroArg Tryz.prog t_Core, zeroArg Tryz.prog t_law13_Call], []⟩ 8 (by kernel_rfl) (by kernel_rfl) (by kernel_rfl) (by kernel_rfl))
    locksCalls_laidOut (by kernel_rfl) rfl (by kernel_rfl) (by kernel_rfl) (fun ds hds => law_fn3 hds) (fun xs h => law13_LocksCalls_ok h)

theorem locksCalls_j1 : (Rows.locksCallsRow.wf (OpenSpec.ofChange Rows.locksCallsSpec) && mapsRowed Tryz.pinned.checked.prog && Tryz.f3.params.all (Tryz.pinned.checked.prog.readableRec ·) && namedTie Tryz.pinned.checked.prog Rows.locksCallsRow.named Rows.locksCallsSpec.vars && (Rows.locksCallsRow.stops == []) && (Tryz.pinned.checked.prog.stops == []) && (Rows.locksCallsRow.knobs == []) && (Tryz.pinned.checked.prog.stopKnobs == []) && (Rows.locksCallsRow.inPlace == Tryz.pinned.checked.prog.inPlace 3)) = true := by kernel_rfl
theorem locksCalls_j2 : (Rows.locksCallsRow.unfollowed == Tryz.pinned.checked.prog.unfollowed 3) = true := by kernel_rfl
theorem locksCalls_j3 : (Rows.locksCallsRow.recurses == Tryz.pinned.checked.prog.recurses 3) = true := by kernel_rfl
theorem locksCalls_j4 : (Rows.locksCallsRow.named == Tryz.pinned.checked.prog.varsNamed 3) = true := by kernel_rfl
theorem locksCalls_fn : Tryz.pinned.checked.prog.funcNamed Rows.locksCallsRow.func = some 3 := by kernel_rfl

theorem locksCalls_joined : joinedFacts Tryz.pinned.checked.prog 3 Tryz.f3 Rows.locksCallsSpec Rows.locksCallsRow = true :=
  joined_of locksCalls_laidOut locksCalls_j1 locksCalls_j2 locksCalls_j3 locksCalls_j4 (by as_aux_lemma => kernel_rfl) (by as_aux_lemma => kernel_rfl) (by as_aux_lemma => kernel_rfl) (by as_aux_lemma => kernel_rfl)

theorem locksCalls_holds : Rows.LocksCallsSaid :=
  OpenClaim.holds_of_wide 3 Tryz.f3 rfl rfl rfl rfl rfl rfl rfl ⟨rfl, rfl, rfl, rfl, rfl⟩ rfl rfl rfl rfl rfl locksCalls_fn Tryz.func3 locksCalls_joined
    (of_decide_eq_true (by as_aux_lemma => kernel_rfl)) (by unfold Func.isWrapper; first | (rw [if_pos (by decide +kernel)]; kernel_rfl) | (rw [if_neg (by decide +kernel)]; exact ⟨rfl, rfl⟩))
    (fun os started H enc _ => locksCalls_lifted os started H enc)
end Go.Proofs.YtdlnbehcnfjneaaGreat
