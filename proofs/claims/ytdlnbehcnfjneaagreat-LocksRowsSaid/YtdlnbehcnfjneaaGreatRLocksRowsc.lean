/-
  What is proved: LocksRows: along any row of calls the state fits, a refused call changes nothing, a route that was locked owns all that it locks, for every input.
  Conditions: none.
-/
import Derived.Test.YtdlnbehcnfjneaaGreatRows
import Derived.Test.YtdlnbehcnfjneaaGreatP6
namespace Go.Proofs.YtdlnbehcnfjneaaGreat
open Go.ChangeShapes Go.WideShapes Go.RowKit Go.Fw

theorem locksRows_own : ownKnob Tryz.prog.godebug = none := by kernel_rfl
theorem locksRows_laidOut : laidOutB Tryz.prog = true := by kernel_rfl

set_option maxRecDepth 100000 in
theorem locksRows_lifted (os : Os) (started : os.Started) (H : Type) (enc : TypeId × Value → H) :
    ReturnsInHanded {} Tryz.checked os 4 .any (Rows.locksRowsSpec.pre6 enc Tryz.prog Tryz.f4 Rows.locksRowsRow.domain false) (Rows.locksRowsSpec.post enc Tryz.prog Tryz.f4 false true false false) :=
  law_lifted (C := Tryz.checked) (fn := Tryz.f4) (s := Rows.locksRowsSpec) (tb := t_bool) locksRows_own started (by kernel_rfl) Tryz.func4
    (ChangeSpec.witness6 (enc := enc) (C := Tryz.checked) false ⟨#[], #[zeroArg Tryz.prog t_Config, zeroArg Tryz.prog t_sl_int, zeroArg Tryz.prog t_sl_law13_Call], []⟩ 8 (by kernel_rfl) (by kernel_rfl) (by kernel_rfl) (by kernel_rfl))
    locksRows_laidOut (by kernel_rfl) rfl (by kernel_rfl) (by kernel_rfl) (fun ds hds => law_fn3 hds) (fun xs h => law13_LocksRows_ok h)

theorem locksRows_j1 : (Rows.locksRowsRow.wf (OpenSpec.ofChange Rows.locksRowsSpec) && mapsRowed Tryz.pinned.checked.prog && Tryz.f4.params.all (Tryz.pinned.checked.prog.readableRec ·) && namedTie Tryz.pinned.checked.prog Rows.locksRowsRow.named Rows.locksRowsSpec.vars && (Rows.locksRowsRow.stops == []) && (Tryz.pinned.checked.prog.stops == []) && (Rows.locksRowsRow.knobs == []) && (Tryz.pinned.checked.prog.stopKnobs == []) && (Rows.locksRowsRow.inPlace == Tryz.pinned.checked.prog.inPlace 4)) = true := by kernel_rfl
theorem locksRows_j2 : (Rows.locksRowsRow.unfollowed == Tryz.pinned.checked.prog.unfollowed 4) = true := by kernel_rfl
theorem locksRows_j3 : (Rows.locksRowsRow.recurses == Tryz.pinned.checked.prog.recurses 4) = true := by kernel_rfl
theorem locksRows_j4 : (Rows.locksRowsRow.named == Tryz.pinned.checked.prog.varsNamed 4) = true := by kernel_rfl
theorem locksRows_fn : Tryz.pinned.checked.prog.funcNamed Rows.locksRowsRow.func = some 4 := by kernel_rfl

theorem locksRows_joined : joinedFacts Tryz.pinned.checked.prog 4 Tryz.f4 Rows.locksRowsSpec Rows.locksRowsRow = true :=
  joined_of locksRows_laidOut locksRows_j1 locksRows_j2 locksRows_j3 locksRows_j4 (by as_aux_lemma => kernel_rfl) (by as_aux_lemma => kernel_rfl) (by as_aux_lemma => kernel_rfl) (by as_aux_lemma => kernel_rfl)

theorem locksRows_holds : Rows.LocksRowsSaid :=
  OpenClaim.holds_of_wide 4 Tryz.f4 rfl rfl rfl rfl rfl rfl rfl ⟨rfl, rfl, rfl, rfl, rfl⟩ rfl rfl rfl rfl rfl locksRows_fn Tryz.func4 locksRows_joined
    (of_decide_eq_true (by as_aux_lemma => kernel_rfl)) (by unfold Func.isWrapper; first | (rw [if_pos (by decide +kernel)]; kernel_rfl) | (rw [if_neg (by decide +kernel)]; exact ⟨rfl, rfl⟩))
    (fun os started H enc _ => locksRows_lifted os started H enc)
end Go.Proofs.YtdlnbehcnfjneaaGreat
