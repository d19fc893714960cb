/-
  What is proved: WatchFinds: a state with one owner too few, or too many, is found out, for every input.
  Conditions: none.
-/
import Derived.Test.YtdlnbehcnfjneaaGreatRows
import Derived.Test.YtdlnbehcnfjneaaGreatP5
namespace Go.Proofs.YtdlnbehcnfjneaaGreat
open Go.ChangeShapes Go.WideShapes Go.RowKit Go.Fw

theorem watchFinds_own : ownKnob Tryz.prog.godebug = none := by kernel_rfl
theorem watchFinds_laidOut : laidOutB Tryz.prog = true := by kernel_rfl

set_option maxRecDepth 100000 in
theorem watchFinds_lifted (os : Os) (started : os.Started) (H : Type) (enc : TypeId × Value → H) :
    ReturnsInHanded {} Tryz.checked os 5 .any (Rows.watchFindsSpec.pre6 enc Tryz.prog Tryz.f5 Rows.watchFindsRow.domain false) (Rows.watchFindsSpec.post enc Tryz.prog Tryz.f5 false true false false) :=
  law_lifted (C := Tryz.checked) (fn := Tryz.f5) (s := Rows.watchFindsSpec) (tb := t_bool) watchFinds_own started (by kernel_rfl) Tryz.func5
    (ChangeSpec.witness6 (enc := enc) (C := Tryz.checked) false ⟨#[], #[zeroArg Tryz.prog t_Config, zeroArg Tryz.prog t_int, zeroArg Tryz.prog t_int], []⟩ 8 (by kernel_rfl) (by kernel_rfl) (by kernel_rfl) (by kernel_rfl))
    watchFinds_laidOut (by kernel_rfl) rfl (by kernel_rfl) (by kernel_rfl) (fun ds hds => law_fn3 hds) (fun xs h => law22_WatchFinds_ok h)

theorem watchFinds_j1 : (Rows.watchFindsRow.wf (OpenSpec.ofChange Rows.watchFindsSpec) && mapsRowed Tryz.pinned.checked.prog && Tryz.f5.params.all (Tryz.pinned.checked.prog.readableRec ·) && namedTie Tryz.pinned.checked.prog Rows.watchFindsRow.named Rows.watchFindsSpec.vars && (Rows.watchFindsRow.stops == []) && (Tryz.pinned.checked.prog.stops == []) && (Rows.watchFindsRow.knobs == []) && (Tryz.pinned.checked.prog.stopKnobs == []) && (Rows.watchFindsRow.inPlace == Tryz.pinned.checked.prog.inPlace 5)) = true := by kernel_rfl
theorem watchFinds_j2 : (Rows.watchFindsRow.unfollowed == Tryz.pinned.checked.prog.unfollowed 5) = true := by kernel_rfl
theorem watchFinds_j3 : (Rows.watchFindsRow.recurses == Tryz.pinned.checked.prog.recurses 5) = true := by kernel_rfl
theorem watchFinds_j4 : (Rows.watchFindsRow.named == Tryz.pinned.checked.prog.varsNamed 5) = true := by kernel_rfl
theorem watchFinds_fn : Tryz.pinned.checked.prog.funcNamed Rows.watchFindsRow.func = some 5 := by kernel_rfl

theorem watchFinds_joined : joinedFacts Tryz.pinned.checked.prog 5 Tryz.f5 Rows.watchFindsSpec Rows.watchFindsRow = true :=
  joined_of watchFinds_laidOut watchFinds_j1 watchFinds_j2 watchFinds_j3 watchFinds_j4 (by as_aux_lemma => kernel_rfl) (by as_aux_lemma => kernel_rfl) (by as_aux_lemma => kernel_rfl) (by as_aux_lemma => kernel_rfl)

theorem watchFinds_holds : Rows.WatchFindsSaid :=
  OpenClaim.holds_of_wide 5 Tryz.f5 rfl rfl rfl rfl rfl rfl rfl ⟨rfl, rfl, rfl, rfl, rfl⟩ rfl rfl rfl rfl rfl watchFinds_fn Tryz.func5 watchFinds_joined
    (of_decide_eq_true (by as_aux_lemma => kernel_rfl)) (by unfold Func.isWrapper; first | (rw [if_pos (by decide +kernel)]; kernel_rfl) | (rw [if_neg (by decide +kernel)]; exact ⟨rfl, rfl⟩))
    (fun os started H enc _ => watchFinds_lifted os started H enc)
end Go.Proofs.YtdlnbehcnfjneaaGreat
