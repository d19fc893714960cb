/-
  What is proved: WatchClean: no state along any row has a breach, for every input.
  Conditions: none.
-/
import Derived.Test.YtdmfnhbmhkgemaaGreatRows
import Derived.Test.YtdmfnhbmhkgemaaGreatP6
namespace Go.Proofs.YtdmfnhbmhkgemaaGreat
open Go.ChangeShapes Go.WideShapes Go.RowKit Go.Fw

theorem watchClean_own : ownKnob Tryz.prog.godebug = none := by kernel_rfl
theorem watchClean_laidOut : laidOutB Tryz.prog = true := by kernel_rfl

set_option maxRecDepth 100000 in
theorem watchClean_lifted (os : Os) (started : os.Started) (H : Type) (enc : TypeId × Value → H) :
    ReturnsInHanded {} Tryz.checked os 3 .any (Rows.watchCleanSpec.pre6 enc Tryz.prog Tryz.f3 Rows.watchCleanRow.domain false) (Rows.watchCleanSpec.post enc Tryz.prog Tryz.f3 false true false false) :=
  law_lifted (C := Tryz.checked) (fn := Tryz.f3) (s := Rows.watchCleanSpec) (tb := t_bool) watchClean_own started (by kernel_rfl) Tryz.func3
    (ChangeSpec.witness6 (enc := enc) (C := Tryz.checked) false ⟨#[], #[zeroArg Tryz.prog t_Config, zeroArg Tryz.prog t_sl_law22_Step], []⟩ 8 (by kernel_rfl) (by kernel_rfl) (by kernel_rfl) (by kernel_rfl))
    watchClean_laidOut (by kernel_rfl) rfl (by kernel_rfl) (by kernel_rfl) (fun ds hds => law_fn2 hds) (fun xs h => law22_WatchClean_ok h)

theorem watchClean_j1 : (Rows.watchCleanRow.wf (OpenSpec.ofChange Rows.watchCleanSpec) && mapsRowed Tryz.pinned.checked.prog && Tryz.f3.params.all (Tryz.pinned.checked.prog.readableRec ·) && namedTie Tryz.pinned.checked.prog Rows.watchCleanRow.named Rows.watchCleanSpec.vars && (Rows.watchCleanRow.stops == []) && (Tryz.pinned.checked.prog.stops == []) && (Rows.watchCleanRow.knobs == []) && (Tryz.pinned.checked.prog.stopKnobs == []) && (Rows.watchCleanRow.inPlace == Tryz.pinned.checked.prog.inPlace 3)) = true := by kernel_rfl
theorem watchClean_j2 : (Rows.watchCleanRow.unfollowed == Tryz.pinned.checked.prog.unfollowed 3) = true := by kernel_rfl
theorem watchClean_j3 : (Rows.watchCleanRow.recurses == Tryz.pinned.checked.prog.recurses 3) = true := by kernel_rfl
theorem watchClean_j4 : (Rows.watchCleanRow.named == Tryz.pinned.checked.prog.varsNamed 3) = true := by kernel_rfl
theorem watchClean_fn : Tryz.pinned.checked.prog.funcNamed Rows.watchCleanRow.func = some 3 := by kernel_rfl

theorem watchClean_joined : joinedFacts Tryz.pinned.checked.prog 3 Tryz.f3 Rows.watchCleanSpec Rows.watchCleanRow = true :=
  joined_of watchClean_laidOut watchClean_j1 watchClean_j2 watchClean_j3 watchClean_j4 (by as_aux_lemma => kernel_rfl) (by as_aux_lemma => kernel_rfl) (by as_aux_lemma => kernel_rfl) (by as_aux_lemma => kernel_rfl)

theorem watchClean_holds : Rows.WatchCleanSaid :=
  OpenClaim.holds_of_wide 3 Tryz.f3 rfl rfl rfl rfl rfl rfl rfl ⟨rfl, rfl, rfl, rfl, rfl⟩ rfl rfl rfl rfl rfl watchClean_fn Tryz.func3 watchClean_joined
    (of_decide_eq_true (by as_aux_lemma => kernel_rfl)) (by unfold Func.isWrapper; first | (rw [if_pos (by decide +kernel)]; kernel_rfl) | (rw [if_neg (by decide +kernel)]; exact ⟨rfl, rfl⟩))
    (fun os started H enc _ => watchClean_lifted os started H enc)
end Go.Proofs.YtdmfnhbmhkgemaaGreat
