/-
  What is proved: WatchHands: a section goes from one owner to another one only by a request that may inherit it, for every input.
  Conditions: none.
-/
import Derived.Test.YtdmfnhbmhkgemaaGreatRows
import Derived.Test.YtdmfnhbmhkgemaaGreatP6
namespace Go.Proofs.YtdmfnhbmhkgemaaGreat
open Go.ChangeShapes Go.WideShapes Go.RowKit Go.Fw

theorem watchHands_own : ownKnob Tryz.prog.godebug = none := by kernel_rfl
theorem watchHands_laidOut : laidOutB Tryz.prog = true := by kernel_rfl

set_option maxRecDepth 100000 in
theorem watchHands_lifted (os : Os) (started : os.Started) (H : Type) (enc : TypeId × Value → H) :
    ReturnsInHanded {} Tryz.checked os 4 .any (Rows.watchHandsSpec.pre6 enc Tryz.prog Tryz.f4 Rows.watchHandsRow.domain false) (Rows.watchHandsSpec.post enc Tryz.prog Tryz.f4 false true false false) :=
  law_lifted (C := Tryz.checked) (fn := Tryz.f4) (s := Rows.watchHandsSpec) (tb := t_bool) watchHands_own started (by kernel_rfl) Tryz.func4
    (ChangeSpec.witness6 (enc := enc) (C := Tryz.checked) false ⟨#[], #[zeroArg Tryz.prog t_Config, zeroArg Tryz.prog t_sl_law22_Step], []⟩ 8 (by kernel_rfl) (by kernel_rfl) (by kernel_rfl) (by kernel_rfl))
    watchHands_laidOut (by kernel_rfl) rfl (by kernel_rfl) (by kernel_rfl) (fun ds hds => law_fn2 hds) (fun xs h => law22_WatchHands_ok h)

theorem watchHands_j1 : (Rows.watchHandsRow.wf (OpenSpec.ofChange Rows.watchHandsSpec) && mapsRowed Tryz.pinned.checked.prog && Tryz.f4.params.all (Tryz.pinned.checked.prog.readableRec ·) && namedTie Tryz.pinned.checked.prog Rows.watchHandsRow.named Rows.watchHandsSpec.vars && (Rows.watchHandsRow.stops == []) && (Tryz.pinned.checked.prog.stops == []) && (Rows.watchHandsRow.knobs == []) && (Tryz.pinned.checked.prog.stopKnobs == []) && (Rows.watchHandsRow.inPlace == Tryz.pinned.checked.prog.inPlace 4)) = true := by kernel_rfl
theorem watchHands_j2 : (Rows.watchHandsRow.unfollowed == Tryz.pinned.checked.prog.unfollowed 4) = true := by kernel_rfl
theorem watchHands_j3 : (Rows.watchHandsRow.recurses == Tryz.pinned.checked.prog.recurses 4) = true := by kernel_rfl
theorem watchHands_j4 : (Rows.watchHandsRow.named == Tryz.pinned.checked.prog.varsNamed 4) = true := by kernel_rfl
theorem watchHands_fn : Tryz.pinned.checked.prog.funcNamed Rows.watchHandsRow.func = some 4 := by kernel_rfl

theorem watchHands_joined : joinedFacts Tryz.pinned.checked.prog 4 Tryz.f4 Rows.watchHandsSpec Rows.watchHandsRow = true :=
  joined_of watchHands_laidOut watchHands_j1 watchHands_j2 watchHands_j3 watchHands_j4 (by as_aux_lemma => kernel_rfl) (by as_aux_lemma => kernel_rfl) (by as_aux_lemma => kernel_rfl) (by as_aux_lemma => kernel_rfl)

theorem watchHands_holds : Rows.WatchHandsSaid :=
  OpenClaim.holds_of_wide 4 Tryz.f4 rfl rfl rfl rfl rfl rfl rfl ⟨rfl, rfl, rfl, rfl, rfl⟩ rfl rfl rfl rfl rfl watchHands_fn Tryz.func4 watchHands_joined
    (of_decide_eq_true (by as_aux_lemma => kernel_rfl)) (by unfold Func.isWrapper; first | (rw [if_pos (by decide +kernel)]; kernel_rfl) | (rw [if_neg (by decide +kernel)]; exact ⟨rfl, rfl⟩))
    (fun os started H enc _ => watchHands_lifted os started H enc)
end Go.Proofs.YtdmfnhbmhkgemaaGreat
