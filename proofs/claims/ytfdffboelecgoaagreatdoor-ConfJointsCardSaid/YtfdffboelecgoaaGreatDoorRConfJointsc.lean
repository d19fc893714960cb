/-
  What is proved: ConfJoints: In which order a right station's joints are told, and each of them from which of its ends, says nothing: it is right, and what a route locks is the same, for every input; the library's variables that are listed hold what the program's text lays.
  Conditions: none but what the card's print says.
-/
import Derived.Test.YtfdffboelecgoaaGreatDoorRows
import Derived.Test.YtfdffboelecgoaaGreatDoorTie
import Derived.Test.YtfdffboelecgoaaGreatDoorCards
import Derived.Test.YtfdffboelecgoaaGreatDoorP6
import Derived.SevenTiedAt
namespace Go.Proofs.YtfdffboelecgoaaGreatDoor
open Go.ChangeShapes Go.WideShapes Go.RowKit Go.Fw

theorem confJoints_own : ownKnob Tryz.prog.godebug = none := by kernel_rfl
theorem confJoints_laidOut : laidOutB Tryz.prog = true := by kernel_rfl
theorem confJoints_plain (w : World) : laidMetH Tryz.prog Rows.confJointsRow.laid w = laidMet Tryz.prog Rows.confJointsRow.laid w := MakeChecks.laidMetH_plain _ _ _ (by kernel_rfl)

set_option maxRecDepth 100000 in
theorem confJoints_lifted (os : Os) (started : os.Started) (H : Type) (enc : TypeId × Value → H) :
    ReturnsInHanded {} Tryz.checked os 6 .any (fun w args => (Rows.confJointsSpec.pre enc Tryz.prog Tryz.f6 [] false w args ∧ laidMetH Tryz.prog Rows.confJointsRow.laid w) ∧ sizedMet enc Tryz.prog Tryz.f6 (OpenSpec.ofChange Rows.confJointsSpec) false w args)
      (Rows.confJointsSpec.post enc Tryz.prog Tryz.f6 false true false false) :=
  law_lifted (C := Tryz.checked) (fn := Tryz.f6) (s := Rows.confJointsSpec) (tb := t_bool) (laid := Rows.confJointsRow.laid) confJoints_own started (by kernel_rfl) Tryz.func6
    (ChangeSpec.witness_shaped (enc := enc) (C := Tryz.checked) (os := os) (X := fun w _ => laidMetH Tryz.prog Rows.confJointsRow.laid w) false (World.laidAll Tryz.prog os Rows.confJointsRow.laid) #[zeroArg Tryz.prog t_Config, zeroArg Tryz.prog t_int, zeroArg Tryz.prog t_int] 8 (World.laidAll_os _ _ _)
      (World.shaped_of_ZipB (by kernel_rfl) (by kernel_rfl)) (by kernel_rfl) (by kernel_rfl) (by kernel_rfl)
      (by rw [confJoints_plain]; exact laidMet_laidAll _ (by kernel_rfl) (by kernel_rfl)))
    confJoints_laidOut (by kernel_rfl) rfl (by kernel_rfl) (by kernel_rfl) (fun ds hds => law_fn3 hds) (fun W hW => gl_laid (Eq.mp (confJoints_plain W) hW)) (fun xs h => law06_ConfJoints_ok h)

theorem confJoints_j1 : (Rows.confJointsRow.wf (OpenSpec.ofChange Rows.confJointsSpec) && mapsRowed Tryz.pinned.checked.prog && Tryz.f6.params.all (Tryz.pinned.checked.prog.readableRec ·) && namedTie Tryz.pinned.checked.prog Rows.confJointsRow.named Rows.confJointsSpec.vars && (Rows.confJointsRow.stops == []) && (Tryz.pinned.checked.prog.stops == []) && (Rows.confJointsRow.knobs == []) && (Tryz.pinned.checked.prog.stopKnobs == []) && (Rows.confJointsRow.inPlace == Tryz.pinned.checked.prog.inPlace 6)) = true := by kernel_rfl
theorem confJoints_j2 : (Rows.confJointsRow.unfollowed == Tryz.pinned.checked.prog.unfollowed 6) = true := by kernel_rfl
theorem confJoints_j3 : (Rows.confJointsRow.recurses == Tryz.pinned.checked.prog.recurses 6) = true := by kernel_rfl
theorem confJoints_j4 : (Rows.confJointsRow.named == Tryz.pinned.checked.prog.varsNamed 6) = true := by kernel_rfl
theorem confJoints_fn : Tryz.pinned.checked.prog.funcNamed Rows.confJointsRow.func = some 6 := by kernel_rfl

theorem confJoints_joined : joinedFacts Tryz.pinned.checked.prog 6 Tryz.f6 Rows.confJointsSpec Rows.confJointsRow = true :=
  joined_of confJoints_laidOut confJoints_j1 confJoints_j2 confJoints_j3 confJoints_j4 (by as_aux_lemma => kernel_rfl) (by as_aux_lemma => kernel_rfl) (by as_aux_lemma => kernel_rfl) (by as_aux_lemma => kernel_rfl)

theorem confJoints_row : Rows.ConfJointsSaid :=
  OpenClaim.holds_of_wide 6 Tryz.f6 rfl rfl rfl rfl rfl rfl rfl ⟨rfl, rfl, rfl, rfl, rfl⟩ rfl rfl rfl rfl rfl confJoints_fn Tryz.func6 confJoints_joined
    (of_decide_eq_true (by as_aux_lemma => kernel_rfl)) (by unfold Func.isWrapper; first | (rw [if_pos (by decide +kernel)]; kernel_rfl) | (rw [if_neg (by decide +kernel)]; exact ⟨rfl, rfl⟩))
    (fun os started H enc _ => confJoints_lifted os started H enc)

theorem confJoints_holds : Rows.ConfJointsCardSaid :=
  Claim7.holds_tied_plain_at .later [] [.data, .data, .data, .data, .sentinel, .sentinel, .pinned] true (true, "7d5ef0e12d8b197bacf35b4db5bdfd0086260e606a846bbe504bd38ac77070d5") true confJoints_row (fun _ h => by cases h) (by kernel_rfl) (fun _ h => by cases h) confJoints_row_tie rfl ⟨rfl, rfl⟩ (by kernel_rfl) rfl
    (fun f fn hf hfn => by
      obtain rfl : f = 6 := Option.some.inj (confJoints_fn.symm.trans hf) |>.symm
      obtain rfl : fn = Tryz.f6 := (Option.some.inj (Tryz.func6.symm.trans hfn)).symm
      exact ⟨by kernel_rfl, fun j t ht => by
        have hm : t ∈ Tryz.f6.params.toList := by rw [Array.mem_toList_iff]; exact Array.mem_of_getElem? ht
        have hall : (Tryz.f6.params.toList.all fun u => !Tryz.prog.wantsStandIn u) = true := by kernel_rfl
        exact (show Tryz.prog.wantsStandIn t = false by simpa using List.all_eq_true.1 hall t hm)⟩)
    (by kernel_rfl)
end Go.Proofs.YtfdffboelecgoaaGreatDoor
