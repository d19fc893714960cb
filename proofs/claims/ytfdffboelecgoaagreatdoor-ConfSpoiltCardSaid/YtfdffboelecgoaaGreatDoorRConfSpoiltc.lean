/-
  What is proved: ConfSpoilt: A right station in which a route's flank, its overlap, or the timing is another one is refused, each with its own error; as it was it is right, for every input; the library's variables that are listed hold what the program's text lays.
  Conditions: none but what the card's print says.
-/
import Derived.Test.YtfdffboelecgoaaGreatDoorRows
import Derived.Test.YtfdffboelecgoaaGreatDoorTie
import Derived.Test.YtfdffboelecgoaaGreatDoorCards
import Derived.Test.YtfdffboelecgoaaGreatDoorP6
import Derived.SevenTiedAt
namespace Go.Proofs.YtfdffboelecgoaaGreatDoor
open Go.ChangeShapes Go.WideShapes Go.RowKit Go.Fw

theorem confSpoilt_own : ownKnob Tryz.prog.godebug = none := by kernel_rfl
theorem confSpoilt_laidOut : laidOutB Tryz.prog = true := by kernel_rfl
theorem confSpoilt_plain (w : World) : laidMetH Tryz.prog Rows.confSpoiltRow.laid w = laidMet Tryz.prog Rows.confSpoiltRow.laid w := MakeChecks.laidMetH_plain _ _ _ (by kernel_rfl)

set_option maxRecDepth 100000 in
theorem confSpoilt_lifted (os : Os) (started : os.Started) (H : Type) (enc : TypeId × Value → H) :
    ReturnsInHanded {} Tryz.checked os 5 .any (fun w args => (Rows.confSpoiltSpec.pre enc Tryz.prog Tryz.f5 [] false w args ∧ laidMetH Tryz.prog Rows.confSpoiltRow.laid w) ∧ sizedMet enc Tryz.prog Tryz.f5 (OpenSpec.ofChange Rows.confSpoiltSpec) false w args)
      (Rows.confSpoiltSpec.post enc Tryz.prog Tryz.f5 false true false false) :=
  law_lifted (C := Tryz.checked) (fn := Tryz.f5) (s := Rows.confSpoiltSpec) (tb := t_bool) (laid := Rows.confSpoiltRow.laid) confSpoilt_own started (by kernel_rfl) Tryz.func5
    (ChangeSpec.witness_shaped (enc := enc) (C := Tryz.checked) (os := os) (X := fun w _ => laidMetH Tryz.prog Rows.confSpoiltRow.laid w) false (World.laidAll Tryz.prog os Rows.confSpoiltRow.laid) #[zeroArg Tryz.prog t_Config, zeroArg Tryz.prog t_int, zeroArg Tryz.prog t_int] 8 (World.laidAll_os _ _ _)
      (World.shaped_of_ZipB (by kernel_rfl) (by kernel_rfl)) (by kernel_rfl) (by kernel_rfl) (by kernel_rfl)
      (by rw [confSpoilt_plain]; exact laidMet_laidAll _ (by kernel_rfl) (by kernel_rfl)))
    confSpoilt_laidOut (by kernel_rfl) rfl (by kernel_rfl) (by kernel_rfl) (fun ds hds => law_fn3 hds) (fun W hW => gl_laid (Eq.mp (confSpoilt_plain W) hW)) (fun xs h => law06_ConfSpoilt_ok h)

theorem confSpoilt_j1 : (Rows.confSpoiltRow.wf (OpenSpec.ofChange Rows.confSpoiltSpec) && mapsRowed Tryz.pinned.checked.prog && Tryz.f5.params.all (Tryz.pinned.checked.prog.readableRec ·) && namedTie Tryz.pinned.checked.prog Rows.confSpoiltRow.named Rows.confSpoiltSpec.vars && (Rows.confSpoiltRow.stops == []) && (Tryz.pinned.checked.prog.stops == []) && (Rows.confSpoiltRow.knobs == []) && (Tryz.pinned.checked.prog.stopKnobs == []) && (Rows.confSpoiltRow.inPlace == Tryz.pinned.checked.prog.inPlace 5)) = true := by kernel_rfl
theorem confSpoilt_j2 : (Rows.confSpoiltRow.unfollowed == Tryz.pinned.checked.prog.unfollowed 5) = true := by kernel_rfl
theorem confSpoilt_j3 : (Rows.confSpoiltRow.recurses == Tryz.pinned.checked.prog.recurses 5) = true := by kernel_rfl
theorem confSpoilt_j4 : (Rows.confSpoiltRow.named == Tryz.pinned.checked.prog.varsNamed 5) = true := by kernel_rfl
theorem confSpoilt_fn : Tryz.pinned.checked.prog.funcNamed Rows.confSpoiltRow.func = some 5 := by kernel_rfl

theorem confSpoilt_joined : joinedFacts Tryz.pinned.checked.prog 5 Tryz.f5 Rows.confSpoiltSpec Rows.confSpoiltRow = true :=
  joined_of confSpoilt_laidOut confSpoilt_j1 confSpoilt_j2 confSpoilt_j3 confSpoilt_j4 (by as_aux_lemma => kernel_rfl) (by as_aux_lemma => kernel_rfl) (by as_aux_lemma => kernel_rfl) (by as_aux_lemma => kernel_rfl)

theorem confSpoilt_row : Rows.ConfSpoiltSaid :=
  OpenClaim.holds_of_wide 5 Tryz.f5 rfl rfl rfl rfl rfl rfl rfl ⟨rfl, rfl, rfl, rfl, rfl⟩ rfl rfl rfl rfl rfl confSpoilt_fn Tryz.func5 confSpoilt_joined
    (of_decide_eq_true (by as_aux_lemma => kernel_rfl)) (by unfold Func.isWrapper; first | (rw [if_pos (by decide +kernel)]; kernel_rfl) | (rw [if_neg (by decide +kernel)]; exact ⟨rfl, rfl⟩))
    (fun os started H enc _ => confSpoilt_lifted os started H enc)

theorem confSpoilt_holds : Rows.ConfSpoiltCardSaid :=
  Claim7.holds_tied_plain_at .later [] [.data, .data, .data, .data, .sentinel, .sentinel, .pinned] true (true, "7d5ef0e12d8b197bacf35b4db5bdfd0086260e606a846bbe504bd38ac77070d5") true confSpoilt_row (fun _ h => by cases h) (by kernel_rfl) (fun _ h => by cases h) confSpoilt_row_tie rfl ⟨rfl, rfl⟩ (by kernel_rfl) rfl
    (fun f fn hf hfn => by
      obtain rfl : f = 5 := Option.some.inj (confSpoilt_fn.symm.trans hf) |>.symm
      obtain rfl : fn = Tryz.f5 := (Option.some.inj (Tryz.func5.symm.trans hfn)).symm
      exact ⟨by kernel_rfl, fun j t ht => by
        have hm : t ∈ Tryz.f5.params.toList := by rw [Array.mem_toList_iff]; exact Array.mem_of_getElem? ht
        have hall : (Tryz.f5.params.toList.all fun u => !Tryz.prog.wantsStandIn u) = true := by kernel_rfl
        exact (show Tryz.prog.wantsStandIn t = false by simpa using List.all_eq_true.1 hall t hm)⟩)
    (by kernel_rfl)
end Go.Proofs.YtfdffboelecgoaaGreatDoor
