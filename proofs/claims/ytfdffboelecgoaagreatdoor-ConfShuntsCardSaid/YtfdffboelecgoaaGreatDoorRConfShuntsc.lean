/-
  What is proved: ConfShunts: A right route that has no section of a line may be a shunt one, without overlap; with its overlap it may not, if it has one, for every input; the library's variables that are listed hold what the program's text lays.
  Conditions: none but what the card's print says.
-/
import Derived.Test.YtfdffboelecgoaaGreatDoorRows
import Derived.Test.YtfdffboelecgoaaGreatDoorTie
import Derived.Test.YtfdffboelecgoaaGreatDoorCards
import Derived.Test.YtfdffboelecgoaaGreatDoorP6
import Derived.SevenTiedAt
namespace Go.Proofs.YtfdffboelecgoaaGreatDoor
open Go.ChangeShapes Go.WideShapes Go.RowKit Go.Fw

theorem confShunts_own : ownKnob Tryz.prog.godebug = none := by kernel_rfl
theorem confShunts_laidOut : laidOutB Tryz.prog = true := by kernel_rfl
theorem confShunts_plain (w : World) : laidMetH Tryz.prog Rows.confShuntsRow.laid w = laidMet Tryz.prog Rows.confShuntsRow.laid w := MakeChecks.laidMetH_plain _ _ _ (by kernel_rfl)

set_option maxRecDepth 100000 in
theorem confShunts_lifted (os : Os) (started : os.Started) (H : Type) (enc : TypeId × Value → H) :
    ReturnsInHanded {} Tryz.checked os 7 .any (fun w args => (Rows.confShuntsSpec.pre enc Tryz.prog Tryz.f7 [] false w args ∧ laidMetH Tryz.prog Rows.confShuntsRow.laid w) ∧ sizedMet enc Tryz.prog Tryz.f7 (OpenSpec.ofChange Rows.confShuntsSpec) false w args)
      (Rows.confShuntsSpec.post enc Tryz.prog Tryz.f7 false true false false) :=
  law_lifted (C := Tryz.checked) (fn := Tryz.f7) (s := Rows.confShuntsSpec) (tb := t_bool) (laid := Rows.confShuntsRow.laid) confShunts_own started (by kernel_rfl) Tryz.func7
    (ChangeSpec.witness_shaped (enc := enc) (C := Tryz.checked) (os := os) (X := fun w _ => laidMetH Tryz.prog Rows.confShuntsRow.laid w) false (World.laidAll Tryz.prog os Rows.confShuntsRow.laid) #[zeroArg Tryz.prog t_Config, zeroArg Tryz.prog t_int] 8 (World.laidAll_os _ _ _)
      (World.shaped_of_ZipB (by kernel_rfl) (by kernel_rfl)) (by kernel_rfl) (by kernel_rfl) (by kernel_rfl)
      (by rw [confShunts_plain]; exact laidMet_laidAll _ (by kernel_rfl) (by kernel_rfl)))
    confShunts_laidOut (by kernel_rfl) rfl (by kernel_rfl) (by kernel_rfl) (fun ds hds => law_fn2 hds) (fun W hW => gl_laid (Eq.mp (confShunts_plain W) hW)) (fun xs h => law06_ConfShunts_ok h)

theorem confShunts_j1 : (Rows.confShuntsRow.wf (OpenSpec.ofChange Rows.confShuntsSpec) && mapsRowed Tryz.pinned.checked.prog && Tryz.f7.params.all (Tryz.pinned.checked.prog.readableRec ·) && namedTie Tryz.pinned.checked.prog Rows.confShuntsRow.named Rows.confShuntsSpec.vars && (Rows.confShuntsRow.stops == []) && (Tryz.pinned.checked.prog.stops == []) && (Rows.confShuntsRow.knobs == []) && (Tryz.pinned.checked.prog.stopKnobs == []) && (Rows.confShuntsRow.inPlace == Tryz.pinned.checked.prog.inPlace 7)) = true := by kernel_rfl
theorem confShunts_j2 : (Rows.confShuntsRow.unfollowed == Tryz.pinned.checked.prog.unfollowed 7) = true := by kernel_rfl
theorem confShunts_j3 : (Rows.confShuntsRow.recurses == Tryz.pinned.checked.prog.recurses 7) = true := by kernel_rfl
theorem confShunts_j4 : (Rows.confShuntsRow.named == Tryz.pinned.checked.prog.varsNamed 7) = true := by kernel_rfl
theorem confShunts_fn : Tryz.pinned.checked.prog.funcNamed Rows.confShuntsRow.func = some 7 := by kernel_rfl

theorem confShunts_joined : joinedFacts Tryz.pinned.checked.prog 7 Tryz.f7 Rows.confShuntsSpec Rows.confShuntsRow = true :=
  joined_of confShunts_laidOut confShunts_j1 confShunts_j2 confShunts_j3 confShunts_j4 (by as_aux_lemma => kernel_rfl) (by as_aux_lemma => kernel_rfl) (by as_aux_lemma => kernel_rfl) (by as_aux_lemma => kernel_rfl)

theorem confShunts_row : Rows.ConfShuntsSaid :=
  OpenClaim.holds_of_wide 7 Tryz.f7 rfl rfl rfl rfl rfl rfl rfl ⟨rfl, rfl, rfl, rfl, rfl⟩ rfl rfl rfl rfl rfl confShunts_fn Tryz.func7 confShunts_joined
    (of_decide_eq_true (by as_aux_lemma => kernel_rfl)) (by unfold Func.isWrapper; first | (rw [if_pos (by decide +kernel)]; kernel_rfl) | (rw [if_neg (by decide +kernel)]; exact ⟨rfl, rfl⟩))
    (fun os started H enc _ => confShunts_lifted os started H enc)

theorem confShunts_holds : Rows.ConfShuntsCardSaid :=
  Claim7.holds_tied_plain_at .later [] [.data, .data, .data, .data, .sentinel, .sentinel, .pinned] true (true, "7d5ef0e12d8b197bacf35b4db5bdfd0086260e606a846bbe504bd38ac77070d5") true confShunts_row (fun _ h => by cases h) (by kernel_rfl) (fun _ h => by cases h) confShunts_row_tie rfl ⟨rfl, rfl⟩ (by kernel_rfl) rfl
    (fun f fn hf hfn => by
      obtain rfl : f = 7 := Option.some.inj (confShunts_fn.symm.trans hf) |>.symm
      obtain rfl : fn = Tryz.f7 := (Option.some.inj (Tryz.func7.symm.trans hfn)).symm
      exact ⟨by kernel_rfl, fun j t ht => by
        have hm : t ∈ Tryz.f7.params.toList := by rw [Array.mem_toList_iff]; exact Array.mem_of_getElem? ht
        have hall : (Tryz.f7.params.toList.all fun u => !Tryz.prog.wantsStandIn u) = true := by kernel_rfl
        exact (show Tryz.prog.wantsStandIn t = false by simpa using List.all_eq_true.1 hall t hm)⟩)
    (by kernel_rfl)
end Go.Proofs.YtfdffboelecgoaaGreatDoor
