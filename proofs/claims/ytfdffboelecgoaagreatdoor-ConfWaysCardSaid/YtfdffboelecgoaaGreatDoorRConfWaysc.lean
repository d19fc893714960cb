/-
  What is proved: ConfWays: In a right station each route's path is the way that a train takes which passes the entry signal with the points as the path has them, and nothing that the route locks is its approach, for every input; the library's variables that are listed hold what the program's text lays.
  Conditions: none but what the card's print says.
-/
import Derived.Test.YtfdffboelecgoaaGreatDoorRows
import Derived.Test.YtfdffboelecgoaaGreatDoorTie
import Derived.Test.YtfdffboelecgoaaGreatDoorCards
import Derived.Test.YtfdffboelecgoaaGreatDoorP6
import Derived.SevenTiedAt
namespace Go.Proofs.YtfdffboelecgoaaGreatDoor
open Go.ChangeShapes Go.WideShapes Go.RowKit Go.Fw

theorem confWays_own : ownKnob Tryz.prog.godebug = none := by kernel_rfl
theorem confWays_laidOut : laidOutB Tryz.prog = true := by kernel_rfl
theorem confWays_plain (w : World) : laidMetH Tryz.prog Rows.confWaysRow.laid w = laidMet Tryz.prog Rows.confWaysRow.laid w := MakeChecks.laidMetH_plain _ _ _ (by kernel_rfl)

set_option maxRecDepth 100000 in
theorem confWays_lifted (os : Os) (started : os.Started) (H : Type) (enc : TypeId × Value → H) :
    ReturnsInHanded {} Tryz.checked os 9 .any (fun w args => (Rows.confWaysSpec.pre enc Tryz.prog Tryz.f9 [] false w args ∧ laidMetH Tryz.prog Rows.confWaysRow.laid w) ∧ sizedMet enc Tryz.prog Tryz.f9 (OpenSpec.ofChange Rows.confWaysSpec) false w args)
      (Rows.confWaysSpec.post enc Tryz.prog Tryz.f9 false true false false) :=
  law_lifted (C := Tryz.checked) (fn := Tryz.f9) (s := Rows.confWaysSpec) (tb := t_bool) (laid := Rows.confWaysRow.laid) confWays_own started (by kernel_rfl) Tryz.func9
    (ChangeSpec.witness_shaped (enc := enc) (C := Tryz.checked) (os := os) (X := fun w _ => laidMetH Tryz.prog Rows.confWaysRow.laid w) false (World.laidAll Tryz.prog os Rows.confWaysRow.laid) #[zeroArg Tryz.prog t_Config] 8 (World.laidAll_os _ _ _)
      (World.shaped_of_ZipB (by kernel_rfl) (by kernel_rfl)) (by kernel_rfl) (by kernel_rfl) (by kernel_rfl)
      (by rw [confWays_plain]; exact laidMet_laidAll _ (by kernel_rfl) (by kernel_rfl)))
    confWays_laidOut (by kernel_rfl) rfl (by kernel_rfl) (by kernel_rfl) (fun ds hds => law_fn1 hds) (fun W hW => gl_laid (Eq.mp (confWays_plain W) hW)) (fun xs h => law06_ConfWays_ok h)

theorem confWays_j1 : (Rows.confWaysRow.wf (OpenSpec.ofChange Rows.confWaysSpec) && mapsRowed Tryz.pinned.checked.prog && Tryz.f9.params.all (Tryz.pinned.checked.prog.readableRec ·) && namedTie Tryz.pinned.checked.prog Rows.confWaysRow.named Rows.confWaysSpec.vars && (Rows.confWaysRow.stops == []) && (Tryz.pinned.checked.prog.stops == []) && (Rows.confWaysRow.knobs == []) && (Tryz.pinned.checked.prog.stopKnobs == []) && (Rows.confWaysRow.inPlace == Tryz.pinned.checked.prog.inPlace 9)) = true := by kernel_rfl
theorem confWays_j2 : (Rows.confWaysRow.unfollowed == Tryz.pinned.checked.prog.unfollowed 9) = true := by kernel_rfl
theorem confWays_j3 : (Rows.confWaysRow.recurses == Tryz.pinned.checked.prog.recurses 9) = true := by kernel_rfl
theorem confWays_j4 : (Rows.confWaysRow.named == Tryz.pinned.checked.prog.varsNamed 9) = true := by kernel_rfl
theorem confWays_fn : Tryz.pinned.checked.prog.funcNamed Rows.confWaysRow.func = some 9 := by kernel_rfl

theorem confWays_joined : joinedFacts Tryz.pinned.checked.prog 9 Tryz.f9 Rows.confWaysSpec Rows.confWaysRow = true :=
  joined_of confWays_laidOut confWays_j1 confWays_j2 confWays_j3 confWays_j4 (by as_aux_lemma => kernel_rfl) (by as_aux_lemma => kernel_rfl) (by as_aux_lemma => kernel_rfl) (by as_aux_lemma => kernel_rfl)

theorem confWays_row : Rows.ConfWaysSaid :=
  OpenClaim.holds_of_wide 9 Tryz.f9 rfl rfl rfl rfl rfl rfl rfl ⟨rfl, rfl, rfl, rfl, rfl⟩ rfl rfl rfl rfl rfl confWays_fn Tryz.func9 confWays_joined
    (of_decide_eq_true (by as_aux_lemma => kernel_rfl)) (by unfold Func.isWrapper; first | (rw [if_pos (by decide +kernel)]; kernel_rfl) | (rw [if_neg (by decide +kernel)]; exact ⟨rfl, rfl⟩))
    (fun os started H enc _ => confWays_lifted os started H enc)

theorem confWays_holds : Rows.ConfWaysCardSaid :=
  Claim7.holds_tied_plain_at .later [] [.data, .data, .data, .data, .sentinel, .sentinel, .pinned] true (true, "7d5ef0e12d8b197bacf35b4db5bdfd0086260e606a846bbe504bd38ac77070d5") true confWays_row (fun _ h => by cases h) (by kernel_rfl) (fun _ h => by cases h) confWays_row_tie rfl ⟨rfl, rfl⟩ (by kernel_rfl) rfl
    (fun f fn hf hfn => by
      obtain rfl : f = 9 := Option.some.inj (confWays_fn.symm.trans hf) |>.symm
      obtain rfl : fn = Tryz.f9 := (Option.some.inj (Tryz.func9.symm.trans hfn)).symm
      exact ⟨by kernel_rfl, fun j t ht => by
        have hm : t ∈ Tryz.f9.params.toList := by rw [Array.mem_toList_iff]; exact Array.mem_of_getElem? ht
        have hall : (Tryz.f9.params.toList.all fun u => !Tryz.prog.wantsStandIn u) = true := by kernel_rfl
        exact (show Tryz.prog.wantsStandIn t = false by simpa using List.all_eq_true.1 hall t hm)⟩)
    (by kernel_rfl)
end Go.Proofs.YtfdffboelecgoaaGreatDoor
