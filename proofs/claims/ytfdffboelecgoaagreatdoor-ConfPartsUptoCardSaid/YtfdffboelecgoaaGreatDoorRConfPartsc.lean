/-
  What is proved: ConfParts: the law answers true, for every input that is not too great; the library's variables that are listed hold what the program's text lays.
  Conditions: what comes in holds together at most 1048576 values and letters; else none but what the card's print says.
-/
import Derived.Test.YtfdffboelecgoaaGreatDoorRows
import Derived.Test.YtfdffboelecgoaaGreatDoorTie
import Derived.Test.YtfdffboelecgoaaGreatDoorCards
import Derived.Test.YtfdffboelecgoaaGreatDoorP5
import Derived.SevenTiedAt
namespace Go.Proofs.YtfdffboelecgoaaGreatDoor
open Go.ChangeShapes Go.WideShapes Go.RowKit Go.Fw

theorem confParts_own : ownKnob Tryz.prog.godebug = none := by kernel_rfl
theorem confParts_laidOut : laidOutB Tryz.prog = true := by kernel_rfl
theorem confParts_plain (w : World) : laidMetH Tryz.prog Rows.confPartsUptoRow.laid w = laidMet Tryz.prog Rows.confPartsUptoRow.laid w := MakeChecks.laidMetH_plain _ _ _ (by kernel_rfl)

theorem bk_sum {H : Type} : ∀ l : List (DataW H), (l.map Rows.uptoBulk).sum = Rows.uptoBulkAll l
  | [] => by simp [Rows.uptoBulkAll]
  | x :: r => by rw [List.map_cons, List.sum_cons, bk_sum r, Rows.uptoBulkAll]
theorem bk_bulk (H : Type) : Bulk (Rows.uptoBulk (H := H)) where
  one d := by
    cases d with
    | lit l => cases l <;> simp [Rows.uptoBulk]
    | _ => simp [Rows.uptoBulk]
  str l := by simp [Rows.uptoBulk]
  sl elems rest := by rw [bk_sum]; simp only [Rows.uptoBulk]; omega
  agg parts := by rw [bk_sum]; simp only [Rows.uptoBulk]; omega

theorem confParts_noInit : Tryz.checked.prog.inits.idxOf? 8 = none := by kernel_rfl
theorem confParts_hp : (Tryz.f8.params.toList.all fun t => plainT Tryz.checked.prog 30 t && Tryz.checked.prog.readableRec t && decide (t < Tryz.checked.prog.types.size)) = true := by kernel_rfl

theorem confParts_wit (os : Os) {H : Type} (enc : TypeId × Value → H) :
    (Rows.OpenSpec.upto Rows.confPartsSpec).preRow enc Tryz.prog Tryz.f8 Rows.confPartsUptoRow.domain false Rows.confPartsUptoRow.laid ((World.laidAll Tryz.prog os Rows.confPartsUptoRow.laid).forCall (fun _ _ => 0) ⟨#[], #[zeroArg Tryz.prog t_Config, zeroArg Tryz.prog t_int, zeroArg Tryz.prog t_int], []⟩).memory #[zeroArg Tryz.prog t_Config, zeroArg Tryz.prog t_int, zeroArg Tryz.prog t_int] := by
  have hw : ((DataW.whole enc Tryz.prog ((World.laidAll Tryz.prog os Rows.confPartsUptoRow.laid).forCall (fun _ _ => 0) ⟨#[], #[zeroArg Tryz.prog t_Config, zeroArg Tryz.prog t_int, zeroArg Tryz.prog t_int], []⟩).memory Tryz.f8.params.toList (Rows.OpenSpec.upto Rows.confPartsSpec).vars false (#[zeroArg Tryz.prog t_Config, zeroArg Tryz.prog t_int, zeroArg Tryz.prog t_int] : Array Value).toList 8).map fun x => (decide (Rows.uptoBulkAll (x.1 ++ x.2.1) ≤ 1048576))) = some true := by kernel_rfl
  obtain ⟨x, hx, hx1⟩ := Option.map_eq_some_iff.1 hw
  exact OpenSpec.preRow_of_cond 8 hx rfl (fun k hk => by cases hk; exact hx1) (by kernel_rfl) (by rw [confParts_plain]; exact laidMet_laidAll _ (by kernel_rfl) (by kernel_rfl))

set_option maxRecDepth 100000 in
theorem confParts_lifted (os : Os) (started : os.Started) (H : Type) (enc : TypeId × Value → H) (F : Stop.Interp) :
    ReturnsInHanded {} Tryz.checked os 8 .any ((Rows.OpenSpec.upto Rows.confPartsSpec).preRow enc Tryz.prog Tryz.f8 Rows.confPartsUptoRow.domain false Rows.confPartsUptoRow.laid) (((Rows.OpenSpec.upto Rows.confPartsSpec).at F).post enc Tryz.prog Tryz.f8 false true false false) := by
  refine returnsInHanded_of_row (C := Tryz.checked) (s := Rows.OpenSpec.upto Rows.confPartsSpec) confParts_own started confParts_noInit Tryz.func8
    ⟨World.laidAll Tryz.prog os Rows.confPartsUptoRow.laid, fun _ _ => 0, ⟨#[], #[zeroArg Tryz.prog t_Config, zeroArg Tryz.prog t_int, zeroArg Tryz.prog t_int], []⟩, World.laidAll_os _ _ _, World.shaped_of_ZipB (by kernel_rfl) (by kernel_rfl), rfl, (Input.okWide_of_okWideB (by kernel_rfl)).2, confParts_wit os enc, by
      simp only [Assume.holds]
      exact ⟨by simp, by simp, fun _ => Modest.zero, by simp, by simp⟩⟩ ?_
  intro W base args ds gs before hval hW _ hk hsz hL _ _
  have hb : Rows.uptoBulkAll (ds ++ gs) ≤ 1048576 := of_decide_eq_true (hk _ rfl)
  exact law_calls_bulk (N := 1048576) (bk_bulk H) (fn := Tryz.f8) (s := Rows.confPartsSpec) (tb := t_bool) confParts_laidOut confParts_hp rfl (by kernel_rfl) (by kernel_rfl) (fun hl => law_fn3 hl) (fun xs h hs => law06_ConfParts_ok h hs) (gl_laid (Eq.mp (confParts_plain W) hL)) hval hW (by rw [bk_sum]; exact hb) hsz

theorem confParts_j1 : (Rows.confPartsUptoRow.wf (OpenSpec.ofChange Rows.confPartsSpec) && mapsRowed Tryz.pinned.checked.prog && Tryz.f8.params.all (Tryz.pinned.checked.prog.readableRec ·) && namedTie Tryz.pinned.checked.prog Rows.confPartsUptoRow.named Rows.confPartsSpec.vars && (Rows.confPartsUptoRow.stops == []) && (Tryz.pinned.checked.prog.stops == []) && (Rows.confPartsUptoRow.knobs == []) && (Tryz.pinned.checked.prog.stopKnobs == []) && (Rows.confPartsUptoRow.inPlace == Tryz.pinned.checked.prog.inPlace 8)) = true := by kernel_rfl
theorem confParts_j2 : (Rows.confPartsUptoRow.unfollowed == Tryz.pinned.checked.prog.unfollowed 8) = true := by kernel_rfl
theorem confParts_j3 : (Rows.confPartsUptoRow.recurses == Tryz.pinned.checked.prog.recurses 8) = true := by kernel_rfl
theorem confParts_j4 : (Rows.confPartsUptoRow.named == Tryz.pinned.checked.prog.varsNamed 8) = true := by kernel_rfl
theorem confParts_fn : Tryz.pinned.checked.prog.funcNamed Rows.confPartsUptoRow.func = some 8 := by kernel_rfl

theorem confParts_joined : joinedFacts Tryz.pinned.checked.prog 8 Tryz.f8 Rows.confPartsSpec Rows.confPartsUptoRow = true :=
  joined_of confParts_laidOut confParts_j1 confParts_j2 confParts_j3 confParts_j4 (by as_aux_lemma => kernel_rfl) (by as_aux_lemma => kernel_rfl) (by as_aux_lemma => kernel_rfl) (by as_aux_lemma => kernel_rfl)

theorem confParts_row : Rows.ConfPartsUptoSaid :=
  OpenClaim.holds_of_cond 8 Tryz.f8 rfl rfl rfl rfl rfl rfl rfl ⟨rfl, rfl, rfl, rfl, rfl⟩ rfl rfl rfl rfl rfl confParts_fn Tryz.func8 confParts_joined
    (of_decide_eq_true (by as_aux_lemma => kernel_rfl)) (by unfold Func.isWrapper; first | (rw [if_pos (by decide +kernel)]; kernel_rfl) | (rw [if_neg (by decide +kernel)]; exact ⟨rfl, rfl⟩))
    (fun os started H enc _ F => by rw [OpenClaim.pre_eq_preRow]; exact confParts_lifted os started H enc F)

theorem confParts_holds : Rows.ConfPartsUptoCardSaid :=
  Claim7.holds_tied_plain_at .later [] [.data, .data, .data, .data, .sentinel, .sentinel, .pinned] true (true, "7d5ef0e12d8b197bacf35b4db5bdfd0086260e606a846bbe504bd38ac77070d5") true confParts_row (fun _ h => by cases h) (by kernel_rfl) (fun _ h => by cases h) confPartsUpto_row_tie rfl ⟨rfl, rfl⟩ (by kernel_rfl) rfl
    (fun f fn hf hfn => by
      obtain rfl : f = 8 := Option.some.inj (confParts_fn.symm.trans hf) |>.symm
      obtain rfl : fn = Tryz.f8 := (Option.some.inj (Tryz.func8.symm.trans hfn)).symm
      exact ⟨by kernel_rfl, fun j t ht => by
        have hm : t ∈ Tryz.f8.params.toList := by rw [Array.mem_toList_iff]; exact Array.mem_of_getElem? ht
        have hall : (Tryz.f8.params.toList.all fun u => !Tryz.prog.wantsStandIn u) = true := by kernel_rfl
        exact (show Tryz.prog.wantsStandIn t = false by simpa using List.all_eq_true.1 hall t hm)⟩)
    (by kernel_rfl)
end Go.Proofs.YtfdffboelecgoaaGreatDoor
