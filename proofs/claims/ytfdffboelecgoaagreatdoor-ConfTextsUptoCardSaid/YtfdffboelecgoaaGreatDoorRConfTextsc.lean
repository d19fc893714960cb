/-
  What is proved: ConfTexts: the law answers true, for every input that is not too great; the library's variables that are listed hold what the program's text lays.
  Conditions: what comes in holds together at most 1048576 values and letters; else none but what the card's print says.
-/
import Derived.Test.YtfdffboelecgoaaGreatDoorRows
import Derived.Test.YtfdffboelecgoaaGreatDoorTie
import Derived.Test.YtfdffboelecgoaaGreatDoorCards
import Derived.Test.YtfdffboelecgoaaGreatDoorP5
import Derived.SevenTiedAt
namespace Go.Proofs.YtfdffboelecgoaaGreatDoor
open Go.ChangeShapes Go.WideShapes Go.RowKit Go.Fw

theorem confTexts_own : ownKnob Tryz.prog.godebug = none := by kernel_rfl
theorem confTexts_laidOut : laidOutB Tryz.prog = true := by kernel_rfl
theorem confTexts_plain (w : World) : laidMetH Tryz.prog Rows.confTextsUptoRow.laid w = laidMet Tryz.prog Rows.confTextsUptoRow.laid w := MakeChecks.laidMetH_plain _ _ _ (by kernel_rfl)

theorem bk_sum {H : Type} : ∀ l : List (DataW H), (l.map Rows.uptoBulk).sum = Rows.uptoBulkAll l
  | [] => by simp [Rows.uptoBulkAll]
  | x :: r => by rw [List.map_cons, List.sum_cons, bk_sum r, Rows.uptoBulkAll]
theorem bk_bulk (H : Type) : Bulk (Rows.uptoBulk (H := H)) where
  one d := by
    cases d with
    | lit l => cases l <;> simp [Rows.uptoBulk]
    | _ => simp [Rows.uptoBulk]
  str l := by simp [Rows.uptoBulk]
  sl elems rest := by rw [bk_sum]; simp only [Rows.uptoBulk]; omega
  agg parts := by rw [bk_sum]; simp only [Rows.uptoBulk]; omega

theorem confTexts_noInit : Tryz.checked.prog.inits.idxOf? 4 = none := by kernel_rfl
theorem confTexts_hp : (Tryz.f4.params.toList.all fun t => plainT Tryz.checked.prog 30 t && Tryz.checked.prog.readableRec t && decide (t < Tryz.checked.prog.types.size)) = true := by kernel_rfl

theorem confTexts_wit (os : Os) {H : Type} (enc : TypeId × Value → H) :
    (Rows.OpenSpec.upto Rows.confTextsSpec).preRow enc Tryz.prog Tryz.f4 Rows.confTextsUptoRow.domain false Rows.confTextsUptoRow.laid ((World.laidAll Tryz.prog os Rows.confTextsUptoRow.laid).forCall (fun _ _ => 0) ⟨#[], #[zeroArg Tryz.prog t_Config, zeroArg Tryz.prog t_string], []⟩).memory #[zeroArg Tryz.prog t_Config, zeroArg Tryz.prog t_string] := by
  have hw : ((DataW.whole enc Tryz.prog ((World.laidAll Tryz.prog os Rows.confTextsUptoRow.laid).forCall (fun _ _ => 0) ⟨#[], #[zeroArg Tryz.prog t_Config, zeroArg Tryz.prog t_string], []⟩).memory Tryz.f4.params.toList (Rows.OpenSpec.upto Rows.confTextsSpec).vars false (#[zeroArg Tryz.prog t_Config, zeroArg Tryz.prog t_string] : Array Value).toList 8).map fun x => (decide (Rows.uptoBulkAll (x.1 ++ x.2.1) ≤ 1048576))) = some true := by kernel_rfl
  obtain ⟨x, hx, hx1⟩ := Option.map_eq_some_iff.1 hw
  exact OpenSpec.preRow_of_cond 8 hx rfl (fun k hk => by cases hk; exact hx1) (by kernel_rfl) (by rw [confTexts_plain]; exact laidMet_laidAll _ (by kernel_rfl) (by kernel_rfl))

set_option maxRecDepth 100000 in
theorem confTexts_lifted (os : Os) (started : os.Started) (H : Type) (enc : TypeId × Value → H) (F : Stop.Interp) :
    ReturnsInHanded {} Tryz.checked os 4 .any ((Rows.OpenSpec.upto Rows.confTextsSpec).preRow enc Tryz.prog Tryz.f4 Rows.confTextsUptoRow.domain false Rows.confTextsUptoRow.laid) (((Rows.OpenSpec.upto Rows.confTextsSpec).at F).post enc Tryz.prog Tryz.f4 false true false false) := by
  refine returnsInHanded_of_row (C := Tryz.checked) (s := Rows.OpenSpec.upto Rows.confTextsSpec) confTexts_own started confTexts_noInit Tryz.func4
    ⟨World.laidAll Tryz.prog os Rows.confTextsUptoRow.laid, fun _ _ => 0, ⟨#[], #[zeroArg Tryz.prog t_Config, zeroArg Tryz.prog t_string], []⟩, World.laidAll_os _ _ _, World.shaped_of_ZipB (by kernel_rfl) (by kernel_rfl), rfl, (Input.okWide_of_okWideB (by kernel_rfl)).2, confTexts_wit os enc, by
      simp only [Assume.holds]
      exact ⟨by simp, by simp, fun _ => Modest.zero, by simp, by simp⟩⟩ ?_
  intro W base args ds gs before hval hW _ hk hsz hL _ _
  have hb : Rows.uptoBulkAll (ds ++ gs) ≤ 1048576 := of_decide_eq_true (hk _ rfl)
  exact law_calls_bulk (N := 1048576) (bk_bulk H) (fn := Tryz.f4) (s := Rows.confTextsSpec) (tb := t_bool) confTexts_laidOut confTexts_hp rfl (by kernel_rfl) (by kernel_rfl) (fun hl => law_fn2 hl) (fun xs h hs => law06_ConfTexts_ok h hs) (gl_laid (Eq.mp (confTexts_plain W) hL)) hval hW (by rw [bk_sum]; exact hb) hsz

theorem confTexts_j1 : (Rows.confTextsUptoRow.wf (OpenSpec.ofChange Rows.confTextsSpec) && mapsRowed Tryz.pinned.checked.prog && Tryz.f4.params.all (Tryz.pinned.checked.prog.readableRec ·) && namedTie Tryz.pinned.checked.prog Rows.confTextsUptoRow.named Rows.confTextsSpec.vars && (Rows.confTextsUptoRow.stops == []) && (Tryz.pinned.checked.prog.stops == []) && (Rows.confTextsUptoRow.knobs == []) && (Tryz.pinned.checked.prog.stopKnobs == []) && (Rows.confTextsUptoRow.inPlace == Tryz.pinned.checked.prog.inPlace 4)) = true := by kernel_rfl
theorem confTexts_j2 : (Rows.confTextsUptoRow.unfollowed == Tryz.pinned.checked.prog.unfollowed 4) = true := by kernel_rfl
theorem confTexts_j3 : (Rows.confTextsUptoRow.recurses == Tryz.pinned.checked.prog.recurses 4) = true := by kernel_rfl
theorem confTexts_j4 : (Rows.confTextsUptoRow.named == Tryz.pinned.checked.prog.varsNamed 4) = true := by kernel_rfl
theorem confTexts_fn : Tryz.pinned.checked.prog.funcNamed Rows.confTextsUptoRow.func = some 4 := by kernel_rfl

theorem confTexts_joined : joinedFacts Tryz.pinned.checked.prog 4 Tryz.f4 Rows.confTextsSpec Rows.confTextsUptoRow = true :=
  joined_of confTexts_laidOut confTexts_j1 confTexts_j2 confTexts_j3 confTexts_j4 (by as_aux_lemma => kernel_rfl) (by as_aux_lemma => kernel_rfl) (by as_aux_lemma => kernel_rfl) (by as_aux_lemma => kernel_rfl)

theorem confTexts_row : Rows.ConfTextsUptoSaid :=
  OpenClaim.holds_of_cond 4 Tryz.f4 rfl rfl rfl rfl rfl rfl rfl ⟨rfl, rfl, rfl, rfl, rfl⟩ rfl rfl rfl rfl rfl confTexts_fn Tryz.func4 confTexts_joined
    (of_decide_eq_true (by as_aux_lemma => kernel_rfl)) (by unfold Func.isWrapper; first | (rw [if_pos (by decide +kernel)]; kernel_rfl) | (rw [if_neg (by decide +kernel)]; exact ⟨rfl, rfl⟩))
    (fun os started H enc _ F => by rw [OpenClaim.pre_eq_preRow]; exact confTexts_lifted os started H enc F)

theorem confTexts_holds : Rows.ConfTextsUptoCardSaid :=
  Claim7.holds_tied_plain_at .later [] [.data, .data, .data, .data, .sentinel, .sentinel, .pinned] true (true, "7d5ef0e12d8b197bacf35b4db5bdfd0086260e606a846bbe504bd38ac77070d5") true confTexts_row (fun _ h => by cases h) (by kernel_rfl) (fun _ h => by cases h) confTextsUpto_row_tie rfl ⟨rfl, rfl⟩ (by kernel_rfl) rfl
    (fun f fn hf hfn => by
      obtain rfl : f = 4 := Option.some.inj (confTexts_fn.symm.trans hf) |>.symm
      obtain rfl : fn = Tryz.f4 := (Option.some.inj (Tryz.func4.symm.trans hfn)).symm
      exact ⟨by kernel_rfl, fun j t ht => by
        have hm : t ∈ Tryz.f4.params.toList := by rw [Array.mem_toList_iff]; exact Array.mem_of_getElem? ht
        have hall : (Tryz.f4.params.toList.all fun u => !Tryz.prog.wantsStandIn u) = true := by kernel_rfl
        exact (show Tryz.prog.wantsStandIn t = false by simpa using List.all_eq_true.1 hall t hm)⟩)
    (by kernel_rfl)
end Go.Proofs.YtfdffboelecgoaaGreatDoor
