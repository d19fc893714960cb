/-
  What is proved: BlockBoth: two ends of a line, over telegrams that are late or lost, never hold the line at one time, for every input that is not too great.
  Conditions: what comes in holds together at most 1048576 values and letters.
-/
import Derived.Test.YtcbmibgfmlpobaaGreatRows
import Derived.Test.YtcbmibgfmlpobaaGreatP5
namespace Go.Proofs.YtcbmibgfmlpobaaGreat
open Go.ChangeShapes Go.WideShapes Go.RowKit Go.Fw

theorem blockBoth_own : ownKnob Tryz.prog.godebug = none := by kernel_rfl
theorem blockBoth_laidOut : laidOutB Tryz.prog = true := by kernel_rfl

theorem bk_one {H : Type} (d : DataW H) : 1 ≤ Rows.uptoBulk d := by
  cases d with
  | lit l => cases l <;> simp [Rows.uptoBulk]
  | _ => simp [Rows.uptoBulk]
theorem bk_len {H : Type} : ∀ l : List (DataW H), l.length ≤ Rows.uptoBulkAll l
  | [] => by simp [Rows.uptoBulkAll]
  | x :: r => by have h1 := bk_one x; have h2 := bk_len r; simp only [Rows.uptoBulkAll, List.length_cons]; omega
theorem bk_sl {H : Type} (elems rest : List (DataW H)) : elems.length ≤ Rows.uptoBulk (.slice elems rest) := by
  have h1 := bk_len elems; simp only [Rows.uptoBulk]; omega
theorem bk_mem {H : Type} {p : DataW H} : ∀ {l : List (DataW H)}, p ∈ l → Rows.uptoBulk p ≤ Rows.uptoBulkAll l
  | x :: r, h => by
    simp only [Rows.uptoBulkAll]
    rcases List.mem_cons.1 h with rfl | h
    · omega
    · have h2 := bk_mem h; omega
theorem bk_agg {H : Type} (parts : List (DataW H)) (p : DataW H) (h : p ∈ parts) : Rows.uptoBulk p ≤ Rows.uptoBulk (.agg parts) := by
  have h1 := bk_mem h; simp only [Rows.uptoBulk]; omega

theorem blockBoth_noInit : Tryz.checked.prog.inits.idxOf? 3 = none := by kernel_rfl
theorem blockBoth_hp : (Tryz.f3.params.toList.all fun t => plainT Tryz.checked.prog 30 t && Tryz.checked.prog.readableRec t && decide (t < Tryz.checked.prog.types.size)) = true := by kernel_rfl

set_option maxRecDepth 100000 in
theorem blockBoth_lifted (os : Os) (started : os.Started) (H : Type) (enc : TypeId × Value → H) (F : Stop.Interp) :
    ReturnsInHanded {} Tryz.checked os 3 .any ((Rows.OpenSpec.upto Rows.blockBothSpec).pre6 enc Tryz.prog Tryz.f3 Rows.blockBothUptoRow.domain false) (((Rows.OpenSpec.upto Rows.blockBothSpec).at F).post enc Tryz.prog Tryz.f3 false true false false) := by
  refine returnsInHanded_of_cond_sized (C := Tryz.checked) (s := Rows.OpenSpec.upto Rows.blockBothSpec) (k := Rows.uptoSmall) rfl blockBoth_own started blockBoth_noInit Tryz.func3
    (OpenSpec.witness (enc := enc) (C := Tryz.checked) (s := Rows.OpenSpec.upto Rows.blockBothSpec) (k := Rows.uptoSmall) rfl false ⟨#[], #[zeroArg Tryz.prog t_sl_law15_Turn], []⟩ 8 (by kernel_rfl) (by kernel_rfl) (by kernel_rfl)
      (x := (DataW.whole enc Tryz.checked.prog (World.plainHolding Tryz.checked.prog os ⟨#[], #[zeroArg Tryz.prog t_sl_law15_Turn], []⟩).memory Tryz.f3.params.toList (Rows.OpenSpec.upto Rows.blockBothSpec).vars false (#[zeroArg Tryz.prog t_sl_law15_Turn] : Array Value).toList 8).getD ([], [], [])) (by kernel_rfl) rfl (by kernel_rfl)) ?_
  intro W base args ds gs before hval hW _ hk hsz _
  have hb : Rows.uptoBulkAll (ds ++ gs) ≤ 1048576 := of_decide_eq_true hk
  exact law_calls_upto (bulk := Rows.uptoBulk) (B := 1048576) bk_sl bk_agg (fn := Tryz.f3) (s := Rows.blockBothSpec) (tb := t_bool) blockBoth_laidOut blockBoth_hp rfl (by kernel_rfl) (by kernel_rfl) (fun hl => law_fn1 hl) (fun xs h hs => law15_BlockBoth_ok h hs) hval hW (fun d hd => Nat.le_trans (bk_mem hd) hb) hsz

theorem blockBoth_j1 : (Rows.blockBothUptoRow.wf (OpenSpec.ofChange Rows.blockBothSpec) && mapsRowed Tryz.pinned.checked.prog && Tryz.f3.params.all (Tryz.pinned.checked.prog.readableRec ·) && namedTie Tryz.pinned.checked.prog Rows.blockBothUptoRow.named Rows.blockBothSpec.vars && (Rows.blockBothUptoRow.stops == []) && (Tryz.pinned.checked.prog.stops == []) && (Rows.blockBothUptoRow.knobs == []) && (Tryz.pinned.checked.prog.stopKnobs == []) && (Rows.blockBothUptoRow.inPlace == Tryz.pinned.checked.prog.inPlace 3)) = true := by kernel_rfl
theorem blockBoth_j2 : (Rows.blockBothUptoRow.unfollowed == Tryz.pinned.checked.prog.unfollowed 3) = true := by kernel_rfl
theorem blockBoth_j3 : (Rows.blockBothUptoRow.recurses == Tryz.pinned.checked.prog.recurses 3) = true := by kernel_rfl
theorem blockBoth_j4 : (Rows.blockBothUptoRow.named == Tryz.pinned.checked.prog.varsNamed 3) = true := by kernel_rfl
theorem blockBoth_fn : Tryz.pinned.checked.prog.funcNamed Rows.blockBothUptoRow.func = some 3 := by kernel_rfl

theorem blockBoth_joined : joinedFacts Tryz.pinned.checked.prog 3 Tryz.f3 Rows.blockBothSpec Rows.blockBothUptoRow = true :=
  joined_of blockBoth_laidOut blockBoth_j1 blockBoth_j2 blockBoth_j3 blockBoth_j4 (by as_aux_lemma => kernel_rfl) (by as_aux_lemma => kernel_rfl) (by as_aux_lemma => kernel_rfl) (by as_aux_lemma => kernel_rfl)

theorem blockBoth_holds : Rows.BlockBothUptoSaid :=
  OpenClaim.holds_of_cond 3 Tryz.f3 rfl rfl rfl rfl rfl rfl rfl ⟨rfl, rfl, rfl, rfl, rfl⟩ rfl rfl rfl rfl rfl blockBoth_fn Tryz.func3 blockBoth_joined
    (of_decide_eq_true (by as_aux_lemma => kernel_rfl)) (by unfold Func.isWrapper; first | (rw [if_pos (by decide +kernel)]; kernel_rfl) | (rw [if_neg (by decide +kernel)]; exact ⟨rfl, rfl⟩))
    (fun os started H enc _ F => blockBoth_lifted os started H enc F)
end Go.Proofs.YtcbmibgfmlpobaaGreat
