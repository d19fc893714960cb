/-
  What is proved: KernelWorst: with all looks at their worst no signal shows other than stop, no route is open, and nothing goes free, for every input that is not too great.
  Conditions: what comes in holds together at most 1048576 values and letters.
-/
import Derived.Test.YtdlnbehcnfjneaaGreatRows
import Derived.Test.YtdlnbehcnfjneaaGreatP6
namespace Go.Proofs.YtdlnbehcnfjneaaGreat
open Go.ChangeShapes Go.WideShapes Go.RowKit Go.Fw

theorem kernelWorst_own : ownKnob Tryz.prog.godebug = none := by kernel_rfl
theorem kernelWorst_laidOut : laidOutB Tryz.prog = true := by kernel_rfl

theorem bk_one {H : Type} (d : DataW H) : 1 ≤ Rows.uptoBulk d := by
  cases d with
  | lit l => cases l <;> simp [Rows.uptoBulk]
  | _ => simp [Rows.uptoBulk]
theorem bk_len {H : Type} : ∀ l : List (DataW H), l.length ≤ Rows.uptoBulkAll l
  | [] => by simp [Rows.uptoBulkAll]
  | x :: r => by have h1 := bk_one x; have h2 := bk_len r; simp only [Rows.uptoBulkAll, List.length_cons]; omega
theorem bk_sl {H : Type} (elems rest : List (DataW H)) : elems.length ≤ Rows.uptoBulk (.slice elems rest) := by
  have h1 := bk_len elems; simp only [Rows.uptoBulk]; omega
theorem bk_mem {H : Type} {p : DataW H} : ∀ {l : List (DataW H)}, p ∈ l → Rows.uptoBulk p ≤ Rows.uptoBulkAll l
  | x :: r, h => by
    simp only [Rows.uptoBulkAll]
    rcases List.mem_cons.1 h with rfl | h
    · omega
    · have h2 := bk_mem h; omega
theorem bk_agg {H : Type} (parts : List (DataW H)) (p : DataW H) (h : p ∈ parts) : Rows.uptoBulk p ≤ Rows.uptoBulk (.agg parts) := by
  have h1 := bk_mem h; simp only [Rows.uptoBulk]; omega

theorem kernelWorst_noInit : Tryz.checked.prog.inits.idxOf? 11 = none := by kernel_rfl
theorem kernelWorst_hp : (Tryz.f11.params.toList.all fun t => plainT Tryz.checked.prog 30 t && Tryz.checked.prog.readableRec t && decide (t < Tryz.checked.prog.types.size)) = true := by kernel_rfl

set_option maxRecDepth 100000 in
theorem kernelWorst_lifted (os : Os) (started : os.Started) (H : Type) (enc : TypeId × Value → H) (F : Stop.Interp) :
    ReturnsInHanded {} Tryz.checked os 11 .any ((Rows.OpenSpec.upto Rows.kernelWorstSpec).pre6 enc Tryz.prog Tryz.f11 Rows.kernelWorstUptoRow.domain false) (((Rows.OpenSpec.upto Rows.kernelWorstSpec).at F).post enc Tryz.prog Tryz.f11 false true false false) := by
  refine returnsInHanded_of_cond_sized (C := Tryz.checked) (s := Rows.OpenSpec.upto Rows.kernelWorstSpec) (k := Rows.uptoSmall) rfl kernelWorst_own started kernelWorst_noInit Tryz.func11
    (OpenSpec.witness (enc := enc) (C := Tryz.checked) (s := Rows.OpenSpec.upto Rows.kernelWorstSpec) (k := Rows.uptoSmall) rfl false ⟨#[], #[zeroArg Tryz.prog t_Config, zeroArg Tryz.prog t_Core, zeroArg Tryz.prog t_int], []⟩ 8 (by kernel_rfl) (by kernel_rfl) (by kernel_rfl)
      (x := (DataW.whole enc Tryz.checked.prog (World.plainHolding Tryz.checked.prog os ⟨#[], #[zeroArg Tryz.prog t_Config, zeroArg Tryz.prog t_Core, zeroArg Tryz.prog t_int], []⟩).memory Tryz.f11.params.toList (Rows.OpenSpec.upto Rows.kernelWorstSpec).vars false (#[zeroArg Tryz.prog t_Config, zeroArg Tryz.prog t_Core, zeroArg Tryz.prog t_int] : Array Value).toList 8).getD ([], [], [])) (by kernel_rfl) rfl (by kernel_rfl)) ?_
  intro W base args ds gs before hval hW _ hk hsz _
  have hb : Rows.uptoBulkAll (ds ++ gs) ≤ 1048576 := of_decide_eq_true hk
  exact law_calls_upto (bulk := Rows.uptoBulk) (B := 1048576) bk_sl bk_agg (fn := Tryz.f11) (s := Rows.kernelWorstSpec) (tb := t_bool) kernelWorst_laidOut kernelWorst_hp rfl (by kernel_rfl) (by kernel_rfl) (fun hl => law_fn3 hl) (fun xs h hs => law14_KernelWorst_ok h hs) hval hW (fun d hd => Nat.le_trans (bk_mem hd) hb) hsz

theorem kernelWorst_j1 : (Rows.kernelWorstUptoRow.wf (OpenSpec.ofChange Rows.kernelWorstSpec) && mapsRowed Tryz.pinned.checked.prog && Tryz.f11.params.all (Tryz.pinned.checked.prog.readableRec ·) && namedTie Tryz.pinned.checked.prog Rows.kernelWorstUptoRow.named Rows.kernelWorstSpec.vars && (Rows.kernelWorstUptoRow.stops == []) && (Tryz.pinned.checked.prog.stops == []) && (Rows.kernelWorstUptoRow.knobs == []) && (Tryz.pinned.checked.prog.stopKnobs == []) && (Rows.kernelWorstUptoRow.inPlace == Tryz.pinned.checked.prog.inPlace 11)) = true := by kernel_rfl
theorem kernelWorst_j2 : (Rows.kernelWorstUptoRow.unfollowed == Tryz.pinned.checked.prog.unfollowed 11) = true := by kernel_rfl
theorem kernelWorst_j3 : (Rows.kernelWorstUptoRow.recurses == Tryz.pinned.checked.prog.recurses 11) = true := by kernel_rfl
theorem kernelWorst_j4 : (Rows.kernelWorstUptoRow.named == Tryz.pinned.checked.prog.varsNamed 11) = true := by kernel_rfl
theorem kernelWorst_fn : Tryz.pinned.checked.prog.funcNamed Rows.kernelWorstUptoRow.func = some 11 := by kernel_rfl

theorem kernelWorst_joined : joinedFacts Tryz.pinned.checked.prog 11 Tryz.f11 Rows.kernelWorstSpec Rows.kernelWorstUptoRow = true :=
  joined_of kernelWorst_laidOut kernelWorst_j1 kernelWorst_j2 kernelWorst_j3 kernelWorst_j4 (by as_aux_lemma => kernel_rfl) (by as_aux_lemma => kernel_rfl) (by as_aux_lemma => kernel_rfl) (by as_aux_lemma => kernel_rfl)

theorem kernelWorst_holds : Rows.KernelWorstUptoSaid :=
  OpenClaim.holds_of_cond 11 Tryz.f11 rfl rfl rfl rfl rfl rfl rfl ⟨rfl, rfl, rfl, rfl, rfl⟩ rfl rfl rfl rfl rfl kernelWorst_fn Tryz.func11 kernelWorst_joined
    (of_decide_eq_true (by as_aux_lemma => kernel_rfl)) (by unfold Func.isWrapper; first | (rw [if_pos (by decide +kernel)]; kernel_rfl) | (rw [if_neg (by decide +kernel)]; exact ⟨rfl, rfl⟩))
    (fun os started H enc _ F => kernelWorst_lifted os started H enc F)
end Go.Proofs.YtdlnbehcnfjneaaGreat
