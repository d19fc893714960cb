/-
  What is proved: LocksNew: the state at the first start is what the document says, for every input that is not too great.
  Conditions: what comes in holds together at most 1048576 values and letters.
-/
import Derived.Test.YtjdpkjembijbeaaRows
import Derived.Test.YtjdpkjembijbeaaP5
namespace Go.Proofs.Ytjdpkjembijbeaa
open Go.ChangeShapes Go.WideShapes Go.RowKit Go.Fw

theorem locksNew_own : ownKnob Try.prog.godebug = none := by kernel_rfl
theorem locksNew_laidOut : laidOutB Try.prog = true := by kernel_rfl

theorem bk_one {H : Type} (d : DataW H) : 1 ≤ Rows.uptoBulk d := by
  cases d with
  | lit l => cases l <;> simp [Rows.uptoBulk]
  | _ => simp [Rows.uptoBulk]
theorem bk_len {H : Type} : ∀ l : List (DataW H), l.length ≤ Rows.uptoBulkAll l
  | [] => by simp [Rows.uptoBulkAll]
  | x :: r => by have h1 := bk_one x; have h2 := bk_len r; simp only [Rows.uptoBulkAll, List.length_cons]; omega
theorem bk_sl {H : Type} (elems rest : List (DataW H)) : elems.length ≤ Rows.uptoBulk (.slice elems rest) := by
  have h1 := bk_len elems; simp only [Rows.uptoBulk]; omega
theorem bk_mem {H : Type} {p : DataW H} : ∀ {l : List (DataW H)}, p ∈ l → Rows.uptoBulk p ≤ Rows.uptoBulkAll l
  | x :: r, h => by
    simp only [Rows.uptoBulkAll]
    rcases List.mem_cons.1 h with rfl | h
    · omega
    · have h2 := bk_mem h; omega
theorem bk_agg {H : Type} (parts : List (DataW H)) (p : DataW H) (h : p ∈ parts) : Rows.uptoBulk p ≤ Rows.uptoBulk (.agg parts) := by
  have h1 := bk_mem h; simp only [Rows.uptoBulk]; omega

theorem locksNew_noInit : Try.checked.prog.inits.idxOf? 4 = none := by kernel_rfl
theorem locksNew_hp : (Try.f4.params.toList.all fun t => plainT Try.checked.prog 30 t && Try.checked.prog.readableRec t && decide (t < Try.checked.prog.types.size)) = true := by kernel_rfl

set_option maxRecDepth 100000 in
theorem locksNew_lifted (os : Os) (started : os.Started) (H : Type) (enc : TypeId × Value → H) (F : Stop.Interp) :
    ReturnsInHanded {} Try.checked os 4 .any ((Rows.OpenSpec.upto Rows.locksNewSpec).pre6 enc Try.prog Try.f4 Rows.locksNewUptoRow.domain false) (((Rows.OpenSpec.upto Rows.locksNewSpec).at F).post enc Try.prog Try.f4 false true false false) := by
  refine returnsInHanded_of_cond_sized (C := Try.checked) (s := Rows.OpenSpec.upto Rows.locksNewSpec) (k := Rows.uptoSmall) rfl locksNew_own started locksNew_noInit Try.func4
    (OpenSpec.witness (enc := enc) (C := Try.checked) (s := Rows.OpenSpec.upto Rows.locksNewSpec) (k := Rows.uptoSmall) rfl false ⟨#[], #[zeroArg Try.prog t_Config, zeroArg Try.prog t_int], []⟩ 8 (by kernel_rfl) (by kernel_rfl) (by kernel_rfl)
      (x := (DataW.whole enc Try.checked.prog (World.plainHolding Try.checked.prog os ⟨#[], #[zeroArg Try.prog t_Config, zeroArg Try.prog t_int], []⟩).memory Try.f4.params.toList (Rows.OpenSpec.upto Rows.locksNewSpec).vars false (#[zeroArg Try.prog t_Config, zeroArg Try.prog t_int] : Array Value).toList 8).getD ([], [], [])) (by kernel_rfl) rfl (by kernel_rfl)) ?_
  intro W base args ds gs before hval hW _ hk hsz _
  have hb : Rows.uptoBulkAll (ds ++ gs) ≤ 1048576 := of_decide_eq_true hk
  exact law_calls_upto (bulk := Rows.uptoBulk) (B := 1048576) bk_sl bk_agg (fn := Try.f4) (s := Rows.locksNewSpec) (tb := t_bool) locksNew_laidOut locksNew_hp rfl (by kernel_rfl) (by kernel_rfl) (fun hl => law_fn2 hl) (fun xs h hs => law13_LocksNew_ok h hs) hval hW (fun d hd => Nat.le_trans (bk_mem hd) hb) hsz

theorem locksNew_j1 : (Rows.locksNewUptoRow.wf (OpenSpec.ofChange Rows.locksNewSpec) && mapsRowed Try.pinned.checked.prog && Try.f4.params.all (Try.pinned.checked.prog.readableRec ·) && namedTie Try.pinned.checked.prog Rows.locksNewUptoRow.named Rows.locksNewSpec.vars && (Rows.locksNewUptoRow.stops == []) && (Try.pinned.checked.prog.stops == []) && (Rows.locksNewUptoRow.knobs == []) && (Try.pinned.checked.prog.stopKnobs == []) && (Rows.locksNewUptoRow.inPlace == Try.pinned.checked.prog.inPlace 4)) = true := by kernel_rfl
theorem locksNew_j2 : (Rows.locksNewUptoRow.unfollowed == Try.pinned.checked.prog.unfollowed 4) = true := by kernel_rfl
theorem locksNew_j3 : (Rows.locksNewUptoRow.recurses == Try.pinned.checked.prog.recurses 4) = true := by kernel_rfl
theorem locksNew_j4 : (Rows.locksNewUptoRow.named == Try.pinned.checked.prog.varsNamed 4) = true := by kernel_rfl
theorem locksNew_fn : Try.pinned.checked.prog.funcNamed Rows.locksNewUptoRow.func = some 4 := by kernel_rfl

theorem locksNew_joined : joinedFacts Try.pinned.checked.prog 4 Try.f4 Rows.locksNewSpec Rows.locksNewUptoRow = true :=
  joined_of locksNew_laidOut locksNew_j1 locksNew_j2 locksNew_j3 locksNew_j4 (by as_aux_lemma => kernel_rfl) (by as_aux_lemma => kernel_rfl) (by as_aux_lemma => kernel_rfl) (by as_aux_lemma => kernel_rfl)

theorem locksNew_holds : Rows.LocksNewUptoSaid :=
  OpenClaim.holds_of_cond 4 Try.f4 rfl rfl rfl rfl rfl rfl rfl ⟨rfl, rfl, rfl, rfl, rfl⟩ rfl rfl rfl rfl rfl locksNew_fn Try.func4 locksNew_joined
    (of_decide_eq_true (by as_aux_lemma => kernel_rfl)) (by unfold Func.isWrapper; first | (rw [if_pos (by decide +kernel)]; kernel_rfl) | (rw [if_neg (by decide +kernel)]; exact ⟨rfl, rfl⟩))
    (fun os started H enc _ F => locksNew_lifted os started H enc F)
end Go.Proofs.Ytjdpkjembijbeaa
