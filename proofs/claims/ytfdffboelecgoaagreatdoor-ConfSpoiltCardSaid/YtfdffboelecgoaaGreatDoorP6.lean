/-
  Proofs that the statement of this claim leans on: part 6.
-/
import Derived.Test.YtfdffboelecgoaaGreatDoorP5
set_option linter.unusedVariables false
set_option linter.unusedSimpArgs false
namespace Go.Proofs.YtfdffboelecgoaaGreatDoor
open Go.Fw Go.Proofs Go.RowKit
section
variable {σ : Store}
theorem clone_ok {t : TypeId} {bytes : Nat} {d : D} {rows : List (List D)} {Q : RV → Store → Prop} (h : At Tryz.prog σ t d rows) (hz : d ≠ .zsl) (hb : bytes * rows.length ≤ 140737488355328)
   (hQ : ∀ d' s, Own Tryz.prog σ s t d' rows → Q (.a (.one d')) s) :
   ∃ b : Bool, (IsNil .sl d b) ∧ bcase (b != false) (Q (.a (.one .nils)) σ) (Fw.newObj σ (.live t []) (fun (id : Nat) => fun (σ' : Store) => appendTo Tryz.prog σ' t bytes (.osl id 0 0) d (fun (d : D) => fun (σ'1 : Store) => Q (.a (.one d)) σ'1))) := by
 have new : ∀ b : Bool, b = false → bcase (b != false) (Q (.a (.one .nils)) σ) (Fw.newObj σ (.live t []) (fun (id : Nat) => fun (σ' : Store) => appendTo Tryz.prog σ' t bytes (.osl id 0 0) d (fun (d : D) => fun (σ'1 : Store) => Q (.a (.one d)) σ'1))) := by
   rintro b rfl
   rw [show (false != false) = false from by decide]
   refine (newObj_intro (K := fun id σ' => appendTo Tryz.prog σ' t bytes (.osl id 0 0) d fun d σ'1 => Q (.a (.one d)) σ'1) ?_ : Fw.newObj σ (.live t []) _)
   refine fun id s hid _ he hs => ?_
   have ho : Own Tryz.prog σ s t (.osl id 0 0) [] := ⟨At.fresh hs (by simp) rfl, he, osl_new hid, fun h => h, by intro e; cases e⟩
   exact ho.append (h.ext he) (by simpa using hb) (by have := h.size; simpa using this) fun d' s' ho' _ _ => hQ _ _ (by simpa using ho')
 have hr := h.rows
 cases d <;> simp only [Go.Fw.Rows] at hr <;> try exact hr.elim
 · subst hr; exact ⟨true, rfl, hQ _ _ (.nil _ (.refl _))⟩
 · exact absurd rfl hz
 · exact ⟨false, rfl, new _ rfl⟩
 · exact ⟨false, rfl, new _ rfl⟩
theorem Clone_int_ok {d : D} {rows : List (List D)} (h : At Tryz.prog σ t_int d rows) (hz : d ≠ .zsl) (hb : 8 * rows.length ≤ 140737488355328) : DCalls Tryz.prog n_slices_Clone_int [.one d] σ fun r s => ∃ d', r = .a (.one d') ∧ Own Tryz.prog σ s t_int d' rows :=
 W_slices_Clone_int d σ _ (clone_ok (Q := fun r s => ∃ d', r = .a (.one d') ∧ Own Tryz.prog σ s _ d' rows) h hz hb fun d' s ho => ⟨d', rfl, ho⟩)
end
end Go.Proofs.YtfdffboelecgoaaGreatDoor
namespace Go.Proofs.YtfdffboelecgoaaGreatDoor
open Go.Shelf Go.Proofs
section
def sortLays_ren : Go.Shelf.Ren := ⟨fun | 189 => 58 | 125 => 96 | 257 => 95 | 128 => 129 | 129 => 130 | 294 => 120 | 295 => 121 | 296 => 122 | 297 => 123 | 298 => 124 | 299 => 125 | 216 => 126 | 300 => 127 | 301 => 128 | 328 => 146 | 329 => 147 | 330 => 148 | 331 => 149 | 332 => 150 | 215 => 151 | 343 => 164 | n => n, fun | 28 => 25 | 3 => 3 | 46 => 40 | 0 => 0 | 51 => 175 | 53 => 177 | 4 => 4 | 183 => 168 | 182 => 167 | 131 => 68 | 5 => 5 | 9 => 9 | 218 => 193 | 222 => 197 | 228 => 214 | 229 => 215 | n => n, fun | n => n⟩
theorem sortLays : Go.Proofs.Lays.n189 Tryz.prog sortLays_ren := {
 mixed := by kernel_rfl
 f125 := Tryz.func96.trans (congrArg some (by kernel_rfl))
 f128 := Tryz.func129.trans (congrArg some (by kernel_rfl))
 f129 := Tryz.func130.trans (congrArg some (by kernel_rfl))
 f189 := Tryz.func58.trans (congrArg some (by kernel_rfl))
 f215 := Tryz.func151.trans (congrArg some (by kernel_rfl))
 f216 := Tryz.func126.trans (congrArg some (by kernel_rfl))
 f257 := Tryz.func95.trans (congrArg some (by kernel_rfl))
 f294 := Tryz.func120.trans (congrArg some (by kernel_rfl))
 f295 := Tryz.func121.trans (congrArg some (by kernel_rfl))
 f296 := Tryz.func122.trans (congrArg some (by kernel_rfl))
 f297 := Tryz.func123.trans (congrArg some (by kernel_rfl))
 f298 := Tryz.func124.trans (congrArg some (by kernel_rfl))
 f299 := Tryz.func125.trans (congrArg some (by kernel_rfl))
 f300 := Tryz.func127.trans (congrArg some (by kernel_rfl))
 f301 := Tryz.func128.trans (congrArg some (by kernel_rfl))
 f328 := Tryz.func146.trans (congrArg some (by kernel_rfl))
 f329 := Tryz.func147.trans (congrArg some (by kernel_rfl))
 f330 := Tryz.func148.trans (congrArg some (by kernel_rfl))
 f331 := Tryz.func149.trans (congrArg some (by kernel_rfl))
 f332 := Tryz.func150.trans (congrArg some (by kernel_rfl))
 f343 := Tryz.func164.trans (congrArg some (by kernel_rfl))
 t0 := Tryz.underlying0
 a0 := Tryz.isAgg0
 z0 := Tryz.sizeOf0
 v0 := Tryz.zeroValue0
 t3 := Tryz.underlying3
 a3 := Tryz.isAgg3
 z3 := Tryz.sizeOf3
 v3 := Tryz.zeroValue3
 t4 := Tryz.underlying4
 a4 := Tryz.isAgg4
 z4 := Tryz.sizeOf4
 v4 := Tryz.zeroValue4
 t5 := Tryz.underlying5
 a5 := Tryz.isAgg5
 z5 := Tryz.sizeOf5
 v5 := Tryz.zeroValue5
 t9 := Tryz.underlying9
 a9 := Tryz.isAgg9
 z9 := Tryz.sizeOf9
 v9 := Tryz.zeroValue9
 t28 := Tryz.underlying25
 a28 := Tryz.isAgg25
 z28 := Tryz.sizeOf25
 v28 := Tryz.zeroValue25
 t46 := Tryz.underlying40
 a46 := Tryz.isAgg40
 z46 := Tryz.sizeOf40
 v46 := Tryz.zeroValue40
 t51 := Tryz.underlying175
 a51 := Tryz.isAgg175
 z51 := Tryz.sizeOf175
 v51 := Tryz.zeroValue175
 t53 := Tryz.underlying177
 a53 := Tryz.isAgg177
 z53 := Tryz.sizeOf177
 v53 := Tryz.zeroValue177
 t131 := Tryz.underlying68
 a131 := Tryz.isAgg68
 z131 := Tryz.sizeOf68
 v131 := Tryz.zeroValue68
 t182 := Tryz.underlying167
 a182 := Tryz.isAgg167
 z182 := Tryz.sizeOf167
 v182 := Tryz.zeroValue167
 t183 := Tryz.underlying168
 a183 := Tryz.isAgg168
 z183 := Tryz.sizeOf168
 v183 := Tryz.zeroValue168
 t218 := Tryz.underlying193
 a218 := Tryz.isAgg193
 z218 := Tryz.sizeOf193
 v218 := Tryz.zeroValue193
 t222 := Tryz.underlying197
 a222 := Tryz.isAgg197
 z222 := Tryz.sizeOf197
 v222 := Tryz.zeroValue197
 t228 := Tryz.underlying214
 a228 := Tryz.isAgg214
 z228 := Tryz.sizeOf214
 v228 := Tryz.zeroValue214
 t229 := Tryz.underlying215
 a229 := Tryz.isAgg215
 z229 := Tryz.sizeOf215
 v229 := Tryz.zeroValue215 }
end
section
def compactLays_ren : Go.Shelf.Ren := ⟨fun | 20 => 59 | n => n, fun | 22 => 25 | 3 => 3 | 4 => 4 | 0 => 0 | n => n, fun | n => n⟩
theorem compactLays : Go.Proofs.Lays2.n20 Tryz.prog compactLays_ren := {
 mixed := by kernel_rfl
 f20 := Tryz.func59.trans (congrArg some (by kernel_rfl))
 t0 := Tryz.underlying0
 a0 := Tryz.isAgg0
 z0 := Tryz.sizeOf0
 v0 := Tryz.zeroValue0
 t3 := Tryz.underlying3
 a3 := Tryz.isAgg3
 z3 := Tryz.sizeOf3
 v3 := Tryz.zeroValue3
 t4 := Tryz.underlying4
 a4 := Tryz.isAgg4
 z4 := Tryz.sizeOf4
 v4 := Tryz.zeroValue4
 t22 := Tryz.underlying25
 a22 := Tryz.isAgg25
 z22 := Tryz.sizeOf25
 v22 := Tryz.zeroValue25
 i3 := by kernel_rfl }
end
end Go.Proofs.YtfdffboelecgoaaGreatDoor
namespace Go.Proofs.YtfdffboelecgoaaGreatDoor
open Go.Fw Go.Proofs Go.RowKit
section
variable {σ σ0 : Store}
theorem own_over {s : Store} {d : D} {l ys : List Int} (h : Own Tryz.prog σ0 s t_int d (l.map Go.Fw.encI)) (h0 : l ≠ []) (hl : ys.length = l.length) :
   ∃ id i0 t rows, d = .osl id i0 l.length ∧ s id = .live t rows ∧ Tryz.prog.cellsOf t = 1 ∧ i0 + l.length ≤ rows.length ∧ (rows.drop i0).take l.length = l.map intRow ∧ σ0 id = .free ∧
     Own Tryz.prog σ0 (s.set id (.live t (rows.take i0 ++ ys.map intRow ++ rows.drop (i0 + l.length)))) t_int d (ys.map Go.Fw.encI) := by
 have hr := h.at_.rows
 have hsz := h.at_.size
 rw [List.length_map] at hsz
 have hnz := h.nz
 have hns := h.nsl
 have hnew := h.new
 have hlen := h.at_.lenI
 rw [List.length_map] at hlen
 cases d <;> simp only [Go.Fw.Rows] at hr <;> try exact hr.elim
 · exact absurd (List.map_eq_nil_iff.1 hr) h0
 · exact absurd rfl hnz
 · exact absurd trivial hns
 · rename_i id i0 len
   obtain ⟨t, rows, a1, a2, a3, a4⟩ := hr
   have e : l.length = len := hlen
   subst e
   have ht : Tryz.prog.cellsOf t = 1 := by rw [a2]; exact c_int
   have hn := hnew _ _ _ rfl
   refine ⟨id, i0, t, rows, rfl, a1, ht, a3, a4.symm, hn, ⟨⟨⟨t, _, Store.set_same _ _ _, a2, ?_, ?_⟩, ?_, fun es rows e => by cases e⟩, ?_, hnew, fun h => h, by intro e; cases e⟩⟩
   · simp; omega
   · have hi0 : (rows.take i0).length = i0 := by simp; omega
     rw [List.append_assoc, List.drop_append_of_le_length (by omega), List.drop_of_length_le (by omega), List.nil_append, List.take_append_of_le_length (by simp; omega), List.take_of_length_le (by simp; omega)]
     rfl
   · rw [List.length_map]; omega
   · intro i hi
     rw [Store.set_ne _ _ (by intro e; subst e; exact hi hn)]
     exact h.ext i hi
theorem Sort_int_ok {s : Store} {d : D} {l : List Int} (h : Own Tryz.prog σ0 s t_int d (l.map Go.Fw.encI)) (h0 : l ≠ []) :
   DCalls Tryz.prog n_slices_Sort_int [.one d] s fun r s' => r = .tup [] ∧ Own Tryz.prog σ0 s' t_int d ((sorted l).map Go.Fw.encI) := by
 have hsz := h.at_.size
 rw [List.length_map] at hsz
 obtain ⟨id, i0, t, rows, rfl, a1, ht, a3, a4, hn, ho⟩ := own_over (ys := sorted l) h h0 (by simp [sorted])
 refine (sort_DCalls sortLays ht a1 a3 a4 (List.length_pos_iff.2 h0) (by omega)).mono ?_
 rintro r s' ⟨rfl, rfl⟩
 exact ⟨rfl, ho⟩
theorem Compact_int_ok {s : Store} {d : D} {l : List Int} (h : Own Tryz.prog σ0 s t_int d (l.map Go.Fw.encI)) (h0 : l ≠ []) (hp : l.Pairwise (· ≤ ·)) :
   DCalls Tryz.prog n_slices_Compact_int [.one d] s fun r s' => ∃ d', r = .a (.one d') ∧ Own Tryz.prog σ0 s' t_int d' ((cpt l).map Go.Fw.encI) := by
 have hsz := h.at_.size
 rw [List.length_map] at hsz
 have hc := compact_cpt hp
 have hle := cpt_len l
 obtain ⟨id, i0, t, rows, rfl, a1, ht, a3, a4, hn, ho⟩ := own_over (ys := Lib.compact l ++ List.replicate (l.length - (Lib.compact l).length) 0) h h0 (by rw [hc]; simp; omega)
 refine (compact_DCalls compactLays ht a1 a3 a4 (List.length_pos_iff.2 h0) (by omega)).mono ?_
 rintro r s' ⟨rfl, rfl⟩
 have := ho.sub (lo := 0) (hi := (cpt l).length) (by omega) (by rw [hc]; simp)
 rw [hc] at this ⊢
 refine ⟨_, rfl, ?_⟩
 have e : ((((cpt l ++ List.replicate (l.length - (cpt l).length) 0).map Go.Fw.encI).drop 0).take ((cpt l).length - 0)) = (cpt l).map Go.Fw.encI := by
   rw [List.drop_zero, Nat.sub_zero, List.map_append, List.take_append_of_le_length (by simp), List.take_of_length_le (by simp)]
 rw [e] at this
 exact this
def RtsNz : D → Prop
 | .sl _ rows => ∀ row ∈ rows, row[4]? ≠ some .zsl
 | _ => True
theorem nz_over {c4 : D} {rows : List (List D)} (hz : RtsNz c4) (hat : ∀ s, At Tryz.prog s t_Route c4 rows) {i : Nat} {row : List D} (hr : rows[i]? = some row) : row[4]? ≠ some .zsl := by
 have hx := (hat (fun _ => .free)).rows
 cases c4 <;> simp only [Go.Fw.Rows] at hx <;> try exact hx.elim
 · subst hx; simp at hr
 · subst hx; simp at hr
 · obtain ⟨rfl, _⟩ := hx; exact hz _ (List.mem_of_getElem? hr)
 · obtain ⟨t, rows', h1, _⟩ := hx; cases h1
def RtSz (x : Rt) : Prop := 1 ≤ x.Overlap.length + x.Path.length + x.Flank.length ∧ x.Path.length ≤ 2 ^ 20 ∧ x.Flank.length ≤ 2 ^ 20 ∧ x.Overlap.length ≤ 2 ^ 20
section
variable {c0 c1 c2 c3 c4 : D} {c : Cf} (h : ∀ s, RtsAt Tryz.prog t_Route t_Step t_Need t_int s c4 c.Rts)
include h
theorem rt_frz {i : Nat} {x : Rt} (hx : c.Rts[i]? = some x) : ∃ rows d1 d2 d3, (∀ s, At Tryz.prog s t_Route c4 rows) ∧ rows.length = c.Rts.length ∧ rows[i]? = some [iD x.Entry, iD x.Exit, d1, d2, d3, .bool x.Shunt] ∧
   (∀ s, At Tryz.prog s t_Step d1 (x.Path.map St.enc)) ∧ (∀ s, At Tryz.prog s t_Need d2 (x.Flank.map Nd.enc)) ∧ (∀ s, At Tryz.prog s t_int d3 (x.Overlap.map Go.Fw.encI)) := by
 obtain ⟨rows, hat, hlen, hrow⟩ := rts_froz h
 obtain ⟨row, hrw⟩ := get_of_lt (l := rows) (j := i) (by have := (List.getElem?_eq_some_iff.1 hx).1; omega)
 obtain ⟨d1, d2, d3, rfl, q1, q2, q3⟩ := hrow i row x hrw hx
 exact ⟨rows, d1, d2, d3, hat, hlen, hrw, q1, q2, q3⟩
theorem locks_rts (hs : ∀ x ∈ c.Rts, RtSz x) (hz : RtsNz c4) (i : Int) : DCalls Tryz.prog n_conf_Locks [cfA c0 c1 c2 c3 c4 c, iA i] σ (SlPost σ t_int ((c.lockL i).map Go.Fw.encI)) := by
 refine (W_conf_Locks _ _ _ _ _ _ _ _ _ i σ _ ?_).ret (Q := fun r s => ∃ r' σ', Ret Tryz.prog σ s r σ' r' ∧ SlPost σ t_int ((c.lockL i).map Go.Fw.encI) r' σ') (fun r s h => h)
 intro R hR
 have nil : geti c.Rts i = none → ∃ r' σ', Ret Tryz.prog σ σ (.a (.one .nils)) σ' r' ∧ SlPost σ t_int ((c.lockL i).map Go.Fw.encI) r' σ' := fun e => by
   have : c.lockL i = [] := by unfold Cf.lockL; rw [e]
   rw [this]; exact own_fin (.nil _ (.refl _)) (flatI _)
 obtain ⟨rows, hat, hlen, _⟩ := h σ
 refine bcd (fun e => nil (geti_neg e)) (fun e0 => hat.lenK (bcd (fun e => nil (geti_ge (by omega))) (fun e1 => hR σ ?_)))
 obtain ⟨x, hx⟩ := geti_ex (l := c.Rts) (i := i) e0 (by omega)
 clear hR nil hat
 have hll : c.lockL i = Cf.lockR x := by unfold Cf.lockL; rw [hx]
 rw [hll]
 obtain ⟨rows, d1, d2, d3, hat, hlen, hrow, q1, q2, q3⟩ := rt_frz h (geti_some hx).2.2
 obtain ⟨w0, w1, w2, w3⟩ := hs x (geti_mem hx)
 refine (hat σ).load hrow c_Route (by omega) ⟨_, _, _, _, _, _, rfl, (Clone_int_ok (q3 σ) ?_ (by rw [List.length_map]; omega)).mono ?_⟩
 · exact fun e => nz_over hz hat hrow (by rw [e]; rfl)
 rintro r s ⟨d, rfl, ho⟩
 refine ⟨d, rfl, (q1 σ).lenK ⟨fun d n s' => ∃ j : Nat, n = j ∧ j ≤ x.Path.length ∧ Own Tryz.prog σ s' t_int d ((x.Overlap ++ (x.Path.take j).map St.Sec).map Go.Fw.encI), fun _ n _ => x.Path.length - n.toNat, ⟨0, rfl, by omega, by simpa using ho⟩, ?_⟩⟩
 rintro d n s' ⟨j, rfl, hj, ho⟩
 rw [List.length_map]
 refine bcd (fun hlt => ?_) (fun hge => ?_)
 · obtain ⟨y, hy⟩ := get_of_lt (l := x.Path) (j := j) (by omega)
   refine (q1 s').load (map_get hy) c_Step rfl ⟨y.Sec, y.In, y.Out, rfl, newObj_intro fun id s2 hid _ he hs2 => ?_⟩
   refine (ho.ext' he).append (At.fresh hs2 (by simp) rfl) (by simp; omega) (by simp; omega) fun d4 s5 ho5 _ _ => ?_
   rw [w64_succ (by omega)]
   refine ⟨rfl, ⟨j + 1, rfl, by omega, ?_⟩, dec_lt (by omega)⟩
   have e : x.Overlap ++ (x.Path.take (j + 1)).map St.Sec = (x.Overlap ++ (x.Path.take j).map St.Sec) ++ [y.Sec] := by rw [List.take_add_one, hy]; simp
   rw [e, List.map_append]; exact ho5
 have e : j = x.Path.length := by omega
 rw [e, List.take_length] at ho
 refine (q2 s').lenK ⟨fun d n s' => ∃ j : Nat, n = j ∧ j ≤ x.Flank.length ∧ Own Tryz.prog σ s' t_int d ((x.Overlap ++ x.Path.map St.Sec ++ (x.Flank.take j).map Nd.Sec).map Go.Fw.encI), fun _ n _ => x.Flank.length - n.toNat, ⟨0, rfl, by omega, by simpa using ho⟩, ?_⟩
 rintro d n s' ⟨j, rfl, hj, ho⟩
 rw [List.length_map]
 refine bcd (fun hlt => ?_) (fun hge => ?_)
 · obtain ⟨y, hy⟩ := get_of_lt (l := x.Flank) (j := j) (by omega)
   refine (q2 s').load (map_get hy) c_Need rfl ⟨y.Sec, y.Pos, rfl, newObj_intro fun id s2 hid _ he hs2 => ?_⟩
   refine (ho.ext' he).append (At.fresh hs2 (by simp) rfl) (by simp; omega) (by simp; omega) fun d4 s5 ho5 _ _ => ?_
   rw [w64_succ (by omega)]
   refine ⟨⟨j + 1, rfl, by omega, ?_⟩, dec_lt (by omega)⟩
   have e : x.Overlap ++ x.Path.map St.Sec ++ (x.Flank.take (j + 1)).map Nd.Sec = (x.Overlap ++ x.Path.map St.Sec ++ (x.Flank.take j).map Nd.Sec) ++ [y.Sec] := by rw [List.take_add_one, hy]; simp
   rw [e, List.map_append]; exact ho5
 have e : j = x.Flank.length := by omega
 rw [e, List.take_length] at ho
 have hne : x.Overlap ++ x.Path.map St.Sec ++ x.Flank.map Nd.Sec ≠ [] := by
   intro e
   have := congrArg List.length e
   simp only [List.length_append, List.length_map, List.length_nil] at this; omega
 refine (Sort_int_ok ho hne).mono ?_
 rintro r s2 ⟨rfl, ho⟩
 refine ⟨rfl, (Compact_int_ok ho (fun e => hne (by
   have := congrArg List.length e
   simp only [sorted, List.length_mergeSort] at this
   exact List.length_eq_zero_iff.1 this)) (sorted_pair _)).mono ?_⟩
 rintro r s3 ⟨d', rfl, ho⟩
 exact ⟨d', rfl, own_fin ho (flatI _)⟩
end
theorem check_sz {c : Cf} (hok : c.check = 0) : ∀ x ∈ c.Rts, RtSz x := fun x hx => by
 have hr := check_rt hok hx
 have w1 := hr.len
 have w2 := hr.flen
 have w3 := hr.olen
 exact ⟨by omega, by omega, by omega, by omega⟩
theorem conf_Locks_ok {c0 c1 c2 c3 c4 : D} {c : Cf} (h : ∀ s, CfAt s c0 c1 c2 c3 c4 c) (hok : c.check = 0) (hz : RtsNz c4) (i : Int) : DCalls Tryz.prog n_conf_Locks [cfA c0 c1 c2 c3 c4 c, iA i] σ (SlPost σ t_int ((c.lockL i).map Go.Fw.encI)) :=
 locks_rts (fun s => (h s).rts) (check_sz hok) hz i
end
section
theorem ty_i {row : List D} {n : Nat} (h : tyD Tryz.prog n t_int row) : ∃ m, row = Go.Fw.encI m ∧ I64 m := by
 obtain ⟨_, _, rfl, ⟨m, rfl, hm⟩, rfl⟩ := ty_sh n 2 _ _ [.int .i64] h (by kernel_rfl)
 exact ⟨m, rfl, wf_i64 hm⟩
theorem ty_i2 {t : TypeId} {row : List D} {n : Nat} (h : tyD Tryz.prog n t row) (hs : cellsSh Tryz.prog 5 t = some [.int .i64, .int .i64]) : ∃ a b, row = [iD a, iD b] ∧ I64 a ∧ I64 b := by
 obtain ⟨_, _, rfl, ⟨a, rfl, ha⟩, _, _, rfl, ⟨b, rfl, hb⟩, rfl⟩ := ty_sh n 5 _ _ _ h hs
 exact ⟨a, b, rfl, wf_i64 ha, wf_i64 hb⟩
theorem ty_i3 {t : TypeId} {row : List D} {n : Nat} (h : tyD Tryz.prog n t row) (hs : cellsSh Tryz.prog 5 t = some [.int .i64, .int .i64, .int .i64]) : ∃ a b c, row = [iD a, iD b, iD c] ∧ I64 a ∧ I64 b ∧ I64 c := by
 obtain ⟨_, _, rfl, ⟨a, rfl, ha⟩, _, _, rfl, ⟨b, rfl, hb⟩, _, _, rfl, ⟨c, rfl, hc⟩, rfl⟩ := ty_sh n 5 _ _ _ h hs
 exact ⟨a, b, c, rfl, wf_i64 ha, wf_i64 hb, wf_i64 hc⟩
theorem ty_i4 {t : TypeId} {row : List D} {n : Nat} (h : tyD Tryz.prog n t row) (hs : cellsSh Tryz.prog 5 t = some [.int .i64, .int .i64, .int .i64, .int .i64]) : ∃ a b c d, row = [iD a, iD b, iD c, iD d] ∧ I64 a ∧ I64 b ∧ I64 c ∧ I64 d := by
 obtain ⟨_, _, rfl, ⟨a, rfl, ha⟩, _, _, rfl, ⟨b, rfl, hb⟩, _, _, rfl, ⟨c, rfl, hc⟩, _, _, rfl, ⟨d, rfl, hd⟩, rfl⟩ := ty_sh n 5 _ _ _ h hs
 exact ⟨a, b, c, d, rfl, wf_i64 ha, wf_i64 hb, wf_i64 hc, wf_i64 hd⟩
theorem ty_Section {row : List D} {n : Nat} (h : tyD Tryz.prog n t_Section row) : ∃ s : Sec, row = s.enc ∧ I64 s.Kind ∧ I64 s.OC ∧ I64 s.Line := by
 obtain ⟨a, b, c, rfl, q⟩ := ty_i3 h (by kernel_rfl)
 exact ⟨⟨a, b, c⟩, rfl, q⟩
theorem ty_Joint {row : List D} {n : Nat} (h : tyD Tryz.prog n t_Joint row) : ∃ s : Jt, row = s.enc ∧ I64 s.A ∧ I64 s.AEnd ∧ I64 s.B ∧ I64 s.BEnd := by
 obtain ⟨a, b, c, d, rfl, q⟩ := ty_i4 h (by kernel_rfl)
 exact ⟨⟨a, b, c, d⟩, rfl, q⟩
theorem ty_Signal {row : List D} {n : Nat} (h : tyD Tryz.prog n t_Signal row) : ∃ s : Sg, row = s.enc ∧ I64 s.Sec ∧ I64 s.End_ := by
 obtain ⟨a, b, rfl, q⟩ := ty_i2 h (by kernel_rfl)
 exact ⟨⟨a, b⟩, rfl, q⟩
theorem ty_Step {row : List D} {n : Nat} (h : tyD Tryz.prog n t_Step row) : ∃ s : St, row = s.enc ∧ I64 s.Sec ∧ I64 s.In ∧ I64 s.Out := by
 obtain ⟨a, b, c, rfl, q⟩ := ty_i3 h (by kernel_rfl)
 exact ⟨⟨a, b, c⟩, rfl, q⟩
theorem ty_Need {row : List D} {n : Nat} (h : tyD Tryz.prog n t_Need row) : ∃ s : Nd, row = s.enc ∧ I64 s.Sec ∧ I64 s.Pos := by
 obtain ⟨a, b, rfl, q⟩ := ty_i2 h (by kernel_rfl)
 exact ⟨⟨a, b⟩, rfl, q⟩
structure RtI (r : Rt) : Prop where
 entry : I64 r.Entry
 exit : I64 r.Exit
 path : ∀ s ∈ r.Path, I64 s.Sec ∧ I64 s.In ∧ I64 s.Out
 flank : ∀ s ∈ r.Flank, I64 s.Sec ∧ I64 s.Pos
 over : ∀ o ∈ r.Overlap, I64 o
 np : 24 * r.Path.length ≤ 140737488351232
 nf : 16 * r.Flank.length ≤ 140737488351232
 no : 8 * r.Overlap.length ≤ 140737488351232
structure CfI (c : Cf) : Prop where
 secs : ∀ s ∈ c.Secs, I64 s.Kind ∧ I64 s.OC ∧ I64 s.Line
 jts : ∀ s ∈ c.Jts, I64 s.A ∧ I64 s.AEnd ∧ I64 s.B ∧ I64 s.BEnd
 sigs : ∀ s ∈ c.Sigs, I64 s.Sec ∧ I64 s.End_
 xs : ∀ s ∈ c.Xs, I64 s
 rts : ∀ r ∈ c.Rts, RtI r
 age : I64 c.Age
 brake : I64 c.Brake
 hold : I64 c.Hold
 budget : I64 c.Budget
 nsecs : 24 * c.Secs.length ≤ 140737488351232
 njts : 32 * c.Jts.length ≤ 140737488351232
 nsigs : 16 * c.Sigs.length ≤ 140737488351232
 nxs : 8 * c.Xs.length ≤ 140737488351232
 nrts : 96 * c.Rts.length ≤ 140737488351232
theorem ty_RouteZ {row : List D} {n : Nat} (h : tyD Tryz.prog n t_Route row) : ∃ r : Rt, ((∀ s, RtAt Tryz.prog t_Step t_Need t_int s row r) ∧ RtI r) ∧ row[4]? ≠ some .zsl := by
 obtain ⟨_, _, rfl, ⟨a, rfl, ha⟩, _, _, rfl, ⟨b, rfl, hb⟩, d1, _, rfl, h1, d2, _, rfl, h2, d3, _, rfl, h3, _, _, rfl, ⟨sh, rfl⟩, rfl⟩ := ty_sh n 5 _ _ [.int .i64, .int .i64, .sl t_Step, .sl t_Need, .sl t_int, .bool] h (by kernel_rfl)
 obtain ⟨l1, a1, b1, _, e1⟩ := sh_rows (bytes := 24) St.enc _ (fun row n h => ty_Step h) (by kernel_rfl) (by omega) h1
 obtain ⟨l2, a2, b2, _, e2⟩ := sh_rows (bytes := 16) Nd.enc _ (fun row n h => ty_Need h) (by kernel_rfl) (by omega) h2
 obtain ⟨l3, a3, b3, z3, e3⟩ := sh_rows (bytes := 8) Go.Fw.encI _ (fun row n h => ty_i h) (by kernel_rfl) (by omega) h3
 exact ⟨⟨a, b, l1, l2, l3, sh⟩, ⟨fun s => ⟨d1, d2, d3, rfl, a1 s, a2 s, a3 s⟩, wf_i64 ha, wf_i64 hb, b1, b2, b3, e1, e2, e3⟩, fun e => z3 (by injection e)⟩
theorem ty_ConfigZ {cs : List D} {n : Nat} (h : tyD Tryz.prog n t_Config cs) : ∃ c0 c1 c2 c3 c4 c, cs = [c0, c1, c2, c3, c4, iD c.Age, iD c.Brake, iD c.Hold, iD c.Budget] ∧ (∀ s, CfAt s c0 c1 c2 c3 c4 c) ∧ CfI c ∧ RtsNz c4 := by
 obtain ⟨c0, _, rfl, h0, c1, _, rfl, h1, c2, _, rfl, h2, c3, _, rfl, h3, c4, _, rfl, h4, _, _, rfl, ⟨a, rfl, ha⟩, _, _, rfl, ⟨b, rfl, hb⟩, _, _, rfl, ⟨ho, rfl, hho⟩, _, _, rfl, ⟨bu, rfl, hbu⟩, rfl⟩ :=
   ty_sh n 5 _ _ [.sl t_Section, .sl t_Joint, .sl t_Signal, .sl t_int, .sl t_Route, .int .i64, .int .i64, .int .i64, .int .i64] h (by kernel_rfl)
 obtain ⟨l0, a0, b0, _, e0⟩ := sh_rows (bytes := 24) Sec.enc _ (fun row n h => ty_Section h) (by kernel_rfl) (by omega) h0
 obtain ⟨l1, a1, b1, _, e1⟩ := sh_rows (bytes := 32) Jt.enc _ (fun row n h => ty_Joint h) (by kernel_rfl) (by omega) h1
 obtain ⟨l2, a2, b2, _, e2⟩ := sh_rows (bytes := 16) Sg.enc _ (fun row n h => ty_Signal h) (by kernel_rfl) (by omega) h2
 obtain ⟨l3, a3, b3, _, e3⟩ := sh_rows (bytes := 8) Go.Fw.encI _ (fun row n h => ty_i h) (by kernel_rfl) (by omega) h3
 obtain ⟨rows, l4, a4, q4, b4, _, e4⟩ := sh_rel (bytes := 96) (fun row r => ((∀ s, RtAt Tryz.prog t_Step t_Need t_int s row r) ∧ RtI r) ∧ row[4]? ≠ some .zsl) (fun row n h => ty_RouteZ h) (by kernel_rfl) (by omega) h4
 refine ⟨c0, c1, c2, c3, c4, ⟨l0, l1, l2, l3, l4, a, b, ho, bu⟩, rfl, fun s => ⟨a0 s, a1 s, a2 s, a3 s, rows, a4 s, q4, fun i row r x y => (b4 i row r x y).1.1 s⟩, ⟨b0, b1, b2, b3, ?_, wf_i64 ha, wf_i64 hb, wf_i64 hho, wf_i64 hbu, e0, e1, e2, e3, e4⟩, ?_⟩
 · intro r hr
   obtain ⟨i, hi⟩ := List.mem_iff_getElem?.1 hr
   have hi : l4[i]? = some r := hi
   have hlt := (List.getElem?_eq_some_iff.1 hi).1
   obtain ⟨row, hrow⟩ := get_of_lt (l := rows) (j := i) (by omega)
   exact (b4 i row r hrow hi).1.2
 · have hr := (a4 noS).rows
   cases c4 <;> first | trivial | skip
   obtain ⟨rfl, _⟩ := hr
   intro row hrow
   obtain ⟨i, hi⟩ := List.mem_iff_getElem?.1 hrow
   have hlt := (List.getElem?_eq_some_iff.1 hi).1
   obtain ⟨r, hr⟩ := get_of_lt (l := l4) (j := i) (by omega)
   exact (b4 i row r hi hr).2
end
end Go.Proofs.YtfdffboelecgoaaGreatDoor
section
set_option maxRecDepth 20000
namespace Go.Proofs.YtfdffboelecgoaaGreatDoor
open Go.Fw Go.Proofs Go.RowKit
variable {σ σ0 : Store}
theorem IndexFunc_int_ok {d f : D} {l : List Int} {p : Int → Bool} (h : At Tryz.prog σ t_int d (l.map Go.Fw.encI)) (hf : FnIs Tryz.prog σ f (fun x : Int => iA x) l p) :
   Pure Tryz.prog n_slices_IndexFunc_int [.one d, .one f] σ (.a (iA (fidx p l 0))) := by
 have hl := h.size
 rw [List.length_map] at hl
 obtain ⟨f1, a, b, as0', bs, rfl, ha, hb, hf⟩ := hf
 refine W_slices_IndexFunc_int d _ σ _ (h.lenK ⟨fun n s => s = σ ∧ Rng l (fun r => ∀ j : Nat, n = j → fidx p r j = fidx p l 0) n, fun n _ => l.length - n.toNat, ⟨rfl, .start fun j hj => by cases j with | zero => rfl | succ j => omega⟩, ?_⟩)
 rintro n τ ⟨rfl, hr⟩
 refine bcd (fun hlt => ?_) (fun hge => ?_)
 · obtain ⟨j, x, rfl, hx, hj, hF, nx⟩ := hr.step (by simp) hl hlt
   refine h.load (map_get hx) c_int rfl ⟨x, rfl, f1, a, b, as0', bs, rfl, ha, hb, ?_⟩
   have hF := hF j rfl
   rw [fidx] at hF
   refine (hf x (List.mem_of_getElem? hx)).mono ?_
   rintro r s ⟨rfl, rfl⟩
   refine ⟨p x, rfl, bc (fun hp => ?_) (fun hp => ?_)⟩
   · rw [if_pos hp] at hF; exact ⟨by rw [← hF], rfl⟩
   · refine andl rfl (nx _ fun j' hj' => ?_)
     rw [w64_succ (by omega)] at hj'
     have : j' = j + 1 := by omega
     subst this
     rw [if_neg (by rw [hp]; simp)] at hF
     exact hF
 · refine ⟨?_, rfl⟩
   obtain ⟨j, hj, hj2, hF⟩ := hr
   have hF := hF j hj
   rw [List.length_map] at hge
   rw [drop_end (by omega)] at hF
   rw [← hF]; rfl
theorem ContainsFunc_int_ok {d f : D} {l : List Int} {p : Int → Bool} (h : At Tryz.prog σ t_int d (l.map Go.Fw.encI)) (hf : FnIs Tryz.prog σ f (fun x : Int => iA x) l p) :
   Pure Tryz.prog n_slices_ContainsFunc_int [.one d, .one f] σ (.a (bA (l.any p))) :=
 W_slices_ContainsFunc_int d f σ _ ((IndexFunc_int_ok h hf).use ⟨_, rfl, by rw [fidx_any]; exact ⟨rfl, rfl⟩⟩)
theorem ref01_SameInts_ok {a b : D} {la lb : List Int} (ha : At Tryz.prog σ t_int a (la.map Go.Fw.encI)) (hb : At Tryz.prog σ t_int b (lb.map Go.Fw.encI)) : Pure Tryz.prog n_ref01_SameInts [.one a, .one b] σ (.a (bA (decide (la = lb)))) := by
 have hs := ha.size
 rw [List.length_map] at hs
 refine W_ref01_SameInts a b σ _ (ha.lenK (hb.lenK ?_))
 rw [List.length_map, List.length_map]
 refine bcn (fun hne => ⟨?_, rfl⟩) (fun he => ha.lenK ?_)
 · rw [decide_eq_false (fun e => hne (by rw [e]))]
 have hl : la.length = lb.length := by omega
 rw [List.length_map]
 refine ⟨fun n s => s = σ ∧ EqR la lb n, fun n _ => la.length - n.toNat, ⟨rfl, .start _ _⟩, ?_⟩
 rintro n s ⟨rfl, hr⟩
 refine bcd (fun hlt => ?_) (fun hge => ⟨?_, rfl⟩)
 · obtain ⟨j, x, y, rfl, hx, hy, hn, hy2⟩ := hr.step hl rfl hs hlt
   refine ha.load (map_get hx) c_int rfl ⟨x, rfl, hb.load (map_get hy) c_int rfl ⟨y, rfl, bcn (fun e => ⟨?_, rfl⟩) (fun e => andl rfl (hy2 e))⟩⟩
   rw [decide_eq_false (hn e)]
 · rw [decide_eq_true (hr.done hl rfl hge)]
theorem Contains_int_ok {d : D} {l : List Int} (v : Int) (h : At Tryz.prog σ t_int d (l.map Go.Fw.encI)) : Pure Tryz.prog n_slices_Contains_int [.one d, iA v] σ (.a (bA (inL l v))) := by
 refine W_slices_Contains_int d v σ _ ((slices_Index_int_ok v h).use ⟨_, rfl, ?_, rfl⟩)
 have key : ∀ (l : List Int) (j : Nat), decide (idxOf l v j ≥ 0) = inL l v := by
   intro l
   induction l with
   | nil => intro j; simp [idxOf, inL]
   | cons x r ih =>
     intro j
     rw [idxOf]
     by_cases hx : v = x
     · rw [if_pos hx]; simp [inL, hx]
     · rw [if_neg hx, ih, inL, inL]; simp [hx]
 rw [key]
def cflict (c : Cf) (a b : Int) : Bool := (c.lockL a).any fun s => inL (c.lockL b) s
theorem conf_Conflict_of {c0 c1 c2 c3 c4 : D} {c : Cf} {a b : Int} (hL : ∀ (s : Store) (i : Int), DCalls Tryz.prog n_conf_Locks [cfA c0 c1 c2 c3 c4 c, iA i] s (SlPost s t_int ((c.lockL i).map Go.Fw.encI))) :
   Fw.Pure Tryz.prog n_conf_Conflict [cfA c0 c1 c2 c3 c4 c, iA a, iA b] σ (.a (bA (cflict c a b))) := by
 refine .of (W_conf_Conflict _ _ _ _ _ _ _ _ _ a b σ _ ((hL σ b).mono ?_)) (flat_b _)
 rintro r s ⟨rfl, d, rfl, hd⟩
 refine ⟨d, rfl, newObj_intro fun id s1 hid _ he hs => pr_store hs (by simp) fun s2 hs2 ho2 => (hL s2 a).mono ?_⟩
 rintro r s3 ⟨rfl, d1, rfl, hd1⟩
 have hs2 : s3 id = .live t_sl_int [[d]] := hs2
 refine ⟨d1, rfl, (ContainsFunc_int_ok (hd1 s3) (p := fun x => inL (c.lockL b) x) ⟨n_conf_Conflict_1, _, _, [], [.one (.el (.osl id 0 1) 0 0)], rfl, rfl, rfl, fun x _ => ?_⟩).use ⟨_, rfl, rfl, ext_put he hid ho2⟩⟩
 exact W_conf_Conflict_1 x _ s3 _ ⟨_, _, _, rfl, _, box_row hs2, d, rfl, (Contains_int_ok x (hd s3)).use ⟨_, rfl, rfl, rfl⟩⟩
def litS : Cf := ⟨[⟨0, 0, 0⟩, ⟨1, 0, 0⟩, ⟨0, 0, 0⟩, ⟨0, 0, 0⟩, ⟨0, 0, 1⟩], [⟨0, 1, 1, 0⟩, ⟨1, 1, 2, 0⟩, ⟨1, 2, 3, 0⟩, ⟨2, 1, 4, 0⟩], [⟨0, 1⟩, ⟨2, 1⟩], [], [⟨0, 1, [⟨1, 0, 1⟩, ⟨2, 0, 1⟩], [], [], false⟩, ⟨1, -1, [⟨4, 0, 1⟩], [], [], false⟩], 2, 1, 4, 1000⟩
def sD0 : D := .sl 3 [[iD 0, iD 0, iD 0], [iD 1, iD 0, iD 0], [iD 0, iD 0, iD 0], [iD 0, iD 0, iD 0], [iD 0, iD 0, iD 1]]
def sD1 : D := .sl 4 [[iD 0, iD 1, iD 1, iD 0], [iD 1, iD 1, iD 2, iD 0], [iD 1, iD 2, iD 3, iD 0], [iD 2, iD 1, iD 4, iD 0]]
def sD2 : D := .sl 2 [[iD 0, iD 1], [iD 2, iD 1]]
def sD4 : D := .sl 6 [[iD 0, iD 1, .sl 3 [[iD 1, iD 0, iD 1], [iD 2, iD 0, iD 1]], .nils, .nils, .bool false], [iD 1, iD (-1), .sl 3 [[iD 4, iD 0, iD 1]], .nils, .nils, .bool false]]
theorem litS_at (s : Store) : CfAt s sD0 sD1 sD2 .nils sD4 litS :=
 ⟨at_lit c_Section (by simp), at_lit c_Joint (by simp), at_lit c_Signal (by simp), .nil, ⟨_, at_lit c_Route (by simp), rfl, fun i row r h1 h2 => by
   have hi : i = 0 ∨ i = 1 := by have := (List.getElem?_eq_some_iff.1 h1).1; simp at this; omega
   rcases hi with rfl | rfl
   · simp at h1; subst h1
     simp [litS] at h2; subst h2
     exact ⟨_, _, _, rfl, at_lit c_Step (by simp), .nil, .nil⟩
   · simp at h1; subst h1
     simp [litS] at h2; subst h2
     exact ⟨_, _, _, rfl, at_lit c_Step (by simp), .nil, .nil⟩⟩⟩
theorem litS_nz : RtsNz sD4 := by
 intro row hr
 simp only [List.mem_cons, List.not_mem_nil, or_false] at hr
 rcases hr with rfl | rfl <;> (intro e; cases e)
theorem litS_64 : cf64 litS := by
 constructor <;> simp [litS, rt64, i64]
theorem lockL0 : litS.lockL 0 = [1, 2] := by
 show Cf.lockR ⟨0, 1, [⟨1, 0, 1⟩, ⟨2, 0, 1⟩], [], [], false⟩ = [1, 2]
 rw [← insL_lockR]; decide +kernel
theorem litS_check : litS.check = 0 := by decide +kernel
theorem litS_len : (cfTxt litS).length ≤ 2 ^ 20 := by decide +kernel
theorem law06_small_ok : Pure Tryz.prog n_law06_small [] σ (.a (cfA sD0 sD1 sD2 .nils sD4 litS)) := W_law06_small σ _ ⟨rfl, rfl⟩
theorem law06_lives_ok : Pure Tryz.prog n_law06_lives [] σ (.a (bA true)) := by
 have hl := litS_len
 refine W_law06_lives σ _ (law06_small_ok.use ⟨_, _, _, _, _, _, _, _, _, rfl, (conf_Locks_ok litS_at litS_check litS_nz 0).mono ?_⟩)
 rintro r s ⟨rfl, d5, rfl, hd5⟩
 rw [lockL0] at hd5
 refine ⟨d5, rfl, (conf_Text_ok (litS_at s) litS_64 (by omega)).use ⟨_, rfl, (conf_Read_ok (text := baOf (cfTxt litS)) (by rw [baOf_size]; omega)).mono ?_⟩⟩
 rintro r s1 ⟨rfl, e0, e1, e2, e3, e4, rfl, he⟩
 rw [rdText_txt litS_64] at he ⊢
 refine ⟨_, _, _, _, _, _, _, _, _, _, rfl, (conf_Check_ok litS_at).use ⟨_, rfl, ?_⟩⟩
 rw [litS_check]
 refine bce (fun _ => (ref01_SameInts_ok (hd5 s1) (lb := [1, 2]) (at_lit c_int (by simp))).use ⟨_, rfl, bc (fun _ => bce (fun _ => (law06_same_ok (he s1) (litS_at s1) litS_64 litS_64 (by show (cfTxt litS).length ≤ _; omega) (by omega)).use ⟨_, rfl, bc (fun _ => (conf_Approach_ok (litS_at s1) 0).use ⟨_, rfl, ?_⟩) (fun e => ?_)⟩) (fun e => absurd rfl e)) (fun e => by cases e)⟩) (fun e => absurd rfl e)
 · rw [show litS.Approach 0 = 0 from by decide +kernel]
   refine bce (fun _ => (conf_Conflict_of (a := 0) (b := 0) fun s i => conf_Locks_ok litS_at litS_check litS_nz i).use ⟨_, rfl, ?_, rfl⟩) (fun e => absurd rfl e)
   have : cflict litS 0 0 = true := by unfold cflict; rw [lockL0]; rfl
   rw [this]
 · rw [show (some litS).getD noCf = litS from rfl, beq_self_eq_true] at e; cases e
end Go.Proofs.YtfdffboelecgoaaGreatDoor
end
namespace Go.Fw
section
variable {P : Program} {σ : Store}
theorem flat_v {k k' : Nat → Prop} {β β' : Bk} {W W' : World} {v : Value} {d : D} (h : Flat d) (hv : V k β W v d) : V k' β' W' v d := by
 cases h <;> cases hv <;> constructor
theorem flat_vr {k k' : Nat → Prop} {β β' : Bk} {W W' : World} {v : Value} {r : RV} (h : FlatR r) (hv : VR k β W v r) : VR k' β' W' v r := by
 cases h with
 | one d h => exact flat_v h hv
 | agg ds h =>
   obtain ⟨vs, h1, h2, h3⟩ := hv
   exact ⟨vs, h1, h2, fun i u x hu hx => flat_v (h x (List.mem_of_getElem? hx)) (h3 i u x hu hx)⟩
 | tup ds h =>
   obtain ⟨vs, h1, h2, h3⟩ := hv
   refine ⟨vs, h1, h2, fun i u x hu hx => ?_⟩
   have hx' := hx
   rw [List.getElem?_map, Option.map_eq_some_iff] at hx'
   obtain ⟨d, hd, rfl⟩ := hx'
   exact flat_v (h d (List.mem_of_getElem? hd)) (h3 i u _ hu hx)
def voidS : Store := fun _ => .free
theorem Pure.lend {f : FuncId} {xs ys : List A} {r : RV} (h : Pure P f ys voidS r) (hr : FlatR r) (hl : ys.length = xs.length) (hf : ∀ (i : Nat) x y, xs[i]? = some x → ys[i]? = some y → FzA P σ (fun _ => False) x y) : Pure P f xs σ r := by
 refine ⟨h.1, fun k β W vs hS hsz hv => ?_⟩
 have hB : IsRest β (fun _ => False) (fun _ => none) := ⟨fun i hi => hi.elim, fun i _ => rfl⟩
 have hS2 : SRel P (restK k β σ fun _ => False) (fun _ => none) W voidS := {
   gl := hS.gl.mono (fun b hb => .inl hb) fun b hb => rfl
   fin := ⟨0, fun i _ => rfl⟩
   dom := fun i => ⟨fun e => (by cases e), fun e => absurd rfl e⟩
   klt := fun b hb => by
     rcases hb with hb | ⟨i, bi, t, rows, h1, _, _, rfl⟩
     · exact hS.klt b hb
     · exact hS.blt i bi h1
   blt := fun i bi hi => by cases hi
   inj := fun i j bi bj hi => by cases hi
   notk := fun i bi hi => by cases hi
   obj := fun i bi t rows hi => by cases hi
   omap := fun i bi c es hi => by cases hi }
 refine (h.2 _ _ W vs hS2 (by rw [hsz, hl]) fun i v y hvi hy => ?_).mono ?_
 · have hlt : i < xs.length := by rw [← hl]; exact (List.getElem?_eq_some_iff.1 hy).1
   have hx := List.getElem?_eq_getElem hlt
   exact FzA.ok hB hS (hf i _ y hx hy) (hv i v _ hvi hx)
 · rintro e W' ⟨v, r', σ', k', β', rfl, ⟨rfl, rfl⟩, hvr, _, _, hfr⟩
   have hg : Grow W W' := ⟨hfr.os, hfr.tape, hfr.output, hfr.size, fun b hb => hfr.block b hb fun i bi hi => by cases hi⟩
   exact ⟨v, r', σ, k, β, rfl, ⟨rfl, rfl⟩, flat_vr hr hvr, hS.grow hg, Ghost.refl _ _ _ _, hg.frm β σ⟩
end
end Go.Fw
section
set_option maxRecDepth 20000
namespace Go.Proofs.YtfdffboelecgoaaGreatDoor
open Go.Fw Go.Proofs Go.RowKit
variable {σ σ0 : Store}
abbrev nowS : Nat → Prop := fun _ => False
theorem rt_lend {row : List D} {r : Rt} (h : RtAt Tryz.prog t_Step t_Need t_int σ row r) : ∃ row', FzL Tryz.prog σ nowS row row' ∧ row'.length = row.length ∧ RtRow row' r := by
 obtain ⟨d1, d2, d3, rfl, h1, h2, h3⟩ := h
 obtain ⟨e1, a1, b1, c1⟩ := fz_list (S := nowS) h1 (fun _ _ h => h) (map_sf st_flat _)
 obtain ⟨e2, a2, b2, c2⟩ := fz_list (S := nowS) h2 (fun _ _ h => h) (map_sf nd_flat _)
 obtain ⟨e3, a3, b3, c3⟩ := fz_list (S := nowS) h3 (fun _ _ h => h) (map_sf i_flat _)
 exact ⟨_, .cons (.int _ _) (.cons (.int _ _) (.cons a1 (.cons a2 (.cons a3 (.cons (.bool _) .nil))))), rfl, e1, e2, e3, rfl, b1, b2, b3, c1, c2, c3⟩
theorem rows_lend : ∀ (rows : List (List D)) (l : List Rt), rows.length = l.length → (∀ (i : Nat) row r, rows[i]? = some row → l[i]? = some r → RtAt Tryz.prog t_Step t_Need t_int σ row r) →
   ∃ rows' : List (List D), rows'.length = rows.length ∧ (∀ (i : Nat) row row', rows[i]? = some row → rows'[i]? = some row' → FzL Tryz.prog σ nowS row row' ∧ row'.length = row.length) ∧ RtRows rows' l
 | [], l, hl, _ => ⟨[], rfl, fun i row row' h => by simp at h, hl, fun i row x h => by simp at h⟩
 | row :: rows, [], hl, _ => by cases hl
 | row :: rows, r :: l, hl, h => by
   obtain ⟨row', h1, h2, h3⟩ := rt_lend (h 0 row r rfl rfl)
   obtain ⟨rows', g1, g2, g3, g4⟩ := rows_lend rows l (by simpa using hl) fun i a b ha hb => h (i + 1) a b (by simpa using ha) (by simpa using hb)
   refine ⟨row' :: rows', by simp [g1], fun i a b ha hb => ?_, by simp [g3], fun i a b ha hb => ?_⟩
   · cases i with
     | zero => simp at ha hb; subst ha hb; exact ⟨h1, h2⟩
     | succ i => exact g2 i a b (by simpa using ha) (by simpa using hb)
   · cases i with
     | zero => simp at ha hb; subst ha hb; exact h3
     | succ i => exact g4 i a b (by simpa using ha) (by simpa using hb)
theorem rtRows_at {s : Store} {d : D} {rows : List (List D)} {l : List Rt} (h : At Tryz.prog s t_Route d rows) (hr : RtRows rows l) : RtsAt Tryz.prog t_Route t_Step t_Need t_int s d l :=
 ⟨rows, h, hr.1, fun i row x h1 h2 => by
   obtain ⟨d1, d2, d3, rfl, a1, a2, a3, _⟩ := hr.2 i row x h1 h2
   exact ⟨d1, d2, d3, rfl, a1 s, a2 s, a3 s⟩⟩
theorem fz_rts {d : D} {l : List Rt} (h : RtsAt Tryz.prog t_Route t_Step t_Need t_int σ d l) : ∃ d', Fz Tryz.prog σ nowS d d' ∧ ∀ s, RtsAt Tryz.prog t_Route t_Step t_Need t_int s d' l := by
 obtain ⟨rows, hA, hl, hr⟩ := h
 obtain ⟨rows', g1, g2, g3⟩ := rows_lend rows l hl hr
 have hsz := hA.size
 have hx := hA.rows
 cases d <;> simp only [Go.Fw.Rows] at hx <;> try exact hx.elim
 · subst hx
   have : rows' = [] := List.length_eq_zero_iff.1 (by rw [g1]; rfl)
   subst this
   exact ⟨.nils, .nils, fun s => rtRows_at .nil g3⟩
 · subst hx
   have : rows' = [] := List.length_eq_zero_iff.1 (by rw [g1]; rfl)
   subst this
   exact ⟨.zsl, .zsl, fun s => rtRows_at ⟨rfl, by simp, fun es rows e => by cases e⟩ g3⟩
 · rename_i es rows0
   obtain ⟨rfl, h3⟩ := hx
   refine ⟨.sl es rows', .sl es _ rows' g1 (fun i a b ha hb => (g2 i a b ha hb).2) (fun i a b j x y ha hb hx hy => ?_), fun s => rtRows_at ⟨⟨rfl, ?_⟩, by rw [g1]; exact hsz, fun es' rows e => ?_⟩ g3⟩
   · exact (g2 i a b ha hb).1.2 j x y hx hy
   · rcases h3 with h3 | h3
     · left; subst h3; exact List.length_eq_zero_iff.1 (by rw [g1]; rfl)
     · exact .inr h3
   · injection e with e1 _; rw [← e1]; exact hA.es es _ rfl
 · obtain ⟨t, rows0, q1, q2, q3, rfl⟩ := hx
   rename_i id i len
   have get : ∀ (j : Nat) a, rows0[i + j]? = some a → j < len → ((rows0.drop i).take len)[j]? = some a := fun j a ha hj => by
     rw [List.getElem?_take_of_lt hj, List.getElem?_drop]; exact ha
   have hlen : rows'.length = len := by rw [g1]; simp; omega
   have lt : ∀ (j : Nat) b, rows'[j]? = some b → j < len := fun j b hb => by rw [← hlen]; exact (List.getElem?_eq_some_iff.1 hb).1
   refine ⟨.sl (Tryz.prog.cellsOf t) rows', .osl id i len t rows0 rows' (fun h => h) q1 q3 hlen (fun j a b ha hb => (g2 j a b (get j a ha (lt j b hb)) hb).2) (fun j a b m x y ha hb hx hy => ?_), fun s => rtRows_at ⟨⟨rfl, .inr q2⟩, by rw [g1]; exact hsz, fun es' rows e => ?_⟩ g3⟩
   · exact (g2 j a b (get j a ha (lt j b hb)) hb).1.2 m x y hx hy
   · injection e with e1 _; rw [← e1]; exact q2
theorem sec_flat (a : Sec) : ∀ x ∈ Sec.enc a, Flat x := fun x hx => by
 simp only [Sec.enc, List.mem_cons, List.not_mem_nil, or_false] at hx; rcases hx with rfl | rfl | rfl <;> exact .int _ _
theorem jt_flat (a : Jt) : ∀ x ∈ Jt.enc a, Flat x := fun x hx => by
 simp only [Jt.enc, List.mem_cons, List.not_mem_nil, or_false] at hx; rcases hx with rfl | rfl | rfl | rfl <;> exact .int _ _
theorem sg_flat (a : Sg) : ∀ x ∈ Sg.enc a, Flat x := fun x hx => by
 simp only [Sg.enc, List.mem_cons, List.not_mem_nil, or_false] at hx; rcases hx with rfl | rfl <;> exact .int _ _
theorem cf_lend {c0 c1 c2 c3 c4 : D} {c : Cf} (h : CfAt σ c0 c1 c2 c3 c4 c) : ∃ e0 e1 e2 e3 e4, FzA Tryz.prog σ nowS (cfA c0 c1 c2 c3 c4 c) (cfA e0 e1 e2 e3 e4 c) ∧ ∀ s, CfAt s e0 e1 e2 e3 e4 c := by
 obtain ⟨e0, a0, b0, _⟩ := fz_list (S := nowS) h.secs (fun _ _ h => h) (map_sf sec_flat _)
 obtain ⟨e1, a1, b1, _⟩ := fz_list (S := nowS) h.jts (fun _ _ h => h) (map_sf jt_flat _)
 obtain ⟨e2, a2, b2, _⟩ := fz_list (S := nowS) h.sigs (fun _ _ h => h) (map_sf sg_flat _)
 obtain ⟨e3, a3, b3, _⟩ := fz_list (S := nowS) h.xs (fun _ _ h => h) (map_sf i_flat _)
 obtain ⟨e4, a4, b4⟩ := fz_rts h.rts
 exact ⟨e0, e1, e2, e3, e4, .cons a0 (.cons a1 (.cons a2 (.cons a3 (.cons a4 (.cons (.int _ _) (.cons (.int _ _) (.cons (.int _ _) (.cons (.int _ _) .nil)))))))), fun s => ⟨b0 s, b1 s, b2 s, b3 s, b4 s⟩⟩
theorem check_live {c0 c1 c2 c3 c4 : D} {c : Cf} (h : CfAt σ c0 c1 c2 c3 c4 c) : Fw.Pure Tryz.prog n_conf_Check [cfA c0 c1 c2 c3 c4 c] σ (.a (iA c.check)) := by
 obtain ⟨e0, e1, e2, e3, e4, hf, he⟩ := cf_lend h
 refine (conf_Check_ok (σ := voidS) he).lend (flat_i _) rfl fun i x y hx hy => ?_
 cases i with
 | zero => simp at hx hy; subst hx hy; exact hf
 | succ i => simp at hx
end Go.Proofs.YtfdffboelecgoaaGreatDoor
end
namespace Go.Fw
section
section
variable {c c' : Cf} (h1 : c'.Secs = c.Secs) (h2 : ∀ s e, nxt c'.Jts s e = nxt c.Jts s e) (h3 : c'.Sigs = c.Sigs)
include h1 h2
theorem flankStep_eq (a : Int) (p : List St) (s : St) (out : List Nd) (e : Int) : flankStep c' a p s out e = flankStep c a p s out e := by
 unfold flankStep; rw [h1, h2]
theorem flankEnds_eq (a : Int) (p : List St) (s : St) : ∀ (n : Nat) (e : Int) (out : List Nd), flankEnds c' a p s n e out = flankEnds c a p s n e out
 | 0, _, _ => rfl
 | n + 1, e, out => by rw [flankEnds, flankEnds, flankStep_eq h1 h2, flankEnds_eq]
theorem flankRun_eq (a : Int) (p : List St) : ∀ (l : List St) (out : List Nd), flankRun c' a p l out = flankRun c a p l out
 | [], _ => rfl
 | s :: r, out => by
   rw [flankRun, flankRun, flankRun_eq a p r, h1]
   cases geti c.Secs s.Sec with
   | none => rfl
   | some x => simp only [flankEnds_eq h1 h2]
theorem flank_eq (a : Int) (p : List St) : c'.flank a p = c.flank a p := flankRun_eq h1 h2 a p p []
include h3
omit h1 h2 in
theorem approach_eq (r : Rt) : c'.approach r = c.approach r := by unfold Cf.approach; rw [h3]
theorem overlap_eq (r : Rt) : c'.overlap r = c.overlap r := by
 unfold Cf.overlap; rw [h3, h1, approach_eq h3]; simp only [h2]
theorem pstep_eq (r : Rt) (ex : Option Sg) (a : Sg) (s : St) (l : Bool) (seen : List Int) : pstep c' r ex a s l seen = pstep c r ex a s l seen := by
 unfold pstep; rw [h2, h1, h3]
theorem prunA_eq (r : Rt) (ex : Option Sg) : ∀ (l : List St) (a : Sg) (seen : List Int), prunA c' r ex l a seen = prunA c r ex l a seen
 | [], a, _ => by unfold prunA; rw [h2]
 | s :: l, a, seen => by rw [prunA, prunA, pstep_eq h1 h2 h3, prunA_eq]
theorem route_eq (r : Rt) : c'.route r = c.route r := by
 unfold Cf.route Cf.path
 rw [h3, flank_eq h1 h2, approach_eq h3, overlap_eq h1 h2 h3]
 simp only [prunA_eq h1 h2 h3]
theorem routes_eq : ∀ l : List Rt, c'.routes l = c.routes l
 | [] => rfl
 | r :: l => by rw [Cf.routes, Cf.routes, route_eq h1 h2 h3, routes_eq l]
end
theorem routes_set {c : Cf} {y : Rt} : ∀ {l : List Rt} {j : Nat}, j < l.length → c.routes l = 0 → c.routes (l.set j y) = c.route y
 | [], j, hj, _ => by simp at hj
 | r :: l, 0, _, h => by
   have hz := routes_zero h
   have hr : c.routes l = 0 := by
     rw [Cf.routes, if_neg (fun hn => hn (hz r (by simp)))] at h; exact h
   rw [List.set_cons_zero, Cf.routes, hr]
   split
   · rfl
   · rename_i hn; exact (Classical.not_not.1 hn).symm
 | r :: l, j + 1, hj, h => by
   have hz := routes_zero h
   have hr : c.routes l = 0 := by
     rw [Cf.routes, if_neg (fun hn => hn (hz r (by simp)))] at h; exact h
   rw [List.set_cons_succ, Cf.routes, if_neg (fun hn => hn (hz r (by simp)))]
   exact routes_set (by simpa using hj) hr
theorem check_set {c : Cf} (h : c.check = 0) {j : Nat} (hj : j < c.Rts.length) (y : Rt) : Cf.check { c with Rts := c.Rts.set j y } = c.route y := by
 obtain ⟨a1, a2, a3, a4, a5, a6⟩ := check_parts h
 have e : Cf.routes { c with Rts := c.Rts.set j y } (c.Rts.set j y) = c.route y := (routes_eq (c := c) (c' := { c with Rts := c.Rts.set j y }) rfl (fun _ _ => rfl) rfl _).trans (routes_set hj a5)
 have a6' : Cf.timing { c with Rts := c.Rts.set j y } = true := a6
 have a2' : Cf.sigsOk { c with Rts := c.Rts.set j y } = true := a2
 have a3' : Cf.xsOk { c with Rts := c.Rts.set j y } = true := a3
 unfold Cf.check
 simp only
 rw [a1, a2', a3', e, a6', List.length_set]
 simp only [Bool.true_eq_false, if_false]
 rw [if_neg (by omega)]
 split
 · rfl
 · rename_i hn; exact (Classical.not_not.1 hn).symm
theorem check_late {c : Cf} (h : c.check = 0) (n : Int) : Cf.check { c with Hold := n } = if Cf.timing { c with Hold := n } = true then 0 else 12 := by
 obtain ⟨a1, a2, a3, a4, a5, a6⟩ := check_parts h
 have e : Cf.routes { c with Hold := n } c.Rts = 0 := (routes_eq (c := c) (c' := { c with Hold := n }) rfl (fun _ _ => rfl) rfl _).trans a5
 have a2' : Cf.sigsOk { c with Hold := n } = true := a2
 have a3' : Cf.xsOk { c with Hold := n } = true := a3
 unfold Cf.check
 simp only
 rw [a1, a2', a3', e]
 simp only [Bool.true_eq_false, if_false]
 rw [if_neg (by omega), if_neg (by simp)]
theorem route_parts {c : Cf} {r : Rt} (h : c.route r = 0) : c.path r = true ∧ r.Flank = c.flank (c.approach r) r.Path ∧ r.Overlap = c.overlap r := by
 unfold Cf.route at h
 split at h
 · cases h
 split at h
 · cases h
 split at h
 · cases h
 rename_i n1 n2 n3
 exact ⟨by simpa using n1, Classical.not_not.1 n2, Classical.not_not.1 n3⟩
theorem route_flank {c : Cf} {r : Rt} (h : c.route r = 0) (n : Nd) : c.route { r with Flank := r.Flank ++ [n] } = 10 := by
 obtain ⟨h1, h2, h3⟩ := route_parts h
 have e1 : c.path { r with Flank := r.Flank ++ [n] } = true := by
   have : ∀ (l : List St) (ex : Option Sg) (a : Sg) (seen : List Int), prunA c { r with Flank := r.Flank ++ [n] } ex l a seen = prunA c r ex l a seen := by
     intro l; induction l with
     | nil => intro ex a seen; rfl
     | cons s l ih => intro ex a seen; rw [prunA, prunA, ih]; rfl
   unfold Cf.path at h1 ⊢
   simp only [this]; exact h1
 have e2 : c.approach { r with Flank := r.Flank ++ [n] } = c.approach r := rfl
 unfold Cf.route
 rw [e1, e2]
 rw [if_neg (by simp), if_pos]
 show r.Flank ++ [n] ≠ c.flank (c.approach r) r.Path
 rw [← h2]
 intro e
 have := congrArg List.length e
 simp at this
theorem path_over {c : Cf} {r : Rt} (ov : List Int) (h1 : c.path r = true) : c.path { r with Overlap := ov } = true := by
 have : ∀ (l : List St) (ex : Option Sg) (a : Sg) (seen : List Int), prunA c { r with Overlap := ov } ex l a seen = prunA c r ex l a seen := by
   intro l; induction l with
   | nil => intro ex a seen; rfl
   | cons s l ih => intro ex a seen; rw [prunA, prunA, ih]; rfl
 unfold Cf.path at h1 ⊢
 simp only [this]; exact h1
theorem route_over {c : Cf} {r : Rt} (h : c.route r = 0) (n : Int) : c.route { r with Overlap := r.Overlap ++ [n] } = 11 := by
 obtain ⟨h1, h2, h3⟩ := route_parts h
 have e1 : c.path { r with Overlap := r.Overlap ++ [n] } = true := path_over _ h1
 have e2 : c.approach { r with Overlap := r.Overlap ++ [n] } = c.approach r := rfl
 have e3 : c.overlap { r with Overlap := r.Overlap ++ [n] } = c.overlap r := rfl
 unfold Cf.route
 rw [e1, e2, e3]
 rw [if_neg (by simp), if_neg (fun hn => hn h2), if_pos]
 show r.Overlap ++ [n] ≠ c.overlap r
 rw [← h3]
 intro e
 have := congrArg List.length e
 simp at this
end
end Go.Fw
section
set_option maxRecDepth 20000
namespace Go.Proofs.YtfdffboelecgoaaGreatDoor
open Go.Fw Go.Proofs Go.RowKit
variable {σ σ0 : Store}
def LawTrue (f : FuncId) (xs : List A) : Prop := DCalls Tryz.prog f xs noS fun r _ => r = .a (.one (.bool true))
theorem place_ok {len : Nat} (h : 1 ≤ len ∧ len ≤ 2 ^ 20) (s : Int) : IntKind.wrap .u64 (len : Int) ≠ 0 ∧ ∃ j : Nat, w64 (Int.tmod (IntKind.wrap .u64 s) (IntKind.wrap .u64 (len : Int))) = j ∧ j < len := by
 have e1 : IntKind.wrap .u64 (len : Int) = len := by rw [IntKind.wrap_u64]; omega
 have e2 : 0 ≤ IntKind.wrap .u64 s := by rw [IntKind.wrap_u64]; omega
 rw [e1]
 refine ⟨by omega, (Int.tmod (IntKind.wrap .u64 s) (len : Int)).toNat, ?_⟩
 rw [Int.tmod_eq_emod_of_nonneg e2]
 have a := Int.emod_nonneg (IntKind.wrap .u64 s) (b := (len : Int)) (by omega)
 have b := Int.emod_lt_of_pos (IntKind.wrap .u64 s) (b := (len : Int)) (by omega)
 rw [w64_id (by omega) (by omega)]
 omega
theorem rts_set {s : Store} {d : D} {rows : List (List D)} {l : List Rt} {j : Nat} {row : List D} {y : Rt} (h : At Tryz.prog s t_Route d (rows.set j row)) (hl : rows.length = l.length) (hr : ∀ (i : Nat) row r, rows[i]? = some row → l[i]? = some r → RtAt Tryz.prog t_Step t_Need t_int s row r)
   (hy : RtAt Tryz.prog t_Step t_Need t_int s row y) : RtsAt Tryz.prog t_Route t_Step t_Need t_int s d (l.set j y) := by
 refine ⟨_, h, by rw [List.length_set, List.length_set]; exact hl, fun i row' r h1 h2 => ?_⟩
 rw [List.getElem?_set] at h1 h2
 by_cases e : j = i
 · rw [if_pos e] at h1 h2
   split at h1
   · rw [if_pos (by omega)] at h2
     injection h1 with h1; injection h2 with h2
     subst h1 h2; exact hy
   · cases h1
 · rw [if_neg e] at h1 h2
   exact hr i row' r h1 h2
end Go.Proofs.YtfdffboelecgoaaGreatDoor
end
section
set_option maxRecDepth 20000
namespace Go.Proofs.YtfdffboelecgoaaGreatDoor
open Go.Fw Go.Proofs Go.RowKit
variable {σ σ0 : Store}
theorem with_ok {s : Store} {id id1 : Nat} {c0 c1 c2 c3 c4 : D} {c : Cf} {rows : List (List D)} {j : Nat} {e x : Int} {d1 d2 d3 : D} {b : Bool} (h1 : s id = .live t_Config [[c0, c1, c2, c3, c4, iD c.Age, iD c.Brake, iD c.Hold, iD c.Budget]]) (h2 : s id1 = .live t_int [[iD j]])
   (hat : ∀ s, At Tryz.prog s t_Route c4 rows) (hj : j < rows.length) (hl : rows.length ≤ 12) (hrl : ∀ row, rows[j]? = some row → row.length = 6) :
   DCalls Tryz.prog n_law06_ConfSpoilt_1 [.agg [iD e, iD x, d1, d2, d3, .bool b], .one (pO id), .one (pO id1)] s fun r s' => ∃ d, r = .a (.agg [c0, c1, c2, c3, d, iD c.Age, iD c.Brake, iD c.Hold, iD c.Budget]) ∧ Own Tryz.prog s s' t_Route d (rows.set j [iD e, iD x, d1, d2, d3, .bool b]) := by
 obtain ⟨row, hrw⟩ := get_of_lt (l := rows) (j := j) hj
 refine W_law06_ConfSpoilt_1 _ _ _ _ _ _ _ _ s _ ⟨_, _, _, rfl, _, box_row h1, _, _, _, _, _, _, _, _, _, rfl, newObj_intro fun i s2 hi _ he hs2 => ?_⟩
 have g1 := (he id (by rw [h1]; intro e; cases e)).trans h1
 refine ⟨_, _, _, rfl, _, box_row g1, _, rfl, (Own.at_new (P := Tryz.prog) (el := t_Route) hi he hs2 (by simp) (n := 0) rfl).append (hat s2) (by simp; omega) (by simp; omega) fun d s3 o3 _ _ => ?_⟩
 rw [List.nil_append] at o3
 have g2 := (o3.ext id1 (by rw [h2]; intro e; cases e)).trans h2
 refine ⟨_, _, _, rfl, _, box_row g2, _, rfl, o3.at_.idxK (j := j) c_Route rfl hj (o3.put hrw rfl (by rw [hrl row hrw]; simp) fun s4 o4 _ => ⟨d, rfl, ?_⟩)⟩
 have : patch row 0 [iD e, iD x, d1, d2, d3, .bool b] = [iD e, iD x, d1, d2, d3, .bool b] := by
   unfold patch
   have := hrl row hrw
   rw [List.take_zero, List.drop_of_length_le (by rw [this]; simp)]; simp
 rw [this] at o4
 exact o4
theorem law06_ConfSpoilt_ok {xs : List A} (h : TyAs Tryz.prog [t_Config, t_int, t_int] xs) : LawTrue n_law06_ConfSpoilt xs := by
 obtain ⟨a0, xs, rfl, h0, hr0⟩ := tys_cons h
 obtain ⟨a1, xs, rfl, h1, hr1⟩ := tys_cons hr0
 obtain ⟨a2, xs, rfl, h2, hr2⟩ := tys_cons hr1
 obtain rfl := tys_nil hr2
 obtain ⟨cs, _, rfl, p0⟩ := tya_agg h0 (by kernel_rfl)
 obtain ⟨c0, c1, c2, c3, c4, c, rfl, hc, hci, hz⟩ := ty_ConfigZ p0
 obtain ⟨i, rfl, _⟩ := tya_int h1 (by kernel_rfl) (by kernel_rfl)
 obtain ⟨k, rfl, _⟩ := tya_int h2 (by kernel_rfl) (by kernel_rfl)
 clear h h0 h1 h2 hr0 hr1 hr2 p0
 refine W_law06_ConfSpoilt _ _ _ _ _ _ _ _ _ i k noS _ (newObj_intro fun id s1 _ _ _ hid => law06_lives_ok.use ⟨true, rfl, bcnot (fun e => by cases e) (fun _ => ?_)⟩)
 intro R hR
 obtain ⟨rows, hat, hlen, hrow⟩ := rts_froz fun s => (hc s).rts
 refine ⟨_, box_row hid, _, _, _, _, _, _, _, _, _, rfl, (conf_Check_ok hc).use ⟨_, rfl, bcn (fun _ => rfl) (fun hok => ⟨_, box_row hid, _, rfl, (hat s1).lenK (bce (fun _ => rfl) (fun hne => hR _ ?_))⟩)⟩⟩
 obtain ⟨b1, b2, b3, b4, b5, b6⟩ := check_parts hok
 obtain ⟨pl, j, hj, hjl⟩ := place_ok (len := rows.length) ⟨by omega, by omega⟩ i
 refine ⟨_, box_row hid, _, rfl, (hat s1).lenK ⟨pl, newObj_intro fun id1 s2 hi1 _ he2 hs2 => ?_⟩⟩
 rw [hj]
 have live : ∀ {s : Store} {i : Nat} {t : TypeId} {r : List (List D)}, s i = .live t r → s i ≠ .free := fun h => by rw [h]; intro e; cases e
 have nid : id ≠ id1 := fun e => live hid (by rw [e]; exact hi1)
 refine pr_store hs2 (by simp) fun s3 hs3 ho3 => ?_
 have g1 : s3 id = .live t_Config [[c0, c1, c2, c3, c4, iD c.Age, iD c.Brake, iD c.Hold, iD c.Budget]] := (ho3 id nid).trans ((he2 id (live hid)).trans hid)
 have g2 : s3 id1 = .live t_int [[iD j]] := by rw [hs3]; rfl
 obtain ⟨row, hrw⟩ := get_of_lt (l := rows) (j := j) hjl
 obtain ⟨x, hx⟩ := get_of_lt (l := c.Rts) (j := j) (by omega)
 obtain ⟨d1, d2, d3, rfl, q1, q2, q3⟩ := hrow j row x hrw hx
 have hmem := List.mem_of_getElem? hx
 have hr0 := routes_zero b5 x hmem
 have hro := check_rt hok hmem
 have hfl := hro.flen
 have hol := hro.olen
 refine ⟨_, box_row g1, _, rfl, _, box_row g2, _, rfl, (hat s3).load hrw c_Route rfl ⟨_, _, d1, d2, d3, _, rfl, _, box_row g1, _, rfl, _, box_row g2, _, rfl, (hat s3).load hrw c_Route rfl ⟨_, _, d1, d2, d3, _, rfl, newObj_intro fun id2 s4 hi2 _ he4 hs4 => ?_⟩⟩⟩
 refine (Own.at_new (P := Tryz.prog) (el := t_Need) hi2 he4 hs4 (by simp) (n := 0) rfl).append (q2 s4) (by simp; omega) (by simp; omega) fun d9 s5 o5 _ _ => ?_
 rw [List.nil_append] at o5
 refine app1 (ns := Nd.enc ⟨k, 1⟩) o5 (by rw [List.length_map]; omega) (by rw [List.length_map]; omega) fun d10 s6 o6 _ _ => newObj_intro fun id4 s7 hi4 _ he7 hs7 => ?_
 refine (Own.at_new (P := Tryz.prog) (σ0 := s6) (el := t_int) hi4 he7 hs7 (by simp) (n := 0) rfl).append (q3 s7) (by simp; omega) (by simp; omega) fun d11 s8 o8 _ _ => ?_
 rw [List.nil_append] at o8
 refine app1 (ns := Go.Fw.encI k) o8 (by rw [List.length_map]; omega) (by rw [List.length_map]; omega) fun d12 s9 o9 _ _ => ?_
 have e39 : Ext s3 s9 := o6.ext.trans o9.ext
 have fl9 : At Tryz.prog s9 t_Need d10 ((x.Flank ++ [(⟨k, 1⟩ : Nd)]).map Nd.enc) := by rw [List.map_append]; exact o6.at_.ext o9.ext
 have ov9 : At Tryz.prog s9 t_int d12 ((x.Overlap ++ [k]).map Go.Fw.encI) := by rw [List.map_append]; exact o9.at_
 have k1 := (e39 id (live g1)).trans g1
 have k2 := (e39 id1 (live g2)).trans g2
 have hrl : ∀ row, rows[j]? = some row → row.length = 6 := fun row hr => by rw [hrw] at hr; injection hr with hr; rw [← hr]; rfl
 have cf : ∀ {s' : Store} {d : D} {y : Rt} {row : List D}, At Tryz.prog s' t_Route d (rows.set j row) → RtAt Tryz.prog t_Step t_Need t_int s' row y → CfAt s' c0 c1 c2 c3 d { c with Rts := c.Rts.set j y } := fun {s' d y row} hA hy => ⟨(hc s').secs, (hc s').jts, (hc s').sigs, (hc s').xs, rts_set hA hlen (fun i row r h1 h2 => by
   obtain ⟨e1, e2, e3, rfl, g1, g2, g3⟩ := hrow i row r h1 h2
   exact ⟨e1, e2, e3, rfl, g1 s', g2 s', g3 s'⟩) hy⟩
 refine ⟨_, box_row k1, _, _, _, _, _, _, _, _, _, rfl, _, box_row k1, _, rfl, _, box_row k1, _, rfl, _, _, _, [], _, rfl, rfl, rfl, (with_ok k1 k2 hat hjl (by omega) hrl).mono ?_⟩
 rintro r s10 ⟨dr, rfl, o10⟩
 have m1 := (o10.ext id (live k1)).trans k1
 have m2 := (o10.ext id1 (live k2)).trans k2
 refine ⟨_, _, _, _, _, _, _, _, _, rfl, (check_live (c := { c with Rts := c.Rts.set j { x with Flank := x.Flank ++ [(⟨k, 1⟩ : Nd)] } }) (cf o10.at_ ⟨d1, d10, d3, rfl, q1 _, fl9.ext o10.ext, q3 _⟩)).use ⟨_, rfl, ?_⟩⟩
 rw [check_set hok (by omega), route_flank hr0]
 refine bce (fun _ => ?_) (fun e => absurd rfl e)
 refine ⟨_, _, _, [], _, rfl, rfl, rfl, (with_ok m1 m2 hat hjl (by omega) hrl).mono ?_⟩
 rintro r s11 ⟨dr2, rfl, o11⟩
 have n1 := (o11.ext id (live m1)).trans m1
 have n2 := (o11.ext id1 (live m2)).trans m2
 refine ⟨_, _, _, _, _, _, _, _, _, rfl, (check_live (c := { c with Rts := c.Rts.set j { x with Overlap := x.Overlap ++ [k] } }) (cf o11.at_ ⟨d1, d2, d12, rfl, q1 _, q2 _, (ov9.ext o10.ext).ext o11.ext⟩)).use ⟨_, rfl, ?_⟩⟩
 rw [check_set hok (by omega), route_over hr0]
 refine bce (fun _ => ?_) (fun e => absurd rfl e)
 have ht := b6
 unfold Cf.timing at ht
 simp only [Bool.and_eq_true, decide_eq_true_eq] at ht
 have ew : w64 (c.Age + c.Brake) = c.Age + c.Brake := w64_id (by omega) (by omega)
 rw [ew]
 refine (conf_Check_ok (c := { c with Hold := c.Age + c.Brake }) fun s => ⟨(hc s).secs, (hc s).jts, (hc s).sigs, (hc s).xs, (hc s).rts⟩).use ⟨_, rfl, ?_⟩
 have hlate : Cf.timing { c with Hold := c.Age + c.Brake } = false := by
   unfold Cf.timing
   simp only
   rw [show decide (c.Age + c.Brake + 1 ≤ c.Age + c.Brake ∧ c.Age + c.Brake ≤ 40) = false from decide_eq_false (by omega), Bool.and_false, Bool.false_and]
 rw [check_late hok, hlate, if_neg (by simp)]
 refine bce (fun _ => ?_) (fun e => absurd rfl e)
 refine ⟨_, box_row n1, _, rfl, _, box_row n2, _, rfl, (hat s11).load hrw c_Route rfl ⟨_, _, d1, d2, d3, _, rfl, _, _, _, [], _, rfl, rfl, rfl, (with_ok n1 n2 hat hjl (by omega) hrl).mono ?_⟩⟩
 rintro r s12 ⟨dr3, rfl, o12⟩
 refine ⟨_, _, _, _, _, _, _, _, _, rfl, (check_live (c := { c with Rts := c.Rts.set j x }) (cf o12.at_ ⟨d1, d2, d3, rfl, q1 _, q2 _, q3 _⟩)).use ⟨_, rfl, ?_⟩⟩
 rw [check_set hok (by omega), hr0]; rfl
end Go.Proofs.YtfdffboelecgoaaGreatDoor
end
