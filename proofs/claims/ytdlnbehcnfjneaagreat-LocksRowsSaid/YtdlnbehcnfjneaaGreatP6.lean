/-
  Proofs that the statement of this claim leans on: part 6.
-/
import Derived.Test.YtdlnbehcnfjneaaGreatP5
section
set_option linter.unusedVariables false
set_option linter.unusedSimpArgs false
namespace Go.Proofs.YtdlnbehcnfjneaaGreat
open Go.Fw Go.Proofs Go.RowKit
variable {σ σ0 : Store}
section
variable {c0 c1 c2 c3 c4 : D} {c : Cf} (hc : ∀ s, CfAt s c0 c1 c2 c3 c4 c)
/-- A function that does something to a desk. -/
def Does (σ0 : Store) (c0 c1 c2 c3 c4 : D) (c : Cf) (k : Co) (f : FuncId) (bs : List A) (E : Int) (Y : Co) (s : Store) : Prop :=
  ∀ id d0 d1 d2 d3 d4 d5 s1, Ext s s1 → CoIn σ0 s1 id t_locks_desk (cfC c0 c1 c2 c3 c4 c) [] d0 d1 d2 d3 d4 d5 k →
    DCalls Tryz.prog f ([] ++ [.one (.el (.osl id 0 1) 0 0)] ++ bs) s1 fun r s' => r = .a (iA E) ∧ Ext σ0 s' ∧ (E = 0 → CoIn σ0 s' id t_locks_desk (cfC c0 c1 c2 c3 c4 c) [] d0 d1 d2 d3 d4 d5 Y)
include hc
theorem locks_change_ok {k0 k1 k2 k3 k4 k5 : D} {k Y : Co} {E : Int} {f : FuncId} {b : List (Bool × List D)} {bs : List A} (h : CoAt σ k0 k1 k2 k3 k4 k5 k) (hf : CoFit k0 k1 k2 k3 k4 k5 k) (now : Int) (hb : capAs b = some bs)
    (hd : k.fits c = true → tm 0 now = true → Does σ c0 c1 c2 c3 c4 c k f bs E Y σ) :
    DCalls Tryz.prog n_locks_change [cfA c0 c1 c2 c3 c4 c, coA k0 k1 k2 k3 k4 k5 k.Dirty, iA now, .one (.fn f [] b)] σ (CoPost σ (k.done (k.gate c now E) Y)) := by
  refine W_locks_change _ _ _ _ _ _ _ _ _ k0 k1 k2 k3 k4 k5 k.Dirty now _ σ _ ((locks_open_ok hc h hf).mono ?_)
  rintro r s1 ⟨id, d0, d1, d2, d3, d4, d5, rfl, hI⟩
  refine ⟨_, _, rfl, ?_⟩
  intro R hR
  have bad : ∀ (e : Int) s, Ext σ s → e ≠ 0 → k.gate c now E = e → R e s := fun e s he hne hg => by
    refine hR e s ?_
    rw [show (e != 0) = true by simpa using hne]
    refine (locks_open_ok hc (h.ext' he) hf).mono ?_
    rintro r s2 ⟨id, d0, d1, d2, d3, d4, d5, rfl, hI2⟩
    refine ⟨_, _, rfl, trivial, _, _, _, rfl, _, box_row hI2.row, d0, d1, d2, d3, d4, d5, k.Dirty, rfl, ?_⟩
    rw [Co.done, hg, if_neg hne]
    exact ⟨d0, d1, d2, d3, d4, d5, rfl, hI2.co.from he⟩
  refine bcnot (fun e1 => ⟨rfl, bad 21 s1 hI.ext (by decide) (by rw [Co.gate, if_pos e1])⟩) (fun e1 => ?_)
  have hg1 : k.gate c now E = if tm 0 now = false then 32 else E := by rw [Co.gate, if_neg (by rw [e1]; decide)]
  refine newObj_intro fun id2 s2 hid2 _ he2 hs2 => ?_
  have hat : At Tryz.prog s2 t_int (.osl id2 0 1) ([now].map Go.Fw.encI) := At.fresh hs2 (by simp) rfl
  refine (locks_times_ok 0 (by omega) hat).use ⟨_, rfl, ?_⟩
  have ht : ([now].all fun n => decide (0 ≤ n ∧ n ≤ 4294967295 + 0)) = tm 0 now := by simp [tm]
  rw [ht]
  refine bcnot (fun e2 => ⟨rfl, bad 32 s2 (hI.ext.trans he2) (by decide) (by rw [hg1, if_pos e2])⟩) (fun e2 => ?_)
  rw [if_neg (by rw [e2]; decide)] at hg1
  have hI2 : CoIn σ s2 id t_locks_desk (cfC c0 c1 c2 c3 c4 c) [] d0 d1 d2 d3 d4 d5 k :=
    ⟨hI.new, (he2 id (by rw [hI.row]; intro e; cases e)).trans hI.row, ⟨hI.co.own.ext' he2, hI.co.routes.ext' he2, hI.co.points.ext' he2, hI.co.xs.ext' he2, hI.co.lines.ext' he2, hI.co.resets.ext' he2, hI.co.apart⟩, hI.ids⟩
  refine ⟨f, [], b, [], bs, rfl, rfl, hb, (hd e1 e2 id d0 d1 d2 d3 d4 d5 s2 (hI.ext.trans he2) hI2).mono ?_⟩
  rintro r s3 ⟨rfl, he3, hy⟩
  refine ⟨E, rfl, rfl, ?_⟩
  by_cases hE : E = 0
  · subst hE
    have hI3 := hy rfl
    refine hR 0 s3 ?_
    refine ⟨trivial, _, _, _, rfl, _, box_row hI3.row, d0, d1, d2, d3, d4, d5, Y.Dirty, rfl, ?_⟩
    rw [Co.done, hg1, if_pos rfl]
    exact ⟨d0, d1, d2, d3, d4, d5, rfl, hI3.co⟩
  · exact bad E s3 he3 hE hg1
omit hc
variable {id : Nat} {t : TypeId} {d0 d1 d2 d3 d4 d5 : D} {k : Co}
theorem desk_state_ok (hI : CoIn σ0 σ id t (cfC c0 c1 c2 c3 c4 c) [] d0 d1 d2 d3 d4 d5 k) (r : Int) :
    Pure Tryz.prog n_locks_desk_state [.one (.el (.osl id 0 1) 0 0), iA r] σ (match geti k.Routes r with | none => .tup [.one .nilp, iA 20] | some _ => .tup [.one (.el d1 r.toNat 0), iA 0]) := by
  have hs := hI.at.routes.size
  rw [List.length_map] at hs
  refine W_locks_desk_state _ r σ _ ⟨trivial, _, _, _, rfl, _, box_row hI.row, d1, rfl, hI.at.routes.lenK ((locks_between_ok _ _ _).use ⟨_, rfl, ?_⟩)⟩
  rw [List.length_map, w64_id (by omega) (by omega)]
  refine bcnot (fun e => ?_) (fun e => ?_)
  · have e := of_decide_eq_false e
    have : geti k.Routes r = none := by
      by_cases h0 : r < 0
      · exact geti_neg h0
      · exact geti_ge (by omega)
    rw [this]; exact ⟨rfl, rfl⟩
  · have e := of_decide_eq_true e
    obtain ⟨x, hx⟩ := geti_ex (l := k.Routes) (i := r) (by omega) (by omega)
    rw [hx]
    refine ⟨trivial, _, _, _, rfl, _, box_row hI.row, d1, rfl, hI.at.routes.idxK c_RouteState (Int.toNat_of_nonneg e.1).symm (by rw [List.length_map]; omega) ⟨rfl, rfl⟩⟩
include hc
theorem desk_inherits_ok (hI : CoIn σ0 σ id t (cfC c0 c1 c2 c3 c4 c) [] d0 d1 d2 d3 d4 d5 k) {r s o : Int} (ho : geti k.Own s = some o) (hlo : -2 ≤ o ∧ o ≤ c.Rts.length) (hr : 0 ≤ r ∧ r < c.Rts.length) :
    Pure Tryz.prog n_locks_desk_inherits [.one (.el (.osl id 0 1) 0 0), iA r, iA s] σ (.a (bA (k.inh c r s))) := by
  obtain ⟨g1, g2, g3⟩ := geti_some ho
  have w : w64 (o - 1) = o - 1 := w64_id (by omega) (by have := (rts_len (hc σ)); obtain ⟨rows, ha, hl⟩ := this; have := ha.size; omega)
  have hi : k.inh c r s = (decide (0 ≤ o - 1 ∧ o - 1 ≠ r) && (decide ((c.rt (o - 1)).Exit = (c.rt r).Entry) && inL (c.rt (o - 1)).Overlap s)) := by
    unfold Co.inh; rw [ho]; rfl
  have no : ¬ (0 ≤ o - 1 ∧ o - 1 ≠ r) → k.inh c r s = false := fun e => by rw [hi, decide_eq_false e]; rfl
  refine W_locks_desk_inherits _ r s σ _ ⟨trivial, _, _, _, rfl, _, box_row hI.row, d0, rfl, hI.at.own.load (map_get g3) c_int (Int.toNat_of_nonneg g1).symm ⟨o, rfl, ?_⟩⟩
  rw [w]
  refine bcd (fun e => by rw [no (by omega)]; exact ⟨rfl, rfl⟩) (fun e1 => bce (fun e => by rw [no (by omega)]; exact ⟨rfl, rfl⟩) (fun e2 => ?_))
  obtain ⟨q, hq⟩ := geti_ex (l := c.Rts) (i := o - 1) e1 (by omega)
  obtain ⟨x, hx⟩ := geti_ex (l := c.Rts) (i := r) (by omega) (by omega)
  obtain ⟨rows, q1, q2, q3, hat, hlen, hrow, f1, f2, f3⟩ := rt_frz hc (geti_some hq).2.2
  obtain ⟨rows', x1, x2, x3, hat', hlen', hrow', _, _, _⟩ := rt_frz hc (geti_some hx).2.2
  rw [hi, decide_eq_true (by omega), rt_some hq, rt_some hx, Bool.true_and]
  refine ⟨trivial, _, _, _, rfl, _, box_row hI.row, c4, rfl, (hat σ).load hrow c_Route (by omega) ⟨_, _, _, _, _, _, rfl, trivial, _, _, _, rfl, _, box_row hI.row, c4, rfl, (hat' σ).load hrow' c_Route (by omega) ⟨x.Entry, rfl, bce (fun e => ?_) (fun e => ?_)⟩⟩⟩
  · exact (Contains_int_ok s (f3 σ)).use ⟨_, rfl, by rw [decide_eq_true e]; exact ⟨rfl, rfl⟩⟩
  · rw [decide_eq_false e]; exact ⟨rfl, rfl⟩
theorem desk_may_ok' (hI : CoIn σ0 σ id t (cfC c0 c1 c2 c3 c4 c) [] d0 d1 d2 d3 d4 d5 k) {r : Int} {ds : D} {l : List Int} (hl : At Tryz.prog σ t_int ds (l.map Go.Fw.encI)) (hr : 0 ≤ r ∧ r < c.Rts.length)
    (hin : ∀ s ∈ l, ∃ o, geti k.Own s = some o) (hlo : ∀ o ∈ k.Own, -2 ≤ o ∧ o ≤ c.Rts.length) :
    Pure Tryz.prog n_locks_desk_may [.one (.el (.osl id 0 1) 0 0), iA r, .one ds] σ (.a (iA (k.may c r l))) := by
  have hs := hI.at.routes.size
  rw [List.length_map] at hs
  have hls := hl.size
  rw [List.length_map] at hls
  refine W_locks_desk_may _ r _ σ _ ⟨trivial, _, _, _, rfl, _, box_row hI.row, d1, rfl, hI.at.routes.lenK ⟨fun n s => s = σ ∧ Rng k.Routes (fun q => apprS c l q n.toNat = apprS c l k.Routes 0) n, fun n _ => k.Routes.length - n.toNat, ⟨rfl, .start rfl⟩, ?_⟩⟩
  rintro n s ⟨rfl, hq⟩
  rw [List.length_map]
  refine bcd (fun hlt => ?_) (fun hge => ?_)
  · obtain ⟨j, x, rfl, hx, hj, hF, nx⟩ := hq.step rfl (by omega) hlt
    rw [apprS, Int.toNat_natCast] at hF
    have next : (decide (x.State ≠ 0) && inL l (c.Approach j)) = false → (s = s ∧ Rng k.Routes (fun q => apprS c l q (w64 ((j : Int) + 1)).toNat = apprS c l k.Routes 0) (w64 ((j : Int) + 1))) ∧ k.Routes.length - (w64 ((j : Int) + 1)).toNat < k.Routes.length - (j : Int).toNat := fun e => by
      rw [e, Bool.false_or] at hF
      exact andl rfl (nx _ (by rw [w64_succ (by omega), Int.toNat_natCast]; exact hF))
    refine hI.at.routes.load (map_get hx) c_RouteState rfl ⟨x.State, x.Since, x.Next, x.Mark, rfl, bcn (fun e => ?_) (fun e => next (by rw [decide_eq_false (by simpa using e)]; rfl))⟩
    refine ⟨trivial, _, _, _, rfl, _, box_row hI.row, c0, c1, c2, c3, c4, _, _, _, _, rfl, (conf_Approach_ok (hc s) j).use ⟨_, rfl, (Contains_int_ok _ hl).use ⟨_, rfl, bc (fun e2 => ?_) (fun e2 => next (by rw [e2, Bool.and_false]))⟩⟩⟩
    have : apprS c l k.Routes 0 = true := by rw [← hF, e2, decide_eq_true e]; rfl
    rw [Co.may, if_pos this]; exact ⟨rfl, rfl⟩
  · have hF := hq.done rfl hge
    have hap : apprS c l k.Routes 0 = false := by rw [← hF]; rfl
    have hm : k.may c r l = if k.blocked c r l = true then 22 else 0 := by rw [Co.may, if_neg (by rw [hap]; decide)]
    rw [hm]
    refine hl.lenK ⟨fun n s' => s' = s ∧ Rng l (fun q => k.blocked c r q = k.blocked c r l) n, fun n _ => l.length - n.toNat, ⟨rfl, .start rfl⟩, ?_⟩
    rintro n s' ⟨rfl, hq⟩
    rw [List.length_map]
    refine bcd (fun hlt => ?_) (fun hge => ?_)
    · obtain ⟨j, v, rfl, hv, hj, hF, nx⟩ := hq.step rfl (by omega) hlt
      obtain ⟨o, ho⟩ := hin v (List.mem_of_getElem? hv)
      obtain ⟨g1, g2, g3⟩ := geti_some ho
      have hF : ((decide ((geti k.Own v).getD 0 ≠ 0) && !k.inh c r v) || k.blocked c r (l.drop (j + 1))) = k.blocked c r l := hF
      rw [ho, Option.getD_some] at hF
      refine hl.load (map_get hv) c_int rfl ⟨v, rfl, trivial, _, _, _, rfl, _, box_row hI.row, d0, rfl, hI.at.own.load (map_get g3) c_int (Int.toNat_of_nonneg g1).symm ⟨o, rfl, bcn (fun e => ?_) (fun e => ?_)⟩⟩
      · refine (desk_inherits_ok hc hI ho (hlo o (geti_mem ho)) hr).use ⟨_, rfl, bcnot (fun e2 => ?_) (fun e2 => ?_)⟩
        · rw [e2, decide_eq_true e] at hF
          rw [if_pos (by rw [← hF]; rfl)]; exact ⟨rfl, rfl⟩
        · rw [e2, Bool.not_true, Bool.and_false, Bool.false_or] at hF
          exact andl rfl (nx _ hF)
      · rw [decide_eq_false (by simpa using e), Bool.false_and, Bool.false_or] at hF
        exact andl rfl (nx _ hF)
    · have hF := hq.done rfl hge
      rw [if_neg (by rw [← hF]; show ¬ (false = true); decide)]; exact ⟨rfl, rfl⟩
end
end Go.Proofs.YtdlnbehcnfjneaaGreat
end
section
set_option linter.unusedVariables false
set_option linter.unusedSimpArgs false
namespace Go.Proofs.YtdlnbehcnfjneaaGreat
open Go.Fw Go.Proofs Go.RowKit
variable {σ σ0 : Store}
def cmdPre (xs : List A) (s : Store) : Prop := ∃ (m : Mv) (now cmd : Int), xs = [.agg m.enc, iA now, iA cmd]
def cmdPost (xs : List A) (s : Store) (r : RV) (s' : Store) : Prop := ∃ (m : Mv) (now cmd : Int), xs = [.agg m.enc, iA now, iA cmd] ∧ r = .a (.agg (cmdM m now cmd).enc) ∧ s' = s
theorem mover_Command_ok (m : Mv) (now cmd : Int) : Pure Tryz.prog n_mover_Command [.agg m.enc, iA now, iA cmd] σ (.a (.agg (cmdM m now cmd).enc)) :=
  W_mover_Command m.Cmd m.Other now cmd σ _ (bcn (fun e => ⟨by rw [cmdM, if_pos e]; rfl, rfl⟩) (fun e => ⟨by rw [cmdM, if_neg (by simpa using e)]; rfl, rfl⟩))
theorem cmd_spec : SpecOk Tryz.prog n_mover_Command cmdPre cmdPost := by
  refine ⟨?_, ?_, ?_, ?_, ?_⟩
  · rintro xs s ⟨m, now, cmd, rfl⟩
    exact (mover_Command_ok m now cmd).use ⟨m, now, cmd, rfl, rfl, rfl⟩
  · rintro xs s ⟨m, now, cmd, rfl⟩ hf
    exact ⟨_, s, ⟨m, now, cmd, rfl, rfl, rfl⟩, hf⟩
  · rintro xs s r s' ⟨m, now, cmd, rfl, rfl, rfl⟩ hf
    exact hf
  · rintro xs s id so hid hso ⟨m, now, cmd, rfl⟩
    refine ⟨⟨m, now, cmd, rfl⟩, ?_⟩
    rintro r s' ⟨m, now, cmd, e, rfl, rfl⟩
    exact ⟨s, ⟨m, now, cmd, e, rfl, rfl⟩, hid, rfl⟩
  · rintro xs s r s' _ ⟨m, now, cmd, rfl, rfl, rfl⟩ i _
    rfl
theorem cmd_post {m : Mv} {now cmd : Int} {s s' : Store} {r : RV} (h : cmdPost [.agg m.enc, iA now, iA cmd] s r s') : r = .a (.agg (cmdM m now cmd).enc) ∧ s' = s := by
  obtain ⟨m', now', cmd', e, h1, h2⟩ := h
  injection e with e1 e2
  injection e2 with e2 e3
  injection e3 with e3 _
  injection e1 with e1
  injection e2 with e2
  injection e3 with e3
  injection e2 with _ e2
  injection e3 with _ e3
  subst e2 e3
  have : m = m' := by
    cases m; cases m'
    simp [Mv.enc, iD] at e1
    simp [e1]
  subst this
  exact ⟨h1, h2⟩
section
variable {c0 c1 c2 c3 c4 : D} {c : Cf} (hc : ∀ s, CfAt s c0 c1 c2 c3 c4 c) {id : Nat} {t : TypeId} {d0 d1 d2 d3 d4 d5 : D} {k : Co}
include hc
theorem desk_line_ok' (hI : CoIn σ0 σ id t (cfC c0 c1 c2 c3 c4 c) [] d0 d1 d2 d3 d4 d5 k) (hok : c.check = 0) (hl4 : k.Lines.length = 4) {r : Int} {x : Rt} (hx : geti c.Rts r = some x) :
    Pure Tryz.prog n_locks_desk_line [.one (.el (.osl id 0 1) 0 0), iA r] σ (.a (.one (if lineF c x.Path > 0 then .el d4 (lineF c x.Path).toNat 0 else .nilp))) := by
  have hr := check_rt hok (geti_mem hx)
  obtain ⟨rows, q1, q2, q3, hat, hlen, hrow, f1, f2, f3⟩ := rt_frz hc (geti_some hx).2.2
  have hg := geti_some hx
  have w1 := hr.len
  refine W_locks_desk_line _ r σ _ ⟨trivial, _, _, _, rfl, _, box_row hI.row, c4, rfl, (hat σ).load hrow c_Route (by omega) ⟨q1, rfl, (f1 σ).lenK ⟨fun n s => s = σ ∧ Rng x.Path (fun q => lineF c q = lineF c x.Path) n, fun n _ => x.Path.length - n.toNat, ⟨rfl, .start rfl⟩, ?_⟩⟩⟩
  rintro n s ⟨rfl, hq⟩
  rw [List.length_map]
  refine bcd (fun hlt => ?_) (fun hge => ?_)
  · obtain ⟨j, y, rfl, hy, hj, hF, nx⟩ := hq.step rfl (by omega) hlt
    obtain ⟨z, hz, _⟩ := (hr.step y (List.mem_of_getElem? hy)).1.sec
    have hgz := geti_some hz
    rw [lineF, hz, Option.getD_some] at hF
    refine (f1 s).load (map_get hy) c_Step rfl ⟨y.Sec, y.In, y.Out, rfl, trivial, _, _, _, rfl, _, box_row hI.row, c0, rfl, (hc s).secs.load (map_get hgz.2.2) c_Section (Int.toNat_of_nonneg hgz.1).symm ⟨z.Line, rfl, bcd (fun e => ?_) (fun e => ?_)⟩⟩
    · rw [if_pos e] at hF
      rw [← hF, if_pos e]
      have hz3 := topo_line (check_parts hok).1 hgz.2.2
      exact ⟨trivial, _, _, _, rfl, _, box_row hI.row, d4, rfl, hI.at.lines.idxK c_LineState (Int.toNat_of_nonneg (by omega)).symm (by rw [List.length_map]; omega) ⟨rfl, rfl⟩⟩
    · rw [if_neg e] at hF
      exact andl rfl (nx _ hF)
  · have hF := hq.done rfl hge
    rw [← hF]; exact ⟨rfl, rfl⟩
theorem desk_request_ok (hI : CoIn σ0 σ id t (cfC c0 c1 c2 c3 c4 c) [] d0 d1 d2 d3 d4 d5 k) (hz : RtsNz c4) (hfit : k.fits c = true) (now r : Int) :
    DCalls Tryz.prog n_locks_desk_request [.one (.el (.osl id 0 1) 0 0), iA now, iA r] σ fun q s' => q = .a (iA (k.reqE c r)) ∧ Ext σ0 s' ∧ (k.reqE c r = 0 → CoIn σ0 s' id t (cfC c0 c1 c2 c3 c4 c) [] d0 d1 d2 d3 d4 d5 (k.lockC c now r)) := by
  have hfi := fits_iff.1 hfit
  have hok := hfi.chk
  have err : ∀ e : Int, k.reqE c r = e → e ≠ 0 → (RV.a (iA e) = RV.a (iA (k.reqE c r)) ∧ Ext σ0 σ ∧ (k.reqE c r = 0 → CoIn σ0 σ id t (cfC c0 c1 c2 c3 c4 c) [] d0 d1 d2 d3 d4 d5 (k.lockC c now r))) := fun e h1 h2 =>
    ⟨by rw [h1], hI.ext, fun h3 => absurd (h1.symm.trans h3) h2⟩
  refine W_locks_desk_request _ now r σ _ ((desk_state_ok hI r).use ?_)
  cases hgr : geti k.Routes r with
  | none => exact ⟨_, _, rfl, err 20 (by rw [Co.reqE, hgr]) (by decide)⟩
  | some x =>
    have hgx := geti_some hgr
    have hsz := hI.at.routes.size
    rw [List.length_map] at hsz
    have hxl := (List.getElem?_eq_some_iff.1 hgx.2.2).1
    have hE : k.reqE c r = if x.State ≠ 0 then 28 else if k.may c r (c.lockL r) ≠ 0 then k.may c r (c.lockL r) else if lineF c (c.rt r).Path > 0 ∧ ((geti k.Lines (lineF c (c.rt r).Path)).getD zLs).Ask ≥ 4294967295 then 5 else 0 := by
      rw [Co.reqE, hgr]
    obtain ⟨y, hy, hym⟩ := rt_of hfi hgr
    have hrok := check_rt hok hym
    have hyl := (List.getElem?_eq_some_iff.1 (geti_some hy).2.2).1
    have hcl : c.Rts.length = k.Routes.length := hfi.lRts.symm
    have hll : c.lockL r = Cf.lockR y := by unfold Cf.lockL; rw [hy]
    have hsec : ∀ s ∈ c.lockL r, ∃ z, geti c.Secs s = some z := fun s hs => lockR_sec hrok (by rw [← hll]; exact hs)
    refine ⟨_, _, rfl, ?_⟩
    show bcase ((0 : Int) != 0) _ _
    rw [show ((0 : Int) != 0) = false from by decide]
    refine ⟨trivial, _, _, _, rfl, _, hI.at.routes.row (map_get hgx.2.2), x.State, rfl, bcn (fun e => err 28 (by rw [hE, if_pos e]) (by decide)) (fun e1 => ?_)⟩
    rw [if_neg (by simpa using e1)] at hE
    refine ⟨trivial, _, _, _, rfl, _, box_row hI.row, c0, c1, c2, c3, c4, _, _, _, _, rfl, (conf_Locks_ok hc hok hz r).mono ?_⟩
    rintro q s ⟨rfl, d7, rfl, h7⟩
    have hin : ∀ v ∈ c.lockL r, ∃ o, geti k.Own v = some o := fun v hv => by
      obtain ⟨z, hz⟩ := hsec v hv
      have hg := geti_some hz
      have := (List.getElem?_eq_some_iff.1 hg.2.2).1
      exact geti_ex (by omega) (by have := hfi.lOwn; omega)
    refine ⟨d7, rfl, (desk_may_ok' hc hI (h7 s) (by omega) hin hfi.own).use ⟨_, rfl, bcn (fun e => err _ (by rw [hE, if_pos e]) e) (fun e2 => ?_)⟩⟩
    rw [if_neg (by simpa using e2), rt_some hy] at hE
    intro R hR
    have body : (lineF c y.Path > 0 → ((geti k.Lines (lineF c y.Path)).getD zLs).Ask < 4294967295) → ∀ s3, CoIn σ0 s3 id t (cfC c0 c1 c2 c3 c4 c) [] d0 d1 d2 d3 d4 d5 { k with Lines := askC (lineF c y.Path) k.Lines } → R s3 := by
      intro hask s3 hI3
      have hE0 : k.reqE c r = 0 := by rw [hE, if_neg (by intro h; have := hask h.1; omega)]
      refine hR s3 ?_
      have hz7 := (h7 s3).size
      rw [List.length_map] at hz7
      refine (h7 s3).lenK ⟨fun n s => ∃ j : Nat, n = j ∧ j ≤ (c.lockL r).length ∧ CoIn σ0 s id t (cfC c0 c1 c2 c3 c4 c) [] d0 d1 d2 d3 d4 d5 { k with Lines := askC (lineF c y.Path) k.Lines, Own := ((c.lockL r).take j).foldl (fun w s => w.set s.toNat (r + 1)) k.Own },
        fun n _ => (c.lockL r).length - n.toNat, ⟨0, rfl, by omega, by simpa using hI3⟩, ?_⟩
      rintro n s4 ⟨j, rfl, hj, hI4⟩
      rw [List.length_map]
      refine bcd (fun hlt => ?_) (fun hge => ?_)
      · obtain ⟨v, hv⟩ := get_of_lt (l := c.lockL r) (j := j) (by omega)
        obtain ⟨o, ho⟩ := hin v (List.mem_of_getElem? hv)
        have hgo := geti_some ho
        have hvl := (List.getElem?_eq_some_iff.1 hgo.2.2).1
        have hlo := ownC_len (r + 1) ((c.lockL r).take j) k.Own
        obtain ⟨o', ho'⟩ := get_of_lt (l := ((c.lockL r).take j).foldl (fun w s => w.set s.toNat (r + 1)) k.Own) (j := v.toNat) (by omega)
        refine (h7 s4).load (map_get hv) c_int rfl ⟨v, rfl, trivial, _, _, _, rfl, _, box_row hI4.row, d0, rfl, hI4.at.own.idxK c_int (Int.toNat_of_nonneg hgo.1).symm (by simp only [List.length_map]; omega) ?_⟩
        rw [w64_id (n := r + 1) (by omega) (by omega)]
        refine hI4.putO (k := { k with Lines := askC (lineF c y.Path) k.Lines, Own := ((c.lockL r).take j).foldl (fun w s => w.set s.toNat (r + 1)) k.Own }) (y := r + 1) ho' rfl (by simp) rfl fun s5 hI5 _ => ?_
        rw [w64_succ (by omega)]
        refine ⟨⟨j + 1, rfl, by omega, ?_⟩, dec_lt (by omega)⟩
        rw [List.take_add_one, hv, List.foldl_append]
        exact hI5
      have e : j = (c.lockL r).length := by omega
      rw [e, List.take_length] at hI4
      have hxr := hgx.2.2
      refine ⟨trivial, _, _, _, rfl, hI4.putR (k := { k with Lines := askC (lineF c y.Path) k.Lines, Own := (c.lockL r).foldl (fun w s => w.set s.toNat (r + 1)) k.Own }) (y := ⟨1, 0, 0, 0⟩) hxr rfl (by simp) rfl fun s5 hI5 _ => ?_⟩
      have hyn : (c.rt r).Path.length ≤ 2 ^ 20 := by rw [rt_some hy]; have := hrok.len; omega
      have hyf : (c.rt r).Flank.length ≤ 2 ^ 20 := by rw [rt_some hy]; have := hrok.flen; omega
      refine ⟨trivial, _, _, _, rfl, _, box_row hI5.row, c0, c1, c2, c3, c4, _, _, _, _, rfl, (mover_Needs_ok hc r hyn hyf).mono ?_⟩
      rintro q s6 ⟨rfl, d13, rfl, h13⟩
      have hnl : (c.Needs r).length ≤ 41 := by
        rw [Cf.Needs, rt_some hy]
        have := needs_len c y
        have := hrok.len; have := hrok.flen; omega
      refine ⟨d13, rfl, (h13 s6).lenK ⟨fun n s => ∃ j : Nat, n = j ∧ j ≤ (c.Needs r).length ∧ CoIn σ0 s id t (cfC c0 c1 c2 c3 c4 c) [] d0 d1 d2 d3 d4 d5 { k with Lines := askC (lineF c y.Path) k.Lines, Own := (c.lockL r).foldl (fun w s => w.set s.toNat (r + 1)) k.Own, Routes := k.Routes.set r.toNat ⟨1, 0, 0, 0⟩, Points := ptsC now ((c.Needs r).take j) k.Points },
        fun n _ => (c.Needs r).length - n.toNat, ⟨0, rfl, by omega, hI5⟩, ?_⟩⟩
      rintro n s7 ⟨j, rfl, hj, hI7⟩
      rw [List.length_map]
      refine bcd (fun hlt => ?_) (fun hge => ?_)
      · obtain ⟨nd, hnd⟩ := get_of_lt (l := c.Needs r) (j := j) (by omega)
        have hnm := List.mem_of_getElem? hnd
        obtain ⟨⟨z, hz⟩, _⟩ := needs_sec hrok (by rw [Cf.Needs, rt_some hy] at hnm; exact hnm)
        have hgz := geti_some hz
        have hzl := (List.getElem?_eq_some_iff.1 hgz.2.2).1
        have hpl := ptsC_len now ((c.Needs r).take j) k.Points
        have hpl2 := hfi.lPts
        obtain ⟨m, hm⟩ := get_of_lt (l := ptsC now ((c.Needs r).take j) k.Points) (j := nd.Sec.toNat) (by omega)
        have hgm : geti (ptsC now ((c.Needs r).take j) k.Points) nd.Sec = some m := by unfold geti; rw [if_neg (by omega), hm]
        refine (h13 s7).load (map_get hnd) c_Need rfl ⟨nd.Sec, nd.Pos, rfl, cmdPre, cmdPost, cmd_spec, trivial, _, _, _, rfl, _, box_row hI7.row, d2, rfl, trivial, _, _, _, rfl, _, box_row hI7.row, d2, rfl,
          hI7.at.points.load (map_get hm) c_Mover (Int.toNat_of_nonneg hgz.1).symm ⟨m.Cmd, m.Other, rfl, ⟨m, now, nd.Pos, rfl⟩, ?_⟩⟩
        intro q s8 hq
        obtain ⟨rfl, rfl⟩ := cmd_post (m := m) hq
        refine ⟨_, _, rfl, hI7.at.points.idxK c_Mover (Int.toNat_of_nonneg hgz.1).symm (by simp only [List.length_map]; omega) ?_⟩
        refine hI7.putP (k := { k with Lines := askC (lineF c y.Path) k.Lines, Own := (c.lockL r).foldl (fun w s => w.set s.toNat (r + 1)) k.Own, Routes := k.Routes.set r.toNat ⟨1, 0, 0, 0⟩, Points := ptsC now ((c.Needs r).take j) k.Points }) (y := cmdM m now nd.Pos) hm rfl (by simp) rfl fun s9 hI9 _ => ?_
        rw [w64_succ (by omega)]
        refine ⟨⟨j + 1, rfl, by omega, ?_⟩, dec_lt (by omega)⟩
        have e : ptsC now ((c.Needs r).take (j + 1)) k.Points = (ptsC now ((c.Needs r).take j) k.Points).set nd.Sec.toNat (cmdM m now nd.Pos) := by
          rw [List.take_add_one, hnd, ptsC, List.foldl_append]
          show (ptsC now ((c.Needs r).take j) k.Points).set nd.Sec.toNat (cmdM ((geti (ptsC now ((c.Needs r).take j) k.Points) nd.Sec).getD ⟨0, 0⟩) now nd.Pos) = _
          rw [hgm]; rfl
        rw [e]; exact hI9
      have e : j = (c.Needs r).length := by omega
      rw [e, List.take_length] at hI7
      have hxs := (check_xs hok).2.2
      refine ⟨trivial, _, _, _, rfl, _, box_row hI7.row, c0, c1, c2, c3, c4, _, _, _, _, rfl, (mover_Crossings_ok hc r (by omega)).mono ?_⟩
      rintro q s8 ⟨rfl, d19, rfl, h19⟩
      have hcl2 : (c.Cross r).length ≤ c.Xs.length := crossL_len _ _ _
      refine ⟨d19, rfl, (h19 s8).lenK ⟨fun n s => ∃ j : Nat, n = j ∧ j ≤ (c.Cross r).length ∧ CoIn σ0 s id t (cfC c0 c1 c2 c3 c4 c) [] d0 d1 d2 d3 d4 d5 { k with Lines := askC (lineF c y.Path) k.Lines, Own := (c.lockL r).foldl (fun w s => w.set s.toNat (r + 1)) k.Own, Routes := k.Routes.set r.toNat ⟨1, 0, 0, 0⟩, Points := ptsC now (c.Needs r) k.Points, Xs := xsC now ((c.Cross r).take j) k.Xs },
        fun n _ => (c.Cross r).length - n.toNat, ⟨0, rfl, by omega, hI7⟩, ?_⟩⟩
      rintro n s9 ⟨j, rfl, hj, hI9⟩
      rw [List.length_map]
      refine bcd (fun hlt => ?_) (fun hge => ?_)
      · obtain ⟨v, hv⟩ := get_of_lt (l := c.Cross r) (j := j) (by omega)
        obtain ⟨i, xx, e3, hxx, _⟩ := crossL_mem _ _ _ _ (List.mem_of_getElem? hv)
        rw [Nat.zero_add] at e3
        subst e3
        have hil := (List.getElem?_eq_some_iff.1 hxx).1
        have hpl := xsC_len now ((c.Cross r).take j) k.Xs
        have hpl2 := hfi.lXs
        obtain ⟨m, hm⟩ := get_of_lt (l := xsC now ((c.Cross r).take j) k.Xs) (j := i) (by omega)
        have hgm : geti (xsC now ((c.Cross r).take j) k.Xs) (i : Int) = some m := by rw [geti_nat, hm]
        refine (h19 s9).load (map_get hv) c_int rfl ⟨(i : Int), rfl, cmdPre, cmdPost, cmd_spec, trivial, _, _, _, rfl, _, box_row hI9.row, d3, rfl, trivial, _, _, _, rfl, _, box_row hI9.row, d3, rfl,
          hI9.at.xs.load (map_get hm) c_Mover rfl ⟨m.Cmd, m.Other, rfl, ⟨m, now, 1, rfl⟩, ?_⟩⟩
        intro q s10 hq
        obtain ⟨rfl, rfl⟩ := cmd_post (m := m) hq
        refine ⟨_, _, rfl, hI9.at.xs.idxK c_Mover rfl (by simp only [List.length_map]; omega) ?_⟩
        refine hI9.putX (k := { k with Lines := askC (lineF c y.Path) k.Lines, Own := (c.lockL r).foldl (fun w s => w.set s.toNat (r + 1)) k.Own, Routes := k.Routes.set r.toNat ⟨1, 0, 0, 0⟩, Points := ptsC now (c.Needs r) k.Points, Xs := xsC now ((c.Cross r).take j) k.Xs }) (y := cmdM m now 1) hm (by rw [Int.toNat_natCast]) (by simp) rfl fun s11 hI11 _ => ?_
        rw [w64_succ (by omega)]
        refine ⟨⟨j + 1, rfl, by omega, ?_⟩, dec_lt (by omega)⟩
        have e : xsC now ((c.Cross r).take (j + 1)) k.Xs = (xsC now ((c.Cross r).take j) k.Xs).set i (cmdM m now 1) := by
          rw [List.take_add_one, hv, xsC, List.foldl_append]
          show (xsC now ((c.Cross r).take j) k.Xs).set ((i : Int)).toNat (cmdM ((geti (xsC now ((c.Cross r).take j) k.Xs) (i : Int)).getD ⟨0, 0⟩) now 1) = _
          rw [hgm]; rfl
        rw [e]; exact hI11
      have e : j = (c.Cross r).length := by omega
      rw [e, List.take_length] at hI9
      refine ⟨trivial, _, _, _, rfl, hI9.dirty (b := true) rfl fun s10 hI10 _ => ⟨by rw [hE0], hI10.ext, fun _ => ?_⟩⟩
      have : k.lockC c now r = { k with Lines := askC (lineF c y.Path) k.Lines, Own := (c.lockL r).foldl (fun w s => w.set s.toNat (r + 1)) k.Own, Routes := k.Routes.set r.toNat ⟨1, 0, 0, 0⟩, Points := ptsC now (c.Needs r) k.Points, Xs := xsC now (c.Cross r) k.Xs, Dirty := true } := by
        rw [Co.lockC, rt_some hy]
      rw [this]; exact hI10
    refine (desk_line_ok' hc hI hok hfi.lLn hy).use ⟨_, rfl, ?_⟩
    by_cases hl : lineF c y.Path > 0
    · rw [if_pos hl]
      have hl3 := (line_ok hok y.Path).2
      obtain ⟨u, hu⟩ := get_of_lt (l := k.Lines) (j := (lineF c y.Path).toNat) (by have := hfi.lLn; omega)
      have hgu : geti k.Lines (lineF c y.Path) = some u := by unfold geti; rw [if_neg (by omega), hu]
      refine ⟨false, rfl, ?_⟩
      show bcase (false != true) _ _
      rw [show (false != true) = true from by decide]
      refine ⟨trivial, _, _, _, rfl, _, hI.at.lines.row (map_get hu), u.Ask, rfl, bcd (fun e => err 5 (by rw [hE, if_pos ⟨hl, by rw [hgu]; exact e⟩]) (by decide)) (fun e3 => ?_)⟩
      refine ⟨trivial, _, _, _, rfl, _, hI.at.lines.row (map_get hu), u.Ask, rfl, trivial, _, _, _, rfl, ?_⟩
      have hua := (hfi.lns u (List.mem_of_getElem? hu))
      simp only [Ls.fits, tm, Bool.and_eq_true, decide_eq_true_eq] at hua
      rw [w64_id (n := u.Ask + 1) (by omega) (by omega)]
      refine hI.putL (y := { u with Ask := u.Ask + 1 }) hu rfl (by simp) rfl fun s4 hI4 _ => body (fun _ => by rw [hgu]; show u.Ask < 4294967295; omega) s4 ?_
      have : askC (lineF c y.Path) k.Lines = k.Lines.set (lineF c y.Path).toNat { u with Ask := u.Ask + 1 } := by rw [askC, if_pos hl, hgu]; rfl
      rw [this]; exact hI4
    · rw [if_neg hl]
      refine ⟨true, rfl, ?_⟩
      show bcase (true != true) _ _
      rw [show (true != true) = false from by decide]
      refine body (fun h => absurd h hl) s ?_
      have : askC (lineF c y.Path) k.Lines = k.Lines := by rw [askC, if_neg hl]
      rw [this]; exact hI
end
end Go.Proofs.YtdlnbehcnfjneaaGreat
end
section
set_option linter.unusedVariables false
set_option linter.unusedSimpArgs false
namespace Go.Proofs.YtdlnbehcnfjneaaGreat
open Go.Fw Go.Proofs Go.RowKit
variable {σ σ0 : Store}
theorem live_ext {s s' : Store} {id : Nat} {t : TypeId} {rows : List (List D)} (h : s id = .live t rows) (he : Ext s s') : s' id = .live t rows := (he id (by rw [h]; intro e; cases e)).trans h
theorem CoPost.from {σ1 s : Store} {p : Co × Int} {r : RV} (he : Ext σ σ1) (h : CoPost σ1 p r s) : CoPost σ p r s := by
  obtain ⟨d0, d1, d2, d3, d4, d5, e, ho⟩ := h
  exact ⟨d0, d1, d2, d3, d4, d5, e, ho.from he⟩
theorem CoPost.pass {s : Store} {p : Co × Int} {r : RV} {Q : RV → Store → Prop} (h : CoPost σ p r s) (hq : Q r s) :
    ∃ d d1 d2 d3 d4 d5 : D, ∃ b : Bool, ∃ n1 : Int, r = .tup [.agg [d, d1, d2, d3, d4, d5, .bool b], .one (.int .i64 n1)] ∧ Q (.tup [.agg [d, d1, d2, d3, d4, d5, .bool b], .one (.int .i64 n1)]) s := by
  obtain ⟨d0, d1, d2, d3, d4, d5, e, ho⟩ := h
  refine ⟨d0, d1, d2, d3, d4, d5, p.1.Dirty, p.2, e, ?_⟩
  rw [← e]; exact hq
section
variable {c0 c1 c2 c3 c4 k0 k1 k2 k3 k4 k5 : D} {c : Cf} (hc : ∀ s, CfAt s c0 c1 c2 c3 c4 c) {k : Co} (h : CoAt σ k0 k1 k2 k3 k4 k5 k) (hf : CoFit k0 k1 k2 k3 k4 k5 k)
include hc h hf
theorem locks_Request_ok (hz : RtsNz c4) (now r : Int) : DCalls Tryz.prog n_locks_Request [cfA c0 c1 c2 c3 c4 c, coA k0 k1 k2 k3 k4 k5 k.Dirty, iA now, iA r] σ (CoPost σ (k.requestC c now r)) := by
  refine W_locks_Request _ _ _ _ _ _ _ _ _ k0 k1 k2 k3 k4 k5 k.Dirty now r σ _ (newObj_intro fun id s1 hid _ e1 q1 => newObj_intro fun id1 s2 hid1 _ e2 q2 => ?_)
  have q12 := live_ext q1 e2
  refine ⟨_, box_row q12, now, rfl, (locks_change_ok hc (h.ext' (e1.trans e2)) hf now (bs := [.one (.el (.osl id 0 1) 0 0), .one (.el (.osl id1 0 1) 0 0)]) (E := k.reqE c r) (Y := k.lockC c now r) rfl ?_).mono fun q s3 hp => hp.pass (hp.from (e1.trans e2))⟩
  intro hfit ht id' d0 d1 d2 d3 d4 d5 s3 he hI
  refine W_locks_Request_1 _ _ _ s3 _ ⟨_, _, _, rfl, _, box_row (live_ext q12 he), now, rfl, _, _, _, rfl, _, box_row (live_ext q2 he), r, rfl, (desk_request_ok hc hI hz hfit now r).mono ?_⟩
  rintro q s4 ⟨rfl, w1, w2⟩
  exact ⟨_, rfl, rfl, w1, w2⟩
theorem locks_lead_ok (r to now : Int) {fr : List Int} {fd : D} (hfr : At Tryz.prog σ t_int fd (fr.map Go.Fw.encI)) :
    DCalls Tryz.prog n_locks_lead [cfA c0 c1 c2 c3 c4 c, coA k0 k1 k2 k3 k4 k5 k.Dirty, iA r, iA to, iA now, .one fd] σ (CoPost σ (k.leadC c r to now fr)) := by
  refine W_locks_lead _ _ _ _ _ _ _ _ _ k0 k1 k2 k3 k4 k5 k.Dirty r to now fd σ _ (newObj_intro fun i1 s1 _ _ e1 q1 => newObj_intro fun i2 s2 _ _ e2 q2 => newObj_intro fun i3 s3 _ _ e3 q3 => newObj_intro fun i4 s4 _ _ e4 q4 => ?_)
  have g3 := live_ext q3 e4
  have g2 := live_ext (live_ext q2 e3) e4
  have g1 := live_ext (live_ext (live_ext q1 e2) e3) e4
  have eA : Ext σ s4 := ((e1.trans e2).trans e3).trans e4
  refine ⟨_, box_row g3, now, rfl, (locks_change_ok hc (h.ext' eA) hf now (bs := [.one (.el (.osl i1 0 1) 0 0), .one (.el (.osl i4 0 1) 0 0), .one (.el (.osl i2 0 1) 0 0), .one (.el (.osl i3 0 1) 0 0)]) (E := k.leadE r fr) (Y := k.leadY r to now) rfl ?_).mono fun q s5 hp => hp.pass (hp.from eA)⟩
  intro hfit ht id d0 d1 d2 d3 d4 d5 s he hI
  refine W_locks_lead_1 _ _ _ _ _ s _ ⟨_, _, _, rfl, _, box_row (live_ext g1 he), r, rfl, (desk_state_ok hI r).use ?_⟩
  have err : ∀ e : Int, k.leadE r fr = e → e ≠ 0 → (RV.a (iA e) = RV.a (iA (k.leadE r fr)) ∧ Ext s4 s ∧ (k.leadE r fr = 0 → CoIn s4 s id t_locks_desk (cfC c0 c1 c2 c3 c4 c) [] d0 d1 d2 d3 d4 d5 (k.leadY r to now))) := fun e h1 h2 =>
    ⟨by rw [h1], hI.ext, fun h3 => absurd (h1.symm.trans h3) h2⟩
  cases hgr : geti k.Routes r with
  | none => exact ⟨_, _, rfl, err 20 (by rw [Co.leadE, hgr]) (by decide)⟩
  | some x =>
    have hgx := geti_some hgr
    have hE : k.leadE r fr = if inL fr x.State = false then 28 else 0 := by rw [Co.leadE, hgr]
    have hxl := (List.getElem?_eq_some_iff.1 hgx.2.2).1
    refine ⟨_, _, rfl, ?_⟩
    show bcase ((0 : Int) != 0) _ _
    rw [show ((0 : Int) != 0) = false from by decide]
    refine ⟨_, _, _, rfl, _, box_row (live_ext q4 he), fd, rfl, trivial, _, _, _, rfl, _, hI.at.routes.row (map_get hgx.2.2), x.State, rfl, (Contains_int_ok x.State (hfr.ext (eA.trans he))).use ⟨_, rfl, bcnot (fun e => err 28 (by rw [hE, if_pos e]) (by decide)) (fun e1 => ?_)⟩⟩
    rw [if_neg (by rw [e1]; decide)] at hE
    refine ⟨_, _, _, rfl, _, box_row (live_ext g2 he), to, rfl, trivial, _, _, _, rfl, ?_⟩
    have ow : ∀ {s' : Store}, CoIn s4 s id t_locks_desk (cfC c0 c1 c2 c3 c4 c) [] d0 d1 d2 d3 d4 d5 k → (∀ i, idOf d1 ≠ some i → s' i = s i) → ∀ {j : Nat} {tt : TypeId} {rows : List (List D)}, s4 j = .live tt rows → s' j = .live tt rows := by
      intro s' _ hs j tt rows hj
      have hne : idOf d1 ≠ some j := by
        intro e
        have := own_id hI.co.routes e
        rw [hj] at this; cases this
      rw [hs j hne]; exact live_ext hj he
    refine hI.putR (y := { x with State := to }) hgx.2.2 rfl (by simp) rfl fun s5 hI5 f5 => ?_
    refine ⟨_, _, _, rfl, _, box_row (ow hI f5 g2), to, rfl, bce (fun e2 => ?_) (fun e2 => ?_)⟩
    · refine ⟨_, _, _, rfl, _, box_row (ow hI f5 g3), now, rfl, trivial, _, _, _, rfl, ?_⟩
      refine hI5.putR (x := { x with State := to }) (y := { x with State := to, Since := now }) (by show (k.Routes.set r.toNat _)[r.toNat]? = _; rw [List.getElem?_set, if_pos rfl, if_pos hxl]) rfl (by simp) rfl fun s6 hI6 f6 => ?_
      refine ⟨trivial, _, _, _, rfl, hI6.putR (x := { x with State := to, Since := now }) (y := { x with State := to, Since := now, Mark := 0 }) (by show ((k.Routes.set r.toNat _).set r.toNat _)[r.toNat]? = _; rw [List.getElem?_set, if_pos rfl, if_pos (by simpa using hxl)]) rfl (by simp) rfl fun s7 hI7 f7 => ?_⟩
      refine ⟨trivial, _, _, _, rfl, hI7.dirty (b := true) rfl fun s8 hI8 _ => ⟨by rw [hE], hI8.ext, fun _ => ?_⟩⟩
      have : k.leadY r to now = { k with Routes := ((k.Routes.set r.toNat { x with State := to }).set r.toNat { x with State := to, Since := now }).set r.toNat { x with State := to, Since := now, Mark := 0 }, Dirty := true } := by
        rw [List.set_set, List.set_set, Co.leadY, if_pos e2, hgr]; rfl
      rw [this]; exact hI8
    · refine ⟨by rw [hE], hI5.ext, fun _ => ?_⟩
      have : k.leadY r to now = { k with Routes := k.Routes.set r.toNat { x with State := to } } := by rw [Co.leadY, if_neg e2, hgr]; rfl
      rw [this]; exact hI5
theorem locks_Reset_ok (now s : Int) : DCalls Tryz.prog n_locks_Reset [cfA c0 c1 c2 c3 c4 c, coA k0 k1 k2 k3 k4 k5 k.Dirty, iA now, iA s] σ (CoPost σ (k.resetC c now s)) := by
  refine W_locks_Reset _ _ _ _ _ _ _ _ _ k0 k1 k2 k3 k4 k5 k.Dirty now s σ _ (newObj_intro fun i1 s1 _ _ e1 q1 => newObj_intro fun i2 s2 _ _ e2 q2 => ?_)
  have g1 := live_ext q1 e2
  have eA : Ext σ s2 := e1.trans e2
  refine ⟨_, box_row g1, now, rfl, (locks_change_ok hc (h.ext' eA) hf now (bs := [.one (.el (.osl i2 0 1) 0 0), .one (.el (.osl i1 0 1) 0 0)]) (E := k.resetE s) (Y := { k with Resets := k.Resets.set s.toNat (now + 1) }) rfl ?_).mono fun q s5 hp => hp.pass (hp.from eA)⟩
  intro hfit ht id d0 d1 d2 d3 d4 d5 s3 he hI
  have hfi := fits_iff.1 hfit
  have hsz := hI.at.own.size
  rw [List.length_map] at hsz
  have err : ∀ e : Int, k.resetE s = e → e ≠ 0 → (RV.a (iA e) = RV.a (iA (k.resetE s)) ∧ Ext s2 s3 ∧ (k.resetE s = 0 → CoIn s2 s3 id t_locks_desk (cfC c0 c1 c2 c3 c4 c) [] d0 d1 d2 d3 d4 d5 { k with Resets := k.Resets.set s.toNat (now + 1) })) := fun e h1 h2 =>
    ⟨by rw [h1], hI.ext, fun h3 => absurd (h1.symm.trans h3) h2⟩
  refine W_locks_Reset_1 _ _ _ s3 _ ⟨_, _, _, rfl, _, box_row (live_ext q2 he), s, rfl, trivial, _, _, _, rfl, _, box_row hI.row, d0, rfl, hI.at.own.lenK ((locks_between_ok _ _ _).use ⟨_, rfl, ?_⟩)⟩
  rw [List.length_map, w64_id (by omega) (by omega)]
  refine bcnot (fun e => err 20 ?_ (by decide)) (fun e => ?_)
  · have e := of_decide_eq_false e
    have : geti k.Own s = none := by
      by_cases h0 : s < 0
      · exact geti_neg h0
      · exact geti_ge (by omega)
    rw [Co.resetE, this]
  · have e := of_decide_eq_true e
    obtain ⟨o, ho⟩ := geti_ex (l := k.Own) (i := s) (by omega) (by omega)
    have hE : k.resetE s = if o ≠ -1 then 28 else 0 := by rw [Co.resetE, ho]
    obtain ⟨z, hz⟩ := get_of_lt (l := k.Resets) (j := s.toNat) (by have := hfi.lOwn; have := hfi.lRes; omega)
    refine ⟨trivial, _, _, _, rfl, _, box_row hI.row, d0, rfl, _, _, _, rfl, _, box_row (live_ext q2 he), s, rfl, hI.at.own.load (map_get (geti_some ho).2.2) c_int (Int.toNat_of_nonneg e.1).symm ⟨o, rfl, bcn (fun e2 => err 28 (by rw [hE, if_pos e2]) (by decide)) (fun e2 => ?_)⟩⟩
    rw [if_neg (by simpa using e2)] at hE
    simp only [tm, decide_eq_true_eq] at ht
    refine ⟨trivial, _, _, _, rfl, _, box_row hI.row, d5, rfl, _, _, _, rfl, _, box_row (live_ext q2 he), s, rfl, _, _, _, rfl, _, box_row (live_ext g1 he), now, rfl, hI.at.resets.idxK c_int (Int.toNat_of_nonneg e.1).symm (by rw [List.length_map]; exact (List.getElem?_eq_some_iff.1 hz).1) ?_⟩
    rw [w64_id (n := now + 1) (by omega) (by omega)]
    exact hI.putZ (y := now + 1) hz rfl (by simp) rfl fun s4 hI4 _ => ⟨by rw [hE], hI4.ext, fun _ => hI4⟩
theorem locks_Throw_ok (now s pos : Int) : DCalls Tryz.prog n_locks_Throw [cfA c0 c1 c2 c3 c4 c, coA k0 k1 k2 k3 k4 k5 k.Dirty, iA now, iA s, iA pos] σ (CoPost σ (k.throwC c now s pos)) := by
  refine W_locks_Throw _ _ _ _ _ _ _ _ _ k0 k1 k2 k3 k4 k5 k.Dirty now s pos σ _ (newObj_intro fun i1 s1 _ _ e1 q1 => newObj_intro fun i2 s2 _ _ e2 q2 => newObj_intro fun i3 s2' _ _ e3 q3 => ?_)
  have g2 := live_ext q2 e3
  have g1 := live_ext (live_ext q1 e2) e3
  have eA : Ext σ s2' := (e1.trans e2).trans e3
  refine ⟨_, box_row g1, now, rfl, (locks_change_ok hc (h.ext' eA) hf now (bs := [.one (.el (.osl i2 0 1) 0 0), .one (.el (.osl i3 0 1) 0 0), .one (.el (.osl i1 0 1) 0 0)]) (E := k.throwE c s pos) (Y := { k with Points := k.Points.set s.toNat (cmdM ((geti k.Points s).getD ⟨0, 0⟩) now pos) }) rfl ?_).mono fun q s5 hp => hp.pass (hp.from eA)⟩
  intro hfit ht id d0 d1 d2 d3 d4 d5 s3 he hI
  have hfi := fits_iff.1 hfit
  have hsz := hI.at.own.size
  rw [List.length_map] at hsz
  have err : ∀ e : Int, k.throwE c s pos = e → e ≠ 0 → (RV.a (iA e) = RV.a (iA (k.throwE c s pos)) ∧ Ext s2' s3 ∧ (k.throwE c s pos = 0 → CoIn s2' s3 id t_locks_desk (cfC c0 c1 c2 c3 c4 c) [] d0 d1 d2 d3 d4 d5 { k with Points := k.Points.set s.toNat (cmdM ((geti k.Points s).getD ⟨0, 0⟩) now pos) })) := fun e h1 h2 =>
    ⟨by rw [h1], hI.ext, fun h3 => absurd (h1.symm.trans h3) h2⟩
  refine W_locks_Throw_1 _ _ _ _ s3 _ ?_
  intro R hR
  have p1 := box_row (live_ext g2 he)
  have p2 := box_row (live_ext q3 he)
  have p3 := box_row (live_ext g1 he)
  have body : (0 ≤ s ∧ s < k.Own.length) → k.throwE c s pos = 0 → R s3 := fun hs hE => by
    refine hR s3 ?_
    obtain ⟨m, hm⟩ := get_of_lt (l := k.Points) (j := s.toNat) (by have := hfi.lOwn; have := hfi.lPts; omega)
    have hgm : geti k.Points s = some m := by unfold geti; rw [if_neg (by omega), hm]
    have hml := (List.getElem?_eq_some_iff.1 hm).1
    refine ⟨cmdPre, cmdPost, cmd_spec, trivial, _, _, _, rfl, _, box_row hI.row, d2, rfl, _, _, _, rfl, _, p1, s, rfl, trivial, _, _, _, rfl, _, box_row hI.row, d2, rfl, _, _, _, rfl, _, p1, s, rfl,
      hI.at.points.load (map_get hm) c_Mover (Int.toNat_of_nonneg hs.1).symm ⟨m.Cmd, m.Other, rfl, _, _, _, rfl, _, p3, now, rfl, _, _, _, rfl, _, p2, pos, rfl, ⟨m, now, pos, rfl⟩, ?_⟩⟩
    intro q s8 hq
    obtain ⟨rfl, rfl⟩ := cmd_post (m := m) hq
    refine ⟨_, _, rfl, hI.at.points.idxK c_Mover (Int.toNat_of_nonneg hs.1).symm (by rw [List.length_map]; exact hml) ?_⟩
    refine hI.putP (y := cmdM m now pos) hm rfl (by simp) rfl fun s9 hI9 _ => ⟨by rw [hE], hI9.ext, fun _ => ?_⟩
    rw [hgm]; exact hI9
  refine ⟨_, _, _, rfl, _, p1, s, rfl, trivial, _, _, _, rfl, _, box_row hI.row, d0, rfl, hI.at.own.lenK ((locks_between_ok _ _ _).use ⟨_, rfl, ?_⟩)⟩
  rw [List.length_map, w64_id (by omega) (by omega)]
  refine bcnot (fun e => err 20 ?_ (by decide)) (fun e => ?_)
  · have e := of_decide_eq_false e
    have : geti k.Own s = none := by
      by_cases h0 : s < 0
      · exact geti_neg h0
      · exact geti_ge (by omega)
    rw [Co.throwE, this]
  · have e := of_decide_eq_true e
    obtain ⟨o, ho⟩ := geti_ex (l := k.Own) (i := s) (by omega) (by omega)
    obtain ⟨z, hz⟩ := geti_ex (l := c.Secs) (i := s) (by omega) (by have := hfi.lOwn; omega)
    have hE : k.throwE c s pos = if z.Kind ≠ 1 then 20 else if pos ≠ 1 ∧ pos ≠ 2 then 32 else if o ≠ 0 then 22 else 0 := by rw [Co.throwE, ho, kindI_some hz]
    refine ⟨trivial, _, _, _, rfl, _, box_row hI.row, c0, rfl, _, _, _, rfl, _, p1, s, rfl, (hc s3).secs.load (map_get (geti_some hz).2.2) c_Section (Int.toNat_of_nonneg e.1).symm ⟨z.Kind, rfl, bcn (fun e2 => err 20 (by rw [hE, if_pos e2]) (by decide)) (fun e2 => ?_)⟩⟩
    rw [if_neg (by simpa using e2)] at hE
    have own : ∀ {X : Prop}, (pos = 1 ∨ pos = 2) → (o ≠ 0 → k.throwE c s pos = 22) ∧ (o = 0 → k.throwE c s pos = 0) := fun hp => by
      rw [if_neg (by omega)] at hE
      exact ⟨fun h => by rw [hE, if_pos h], fun h => by rw [hE, if_neg (by simpa using h)]⟩
    refine ⟨_, _, _, rfl, _, p2, pos, rfl, bcn (fun e3 => ⟨_, _, _, rfl, _, p2, pos, rfl, bcn (fun e4 => err 32 (by rw [hE, if_pos ⟨e3, e4⟩]) (by decide)) (fun e4 => ?_)⟩) (fun e3 => ?_)⟩
    · refine ⟨trivial, _, _, _, rfl, _, box_row hI.row, d0, rfl, _, _, _, rfl, _, p1, s, rfl, hI.at.own.load (map_get (geti_some ho).2.2) c_int (Int.toNat_of_nonneg e.1).symm ⟨o, rfl, bcn (fun e5 => err 22 ((own (X := True) (.inr e4)).1 e5) (by decide)) (fun e5 => body (by omega) ((own (X := True) (.inr e4)).2 e5))⟩⟩
    · refine ⟨trivial, _, _, _, rfl, _, box_row hI.row, d0, rfl, _, _, _, rfl, _, p1, s, rfl, hI.at.own.load (map_get (geti_some ho).2.2) c_int (Int.toNat_of_nonneg e.1).symm ⟨o, rfl, bcn (fun e5 => err 22 ((own (X := True) (.inl e3)).1 e5) (by decide)) (fun e5 => body (by omega) ((own (X := True) (.inl e3)).2 e5))⟩⟩
theorem locks_Cancel_ok (now r : Int) : DCalls Tryz.prog n_locks_Cancel [cfA c0 c1 c2 c3 c4 c, coA k0 k1 k2 k3 k4 k5 k.Dirty, iA now, iA r] σ (CoPost σ (k.cancelC c now r)) :=
  W_locks_Cancel _ _ _ _ _ _ _ _ _ k0 k1 k2 k3 k4 k5 k.Dirty now r σ _ (newObj_intro fun i1 s1 _ _ e1 q1 =>
    (locks_lead_ok hc (h.ext' e1) hf r 4 now (fr := [1, 2, 3]) (At.fresh q1 (by simp) rfl)).mono fun q s5 hp => hp.pass (hp.from e1))
theorem locks_Release_ok (now r : Int) : DCalls Tryz.prog n_locks_Release [cfA c0 c1 c2 c3 c4 c, coA k0 k1 k2 k3 k4 k5 k.Dirty, iA now, iA r] σ (CoPost σ (k.releaseC c now r)) :=
  W_locks_Release _ _ _ _ _ _ _ _ _ k0 k1 k2 k3 k4 k5 k.Dirty now r σ _ (newObj_intro fun i1 s1 _ _ e1 q1 =>
    (locks_lead_ok hc (h.ext' e1) hf r 4 now (fr := [5]) (At.fresh q1 (by simp) rfl)).mono fun q s5 hp => hp.pass (hp.from e1))
theorem locks_Restore_ok (r : Int) : DCalls Tryz.prog n_locks_Restore [cfA c0 c1 c2 c3 c4 c, coA k0 k1 k2 k3 k4 k5 k.Dirty, iA r] σ (CoPost σ (k.restoreC c r)) :=
  W_locks_Restore _ _ _ _ _ _ _ _ _ k0 k1 k2 k3 k4 k5 k.Dirty r σ _ (newObj_intro fun i1 s1 _ _ e1 q1 =>
    (locks_lead_ok hc (h.ext' e1) hf r 1 0 (fr := [3]) (At.fresh q1 (by simp) rfl)).mono fun q s5 hp => hp.pass (hp.from e1))
end
end Go.Proofs.YtdlnbehcnfjneaaGreat
end
section
set_option linter.unusedVariables false
set_option linter.unusedSimpArgs false
namespace Go.Proofs.YtdlnbehcnfjneaaGreat
open Go.Fw Go.Proofs Go.RowKit
variable {σ : Store}
/-- A state is handed back whose lists lie nowhere in the store. -/
def CoZ (σ : Store) (k : Co) (r : RV) (s : Store) : Prop := s = σ ∧ ∃ d0 d1 d2 d3 d4 d5, r = .a (coA d0 d1 d2 d3 d4 d5 k.Dirty) ∧ CoFz d0 d1 d2 d3 d4 d5 k
theorem CoFz.fit {d0 d1 d2 d3 d4 d5 : D} {k : Co} (h : CoFz d0 d1 d2 d3 d4 d5 k) (hs : k.Own.length ≤ 2 ^ 20 ∧ k.Routes.length ≤ 2 ^ 20 ∧ k.Points.length ≤ 2 ^ 20 ∧ k.Xs.length ≤ 2 ^ 20 ∧ k.Lines.length ≤ 2 ^ 20 ∧ k.Resets.length ≤ 2 ^ 20) : CoFit d0 d1 d2 d3 d4 d5 k :=
  ⟨h.n0, h.n1, h.n2, h.n3, h.n4, h.n5, by omega, by omega, by omega, by omega, by omega, by omega⟩
end Go.Proofs.YtdlnbehcnfjneaaGreat
end
section
set_option linter.unusedVariables false
set_option linter.unusedSimpArgs false
namespace Go.Proofs.YtdlnbehcnfjneaaGreat
open Go.Fw Go.Proofs Go.RowKit
variable {σ : Store}
def LawTrue (f : FuncId) (xs : List A) : Prop := DCalls Tryz.prog f xs noS fun r _ => r = .a (.one (.bool true))
end Go.Proofs.YtdlnbehcnfjneaaGreat
end
section
set_option linter.unusedVariables false
set_option linter.unusedSimpArgs false
namespace Go.Proofs.YtdlnbehcnfjneaaGreat
open Go.Fw Go.Proofs Go.RowKit
variable {σ : Store}
/-- A state of the end: who owns the line's section, the line. -/
def endK (o : Int) (x : Ls) (b : Bool) : Co := ⟨[o, 0], [⟨0, 0, 0, 0⟩], [⟨0, 0⟩, ⟨0, 0⟩], [], [zLs, x, zLs, zLs], [0, 0], b⟩
/-- The end's line, a cycle later. -/
def endStep (occ stamp now : Int) (o : Int) (x : Ls) (b : Bool) : Co :=
  let m := decide (x.PAsk > (if x.PDone > x.Grant then x.PDone else x.Grant)) && decide (x.Ask = x.Done)
  let k' : Co := if o = -2 then
      if x.PDone < x.Grant then endK o { x with Since := 0 } b
      else if x.Since = 0 then endK o { x with Since := w64 (now + 1) } b
      else if occ = 0 ∧ x.Since ≤ stamp then endK 0 { x with Since := 0 } true
      else endK o x b
    else if o = 0 ∧ m = true then endK (-2) { x with Grant := x.PAsk, Since := 0 } true
    else endK o x b
  if b = true then k' else { k' with Lines := k'.Lines.set 1 { (k'.Lines[1]?).getD zLs with Told := x.Grant } }
end Go.Proofs.YtdlnbehcnfjneaaGreat
end
section
set_option linter.unusedVariables false
set_option linter.unusedSimpArgs false
namespace Go.Proofs.YtdlnbehcnfjneaaGreat
open Go.Fw Go.Proofs Go.RowKit
variable {σ : Store}
/-- What a call hands back: a state of its own, or one that lies nowhere. -/
def CoPostK (σ : Store) (p : Co × Int) (r : RV) (s : Store) : Prop := CoPost σ p r s ∨ (s = σ ∧ ∃ d0 d1 d2 d3 d4 d5, r = .tup [coA d0 d1 d2 d3 d4 d5 p.1.Dirty, iA p.2] ∧ CoFz d0 d1 d2 d3 d4 d5 p.1)
theorem plain_fz {s : Store} {S : Nat → Prop} {el : TypeId} {d : D} {rs : List (List D)} (h : ∀ s, At Tryz.prog s el d rs) (hf : ∀ row ∈ rs, ∀ x ∈ row, Flat x) : Fz Tryz.prog s S d d := by
  have hp := froz_plain (P := Tryz.prog) (el := el) (d := d) fun s => ⟨rs, (h s).rows⟩
  have hr := (h s).rows
  cases d <;> simp only [Go.Fw.Rows] at hr <;> try exact hr.elim
  · exact .nils
  · exact .zsl
  · obtain ⟨rfl, _⟩ := hr
    exact .refl fun row hrow x hx => (hf row hrow x hx).fz
  · exact absurd rfl (hp _ _ _)
theorem flat_co : (∀ n : Int, ∀ d ∈ Go.Fw.encI n, Flat d) ∧ (∀ r : Rs, ∀ d ∈ r.enc, Flat d) ∧ (∀ r : Mv, ∀ d ∈ r.enc, Flat d) ∧ ∀ r : Ls, ∀ d ∈ r.enc, Flat d :=
  ⟨fun n d hd => by simp [Go.Fw.encI] at hd; subst hd; exact .int _ _, fun r d hd => by simp [Rs.enc] at hd; rcases hd with rfl | rfl | rfl | rfl <;> exact .int _ _,
    fun r d hd => by simp [Mv.enc] at hd; rcases hd with rfl | rfl <;> exact .int _ _,
    fun r d hd => by simp [Ls.enc] at hd; rcases hd with rfl | rfl | rfl | rfl | rfl | rfl | rfl | rfl <;> exact .int _ _⟩
theorem cofz_fz {s : Store} {S : Nat → Prop} {d0 d1 d2 d3 d4 d5 : D} {k : Co} (h : CoFz d0 d1 d2 d3 d4 d5 k) (b : Bool) : FzL Tryz.prog s S [d0, d1, d2, d3, d4, d5, .bool b] [d0, d1, d2, d3, d4, d5, .bool b] :=
  .cons (plain_fz (fun s => (h.at_ s).own) (flat_ints _ flat_co.1 _)) (.cons (plain_fz (fun s => (h.at_ s).routes) (flat_ints _ flat_co.2.1 _)) (.cons (plain_fz (fun s => (h.at_ s).points) (flat_ints _ flat_co.2.2.1 _))
    (.cons (plain_fz (fun s => (h.at_ s).xs) (flat_ints _ flat_co.2.2.1 _)) (.cons (plain_fz (fun s => (h.at_ s).lines) (flat_ints _ flat_co.2.2.2 _)) (.cons (plain_fz (fun s => (h.at_ s).resets) (flat_ints _ flat_co.1 _)) (.cons (.bool _) .nil))))))
theorem postK_frz {f : FuncId} {as0' : List A} {p : Co × Int} (h : DCalls Tryz.prog f as0' σ (CoPostK σ p)) : DCalls Tryz.prog f as0' σ (CoPostZ σ p) := by
  refine h.ret ?_
  rintro r s (⟨d0, d1, d2, d3, d4, d5, rfl, hco⟩ | ⟨rfl, d0, d1, d2, d3, d4, d5, rfl, hz⟩)
  · obtain ⟨e0, e1, e2, e3, e4, e5, hfz, hz⟩ := co_frz hco
    refine ⟨.tup [coA e0 e1 e2 e3 e4 e5 p.1.Dirty, iA p.2], σ, .pure hco.own.ext ⟨rfl, fun i x y h1 h2 => ?_⟩, rfl, _, _, _, _, _, _, rfl, hz⟩
    rcases i with _ | _ | i
    · simp at h1 h2; subst h1 h2; exact hfz
    · simp at h1 h2; subst h1 h2; exact .int _ _
    · simp at h1
  · refine ⟨.tup [coA d0 d1 d2 d3 d4 d5 p.1.Dirty, iA p.2], s, .pure (.refl _) ⟨rfl, fun i x y h1 h2 => ?_⟩, rfl, _, _, _, _, _, _, rfl, hz⟩
    rcases i with _ | _ | i
    · simp at h1 h2; subst h1 h2; exact cofz_fz hz _
    · simp at h1 h2; subst h1 h2; exact .int _ _
    · simp at h1
section
variable {c0 c1 c2 c3 c4 k0 k1 k2 k3 k4 k5 v0 v1 v2 v3 : D} {c : Cf} {k : Co} {v : Vw}
end
end Go.Proofs.YtdlnbehcnfjneaaGreat
end
section
set_option linter.unusedVariables false
set_option linter.unusedSimpArgs false
namespace Go.Fw
/-- A right state is small. -/
theorem fits_small' {c : Cf} {k : Co} (h : k.fits c = true) : k.Own.length ≤ 16 ∧ k.Routes.length ≤ 12 ∧ k.Points.length ≤ 16 ∧ k.Xs.length ≤ 4 ∧ k.Lines.length = 4 ∧ k.Resets.length ≤ 16 := by
  have hf := fits_iff.1 h
  have hs := check_small hf.chk
  have := hf.lOwn; have := hf.lRts; have := hf.lPts; have := hf.lXs; have := hf.lLn; have := hf.lRes
  omega
end Go.Fw
end
section
set_option linter.unusedVariables false
set_option linter.unusedSimpArgs false
namespace Go.Proofs.YtdlnbehcnfjneaaGreat
open Go.Fw Go.Proofs Go.RowKit
variable {σ σ0 : Store}
theorem CoPostK.from {σ1 s : Store} {p : Co × Int} {r : RV} (he : Ext σ σ1) (h : CoPostK σ1 p r s) : CoPost σ p r s ∨ (s = σ1 ∧ ∃ d0 d1 d2 d3 d4 d5, r = .tup [coA d0 d1 d2 d3 d4 d5 p.1.Dirty, iA p.2] ∧ CoFz d0 d1 d2 d3 d4 d5 p.1) :=
  h.imp (fun h => h.from he) id
theorem ref12_Command_ok (m : Mv) (now cmd : Int) : Pure Tryz.prog n_ref12_Command [.agg m.enc, iA now, iA cmd] σ (.a (.agg (cmdM m now cmd).enc)) :=
  W_ref12_Command m.Cmd m.Other now cmd σ _ (bce (fun e => ⟨by rw [cmdM, if_neg (by simpa using e)]; rfl, rfl⟩) (fun e => ⟨by rw [cmdM, if_pos e]; rfl, rfl⟩))
section
variable {c0 c1 c2 c3 c4 k0 k1 k2 k3 k4 k5 : D} {c : Cf} (hc : ∀ s, CfAt s c0 c1 c2 c3 c4 c) {k : Co} (hk : CoFz k0 k1 k2 k3 k4 k5 k)
include hc hk
omit hc in
theorem ref13_Copied_fit (hfit : k.fits c = true) : DCalls Tryz.prog n_ref13_Copied [coA k0 k1 k2 k3 k4 k5 k.Dirty] σ fun r s => ∃ d0 d1 d2 d3 d4 d5, r = .a (coA d0 d1 d2 d3 d4 d5 k.Dirty) ∧ CoOwn σ s d0 d1 d2 d3 d4 d5 k := by
  have := fits_small' hfit
  exact ref13_Copied_ok (hk.at_ σ) (by omega) (by omega) (by omega) (by omega) (by omega) (by omega)
theorem ref13_state_ok (r to now : Int) {fr : List Int} {fd : D} (hfr : At Tryz.prog σ t_int fd (fr.map Go.Fw.encI)) :
    DCalls Tryz.prog n_ref13_state [cfA c0 c1 c2 c3 c4 c, coA k0 k1 k2 k3 k4 k5 k.Dirty, iA r, .one fd, iA to, iA now] σ (CoPostK σ (k.leadC c r to now fr)) := by
  have err : ∀ e : Int, k.gate c now (k.leadE r fr) = e → e ≠ 0 → CoPostK σ (k.leadC c r to now fr) (.tup [coA k0 k1 k2 k3 k4 k5 k.Dirty, iA e]) σ := fun e h1 h2 => by
    have : k.leadC c r to now fr = (k, e) := by rw [Co.leadC, Co.done, h1, if_neg h2]
    rw [this]; exact .inr ⟨rfl, k0, k1, k2, k3, k4, k5, rfl, hk⟩
  refine W_ref13_state _ _ _ _ _ _ _ _ _ k0 k1 k2 k3 k4 k5 k.Dirty r fd to now σ _ ((ref13_Fits_ok hc (hk.at_ σ) k.Dirty).use ⟨_, rfl, bcnot (fun e => err 21 (by rw [Co.gate, if_pos e]) (by decide)) (fun e1 => (ref13_Time_ok now).use ⟨_, rfl, bcnot (fun e => err 32 (by rw [Co.gate, if_neg (by rw [e1]; decide), if_pos e]) (by decide)) (fun e2 => ?_)⟩)⟩)
  have hg : k.gate c now (k.leadE r fr) = k.leadE r fr := by rw [Co.gate, if_neg (by rw [e1]; decide), if_neg (by rw [e2]; decide)]
  rw [hg] at err
  have hfi := fits_iff.1 e1
  intro R hR
  obtain ⟨rows, hat, hlen⟩ := rts_len (hc σ)
  refine bcd (fun e => err 20 (by rw [Co.leadE, geti_neg e]) (by decide)) (fun g0 => hat.lenK (bcd (fun e => err 20 (by rw [Co.leadE, geti_ge (by have := hfi.lRts; omega)]) (by decide)) (fun g1 => hR _ _ _ _ _ _ _ σ ?_)))
  obtain ⟨x, hx⟩ := geti_ex (l := k.Routes) (i := r) g0 (by have := hfi.lRts; omega)
  have hgx := geti_some hx
  have hxl := (List.getElem?_eq_some_iff.1 hgx.2.2).1
  have hE : k.leadE r fr = if inL fr x.State = false then 28 else 0 := by rw [Co.leadE, hx]
  refine (hk.at_ σ).routes.load (map_get hgx.2.2) c_RouteState (Int.toNat_of_nonneg hgx.1).symm ⟨x.State, rfl, (ref13_in_ok x.State hfr).use ⟨_, rfl, bcnot (fun e => err 28 (by rw [hE, if_pos e]) (by decide)) (fun e3 => (ref13_Copied_fit hk e1).mono ?_)⟩⟩
  rintro q s ⟨d0, d1, d2, d3, d4, d5, rfl, hd⟩
  rw [if_neg (by rw [e3]; decide)] at hE
  have ok : ∀ (d : Bool) s' , CoOwn σ s' d0 d1 d2 d3 d4 d5 (k.leadY r to now) → d = (k.leadY r to now).Dirty → CoPostK σ (k.leadC c r to now fr) (.tup [.agg [d0, d1, d2, d3, d4, d5, .bool d], iA 0]) s' := fun d s' h e => by
    subst e
    have : k.leadC c r to now fr = (k.leadY r to now, 0) := by rw [Co.leadC, Co.done, hg, if_pos hE, hE]
    rw [this]; exact .inl ⟨d0, d1, d2, d3, d4, d5, rfl, h⟩
  have ix : ∀ {k' : Co} {s' : Store} {K : Prop}, CoOwn σ s' d0 d1 d2 d3 d4 d5 k' → k'.Routes.length = k.Routes.length → K → ∃ len : Nat, (Idx Tryz.prog s' d1 4 len) ∧ ((0 : Int) ≤ r) ∧ (r < (len : Int)) ∧ K := fun h hl hK =>
    h.routes.at_.idxK c_RouteState (Int.toNat_of_nonneg hgx.1).symm (by rw [List.length_map, hl]; exact hxl) hK
  refine ⟨_, _, _, _, _, _, _, rfl, ix hd rfl (hd.putR (y := { x with State := to }) hgx.2.2 rfl (by simp) rfl fun s5 h5 _ => bce (fun e4 => ?_) (fun e4 => ?_))⟩
  · refine ix h5 (by simp) (h5.putR (x := { x with State := to }) (y := { x with State := to, Since := now }) (by show (k.Routes.set r.toNat _)[r.toNat]? = _; rw [List.getElem?_set, if_pos rfl, if_pos hxl]) rfl (by simp) rfl fun s6 h6 _ => ?_)
    refine ix h6 (by simp) (h6.putR (x := { x with State := to, Since := now }) (y := { x with State := to, Since := now, Mark := 0 }) (by show ((k.Routes.set r.toNat _).set r.toNat _)[r.toNat]? = _; rw [List.getElem?_set, if_pos rfl, if_pos (by simpa using hxl)]) rfl (by simp) rfl fun s7 h7 _ => ?_)
    have : k.leadY r to now = { k with Routes := ((k.Routes.set r.toNat { x with State := to }).set r.toNat { x with State := to, Since := now }).set r.toNat { x with State := to, Since := now, Mark := 0 }, Dirty := true } := by
      rw [List.set_set, List.set_set, Co.leadY, if_pos e4, hx]; rfl
    refine ok true s7 ?_ (by rw [this])
    rw [this]; exact ⟨h7.own, h7.routes, h7.points, h7.xs, h7.lines, h7.resets, h7.apart⟩
  · have : k.leadY r to now = { k with Routes := k.Routes.set r.toNat { x with State := to } } := by rw [Co.leadY, if_neg e4, hx]; rfl
    refine ok k.Dirty s5 ?_ (by rw [this])
    rw [this]; exact h5
theorem ref13_Reset_ok (now s : Int) : DCalls Tryz.prog n_ref13_Reset [cfA c0 c1 c2 c3 c4 c, coA k0 k1 k2 k3 k4 k5 k.Dirty, iA now, iA s] σ (CoPostK σ (k.resetC c now s)) := by
  have err : ∀ e : Int, k.gate c now (k.resetE s) = e → e ≠ 0 → CoPostK σ (k.resetC c now s) (.tup [coA k0 k1 k2 k3 k4 k5 k.Dirty, iA e]) σ := fun e h1 h2 => by
    have : k.resetC c now s = (k, e) := by rw [Co.resetC, Co.done, h1, if_neg h2]
    rw [this]; exact .inr ⟨rfl, k0, k1, k2, k3, k4, k5, rfl, hk⟩
  refine W_ref13_Reset _ _ _ _ _ _ _ _ _ k0 k1 k2 k3 k4 k5 k.Dirty now s σ _ ((ref13_Fits_ok hc (hk.at_ σ) k.Dirty).use ⟨_, rfl, bcnot (fun e => err 21 (by rw [Co.gate, if_pos e]) (by decide)) (fun e1 => (ref13_Time_ok now).use ⟨_, rfl, bcnot (fun e => err 32 (by rw [Co.gate, if_neg (by rw [e1]; decide), if_pos e]) (by decide)) (fun e2 => ?_)⟩)⟩)
  have hg : k.gate c now (k.resetE s) = k.resetE s := by rw [Co.gate, if_neg (by rw [e1]; decide), if_neg (by rw [e2]; decide)]
  rw [hg] at err
  have hfi := fits_iff.1 e1
  have hl1 := hfi.lOwn
  have hl2 := hfi.lRes
  simp only [tm, decide_eq_true_eq] at e2
  refine bcd (fun e => err 20 (by rw [Co.resetE, geti_neg e]) (by decide)) (fun g0 => (hc σ).secs.lenK ?_)
  rw [List.length_map]
  refine bcd (fun e => err 20 (by rw [Co.resetE, geti_ge (by omega)]) (by decide)) (fun g1 => ?_)
  obtain ⟨o, ho⟩ := geti_ex (l := k.Own) (i := s) g0 (by omega)
  have hE : k.resetE s = if o ≠ -1 then 28 else 0 := by rw [Co.resetE, ho]
  obtain ⟨z, hz⟩ := get_of_lt (l := k.Resets) (j := s.toNat) (by omega)
  have hzl := (List.getElem?_eq_some_iff.1 hz).1
  refine (hk.at_ σ).own.load (map_get (geti_some ho).2.2) c_int (Int.toNat_of_nonneg (geti_some ho).1).symm ⟨o, rfl, bcn (fun e => err 28 (by rw [hE, if_pos e]) (by decide)) (fun e3 => (ref13_Copied_fit hk e1).mono ?_)⟩
  rintro q t ⟨d0, d1, d2, d3, d4, d5, rfl, hd⟩
  rw [if_neg (by simpa using e3)] at hE
  refine ⟨_, _, _, _, _, _, _, rfl, hd.resets.at_.idxK c_int (Int.toNat_of_nonneg (geti_some ho).1).symm (by rw [List.length_map]; exact hzl) ?_⟩
  rw [w64_id (n := now + 1) (by omega) (by omega)]
  refine hd.putZ (y := now + 1) hz rfl (by simp) rfl fun s5 h5 _ => ?_
  have : k.resetC c now s = ({ k with Resets := k.Resets.set s.toNat (now + 1) }, 0) := by rw [Co.resetC, Co.done, hg, if_pos hE, hE]
  rw [this]; exact .inl ⟨d0, d1, d2, d3, d4, d5, rfl, h5⟩
omit hc hk in
theorem CoPostK.pass {σ1 s : Store} {p : Co × Int} {r : RV} {Q : RV → Store → Prop} (h : CoPostK σ1 p r s) (hq : Q r s) :
    ∃ d d1 d2 d3 d4 d5 : D, ∃ b : Bool, ∃ n1 : Int, r = .tup [.agg [d, d1, d2, d3, d4, d5, .bool b], .one (.int .i64 n1)] ∧ Q (.tup [.agg [d, d1, d2, d3, d4, d5, .bool b], .one (.int .i64 n1)]) s := by
  rcases h with ⟨d0, d1, d2, d3, d4, d5, e, ho⟩ | ⟨_, d0, d1, d2, d3, d4, d5, e, ho⟩
  · refine ⟨d0, d1, d2, d3, d4, d5, p.1.Dirty, p.2, e, ?_⟩
    rw [← e]; exact hq
  · refine ⟨d0, d1, d2, d3, d4, d5, p.1.Dirty, p.2, e, ?_⟩
    rw [← e]; exact hq
def CoPostE (σ : Store) (p : Co × Int) (r : RV) (s : Store) : Prop := Ext σ s ∧ ∃ d0 d1 d2 d3 d4 d5, r = .tup [coA d0 d1 d2 d3 d4 d5 p.1.Dirty, iA p.2] ∧ CoFz d0 d1 d2 d3 d4 d5 p.1
omit hc hk in
theorem fz_ret {f : FuncId} {xs : List A} {p : Co × Int} (h : DCalls Tryz.prog f xs σ (CoPostE σ p)) : DCalls Tryz.prog f xs σ (CoPostZ σ p) := by
  refine h.ret ?_
  rintro r s ⟨he, d0, d1, d2, d3, d4, d5, rfl, hz⟩
  refine ⟨.tup [coA d0 d1 d2 d3 d4 d5 p.1.Dirty, iA p.2], σ, .pure he ⟨rfl, fun i x y h1 h2 => ?_⟩, rfl, _, _, _, _, _, _, rfl, hz⟩
  rcases i with _ | _ | i
  · simp at h1 h2; subst h1 h2; exact cofz_fz hz _
  · simp at h1 h2; subst h1 h2; exact .int _ _
  · simp at h1
omit hc hk in
theorem CoPostZ.pass {σ1 s : Store} {p : Co × Int} {r : RV} {Q : RV → Store → Prop} (h : CoPostZ σ1 p r s) (hq : Q r s) :
    ∃ d d1 d2 d3 d4 d5 : D, ∃ b : Bool, ∃ n1 : Int, r = .tup [.agg [d, d1, d2, d3, d4, d5, .bool b], .one (.int .i64 n1)] ∧ Q (.tup [.agg [d, d1, d2, d3, d4, d5, .bool b], .one (.int .i64 n1)]) s := by
  obtain ⟨_, d0, d1, d2, d3, d4, d5, e, ho⟩ := h
  refine ⟨d0, d1, d2, d3, d4, d5, p.1.Dirty, p.2, e, ?_⟩
  rw [← e]; exact hq
theorem ref13_Cancel_ok (now r : Int) : DCalls Tryz.prog n_ref13_Cancel [cfA c0 c1 c2 c3 c4 c, coA k0 k1 k2 k3 k4 k5 k.Dirty, iA now, iA r] σ (CoPostZ σ (k.cancelC c now r)) := by
  refine fz_ret (W_ref13_Cancel _ _ _ _ _ _ _ _ _ k0 k1 k2 k3 k4 k5 k.Dirty now r σ _ (newObj_intro fun i1 s1 _ _ e1 q1 => ?_))
  refine (postK_frz (ref13_state_ok hc hk r 4 now (fr := [1, 2, 3]) (At.fresh q1 (by simp) rfl))).mono fun q s5 hp => hp.pass (Q := CoPostE σ (k.cancelC c now r)) ?_
  exact ⟨by rw [hp.1]; exact e1, hp.2⟩
theorem ref13_Release_ok (now r : Int) : DCalls Tryz.prog n_ref13_Release [cfA c0 c1 c2 c3 c4 c, coA k0 k1 k2 k3 k4 k5 k.Dirty, iA now, iA r] σ (CoPostZ σ (k.releaseC c now r)) := by
  refine fz_ret (W_ref13_Release _ _ _ _ _ _ _ _ _ k0 k1 k2 k3 k4 k5 k.Dirty now r σ _ (newObj_intro fun i1 s1 _ _ e1 q1 => ?_))
  refine (postK_frz (ref13_state_ok hc hk r 4 now (fr := [5]) (At.fresh q1 (by simp) rfl))).mono fun q s5 hp => hp.pass (Q := CoPostE σ (k.releaseC c now r)) ?_
  exact ⟨by rw [hp.1]; exact e1, hp.2⟩
theorem ref13_Restore_ok (r : Int) : DCalls Tryz.prog n_ref13_Restore [cfA c0 c1 c2 c3 c4 c, coA k0 k1 k2 k3 k4 k5 k.Dirty, iA r] σ (CoPostZ σ (k.restoreC c r)) := by
  refine fz_ret (W_ref13_Restore _ _ _ _ _ _ _ _ _ k0 k1 k2 k3 k4 k5 k.Dirty r σ _ (newObj_intro fun i1 s1 _ _ e1 q1 => ?_))
  refine (postK_frz (ref13_state_ok hc hk r 1 0 (fr := [3]) (At.fresh q1 (by simp) rfl))).mono fun q s5 hp => hp.pass (Q := CoPostE σ (k.restoreC c r)) ?_
  exact ⟨by rw [hp.1]; exact e1, hp.2⟩
end
end Go.Proofs.YtdlnbehcnfjneaaGreat
end
section
set_option linter.unusedVariables false
set_option linter.unusedSimpArgs false
namespace Go.Proofs.YtdlnbehcnfjneaaGreat
open Go.Fw Go.Proofs Go.RowKit
variable {σ σ0 : Store}
section
variable {c0 c1 c2 c3 c4 k0 k1 k2 k3 k4 k5 : D} {c : Cf} (hc : ∀ s, CfAt s c0 c1 c2 c3 c4 c) {k : Co}
include hc
theorem ref13_Inherits_ok {b : Bool} (hk : At Tryz.prog σ t_int k0 (k.Own.map Go.Fw.encI)) {r s o : Int} (ho : geti k.Own s = some o) (hlo : -2 ≤ o ∧ o ≤ c.Rts.length) (hr : 0 ≤ r ∧ r < c.Rts.length) :
    Pure Tryz.prog n_ref13_Inherits [cfA c0 c1 c2 c3 c4 c, coA k0 k1 k2 k3 k4 k5 b, iA r, iA s] σ (.a (bA (k.inh c r s))) := by
  obtain ⟨g1, g2, g3⟩ := geti_some ho
  have w : w64 (o - 1) = o - 1 := w64_id (by omega) (by have := (rts_len (hc σ)); obtain ⟨rows, ha, hl⟩ := this; have := ha.size; omega)
  have hi : k.inh c r s = (decide (0 ≤ o - 1 ∧ o - 1 ≠ r) && (decide ((c.rt (o - 1)).Exit = (c.rt r).Entry) && inL (c.rt (o - 1)).Overlap s)) := by
    unfold Co.inh; rw [ho]; rfl
  have no : ¬ (0 ≤ o - 1 ∧ o - 1 ≠ r) → k.inh c r s = false := fun e => by rw [hi, decide_eq_false e]; rfl
  refine W_ref13_Inherits _ _ _ _ _ _ _ _ _ k0 k1 k2 k3 k4 k5 b r s σ _ (hk.load (map_get g3) c_int (Int.toNat_of_nonneg g1).symm ⟨o, rfl, ?_⟩)
  rw [w]
  refine bcd (fun e1 => bcn (fun e2 => ?_) (fun e => by rw [no (by omega)]; exact ⟨rfl, rfl⟩)) (fun e => by rw [no (by omega)]; exact ⟨rfl, rfl⟩)
  obtain ⟨q, hq⟩ := geti_ex (l := c.Rts) (i := o - 1) (by omega) (by omega)
  obtain ⟨x, hx⟩ := geti_ex (l := c.Rts) (i := r) (by omega) (by omega)
  obtain ⟨rows, q1, q2, q3, hat, hlen, hrow, f1, f2, f3⟩ := rt_frz hc (geti_some hq).2.2
  obtain ⟨rows', x1, x2, x3, hat', hlen', hrow', _, _, _⟩ := rt_frz hc (geti_some hx).2.2
  rw [hi, decide_eq_true (by omega), rt_some hq, rt_some hx, Bool.true_and]
  refine (hat σ).load hrow c_Route (by omega) ⟨q.Exit, rfl, (hat' σ).load hrow' c_Route (by omega) ⟨x.Entry, rfl, bce (fun e => ?_) (fun e => ?_)⟩⟩
  · exact (hat σ).load hrow c_Route (by omega) ⟨q3, rfl, (ref13_in_ok s (f3 σ)).use ⟨_, rfl, by rw [decide_eq_true e]; exact ⟨rfl, rfl⟩⟩⟩
  · rw [decide_eq_false e]; exact ⟨rfl, rfl⟩
theorem ref13_Line_ok (hok : c.check = 0) {r : Int} {x : Rt} (hx : geti c.Rts r = some x) : Pure Tryz.prog n_ref13_Line [cfA c0 c1 c2 c3 c4 c, iA r] σ (.a (iA (lineF c x.Path))) := by
  have hr := check_rt hok (geti_mem hx)
  obtain ⟨rows, q1, q2, q3, hat, hlen, hrow, f1, f2, f3⟩ := rt_frz hc (geti_some hx).2.2
  have hg := geti_some hx
  have w1 := hr.len
  rw [← line_eq hok (geti_mem hx)]
  refine W_ref13_Line _ _ _ _ _ _ _ _ _ r σ _ ((hat σ).load hrow c_Route (by omega) ⟨q1, rfl, (f1 σ).lenK ⟨fun m n s => s = σ ∧ Rng x.Path (fun q => q.foldl (fun n s => max n (secLine c s)) m = lineM c x.Path) n, fun _ n _ => x.Path.length - n.toNat, ⟨rfl, .start rfl⟩, ?_⟩⟩)
  rintro m n s ⟨rfl, hq⟩
  rw [List.length_map]
  refine bcd (fun hlt => ?_) (fun hge => ?_)
  · obtain ⟨j, y, rfl, hy, hj, hF, nx⟩ := hq.step rfl (by omega) hlt
    obtain ⟨z, hz, _⟩ := (hr.step y (List.mem_of_getElem? hy)).1.sec
    have hgz := geti_some hz
    rw [List.foldl_cons, secLine, hz, Option.getD_some] at hF
    refine (f1 s).load (map_get hy) c_Step rfl ⟨y.Sec, y.In, y.Out, rfl, (hc s).secs.load (map_get hgz.2.2) c_Section (Int.toNat_of_nonneg hgz.1).symm ⟨z.Line, rfl, ?_⟩⟩
    have e : (if z.Line > m then z.Line else m) = max m z.Line := by split <;> omega
    rw [e]
    exact andl rfl (nx _ hF)
  · have hF := hq.done rfl hge
    rw [← hF]; exact ⟨rfl, rfl⟩
variable (hk : CoFz k0 k1 k2 k3 k4 k5 k)
include hk
theorem ref13_Throw_ok (now s pos : Int) : DCalls Tryz.prog n_ref13_Throw [cfA c0 c1 c2 c3 c4 c, coA k0 k1 k2 k3 k4 k5 k.Dirty, iA now, iA s, iA pos] σ (CoPostK σ (k.throwC c now s pos)) := by
  have err : ∀ e : Int, k.gate c now (k.throwE c s pos) = e → e ≠ 0 → CoPostK σ (k.throwC c now s pos) (.tup [coA k0 k1 k2 k3 k4 k5 k.Dirty, iA e]) σ := fun e h1 h2 => by
    have : k.throwC c now s pos = (k, e) := by rw [Co.throwC, Co.done, h1, if_neg h2]
    rw [this]; exact .inr ⟨rfl, k0, k1, k2, k3, k4, k5, rfl, hk⟩
  refine W_ref13_Throw _ _ _ _ _ _ _ _ _ k0 k1 k2 k3 k4 k5 k.Dirty now s pos σ _ ?_
  intro R hR
  refine (ref13_Fits_ok hc (hk.at_ σ) k.Dirty).use ⟨_, rfl, bcnot (fun e => err 21 (by rw [Co.gate, if_pos e]) (by decide)) (fun e1 => (ref13_Time_ok now).use ⟨_, rfl, bcnot (fun e => err 32 (by rw [Co.gate, if_neg (by rw [e1]; decide), if_pos e]) (by decide)) (fun e2 => ?_)⟩)⟩
  have hg : k.gate c now (k.throwE c s pos) = k.throwE c s pos := by rw [Co.gate, if_neg (by rw [e1]; decide), if_neg (by rw [e2]; decide)]
  rw [hg] at err
  have hfi := fits_iff.1 e1
  have hl1 := hfi.lOwn
  have hl2 := hfi.lPts
  intro R1 hR1
  have none20 : geti k.Own s = none → R1 true σ := fun e => hR1 true σ (err 20 (by rw [Co.throwE, e]) (by decide))
  refine bcd (fun e => ⟨rfl, none20 (geti_neg e)⟩) (fun g0 => (hc σ).secs.lenK ?_)
  rw [List.length_map]
  refine bcd (fun e => ⟨rfl, none20 (geti_ge (by omega))⟩) (fun g1 => ?_)
  obtain ⟨o, ho⟩ := geti_ex (l := k.Own) (i := s) g0 (by omega)
  obtain ⟨z, hz⟩ := geti_ex (l := c.Secs) (i := s) g0 (by omega)
  have hE : k.throwE c s pos = if z.Kind ≠ 1 then 20 else if pos ≠ 1 ∧ pos ≠ 2 then 32 else if o ≠ 0 then 22 else 0 := by rw [Co.throwE, ho, kindI_some hz]
  have hgo := geti_some ho
  refine (hc σ).secs.load (map_get (geti_some hz).2.2) c_Section (Int.toNat_of_nonneg hgo.1).symm ⟨z.Kind, rfl, rfl, ?_⟩
  have body : k.throwE c s pos = 0 → ∀ d d1 d2 d3 d4 d5 b, R d d1 d2 d3 d4 d5 b σ := fun hE0 d d1' d2' d3' d4' d5' b => by
    refine hR _ _ _ _ _ _ _ σ ((ref13_Copied_fit hk e1).mono ?_)
    rintro q t ⟨d0, d1, d2, d3, d4, d5, rfl, hd⟩
    obtain ⟨m, hm⟩ := get_of_lt (l := k.Points) (j := s.toNat) (by omega)
    have hgm : geti k.Points s = some m := by unfold geti; rw [if_neg (by omega), hm]
    have hml := (List.getElem?_eq_some_iff.1 hm).1
    refine ⟨_, _, _, _, _, _, _, rfl, hd.points.at_.load (map_get hm) c_Mover (Int.toNat_of_nonneg hgo.1).symm ⟨m.Cmd, m.Other, rfl, (ref12_Command_ok m now pos).use ⟨_, _, rfl, hd.points.at_.idxK c_Mover (Int.toNat_of_nonneg hgo.1).symm (by rw [List.length_map]; exact hml) ?_⟩⟩⟩
    refine hd.putP (y := cmdM m now pos) hm rfl (by simp) rfl fun s5 h5 _ => ?_
    have : k.throwC c now s pos = ({ k with Points := k.Points.set s.toNat (cmdM m now pos) }, 0) := by rw [Co.throwC, Co.done, hg, if_pos hE0, hE0, hgm]; rfl
    rw [this]; exact .inl ⟨d0, d1, d2, d3, d4, d5, rfl, h5⟩
  refine hR1 _ σ ?_
  refine bcn (fun e => err 20 (by rw [hE, if_pos e]) (by decide)) (fun e3 => ?_)
  rw [if_neg (by simpa using e3)] at hE
  have fin : (pos = 1 ∨ pos = 2) → ∃ len : Nat, (Idx Tryz.prog σ k0 1 len) ∧ ((0 : Int) ≤ s) ∧ (s < (len : Int)) ∧ ∃ row : List D, Row σ k0 (Int.toNat s) row ∧ ∃ n : Int, List.take 1 row = [D.int .i64 n] ∧ bcase (n != 0) (CoPostK σ (k.throwC c now s pos) (.tup [.agg [k0, k1, k2, k3, k4, k5, .bool k.Dirty], .one (.int .i64 22)]) σ) (R .nils .nils .nils .nils .nils .nils false σ) := fun hp => by
    rw [if_neg (by omega)] at hE
    exact (hk.at_ σ).own.load (map_get hgo.2.2) c_int (Int.toNat_of_nonneg hgo.1).symm ⟨o, rfl, bcn (fun e => err 22 (by rw [hE, if_pos e]) (by decide)) (fun e => body (by rw [hE, if_neg (by simpa using e)]) _ _ _ _ _ _ _)⟩
  refine bcn (fun e4 => bcn (fun e5 => err 32 (by rw [hE, if_pos ⟨e4, e5⟩]) (by decide)) (fun e5 => fin (.inr e5))) (fun e4 => fin (.inl e4))
end
end Go.Proofs.YtdlnbehcnfjneaaGreat
end
section
set_option linter.unusedVariables false
set_option linter.unusedSimpArgs false
namespace Go.Proofs.YtdlnbehcnfjneaaGreat
open Go.Fw Go.Proofs Go.RowKit
variable {σ σ0 : Store}
section
variable {c0 c1 c2 c3 c4 k0 k1 k2 k3 k4 k5 : D} {c : Cf} (hc : ∀ s, CfAt s c0 c1 c2 c3 c4 c) {k : Co} (hk : CoFz k0 k1 k2 k3 k4 k5 k)
include hc hk
theorem ref13_Request_ok (now r : Int) : DCalls Tryz.prog n_ref13_Request [cfA c0 c1 c2 c3 c4 c, coA k0 k1 k2 k3 k4 k5 k.Dirty, iA now, iA r] σ (CoPostK σ (k.requestC c now r)) := by
  have err : ∀ e : Int, k.gate c now (k.reqE c r) = e → e ≠ 0 → CoPostK σ (k.requestC c now r) (.tup [coA k0 k1 k2 k3 k4 k5 k.Dirty, iA e]) σ := fun e h1 h2 => by
    have : k.requestC c now r = (k, e) := by rw [Co.requestC, Co.done, h1, if_neg h2]
    rw [this]; exact .inr ⟨rfl, k0, k1, k2, k3, k4, k5, rfl, hk⟩
  refine W_ref13_Request _ _ _ _ _ _ _ _ _ k0 k1 k2 k3 k4 k5 k.Dirty now r σ _ ((ref13_Fits_ok hc (hk.at_ σ) k.Dirty).use ⟨_, rfl, bcnot (fun e => err 21 (by rw [Co.gate, if_pos e]) (by decide)) (fun e1 => (ref13_Time_ok now).use ⟨_, rfl, bcnot (fun e => err 32 (by rw [Co.gate, if_neg (by rw [e1]; decide), if_pos e]) (by decide)) (fun e2 => ?_)⟩)⟩)
  have hg : k.gate c now (k.reqE c r) = k.reqE c r := by rw [Co.gate, if_neg (by rw [e1]; decide), if_neg (by rw [e2]; decide)]
  rw [hg] at err
  have hfi := fits_iff.1 e1
  have hok := hfi.chk
  intro R hR
  obtain ⟨rows, hat, hlen⟩ := rts_len (hc σ)
  refine bcd (fun e => err 20 (by rw [Co.reqE, geti_neg e]) (by decide)) (fun g0 => hat.lenK (bcd (fun e => err 20 (by rw [Co.reqE, geti_ge (by have := hfi.lRts; omega)]) (by decide)) (fun g1 => hR _ _ _ _ _ _ _ σ ?_)))
  obtain ⟨x, hgr⟩ := geti_ex (l := k.Routes) (i := r) g0 (by have := hfi.lRts; omega)
  have hgx := geti_some hgr
  have hsm := fits_small' e1
  have hxl := (List.getElem?_eq_some_iff.1 hgx.2.2).1
  have hE : k.reqE c r = if x.State ≠ 0 then 28 else if k.may c r (c.lockL r) ≠ 0 then k.may c r (c.lockL r) else if lineF c (c.rt r).Path > 0 ∧ ((geti k.Lines (lineF c (c.rt r).Path)).getD zLs).Ask ≥ 4294967295 then 5 else 0 := by
    rw [Co.reqE, hgr]
  obtain ⟨y, hy, hym⟩ := rt_of hfi hgr
  have hrok := check_rt hok hym
  have hyl := (List.getElem?_eq_some_iff.1 (geti_some hy).2.2).1
  have hcl : c.Rts.length = k.Routes.length := hfi.lRts.symm
  have hll : c.lockL r = Cf.lockR y := by unfold Cf.lockL; rw [hy]
  have hsec : ∀ s ∈ c.lockL r, ∃ z, geti c.Secs s = some z := fun s hs => lockR_sec hrok (by rw [← hll]; exact hs)
  have hin : ∀ v ∈ c.lockL r, ∃ o, geti k.Own v = some o := fun v hv => by
    obtain ⟨z, hz⟩ := hsec v hv
    have hg := geti_some hz
    have := (List.getElem?_eq_some_iff.1 hg.2.2).1
    exact geti_ex (by omega) (by have := hfi.lOwn; omega)
  refine (hk.at_ σ).routes.load (map_get hgx.2.2) c_RouteState (Int.toNat_of_nonneg hgx.1).symm ⟨x.State, rfl, bcn (fun e => err 28 (by rw [hE, if_pos e]) (by decide)) (fun e3 => ?_)⟩
  rw [if_neg (by simpa using e3)] at hE
  refine (ref06_Locks_ok hc hok r).mono ?_
  rintro q s ⟨rfl, d6, rfl, h6⟩
  have h6z := (h6 s).size
  rw [List.length_map] at h6z
  refine ⟨d6, rfl, (ref13_Approached_ok (hc s) (hk.at_ s).routes k.Dirty hfi.lRts (h6 s)).use ⟨_, rfl, bc (fun e => err 23 ?_ (by decide)) (fun e4 => ?_)⟩⟩
  · have : k.may c r (c.lockL r) = 23 := by rw [Co.may, if_pos e]
    rw [hE, this]; rfl
  refine (h6 s).lenK ⟨fun _ _ _ _ _ _ _ n s' => s' = s ∧ Rng (c.lockL r) (fun q => (q.any fun s => decide ((geti k.Own s).getD 0 ≠ 0) && !k.inh c r s) = k.blocked c r (c.lockL r)) n, fun _ _ _ _ _ _ _ n _ => (c.lockL r).length - n.toNat, ⟨rfl, .start rfl⟩, ?_⟩
  rintro _ _ _ _ _ _ _ n s' ⟨rfl, hq⟩
  refine bcd (fun hlt => ?_) (fun hge => ?_)
  · obtain ⟨j, v, rfl, hv, hj, hF, nx⟩ := hq.step (by rw [List.length_map]) (by omega) hlt
    obtain ⟨o, ho⟩ := hin v (List.mem_of_getElem? hv)
    have hgo := geti_some ho
    rw [List.any_cons, ho, Option.getD_some] at hF
    refine (h6 s').load (map_get hv) c_int rfl ⟨v, rfl, (hk.at_ s').own.load (map_get hgo.2.2) c_int (Int.toNat_of_nonneg hgo.1).symm ⟨o, rfl, bcn (fun e5 => ?_) (fun e5 => ?_)⟩⟩
    · refine (ref13_Inherits_ok hc (k := k) (b := k.Dirty) (hk.at_ s').own ho (hfi.own o (geti_mem ho)) (r := r) (by omega)).use ⟨_, rfl, bcnot (fun e6 => err 22 ?_ (by decide)) (fun e6 => ?_)⟩
      · rw [e6, decide_eq_true e5] at hF
        have : k.may c r (c.lockL r) = 22 := by rw [Co.may, if_neg (by rw [e4]; decide), if_pos (by rw [← hF]; rfl)]
        rw [hE, this]; rfl
      · rw [e6, Bool.not_true, Bool.and_false, Bool.false_or] at hF
        exact andl rfl (nx (fun q => (q.any fun s => decide ((geti k.Own s).getD 0 ≠ 0) && !k.inh c r s) = k.blocked c r (c.lockL r)) hF)
    · rw [decide_eq_false (by simpa using e5), Bool.false_and, Bool.false_or] at hF
      exact andl rfl (nx (fun q => (q.any fun s => decide ((geti k.Own s).getD 0 ≠ 0) && !k.inh c r s) = k.blocked c r (c.lockL r)) hF)
  have hF := hq.done (by rw [List.length_map]) hge
  have hm0 : k.may c r (c.lockL r) = 0 := by rw [Co.may, if_neg (by rw [e4]; decide), if_neg (by rw [← hF]; simp)]
  rw [hm0, if_neg (by decide), rt_some hy] at hE
  refine (ref13_Line_ok hc hok hy).use ⟨_, rfl, ?_⟩
  intro R1 hR1
  have hl3 := line_ok hok y.Path
  have body : k.reqE c r = 0 → ∀ e0 e1 e2 e3 e4 e5 b, R1 e0 e1 e2 e3 e4 e5 b s' := fun hE0 f0 f1 f2 f3 f4 f5 b => by
    refine hR1 _ _ _ _ _ _ _ s' ((ref13_Copied_fit hk e1).mono ?_)
    rintro q s ⟨d0, d1, d2, d3, d4, d5, rfl, hd⟩
    refine ⟨_, _, _, _, _, _, _, rfl, (h6 s).lenK ⟨fun n s => ∃ j : Nat, n = j ∧ j ≤ (c.lockL r).length ∧ CoOwn s' s d0 d1 d2 d3 d4 d5 { k with Own := ((c.lockL r).take j).foldl (fun w s => w.set s.toNat (r + 1)) k.Own },
      fun n _ => (c.lockL r).length - n.toNat, ⟨0, rfl, by omega, by simpa using hd⟩, ?_⟩⟩
    rintro n s4 ⟨j, rfl, hj, hI4⟩
    rw [List.length_map]
    refine bcd (fun hlt => ?_) (fun hge => ?_)
    · obtain ⟨v, hv⟩ := get_of_lt (l := c.lockL r) (j := j) (by omega)
      obtain ⟨o, ho⟩ := hin v (List.mem_of_getElem? hv)
      have hgo := geti_some ho
      have hvl := (List.getElem?_eq_some_iff.1 hgo.2.2).1
      have hlo := ownC_len (r + 1) ((c.lockL r).take j) k.Own
      obtain ⟨o', ho'⟩ := get_of_lt (l := ((c.lockL r).take j).foldl (fun w s => w.set s.toNat (r + 1)) k.Own) (j := v.toNat) (by omega)
      refine (h6 s4).load (map_get hv) c_int rfl ⟨v, rfl, hI4.own.at_.idxK c_int (Int.toNat_of_nonneg hgo.1).symm (by simp only [List.length_map]; omega) ?_⟩
      rw [w64_id (n := r + 1) (by omega) (by omega)]
      refine hI4.putO (k := { k with Own := ((c.lockL r).take j).foldl (fun w s => w.set s.toNat (r + 1)) k.Own }) (y := r + 1) ho' rfl (by simp) rfl fun s5 hI5 _ => ?_
      rw [w64_succ (by omega)]
      refine ⟨rfl, ⟨j + 1, rfl, by omega, ?_⟩, dec_lt (by omega)⟩
      rw [List.take_add_one, hv, List.foldl_append]
      exact hI5
    have e : j = (c.lockL r).length := by omega
    rw [e, List.take_length] at hI4
    refine hI4.routes.at_.idxK c_RouteState (Int.toNat_of_nonneg hgx.1).symm (by rw [List.length_map]; exact hxl) (hI4.putR (k := { k with Own := (c.lockL r).foldl (fun w s => w.set s.toNat (r + 1)) k.Own }) (y := ⟨1, 0, 0, 0⟩) hgx.2.2 rfl (by simp) rfl fun s5 hI5 _ => ?_)
    have hyn : (c.rt r).Path.length ≤ 2 ^ 20 := by rw [rt_some hy]; have := hrok.len; omega
    have hyf : (c.rt r).Flank.length ≤ 2 ^ 20 := by rw [rt_some hy]; have := hrok.flen; omega
    refine (ref12_Needs_ok hc r hyn hyf).mono ?_
    rintro q s6 ⟨rfl, d13, rfl, h13⟩
    have hnl : (c.Needs r).length ≤ 41 := by
      rw [Cf.Needs, rt_some hy]
      have := needs_len c y
      have := hrok.len; have := hrok.flen; omega
    refine ⟨d13, rfl, (h13 s6).lenK ⟨fun n s => ∃ j : Nat, n = j ∧ j ≤ (c.Needs r).length ∧ CoOwn s' s d0 d1 d2 d3 d4 d5 { k with Own := (c.lockL r).foldl (fun w s => w.set s.toNat (r + 1)) k.Own, Routes := k.Routes.set r.toNat ⟨1, 0, 0, 0⟩, Points := ptsC now ((c.Needs r).take j) k.Points },
      fun n _ => (c.Needs r).length - n.toNat, ⟨0, rfl, by omega, hI5⟩, ?_⟩⟩
    rintro n s7 ⟨j, rfl, hj, hI7⟩
    rw [List.length_map]
    refine bcd (fun hlt => ?_) (fun hge => ?_)
    · obtain ⟨nd, hnd⟩ := get_of_lt (l := c.Needs r) (j := j) (by omega)
      have hnm := List.mem_of_getElem? hnd
      obtain ⟨⟨z, hz⟩, _⟩ := needs_sec hrok (by rw [Cf.Needs, rt_some hy] at hnm; exact hnm)
      have hgz := geti_some hz
      have hzl := (List.getElem?_eq_some_iff.1 hgz.2.2).1
      have hpl := ptsC_len now ((c.Needs r).take j) k.Points
      have hpl2 := hfi.lPts
      obtain ⟨m, hm⟩ := get_of_lt (l := ptsC now ((c.Needs r).take j) k.Points) (j := nd.Sec.toNat) (by omega)
      have hgm : geti (ptsC now ((c.Needs r).take j) k.Points) nd.Sec = some m := by unfold geti; rw [if_neg (by omega), hm]
      refine (h13 s7).load (map_get hnd) c_Need rfl ⟨nd.Sec, nd.Pos, rfl, hI7.points.at_.load (map_get hm) c_Mover (Int.toNat_of_nonneg hgz.1).symm ⟨m.Cmd, m.Other, rfl, (ref12_Command_ok m now nd.Pos).use ⟨_, _, rfl, ?_⟩⟩⟩
      refine hI7.points.at_.idxK c_Mover (Int.toNat_of_nonneg hgz.1).symm (by simp only [List.length_map]; omega) ?_
      refine hI7.putP (k := { k with Own := (c.lockL r).foldl (fun w s => w.set s.toNat (r + 1)) k.Own, Routes := k.Routes.set r.toNat ⟨1, 0, 0, 0⟩, Points := ptsC now ((c.Needs r).take j) k.Points }) (y := cmdM m now nd.Pos) hm rfl (by simp) rfl fun s9 hI9 _ => ?_
      rw [w64_succ (by omega)]
      refine ⟨rfl, ⟨j + 1, rfl, by omega, ?_⟩, dec_lt (by omega)⟩
      have e : ptsC now ((c.Needs r).take (j + 1)) k.Points = (ptsC now ((c.Needs r).take j) k.Points).set nd.Sec.toNat (cmdM m now nd.Pos) := by
        rw [List.take_add_one, hnd, ptsC, List.foldl_append]
        show (ptsC now ((c.Needs r).take j) k.Points).set nd.Sec.toNat (cmdM ((geti (ptsC now ((c.Needs r).take j) k.Points) nd.Sec).getD ⟨0, 0⟩) now nd.Pos) = _
        rw [hgm]; rfl
      rw [e]; exact hI9
    have e : j = (c.Needs r).length := by omega
    rw [e, List.take_length] at hI7
    have hxs := (check_xs hok).2.2
    refine (ref12_Crossings_ok hc r (by omega)).mono ?_
    rintro q s8 ⟨rfl, d19, rfl, h19⟩
    have hcl2 : (c.Cross r).length ≤ c.Xs.length := crossL_len _ _ _
    refine ⟨d19, rfl, (h19 s8).lenK ⟨fun n s => ∃ j : Nat, n = j ∧ j ≤ (c.Cross r).length ∧ CoOwn s' s d0 d1 d2 d3 d4 d5 { k with Own := (c.lockL r).foldl (fun w s => w.set s.toNat (r + 1)) k.Own, Routes := k.Routes.set r.toNat ⟨1, 0, 0, 0⟩, Points := ptsC now (c.Needs r) k.Points, Xs := xsC now ((c.Cross r).take j) k.Xs },
      fun n _ => (c.Cross r).length - n.toNat, ⟨0, rfl, by omega, hI7⟩, ?_⟩⟩
    rintro n s9 ⟨j, rfl, hj, hI9⟩
    rw [List.length_map]
    refine bcd (fun hlt => ?_) (fun hge => ?_)
    · obtain ⟨v, hv⟩ := get_of_lt (l := c.Cross r) (j := j) (by omega)
      obtain ⟨i, xx, e3, hxx, _⟩ := crossL_mem _ _ _ _ (List.mem_of_getElem? hv)
      rw [Nat.zero_add] at e3
      subst e3
      have hil := (List.getElem?_eq_some_iff.1 hxx).1
      have hpl := xsC_len now ((c.Cross r).take j) k.Xs
      have hpl2 := hfi.lXs
      obtain ⟨m, hm⟩ := get_of_lt (l := xsC now ((c.Cross r).take j) k.Xs) (j := i) (by omega)
      have hgm : geti (xsC now ((c.Cross r).take j) k.Xs) (i : Int) = some m := by rw [geti_nat, hm]
      refine (h19 s9).load (map_get hv) c_int rfl ⟨(i : Int), rfl, hI9.xs.at_.load (map_get hm) c_Mover rfl ⟨m.Cmd, m.Other, rfl, (ref12_Command_ok m now 1).use ⟨_, _, rfl, ?_⟩⟩⟩
      refine hI9.xs.at_.idxK c_Mover rfl (by simp only [List.length_map]; omega) ?_
      refine hI9.putX (k := { k with Own := (c.lockL r).foldl (fun w s => w.set s.toNat (r + 1)) k.Own, Routes := k.Routes.set r.toNat ⟨1, 0, 0, 0⟩, Points := ptsC now (c.Needs r) k.Points, Xs := xsC now ((c.Cross r).take j) k.Xs }) (y := cmdM m now 1) hm (by rw [Int.toNat_natCast]) (by simp) rfl fun s11 hI11 _ => ?_
      rw [w64_succ (by omega)]
      refine ⟨rfl, ⟨j + 1, rfl, by omega, ?_⟩, dec_lt (by omega)⟩
      have e : xsC now ((c.Cross r).take (j + 1)) k.Xs = (xsC now ((c.Cross r).take j) k.Xs).set i (cmdM m now 1) := by
        rw [List.take_add_one, hv, xsC, List.foldl_append]
        show (xsC now ((c.Cross r).take j) k.Xs).set ((i : Int)).toNat (cmdM ((geti (xsC now ((c.Cross r).take j) k.Xs) (i : Int)).getD ⟨0, 0⟩) now 1) = _
        rw [hgm]; rfl
      rw [e]; exact hI11
    have e : j = (c.Cross r).length := by omega
    rw [e, List.take_length] at hI9
    have fin : ∀ s10, CoOwn s' s10 d0 d1 d2 d3 d4 d5 { k with Own := (c.lockL r).foldl (fun w s => w.set s.toNat (r + 1)) k.Own, Routes := k.Routes.set r.toNat ⟨1, 0, 0, 0⟩, Points := ptsC now (c.Needs r) k.Points, Xs := xsC now (c.Cross r) k.Xs, Lines := askC (lineF c y.Path) k.Lines } →
        CoPostK s' (k.requestC c now r) (.tup [.agg [d0, d1, d2, d3, d4, d5, .bool true], .one (.int .i64 0)]) s10 := fun s10 h => by
      have : k.requestC c now r = ({ k with Own := (c.lockL r).foldl (fun w s => w.set s.toNat (r + 1)) k.Own, Routes := k.Routes.set r.toNat ⟨1, 0, 0, 0⟩, Points := ptsC now (c.Needs r) k.Points, Xs := xsC now (c.Cross r) k.Xs, Lines := askC (lineF c y.Path) k.Lines, Dirty := true }, 0) := by
        rw [Co.requestC, Co.done, hg, if_pos hE0, hE0, Co.lockC, rt_some hy]
      rw [this]; exact .inl ⟨d0, d1, d2, d3, d4, d5, rfl, ⟨h.own, h.routes, h.points, h.xs, h.lines, h.resets, h.apart⟩⟩
    refine bcd (fun hl => ?_) (fun hl => fin s9 ?_)
    · obtain ⟨u, hu⟩ := get_of_lt (l := k.Lines) (j := (lineF c y.Path).toNat) (by have := hfi.lLn; omega)
      have hgu : geti k.Lines (lineF c y.Path) = some u := by unfold geti; rw [if_neg (by omega), hu]
      have hul := (List.getElem?_eq_some_iff.1 hu).1
      have hua := (hfi.lns u (List.mem_of_getElem? hu))
      simp only [Ls.fits, tm, Bool.and_eq_true, decide_eq_true_eq] at hua
      refine hI9.lines.at_.load (map_get hu) c_LineState (Int.toNat_of_nonneg hl3.1).symm ⟨u.Ask, rfl, hI9.lines.at_.idxK c_LineState (Int.toNat_of_nonneg hl3.1).symm (by rw [List.length_map]; exact hul) ?_⟩
      rw [w64_id (n := u.Ask + 1) (by omega) (by omega)]
      refine hI9.putL (y := { u with Ask := u.Ask + 1 }) hu rfl (by simp) rfl fun s10 hI10 _ => fin s10 ?_
      have : askC (lineF c y.Path) k.Lines = k.Lines.set (lineF c y.Path).toNat { u with Ask := u.Ask + 1 } := by rw [askC, if_pos hl, hgu]; rfl
      rw [this]; exact hI10
    · have : askC (lineF c y.Path) k.Lines = k.Lines := by rw [askC, if_neg hl]
      rw [this]; exact hI9
  refine bcd (fun hl => ?_) (fun hl => body (by rw [hE, if_neg (by omega)]) _ _ _ _ _ _ _)
  obtain ⟨u, hu⟩ := get_of_lt (l := k.Lines) (j := (lineF c y.Path).toNat) (by have := hfi.lLn; omega)
  have hgu : geti k.Lines (lineF c y.Path) = some u := by unfold geti; rw [if_neg (by omega), hu]
  rw [hgu, Option.getD_some] at hE
  exact (hk.at_ s').lines.load (map_get hu) c_LineState (Int.toNat_of_nonneg hl3.1).symm ⟨u.Ask, rfl, bcd (fun e => err 5 (by rw [hE, if_pos ⟨hl, e⟩]) (by decide)) (fun e => body (by rw [hE, if_neg (fun h => e h.2)]) _ _ _ _ _ _ _)⟩
end
end Go.Proofs.YtdlnbehcnfjneaaGreat
end
section
set_option linter.unusedVariables false
set_option linter.unusedSimpArgs false
namespace Go.Proofs.YtdlnbehcnfjneaaGreat
open Go.Fw Go.Proofs Go.RowKit
theorem ty_RouteZ {row : List D} {n : Nat} (h : tyD Tryz.prog n t_Route row) : ∃ r : Rt, ((∀ s, RtAt Tryz.prog t_Step t_Need t_int s row r) ∧ RtI r) ∧ row[4]? ≠ some .zsl := by
  obtain ⟨_, _, rfl, ⟨a, rfl, ha⟩, _, _, rfl, ⟨b, rfl, hb⟩, d1, _, rfl, h1, d2, _, rfl, h2, d3, _, rfl, h3, _, _, rfl, ⟨sh, rfl⟩, rfl⟩ := ty_sh n 5 _ _ [.int .i64, .int .i64, .sl t_Step, .sl t_Need, .sl t_int, .bool] h (by kernel_rfl)
  obtain ⟨l1, a1, b1, _, e1⟩ := sh_rows (bytes := 24) St.enc _ (fun row n h => ty_Step h) (by kernel_rfl) (by omega) h1
  obtain ⟨l2, a2, b2, _, e2⟩ := sh_rows (bytes := 16) Nd.enc _ (fun row n h => ty_Need h) (by kernel_rfl) (by omega) h2
  obtain ⟨l3, a3, b3, z3, e3⟩ := sh_rows (bytes := 8) Go.Fw.encI _ (fun row n h => ty_i h) (by kernel_rfl) (by omega) h3
  exact ⟨⟨a, b, l1, l2, l3, sh⟩, ⟨fun s => ⟨d1, d2, d3, rfl, a1 s, a2 s, a3 s⟩, wf_i64 ha, wf_i64 hb, b1, b2, b3, e1, e2, e3⟩, fun e => z3 (by injection e)⟩
theorem ty_ConfigZ {cs : List D} {n : Nat} (h : tyD Tryz.prog n t_Config cs) : ∃ c0 c1 c2 c3 c4 c, cs = [c0, c1, c2, c3, c4, iD c.Age, iD c.Brake, iD c.Hold, iD c.Budget] ∧ (∀ s, CfAt s c0 c1 c2 c3 c4 c) ∧ CfI c ∧ RtsNz c4 := by
  obtain ⟨c0, _, rfl, h0, c1, _, rfl, h1, c2, _, rfl, h2, c3, _, rfl, h3, c4, _, rfl, h4, _, _, rfl, ⟨a, rfl, ha⟩, _, _, rfl, ⟨b, rfl, hb⟩, _, _, rfl, ⟨ho, rfl, hho⟩, _, _, rfl, ⟨bu, rfl, hbu⟩, rfl⟩ :=
    ty_sh n 5 _ _ [.sl t_Section, .sl t_Joint, .sl t_Signal, .sl t_int, .sl t_Route, .int .i64, .int .i64, .int .i64, .int .i64] h (by kernel_rfl)
  obtain ⟨l0, a0, b0, _, e0⟩ := sh_rows (bytes := 24) Sec.enc _ (fun row n h => ty_Section h) (by kernel_rfl) (by omega) h0
  obtain ⟨l1, a1, b1, _, e1⟩ := sh_rows (bytes := 32) Jt.enc _ (fun row n h => ty_Joint h) (by kernel_rfl) (by omega) h1
  obtain ⟨l2, a2, b2, _, e2⟩ := sh_rows (bytes := 16) Sg.enc _ (fun row n h => ty_Signal h) (by kernel_rfl) (by omega) h2
  obtain ⟨l3, a3, b3, _, e3⟩ := sh_rows (bytes := 8) Go.Fw.encI _ (fun row n h => ty_i h) (by kernel_rfl) (by omega) h3
  obtain ⟨rows, l4, a4, q4, b4, _, e4⟩ := sh_rel (bytes := 96) (fun row r => ((∀ s, RtAt Tryz.prog t_Step t_Need t_int s row r) ∧ RtI r) ∧ row[4]? ≠ some .zsl) (fun row n h => ty_RouteZ h) (by kernel_rfl) (by omega) h4
  refine ⟨c0, c1, c2, c3, c4, ⟨l0, l1, l2, l3, l4, a, b, ho, bu⟩, rfl, fun s => ⟨a0 s, a1 s, a2 s, a3 s, rows, a4 s, q4, fun i row r x y => (b4 i row r x y).1.1 s⟩, ⟨b0, b1, b2, b3, ?_, wf_i64 ha, wf_i64 hb, wf_i64 hho, wf_i64 hbu, e0, e1, e2, e3, e4⟩, ?_⟩
  · intro r hr
    obtain ⟨i, hi⟩ := List.mem_iff_getElem?.1 hr
    have hi : l4[i]? = some r := hi
    have hlt := (List.getElem?_eq_some_iff.1 hi).1
    obtain ⟨row, hrow⟩ := get_of_lt (l := rows) (j := i) (by omega)
    exact (b4 i row r hrow hi).1.2
  · have hr := (a4 noS).rows
    cases c4 <;> first | trivial | skip
    obtain ⟨rfl, _⟩ := hr
    intro row hrow
    obtain ⟨i, hi⟩ := List.mem_iff_getElem?.1 hrow
    have hlt := (List.getElem?_eq_some_iff.1 hi).1
    obtain ⟨r, hr⟩ := get_of_lt (l := l4) (j := i) (by omega)
    exact (b4 i row r hi hr).2
end Go.Proofs.YtdlnbehcnfjneaaGreat
end
section
set_option linter.unusedVariables false
set_option linter.unusedSimpArgs false
namespace Go.Proofs.YtdlnbehcnfjneaaGreat
open Go.Fw Go.Proofs Go.RowKit
variable {σ : Store}
/-- A copy that is handed back as plain data. -/
theorem ref13_Copied_z {k0 k1 k2 k3 k4 k5 : D} {k : Co} (hk : CoAt σ k0 k1 k2 k3 k4 k5 k) (b0 : 8 * k.Own.length ≤ 140737488355328) (b1 : 32 * k.Routes.length ≤ 140737488355328) (b2 : 16 * k.Points.length ≤ 140737488355328)
    (b3 : 16 * k.Xs.length ≤ 140737488355328) (b4 : 64 * k.Lines.length ≤ 140737488355328) (b5 : 8 * k.Resets.length ≤ 140737488355328) : DCalls Tryz.prog n_ref13_Copied [coA k0 k1 k2 k3 k4 k5 k.Dirty] σ (CoZ σ k) := by
  refine (ref13_Copied_ok hk b0 b1 b2 b3 b4 b5).ret ?_
  rintro r s ⟨d0, d1, d2, d3, d4, d5, rfl, hco⟩
  obtain ⟨e0, e1, e2, e3, e4, e5, hfz, hz⟩ := co_frz hco
  exact ⟨.a (coA e0 e1 e2 e3 e4 e5 k.Dirty), σ, .pure hco.own.ext hfz, rfl, _, _, _, _, _, _, rfl, hz⟩
theorem CoFz.fits {d0 d1 d2 d3 d4 d5 k0 k1 k2 k3 k4 k5 : D} {k : Co} (h : CoFz d0 d1 d2 d3 d4 d5 k) (hf : CoFit k0 k1 k2 k3 k4 k5 k) : CoFit d0 d1 d2 d3 d4 d5 k :=
  ⟨h.n0, h.n1, h.n2, h.n3, h.n4, h.n5, hf.b0, hf.b1, hf.b2, hf.b3, hf.b4, hf.b5⟩
theorem CoOwn.ext' {σ0 s s' : Store} {d0 d1 d2 d3 d4 d5 : D} {k : Co} (h : CoOwn σ0 s d0 d1 d2 d3 d4 d5 k) (he : Ext s s') : CoOwn σ0 s' d0 d1 d2 d3 d4 d5 k :=
  ⟨h.own.ext' he, h.routes.ext' he, h.points.ext' he, h.xs.ext' he, h.lines.ext' he, h.resets.ext' he, h.apart⟩
end Go.Proofs.YtdlnbehcnfjneaaGreat
end
section
set_option linter.unusedVariables false
set_option linter.unusedSimpArgs false
namespace Go.Proofs.YtdlnbehcnfjneaaGreat
open Go.Fw Go.Proofs Go.RowKit
variable {σ σ0 : Store}
/-- The station that the laws of the locks write. -/
def litS : Cf := ⟨[⟨0, 0, 0⟩, ⟨1, 0, 0⟩, ⟨0, 0, 0⟩, ⟨0, 0, 0⟩, ⟨0, 0, 1⟩], [⟨0, 1, 1, 0⟩, ⟨1, 1, 2, 0⟩, ⟨1, 2, 3, 0⟩, ⟨2, 1, 4, 0⟩], [⟨0, 1⟩, ⟨2, 1⟩], [], [⟨0, 1, [⟨1, 0, 1⟩, ⟨2, 0, 1⟩], [], [], false⟩, ⟨1, -1, [⟨4, 0, 1⟩], [], [], false⟩], 2, 1, 4, 1000⟩
def sD0 : D := .sl 3 [[iD 0, iD 0, iD 0], [iD 1, iD 0, iD 0], [iD 0, iD 0, iD 0], [iD 0, iD 0, iD 0], [iD 0, iD 0, iD 1]]
def sD1 : D := .sl 4 [[iD 0, iD 1, iD 1, iD 0], [iD 1, iD 1, iD 2, iD 0], [iD 1, iD 2, iD 3, iD 0], [iD 2, iD 1, iD 4, iD 0]]
def sD2 : D := .sl 2 [[iD 0, iD 1], [iD 2, iD 1]]
def sD4 : D := .sl 6 [[iD 0, iD 1, .sl 3 [[iD 1, iD 0, iD 1], [iD 2, iD 0, iD 1]], .nils, .nils, .bool false], [iD 1, iD (-1), .sl 3 [[iD 4, iD 0, iD 1]], .nils, .nils, .bool false]]
theorem litS_at (s : Store) : CfAt s sD0 sD1 sD2 .nils sD4 litS :=
  ⟨at_lit c_Section (by simp), at_lit c_Joint (by simp), at_lit c_Signal (by simp), .nil, ⟨_, at_lit c_Route (by simp), rfl, fun i row r h1 h2 => by
    have hi : i = 0 ∨ i = 1 := by have := (List.getElem?_eq_some_iff.1 h1).1; simp at this; omega
    rcases hi with rfl | rfl
    · simp at h1; subst h1
      simp [litS] at h2; subst h2
      exact ⟨_, _, _, rfl, at_lit c_Step (by simp), .nil, .nil⟩
    · simp at h1; subst h1
      simp [litS] at h2; subst h2
      exact ⟨_, _, _, rfl, at_lit c_Step (by simp), .nil, .nil⟩⟩⟩
theorem litS_nz : RtsNz sD4 := by
  intro row hr
  simp only [List.mem_cons, List.not_mem_nil, or_false] at hr
  rcases hr with rfl | rfl <;> (intro e; cases e)
theorem law13_station_ok : Pure Tryz.prog n_law13_station [] σ (.a (cfA sD0 sD1 sD2 .nils sD4 litS)) := W_law13_station σ _ ⟨rfl, rfl⟩
theorem lockL0 : litS.lockL 0 = [1, 2] := by
  show Cf.lockR ⟨0, 1, [⟨1, 0, 1⟩, ⟨2, 0, 1⟩], [], [], false⟩ = [1, 2]
  rw [← insL_lockR]; decide +kernel
theorem req13_a : (newCo litS 5).requestC litS 5 0 = (newCo litS 5, 22) := by
  have h : (newCo litS 5).reqE litS 0 = 22 := by unfold Co.reqE; rw [lockL0]; decide +kernel
  have hg : (newCo litS 5).gate litS 5 22 = 22 := by decide +kernel
  rw [Co.requestC, h, hg]; rfl
def k13 : Co := { newCo litS 5 with Own := [-1, 0, 0, -1, -1] }
theorem req13_b : k13.requestC litS 5 0 = (k13.lockC litS 5 0, 0) := by
  have h : k13.reqE litS 0 = 0 := by unfold Co.reqE; rw [lockL0]; decide +kernel
  have hg : k13.gate litS 5 0 = 0 := by decide +kernel
  rw [Co.requestC, h, hg]; rfl
theorem req13_o : (k13.lockC litS 5 0).Own = [-1, 1, 1, -1, -1] := by unfold Co.lockC; rw [lockL0]; decide +kernel
theorem req13_r : (k13.lockC litS 5 0).Routes = [⟨1, 0, 0, 0⟩, ⟨0, 0, 0, 0⟩] := by unfold Co.lockC; rw [lockL0]; decide +kernel
theorem req13_p : (k13.lockC litS 5 0).Points[1]? = some ⟨1, 5⟩ := by unfold Co.lockC; rw [lockL0]; decide +kernel
theorem CoOwn.fit {s : Store} {d0 d1 d2 d3 d4 d5 : D} {k : Co} (h : CoOwn σ s d0 d1 d2 d3 d4 d5 k) (hl : k.Own.length ≤ 2 ^ 20 ∧ k.Routes.length ≤ 2 ^ 20 ∧ k.Points.length ≤ 2 ^ 20 ∧ k.Xs.length ≤ 2 ^ 20 ∧ k.Lines.length ≤ 2 ^ 20 ∧ k.Resets.length ≤ 2 ^ 20) : CoFit d0 d1 d2 d3 d4 d5 k :=
  ⟨h.own.nz, h.routes.nz, h.points.nz, h.xs.nz, h.lines.nz, h.resets.nz, by omega, by omega, by omega, by omega, by omega, by omega⟩
theorem law13_lives_ok : Pure Tryz.prog n_law13_lives [] σ (.a (bA true)) := by
  refine .of (W_law13_lives σ _ (law13_station_ok.use ⟨_, _, _, _, _, _, _, _, _, rfl, (locks_New_ok litS_at 5 (by decide) (by decide) (by decide)).mono ?_⟩)) (flat_b _)
  rintro r s ⟨k0, k1, k2, k3, k4, k5, rfl, hk⟩
  refine ⟨_, _, _, _, _, _, _, rfl, ?_⟩
  intro R hR
  refine hk.own.at_.lenK (bcn (fun e => absurd rfl e) (fun _ => law13_station_ok.use ⟨_, _, _, _, _, _, _, _, _, rfl, (locks_Fits_ok litS_at hk.at).use ⟨_, rfl, ?_⟩⟩))
  rw [show (newCo litS 5).fits litS = true from by decide +kernel]
  refine bcnot (fun e => by cases e) (fun _ => ⟨rfl, hR s ?_⟩)
  refine law13_station_ok.use ⟨_, _, _, _, _, _, _, _, _, rfl, (locks_Request_ok litS_at hk.at (hk.fit (by decide)) litS_nz 5 0).mono ?_⟩
  rintro r s1 ⟨a0, a1, a2, a3, a4, a5, rfl, ha⟩
  rw [req13_a] at ha ⊢
  refine ⟨_, _, _, _, _, _, _, _, rfl, ?_⟩
  have hk1 := hk.ext' ha.own.ext
  refine hk1.own.at_.idxK (j := 1) c_int rfl (by decide) (hk1.putO (j := 1) (x := -1) (y := 0) rfl rfl (by simp) rfl fun s2 hk2 _ => hk2.own.at_.idxK (j := 2) c_int rfl (by decide) (hk2.putO (j := 2) (x := -1) (y := 0) rfl rfl (by simp) rfl fun s3 hk3 _ => ?_))
  refine law13_station_ok.use ⟨_, _, _, _, _, _, _, _, _, rfl, (locks_Request_ok (k := k13) litS_at hk3.at (hk3.fit (by decide)) litS_nz 5 0).mono ?_⟩
  rintro r s4 ⟨b0, b1, b2, b3, b4, b5, rfl, hb⟩
  rw [req13_b] at hb ⊢
  refine ⟨_, _, _, _, _, _, _, _, rfl, bce (fun _ => bce (fun _ => ?_) (fun e => absurd rfl e)) (fun e => absurd rfl e)⟩
  have o := hb.own.at_
  have rr := hb.routes.at_
  rw [req13_o] at o
  rw [req13_r] at rr
  refine o.load (j := 1) (row := [iD 1]) rfl c_int rfl ⟨1, rfl, bce (fun _ => rr.load (j := 0) (row := [iD 1, iD 0, iD 0, iD 0]) rfl c_RouteState rfl ⟨1, rfl, bce (fun _ => ?_) (fun e => absurd rfl e)⟩) (fun e => absurd rfl e)⟩
  refine hb.points.at_.load (j := 1) (map_get req13_p) c_Mover rfl ⟨1, 5, rfl, rfl, ?_⟩
  exact hk3.own.ext.trans hb.own.ext
end Go.Proofs.YtdlnbehcnfjneaaGreat
end
section
set_option linter.unusedVariables false
set_option linter.unusedSimpArgs false
namespace Go.Fw
def zLk : Lk := ⟨0, 0, false⟩
def lkG (l : List Lk) (s : Int) : Lk := (geti l s).getD zLk
def mvG (l : List Mv) (s : Int) : Mv := (geti l s).getD ⟨0, 0⟩
def lnG (l : List Ls) (s : Int) : Ls := (geti l s).getD zLs
def rsG (l : List Rs) (s : Int) : Rs := (geti l s).getD ⟨0, 0, 0, 0⟩
def ownG (l : List Int) (s : Int) : Int := (geti l s).getD 0
def Lk.clear (l : Lk) : Bool := l.Valid && decide (l.Value = 0)
def clr (o : List Lk) (l : List Int) : Bool := l.all fun s => (lkG o s).clear
def bnd (n : Int) : Int := min (max n (-1)) 4611686018427387904
def provM (m : Mv) (l : Lk) (age : Int) : Bool := decide (l.Valid = true ∧ m.Cmd ≠ 0 ∧ m.Cmd = l.Value ∧ bnd l.Stamp - bnd m.Other > bnd age)
def Cf.pathS (c : Cf) (r : Int) : List Int := (c.rt r).Path.map St.Sec
def Cf.lineR (c : Cf) (r : Int) : Int := lineF c (c.rt r).Path
def needOk (c : Cf) (k : Co) (v : Vw) (n : Nd) : Bool := decide ((mvG k.Points n.Sec).Cmd = n.Pos) && provM (mvG k.Points n.Sec) (lkG v.Pos n.Sec) c.Age
def crossOk (c : Cf) (k : Co) (v : Vw) (i : Int) : Bool := provM (mvG k.Xs i) (lkG v.Shut i) c.Age
def Co.ownS (c : Cf) (k : Co) (r : Int) : List Int := (c.rt r).Overlap.filter fun s => decide (ownG k.Own s = r + 1)
def lampOk (c : Cf) (k : Co) (v : Vw) (r : Int) : Bool :=
  (lkG v.Lamp (c.rt r).Entry).Valid && (decide ((lkG v.Lamp (c.rt r).Entry).Value = 1) && (decide (c.lineR r = 0) || decide ((lnG k.Lines (c.lineR r)).PGrant = (lnG k.Lines (c.lineR r)).Ask)))
/-- Is the route ready? -/
def Co.ready (c : Cf) (k : Co) (v : Vw) (r : Int) : Bool :=
  clr v.Occ (c.pathS r) && (clr v.Occ (k.ownS c r) && ((c.Needs r).all (needOk c k v) && ((c.Cross r).all (crossOk c k v) && lampOk c k v r)))
/-! facts -/
/-- What a route's turn keeps. -/
structure Turn (c : Cf) (v : Vw) (now : Int) (d : Bool) (k k' : Co) (r : Int) : Prop where
  pts : k'.Points = k.Points
  xs : k'.Xs = k.Xs
  res : k'.Resets = k.Resets
  lOwn : k'.Own.length = k.Own.length
  lRts : k'.Routes.length = k.Routes.length
  rts : ∀ j, j ≠ r → rsG k'.Routes j = rsG k.Routes j
  own : ∀ s, geti k'.Own s = geti k.Own s ∨ (geti k.Own s = some (r + 1) ∧ geti k'.Own s = some 0 ∧ k'.Dirty = true ∧ (rsG k.Routes r).State = 4 ∧ (rsG k.Routes r).Since + c.Hold ≤ now ∧
    ((rsG k'.Routes r).State = 0 ∨ (geti (c.pathS r) (rsG k.Routes r).Next = some s ∧ (lkG v.Occ s).clear = true ∧ (lkG v.Occ s).Stamp > (rsG k.Routes r).Since + c.Hold)))
  ln : ∀ l, (lnG k'.Lines l).PGrant = (lnG k.Lines l).PGrant ∧ (lnG k'.Lines l).Ask = (lnG k.Lines l).Ask
  dirty : k.Dirty = true → k'.Dirty = true
  opn : (rsG k'.Routes r).State = 2 → ((rsG k.Routes r).State = 2 ∨ ((rsG k.Routes r).State = 1 ∧ d = false)) ∧ k.ready c v r = true
/-- What the first n routes' turns keep. -/
structure Turns (c : Cf) (v : Vw) (now : Int) (d : Bool) (k k' : Co) (n : Nat) : Prop where
  pts : k'.Points = k.Points
  xs : k'.Xs = k.Xs
  res : k'.Resets = k.Resets
  lOwn : k'.Own.length = k.Own.length
  lRts : k'.Routes.length = k.Routes.length
  rts : ∀ j : Int, (n : Int) ≤ j → rsG k'.Routes j = rsG k.Routes j
  own : ∀ s, geti k'.Own s = geti k.Own s ∨ ∃ r : Int, 0 ≤ r ∧ r < n ∧ geti k.Own s = some (r + 1) ∧ geti k'.Own s = some 0 ∧ k'.Dirty = true ∧ (rsG k.Routes r).State = 4 ∧ (rsG k.Routes r).Since + c.Hold ≤ now ∧
    ((rsG k'.Routes r).State = 0 ∨ (geti (c.pathS r) (rsG k.Routes r).Next = some s ∧ (lkG v.Occ s).clear = true ∧ (lkG v.Occ s).Stamp > (rsG k.Routes r).Since + c.Hold))
  ln : ∀ l, (lnG k'.Lines l).PGrant = (lnG k.Lines l).PGrant ∧ (lnG k'.Lines l).Ask = (lnG k.Lines l).Ask
  dirty : k.Dirty = true → k'.Dirty = true
  opn : ∀ r : Int, 0 ≤ r → r < n → (rsG k'.Routes r).State = 2 → ((rsG k.Routes r).State = 2 ∨ ((rsG k.Routes r).State = 1 ∧ d = false)) ∧ k.ready c v r = true
end Go.Fw
end
section
set_option linter.unusedVariables false
set_option linter.unusedSimpArgs false
namespace Go.Fw
structure LCall where
  Kind : Int
  Now : Int
  N : Int
  Pos : Int
def LCall.enc (x : LCall) : List D := [iD x.Kind, iD x.Now, iD x.N, iD x.Pos]
def Co.doC (c : Cf) (k : Co) (x : LCall) : Co × Int :=
  if x.Kind = 1 then k.requestC c x.Now x.N else if x.Kind = 2 then k.cancelC c x.Now x.N else if x.Kind = 3 then k.restoreC c x.N
  else if x.Kind = 4 then k.releaseC c x.Now x.N else if x.Kind = 5 then k.resetC c x.Now x.N else k.throwC c x.Now x.N x.Pos
/-- What a call keeps. -/
structure DoIs (c : Cf) (k : Co) (x : LCall) (p : Co × Int) : Prop where
  fits : p.1.fits c = true
  no : p.2 ≠ 0 → p.1 = k
  rng : p.2 = 0 → x.Kind = 1 → 0 ≤ x.N ∧ x.N < c.Rts.length
  req : p.2 = 0 → x.Kind = 1 → ∀ s ∈ c.lockL x.N, ownG p.1.Own s = x.N + 1 ∧ (ownG k.Own s = 0 ∨ k.inh c x.N s = true)
  own : ∀ s : Nat, p.1.Own[s]? ≠ k.Own[s]? → p.2 = 0 ∧ x.Kind = 1 ∧ p.1.Own[s]? = some (x.N + 1)
theorem done_is {c : Cf} {k y : Co} {x : LCall} {e : Int} (h : k.fits c = true) (hk : x.Kind ≠ 1) (ho : y.Own = k.Own) (hf : e = 0 → y.fits c = true) : DoIs c k x (k.done e y) := by
  unfold Co.done
  by_cases h0 : e = 0
  · rw [if_pos h0]
    exact ⟨hf h0, fun h => absurd h0 h, fun _ h => absurd h hk, fun _ h => absurd h hk, fun s hs => absurd (by simp only [ho]) hs⟩
  · rw [if_neg h0]
    exact ⟨h, fun _ => rfl, fun h => absurd h h0, fun h => absurd h h0, fun s hs => absurd rfl hs⟩
theorem lead_is {c : Cf} {k : Co} {x : LCall} {r to now : Int} {fr : List Int} (h : k.fits c = true) (hk : x.Kind ≠ 1) (ht : 0 ≤ to ∧ to ≤ 5) : DoIs c k x (k.leadC c r to now fr) :=
  done_is h hk (by unfold Co.leadY; split <;> rfl) fun e => by
    obtain ⟨h1, h2, h3⟩ := gate_zero e
    exact lead_fits h1 h2 ht h3
theorem lockL_nat {c : Cf} (hok : c.check = 0) {r : Int} : ∀ s ∈ c.lockL r, ∃ y, geti c.Secs s = some y := by
  intro s hs
  unfold Cf.lockL at hs
  cases hg : geti c.Rts r with
  | none => rw [hg] at hs; simp at hs
  | some y => rw [hg] at hs; exact lockR_sec (check_rt hok (geti_mem hg)) hs
theorem request_is {c : Cf} {k : Co} {x : LCall} (h : k.fits c = true) (hk : x.Kind = 1) : DoIs c k x (k.requestC c x.Now x.N) := by
  unfold Co.requestC Co.done
  by_cases h0 : k.gate c x.Now (k.reqE c x.N) = 0
  · rw [if_pos h0]
    obtain ⟨h1, h2, h3⟩ := gate_zero h0
    have hfi := fits_iff.1 h1
    obtain ⟨⟨z, hz, hs⟩, q2, q3, q4⟩ := req_zero h3
    have hzg := geti_some hz
    have hsec := lockL_nat hfi.chk (r := x.N)
    have hget : ∀ s : Nat, s < k.Own.length → (k.lockC c x.Now x.N).Own[s]? = if (s : Int) ∈ c.lockL x.N then some (x.N + 1) else k.Own[s]? := fun s hs =>
      ownC_get _ _ (fun y hy => by obtain ⟨w, hw⟩ := hsec y hy; exact (geti_some hw).1) hs
    refine ⟨lock_fits h1 h2 h3, fun h => absurd h0 h, fun _ _ => ⟨hzg.1, by have := hfi.lRts; omega⟩, fun _ _ s hs => ?_, fun s hs => ?_⟩
    · obtain ⟨w, hw⟩ := hsec s hs
      have hwg := geti_some hw
      have e := hget s.toNat (by have := hfi.lOwn; omega)
      rw [Int.toNat_of_nonneg hwg.1, if_pos hs] at e
      refine ⟨by unfold ownG geti; rw [if_neg (by omega)]; show ((k.lockC c x.Now x.N).Own[s.toNat]?).getD 0 = _; rw [e]; rfl, ?_⟩
      have q3 := q3
      unfold Co.blocked at q3
      rw [List.any_eq_false] at q3
      have q3 := q3 s hs
      unfold ownG
      by_cases e0 : (geti k.Own s).getD 0 = 0
      · exact .inl e0
      · right; simpa [e0] using q3
    · by_cases hl : s < k.Own.length
      · have e := hget s hl
        show _ ∧ _ ∧ (k.lockC c x.Now x.N).Own[s]? = _
        by_cases hm : (s : Int) ∈ c.lockL x.N
        · rw [if_pos hm] at e; exact ⟨h0, hk, e⟩
        · rw [if_neg hm] at e; exact absurd e hs
      · have : (k.lockC c x.Now x.N).Own.length = k.Own.length := ownC_len _ _ _
        exact absurd (by show (k.lockC c x.Now x.N).Own[s]? = k.Own[s]?; rw [List.getElem?_eq_none (by omega), List.getElem?_eq_none (by omega)]) hs
  · rw [if_neg h0]
    exact ⟨h, fun _ => rfl, fun h => absurd h h0, fun h => absurd h h0, fun s hs => absurd rfl hs⟩
theorem do_is {c : Cf} {k : Co} {x : LCall} (h : k.fits c = true) : DoIs c k x (k.doC c x) := by
  unfold Co.doC
  split
  · exact request_is h ‹_›
  rename_i hk
  split
  · exact lead_is h hk (by omega)
  split
  · exact lead_is h hk (by omega)
  split
  · exact lead_is h hk (by omega)
  split
  · exact done_is h hk rfl fun e => by
      obtain ⟨h1, h2, h3⟩ := gate_zero e
      exact reset_fits h1 h2
  · exact done_is h hk rfl fun e => by
      obtain ⟨h1, h2, h3⟩ := gate_zero e
      exact throw_fits h1 h2 h3
end Go.Fw
end
section
set_option linter.unusedVariables false
set_option linter.unusedSimpArgs false
namespace Go.Proofs.YtdlnbehcnfjneaaGreat
open Go.Fw Go.Proofs Go.RowKit
variable {σ σ0 : Store}
theorem spoil_ownA {σ0 : Store} {d0 d1 d2 d3 d4 d5 : D} {k : Co} (h : CoOwn σ0 σ d0 d1 d2 d3 d4 d5 k) {T : Prop} (hT : T) {X : Store → Prop} (hX : ∀ (k' : Co) (s : Store), CoOwn σ0 s d0 d1 d2 d3 d4 d5 k' → X s) :
    ∃ len : Nat, Len d0 len ∧ ∃ I : Int → Store → Prop, ∃ μ : Int → Store → Nat, I 0 σ ∧ ∀ n : Int, ∀ σ8 : Store, I n σ8 → bcase (decide (n < (len : Int))) (∃ len1 : Nat, Idx Tryz.prog σ8 d0 1 len1 ∧ (0 : Int) ≤ n ∧ n < (len1 : Int) ∧ storeEl [iD (-9)] σ8 d0 (Int.toNat n) 0 (fun σ9 => T ∧ I (w64 (n + 1)) σ9 ∧ μ (w64 (n + 1)) σ9 < μ n σ8)) (X σ8) := by
  have hs := h.own.at_.size
  rw [List.length_map] at hs
  refine h.own.at_.lenK ⟨fun n s => ∃ (j : Nat) (k' : Co), n = j ∧ j ≤ k.Own.length ∧ CoOwn σ0 s d0 d1 d2 d3 d4 d5 k' ∧ k'.Own.length = k.Own.length, fun n _ => k.Own.length - n.toNat, ⟨0, k, rfl, by omega, h, rfl⟩, ?_⟩
  rintro _ s ⟨j, k', rfl, hj, h', hl⟩
  rw [List.length_map]
  refine bcd (fun hlt => ?_) (fun _ => hX k' s h')
  have hlt : j < k.Own.length := by omega
  obtain ⟨o, ho⟩ := get_of_lt (l := k'.Own) (j := j) (by omega)
  refine h'.own.at_.idxK (j := j) c_int rfl (by rw [List.length_map]; omega) (h'.putO ho (by omega) (by simp) (y := -9) rfl fun s' h2 _ => ⟨hT, ?_⟩)
  rw [w64_succ (by omega)]
  exact ⟨⟨j + 1, _, rfl, by omega, h2, by simpa using hl⟩, dec_lt hlt⟩
theorem spoil_routes {σ0 : Store} {d0 d1 d2 d3 d4 d5 : D} {k : Co} (h : CoOwn σ0 σ d0 d1 d2 d3 d4 d5 k) {T : Prop} (hT : T) {X : Store → Prop} (hX : ∀ (k' : Co) (s : Store), CoOwn σ0 s d0 d1 d2 d3 d4 d5 k' → X s) :
    ∃ len : Nat, Len d1 len ∧ ∃ I : Int → Store → Prop, ∃ μ : Int → Store → Nat, I 0 σ ∧ ∀ n : Int, ∀ σ8 : Store, I n σ8 → bcase (decide (n < (len : Int))) (∃ len1 : Nat, Idx Tryz.prog σ8 d1 4 len1 ∧ (0 : Int) ≤ n ∧ n < (len1 : Int) ∧ storeEl [iD (-9)] σ8 d1 (Int.toNat n) 0 (fun σ9 => T ∧ I (w64 (n + 1)) σ9 ∧ μ (w64 (n + 1)) σ9 < μ n σ8)) (X σ8) := by
  have hs := h.routes.at_.size
  rw [List.length_map] at hs
  refine h.routes.at_.lenK ⟨fun n s => ∃ (j : Nat) (k' : Co), n = j ∧ j ≤ k.Routes.length ∧ CoOwn σ0 s d0 d1 d2 d3 d4 d5 k' ∧ k'.Routes.length = k.Routes.length, fun n _ => k.Routes.length - n.toNat, ⟨0, k, rfl, by omega, h, rfl⟩, ?_⟩
  rintro _ s ⟨j, k', rfl, hj, h', hl⟩
  rw [List.length_map]
  refine bcd (fun hlt => ?_) (fun _ => hX k' s h')
  have hlt : j < k.Routes.length := by omega
  obtain ⟨o, ho⟩ := get_of_lt (l := k'.Routes) (j := j) (by omega)
  refine h'.routes.at_.idxK (j := j) c_RouteState rfl (by rw [List.length_map]; omega) (h'.putR ho (by omega) (by simp) (y := { o with State := -9 }) rfl fun s' h2 _ => ⟨hT, ?_⟩)
  rw [w64_succ (by omega)]
  exact ⟨⟨j + 1, _, rfl, by omega, h2, by simpa using hl⟩, dec_lt hlt⟩
theorem spoil_points {σ0 : Store} {d0 d1 d2 d3 d4 d5 : D} {k : Co} (h : CoOwn σ0 σ d0 d1 d2 d3 d4 d5 k) {T : Prop} (hT : T) {X : Store → Prop} (hX : ∀ (k' : Co) (s : Store), CoOwn σ0 s d0 d1 d2 d3 d4 d5 k' → X s) :
    ∃ len : Nat, Len d2 len ∧ ∃ I : Int → Store → Prop, ∃ μ : Int → Store → Nat, I 0 σ ∧ ∀ n : Int, ∀ σ8 : Store, I n σ8 → bcase (decide (n < (len : Int))) (∃ len1 : Nat, Idx Tryz.prog σ8 d2 2 len1 ∧ (0 : Int) ≤ n ∧ n < (len1 : Int) ∧ storeEl [iD (-9)] σ8 d2 (Int.toNat n) 0 (fun σ9 => T ∧ I (w64 (n + 1)) σ9 ∧ μ (w64 (n + 1)) σ9 < μ n σ8)) (X σ8) := by
  have hs := h.points.at_.size
  rw [List.length_map] at hs
  refine h.points.at_.lenK ⟨fun n s => ∃ (j : Nat) (k' : Co), n = j ∧ j ≤ k.Points.length ∧ CoOwn σ0 s d0 d1 d2 d3 d4 d5 k' ∧ k'.Points.length = k.Points.length, fun n _ => k.Points.length - n.toNat, ⟨0, k, rfl, by omega, h, rfl⟩, ?_⟩
  rintro _ s ⟨j, k', rfl, hj, h', hl⟩
  rw [List.length_map]
  refine bcd (fun hlt => ?_) (fun _ => hX k' s h')
  have hlt : j < k.Points.length := by omega
  obtain ⟨o, ho⟩ := get_of_lt (l := k'.Points) (j := j) (by omega)
  refine h'.points.at_.idxK (j := j) c_Mover rfl (by rw [List.length_map]; omega) (h'.putP ho (by omega) (by simp) (y := { o with Cmd := -9 }) rfl fun s' h2 _ => ⟨hT, ?_⟩)
  rw [w64_succ (by omega)]
  exact ⟨⟨j + 1, _, rfl, by omega, h2, by simpa using hl⟩, dec_lt hlt⟩
theorem spoil_xs {σ0 : Store} {d0 d1 d2 d3 d4 d5 : D} {k : Co} (h : CoOwn σ0 σ d0 d1 d2 d3 d4 d5 k) {T : Prop} (hT : T) {X : Store → Prop} (hX : ∀ (k' : Co) (s : Store), CoOwn σ0 s d0 d1 d2 d3 d4 d5 k' → X s) :
    ∃ len : Nat, Len d3 len ∧ ∃ I : Int → Store → Prop, ∃ μ : Int → Store → Nat, I 0 σ ∧ ∀ n : Int, ∀ σ8 : Store, I n σ8 → bcase (decide (n < (len : Int))) (∃ len1 : Nat, Idx Tryz.prog σ8 d3 2 len1 ∧ (0 : Int) ≤ n ∧ n < (len1 : Int) ∧ storeEl [iD (-9)] σ8 d3 (Int.toNat n) 0 (fun σ9 => T ∧ I (w64 (n + 1)) σ9 ∧ μ (w64 (n + 1)) σ9 < μ n σ8)) (X σ8) := by
  have hs := h.xs.at_.size
  rw [List.length_map] at hs
  refine h.xs.at_.lenK ⟨fun n s => ∃ (j : Nat) (k' : Co), n = j ∧ j ≤ k.Xs.length ∧ CoOwn σ0 s d0 d1 d2 d3 d4 d5 k' ∧ k'.Xs.length = k.Xs.length, fun n _ => k.Xs.length - n.toNat, ⟨0, k, rfl, by omega, h, rfl⟩, ?_⟩
  rintro _ s ⟨j, k', rfl, hj, h', hl⟩
  rw [List.length_map]
  refine bcd (fun hlt => ?_) (fun _ => hX k' s h')
  have hlt : j < k.Xs.length := by omega
  obtain ⟨o, ho⟩ := get_of_lt (l := k'.Xs) (j := j) (by omega)
  refine h'.xs.at_.idxK (j := j) c_Mover rfl (by rw [List.length_map]; omega) (h'.putX ho (by omega) (by simp) (y := { o with Cmd := -9 }) rfl fun s' h2 _ => ⟨hT, ?_⟩)
  rw [w64_succ (by omega)]
  exact ⟨⟨j + 1, _, rfl, by omega, h2, by simpa using hl⟩, dec_lt hlt⟩
theorem spoil_linesA {σ0 : Store} {d0 d1 d2 d3 d4 d5 : D} {k : Co} (h : CoOwn σ0 σ d0 d1 d2 d3 d4 d5 k) {T : Prop} (hT : T) {X : Store → Prop} (hX : ∀ (k' : Co) (s : Store), CoOwn σ0 s d0 d1 d2 d3 d4 d5 k' → X s) :
    ∃ len : Nat, Len d4 len ∧ ∃ I : Int → Store → Prop, ∃ μ : Int → Store → Nat, I 0 σ ∧ ∀ n : Int, ∀ σ8 : Store, I n σ8 → bcase (decide (n < (len : Int))) (∃ len1 : Nat, Idx Tryz.prog σ8 d4 8 len1 ∧ (0 : Int) ≤ n ∧ n < (len1 : Int) ∧ storeEl [iD (-9)] σ8 d4 (Int.toNat n) 0 (fun σ9 => T ∧ I (w64 (n + 1)) σ9 ∧ μ (w64 (n + 1)) σ9 < μ n σ8)) (X σ8) := by
  have hs := h.lines.at_.size
  rw [List.length_map] at hs
  refine h.lines.at_.lenK ⟨fun n s => ∃ (j : Nat) (k' : Co), n = j ∧ j ≤ k.Lines.length ∧ CoOwn σ0 s d0 d1 d2 d3 d4 d5 k' ∧ k'.Lines.length = k.Lines.length, fun n _ => k.Lines.length - n.toNat, ⟨0, k, rfl, by omega, h, rfl⟩, ?_⟩
  rintro _ s ⟨j, k', rfl, hj, h', hl⟩
  rw [List.length_map]
  refine bcd (fun hlt => ?_) (fun _ => hX k' s h')
  have hlt : j < k.Lines.length := by omega
  obtain ⟨o, ho⟩ := get_of_lt (l := k'.Lines) (j := j) (by omega)
  refine h'.lines.at_.idxK (j := j) c_LineState rfl (by rw [List.length_map]; omega) (h'.putL ho (by omega) (by simp) (y := { o with Ask := -9 }) rfl fun s' h2 _ => ⟨hT, ?_⟩)
  rw [w64_succ (by omega)]
  exact ⟨⟨j + 1, _, rfl, by omega, h2, by simpa using hl⟩, dec_lt hlt⟩
theorem spoil_resets {σ0 : Store} {d0 d1 d2 d3 d4 d5 : D} {k : Co} (h : CoOwn σ0 σ d0 d1 d2 d3 d4 d5 k) {T : Prop} (hT : T) {X : Store → Prop} (hX : ∀ (k' : Co) (s : Store), CoOwn σ0 s d0 d1 d2 d3 d4 d5 k' → X s) :
    ∃ len : Nat, Len d5 len ∧ ∃ I : Int → Store → Prop, ∃ μ : Int → Store → Nat, I 0 σ ∧ ∀ n : Int, ∀ σ8 : Store, I n σ8 → bcase (decide (n < (len : Int))) (∃ len1 : Nat, Idx Tryz.prog σ8 d5 1 len1 ∧ (0 : Int) ≤ n ∧ n < (len1 : Int) ∧ storeEl [iD (-9)] σ8 d5 (Int.toNat n) 0 (fun σ9 => T ∧ I (w64 (n + 1)) σ9 ∧ μ (w64 (n + 1)) σ9 < μ n σ8)) (X σ8) := by
  have hs := h.resets.at_.size
  rw [List.length_map] at hs
  refine h.resets.at_.lenK ⟨fun n s => ∃ (j : Nat) (k' : Co), n = j ∧ j ≤ k.Resets.length ∧ CoOwn σ0 s d0 d1 d2 d3 d4 d5 k' ∧ k'.Resets.length = k.Resets.length, fun n _ => k.Resets.length - n.toNat, ⟨0, k, rfl, by omega, h, rfl⟩, ?_⟩
  rintro _ s ⟨j, k', rfl, hj, h', hl⟩
  rw [List.length_map]
  refine bcd (fun hlt => ?_) (fun _ => hX k' s h')
  have hlt : j < k.Resets.length := by omega
  obtain ⟨o, ho⟩ := get_of_lt (l := k'.Resets) (j := j) (by omega)
  refine h'.resets.at_.idxK (j := j) c_int rfl (by rw [List.length_map]; omega) (h'.putZ ho (by omega) (by simp) (y := -9) rfl fun s' h2 _ => ⟨hT, ?_⟩)
  rw [w64_succ (by omega)]
  exact ⟨⟨j + 1, _, rfl, by omega, h2, by simpa using hl⟩, dec_lt hlt⟩
theorem law13_do_ok {c0 c1 c2 c3 c4 k0 k1 k2 k3 k4 k5 : D} {c : Cf} (hc : ∀ s, CfAt s c0 c1 c2 c3 c4 c) {k : Co} (h : CoAt σ k0 k1 k2 k3 k4 k5 k) (hf : CoFit k0 k1 k2 k3 k4 k5 k) (hz : RtsNz c4) (x : LCall) :
    DCalls Tryz.prog n_law13_do [cfA c0 c1 c2 c3 c4 c, coA k0 k1 k2 k3 k4 k5 k.Dirty, .agg x.enc] σ (CoPost σ (k.doC c x)) := by
  obtain ⟨p, hD⟩ : ∃ p, p = k.doC c x := ⟨_, rfl⟩
  rw [← hD]
  unfold Co.doC at hD
  refine W_law13_do _ _ _ _ _ _ _ _ _ k0 k1 k2 k3 k4 k5 k.Dirty x.Kind x.Now x.N x.Pos σ _ ?_
  refine bce (fun e => ?_) (fun e1 => ?_)
  · rw [if_pos e] at hD; subst hD; exact (locks_Request_ok hc h hf hz x.Now x.N).mono fun q s hp => hp.pass hp
  rw [if_neg e1] at hD
  refine bce (fun e => ?_) (fun e2 => ?_)
  · rw [if_pos e] at hD; subst hD; exact (locks_Cancel_ok hc h hf x.Now x.N).mono fun q s hp => hp.pass hp
  rw [if_neg e2] at hD
  refine bce (fun e => ?_) (fun e3 => ?_)
  · rw [if_pos e] at hD; subst hD; exact (locks_Restore_ok hc h hf x.N).mono fun q s hp => hp.pass hp
  rw [if_neg e3] at hD
  refine bce (fun e => ?_) (fun e4 => ?_)
  · rw [if_pos e] at hD; subst hD; exact (locks_Release_ok hc h hf x.Now x.N).mono fun q s hp => hp.pass hp
  rw [if_neg e4] at hD
  refine bce (fun e => ?_) (fun e5 => ?_)
  · rw [if_pos e] at hD; subst hD; exact (locks_Reset_ok hc h hf x.Now x.N).mono fun q s hp => hp.pass hp
  rw [if_neg e5] at hD
  subst hD; exact (locks_Throw_ok hc h hf x.Now x.N x.Pos).mono fun q s hp => hp.pass hp
theorem law13_model_ok {c0 c1 c2 c3 c4 k0 k1 k2 k3 k4 k5 : D} {c : Cf} (hc : ∀ s, CfAt s c0 c1 c2 c3 c4 c) {k : Co} (hk : CoFz k0 k1 k2 k3 k4 k5 k) (x : LCall) :
    DCalls Tryz.prog n_law13_model [cfA c0 c1 c2 c3 c4 c, coA k0 k1 k2 k3 k4 k5 k.Dirty, .agg x.enc] σ (CoPostZ σ (k.doC c x)) := by
  obtain ⟨p, hD⟩ : ∃ p, p = k.doC c x := ⟨_, rfl⟩
  rw [← hD]
  unfold Co.doC at hD
  refine W_law13_model _ _ _ _ _ _ _ _ _ k0 k1 k2 k3 k4 k5 k.Dirty x.Kind x.Now x.N x.Pos σ _ ?_
  refine bce (fun e => ?_) (fun e1 => ?_)
  · rw [if_pos e] at hD; subst hD; exact (postK_frz (ref13_Request_ok hc hk x.Now x.N)).mono fun q s hp => hp.pass hp
  rw [if_neg e1] at hD
  refine bce (fun e => ?_) (fun e2 => ?_)
  · rw [if_pos e] at hD; subst hD; exact (ref13_Cancel_ok hc hk x.Now x.N).mono fun q s hp => hp.pass hp
  rw [if_neg e2] at hD
  refine bce (fun e => ?_) (fun e3 => ?_)
  · rw [if_pos e] at hD; subst hD; exact (ref13_Restore_ok hc hk x.N).mono fun q s hp => hp.pass hp
  rw [if_neg e3] at hD
  refine bce (fun e => ?_) (fun e4 => ?_)
  · rw [if_pos e] at hD; subst hD; exact (ref13_Release_ok hc hk x.Now x.N).mono fun q s hp => hp.pass hp
  rw [if_neg e4] at hD
  refine bce (fun e => ?_) (fun e5 => ?_)
  · rw [if_pos e] at hD; subst hD; exact (postK_frz (ref13_Reset_ok hc hk x.Now x.N)).mono fun q s hp => hp.pass hp
  rw [if_neg e5] at hD
  subst hD; exact (postK_frz (ref13_Throw_ok hc hk x.Now x.N x.Pos)).mono fun q s hp => hp.pass hp
theorem law13_LocksCalls_ok {xs : List A} (h : TyAs Tryz.prog [t_Config, t_Core, t_law13_Call] xs) : LawTrue n_law13_LocksCalls xs := by
  obtain ⟨a0, xs, rfl, h0, hr0⟩ := tys_cons h
  obtain ⟨a1, xs, rfl, h1, hr1⟩ := tys_cons hr0
  obtain ⟨a2, xs, rfl, h2, hr2⟩ := tys_cons hr1
  obtain rfl := tys_nil hr2
  obtain ⟨cs, _, rfl, p0⟩ := tya_agg h0 (by kernel_rfl)
  obtain ⟨c0, c1, c2, c3, c4, c, rfl, hc, hci, hz⟩ := ty_ConfigZ p0
  obtain ⟨cs, _, rfl, p1⟩ := tya_agg h1 (by kernel_rfl)
  obtain ⟨k0, k1, k2, k3, k4, k5, k, rfl, hk, hf, hki⟩ := ty_Core p1
  obtain ⟨cs, _, rfl, p2⟩ := tya_agg h2 (by kernel_rfl)
  obtain ⟨x0, x1, x2, x3, rfl, _⟩ := ty_i4 p2 (by kernel_rfl)
  clear h h0 h1 h2 hr0 hr1 hr2 p0 p1 p2
  refine W_law13_LocksCalls _ _ _ _ _ _ _ _ _ k0 k1 k2 k3 k4 k5 k.Dirty x0 x1 x2 x3 noS _ ?_
  intro R hR
  refine law13_lives_ok.use ⟨true, rfl, bcnot (fun e => by cases e) (fun _ => (locks_Fits_ok hc (hk.at_ noS)).use ⟨_, rfl, (ref13_Fits_ok hc (hk.at_ noS) k.Dirty).use ⟨_, rfl, bcnot (fun e => by simp at e) (fun _ => hR noS ?_)⟩⟩)⟩
  refine (ref13_Copied_z (hk.at_ noS) hf.b0 hf.b1 hf.b2 hf.b3 hf.b4 hf.b5).mono ?_
  rintro r s ⟨rfl, d0, d1, d2, d3, d4, d5, rfl, hd⟩
  refine ⟨_, _, _, _, _, _, _, rfl, (law13_do_ok hc (hd.at_ _) (hd.fits hf) hz ⟨x0, x1, x2, x3⟩).mono ?_⟩
  rintro r s1 ⟨e0, e1, e2, e3, e4, e5, rfl, ha⟩
  refine ⟨_, _, _, _, _, _, _, _, rfl, (law13_model_ok hc hk ⟨x0, x1, x2, x3⟩).mono ?_⟩
  rintro r s2 ⟨rfl, f0, f1, f2, f3, f4, f5, rfl, hb⟩
  refine ⟨_, _, _, _, _, _, _, _, rfl, ?_⟩
  intro R1 hR1
  refine bcn (fun e => absurd rfl e) (fun _ => (ref13_Same_ok ha.at (hb.at_ _)).use ⟨_, rfl, bcnot (fun e => absurd rfl (of_decide_eq_false e)) (fun _ => (ref13_Same_ok (hd.at_ _) (hk.at_ _)).use ⟨_, rfl, bcnot (fun e => absurd rfl (of_decide_eq_false e)) (fun _ => ⟨rfl, hR1 _ ?_⟩)⟩)⟩)
  refine spoil_ownA ha (by rfl) fun _ _ g0 => spoil_routes g0 (by rfl) fun _ _ g1 => spoil_points g1 (by rfl) fun _ _ g2 => spoil_xs g2 (by rfl) fun _ _ g3 => spoil_linesA g3 (by rfl) fun _ _ g4 => spoil_resets g4 (by rfl) fun _ _ g5 => ?_
  refine (ref13_Same_ok (hd.at_ _) (hk.at_ _)).use ⟨_, rfl, ?_⟩
  rw [decide_eq_true rfl]
end Go.Proofs.YtdlnbehcnfjneaaGreat
end
section
set_option linter.unusedVariables false
set_option linter.unusedSimpArgs false
namespace Go.Fw
theorem rsG_get {l : List Rs} {r : Int} (hr : 0 ≤ r) (hl : r < l.length) : l[r.toNat]? = some (rsG l r) := by
  unfold rsG geti; rw [if_neg (by omega), List.getElem?_eq_getElem (show r.toNat < l.length by omega)]; rfl
theorem rt_at {c : Cf} {r : Int} {q : Rt} (hr : 0 ≤ r) (h : c.Rts[r.toNat]? = some q) : c.rt r = q := by
  unfold Cf.rt geti; rw [if_neg (by omega), h]; rfl
theorem FitIs.rs {c : Cf} {k : Co} {r : Int} {x : Rs} (h : FitIs c k) (hr : 0 ≤ r) (hx : ∀ q, c.Rts[r.toNat]? = some q → Rs.fits (rsG k.Routes r, q) = true → Rs.fits (x, q) = true) :
    ∀ (i : Nat) z q, (k.Routes.set r.toNat x)[i]? = some z → c.Rts[i]? = some q → Rs.fits (z, q) = true := by
  intro i z q hz hq
  rw [List.getElem?_set] at hz
  split at hz
  · rename_i e
    split at hz
    · rename_i hl
      cases hz
      subst e
      exact hx q hq (h.rts r.toNat _ q (rsG_get hr (by omega)) hq)
    · cases hz
  · exact h.rts i z q hz hq
theorem own_set {c : Cf} {k : Co} (h : FitIs c k) (s : Nat) : ∀ o ∈ k.Own.set s 0, -2 ≤ o ∧ o ≤ c.Rts.length := fun o ho => by
  rcases List.mem_or_eq_of_mem_set ho with ho | rfl
  · exact h.own o ho
  · omega
/-- What resets keep. -/
structure Rst (v : Vw) (k k' : Co) (n : Nat) : Prop where
  pts : k'.Points = k.Points
  xs : k'.Xs = k.Xs
  ln : k'.Lines = k.Lines
  rts : k'.Routes = k.Routes
  lOwn : k'.Own.length = k.Own.length
  lRes : k'.Resets.length = k.Resets.length
  res : ∀ j : Int, (n : Int) ≤ j → geti k'.Resets j = geti k.Resets j
  ownL : ∀ j : Int, (n : Int) ≤ j → geti k'.Own j = geti k.Own j
  own : ∀ s, geti k'.Own s = geti k.Own s ∨ (geti k.Own s = some (-1) ∧ geti k'.Own s = some 0 ∧ k'.Dirty = true ∧ 0 < ownG k.Resets s ∧ (lkG v.Occ s).clear = true ∧ ownG k.Resets s ≤ (lkG v.Occ s).Stamp)
  dirty : k.Dirty = true → k'.Dirty = true
/-! signals -/
theorem FitIs.entry {c : Cf} {k : Co} (h : FitIs c k) : ∀ j : Nat, j < c.Rts.length → ∃ a, geti c.Sigs (c.rt j).Entry = some a := fun j hj => by
  obtain ⟨x, hx⟩ := get_of_lt hj
  have := (check_rt h.chk (List.mem_of_getElem? hx)).entry
  rw [rt_at (r := (j : Int)) (by omega) (by rw [Int.toNat_natCast]; exact hx)]
  exact this
/-! all seen at its worst -/
/-! no route is locked, no reset due -/
end Go.Fw
end
section
set_option linter.unusedVariables false
set_option linter.unusedSimpArgs false
namespace Go.Proofs.YtdlnbehcnfjneaaGreat
open Go.Fw Go.Proofs Go.RowKit
variable {σ σ0 : Store}
theorem law13_do_z {c0 c1 c2 c3 c4 k0 k1 k2 k3 k4 k5 : D} {c : Cf} (hc : ∀ s, CfAt s c0 c1 c2 c3 c4 c) {k : Co} (h : CoAt σ k0 k1 k2 k3 k4 k5 k) (hf : CoFit k0 k1 k2 k3 k4 k5 k) (hz : RtsNz c4) (x : LCall) :
    DCalls Tryz.prog n_law13_do [cfA c0 c1 c2 c3 c4 c, coA k0 k1 k2 k3 k4 k5 k.Dirty, .agg x.enc] σ (CoPostZ σ (k.doC c x)) :=
  postK_frz ((law13_do_ok hc h hf hz x).mono fun _ _ h => .inl h)
theorem CoFz.fitC {d0 d1 d2 d3 d4 d5 : D} {k : Co} {c : Cf} (h : CoFz d0 d1 d2 d3 d4 d5 k) (hf : k.fits c = true) : CoFit d0 d1 d2 d3 d4 d5 k := by
  have := fits_small' hf
  exact ⟨h.n0, h.n1, h.n2, h.n3, h.n4, h.n5, by omega, by omega, by omega, by omega, by omega, by omega⟩
theorem own_fits {c : Cf} {k : Co} (h : k.fits c = true) (n : Nat) : Co.fits c { k with Own := k.Own.set n 0 } = true := by
  have h0 := fits_iff.1 h
  exact fits_iff.2 ⟨h0.chk, by simp only [List.length_set]; exact h0.lOwn, h0.lPts, h0.lRes, h0.lRts, h0.lXs, h0.lLn, own_set h0 n, h0.rts, h0.pts, h0.xs, h0.lns, h0.res⟩
theorem law13_LocksRows_ok {xs : List A} (h : TyAs Tryz.prog [t_Config, t_sl_int, t_sl_law13_Call] xs) : LawTrue n_law13_LocksRows xs := by
  obtain ⟨a0, xs, rfl, h0, hr0⟩ := tys_cons h
  obtain ⟨a1, xs, rfl, h1, hr1⟩ := tys_cons hr0
  obtain ⟨a2, xs, rfl, h2, hr2⟩ := tys_cons hr1
  obtain rfl := tys_nil hr2
  obtain ⟨cs, _, rfl, p0⟩ := tya_agg h0 (by kernel_rfl)
  obtain ⟨c0, c1, c2, c3, c4, c, rfl, hc, hci, hz⟩ := ty_ConfigZ p0
  obtain ⟨free, rfl, p1⟩ := tya_cell (c := .sl t_int) h1 (by kernel_rfl) (by kernel_rfl)
  obtain ⟨fl, hfree, _, _, hfl⟩ := sh_rows (bytes := 8) Go.Fw.encI _ (fun row n h => ty_i h) (by kernel_rfl) (by omega) p1
  obtain ⟨script, rfl, p2⟩ := tya_cell (c := .sl t_law13_Call) h2 (by kernel_rfl) (by kernel_rfl)
  obtain ⟨sc, hsc, _, _, hscl⟩ := sh_rows (bytes := 32) LCall.enc (fun _ => True) (fun row n h => by obtain ⟨a, b, c, d, rfl, _⟩ := ty_i4 h (by kernel_rfl); exact ⟨⟨a, b, c, d⟩, rfl, trivial⟩) (by kernel_rfl) (by omega) p2
  clear h h0 h1 h2 hr0 hr1 hr2 p0 p1 p2
  refine W_law13_LocksRows _ _ _ _ _ _ _ _ _ free script noS _ (law13_lives_ok.use ⟨true, rfl, bcnot (fun e => by cases e) (fun _ => (ref06_Check_ok hc).use ⟨_, rfl, bcn (fun _ => rfl) (fun hok => ?_)⟩)⟩)
  have hsm := check_small hok
  refine (locks_New_ok hc 0 (by omega) (by omega) (by omega)).mono ?_
  rintro r s0 ⟨d0, d1, d2, d3, d4, d5, rfl, hk0⟩
  refine ⟨_, _, _, _, _, _, _, rfl, (hfree s0).lenK ⟨fun n s => ∃ (j : Nat) (k : Co), n = j ∧ j ≤ fl.length ∧ CoOwn noS s d0 d1 d2 d3 d4 d5 k ∧ k.fits c = true ∧ k.Dirty = true, fun n _ => fl.length - n.toNat, ⟨0, _, rfl, by omega, hk0, new_fits hok (by decide), rfl⟩, ?_⟩⟩
  rintro n s ⟨j, k, rfl, hj, hk, hfit, hdt⟩
  rw [List.length_map]
  refine bcd (fun hlt => ?_) (fun hge => ?_)
  · obtain ⟨v, hv⟩ := get_of_lt (l := fl) (j := j) (by omega)
    have go : ∀ (k' : Co) s', CoOwn noS s' d0 d1 d2 d3 d4 d5 k' → k'.fits c = true → k'.Dirty = true → (∃ (i : Nat) (k : Co), w64 ((j : Int) + 1) = i ∧ i ≤ fl.length ∧ CoOwn noS s' d0 d1 d2 d3 d4 d5 k ∧ k.fits c = true ∧ k.Dirty = true) ∧ fl.length - (w64 ((j : Int) + 1)).toNat < fl.length - ((j : Nat) : Int).toNat := fun k' s' h1 h2 h3 => by
      rw [w64_succ (by omega)]
      exact ⟨⟨j + 1, k', rfl, by omega, h1, h2, h3⟩, dec_lt (by omega)⟩
    refine (hfree s).load (map_get hv) c_int rfl ⟨v, rfl, bcd (fun g0 => hk.own.at_.lenK ?_) (fun _ => ⟨rfl, go k s hk hfit hdt⟩)⟩
    rw [List.length_map]
    refine bcd (fun g1 => ?_) (fun _ => ⟨rfl, go k s hk hfit hdt⟩)
    obtain ⟨o, ho⟩ := get_of_lt (l := k.Own) (j := v.toNat) (by omega)
    exact hk.own.at_.idxK c_int (Int.toNat_of_nonneg g0).symm (by rw [List.length_map]; omega) (hk.putO (y := 0) ho rfl (by simp) rfl fun s2 hk2 _ => ⟨rfl, go _ s2 hk2 (own_fits hfit _) hdt⟩)
  clear hk0
  refine (hsc s).lenK ⟨fun e0 e1 e2 e3 e4 e5 b n s' => s' = s ∧ ∃ (j : Nat) (k : Co), n = j ∧ j ≤ sc.length ∧ CoAt s e0 e1 e2 e3 e4 e5 k ∧ CoFit e0 e1 e2 e3 e4 e5 k ∧ k.fits c = true ∧ b = k.Dirty, fun _ _ _ _ _ _ _ n _ => sc.length - n.toNat,
    ⟨rfl, 0, k, rfl, by omega, hk.at, hk.fit (by have := fits_small' hfit; omega), hfit, hdt.symm⟩, ?_⟩
  clear hk hfit hdt
  rintro e0 e1 e2 e3 e4 e5 b n s' ⟨rfl, j, k, rfl, hj, hk, hkf, hfit, rfl⟩
  rw [List.length_map]
  refine bcd (fun hlt => ?_) (fun hge => rfl)
  obtain ⟨x, hx⟩ := get_of_lt (l := sc) (j := j) (by omega)
  have hD := do_is (x := x) hfit
  refine (hsc s').load (map_get hx) c_law13_Call rfl ⟨x.Kind, x.Now, x.N, x.Pos, rfl, (law13_do_z hc hk hkf hz x).mono ?_⟩
  rintro q s ⟨rfl, f0, f1, f2, f3, f4, f5, rfl, hn⟩
  generalize k.doC c x = p at *
  have hki := fits_iff.1 hfit
  have hni := fits_iff.1 hD.fits
  have hlo := hki.lOwn
  have hln := hni.lOwn
  refine ⟨_, _, _, _, _, _, _, _, rfl, ?_⟩
  intro R hR
  have goR : R s := by
    refine hR s ?_
    intro R1 hR1
    have goR1 : R1 s := by
      refine hR1 s ((hn.at_ s).own.lenK ⟨fun n s' => s' = s ∧ ∃ i : Nat, n = i ∧ i ≤ p.1.Own.length, fun n _ => p.1.Own.length - n.toNat, ⟨rfl, 0, rfl, by omega⟩, ?_⟩)
      rintro n s1 ⟨rfl, i, rfl, hi⟩
      rw [List.length_map]
      refine bcd (fun hil => ?_) (fun _ => ?_)
      · obtain ⟨a, ha⟩ := get_of_lt (l := p.1.Own) (j := i) (by omega)
        obtain ⟨a', ha'⟩ := get_of_lt (l := k.Own) (j := i) (by omega)
        have go : (s1 = s1 ∧ ∃ i' : Nat, w64 ((i : Int) + 1) = i' ∧ i' ≤ p.1.Own.length) ∧ p.1.Own.length - (w64 ((i : Int) + 1)).toNat < p.1.Own.length - ((i : Nat) : Int).toNat := by
          rw [w64_succ (by omega)]; exact ⟨⟨rfl, i + 1, rfl, by omega⟩, dec_lt (by omega)⟩
        refine (hn.at_ s1).own.load (map_get ha) c_int rfl ⟨a, rfl, hk.own.load (map_get ha') c_int rfl ⟨a', rfl, bcn (fun e => ?_) (fun _ => ⟨rfl, go⟩)⟩⟩
        have hO := hD.own i (by rw [ha, ha']; intro e'; injection e' with e'; exact e e')
        have hrng := hD.rng hO.1 hO.2.1
        refine bcn (fun e => absurd hO.2.1 e) (fun _ => (hn.at_ s1).own.load (map_get ha) c_int rfl ⟨a, rfl, bcn (fun e => absurd ?_ e) (fun _ => ⟨rfl, go⟩)⟩)
        have := hO.2.2
        rw [ha] at this; injection this with this
        rw [this, w64_id (by omega) (by omega)]
      · rw [w64_succ (by omega)]
        exact ⟨⟨rfl, j + 1, p.1, rfl, by omega, hn.at_ _, hn.fitC hD.fits, hD.fits, rfl⟩, dec_lt (by omega)⟩
    intro R2 hR2
    refine bce (fun e0 => ⟨rfl, hR2 _ _ (bce (fun e1 => (ref06_Locks_ok hc hok x.N).mono ?_) (fun _ => ⟨rfl, goR1⟩))⟩) (fun _ => ⟨rfl, hR2 _ _ (bc (fun e => by cases e) (fun _ => ⟨rfl, goR1⟩))⟩)
    rintro q s1 ⟨rfl, d, rfl, hl⟩
    have hz1 := (hl s1).size
    rw [List.length_map] at hz1
    have hrng := hD.rng e0 e1
    refine ⟨d, rfl, (hl s1).lenK ⟨fun n s' => s' = s1 ∧ ∃ i : Nat, n = i ∧ i ≤ (c.lockL x.N).length, fun n _ => (c.lockL x.N).length - n.toNat, ⟨rfl, 0, rfl, by omega⟩, ?_⟩⟩
    rintro n s2 ⟨rfl, i, rfl, hi⟩
    rw [List.length_map]
    refine bcd (fun hil => ?_) (fun _ => ⟨rfl, goR1⟩)
    have go : (s2 = s2 ∧ ∃ i' : Nat, w64 ((i : Int) + 1) = i' ∧ i' ≤ (c.lockL x.N).length) ∧ (c.lockL x.N).length - (w64 ((i : Int) + 1)).toNat < (c.lockL x.N).length - ((i : Nat) : Int).toNat := by
      rw [w64_succ (by omega)]; exact ⟨⟨rfl, i + 1, rfl, by omega⟩, dec_lt (by omega)⟩
    obtain ⟨v, hv⟩ := get_of_lt (l := c.lockL x.N) (j := i) (by omega)
    obtain ⟨z, hzs⟩ := lockL_nat hok (r := x.N) v (List.mem_of_getElem? hv)
    have hgz := geti_some hzs
    obtain ⟨o, ho⟩ := geti_ex (l := p.1.Own) (i := v) (by omega) (by omega)
    obtain ⟨o', ho'⟩ := geti_ex (l := k.Own) (i := v) (by omega) (by omega)
    obtain ⟨q1, q2⟩ := hD.req e0 e1 v (List.mem_of_getElem? hv)
    rw [ownG, ho, Option.getD_some] at q1
    rw [ownG, ho', Option.getD_some] at q2
    refine (hl s2).load (map_get hv) c_int rfl ⟨v, rfl, (hn.at_ s2).own.load (map_get (geti_some ho).2.2) c_int (Int.toNat_of_nonneg hgz.1).symm ⟨o, rfl, bcn (fun e => absurd ?_ e) (fun _ => ?_)⟩⟩
    · rw [q1, w64_id (by omega) (by omega)]
    refine hk.own.load (map_get (geti_some ho').2.2) c_int (Int.toNat_of_nonneg hgz.1).symm ⟨o', rfl, bcn (fun e => ?_) (fun _ => ⟨rfl, go⟩)⟩
    refine (ref13_Inherits_ok hc (k := k) (b := k.Dirty) hk.own ho' (hki.own o' (geti_mem ho')) (r := x.N) (by omega)).use ⟨_, rfl, bcnot (fun e2 => ?_) (fun _ => ⟨rfl, go⟩)⟩
    rcases q2 with q2 | q2
    · exact absurd q2 e
    · rw [q2] at e2; cases e2
  refine (locks_Fits_ok hc (hn.at_ s)).use ⟨_, rfl, bcnot (fun e => absurd hD.fits (by rw [e]; decide)) (fun _ => bcn (fun e => (ref13_Same_ok (hn.at_ s) hk).use ⟨_, rfl, bcnot (fun e1 => absurd (hD.no e) (of_decide_eq_false e1)) (fun _ => ⟨rfl, goR⟩)⟩) (fun _ => ⟨rfl, goR⟩))⟩
end Go.Proofs.YtdlnbehcnfjneaaGreat
end
