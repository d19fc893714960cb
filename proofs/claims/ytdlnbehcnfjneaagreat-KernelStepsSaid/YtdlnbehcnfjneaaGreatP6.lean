/-
  Proofs that the statement of this claim leans on: part 6.
-/
import Derived.Test.YtdlnbehcnfjneaaGreatP5
set_option linter.unusedVariables false
set_option linter.unusedSimpArgs false
namespace Go.Proofs.YtdlnbehcnfjneaaGreat
open Go.Fw Go.Proofs Go.RowKit
section
variable {σ σ0 : Store}
def cmdPre (xs : List A) (s : Store) : Prop := ∃ (m : Mv) (now cmd : Int), xs = [.agg m.enc, iA now, iA cmd]
def cmdPost (xs : List A) (s : Store) (r : RV) (s' : Store) : Prop := ∃ (m : Mv) (now cmd : Int), xs = [.agg m.enc, iA now, iA cmd] ∧ r = .a (.agg (cmdM m now cmd).enc) ∧ s' = s
theorem mover_Command_ok (m : Mv) (now cmd : Int) : Pure Tryz.prog n_mover_Command [.agg m.enc, iA now, iA cmd] σ (.a (.agg (cmdM m now cmd).enc)) :=
 W_mover_Command m.Cmd m.Other now cmd σ _ (bcn (fun e => ⟨by rw [cmdM, if_pos e]; rfl, rfl⟩) (fun e => ⟨by rw [cmdM, if_neg (by simpa using e)]; rfl, rfl⟩))
theorem cmd_spec : SpecOk Tryz.prog n_mover_Command cmdPre cmdPost := by
 refine ⟨?_, ?_, ?_, ?_, ?_⟩
 · rintro xs s ⟨m, now, cmd, rfl⟩
   exact (mover_Command_ok m now cmd).use ⟨m, now, cmd, rfl, rfl, rfl⟩
 · rintro xs s ⟨m, now, cmd, rfl⟩ hf
   exact ⟨_, s, ⟨m, now, cmd, rfl, rfl, rfl⟩, hf⟩
 · rintro xs s r s' ⟨m, now, cmd, rfl, rfl, rfl⟩ hf
   exact hf
 · rintro xs s id so hid hso ⟨m, now, cmd, rfl⟩
   refine ⟨⟨m, now, cmd, rfl⟩, ?_⟩
   rintro r s' ⟨m, now, cmd, e, rfl, rfl⟩
   exact ⟨s, ⟨m, now, cmd, e, rfl, rfl⟩, hid, rfl⟩
 · rintro xs s r s' _ ⟨m, now, cmd, rfl, rfl, rfl⟩ i _
   rfl
theorem cmd_post {m : Mv} {now cmd : Int} {s s' : Store} {r : RV} (h : cmdPost [.agg m.enc, iA now, iA cmd] s r s') : r = .a (.agg (cmdM m now cmd).enc) ∧ s' = s := by
 obtain ⟨m', now', cmd', e, h1, h2⟩ := h
 injection e with e1 e2
 injection e2 with e2 e3
 injection e3 with e3 _
 injection e1 with e1
 injection e2 with e2
 injection e3 with e3
 injection e2 with _ e2
 injection e3 with _ e3
 subst e2 e3
 have : m = m' := by
   cases m; cases m'
   simp [Mv.enc, iD] at e1
   simp [e1]
 subst this
 exact ⟨h1, h2⟩
section
variable {c0 c1 c2 c3 c4 : D} {c : Cf} (hc : ∀ s, CfAt s c0 c1 c2 c3 c4 c) {id : Nat} {t : TypeId} {d0 d1 d2 d3 d4 d5 : D} {k : Co}
include hc
theorem desk_line_ok' (hI : CoIn σ0 σ id t (cfC c0 c1 c2 c3 c4 c) [] d0 d1 d2 d3 d4 d5 k) (hok : c.check = 0) (hl4 : k.Lines.length = 4) {r : Int} {x : Rt} (hx : geti c.Rts r = some x) :
   Pure Tryz.prog n_locks_desk_line [.one (.el (.osl id 0 1) 0 0), iA r] σ (.a (.one (if lineF c x.Path > 0 then .el d4 (lineF c x.Path).toNat 0 else .nilp))) := by
 have hr := check_rt hok (geti_mem hx)
 obtain ⟨rows, q1, q2, q3, hat, hlen, hrow, f1, f2, f3⟩ := rt_frz hc (geti_some hx).2.2
 have hg := geti_some hx
 have w1 := hr.len
 refine W_locks_desk_line _ r σ _ ⟨trivial, _, _, _, rfl, _, box_row hI.row, c4, rfl, (hat σ).load hrow c_Route (by omega) ⟨q1, rfl, (f1 σ).lenK ⟨fun n s => s = σ ∧ Rng x.Path (fun q => lineF c q = lineF c x.Path) n, fun n _ => x.Path.length - n.toNat, ⟨rfl, .start rfl⟩, ?_⟩⟩⟩
 rintro n s ⟨rfl, hq⟩
 rw [List.length_map]
 refine bcd (fun hlt => ?_) (fun hge => ?_)
 · obtain ⟨j, y, rfl, hy, hj, hF, nx⟩ := hq.step rfl (by omega) hlt
   obtain ⟨z, hz, _⟩ := (hr.step y (List.mem_of_getElem? hy)).1.sec
   have hgz := geti_some hz
   rw [lineF, hz, Option.getD_some] at hF
   refine (f1 s).load (map_get hy) c_Step rfl ⟨y.Sec, y.In, y.Out, rfl, trivial, _, _, _, rfl, _, box_row hI.row, c0, rfl, (hc s).secs.load (map_get hgz.2.2) c_Section (Int.toNat_of_nonneg hgz.1).symm ⟨z.Line, rfl, bcd (fun e => ?_) (fun e => ?_)⟩⟩
   · rw [if_pos e] at hF
     rw [← hF, if_pos e]
     have hz3 := topo_line (check_parts hok).1 hgz.2.2
     exact ⟨trivial, _, _, _, rfl, _, box_row hI.row, d4, rfl, hI.at.lines.idxK c_LineState (Int.toNat_of_nonneg (by omega)).symm (by rw [List.length_map]; omega) ⟨rfl, rfl⟩⟩
   · rw [if_neg e] at hF
     exact andl rfl (nx _ hF)
 · have hF := hq.done rfl hge
   rw [← hF]; exact ⟨rfl, rfl⟩
theorem desk_request_ok (hI : CoIn σ0 σ id t (cfC c0 c1 c2 c3 c4 c) [] d0 d1 d2 d3 d4 d5 k) (hz : RtsNz c4) (hfit : k.fits c = true) (now r : Int) :
   DCalls Tryz.prog n_locks_desk_request [.one (.el (.osl id 0 1) 0 0), iA now, iA r] σ fun q s' => q = .a (iA (k.reqE c r)) ∧ Ext σ0 s' ∧ (k.reqE c r = 0 → CoIn σ0 s' id t (cfC c0 c1 c2 c3 c4 c) [] d0 d1 d2 d3 d4 d5 (k.lockC c now r)) := by
 have hfi := fits_iff.1 hfit
 have hok := hfi.chk
 have err : ∀ e : Int, k.reqE c r = e → e ≠ 0 → (RV.a (iA e) = RV.a (iA (k.reqE c r)) ∧ Ext σ0 σ ∧ (k.reqE c r = 0 → CoIn σ0 σ id t (cfC c0 c1 c2 c3 c4 c) [] d0 d1 d2 d3 d4 d5 (k.lockC c now r))) := fun e h1 h2 =>
   ⟨by rw [h1], hI.ext, fun h3 => absurd (h1.symm.trans h3) h2⟩
 refine W_locks_desk_request _ now r σ _ ((desk_state_ok hI r).use ?_)
 cases hgr : geti k.Routes r with
 | none => exact ⟨_, _, rfl, err 20 (by rw [Co.reqE, hgr]) (by decide)⟩
 | some x =>
   have hgx := geti_some hgr
   have hsz := hI.at.routes.size
   rw [List.length_map] at hsz
   have hxl := (List.getElem?_eq_some_iff.1 hgx.2.2).1
   have hE : k.reqE c r = if x.State ≠ 0 then 28 else if k.may c r (c.lockL r) ≠ 0 then k.may c r (c.lockL r) else if lineF c (c.rt r).Path > 0 ∧ ((geti k.Lines (lineF c (c.rt r).Path)).getD zLs).Ask ≥ 4294967295 then 5 else 0 := by
     rw [Co.reqE, hgr]
   obtain ⟨y, hy, hym⟩ := rt_of hfi hgr
   have hrok := check_rt hok hym
   have hyl := (List.getElem?_eq_some_iff.1 (geti_some hy).2.2).1
   have hcl : c.Rts.length = k.Routes.length := hfi.lRts.symm
   have hll : c.lockL r = Cf.lockR y := by unfold Cf.lockL; rw [hy]
   have hsec : ∀ s ∈ c.lockL r, ∃ z, geti c.Secs s = some z := fun s hs => lockR_sec hrok (by rw [← hll]; exact hs)
   refine ⟨_, _, rfl, ?_⟩
   show bcase ((0 : Int) != 0) _ _
   rw [show ((0 : Int) != 0) = false from by decide]
   refine ⟨trivial, _, _, _, rfl, _, hI.at.routes.row (map_get hgx.2.2), x.State, rfl, bcn (fun e => err 28 (by rw [hE, if_pos e]) (by decide)) (fun e1 => ?_)⟩
   rw [if_neg (by simpa using e1)] at hE
   refine ⟨trivial, _, _, _, rfl, _, box_row hI.row, c0, c1, c2, c3, c4, _, _, _, _, rfl, (conf_Locks_ok hc hok hz r).mono ?_⟩
   rintro q s ⟨rfl, d7, rfl, h7⟩
   have hin : ∀ v ∈ c.lockL r, ∃ o, geti k.Own v = some o := fun v hv => by
     obtain ⟨z, hz⟩ := hsec v hv
     have hg := geti_some hz
     have := (List.getElem?_eq_some_iff.1 hg.2.2).1
     exact geti_ex (by omega) (by have := hfi.lOwn; omega)
   refine ⟨d7, rfl, (desk_may_ok' hc hI (h7 s) (by omega) hin hfi.own).use ⟨_, rfl, bcn (fun e => err _ (by rw [hE, if_pos e]) e) (fun e2 => ?_)⟩⟩
   rw [if_neg (by simpa using e2), rt_some hy] at hE
   intro R hR
   have body : (lineF c y.Path > 0 → ((geti k.Lines (lineF c y.Path)).getD zLs).Ask < 4294967295) → ∀ s3, CoIn σ0 s3 id t (cfC c0 c1 c2 c3 c4 c) [] d0 d1 d2 d3 d4 d5 { k with Lines := askC (lineF c y.Path) k.Lines } → R s3 := by
     intro hask s3 hI3
     have hE0 : k.reqE c r = 0 := by rw [hE, if_neg (by intro h; have := hask h.1; omega)]
     refine hR s3 ?_
     have hz7 := (h7 s3).size
     rw [List.length_map] at hz7
     refine (h7 s3).lenK ⟨fun n s => ∃ j : Nat, n = j ∧ j ≤ (c.lockL r).length ∧ CoIn σ0 s id t (cfC c0 c1 c2 c3 c4 c) [] d0 d1 d2 d3 d4 d5 { k with Lines := askC (lineF c y.Path) k.Lines, Own := ((c.lockL r).take j).foldl (fun w s => w.set s.toNat (r + 1)) k.Own },
       fun n _ => (c.lockL r).length - n.toNat, ⟨0, rfl, by omega, by simpa using hI3⟩, ?_⟩
     rintro n s4 ⟨j, rfl, hj, hI4⟩
     rw [List.length_map]
     refine bcd (fun hlt => ?_) (fun hge => ?_)
     · obtain ⟨v, hv⟩ := get_of_lt (l := c.lockL r) (j := j) (by omega)
       obtain ⟨o, ho⟩ := hin v (List.mem_of_getElem? hv)
       have hgo := geti_some ho
       have hvl := (List.getElem?_eq_some_iff.1 hgo.2.2).1
       have hlo := ownC_len (r + 1) ((c.lockL r).take j) k.Own
       obtain ⟨o', ho'⟩ := get_of_lt (l := ((c.lockL r).take j).foldl (fun w s => w.set s.toNat (r + 1)) k.Own) (j := v.toNat) (by omega)
       refine (h7 s4).load (map_get hv) c_int rfl ⟨v, rfl, trivial, _, _, _, rfl, _, box_row hI4.row, d0, rfl, hI4.at.own.idxK c_int (Int.toNat_of_nonneg hgo.1).symm (by simp only [List.length_map]; omega) ?_⟩
       rw [w64_id (n := r + 1) (by omega) (by omega)]
       refine hI4.putO (k := { k with Lines := askC (lineF c y.Path) k.Lines, Own := ((c.lockL r).take j).foldl (fun w s => w.set s.toNat (r + 1)) k.Own }) (y := r + 1) ho' rfl (by simp) rfl fun s5 hI5 _ => ?_
       rw [w64_succ (by omega)]
       refine ⟨⟨j + 1, rfl, by omega, ?_⟩, dec_lt (by omega)⟩
       rw [List.take_add_one, hv, List.foldl_append]
       exact hI5
     have e : j = (c.lockL r).length := by omega
     rw [e, List.take_length] at hI4
     have hxr := hgx.2.2
     refine ⟨trivial, _, _, _, rfl, hI4.putR (k := { k with Lines := askC (lineF c y.Path) k.Lines, Own := (c.lockL r).foldl (fun w s => w.set s.toNat (r + 1)) k.Own }) (y := ⟨1, 0, 0, 0⟩) hxr rfl (by simp) rfl fun s5 hI5 _ => ?_⟩
     have hyn : (c.rt r).Path.length ≤ 2 ^ 20 := by rw [rt_some hy]; have := hrok.len; omega
     have hyf : (c.rt r).Flank.length ≤ 2 ^ 20 := by rw [rt_some hy]; have := hrok.flen; omega
     refine ⟨trivial, _, _, _, rfl, _, box_row hI5.row, c0, c1, c2, c3, c4, _, _, _, _, rfl, (mover_Needs_ok hc r hyn hyf).mono ?_⟩
     rintro q s6 ⟨rfl, d13, rfl, h13⟩
     have hnl : (c.Needs r).length ≤ 41 := by
       rw [Cf.Needs, rt_some hy]
       have := needs_len c y
       have := hrok.len; have := hrok.flen; omega
     refine ⟨d13, rfl, (h13 s6).lenK ⟨fun n s => ∃ j : Nat, n = j ∧ j ≤ (c.Needs r).length ∧ CoIn σ0 s id t (cfC c0 c1 c2 c3 c4 c) [] d0 d1 d2 d3 d4 d5 { k with Lines := askC (lineF c y.Path) k.Lines, Own := (c.lockL r).foldl (fun w s => w.set s.toNat (r + 1)) k.Own, Routes := k.Routes.set r.toNat ⟨1, 0, 0, 0⟩, Points := ptsC now ((c.Needs r).take j) k.Points },
       fun n _ => (c.Needs r).length - n.toNat, ⟨0, rfl, by omega, hI5⟩, ?_⟩⟩
     rintro n s7 ⟨j, rfl, hj, hI7⟩
     rw [List.length_map]
     refine bcd (fun hlt => ?_) (fun hge => ?_)
     · obtain ⟨nd, hnd⟩ := get_of_lt (l := c.Needs r) (j := j) (by omega)
       have hnm := List.mem_of_getElem? hnd
       obtain ⟨⟨z, hz⟩, _⟩ := needs_sec hrok (by rw [Cf.Needs, rt_some hy] at hnm; exact hnm)
       have hgz := geti_some hz
       have hzl := (List.getElem?_eq_some_iff.1 hgz.2.2).1
       have hpl := ptsC_len now ((c.Needs r).take j) k.Points
       have hpl2 := hfi.lPts
       obtain ⟨m, hm⟩ := get_of_lt (l := ptsC now ((c.Needs r).take j) k.Points) (j := nd.Sec.toNat) (by omega)
       have hgm : geti (ptsC now ((c.Needs r).take j) k.Points) nd.Sec = some m := by unfold geti; rw [if_neg (by omega), hm]
       refine (h13 s7).load (map_get hnd) c_Need rfl ⟨nd.Sec, nd.Pos, rfl, cmdPre, cmdPost, cmd_spec, trivial, _, _, _, rfl, _, box_row hI7.row, d2, rfl, trivial, _, _, _, rfl, _, box_row hI7.row, d2, rfl,
         hI7.at.points.load (map_get hm) c_Mover (Int.toNat_of_nonneg hgz.1).symm ⟨m.Cmd, m.Other, rfl, ⟨m, now, nd.Pos, rfl⟩, ?_⟩⟩
       intro q s8 hq
       obtain ⟨rfl, rfl⟩ := cmd_post (m := m) hq
       refine ⟨_, _, rfl, hI7.at.points.idxK c_Mover (Int.toNat_of_nonneg hgz.1).symm (by simp only [List.length_map]; omega) ?_⟩
       refine hI7.putP (k := { k with Lines := askC (lineF c y.Path) k.Lines, Own := (c.lockL r).foldl (fun w s => w.set s.toNat (r + 1)) k.Own, Routes := k.Routes.set r.toNat ⟨1, 0, 0, 0⟩, Points := ptsC now ((c.Needs r).take j) k.Points }) (y := cmdM m now nd.Pos) hm rfl (by simp) rfl fun s9 hI9 _ => ?_
       rw [w64_succ (by omega)]
       refine ⟨⟨j + 1, rfl, by omega, ?_⟩, dec_lt (by omega)⟩
       have e : ptsC now ((c.Needs r).take (j + 1)) k.Points = (ptsC now ((c.Needs r).take j) k.Points).set nd.Sec.toNat (cmdM m now nd.Pos) := by
         rw [List.take_add_one, hnd, ptsC, List.foldl_append]
         show (ptsC now ((c.Needs r).take j) k.Points).set nd.Sec.toNat (cmdM ((geti (ptsC now ((c.Needs r).take j) k.Points) nd.Sec).getD ⟨0, 0⟩) now nd.Pos) = _
         rw [hgm]; rfl
       rw [e]; exact hI9
     have e : j = (c.Needs r).length := by omega
     rw [e, List.take_length] at hI7
     have hxs := (check_xs hok).2.2
     refine ⟨trivial, _, _, _, rfl, _, box_row hI7.row, c0, c1, c2, c3, c4, _, _, _, _, rfl, (mover_Crossings_ok hc r (by omega)).mono ?_⟩
     rintro q s8 ⟨rfl, d19, rfl, h19⟩
     have hcl2 : (c.Cross r).length ≤ c.Xs.length := crossL_len _ _ _
     refine ⟨d19, rfl, (h19 s8).lenK ⟨fun n s => ∃ j : Nat, n = j ∧ j ≤ (c.Cross r).length ∧ CoIn σ0 s id t (cfC c0 c1 c2 c3 c4 c) [] d0 d1 d2 d3 d4 d5 { k with Lines := askC (lineF c y.Path) k.Lines, Own := (c.lockL r).foldl (fun w s => w.set s.toNat (r + 1)) k.Own, Routes := k.Routes.set r.toNat ⟨1, 0, 0, 0⟩, Points := ptsC now (c.Needs r) k.Points, Xs := xsC now ((c.Cross r).take j) k.Xs },
       fun n _ => (c.Cross r).length - n.toNat, ⟨0, rfl, by omega, hI7⟩, ?_⟩⟩
     rintro n s9 ⟨j, rfl, hj, hI9⟩
     rw [List.length_map]
     refine bcd (fun hlt => ?_) (fun hge => ?_)
     · obtain ⟨v, hv⟩ := get_of_lt (l := c.Cross r) (j := j) (by omega)
       obtain ⟨i, xx, e3, hxx, _⟩ := crossL_mem _ _ _ _ (List.mem_of_getElem? hv)
       rw [Nat.zero_add] at e3
       subst e3
       have hil := (List.getElem?_eq_some_iff.1 hxx).1
       have hpl := xsC_len now ((c.Cross r).take j) k.Xs
       have hpl2 := hfi.lXs
       obtain ⟨m, hm⟩ := get_of_lt (l := xsC now ((c.Cross r).take j) k.Xs) (j := i) (by omega)
       have hgm : geti (xsC now ((c.Cross r).take j) k.Xs) (i : Int) = some m := by rw [geti_nat, hm]
       refine (h19 s9).load (map_get hv) c_int rfl ⟨(i : Int), rfl, cmdPre, cmdPost, cmd_spec, trivial, _, _, _, rfl, _, box_row hI9.row, d3, rfl, trivial, _, _, _, rfl, _, box_row hI9.row, d3, rfl,
         hI9.at.xs.load (map_get hm) c_Mover rfl ⟨m.Cmd, m.Other, rfl, ⟨m, now, 1, rfl⟩, ?_⟩⟩
       intro q s10 hq
       obtain ⟨rfl, rfl⟩ := cmd_post (m := m) hq
       refine ⟨_, _, rfl, hI9.at.xs.idxK c_Mover rfl (by simp only [List.length_map]; omega) ?_⟩
       refine hI9.putX (k := { k with Lines := askC (lineF c y.Path) k.Lines, Own := (c.lockL r).foldl (fun w s => w.set s.toNat (r + 1)) k.Own, Routes := k.Routes.set r.toNat ⟨1, 0, 0, 0⟩, Points := ptsC now (c.Needs r) k.Points, Xs := xsC now ((c.Cross r).take j) k.Xs }) (y := cmdM m now 1) hm (by rw [Int.toNat_natCast]) (by simp) rfl fun s11 hI11 _ => ?_
       rw [w64_succ (by omega)]
       refine ⟨⟨j + 1, rfl, by omega, ?_⟩, dec_lt (by omega)⟩
       have e : xsC now ((c.Cross r).take (j + 1)) k.Xs = (xsC now ((c.Cross r).take j) k.Xs).set i (cmdM m now 1) := by
         rw [List.take_add_one, hv, xsC, List.foldl_append]
         show (xsC now ((c.Cross r).take j) k.Xs).set ((i : Int)).toNat (cmdM ((geti (xsC now ((c.Cross r).take j) k.Xs) (i : Int)).getD ⟨0, 0⟩) now 1) = _
         rw [hgm]; rfl
       rw [e]; exact hI11
     have e : j = (c.Cross r).length := by omega
     rw [e, List.take_length] at hI9
     refine ⟨trivial, _, _, _, rfl, hI9.dirty (b := true) rfl fun s10 hI10 _ => ⟨by rw [hE0], hI10.ext, fun _ => ?_⟩⟩
     have : k.lockC c now r = { k with Lines := askC (lineF c y.Path) k.Lines, Own := (c.lockL r).foldl (fun w s => w.set s.toNat (r + 1)) k.Own, Routes := k.Routes.set r.toNat ⟨1, 0, 0, 0⟩, Points := ptsC now (c.Needs r) k.Points, Xs := xsC now (c.Cross r) k.Xs, Dirty := true } := by
       rw [Co.lockC, rt_some hy]
     rw [this]; exact hI10
   refine (desk_line_ok' hc hI hok hfi.lLn hy).use ⟨_, rfl, ?_⟩
   by_cases hl : lineF c y.Path > 0
   · rw [if_pos hl]
     have hl3 := (line_ok hok y.Path).2
     obtain ⟨u, hu⟩ := get_of_lt (l := k.Lines) (j := (lineF c y.Path).toNat) (by have := hfi.lLn; omega)
     have hgu : geti k.Lines (lineF c y.Path) = some u := by unfold geti; rw [if_neg (by omega), hu]
     refine ⟨false, rfl, ?_⟩
     show bcase (false != true) _ _
     rw [show (false != true) = true from by decide]
     refine ⟨trivial, _, _, _, rfl, _, hI.at.lines.row (map_get hu), u.Ask, rfl, bcd (fun e => err 5 (by rw [hE, if_pos ⟨hl, by rw [hgu]; exact e⟩]) (by decide)) (fun e3 => ?_)⟩
     refine ⟨trivial, _, _, _, rfl, _, hI.at.lines.row (map_get hu), u.Ask, rfl, trivial, _, _, _, rfl, ?_⟩
     have hua := (hfi.lns u (List.mem_of_getElem? hu))
     simp only [Ls.fits, tm, Bool.and_eq_true, decide_eq_true_eq] at hua
     rw [w64_id (n := u.Ask + 1) (by omega) (by omega)]
     refine hI.putL (y := { u with Ask := u.Ask + 1 }) hu rfl (by simp) rfl fun s4 hI4 _ => body (fun _ => by rw [hgu]; show u.Ask < 4294967295; omega) s4 ?_
     have : askC (lineF c y.Path) k.Lines = k.Lines.set (lineF c y.Path).toNat { u with Ask := u.Ask + 1 } := by rw [askC, if_pos hl, hgu]; rfl
     rw [this]; exact hI4
   · rw [if_neg hl]
     refine ⟨true, rfl, ?_⟩
     show bcase (true != true) _ _
     rw [show (true != true) = false from by decide]
     refine body (fun h => absurd h hl) s ?_
     have : askC (lineF c y.Path) k.Lines = k.Lines := by rw [askC, if_neg hl]
     rw [this]; exact hI
end
end
section
variable {σ σ0 : Store}
theorem live_ext {s s' : Store} {id : Nat} {t : TypeId} {rows : List (List D)} (h : s id = .live t rows) (he : Ext s s') : s' id = .live t rows := (he id (by rw [h]; intro e; cases e)).trans h
theorem CoPost.from {σ1 s : Store} {p : Co × Int} {r : RV} (he : Ext σ σ1) (h : CoPost σ1 p r s) : CoPost σ p r s := by
 obtain ⟨d0, d1, d2, d3, d4, d5, e, ho⟩ := h
 exact ⟨d0, d1, d2, d3, d4, d5, e, ho.from he⟩
theorem CoPost.pass {s : Store} {p : Co × Int} {r : RV} {Q : RV → Store → Prop} (h : CoPost σ p r s) (hq : Q r s) :
   ∃ d d1 d2 d3 d4 d5 : D, ∃ b : Bool, ∃ n1 : Int, r = .tup [.agg [d, d1, d2, d3, d4, d5, .bool b], .one (.int .i64 n1)] ∧ Q (.tup [.agg [d, d1, d2, d3, d4, d5, .bool b], .one (.int .i64 n1)]) s := by
 obtain ⟨d0, d1, d2, d3, d4, d5, e, ho⟩ := h
 refine ⟨d0, d1, d2, d3, d4, d5, p.1.Dirty, p.2, e, ?_⟩
 rw [← e]; exact hq
section
variable {c0 c1 c2 c3 c4 k0 k1 k2 k3 k4 k5 : D} {c : Cf} (hc : ∀ s, CfAt s c0 c1 c2 c3 c4 c) {k : Co} (h : CoAt σ k0 k1 k2 k3 k4 k5 k) (hf : CoFit k0 k1 k2 k3 k4 k5 k)
include hc h hf
theorem locks_Request_ok (hz : RtsNz c4) (now r : Int) : DCalls Tryz.prog n_locks_Request [cfA c0 c1 c2 c3 c4 c, coA k0 k1 k2 k3 k4 k5 k.Dirty, iA now, iA r] σ (CoPost σ (k.requestC c now r)) := by
 refine W_locks_Request _ _ _ _ _ _ _ _ _ k0 k1 k2 k3 k4 k5 k.Dirty now r σ _ (newObj_intro fun id s1 hid _ e1 q1 => newObj_intro fun id1 s2 hid1 _ e2 q2 => ?_)
 have q12 := live_ext q1 e2
 refine ⟨_, box_row q12, now, rfl, (locks_change_ok hc (h.ext' (e1.trans e2)) hf now (bs := [.one (.el (.osl id 0 1) 0 0), .one (.el (.osl id1 0 1) 0 0)]) (E := k.reqE c r) (Y := k.lockC c now r) rfl ?_).mono fun q s3 hp => hp.pass (hp.from (e1.trans e2))⟩
 intro hfit ht id' d0 d1 d2 d3 d4 d5 s3 he hI
 refine W_locks_Request_1 _ _ _ s3 _ ⟨_, _, _, rfl, _, box_row (live_ext q12 he), now, rfl, _, _, _, rfl, _, box_row (live_ext q2 he), r, rfl, (desk_request_ok hc hI hz hfit now r).mono ?_⟩
 rintro q s4 ⟨rfl, w1, w2⟩
 exact ⟨_, rfl, rfl, w1, w2⟩
end
end
section
variable {σ : Store}
def CoZ (σ : Store) (k : Co) (r : RV) (s : Store) : Prop := s = σ ∧ ∃ d0 d1 d2 d3 d4 d5, r = .a (coA d0 d1 d2 d3 d4 d5 k.Dirty) ∧ CoFz d0 d1 d2 d3 d4 d5 k
end
section
variable {σ : Store}
def LawTrue (f : FuncId) (xs : List A) : Prop := DCalls Tryz.prog f xs noS fun r _ => r = .a (.one (.bool true))
end
section
variable {σ : Store}
def endK (o : Int) (x : Ls) (b : Bool) : Co := ⟨[o, 0], [⟨0, 0, 0, 0⟩], [⟨0, 0⟩, ⟨0, 0⟩], [], [zLs, x, zLs, zLs], [0, 0], b⟩
def endStep (occ stamp now : Int) (o : Int) (x : Ls) (b : Bool) : Co :=
 let m := decide (x.PAsk > (if x.PDone > x.Grant then x.PDone else x.Grant)) && decide (x.Ask = x.Done)
 let k' : Co := if o = -2 then
     if x.PDone < x.Grant then endK o { x with Since := 0 } b
     else if x.Since = 0 then endK o { x with Since := w64 (now + 1) } b
     else if occ = 0 ∧ x.Since ≤ stamp then endK 0 { x with Since := 0 } true
     else endK o x b
   else if o = 0 ∧ m = true then endK (-2) { x with Grant := x.PAsk, Since := 0 } true
   else endK o x b
 if b = true then k' else { k' with Lines := k'.Lines.set 1 { (k'.Lines[1]?).getD zLs with Told := x.Grant } }
end
section
variable {σ : Store}
def CoPostK (σ : Store) (p : Co × Int) (r : RV) (s : Store) : Prop := CoPost σ p r s ∨ (s = σ ∧ ∃ d0 d1 d2 d3 d4 d5, r = .tup [coA d0 d1 d2 d3 d4 d5 p.1.Dirty, iA p.2] ∧ CoFz d0 d1 d2 d3 d4 d5 p.1)
theorem plain_fz {s : Store} {S : Nat → Prop} {el : TypeId} {d : D} {rs : List (List D)} (h : ∀ s, At Tryz.prog s el d rs) (hf : ∀ row ∈ rs, ∀ x ∈ row, Flat x) : Fz Tryz.prog s S d d := by
 have hp := froz_plain (P := Tryz.prog) (el := el) (d := d) fun s => ⟨rs, (h s).rows⟩
 have hr := (h s).rows
 cases d <;> simp only [Go.Fw.Rows] at hr <;> try exact hr.elim
 · exact .nils
 · exact .zsl
 · obtain ⟨rfl, _⟩ := hr
   exact .refl fun row hrow x hx => (hf row hrow x hx).fz
 · exact absurd rfl (hp _ _ _)
theorem flat_co : (∀ n : Int, ∀ d ∈ Go.Fw.encI n, Flat d) ∧ (∀ r : Rs, ∀ d ∈ r.enc, Flat d) ∧ (∀ r : Mv, ∀ d ∈ r.enc, Flat d) ∧ ∀ r : Ls, ∀ d ∈ r.enc, Flat d :=
 ⟨fun n d hd => by simp [Go.Fw.encI] at hd; subst hd; exact .int _ _, fun r d hd => by simp [Rs.enc] at hd; rcases hd with rfl | rfl | rfl | rfl <;> exact .int _ _,
   fun r d hd => by simp [Mv.enc] at hd; rcases hd with rfl | rfl <;> exact .int _ _,
   fun r d hd => by simp [Ls.enc] at hd; rcases hd with rfl | rfl | rfl | rfl | rfl | rfl | rfl | rfl <;> exact .int _ _⟩
theorem cofz_fz {s : Store} {S : Nat → Prop} {d0 d1 d2 d3 d4 d5 : D} {k : Co} (h : CoFz d0 d1 d2 d3 d4 d5 k) (b : Bool) : FzL Tryz.prog s S [d0, d1, d2, d3, d4, d5, .bool b] [d0, d1, d2, d3, d4, d5, .bool b] :=
 .cons (plain_fz (fun s => (h.at_ s).own) (flat_ints _ flat_co.1 _)) (.cons (plain_fz (fun s => (h.at_ s).routes) (flat_ints _ flat_co.2.1 _)) (.cons (plain_fz (fun s => (h.at_ s).points) (flat_ints _ flat_co.2.2.1 _))
   (.cons (plain_fz (fun s => (h.at_ s).xs) (flat_ints _ flat_co.2.2.1 _)) (.cons (plain_fz (fun s => (h.at_ s).lines) (flat_ints _ flat_co.2.2.2 _)) (.cons (plain_fz (fun s => (h.at_ s).resets) (flat_ints _ flat_co.1 _)) (.cons (.bool _) .nil))))))
section
variable {c0 c1 c2 c3 c4 k0 k1 k2 k3 k4 k5 v0 v1 v2 v3 : D} {c : Cf} {k : Co} {v : Vw}
end
end
section
variable {σ : Store}
theorem ref13_Copied_z {k0 k1 k2 k3 k4 k5 : D} {k : Co} (hk : CoAt σ k0 k1 k2 k3 k4 k5 k) (b0 : 8 * k.Own.length ≤ 140737488355328) (b1 : 32 * k.Routes.length ≤ 140737488355328) (b2 : 16 * k.Points.length ≤ 140737488355328)
   (b3 : 16 * k.Xs.length ≤ 140737488355328) (b4 : 64 * k.Lines.length ≤ 140737488355328) (b5 : 8 * k.Resets.length ≤ 140737488355328) : DCalls Tryz.prog n_ref13_Copied [coA k0 k1 k2 k3 k4 k5 k.Dirty] σ (CoZ σ k) := by
 refine (ref13_Copied_ok hk b0 b1 b2 b3 b4 b5).ret ?_
 rintro r s ⟨d0, d1, d2, d3, d4, d5, rfl, hco⟩
 obtain ⟨e0, e1, e2, e3, e4, e5, hfz, hz⟩ := co_frz hco
 exact ⟨.a (coA e0 e1 e2 e3 e4 e5 k.Dirty), σ, .pure hco.own.ext hfz, rfl, _, _, _, _, _, _, rfl, hz⟩
theorem CoFz.fits {d0 d1 d2 d3 d4 d5 k0 k1 k2 k3 k4 k5 : D} {k : Co} (h : CoFz d0 d1 d2 d3 d4 d5 k) (hf : CoFit k0 k1 k2 k3 k4 k5 k) : CoFit d0 d1 d2 d3 d4 d5 k :=
 ⟨h.n0, h.n1, h.n2, h.n3, h.n4, h.n5, hf.b0, hf.b1, hf.b2, hf.b3, hf.b4, hf.b5⟩
theorem CoOwn.ext' {σ0 s s' : Store} {d0 d1 d2 d3 d4 d5 : D} {k : Co} (h : CoOwn σ0 s d0 d1 d2 d3 d4 d5 k) (he : Ext s s') : CoOwn σ0 s' d0 d1 d2 d3 d4 d5 k :=
 ⟨h.own.ext' he, h.routes.ext' he, h.points.ext' he, h.xs.ext' he, h.lines.ext' he, h.resets.ext' he, h.apart⟩
end
end Go.Proofs.YtdlnbehcnfjneaaGreat
namespace Go.Fw
section
def zLk : Lk := ⟨0, 0, false⟩
def lkG (l : List Lk) (s : Int) : Lk := (geti l s).getD zLk
def mvG (l : List Mv) (s : Int) : Mv := (geti l s).getD ⟨0, 0⟩
def lnG (l : List Ls) (s : Int) : Ls := (geti l s).getD zLs
def rsG (l : List Rs) (s : Int) : Rs := (geti l s).getD ⟨0, 0, 0, 0⟩
def ownG (l : List Int) (s : Int) : Int := (geti l s).getD 0
def Lk.clear (l : Lk) : Bool := l.Valid && decide (l.Value = 0)
def clr (o : List Lk) (l : List Int) : Bool := l.all fun s => (lkG o s).clear
def bnd (n : Int) : Int := min (max n (-1)) 4611686018427387904
def provM (m : Mv) (l : Lk) (age : Int) : Bool := decide (l.Valid = true ∧ m.Cmd ≠ 0 ∧ m.Cmd = l.Value ∧ bnd l.Stamp - bnd m.Other > bnd age)
def Cf.pathS (c : Cf) (r : Int) : List Int := (c.rt r).Path.map St.Sec
def Cf.lineR (c : Cf) (r : Int) : Int := lineF c (c.rt r).Path
def needOk (c : Cf) (k : Co) (v : Vw) (n : Nd) : Bool := decide ((mvG k.Points n.Sec).Cmd = n.Pos) && provM (mvG k.Points n.Sec) (lkG v.Pos n.Sec) c.Age
def crossOk (c : Cf) (k : Co) (v : Vw) (i : Int) : Bool := provM (mvG k.Xs i) (lkG v.Shut i) c.Age
def Co.ownS (c : Cf) (k : Co) (r : Int) : List Int := (c.rt r).Overlap.filter fun s => decide (ownG k.Own s = r + 1)
def lampOk (c : Cf) (k : Co) (v : Vw) (r : Int) : Bool :=
 (lkG v.Lamp (c.rt r).Entry).Valid && (decide ((lkG v.Lamp (c.rt r).Entry).Value = 1) && (decide (c.lineR r = 0) || decide ((lnG k.Lines (c.lineR r)).PGrant = (lnG k.Lines (c.lineR r)).Ask)))
def Co.ready (c : Cf) (k : Co) (v : Vw) (r : Int) : Bool :=
 clr v.Occ (c.pathS r) && (clr v.Occ (k.ownS c r) && ((c.Needs r).all (needOk c k v) && ((c.Cross r).all (crossOk c k v) && lampOk c k v r)))
def Co.readyC (c : Cf) (k : Co) (v : Vw) (r : Int) : Bool := k.fits c && (v.fits c && (decide (0 ≤ r ∧ r < c.Rts.length) && k.ready c v r))
def Co.setR (k : Co) (r : Int) (x : Rs) : Co := { k with Routes := k.Routes.set r.toNat x }
def freeAll (o : Int) (l : List Int) : List Int := l.map fun z => if z = o then 0 else z
def doneL (n : Int) (w : List Ls) : List Ls := if n > 0 then w.set n.toNat { lnG w n with Done := (lnG w n).Ask } else w
def Co.endR (c : Cf) (k : Co) (r : Int) : Co := { k with Own := freeAll (r + 1) k.Own, Lines := doneL (c.lineR r) k.Lines, Routes := k.Routes.set r.toNat ⟨0, 0, 0, 0⟩, Dirty := true }
def Co.goOn (c : Cf) (k : Co) (v : Vw) (now r : Int) : Co :=
 match geti (c.pathS r) (rsG k.Routes r).Next with
 | none => k
 | some s =>
   if ownG k.Own s ≠ r + 1 then k.setR r { rsG k.Routes r with Next := (rsG k.Routes r).Next + 1 }
   else if (lkG v.Occ s).clear = true ∧ (lkG v.Occ s).Stamp > (rsG k.Routes r).Since + c.Hold ∧ (lkG v.Occ s).Stamp > (rsG k.Routes r).Mark then
     { k with Own := k.Own.set s.toNat 0, Dirty := true, Routes := k.Routes.set r.toNat { rsG k.Routes r with Next := (rsG k.Routes r).Next + 1, Mark := now } }
   else k
def Co.endingR (c : Cf) (k : Co) (v : Vw) (now r : Int) : Co :=
 if now < (rsG k.Routes r).Since + c.Hold then k
 else if (rsG (k.goOn c v now r).Routes r).Next = (c.pathS r).length then (k.goOn c v now r).endR c r else k.goOn c v now r
def Co.routeR (c : Cf) (v : Vw) (now : Int) (d : Bool) (k : Co) (r : Int) : Co :=
 if ((rsG k.Routes r).State = 2 ∨ (rsG k.Routes r).State = 3) ∧ clr v.Occ (c.pathS r) = false then k.setR r { rsG k.Routes r with State := 4, Since := now, Mark := 0 }
 else if (rsG k.Routes r).State = 2 ∧ k.ready c v r = false then k.setR r { rsG k.Routes r with State := 3 }
 else if (rsG k.Routes r).State = 1 ∧ d = false ∧ k.ready c v r = true then k.setR r { rsG k.Routes r with State := 2 }
 else if (rsG k.Routes r).State = 4 then k.endingR c v now r
 else k
def routesR (c : Cf) (v : Vw) (now : Int) (d : Bool) (k : Co) : Nat → Co
 | 0 => k
 | n + 1 => (routesR c v now d k n).routeR c v now d n
def xsN (c : Cf) (own : List Int) (now : Int) (w : List Mv) : Nat → List Mv
 | 0 => w
 | n + 1 => match c.Xs[n]? with
   | none => xsN c own now w n
   | some s => (xsN c own now w n).set n (cmdM (mvG (xsN c own now w n) n) now (if ownG own s = 0 then 2 else 1))
def Co.rstOne (v : Vw) (k : Co) (s : Int) : Co :=
 if ownG k.Resets s ≤ 0 then k else if ownG k.Own s ≠ -1 then { k with Resets := k.Resets.set s.toNat 0 }
 else if (lkG v.Occ s).clear = true ∧ (lkG v.Occ s).Stamp ≥ ownG k.Resets s then { k with Own := k.Own.set s.toNat 0, Dirty := true, Resets := k.Resets.set s.toNat 0 } else k
def rstN (v : Vw) (k : Co) : Nat → Co
 | 0 => k
 | n + 1 => (rstN v k n).rstOne v n
def aspN (c : Cf) (rs : List Rs) : Nat → List Int
 | 0 => List.replicate c.Sigs.length 0
 | n + 1 => if (rsG rs n).State = 2 then (aspN c rs n).set (c.rt n).Entry.toNat (max (ownG (aspN c rs n) (c.rt n).Entry) (if (c.rt n).Shunt = true then 1 else 2)) else aspN c rs n
def Co.stepR (c : Cf) (k : Co) (v : Vw) (now : Int) : Co := routesR c v now k.Dirty k c.Rts.length
def Co.stepX (c : Cf) (k : Co) (v : Vw) (now : Int) : Co := { k.stepR c v now with Xs := xsN c (k.stepR c v now).Own now (k.stepR c v now).Xs c.Xs.length }
def Co.stepY (c : Cf) (k : Co) (v : Vw) (now : Int) : Co := rstN v (k.stepX c v now) (k.stepX c v now).Resets.length
def Co.stepK (c : Cf) (k : Co) (v : Vw) (now : Int) : Co × List Int × Int :=
 if k.fits c = false ∨ v.fits c = false then (k, [], 21) else if tm 0 now = false then (k, [], 32)
 else (k.stepY c v now, aspN c (k.stepY c v now).Routes c.Rts.length, 0)
/-! facts -/
theorem geti_set {α : Type} {l : List α} {s t : Int} {x : α} (hs : 0 ≤ s) : geti (l.set s.toNat x) t = if t = s ∧ s < l.length then some x else geti l t := by
 unfold geti
 by_cases ht : t < 0
 · rw [if_pos ht, if_pos ht, if_neg (by omega)]
 · rw [if_neg ht, if_neg ht, List.getElem?_set]
   by_cases e : t = s
   · subst e
     rw [if_pos rfl]
     by_cases hl : t < l.length
     · rw [if_pos (by omega), if_pos ⟨rfl, hl⟩]
     · rw [if_neg (by omega), if_neg (by omega), List.getElem?_eq_none (by omega)]
   · rw [if_neg (by omega), if_neg (by omega)]
theorem geti_set_ne {α : Type} {l : List α} {s t : Int} {x : α} (hs : 0 ≤ s) (h : t ≠ s) : geti (l.set s.toNat x) t = geti l t := by rw [geti_set hs, if_neg (by omega)]
theorem geti_set_eq {α : Type} {l : List α} {s : Int} {x : α} (hs : 0 ≤ s) (h : s < l.length) : geti (l.set s.toNat x) s = some x := by rw [geti_set hs, if_pos ⟨rfl, h⟩]
structure Turn (c : Cf) (v : Vw) (now : Int) (d : Bool) (k k' : Co) (r : Int) : Prop where
 pts : k'.Points = k.Points
 xs : k'.Xs = k.Xs
 res : k'.Resets = k.Resets
 lOwn : k'.Own.length = k.Own.length
 lRts : k'.Routes.length = k.Routes.length
 rts : ∀ j, j ≠ r → rsG k'.Routes j = rsG k.Routes j
 own : ∀ s, geti k'.Own s = geti k.Own s ∨ (geti k.Own s = some (r + 1) ∧ geti k'.Own s = some 0 ∧ k'.Dirty = true ∧ (rsG k.Routes r).State = 4 ∧ (rsG k.Routes r).Since + c.Hold ≤ now ∧
   ((rsG k'.Routes r).State = 0 ∨ (geti (c.pathS r) (rsG k.Routes r).Next = some s ∧ (lkG v.Occ s).clear = true ∧ (lkG v.Occ s).Stamp > (rsG k.Routes r).Since + c.Hold)))
 ln : ∀ l, (lnG k'.Lines l).PGrant = (lnG k.Lines l).PGrant ∧ (lnG k'.Lines l).Ask = (lnG k.Lines l).Ask
 dirty : k.Dirty = true → k'.Dirty = true
 opn : (rsG k'.Routes r).State = 2 → ((rsG k.Routes r).State = 2 ∨ ((rsG k.Routes r).State = 1 ∧ d = false)) ∧ k.ready c v r = true
structure Turns (c : Cf) (v : Vw) (now : Int) (d : Bool) (k k' : Co) (n : Nat) : Prop where
 pts : k'.Points = k.Points
 xs : k'.Xs = k.Xs
 res : k'.Resets = k.Resets
 lOwn : k'.Own.length = k.Own.length
 lRts : k'.Routes.length = k.Routes.length
 rts : ∀ j : Int, (n : Int) ≤ j → rsG k'.Routes j = rsG k.Routes j
 own : ∀ s, geti k'.Own s = geti k.Own s ∨ ∃ r : Int, 0 ≤ r ∧ r < n ∧ geti k.Own s = some (r + 1) ∧ geti k'.Own s = some 0 ∧ k'.Dirty = true ∧ (rsG k.Routes r).State = 4 ∧ (rsG k.Routes r).Since + c.Hold ≤ now ∧
   ((rsG k'.Routes r).State = 0 ∨ (geti (c.pathS r) (rsG k.Routes r).Next = some s ∧ (lkG v.Occ s).clear = true ∧ (lkG v.Occ s).Stamp > (rsG k.Routes r).Since + c.Hold))
 ln : ∀ l, (lnG k'.Lines l).PGrant = (lnG k.Lines l).PGrant ∧ (lnG k'.Lines l).Ask = (lnG k.Lines l).Ask
 dirty : k.Dirty = true → k'.Dirty = true
 opn : ∀ r : Int, 0 ≤ r → r < n → (rsG k'.Routes r).State = 2 → ((rsG k.Routes r).State = 2 ∨ ((rsG k.Routes r).State = 1 ∧ d = false)) ∧ k.ready c v r = true
end
section
theorem rsG_get {l : List Rs} {r : Int} (hr : 0 ≤ r) (hl : r < l.length) : l[r.toNat]? = some (rsG l r) := by
 unfold rsG geti; rw [if_neg (by omega), List.getElem?_eq_getElem (show r.toNat < l.length by omega)]; rfl
theorem rt_at {c : Cf} {r : Int} {q : Rt} (hr : 0 ≤ r) (h : c.Rts[r.toNat]? = some q) : c.rt r = q := by
 unfold Cf.rt geti; rw [if_neg (by omega), h]; rfl
theorem FitIs.rs {c : Cf} {k : Co} {r : Int} {x : Rs} (h : FitIs c k) (hr : 0 ≤ r) (hx : ∀ q, c.Rts[r.toNat]? = some q → Rs.fits (rsG k.Routes r, q) = true → Rs.fits (x, q) = true) :
   ∀ (i : Nat) z q, (k.Routes.set r.toNat x)[i]? = some z → c.Rts[i]? = some q → Rs.fits (z, q) = true := by
 intro i z q hz hq
 rw [List.getElem?_set] at hz
 split at hz
 · rename_i e
   split at hz
   · rename_i hl
     cases hz
     subst e
     exact hx q hq (h.rts r.toNat _ q (rsG_get hr (by omega)) hq)
   · cases hz
 · exact h.rts i z q hz hq
theorem setR_fits {c : Cf} {k : Co} {r : Int} {x : Rs} (h : FitIs c k) (hr : 0 ≤ r) (hx : ∀ q, c.Rts[r.toNat]? = some q → Rs.fits (rsG k.Routes r, q) = true → Rs.fits (x, q) = true) : FitIs c (k.setR r x) :=
 ⟨h.chk, h.lOwn, h.lPts, h.lRes, by simp only [Co.setR, List.length_set]; exact h.lRts, h.lXs, h.lLn, h.own, h.rs hr hx, h.pts, h.xs, h.lns, h.res⟩
theorem own_set {c : Cf} {k : Co} (h : FitIs c k) (s : Nat) : ∀ o ∈ k.Own.set s 0, -2 ≤ o ∧ o ≤ c.Rts.length := fun o ho => by
 rcases List.mem_or_eq_of_mem_set ho with ho | rfl
 · exact h.own o ho
 · omega
theorem goOn_fits {c : Cf} {k : Co} {v : Vw} {now r : Int} (h : FitIs c k) (hn : tm 0 now = true) (hr : 0 ≤ r) : FitIs c (k.goOn c v now r) := by
 unfold Co.goOn
 split
 · exact h
 rename_i s hs
 have hnext : ∀ q, c.Rts[r.toNat]? = some q → 0 ≤ (rsG k.Routes r).Next ∧ (rsG k.Routes r).Next < q.Path.length := fun q hq => by
   have h2 := geti_some hs
   rw [Cf.pathS, rt_at hr hq, List.length_map] at h2
   exact ⟨h2.1, h2.2.1⟩
 split
 · refine setR_fits h hr fun q hq hf => ?_
   have := hnext q hq
   simp only [Rs.fits, tm, Bool.and_eq_true, decide_eq_true_eq] at hf ⊢; omega
 split
 · refine ⟨h.chk, by simp only [List.length_set]; exact h.lOwn, h.lPts, h.lRes, by simp only [List.length_set]; exact h.lRts, h.lXs, h.lLn, own_set h _, h.rs hr fun q hq hf => ?_, h.pts, h.xs, h.lns, h.res⟩
   have := hnext q hq
   simp only [Rs.fits, tm, Bool.and_eq_true, decide_eq_true_eq] at hf hn ⊢; omega
 · exact h
theorem endR_fits {c : Cf} {k : Co} {r : Int} (h : FitIs c k) (hr : 0 ≤ r) : FitIs c (k.endR c r) := by
 refine ⟨h.chk, by simp only [Co.endR, freeAll, List.length_map]; exact h.lOwn, h.lPts, h.lRes, by simp only [Co.endR, List.length_set]; exact h.lRts, h.lXs, by simp only [Co.endR, doneL]; split <;> simp [h.lLn], fun o ho => ?_, h.rs hr fun q hq hf => ?_, h.pts, h.xs, fun l hl => ?_, h.res⟩
 · obtain ⟨z, hz, rfl⟩ := List.mem_map.1 ho
   have := h.own z hz
   split <;> omega
 · simp only [Rs.fits, tm, Bool.and_eq_true, decide_eq_true_eq] at hf ⊢; omega
 · simp only [Co.endR, doneL] at hl
   split at hl
   · rcases List.mem_or_eq_of_mem_set hl with hl | rfl
     · exact h.lns l hl
     · have h6 := geti_d (i := c.lineR r) (p := fun l => Ls.fits l = true) (z := zLs) rfl h.lns
       simp only [lnG]
       simp only [Ls.fits, tm, Bool.and_eq_true, decide_eq_true_eq] at h6 ⊢
       omega
   · exact h.lns l hl
theorem routeR_fits {c : Cf} {k : Co} {v : Vw} {now r : Int} {d : Bool} (h : FitIs c k) (hn : tm 0 now = true) (hr : 0 ≤ r) : FitIs c (k.routeR c v now d r) := by
 have hn' := hn
 simp only [tm, decide_eq_true_eq] at hn'
 unfold Co.routeR
 split
 · refine setR_fits h hr fun q hq hf => ?_
   simp only [Rs.fits, tm, Bool.and_eq_true, decide_eq_true_eq] at hf ⊢; omega
 split
 · refine setR_fits h hr fun q hq hf => ?_
   simp only [Rs.fits, tm, Bool.and_eq_true, decide_eq_true_eq] at hf ⊢; omega
 split
 · refine setR_fits h hr fun q hq hf => ?_
   simp only [Rs.fits, tm, Bool.and_eq_true, decide_eq_true_eq] at hf ⊢; omega
 split
 · unfold Co.endingR
   split
   · exact h
   split
   · exact endR_fits (goOn_fits h hn hr) hr
   · exact goOn_fits h hn hr
 · exact h
theorem routesR_fits {c : Cf} {k : Co} {v : Vw} {now : Int} {d : Bool} (h : FitIs c k) (hn : tm 0 now = true) : ∀ n, FitIs c (routesR c v now d k n)
 | 0 => h
 | n + 1 => routeR_fits (routesR_fits h hn n) hn (by omega)
theorem xsN_len {c : Cf} {own : List Int} {now : Int} {w : List Mv} : ∀ n, (xsN c own now w n).length = w.length
 | 0 => rfl
 | n + 1 => by rw [xsN]; split <;> simp [xsN_len n]
theorem xsN_fits {c : Cf} {own : List Int} {now : Int} {w : List Mv} (hn : tm 0 now = true) (h : ∀ m ∈ w, Mv.fits m = true) : ∀ n, ∀ m ∈ xsN c own now w n, Mv.fits m = true
 | 0 => h
 | n + 1 => fun m hm => by
   rw [xsN] at hm
   split at hm
   · exact xsN_fits hn h n m hm
   · rcases List.mem_or_eq_of_mem_set hm with hm | rfl
     · exact xsN_fits hn h n m hm
     · exact cmd_fits (geti_d (p := fun m => Mv.fits m = true) rfl (xsN_fits hn h n)) hn (by split <;> omega)
structure Rst (v : Vw) (k k' : Co) (n : Nat) : Prop where
 pts : k'.Points = k.Points
 xs : k'.Xs = k.Xs
 ln : k'.Lines = k.Lines
 rts : k'.Routes = k.Routes
 lOwn : k'.Own.length = k.Own.length
 lRes : k'.Resets.length = k.Resets.length
 res : ∀ j : Int, (n : Int) ≤ j → geti k'.Resets j = geti k.Resets j
 ownL : ∀ j : Int, (n : Int) ≤ j → geti k'.Own j = geti k.Own j
 own : ∀ s, geti k'.Own s = geti k.Own s ∨ (geti k.Own s = some (-1) ∧ geti k'.Own s = some 0 ∧ k'.Dirty = true ∧ 0 < ownG k.Resets s ∧ (lkG v.Occ s).clear = true ∧ ownG k.Resets s ≤ (lkG v.Occ s).Stamp)
 dirty : k.Dirty = true → k'.Dirty = true
theorem rstN_rst {v : Vw} {k : Co} : ∀ n, Rst v k (rstN v k n) n
 | 0 => ⟨rfl, rfl, rfl, rfl, rfl, rfl, fun _ _ => rfl, fun _ _ => rfl, fun _ => .inl rfl, id⟩
 | n + 1 => by
   have ih := rstN_rst (v := v) (k := k) n
   rw [rstN]
   generalize rstN v k n = k1 at *
   have hz : ownG k1.Resets (n : Int) = ownG k.Resets n := by unfold ownG; rw [ih.res _ (by omega)]
   have ho : geti k1.Own (n : Int) = geti k.Own n := ih.ownL _ (by omega)
   unfold Co.rstOne
   split
   · exact ⟨ih.pts, ih.xs, ih.ln, ih.rts, ih.lOwn, ih.lRes, fun j hj => ih.res j (by omega), fun j hj => ih.ownL j (by omega), ih.own, ih.dirty⟩
   split
   · exact ⟨ih.pts, ih.xs, ih.ln, ih.rts, ih.lOwn, by simp only [List.length_set]; exact ih.lRes, fun j hj => (geti_set_ne (by omega) (by omega)).trans (ih.res j (by omega)), fun j hj => ih.ownL j (by omega), ih.own, ih.dirty⟩
   rename_i h1 h2
   split
   · rename_i h3
     refine ⟨ih.pts, ih.xs, ih.ln, ih.rts, by simp only [List.length_set]; exact ih.lOwn, by simp only [List.length_set]; exact ih.lRes, fun j hj => (geti_set_ne (by omega) (by omega)).trans (ih.res j (by omega)), fun j hj => (geti_set_ne (by omega) (by omega)).trans (ih.ownL j (by omega)), fun s => ?_, fun _ => rfl⟩
     have h2 : ownG k1.Own (n : Int) = -1 := Decidable.not_not.1 h2
     by_cases e : s = n
     · subst e
       have hg : geti k1.Own (n : Int) = some (-1) := by
         unfold ownG at h2
         cases hgs : geti k1.Own (n : Int) with
         | none => rw [hgs] at h2; simp at h2
         | some z => rw [hgs] at h2; simp at h2; rw [h2]
       obtain ⟨g1, g2, _⟩ := geti_some hg
       rw [hz] at h1 h3
       exact .inr ⟨ho ▸ hg, geti_set_eq g1 g2, rfl, by omega, h3.1, h3.2⟩
     · rcases ih.own s with e' | ⟨a1, a2, a3, a4⟩
       · exact .inl ((geti_set_ne (by omega) e).trans e')
       · exact .inr ⟨a1, (geti_set_ne (by omega) e).trans a2, rfl, a4⟩
   · exact ⟨ih.pts, ih.xs, ih.ln, ih.rts, ih.lOwn, ih.lRes, fun j hj => ih.res j (by omega), fun j hj => ih.ownL j (by omega), ih.own, ih.dirty⟩
theorem rstOne_fits {c : Cf} {v : Vw} {k : Co} {s : Int} (h : FitIs c k) : FitIs c (k.rstOne v s) := by
 have hz : ∀ z ∈ k.Resets.set s.toNat 0, tm 1 z = true := fun z hz => by
   rcases List.mem_or_eq_of_mem_set hz with hz | rfl
   · exact h.res z hz
   · rfl
 unfold Co.rstOne
 split
 · exact h
 split
 · exact ⟨h.chk, h.lOwn, h.lPts, by simp only [List.length_set]; exact h.lRes, h.lRts, h.lXs, h.lLn, h.own, h.rts, h.pts, h.xs, h.lns, hz⟩
 split
 · exact ⟨h.chk, by simp only [List.length_set]; exact h.lOwn, h.lPts, by simp only [List.length_set]; exact h.lRes, h.lRts, h.lXs, h.lLn, own_set h _, h.rts, h.pts, h.xs, h.lns, hz⟩
 · exact h
theorem rstN_fits {c : Cf} {v : Vw} {k : Co} (h : FitIs c k) : ∀ n, FitIs c (rstN v k n)
 | 0 => h
 | n + 1 => rstOne_fits (rstN_fits h n)
theorem stepX_fits {c : Cf} {v : Vw} {k : Co} {now : Int} (h : FitIs c k) (hn : tm 0 now = true) : FitIs c (k.stepX c v now) := by
 have h1 := routesR_fits (v := v) (d := k.Dirty) h hn c.Rts.length
 exact ⟨h1.chk, h1.lOwn, h1.lPts, h1.lRes, h1.lRts, by simp only [Co.stepX, xsN_len]; exact h1.lXs, h1.lLn, h1.own, h1.rts, h1.pts, xsN_fits hn h1.xs _, h1.lns, h1.res⟩
theorem stepY_fits {c : Cf} {v : Vw} {k : Co} {now : Int} (h : FitIs c k) (hn : tm 0 now = true) : FitIs c (k.stepY c v now) := rstN_fits (stepX_fits h hn) _
/-! signals -/
theorem aspN_len {c : Cf} {rs : List Rs} : ∀ n, (aspN c rs n).length = c.Sigs.length
 | 0 => by simp [aspN]
 | n + 1 => by rw [aspN]; split <;> simp [aspN_len n]
theorem aspN_fact {c : Cf} {rs : List Rs} (he : ∀ j : Nat, j < c.Rts.length → ∃ a, geti c.Sigs (c.rt j).Entry = some a) : ∀ n, n ≤ c.Rts.length → ∀ i : Int, 0 ≤ i → i < c.Sigs.length →
   (0 ≤ ownG (aspN c rs n) i ∧ ownG (aspN c rs n) i ≤ 2) ∧ (ownG (aspN c rs n) i ≠ 0 ↔ ∃ r : Nat, r < n ∧ (c.rt r).Entry = i ∧ (rsG rs r).State = 2)
 | 0, _, i, h1, h2 => by
   have : ownG (aspN c rs 0) i = 0 := by
     unfold aspN ownG geti
     split
     · rfl
     · rw [List.getElem?_replicate]; split <;> rfl
   rw [this]; refine ⟨by omega, fun h => absurd rfl h, ?_⟩
   rintro ⟨r, hr, _⟩; omega
 | n + 1, hn, i, h1, h2 => by
   obtain ⟨ih1, ih2⟩ := aspN_fact (rs := rs) he n (by omega) i h1 h2
   rw [aspN]
   have low : (∀ r : Nat, r = n → ¬ ((c.rt r).Entry = i ∧ (rsG rs r).State = 2)) → ((∃ r : Nat, r < n ∧ (c.rt r).Entry = i ∧ (rsG rs r).State = 2) ↔ ∃ r : Nat, r < n + 1 ∧ (c.rt r).Entry = i ∧ (rsG rs r).State = 2) := fun hno =>
     ⟨fun ⟨r, a, b⟩ => ⟨r, by omega, b⟩, fun ⟨r, a, b⟩ => ⟨r, by have : r ≠ n := fun e => hno r e b; omega, b⟩⟩
   split
   · rename_i hs
     obtain ⟨a, ha⟩ := he n (by omega)
     obtain ⟨g1, g2, _⟩ := geti_some ha
     by_cases e : i = (c.rt n).Entry
     · subst e
       have ev : ownG ((aspN c rs n).set (c.rt n).Entry.toNat (max (ownG (aspN c rs n) (c.rt n).Entry) (if (c.rt n).Shunt = true then 1 else 2))) (c.rt n).Entry = max (ownG (aspN c rs n) (c.rt n).Entry) (if (c.rt n).Shunt = true then 1 else 2) := by
         conv => lhs; unfold ownG
         rw [geti_set_eq g1 (by rw [aspN_len]; exact g2)]; rfl
       rw [ev]
       have hb : (if (c.rt n).Shunt = true then (1 : Int) else 2) = 1 ∨ (if (c.rt n).Shunt = true then (1 : Int) else 2) = 2 := by split <;> simp
       refine ⟨by omega, fun _ => ⟨n, by omega, rfl, hs⟩, fun _ => by omega⟩
     · have ev : ownG ((aspN c rs n).set (c.rt n).Entry.toNat (max (ownG (aspN c rs n) (c.rt n).Entry) (if (c.rt n).Shunt = true then 1 else 2))) i = ownG (aspN c rs n) i := by
         conv => lhs; unfold ownG
         rw [geti_set_ne g1 e]; rfl
       rw [ev]
       exact ⟨ih1, ih2.trans (low fun r er hr => e (by rw [← hr.1, er]))⟩
   · rename_i hs
     exact ⟨ih1, ih2.trans (low fun r er hr => hs (by rw [← er]; exact hr.2))⟩
theorem FitIs.entry {c : Cf} {k : Co} (h : FitIs c k) : ∀ j : Nat, j < c.Rts.length → ∃ a, geti c.Sigs (c.rt j).Entry = some a := fun j hj => by
 obtain ⟨x, hx⟩ := get_of_lt hj
 have := (check_rt h.chk (List.mem_of_getElem? hx)).entry
 rw [rt_at (r := (j : Int)) (by omega) (by rw [Int.toNat_natCast]; exact hx)]
 exact this
/-! all seen at its worst -/
/-! no route is locked, no reset due -/
end
section
theorem apprS_idle {c : Cf} {l : List Int} : ∀ (rs : List Rs) (j : Nat), (∀ x ∈ rs, x.State = 0) → apprS c l rs j = false
 | [], _, _ => rfl
 | x :: r, j, h => by
   rw [apprS, apprS_idle r _ fun y hy => h y (by simp [hy]), h x (by simp)]; rfl
end
section
def openK (c : Cf) : Co := { newCo c 0 with Own := List.replicate c.Secs.length 0 }
theorem open_req {c : Cf} (h : c.check = 0) {r : Int} {y : Rt} (hy : geti c.Rts r = some y) : (openK c).reqE c r = 0 := by
 have hr := check_rt h (geti_mem hy)
 have hgy := geti_some hy
 have hx : geti (openK c).Routes r = some ⟨0, 0, 0, 0⟩ := by
   unfold geti
   rw [if_neg (by omega)]
   show (List.replicate c.Rts.length (⟨0, 0, 0, 0⟩ : Rs))[r.toNat]? = _
   rw [List.getElem?_replicate, if_pos (by omega)]
 have hap : apprS c (c.lockL r) (openK c).Routes 0 = false := apprS_idle _ _ fun x hx => by rw [(List.mem_replicate.1 hx).2]
 have hb : (openK c).blocked c r (c.lockL r) = false := by
   refine List.any_eq_false.2 fun v hv => ?_
   have : (geti (openK c).Own v).getD 0 = 0 := geti_d (p := fun o : Int => o = 0) rfl fun o ho => (List.mem_replicate.1 ho).2
   rw [this]; simp
 have hl : ((geti (openK c).Lines (lineF c (c.rt r).Path)).getD zLs).Ask < 4294967295 := by
   refine geti_d (p := fun l : Ls => l.Ask < 4294967295) (by decide) fun l hl => ?_
   rw [(List.mem_replicate.1 hl).2]; decide
 rw [Co.reqE, hx]
 show (if (0 : Int) ≠ 0 then 28 else _) = 0
 rw [if_neg (by decide)]
 have hm : (openK c).may c r (c.lockL r) = 0 := by rw [Co.may, if_neg (by rw [hap]; decide), if_neg (by rw [hb]; decide)]
 rw [hm, if_neg (by decide), if_neg (by omega)]
theorem fits_small' {c : Cf} {k : Co} (h : k.fits c = true) : k.Own.length ≤ 16 ∧ k.Routes.length ≤ 12 ∧ k.Points.length ≤ 16 ∧ k.Xs.length ≤ 4 ∧ k.Lines.length = 4 ∧ k.Resets.length ≤ 16 := by
 have hf := fits_iff.1 h
 have hs := check_small hf.chk
 have := hf.lOwn; have := hf.lRts; have := hf.lPts; have := hf.lXs; have := hf.lLn; have := hf.lRes
 omega
end
section
def seenK (c : Cf) (now : Int) : Vw := ⟨List.replicate c.Secs.length ⟨0, now, true⟩, List.replicate c.Secs.length ⟨1, now, true⟩, List.replicate c.Xs.length ⟨1, now, true⟩, List.replicate c.Sigs.length ⟨1, now, true⟩⟩
structure Going (c : Cf) (k : Co) (r : Int) (i : Nat) (m : Int) : Prop where
 fit : FitIs c k
 oth : ∀ j, j ≠ r → (rsG k.Routes j).State = 0
 cur : rsG k.Routes r = ⟨4, 1, i, m⟩
 res : ∀ s, ownG k.Resets s = 0
 own : ∀ s o, geti k.Own s = some o → o = 0 ∨ o = r + 1
 pth : ∀ (j : Nat) s, i ≤ j → (c.pathS r)[j]? = some s → ownG k.Own s = r + 1
theorem sec_path {c : Cf} (hok : c.check = 0) {r : Int} {j : Nat} {s : Int} (h : (c.pathS r)[j]? = some s) : 0 ≤ s ∧ s < c.Secs.length := by
 unfold Cf.pathS at h
 rw [List.getElem?_map] at h
 cases hp : (c.rt r).Path[j]? with
 | none => rw [hp] at h; cases h
 | some st =>
   rw [hp] at h; cases h
   cases hg : geti c.Rts r with
   | none => rw [rt_none hg] at hp; simp [zRt] at hp
   | some y =>
     rw [rt_some hg] at hp
     obtain ⟨z, hz, _⟩ := ((check_rt hok (geti_mem hg)).step st (List.mem_of_getElem? hp)).1.sec
     have := geti_some hz
     omega
end
end Go.Fw
namespace Go.Proofs.YtdlnbehcnfjneaaGreat
open Go.Fw Go.Proofs Go.RowKit
section
variable {σ σ0 : Store}
theorem bnd_eq (n : Int) : (if (4611686018427387904 : Int) < (if (-1 : Int) > n then (-1 : Int) else n) then (4611686018427387904 : Int) else (if (-1 : Int) > n then (-1 : Int) else n)) = bnd n := by
 unfold bnd; split <;> split <;> omega
theorem bnd_rng (n : Int) : -1 ≤ bnd n ∧ bnd n ≤ 4611686018427387904 := by unfold bnd; omega
theorem mover_bound_ok (n : Int) : Pure Tryz.prog n_mover_bound [iA n] σ (.a (iA (bnd n))) :=
 W_mover_bound n σ _ ⟨congrArg (fun z => RV.a (iA z)) (bnd_eq n), rfl⟩
theorem ref12_within_ok (n : Int) : Pure Tryz.prog n_ref12_within [iA n] σ (.a (iA (bnd n))) :=
 W_ref12_within n σ _ ⟨congrArg (fun z => RV.a (iA z)) (bnd_eq n), rfl⟩
theorem mover_Proven_ok (m : Mv) (l : Lk) (age : Int) : Pure Tryz.prog n_mover_Proven [.agg m.enc, .agg l.enc, iA age] σ (.a (bA (provM m l age))) := by
 have no : ¬ (l.Valid = true ∧ m.Cmd ≠ 0 ∧ m.Cmd = l.Value ∧ bnd l.Stamp - bnd m.Other > bnd age) → (RV.a (.one (.bool false)) = .a (bA (provM m l age)) ∧ σ = σ) := fun h => by rw [provM, decide_eq_false h]; exact ⟨rfl, rfl⟩
 refine W_mover_Proven m.Cmd m.Other l.Value l.Stamp l.Valid age σ _ (bcnot (fun e => no fun h => by rw [e] at h; cases h.1) (fun e1 => bce (fun e => no fun h => h.2.1 e) (fun e2 => bcn (fun e => no fun h => e h.2.2.1.symm) (fun e3 => ?_))))
 have b1 := bnd_rng l.Stamp
 have b2 := bnd_rng m.Other
 refine (mover_bound_ok l.Stamp).use ⟨_, rfl, (mover_bound_ok m.Other).use ⟨_, rfl, (mover_bound_ok age).use ⟨_, rfl, ?_, rfl⟩⟩⟩
 rw [w64_id (by omega) (by omega), provM]
 congr 3
 exact decide_eq_decide.2 ⟨fun h => ⟨e1, e2, e3.symm, h⟩, fun h => h.2.2.2⟩
theorem ref12_Proven_ok (m : Mv) (l : Lk) (age : Int) : Pure Tryz.prog n_ref12_Proven [.agg m.enc, .agg l.enc, iA age] σ (.a (bA (provM m l age))) := by
 have no : ¬ (l.Valid = true ∧ m.Cmd ≠ 0 ∧ m.Cmd = l.Value ∧ bnd l.Stamp - bnd m.Other > bnd age) → (RV.a (.one (.bool false)) = .a (bA (provM m l age)) ∧ σ = σ) := fun h => by rw [provM, decide_eq_false h]; exact ⟨rfl, rfl⟩
 refine W_ref12_Proven m.Cmd m.Other l.Value l.Stamp l.Valid age σ _ (bc (fun e1 => bcn (fun e2 => bce (fun e3 => ?_) (fun e => no fun h => e h.2.2.1)) (fun e => no fun h => h.2.1 e)) (fun e => no fun h => by rw [e] at h; cases h.1))
 have b1 := bnd_rng l.Stamp
 have b2 := bnd_rng m.Other
 refine (ref12_within_ok l.Stamp).use ⟨_, rfl, (ref12_within_ok m.Other).use ⟨_, rfl, (ref12_within_ok age).use ⟨_, rfl, ?_, rfl⟩⟩⟩
 rw [w64_id (by omega) (by omega), provM]
 congr 3
 exact decide_eq_decide.2 ⟨fun h => ⟨e1, e2, e3, h⟩, fun h => h.2.2.2⟩
theorem lk_at {l : List Lk} {s : Int} (h0 : 0 ≤ s) (h1 : s < l.length) : l[s.toNat]? = some (lkG l s) := by
 unfold lkG geti; rw [if_neg (by omega), List.getElem?_eq_getElem (show s.toNat < l.length by omega)]; rfl
theorem mv_at {l : List Mv} {s : Int} (h0 : 0 ≤ s) (h1 : s < l.length) : l[s.toNat]? = some (mvG l s) := by
 unfold mvG geti; rw [if_neg (by omega), List.getElem?_eq_getElem (show s.toNat < l.length by omega)]; rfl
theorem ln_at {l : List Ls} {s : Int} (h0 : 0 ≤ s) (h1 : s < l.length) : l[s.toNat]? = some (lnG l s) := by
 unfold lnG geti; rw [if_neg (by omega), List.getElem?_eq_getElem (show s.toNat < l.length by omega)]; rfl
theorem own_at {l : List Int} {s : Int} (h0 : 0 ≤ s) (h1 : s < l.length) : l[s.toNat]? = some (ownG l s) := by
 unfold ownG geti; rw [if_neg (by omega), List.getElem?_eq_getElem (show s.toNat < l.length by omega)]; rfl
structure VwB (σ0 : Store) (v0 v1 v2 v3 : D) (v : Vw) : Prop where
 occ : ∀ s, Ext σ0 s → At Tryz.prog s t_Look v0 (v.Occ.map Lk.enc)
 pos : ∀ s, Ext σ0 s → At Tryz.prog s t_Look v1 (v.Pos.map Lk.enc)
 shut : ∀ s, Ext σ0 s → At Tryz.prog s t_Look v2 (v.Shut.map Lk.enc)
 lamp : ∀ s, Ext σ0 s → At Tryz.prog s t_Look v3 (v.Lamp.map Lk.enc)
theorem VwB.mono {s : Store} {v0 v1 v2 v3 : D} {v : Vw} (h : VwB σ v0 v1 v2 v3 v) (he : Ext σ s) : VwB s v0 v1 v2 v3 v :=
 ⟨fun s' h' => h.occ s' (he.trans h'), fun s' h' => h.pos s' (he.trans h'), fun s' h' => h.shut s' (he.trans h'), fun s' h' => h.lamp s' (he.trans h')⟩
theorem VwAt.b {v0 v1 v2 v3 : D} {v : Vw} (h : VwAt v0 v1 v2 v3 v) : VwB σ v0 v1 v2 v3 v := ⟨fun s _ => h.occ s, fun s _ => h.pos s, fun s _ => h.shut s, fun s _ => h.lamp s⟩
theorem eye_clear_ok {id : Nat} {t : TypeId} {v0 v1 v2 v3 : D} {rest : List D} {v : Vw} (hrow : σ id = .live t [v0 :: rest]) (hv : VwB σ v0 v1 v2 v3 v) {sd : D} {l : List Int} (hs : At Tryz.prog σ t_int sd (l.map Go.Fw.encI)) (hin : ∀ s ∈ l, 0 ≤ s ∧ s < v.Occ.length) :
   Pure Tryz.prog n_kernel_eye_clear [.one (.el (.osl id 0 1) 0 0), .one sd] σ (.a (bA (clr v.Occ l))) := by
 have hz := hs.size
 rw [List.length_map] at hz
 refine W_kernel_eye_clear _ sd σ _ (hs.lenK ⟨fun n s => s = σ ∧ Rng l (fun q => clr v.Occ q = clr v.Occ l) n, fun n _ => l.length - n.toNat, ⟨rfl, .start rfl⟩, ?_⟩)
 rintro n s ⟨rfl, hr⟩
 refine bcd (fun hlt => ?_) (fun hge => ?_)
 · obtain ⟨j, x, rfl, hx, hj, hF, nx⟩ := hr.step (by rw [List.length_map]) hz hlt
   obtain ⟨g0, g1⟩ := hin x (List.mem_of_getElem? hx)
   have hF : ((lkG v.Occ x).clear && clr v.Occ (l.drop (j + 1))) = clr v.Occ l := hF
   have no : (lkG v.Occ x).clear = false → (RV.a (.one (.bool false)) = .a (bA (clr v.Occ l)) ∧ s = s) := fun e => by rw [← hF, e]; exact ⟨rfl, rfl⟩
   refine hs.load (map_get hx) c_int rfl ⟨x, rfl, trivial, _, _, _, rfl, _, box_row hrow, v0, rfl, (hv.occ s (.refl _)).load (map_get (lk_at g0 g1)) c_Look (Int.toNat_of_nonneg g0).symm ⟨(lkG v.Occ x).Value, (lkG v.Occ x).Stamp, (lkG v.Occ x).Valid, rfl, bcnot (fun e => no (by rw [Lk.clear, e]; rfl)) (fun e1 => bcn (fun e => no (by rw [Lk.clear, decide_eq_false e, Bool.and_false])) (fun e2 => ?_))⟩⟩
   have : (lkG v.Occ x).clear = true := by rw [Lk.clear, e1, decide_eq_true e2]; rfl
   rw [this, Bool.true_and] at hF
   exact andl rfl (nx (fun q => clr v.Occ q = clr v.Occ l) hF)
 · have hF := hr.done (by rw [List.length_map]) hge
   rw [← hF]; exact ⟨rfl, rfl⟩
abbrev cyPre (v0 v1 v2 v3 c0 c1 c2 c3 c4 : D) (c : Cf) : List D := [v0, v1, v2, v3, c0, c1, c2, c3, c4, iD c.Age, iD c.Brake, iD c.Hold, iD c.Budget]
abbrev cyPost (now : Int) (d : Bool) (pd : D) : List D := [iD now, .bool d, pd]
def Paths (s : Store) (pd : D) (c : Cf) : Prop :=
 ∃ rows, At Tryz.prog s t_sl_int pd rows ∧ ∀ (j : Nat) x, c.Rts[j]? = some x → ∃ qd, rows[j]? = some [qd] ∧ At Tryz.prog s t_int qd ((x.Path.map St.Sec).map Go.Fw.encI)
theorem Paths.mono {s s' : Store} {pd : D} {c : Cf} (h : Paths s pd c) (he : Ext s s') : Paths s' pd c := by
 obtain ⟨rows, h1, h2⟩ := h
 exact ⟨rows, h1.ext he, fun j x hx => by obtain ⟨qd, a, b⟩ := h2 j x hx; exact ⟨qd, a, b.ext he⟩⟩
theorem CoIn.mono {s s' : Store} {id : Nat} {t : TypeId} {pre post : List D} {d0 d1 d2 d3 d4 d5 : D} {k : Co} (h : CoIn σ0 s id t pre post d0 d1 d2 d3 d4 d5 k) (he : Ext s s') : CoIn σ0 s' id t pre post d0 d1 d2 d3 d4 d5 k :=
 ⟨h.new, live_ext h.row he, h.co.ext' he, h.ids⟩
theorem pathS_some {c : Cf} {r : Int} {x : Rt} (h : geti c.Rts r = some x) : c.pathS r = x.Path.map St.Sec := by rw [Cf.pathS, rt_some h]
section
variable {c0 c1 c2 c3 c4 v0 v1 v2 v3 : D} {c : Cf} {v : Vw} (hc : ∀ s, CfAt s c0 c1 c2 c3 c4 c) (hv : VwB σ0 v0 v1 v2 v3 v) (hvf : v.fits c = true) {id : Nat} {d0 d1 d2 d3 d4 d5 pd : D} {k : Co} {now : Int} {dd : Bool} (hP : Paths σ0 pd c)
include hc hP
theorem cycle_line_ok (hI : CoIn σ0 σ id t_kernel_cycle (cyPre v0 v1 v2 v3 c0 c1 c2 c3 c4 c) (cyPost now dd pd) d0 d1 d2 d3 d4 d5 k) (hok : c.check = 0) (hl4 : k.Lines.length = 4) {r : Int} {x : Rt} (hx : geti c.Rts r = some x) :
   Pure Tryz.prog n_kernel_cycle_line [.one (.el (.osl id 0 1) 0 0), iA r] σ (.a (.one (if c.lineR r > 0 then .el d4 (c.lineR r).toNat 0 else .nilp))) := by
 have hr := check_rt hok (geti_mem hx)
 have hg := geti_some hx
 have w1 := hr.len
 obtain ⟨rows, hat, hrows⟩ := hP.mono hI.ext
 obtain ⟨qd, hrow, hq⟩ := hrows _ _ hg.2.2
 have hlr : c.lineR r = lineF c x.Path := by rw [Cf.lineR, rt_some hx]
 rw [hlr]
 refine W_kernel_cycle_line _ r σ _ ⟨trivial, _, _, _, rfl, _, box_row hI.row, pd, rfl, hat.load hrow c_sl_int (Int.toNat_of_nonneg hg.1).symm ⟨qd, rfl, hq.lenK ⟨fun n s => s = σ ∧ Rng x.Path (fun q => lineF c q = lineF c x.Path) n, fun n _ => x.Path.length - n.toNat, ⟨rfl, .start rfl⟩, ?_⟩⟩⟩
 rintro n s ⟨rfl, hq'⟩
 rw [List.length_map, List.length_map]
 refine bcd (fun hlt => ?_) (fun hge => ?_)
 · obtain ⟨j, y, rfl, hy, hj, hF, nx⟩ := hq'.step rfl (by omega) hlt
   obtain ⟨z, hz, _⟩ := (hr.step y (List.mem_of_getElem? hy)).1.sec
   have hgz := geti_some hz
   rw [lineF, hz, Option.getD_some] at hF
   refine hq.load (map_get (map_get hy)) c_int rfl ⟨y.Sec, rfl, trivial, _, _, _, rfl, _, box_row hI.row, c0, rfl, (hc s).secs.load (map_get hgz.2.2) c_Section (Int.toNat_of_nonneg hgz.1).symm ⟨z.Line, rfl, bcd (fun e => ?_) (fun e => ?_)⟩⟩
   · rw [if_pos e] at hF
     rw [← hF, if_pos e]
     have hz3 := topo_line (check_parts hok).1 hgz.2.2
     exact ⟨trivial, _, _, _, rfl, _, box_row hI.row, d4, rfl, hI.at.lines.idxK c_LineState (Int.toNat_of_nonneg (by omega)).symm (by rw [List.length_map]; omega) ⟨rfl, rfl⟩⟩
   · rw [if_neg e] at hF
     exact andl rfl (nx _ hF)
 · have hF := hq'.done rfl hge
   rw [← hF]; exact ⟨rfl, rfl⟩
omit hc hP in
theorem ready_1_ok (hI : CoIn σ0 σ id t_kernel_cycle (cyPre v0 v1 v2 v3 c0 c1 c2 c3 c4 c) (cyPost now dd pd) d0 d1 d2 d3 d4 d5 k) {i1 i2 : Nat} {r : Int} {t1 : TypeId} (h1 : σ i1 = .live t1 [[.el (.osl id 0 1) 0 0]]) (h2 : σ i2 = .live t_int [[iD r]]) (hr : -2 ^ 62 ≤ r ∧ r ≤ 2 ^ 62) {s : Int} (hs : 0 ≤ s ∧ s < k.Own.length) :
   Pure Tryz.prog n_kernel_cycle_ready_1 [iA s, .one (.el (.osl i1 0 1) 0 0), .one (.el (.osl i2 0 1) 0 0)] σ (.a (bA (!decide (ownG k.Own s = r + 1)))) := by
 refine W_kernel_cycle_ready_1 s _ _ σ _ ⟨_, _, _, rfl, _, box_row h1, _, rfl, trivial, _, _, _, rfl, _, box_row hI.row, d0, rfl, hI.at.own.load (map_get (own_at hs.1 hs.2)) c_int (Int.toNat_of_nonneg hs.1).symm ⟨_, rfl, _, _, _, rfl, _, box_row h2, r, rfl, ?_, rfl⟩⟩
 rw [w64_id (n := r + 1) (by omega) (by omega)]
 by_cases e : ownG k.Own s = r + 1
 · rw [decide_eq_true e]; congr 3; simp [e]
 · rw [decide_eq_false e]; congr 3; simpa using e
end
theorem IndexFunc_int_ok {d f : D} {l : List Int} {p : Int → Bool} (h : At Tryz.prog σ t_int d (l.map Go.Fw.encI)) (hf : FnIs Tryz.prog σ f (fun x : Int => iA x) l p) :
   Pure Tryz.prog n_slices_IndexFunc_int [.one d, .one f] σ (.a (iA (fidx p l 0))) := by
 have hl := h.size
 rw [List.length_map] at hl
 obtain ⟨f1, a, b, as0', bs, rfl, ha, hb, hf⟩ := hf
 refine W_slices_IndexFunc_int d _ σ _ (h.lenK ⟨fun n s => s = σ ∧ Rng l (fun r => ∀ j : Nat, n = j → fidx p r j = fidx p l 0) n, fun n _ => l.length - n.toNat, ⟨rfl, .start fun j hj => by cases j with | zero => rfl | succ j => omega⟩, ?_⟩)
 rintro n τ ⟨rfl, hr⟩
 refine bcd (fun hlt => ?_) (fun hge => ?_)
 · obtain ⟨j, x, rfl, hx, hj, hF, nx⟩ := hr.step (by simp) hl hlt
   refine h.load (map_get hx) c_int rfl ⟨x, rfl, f1, a, b, as0', bs, rfl, ha, hb, ?_⟩
   have hF := hF j rfl
   rw [fidx] at hF
   refine (hf x (List.mem_of_getElem? hx)).mono ?_
   rintro r s ⟨rfl, rfl⟩
   refine ⟨p x, rfl, bc (fun hp => ?_) (fun hp => ?_)⟩
   · rw [if_pos hp] at hF; exact ⟨by rw [← hF], rfl⟩
   · refine andl rfl (nx _ fun j' hj' => ?_)
     rw [w64_succ (by omega)] at hj'
     have : j' = j + 1 := by omega
     subst this
     rw [if_neg (by rw [hp]; simp)] at hF
     exact hF
 · have hF := hr.done (by simp) hge
   obtain ⟨j, hn, _⟩ := hr
   rw [← hF j hn]; exact ⟨rfl, rfl⟩
theorem DeleteFunc_int_ok {d f : D} {l : List Int} {p : Int → Bool} (h : Own Tryz.prog σ0 σ t_int d (l.map Go.Fw.encI)) (h1 : l.length ≤ 1) (hf : FnIs Tryz.prog σ f (fun x : Int => iA x) l p) :
   DCalls Tryz.prog n_slices_DeleteFunc_int [.one d, .one f] σ fun r s => ∃ d', r = .a (.one d') ∧ Own Tryz.prog σ0 s t_int d' ((l.filter fun x => !p x).map Go.Fw.encI) := by
 refine W_slices_DeleteFunc_int d f σ _ ((IndexFunc_int_ok h.at_ hf).use ⟨_, rfl, ?_⟩)
 match l, h1, h with
 | [], _, h => exact bce (fun _ => ⟨d, rfl, h⟩) (fun e => absurd rfl e)
 | [x], _, h =>
   cases hp : p x with
   | false =>
     have e : fidx p [x] 0 = -1 := by simp [fidx, hp]
     rw [e]
     refine bce (fun _ => ⟨d, rfl, ?_⟩) (fun e => absurd rfl e)
     simpa [hp] using h
   | true =>
     have e : fidx p [x] 0 = 0 := by simp [fidx, hp]
     rw [e]
     refine bce (fun e => by cases e) (fun _ => ?_)
     have e1 : w64 (0 + 1) = 1 := w64_id (by omega) (by omega)
     rw [e1]
     refine ⟨fun n m s => n = 0 ∧ m = 1 ∧ s = σ, fun _ _ _ => 0, ⟨rfl, rfl, rfl⟩, ?_⟩
     rintro n m s ⟨rfl, rfl, rfl⟩
     refine h.at_.lenK (bcd (fun e => by simp at e) (fun _ => ?_))
     have hr := h.at_.rows
     have hns := h.nsl
     have hnew := h.new
     cases d <;> simp only [Go.Fw.Rows] at hr <;> try exact hr.elim
     · simp at hr
     · simp at hr
     · exact absurd trivial hns
     · rename_i id i0 len _
       obtain ⟨t, rows, g1, g2, g3, g4⟩ := hr
       have hlen : len = 1 := by
         have := congrArg List.length g4
         simp at this; omega
       subst hlen
       obtain ⟨y, hy⟩ : ∃ y, rows[i0]? = some y := ⟨rows[i0]'(by omega), List.getElem?_eq_getElem _⟩
       have hx := h.at_.idxN c_int
       have hl1 : (List.map Go.Fw.encI [x]).length = 1 := rfl
       have hset : ∀ n : Nat, n = 1 → List.take i0 rows ++ List.replicate n [iD 0] ++ List.drop (i0 + n) rows = rows.set i0 [iD 0] := fun n hn => by
         subst hn
         rw [List.set_eq_take_append_cons_drop, if_pos (by omega)]; simp
       have hat : Own Tryz.prog σ0 (Store.set s id (.live t (rows.set i0 [iD 0]))) t_int (.osl id i0 1) [[iD 0]] := by
         refine ⟨⟨⟨t, _, Store.set_same _ _ _, g2, by simpa using g3, ?_⟩, by simp, fun es rows e => by cases e⟩, fun i hi => ?_, hnew, h.nsl, h.nz⟩
         · rw [List.drop_set, if_neg (by omega), Nat.sub_self]
           have hd : (rows.drop i0).length ≥ 1 := by rw [List.length_drop]; omega
           cases hdr : rows.drop i0 with
           | nil => rw [hdr] at hd; simp at hd
           | cons a b => simp
         · rw [Store.set_ne _ _ (fun e => by subst e; exact hi (hnew _ _ _ rfl))]
           exact h.ext i hi
       have hsub := hat.sub (lo := 0) (hi := 0) (by omega) (by simp)
       refine ⟨1, hx, by omega, by omega, List.map Go.Fw.encI [x], ?_, .inr ⟨id, i0, 1, t, rows, by simp [dsub], g1, 1, ?_, by omega, by omega, by omega, dsub (.osl id i0 1) 0 0, rfl, ?_⟩⟩
       · show Go.Fw.Rows Tryz.prog s t_int (dsub (.osl id i0 1) 0 1) _
         simp only [dsub, Go.Fw.Rows, Nat.add_zero, Nat.sub_zero]
         exact ⟨t, rows, g1, g2, g3, g4⟩
       · rw [hset 1 rfl]; exact hat.at_.idxN c_int
       · rw [hset 1 rfl]
         simpa [hp] using hsub
 | _ :: _ :: _, h1, _ => simp at h1
end
section
variable {σ σ0 : Store}
theorem fits_rt {c : Cf} {k : Co} (h : FitIs c k) {r : Int} {x : Rt} (hx : geti c.Rts r = some x) : 0 ≤ r ∧ r < 12 ∧ r < k.Routes.length ∧ r < c.Rts.length := by
 have := geti_some hx
 have := check_small h.chk
 have := h.lRts
 omega
theorem sec_rng {c : Cf} {s : Int} (h : ∃ y, geti c.Secs s = some y) : 0 ≤ s ∧ s < c.Secs.length := by
 obtain ⟨y, hy⟩ := h
 have := geti_some hy
 omega
section
variable {c0 c1 c2 c3 c4 v0 v1 v2 v3 : D} {c : Cf} {v : Vw} (hc : ∀ s, CfAt s c0 c1 c2 c3 c4 c) (hz : RtsNz c4) (hv : VwB σ0 v0 v1 v2 v3 v) (hvf : v.fits c = true) {id : Nat} {d0 d1 d2 d3 d4 d5 pd : D} {k : Co} {now : Int} {dd : Bool} (hP : Paths σ0 pd c)
include hc hz hv hvf hP
theorem cycle_ready_ok (hI : CoIn σ0 σ id t_kernel_cycle (cyPre v0 v1 v2 v3 c0 c1 c2 c3 c4 c) (cyPost now dd pd) d0 d1 d2 d3 d4 d5 k) (hf : FitIs c k) {r : Int} {x : Rt} (hx : geti c.Rts r = some x) :
   Pure Tryz.prog n_kernel_cycle_ready [.one (.el (.osl id 0 1) 0 0), iA r] σ (.a (bA (k.ready c v r))) := by
 have hok := hf.chk
 have hr := check_rt hok (geti_mem hx)
 obtain ⟨r0, r1, r2, r3⟩ := fits_rt hf hx
 have hg := geti_some hx
 obtain ⟨l0, l1, l2, l3⟩ := of_decide_eq_true (show decide (v.Occ.length = c.Secs.length ∧ v.Pos.length = c.Secs.length ∧ v.Shut.length = c.Xs.length ∧ v.Lamp.length = c.Sigs.length) = true from hvf)
 obtain ⟨rrows, q1, q2, q3, hat, hlen, hrow, f1, f2, f3⟩ := rt_frz hc hg.2.2
 have hq3 : q3 ≠ .zsl := fun e => nz_over hz hat hrow (by rw [e]; rfl)
 obtain ⟨prows, hpat, hprows⟩ := hP.mono hI.ext
 obtain ⟨qd, hprow, hq⟩ := hprows _ _ hg.2.2
 have hsO := hf.lOwn
 have hol := hr.olen
 refine .of (W_kernel_cycle_ready _ r σ _ (newObj_intro fun i1 s1 hi1 _ e1 g1 => newObj_intro fun i2 s2 hi2 _ e2 g2 => ?_)) (flat_b _)
 have g1' := live_ext g1 e2
 have hI2 := hI.mono (e1.trans e2)
 refine ⟨_, box_row g1', _, rfl, trivial, _, _, _, rfl, _, box_row hI2.row, c4, rfl, _, box_row g2, r, rfl, (hat s2).load hrow c_Route (Int.toNat_of_nonneg r0).symm ⟨q3, rfl, (Clone_int_ok (f3 s2) hq3 (by rw [List.length_map]; omega)).mono ?_⟩⟩
 rintro q s3 ⟨w3, rfl, ho3⟩
 have e3 := ho3.ext
 have hI3 := hI2.mono e3
 have gg1 := live_ext g1' e3
 have gg2 := live_ext g2 e3
 have hov : ∀ s ∈ x.Overlap, 0 ≤ s ∧ s < c.Secs.length := fun s hs => sec_rng (by obtain ⟨y, hy, _⟩ := (hr.ov hs).1; exact ⟨y, hy⟩)
 refine ⟨w3, rfl, (DeleteFunc_int_ok (p := fun s => !decide (ownG k.Own s = r + 1)) ho3 hol ⟨_, _, _, [], [.one (.el (.osl i1 0 1) 0 0), .one (.el (.osl i2 0 1) 0 0)], rfl, rfl, rfl, fun s hs => ready_1_ok hI3 gg1 gg2 (by omega) (by have := hov s hs; omega)⟩).mono ?_⟩
 rintro q s4 ⟨w4, rfl, ho4⟩
 have hfl : (x.Overlap.filter fun s => !!decide (ownG k.Own s = r + 1)) = k.ownS c r := by
   rw [Co.ownS, rt_some hx]; congr 1; funext s; simp
 rw [hfl] at ho4
 have e4 := ho4.ext
 have hI4 := hI2.mono e4
 have gh1 := live_ext g1' e4
 have gh2 := live_ext g2 e4
 have he4 : Ext σ s4 := (e1.trans e2).trans e4
 have hR : k.ready c v r = (clr v.Occ (c.pathS r) && (clr v.Occ (k.ownS c r) && ((c.Needs r).all (needOk c k v) && ((c.Cross r).all (crossOk c k v) && lampOk c k v r)))) := rfl
 refine ⟨w4, rfl, ?_⟩
 intro R hRR
 have hps : ∀ s ∈ c.pathS r, 0 ≤ s ∧ s < c.Secs.length := fun s hs => by
   obtain ⟨j, hj⟩ := List.mem_iff_getElem?.1 hs
   exact sec_path hok hj
 rw [← pathS_some hx] at hq
 have hq4 := hq.ext he4
 have hos : ∀ s ∈ k.ownS c r, 0 ≤ s ∧ s < c.Secs.length := fun s hs => hov s (by rw [Co.ownS, rt_some hx] at hs; exact (List.mem_filter.1 hs).1)
 refine ⟨_, box_row gh1, _, rfl, trivial, _, _, _, rfl, _, box_row gh1, _, rfl, trivial, _, _, _, rfl, _, box_row hI4.row, pd, rfl, _, box_row gh2, r, rfl, (hpat.ext he4).load hprow c_sl_int (Int.toNat_of_nonneg r0).symm ⟨qd, rfl, (eye_clear_ok hI4.row (hv.mono hI4.ext) hq4 fun s hs => by have := hps s hs; omega).use ⟨_, rfl, bcnot (fun e => ⟨by rw [hR, e]; rfl, he4⟩) (fun b1 => ?_)⟩⟩⟩
 refine ⟨_, box_row gh1, _, rfl, trivial, _, _, _, rfl, (eye_clear_ok hI4.row (hv.mono hI4.ext) ho4.at_ fun s hs => by have := hos s hs; omega).use ⟨_, rfl, bcnot (fun e => ⟨by rw [hR, b1, e]; rfl, he4⟩) (fun b2 => hRR s4 ?_)⟩⟩
 rw [b1, b2, Bool.true_and, Bool.true_and] at hR
 have hyn : (c.rt r).Path.length ≤ 2 ^ 20 := by rw [rt_some hx]; have := hr.len; omega
 have hyf : (c.rt r).Flank.length ≤ 2 ^ 20 := by rw [rt_some hx]; have := hr.flen; omega
 refine ⟨_, box_row gh1, _, rfl, trivial, _, _, _, rfl, _, box_row hI4.row, c0, c1, c2, c3, c4, _, _, _, _, rfl, _, box_row gh2, r, rfl, (mover_Needs_ok hc r hyn hyf).mono ?_⟩
 rintro q s ⟨rfl, d11, rfl, h11⟩
 have hnl : (c.Needs r).length ≤ 41 := by
   rw [Cf.Needs, rt_some hx]
   have := needs_len c x
   have := hr.len; have := hr.flen; omega
 refine ⟨d11, rfl, (h11 s).lenK ⟨fun n s' => s' = s ∧ Rng (c.Needs r) (fun q => q.all (needOk c k v) = (c.Needs r).all (needOk c k v)) n, fun n _ => (c.Needs r).length - n.toNat, ⟨rfl, .start rfl⟩, ?_⟩⟩
 rintro n s' ⟨rfl, hq⟩
 rw [List.length_map]
 refine bcd (fun hlt => ?_) (fun hge => ?_)
 · obtain ⟨j, nd, rfl, hnd, hj, hF, nx⟩ := hq.step rfl (by omega) hlt
   obtain ⟨hsec, _⟩ := needs_sec hr (by have := List.mem_of_getElem? hnd; rw [Cf.Needs, rt_some hx] at this; exact this)
   obtain ⟨g0, g3⟩ := sec_rng hsec
   have hlp := hf.lPts
   rw [List.all_cons] at hF
   have no : needOk c k v nd = false → (RV.a (.one (.bool false)) = .a (bA (k.ready c v r)) ∧ Ext σ s') := fun e => by rw [hR, ← hF, e]; exact ⟨rfl, he4⟩
   refine (h11 s').load (map_get hnd) c_Need rfl ⟨nd.Sec, nd.Pos, rfl, _, box_row gh1, _, rfl, trivial, _, _, _, rfl, _, box_row hI4.row, d2, rfl, hI4.at.points.load (map_get (mv_at g0 (by omega))) c_Mover (Int.toNat_of_nonneg g0).symm ⟨(mvG k.Points nd.Sec).Cmd, (mvG k.Points nd.Sec).Other, rfl, bcn (fun e => no (by rw [needOk, decide_eq_false e]; rfl)) (fun b3 => ?_)⟩⟩
   refine ⟨_, box_row gh1, _, rfl, trivial, _, _, _, rfl, _, box_row hI4.row, v1, rfl, (hv.pos s' hI4.ext).load (map_get (lk_at g0 (by omega))) c_Look (Int.toNat_of_nonneg g0).symm ⟨(lkG v.Pos nd.Sec).Value, (lkG v.Pos nd.Sec).Stamp, (lkG v.Pos nd.Sec).Valid, rfl, _, box_row gh1, _, rfl, trivial, _, _, _, rfl, _, box_row hI4.row, c.Age, rfl, ?_⟩⟩
   refine (mover_Proven_ok (mvG k.Points nd.Sec) (lkG v.Pos nd.Sec) c.Age).use ⟨_, rfl, bcnot (fun e => no (by rw [needOk, e, Bool.and_false])) (fun b4 => ?_)⟩
   rw [needOk, decide_eq_true b3, b4, Bool.true_and, Bool.true_and] at hF
   exact andl rfl (nx (fun q => q.all (needOk c k v) = (c.Needs r).all (needOk c k v)) hF)
 have hF := hq.done rfl hge
 rw [← hF, List.all_nil, Bool.true_and] at hR
 clear hF hq hge
 have hxs := (check_xs hok).2.2
 refine ⟨_, box_row gh1, _, rfl, trivial, _, _, _, rfl, _, box_row hI4.row, c0, c1, c2, c3, c4, _, _, _, _, rfl, _, box_row gh2, r, rfl, (mover_Crossings_ok hc r (by omega)).mono ?_⟩
 rintro q s ⟨rfl, d18, rfl, h18⟩
 have hcl2 : (c.Cross r).length ≤ c.Xs.length := crossL_len _ _ _
 refine ⟨d18, rfl, (h18 s).lenK ⟨fun n s' => s' = s ∧ Rng (c.Cross r) (fun q => q.all (crossOk c k v) = (c.Cross r).all (crossOk c k v)) n, fun n _ => (c.Cross r).length - n.toNat, ⟨rfl, .start rfl⟩, ?_⟩⟩
 rintro n s' ⟨rfl, hq⟩
 rw [List.length_map]
 refine bcd (fun hlt => ?_) (fun hge => ?_)
 · obtain ⟨j, i, rfl, hi, hj, hF, nx⟩ := hq.step rfl (by omega) hlt
   obtain ⟨i', xx, e3', hxx, _⟩ := crossL_mem _ _ _ _ (List.mem_of_getElem? hi)
   rw [Nat.zero_add] at e3'
   have hil := (List.getElem?_eq_some_iff.1 hxx).1
   have hlp := hf.lXs
   have g0 : 0 ≤ i := by omega
   rw [List.all_cons] at hF
   have no : crossOk c k v i = false → (RV.a (.one (.bool false)) = .a (bA (k.ready c v r)) ∧ Ext σ s') := fun e => by rw [hR, ← hF, e]; exact ⟨rfl, he4⟩
   refine (h18 s').load (map_get hi) c_int rfl ⟨i, rfl, _, box_row gh1, _, rfl, trivial, _, _, _, rfl, _, box_row hI4.row, d3, rfl, hI4.at.xs.load (map_get (mv_at g0 (by omega))) c_Mover (Int.toNat_of_nonneg g0).symm ⟨(mvG k.Xs i).Cmd, (mvG k.Xs i).Other, rfl, ?_⟩⟩
   refine ⟨_, box_row gh1, _, rfl, trivial, _, _, _, rfl, _, box_row hI4.row, v2, rfl, (hv.shut s' hI4.ext).load (map_get (lk_at g0 (by omega))) c_Look (Int.toNat_of_nonneg g0).symm ⟨(lkG v.Shut i).Value, (lkG v.Shut i).Stamp, (lkG v.Shut i).Valid, rfl, _, box_row gh1, _, rfl, trivial, _, _, _, rfl, _, box_row hI4.row, c.Age, rfl, ?_⟩⟩
   refine (mover_Proven_ok (mvG k.Xs i) (lkG v.Shut i) c.Age).use ⟨_, rfl, bcnot (fun e => no (by rw [crossOk, e])) (fun b4 => ?_)⟩
   rw [crossOk, b4, Bool.true_and] at hF
   exact andl rfl (nx (fun q => q.all (crossOk c k v) = (c.Cross r).all (crossOk c k v)) hF)
 have hF := hq.done rfl hge
 rw [← hF, List.all_nil, Bool.true_and] at hR
 clear hF hq hge
 obtain ⟨a, ha⟩ := hr.entry
 have hga := geti_some ha
 have hl := line_ok hok x.Path
 have hlr : c.lineR r = lineF c x.Path := by rw [Cf.lineR, rt_some hx]
 have hl4 := hf.lLn
 rw [lampOk, rt_some hx] at hR
 refine ⟨_, box_row gh1, _, rfl, _, box_row gh2, r, rfl, (cycle_line_ok hc hP hI4 hok hl4 hx).use ⟨_, rfl, _, box_row gh1, _, rfl, trivial, _, _, _, rfl, _, box_row hI4.row, v3, rfl, _, box_row gh1, _, rfl, trivial, _, _, _, rfl, _, box_row hI4.row, c4, rfl, _, box_row gh2, r, rfl, ?_⟩⟩
 refine (hat s').load hrow c_Route (Int.toNat_of_nonneg r0).symm ⟨x.Entry, rfl, (hv.lamp s' hI4.ext).load (map_get (lk_at hga.1 (by omega))) c_Look (Int.toNat_of_nonneg hga.1).symm ⟨(lkG v.Lamp x.Entry).Value, (lkG v.Lamp x.Entry).Stamp, (lkG v.Lamp x.Entry).Valid, rfl, bc (fun b5 => bce (fun b6 => ?_) (fun e => ⟨by rw [hR, decide_eq_false e]; simp, he4⟩)) (fun e => ⟨by rw [hR, e]; rfl, he4⟩)⟩⟩
 rw [b5, decide_eq_true b6, Bool.true_and, Bool.true_and] at hR
 by_cases hpos : c.lineR r > 0
 · rw [if_pos hpos]
   refine ⟨false, rfl, bc (fun e => by cases e) (fun _ => ?_)⟩
   have hll : c.lineR r < k.Lines.length := by omega
   have hu := ln_at (l := k.Lines) (s := c.lineR r) (by omega) hll
   refine ⟨trivial, _, _, _, rfl, _, hI4.at.lines.row (map_get hu), (lnG k.Lines (c.lineR r)).PGrant, rfl, trivial, _, _, _, rfl, _, hI4.at.lines.row (map_get hu), (lnG k.Lines (c.lineR r)).Ask, rfl, ?_, he4⟩
   rw [hR, decide_eq_false (show ¬ c.lineR r = 0 by omega), Bool.false_or]
   by_cases e : (lnG k.Lines (c.lineR r)).PGrant = (lnG k.Lines (c.lineR r)).Ask <;> simp [e]
 · rw [if_neg hpos]
   refine ⟨true, rfl, bc (fun _ => ⟨?_, he4⟩) (fun e => by cases e)⟩
   rw [hR, decide_eq_true (show c.lineR r = 0 by omega), Bool.true_or]
end
end
section
variable {σ σ0 : Store}
/-! the greatest of two numbers, as a call that is told -/
def maxPre (d : D) (a b : Int) (xs : List A) (s : Store) : Prop := xs = [.one d] ∧ At Tryz.prog s t_int d [Go.Fw.encI a, Go.Fw.encI b]
def maxPost (d : D) (a b : Int) (xs : List A) (s : Store) (r : RV) (s' : Store) : Prop := xs = [.one d] ∧ r = .a (iA (max a b)) ∧ s' = s
theorem Max_int_ok {d : D} {a b : Int} (h : At Tryz.prog σ t_int d [Go.Fw.encI a, Go.Fw.encI b]) : Pure Tryz.prog n_slices_Max_int [.one d] σ (.a (iA (max a b))) := by
 refine W_slices_Max_int d σ _ ?_
 intro R hR
 refine h.lenK (bcd (fun e => by simp at e) (fun _ => hR σ ?_))
 refine h.load (j := 0) rfl c_int rfl ⟨a, rfl, fun m n s => s = σ ∧ ((m = a ∧ n = 1) ∨ (m = max a b ∧ n = 2)), fun m n _ => 2 - n.toNat, ⟨rfl, .inl ⟨rfl, rfl⟩⟩, ?_⟩
 rintro m n s ⟨rfl, hn⟩
 refine h.lenK (bcd (fun hlt => ?_) (fun hge => ?_))
 · rcases hn with ⟨rfl, rfl⟩ | ⟨rfl, rfl⟩
   · refine h.load (j := 1) rfl c_int rfl ⟨b, rfl, ⟨rfl, .inr ⟨?_, ?_⟩⟩, ?_⟩
     · split <;> omega
     · exact w64_id (by omega) (by omega)
     · rw [show w64 (1 + 1) = 2 from w64_id (by omega) (by omega)]; show 2 - (2 : Int).toNat < 2 - (1 : Int).toNat; decide
   · simp at hlt
 · rcases hn with ⟨rfl, rfl⟩ | ⟨rfl, rfl⟩
   · simp at hge
   · exact ⟨rfl, rfl⟩
theorem max_spec (d : D) (a b : Int) : SpecOk Tryz.prog n_slices_Max_int (maxPre d a b) (maxPost d a b) := by
 refine ⟨?_, ?_, ?_, ?_, ?_⟩
 · rintro xs s ⟨rfl, h⟩
   exact (Max_int_ok h).use ⟨rfl, rfl, rfl⟩
 · rintro xs s ⟨rfl, h⟩ hf
   exact ⟨_, s, ⟨rfl, rfl, rfl⟩, hf⟩
 · rintro xs s r s' ⟨rfl, rfl, rfl⟩ hf
   exact hf
 · rintro xs s id so hid hso ⟨rfl, h⟩
   refine ⟨⟨rfl, h.ext (Ext.new hid so)⟩, ?_⟩
   rintro r s' ⟨_, rfl, rfl⟩
   exact ⟨s, ⟨rfl, rfl, rfl⟩, hid, rfl⟩
 · rintro xs s r s' _ ⟨rfl, rfl, rfl⟩ i _
   rfl
theorem eye_behind_ok {id : Nat} {t : TypeId} {v0 v1 v2 v3 : D} {rest : List D} {v : Vw} (hrow : σ id = .live t [v0 :: rest]) (hv : VwB σ v0 v1 v2 v3 v) {s : Int} (hs : 0 ≤ s ∧ s < v.Occ.length) {d : D} {a b : Int} (hd : At Tryz.prog σ t_int d [Go.Fw.encI a, Go.Fw.encI b]) :
   Pure Tryz.prog n_kernel_eye_behind [.one (.el (.osl id 0 1) 0 0), iA s, .one d] σ (.a (bA ((lkG v.Occ s).clear && decide ((lkG v.Occ s).Stamp > max a b)))) := by
 refine .of (W_kernel_eye_behind _ s d σ _ ⟨_, _, max_spec d a b, newObj_intro fun i1 s1 hi1 _ e1 g1 => ?_⟩) (flat_b _)
 have hc1 : clr v.Occ [s] = (lkG v.Occ s).clear := by simp [clr]
 refine (eye_clear_ok (live_ext hrow e1) (hv.mono e1) (l := [s]) (At.fresh g1 (by simp) rfl) fun x hx => by rw [List.mem_singleton] at hx; subst hx; exact hs).use ⟨_, rfl, bc (fun e => ?_) (fun e => ⟨by rw [← hc1, e]; rfl, e1⟩)⟩
 refine ⟨trivial, _, _, _, rfl, _, box_row (live_ext hrow e1), v0, rfl, (hv.occ s1 e1).load (map_get (lk_at hs.1 hs.2)) c_Look (Int.toNat_of_nonneg hs.1).symm ⟨(lkG v.Occ s).Stamp, rfl, ⟨rfl, hd.ext e1⟩, ?_⟩⟩
 rintro r s2 ⟨_, rfl, rfl⟩
 exact ⟨_, rfl, by rw [← hc1, e]; rfl, e1⟩
section
variable {c0 c1 c2 c3 c4 v0 v1 v2 v3 : D} {c : Cf} {v : Vw} {id : Nat} {d0 d1 d2 d3 d4 d5 pd : D} {k : Co} {now : Int} {dd : Bool}
def CyPost (σ0 : Store) (id : Nat) (pre post : List D) (d0 d1 d2 d3 d4 d5 : D) (k : Co) (r : RV) (s : Store) : Prop := r = .tup [] ∧ CoIn σ0 s id t_kernel_cycle pre post d0 d1 d2 d3 d4 d5 k
theorem cycle_free_ok (hI : CoIn σ0 σ id t_kernel_cycle (cyPre v0 v1 v2 v3 c0 c1 c2 c3 c4 c) (cyPost now dd pd) d0 d1 d2 d3 d4 d5 k) {s : Int} (h0 : 0 ≤ s) (h1 : s < k.Own.length) :
   DCalls Tryz.prog n_kernel_cycle_free [.one (.el (.osl id 0 1) 0 0), iA s] σ (CyPost σ0 id (cyPre v0 v1 v2 v3 c0 c1 c2 c3 c4 c) (cyPost now dd pd) d0 d1 d2 d3 d4 d5 { k with Own := k.Own.set s.toNat 0, Dirty := true }) := by
 refine W_kernel_cycle_free _ s σ _ ⟨trivial, _, _, _, rfl, _, box_row hI.row, d0, rfl, hI.at.own.idxK c_int (Int.toNat_of_nonneg h0).symm (by rw [List.length_map]; omega) ?_⟩
 refine hI.putO (y := 0) (own_at h0 h1) rfl (by simp) rfl fun s1 hI1 _ => ⟨trivial, _, _, _, rfl, hI1.dirty (b := true) rfl fun s2 hI2 _ => ⟨rfl, hI2⟩⟩
theorem freeAll_go {o : Int} {l : List Int} {j : Nat} {z : Int} (h : l[j]? = some z) : (freeAll o (l.take j) ++ l.drop j)[j]? = some z ∧ (z = o → (freeAll o (l.take j) ++ l.drop j).set j 0 = freeAll o (l.take (j + 1)) ++ l.drop (j + 1)) ∧ (z ≠ o → freeAll o (l.take j) ++ l.drop j = freeAll o (l.take (j + 1)) ++ l.drop (j + 1)) := by
 obtain ⟨hl, he⟩ := List.getElem?_eq_some_iff.1 h
 have hln : (freeAll o (l.take j)).length = j := by unfold freeAll; rw [List.length_map, List.length_take]; omega
 have hd : l.drop j = z :: l.drop (j + 1) := by rw [← he]; exact List.drop_eq_getElem_cons hl
 have ht : freeAll o (l.take (j + 1)) = freeAll o (l.take j) ++ [if z = o then 0 else z] := by
   unfold freeAll; rw [List.take_add_one, h, List.map_append]; rfl
 refine ⟨?_, fun e => ?_, fun e => ?_⟩
 · rw [List.getElem?_append_right (by omega), hln, Nat.sub_self, hd]; rfl
 · rw [ht, if_pos e, hd, List.set_append_right _ _ (by omega), hln, Nat.sub_self, List.set_cons_zero]; simp
 · rw [ht, if_neg e, hd]; simp
variable (hc : ∀ s, CfAt s c0 c1 c2 c3 c4 c) (hP : Paths σ0 pd c)
include hc hP
theorem cycle_end_ok (hI : CoIn σ0 σ id t_kernel_cycle (cyPre v0 v1 v2 v3 c0 c1 c2 c3 c4 c) (cyPost now dd pd) d0 d1 d2 d3 d4 d5 k) (hf : FitIs c k) {r : Int} {x : Rt} (hx : geti c.Rts r = some x) :
   DCalls Tryz.prog n_kernel_cycle_end [.one (.el (.osl id 0 1) 0 0), iA r] σ (CyPost σ0 id (cyPre v0 v1 v2 v3 c0 c1 c2 c3 c4 c) (cyPost now dd pd) d0 d1 d2 d3 d4 d5 (k.endR c r)) := by
 have hok := hf.chk
 obtain ⟨r0, r1, r2, r3⟩ := fits_rt hf hx
 have hsm := fits_small' (fits_iff.2 hf)
 have w : w64 (r + 1) = r + 1 := w64_id (by omega) (by omega)
 refine W_kernel_cycle_end _ r σ _ ⟨trivial, _, _, _, rfl, _, box_row hI.row, d0, rfl, hI.at.own.lenK ⟨fun n s => ∃ (j : Nat) (b : Bool), n = j ∧ j ≤ k.Own.length ∧ CoIn σ0 s id t_kernel_cycle (cyPre v0 v1 v2 v3 c0 c1 c2 c3 c4 c) (cyPost now dd pd) d0 d1 d2 d3 d4 d5 { k with Own := freeAll (r + 1) (k.Own.take j) ++ k.Own.drop j, Dirty := b },
   fun n _ => k.Own.length - n.toNat, ⟨0, k.Dirty, rfl, by omega, by simpa [freeAll] using hI⟩, ?_⟩⟩
 rintro n s ⟨j, b, rfl, hj, hI1⟩
 rw [List.length_map]
 refine bcd (fun hlt => ?_) (fun hge => ?_)
 · obtain ⟨z, hz⟩ := get_of_lt (l := k.Own) (j := j) (by omega)
   obtain ⟨a1, a2, a3⟩ := freeAll_go (o := r + 1) hz
   have hl1 := (List.getElem?_eq_some_iff.1 a1).1
   refine hI1.at.own.load (map_get a1) c_int rfl ⟨z, rfl, ?_⟩
   rw [w, w64_succ (by omega)]
   refine bce (fun e => ?_) (fun e => ⟨⟨j + 1, b, rfl, by omega, by rw [← a3 e]; exact hI1⟩, dec_lt (by omega)⟩)
   refine (cycle_free_ok hI1 (s := (j : Int)) (by omega) (by simp only; omega)).mono ?_
   rintro q s2 ⟨rfl, hI2⟩
   refine ⟨rfl, ⟨j + 1, true, rfl, by omega, ?_⟩, dec_lt (by omega)⟩
   rw [← a2 e]; exact hI2
 have e : j = k.Own.length := by omega
 rw [e, List.take_length, List.drop_length, List.append_nil] at hI1
 have hl4 := hf.lLn
 refine (cycle_line_ok hc hP hI1 hok hl4 hx).use ⟨_, rfl, ?_⟩
 have fin : ∀ (L : List Ls) s2, L = doneL (c.lineR r) k.Lines → CoIn σ0 s2 id t_kernel_cycle (cyPre v0 v1 v2 v3 c0 c1 c2 c3 c4 c) (cyPost now dd pd) d0 d1 d2 d3 d4 d5 { k with Own := freeAll (r + 1) k.Own, Lines := L, Routes := k.Routes.set r.toNat ⟨0, 0, 0, 0⟩, Dirty := true } →
     CyPost σ0 id (cyPre v0 v1 v2 v3 c0 c1 c2 c3 c4 c) (cyPost now dd pd) d0 d1 d2 d3 d4 d5 (k.endR c r) (.tup []) s2 := fun L s2 hL h => ⟨rfl, by subst hL; exact h⟩
 by_cases hpos : c.lineR r > 0
 · rw [if_pos hpos]
   have hl := line_ok hok x.Path
   have hlr : c.lineR r = lineF c x.Path := by rw [Cf.lineR, rt_some hx]
   have hu := ln_at (l := k.Lines) (s := c.lineR r) (by omega) (by omega)
   refine ⟨false, rfl, bc (fun _ => ?_) (fun e => by cases e)⟩
   refine ⟨trivial, _, _, _, rfl, _, hI1.at.lines.row (map_get hu), (lnG k.Lines (c.lineR r)).Ask, rfl, trivial, _, _, _, rfl, ?_⟩
   refine hI1.putL (k := { k with Own := freeAll (r + 1) k.Own, Dirty := b }) (y := { lnG k.Lines (c.lineR r) with Done := (lnG k.Lines (c.lineR r)).Ask }) hu rfl (by simp) rfl fun s2 hI2 _ => ?_
   refine ⟨trivial, _, _, _, rfl, _, box_row hI2.row, d1, rfl, hI2.at.routes.idxK c_RouteState (Int.toNat_of_nonneg r0).symm (by rw [List.length_map]; simp only; omega) ?_⟩
   refine hI2.putR (y := ⟨0, 0, 0, 0⟩) (rsG_get r0 r2) rfl (by simp) rfl fun s3 hI3 _ => ?_
   refine ⟨trivial, _, _, _, rfl, hI3.dirty (b := true) rfl fun s4 hI4 _ => fin _ s4 ?_ hI4⟩
   rw [doneL, if_pos hpos]
 · rw [if_neg hpos]
   refine ⟨true, rfl, bc (fun e => by cases e) (fun _ => ?_)⟩
   refine ⟨trivial, _, _, _, rfl, _, box_row hI1.row, d1, rfl, hI1.at.routes.idxK c_RouteState (Int.toNat_of_nonneg r0).symm (by rw [List.length_map]; simp only; omega) ?_⟩
   refine hI1.putR (k := { k with Own := freeAll (r + 1) k.Own, Dirty := b }) (y := ⟨0, 0, 0, 0⟩) (rsG_get r0 r2) rfl (by simp) rfl fun s3 hI3 _ => ?_
   refine ⟨trivial, _, _, _, rfl, hI3.dirty (b := true) rfl fun s4 hI4 _ => fin k.Lines s4 ?_ hI4⟩
   rw [doneL, if_neg hpos]
end
end
section
variable {σ σ0 : Store}
theorem vw_len {c : Cf} {v : Vw} (h : v.fits c = true) : v.Occ.length = c.Secs.length ∧ v.Pos.length = c.Secs.length ∧ v.Shut.length = c.Xs.length ∧ v.Lamp.length = c.Sigs.length := of_decide_eq_true h
theorem hold_rng {c : Cf} (h : c.check = 0) : 0 ≤ c.Hold ∧ c.Hold ≤ 40 ∧ 1 ≤ c.Age ∧ c.Age ≤ 8 := by
 have := (check_parts h).2.2.2.2.2
 simp only [Cf.timing, Bool.and_eq_true, decide_eq_true_eq] at this
 omega
section
variable {c0 c1 c2 c3 c4 v0 v1 v2 v3 : D} {c : Cf} {v : Vw} (hc : ∀ s, CfAt s c0 c1 c2 c3 c4 c) (hv : VwB σ0 v0 v1 v2 v3 v) (hvf : v.fits c = true) {id : Nat} {d0 d1 d2 d3 d4 d5 pd : D} {k : Co} {now : Int} {dd : Bool} (hP : Paths σ0 pd c)
include hc hv hvf hP
theorem cycle_ending_ok (hI : CoIn σ0 σ id t_kernel_cycle (cyPre v0 v1 v2 v3 c0 c1 c2 c3 c4 c) (cyPost now dd pd) d0 d1 d2 d3 d4 d5 k) (hf : FitIs c k) (hn : tm 0 now = true) {r : Int} {x : Rt} (hx : geti c.Rts r = some x) :
   DCalls Tryz.prog n_kernel_cycle_ending [.one (.el (.osl id 0 1) 0 0), iA r] σ (CyPost σ0 id (cyPre v0 v1 v2 v3 c0 c1 c2 c3 c4 c) (cyPost now dd pd) d0 d1 d2 d3 d4 d5 (k.endingR c v now r)) := by
 have hok := hf.chk
 obtain ⟨r0, r1, r2, r3⟩ := fits_rt hf hx
 have hg := geti_some hx
 have hh := hold_rng hok
 have hst := rsG_get r0 r2
 have hrf := hf.rts _ _ _ hst hg.2.2
 simp only [Rs.fits, tm, Bool.and_eq_true, decide_eq_true_eq] at hrf
 have w : w64 ((rsG k.Routes r).Since + c.Hold) = (rsG k.Routes r).Since + c.Hold := w64_id (by omega) (by omega)
 have w1 : w64 (r + 1) = r + 1 := w64_id (by omega) (by omega)
 have hR1 := hI.at.routes.row (map_get hst)
 have hlen : (c.pathS r).length = x.Path.length := by rw [pathS_some hx, List.length_map]
 have hpl := (check_rt hok (geti_mem hx)).len
 refine W_kernel_cycle_ending _ r σ _ ⟨trivial, _, _, _, rfl, _, box_row hI.row, d1, rfl, hI.at.routes.load (map_get hst) c_RouteState (Int.toNat_of_nonneg r0).symm ⟨(rsG k.Routes r).Since, rfl, trivial, _, _, _, rfl, _, box_row hI.row, c.Hold, rfl, trivial, _, _, _, rfl, _, box_row hI.row, now, rfl, ?_⟩⟩
 rw [w]
 refine bcd (fun e => ⟨rfl, by rw [Co.endingR, if_pos e]; exact hI⟩) (fun e => ?_)
 intro R hRR
 have fin : ∀ s', CoIn σ0 s' id t_kernel_cycle (cyPre v0 v1 v2 v3 c0 c1 c2 c3 c4 c) (cyPost now dd pd) d0 d1 d2 d3 d4 d5 (k.goOn c v now r) → R s' := fun s' h => hRR s' (by
   have hf1 := goOn_fits (v := v) hf hn r0
   obtain ⟨_, _, r2', _⟩ := fits_rt hf1 hx
   obtain ⟨prows, hpat, hprows⟩ := hP.mono h.ext
   obtain ⟨qd, hprow, hq⟩ := hprows _ _ hg.2.2
   rw [← pathS_some hx] at hq
   refine ⟨_, h.at.routes.row (map_get (rsG_get r0 r2')), (rsG (k.goOn c v now r).Routes r).Next, rfl, trivial, _, _, _, rfl, _, box_row h.row, pd, rfl, hpat.load hprow c_sl_int (Int.toNat_of_nonneg r0).symm ⟨qd, rfl, hq.lenK ?_⟩⟩
   rw [List.length_map]
   refine bce (fun e1 => ?_) (fun e1 => ⟨rfl, by rw [Co.endingR, if_neg e, if_neg e1]; exact h⟩)
   refine (cycle_end_ok hc hP h hf1 hx).mono ?_
   rintro q s2 ⟨rfl, h2⟩
   exact ⟨rfl, rfl, by rw [Co.endingR, if_neg e, if_pos e1]; exact h2⟩)
 clear hRR
 obtain ⟨prows, hpat, hprows⟩ := hP.mono hI.ext
 obtain ⟨qd, hprow, hq⟩ := hprows _ _ hg.2.2
 rw [← pathS_some hx] at hq
 refine ⟨trivial, _, _, _, rfl, _, box_row hI.row, pd, rfl, hpat.load hprow c_sl_int (Int.toNat_of_nonneg r0).symm ⟨qd, rfl, _, hR1, (rsG k.Routes r).Next, rfl, hq.lenK ?_⟩⟩
 rw [List.length_map]
 refine bcd (fun hlt => ?_) (fun hge => fin σ ?_)
 · obtain ⟨s, hs⟩ := get_of_lt (l := c.pathS r) (j := (rsG k.Routes r).Next.toNat) (by omega)
   have hgs : geti (c.pathS r) (rsG k.Routes r).Next = some s := by unfold geti; rw [if_neg (by omega), hs]
   obtain ⟨s0, s1⟩ := sec_path hok hs
   have hlo := hf.lOwn
   have hvl := vw_len hvf
   have hgo : k.goOn c v now r = if ownG k.Own s ≠ r + 1 then k.setR r { rsG k.Routes r with Next := (rsG k.Routes r).Next + 1 }
       else if (lkG v.Occ s).clear = true ∧ (lkG v.Occ s).Stamp > (rsG k.Routes r).Since + c.Hold ∧ (lkG v.Occ s).Stamp > (rsG k.Routes r).Mark then
         { k with Own := k.Own.set s.toNat 0, Dirty := true, Routes := k.Routes.set r.toNat { rsG k.Routes r with Next := (rsG k.Routes r).Next + 1, Mark := now } }
       else k := by rw [Co.goOn, hgs]
   have wn : w64 ((rsG k.Routes r).Next + 1) = (rsG k.Routes r).Next + 1 := w64_id (by omega) (by omega)
   refine ⟨_, hR1, (rsG k.Routes r).Next, rfl, hq.load (map_get hs) c_int (Int.toNat_of_nonneg (by omega)).symm ⟨s, rfl, trivial, _, _, _, rfl, _, box_row hI.row, d0, rfl, hI.at.own.load (map_get (own_at s0 (by omega))) c_int (Int.toNat_of_nonneg s0).symm ⟨_, rfl, ?_⟩⟩⟩
   rw [w1]
   refine bcn (fun e1 => ?_) (fun e1 => ?_)
   · refine ⟨_, hR1, (rsG k.Routes r).Next, rfl, ?_⟩
     rw [wn]
     refine hI.putR (y := { rsG k.Routes r with Next := (rsG k.Routes r).Next + 1 }) hst rfl (by simp) rfl fun s2 hI2 _ => fin s2 ?_
     rw [hgo, if_pos e1]; exact hI2
   rw [if_neg (by simpa using e1)] at hgo
   refine ⟨trivial, _, _, _, rfl, _, hR1, (rsG k.Routes r).Mark, rfl, newObj_intro fun i1 s1' hi1 _ he1 g1 => ?_⟩
   have hI1 := hI.mono he1
   refine (eye_behind_ok hI1.row (hv.mono hI1.ext) (s := s) ⟨s0, by omega⟩ (d := .osl i1 0 2) (a := (rsG k.Routes r).Since + c.Hold) (b := (rsG k.Routes r).Mark) (At.fresh g1 (by simp) rfl)).use ⟨_, rfl, bc (fun e2 => ?_) (fun e2 => fin s1' ?_)⟩
   · rw [Bool.and_eq_true, decide_eq_true_eq] at e2
     rw [if_pos ⟨e2.1, by omega, by omega⟩] at hgo
     refine (cycle_free_ok hI1 s0 (by omega)).mono ?_
     rintro q s2 ⟨rfl, hI2⟩
     refine ⟨rfl, _, hI2.at.routes.row (map_get hst), (rsG k.Routes r).Next, rfl, ?_⟩
     rw [wn]
     refine hI2.putR (k := { k with Own := k.Own.set s.toNat 0, Dirty := true }) (y := { rsG k.Routes r with Next := (rsG k.Routes r).Next + 1 }) hst rfl (by simp) rfl fun s3 hI3 _ => ?_
     refine ⟨trivial, _, _, _, rfl, _, box_row hI3.row, now, rfl, ?_⟩
     refine hI3.putR (x := { rsG k.Routes r with Next := (rsG k.Routes r).Next + 1 }) (y := { rsG k.Routes r with Next := (rsG k.Routes r).Next + 1, Mark := now }) (j := r.toNat) (by show (k.Routes.set r.toNat _)[r.toNat]? = _; rw [List.getElem?_set, if_pos rfl, if_pos (by omega)]) rfl (by simp) rfl fun s4 hI4 _ => fin s4 ?_
     rw [hgo]
     have : ({ k with Own := k.Own.set s.toNat 0, Dirty := true, Routes := k.Routes.set r.toNat { rsG k.Routes r with Next := (rsG k.Routes r).Next + 1, Mark := now } } : Co) = { k with Own := k.Own.set s.toNat 0, Dirty := true, Routes := (k.Routes.set r.toNat { rsG k.Routes r with Next := (rsG k.Routes r).Next + 1 }).set r.toNat { rsG k.Routes r with Next := (rsG k.Routes r).Next + 1, Mark := now } } := by rw [List.set_set]
     rw [this]; exact hI4
   · have : ¬ ((lkG v.Occ s).clear = true ∧ (lkG v.Occ s).Stamp > (rsG k.Routes r).Since + c.Hold ∧ (lkG v.Occ s).Stamp > (rsG k.Routes r).Mark) := fun h => by
       rw [h.1, decide_eq_true (by omega)] at e2; cases e2
     rw [hgo, if_neg this]; exact hI1
 · have : geti (c.pathS r) (rsG k.Routes r).Next = none := geti_ge (by omega)
   rw [Co.goOn, this]; exact hI
end
section
variable {c0 c1 c2 c3 c4 v0 v1 v2 v3 : D} {c : Cf} {v : Vw} (hc : ∀ s, CfAt s c0 c1 c2 c3 c4 c) (hz : RtsNz c4) (hv : VwB σ0 v0 v1 v2 v3 v) (hvf : v.fits c = true) {id : Nat} {d0 d1 d2 d3 d4 d5 pd : D} {k : Co} {now : Int} {dd : Bool} (hP : Paths σ0 pd c)
include hc hz hv hvf hP
theorem cycle_route_ok (hI : CoIn σ0 σ id t_kernel_cycle (cyPre v0 v1 v2 v3 c0 c1 c2 c3 c4 c) (cyPost now dd pd) d0 d1 d2 d3 d4 d5 k) (hf : FitIs c k) (hn : tm 0 now = true) {r : Int} {x : Rt} (hx : geti c.Rts r = some x) :
   DCalls Tryz.prog n_kernel_cycle_route [.one (.el (.osl id 0 1) 0 0), iA r] σ (CyPost σ0 id (cyPre v0 v1 v2 v3 c0 c1 c2 c3 c4 c) (cyPost now dd pd) d0 d1 d2 d3 d4 d5 (k.routeR c v now dd r)) := by
 have hok := hf.chk
 obtain ⟨r0, r1, r2, r3⟩ := fits_rt hf hx
 have hg := geti_some hx
 have hst := rsG_get r0 r2
 have hR1 := hI.at.routes.row (map_get hst)
 have hvl := vw_len hvf
 obtain ⟨prows, hpat, hprows⟩ := hP.mono hI.ext
 obtain ⟨qd, hprow, hq⟩ := hprows _ _ hg.2.2
 rw [← pathS_some hx] at hq
 have hps : ∀ s ∈ c.pathS r, 0 ≤ s ∧ s < v.Occ.length := fun s hs => by
   obtain ⟨j, hj⟩ := List.mem_iff_getElem?.1 hs
   have := sec_path hok hj
   omega
 have hD : k.routeR c v now dd r = if ((rsG k.Routes r).State = 2 ∨ (rsG k.Routes r).State = 3) ∧ clr v.Occ (c.pathS r) = false then k.setR r { rsG k.Routes r with State := 4, Since := now, Mark := 0 }
     else if (rsG k.Routes r).State = 2 ∧ k.ready c v r = false then k.setR r { rsG k.Routes r with State := 3 }
     else if (rsG k.Routes r).State = 1 ∧ dd = false ∧ k.ready c v r = true then k.setR r { rsG k.Routes r with State := 2 }
     else if (rsG k.Routes r).State = 4 then k.endingR c v now r
     else k := rfl
 have hend := cycle_ending_ok hc hv hvf hP hI hf hn hx
 have hrdy := cycle_ready_ok hc hz hv hvf hP hI hf hx
 generalize k.routeR c v now dd r = k' at hD ⊢
 refine W_kernel_cycle_route _ r σ _ ⟨trivial, _, _, _, rfl, _, box_row hI.row, d1, rfl, hI.at.routes.idxK c_RouteState (Int.toNat_of_nonneg r0).symm (by rw [List.length_map]; omega) ?_⟩
 have t4 : (k' = if (rsG k.Routes r).State = 4 then k.endingR c v now r else k) → bcase ((rsG k.Routes r).State == 4) (DCalls Tryz.prog n_kernel_cycle_ending [.one (.el (.osl id 0 1) 0 0), iA r] σ fun r1 s1 => r1 = .tup [] ∧ CyPost σ0 id (cyPre v0 v1 v2 v3 c0 c1 c2 c3 c4 c) (cyPost now dd pd) d0 d1 d2 d3 d4 d5 k' (.tup []) s1) (CyPost σ0 id (cyPre v0 v1 v2 v3 c0 c1 c2 c3 c4 c) (cyPost now dd pd) d0 d1 d2 d3 d4 d5 k' (.tup []) σ) := fun hk => by
   refine bce (fun e => ?_) (fun e => ⟨rfl, by rw [hk, if_neg e]; exact hI⟩)
   rw [if_pos e] at hk
   subst hk
   exact hend.mono fun q s h => ⟨h.1, rfl, h.2⟩
 intro R hR
 have goR : ∀ b, (b = true ↔ (rsG k.Routes r).State = 2 ∨ (rsG k.Routes r).State = 3) → R b σ := fun b hb => hR b σ (by
   intro R1 hRR1
   have go1 : ∀ b1, (b1 = true ↔ ((rsG k.Routes r).State = 2 ∨ (rsG k.Routes r).State = 3) ∧ clr v.Occ (c.pathS r) = false) → R1 b1 σ := fun b1 hb1 => hRR1 b1 σ (by
     refine bc (fun e1 => ?_) (fun e1 => ?_)
     · rw [if_pos (hb1.1 e1)] at hD
       subst hD
       refine ⟨trivial, _, _, _, rfl, _, box_row hI.row, now, rfl, hI.putR (y := { rsG k.Routes r with State := 4 }) hst rfl (by simp) rfl fun s2 hI2 _ => ?_⟩
       refine hI2.putR (x := { rsG k.Routes r with State := 4 }) (y := { rsG k.Routes r with State := 4, Since := now }) (j := r.toNat) (by show (k.Routes.set r.toNat _)[r.toNat]? = _; rw [List.getElem?_set, if_pos rfl, if_pos (by omega)]) rfl (by simp) rfl fun s3 hI3 _ => ?_
       refine hI3.putR (x := { rsG k.Routes r with State := 4, Since := now }) (y := { rsG k.Routes r with State := 4, Since := now, Mark := 0 }) (j := r.toNat) (by show ((k.Routes.set r.toNat _).set r.toNat _)[r.toNat]? = _; rw [List.getElem?_set, if_pos rfl, if_pos (by rw [List.length_set]; omega)]) rfl (by simp) rfl fun s4 hI4 _ => ⟨rfl, ?_⟩
       have : k.setR r { rsG k.Routes r with State := 4, Since := now, Mark := 0 } = { k with Routes := ((k.Routes.set r.toNat { rsG k.Routes r with State := 4 }).set r.toNat { rsG k.Routes r with State := 4, Since := now }).set r.toNat { rsG k.Routes r with State := 4, Since := now, Mark := 0 } } := by
         rw [List.set_set, List.set_set]; rfl
       rw [this]; exact hI4
     · rw [if_neg (fun h => by rw [hb1.2 h] at e1; cases e1)] at hD
       intro R2 hRR2
       have go2 : ∀ b2, (b2 = true ↔ (rsG k.Routes r).State = 2 ∧ k.ready c v r = false) → R2 b2 σ := fun b2 hb2 => hRR2 b2 σ (by
         refine bc (fun e2 => ?_) (fun e2 => ?_)
         · rw [if_pos (hb2.1 e2)] at hD
           subst hD
           exact hI.putR (y := { rsG k.Routes r with State := 3 }) hst rfl (by simp) rfl fun s2 hI2 _ => ⟨rfl, hI2⟩
         · rw [if_neg (fun h => by rw [hb2.2 h] at e2; cases e2)] at hD
           refine ⟨_, hR1, (rsG k.Routes r).State, rfl, bce (fun e3 => ?_) (fun e3 => ?_)⟩
           · refine ⟨trivial, _, _, _, rfl, _, box_row hI.row, dd, rfl, bcnot (fun e4 => ?_) (fun e4 => ?_)⟩
             · refine hrdy.use ⟨_, rfl, bc (fun e5 => ?_) (fun e5 => ?_)⟩
               · rw [if_pos ⟨e3, e4, e5⟩] at hD
                 subst hD
                 exact hI.putR (y := { rsG k.Routes r with State := 2 }) hst rfl (by simp) rfl fun s2 hI2 _ => ⟨rfl, hI2⟩
               · rw [if_neg (fun h => by rw [h.2.2] at e5; cases e5)] at hD
                 exact ⟨_, hR1, _, rfl, t4 hD⟩
             · rw [if_neg (fun h => by rw [h.2.1] at e4; cases e4)] at hD
               exact ⟨_, hR1, _, rfl, t4 hD⟩
           · rw [if_neg (fun h => e3 h.1)] at hD
             exact ⟨_, hR1, _, rfl, t4 hD⟩)
       refine ⟨_, hR1, (rsG k.Routes r).State, rfl, bce (fun e3 => hrdy.use ⟨_, rfl, go2 _ ?_⟩) (fun e3 => go2 _ ?_)⟩
       · constructor
         · intro h; exact ⟨e3, by simpa using h⟩
         · intro h; rw [h.2]; rfl
       · constructor
         · intro h; cases h
         · intro h; exact absurd h.1 e3)
   refine bc (fun e => ?_) (fun e => go1 _ ⟨fun h => (by cases h), fun h => (by rw [hb.2 h.1] at e; cases e)⟩)
   refine ⟨trivial, _, _, _, rfl, trivial, _, _, _, rfl, _, box_row hI.row, pd, rfl, hpat.load hprow c_sl_int (Int.toNat_of_nonneg r0).symm ⟨qd, rfl, (eye_clear_ok hI.row (hv.mono hI.ext) hq hps).use ⟨_, rfl, go1 _ ⟨fun h => ⟨hb.1 e, by simpa using h⟩, fun h => by rw [h.2]; rfl⟩⟩⟩⟩)
 refine ⟨_, hR1, (rsG k.Routes r).State, rfl, bce (fun e => goR _ ⟨fun _ => .inl e, fun _ => rfl⟩) (fun e => ⟨_, hR1, (rsG k.Routes r).State, rfl, goR _ ⟨fun h => .inr (by simpa using h), fun h => ?_⟩⟩)⟩
 rcases h with h | h
 · exact absurd h e
 · simpa using h
end
end
section
variable {σ σ0 : Store}
theorem xsN_succ {c : Cf} {own : List Int} {now : Int} {w : List Mv} {j : Nat} {s : Int} (h : c.Xs[j]? = some s) : xsN c own now w (j + 1) = (xsN c own now w j).set j (cmdM (mvG (xsN c own now w j) j) now (if ownG own s = 0 then 2 else 1)) := by rw [xsN, h]
section
variable {c0 c1 c2 c3 c4 v0 v1 v2 v3 : D} {c : Cf} {v : Vw} (hc : ∀ s, CfAt s c0 c1 c2 c3 c4 c) {id : Nat} {d0 d1 d2 d3 d4 d5 pd : D} {k : Co} {now : Int} {dd : Bool}
include hc
theorem cycle_crossings_ok (hI : CoIn σ0 σ id t_kernel_cycle (cyPre v0 v1 v2 v3 c0 c1 c2 c3 c4 c) (cyPost now dd pd) d0 d1 d2 d3 d4 d5 k) (hf : FitIs c k) :
   DCalls Tryz.prog n_kernel_cycle_crossings [.one (.el (.osl id 0 1) 0 0)] σ (CyPost σ0 id (cyPre v0 v1 v2 v3 c0 c1 c2 c3 c4 c) (cyPost now dd pd) d0 d1 d2 d3 d4 d5 { k with Xs := xsN c k.Own now k.Xs c.Xs.length }) := by
 have hok := hf.chk
 have hxs := check_xs hok
 have hlo := hf.lOwn
 have hlx := hf.lXs
 refine W_kernel_cycle_crossings _ σ _ ⟨trivial, _, _, _, rfl, _, box_row hI.row, c3, rfl, (hc σ).xs.lenK ⟨fun n s => ∃ j : Nat, n = j ∧ j ≤ c.Xs.length ∧ CoIn σ0 s id t_kernel_cycle (cyPre v0 v1 v2 v3 c0 c1 c2 c3 c4 c) (cyPost now dd pd) d0 d1 d2 d3 d4 d5 { k with Xs := xsN c k.Own now k.Xs j },
   fun n _ => c.Xs.length - n.toNat, ⟨0, rfl, by omega, hI⟩, ?_⟩⟩
 rintro n s ⟨j, rfl, hj, hI1⟩
 rw [List.length_map]
 refine bcd (fun hlt => ?_) (fun hge => ?_)
 · obtain ⟨q, hq⟩ := get_of_lt (l := c.Xs) (j := j) (by omega)
   obtain ⟨z, hz, _⟩ := hxs.1 q (List.mem_of_getElem? hq)
   have hgz := geti_some hz
   have hln := xsN_len (c := c) (own := k.Own) (now := now) (w := k.Xs) j
   have hm := mv_at (l := xsN c k.Own now k.Xs j) (s := (j : Int)) (by omega) (by omega)
   rw [Int.toNat_natCast] at hm
   have hsu := xsN_succ (own := k.Own) (now := now) (w := k.Xs) hq
   have go : ∀ (cmd : Int) s1, cmd = (if ownG k.Own q = 0 then 2 else 1) → CoIn σ0 s1 id t_kernel_cycle (cyPre v0 v1 v2 v3 c0 c1 c2 c3 c4 c) (cyPost now dd pd) d0 d1 d2 d3 d4 d5 { k with Xs := (xsN c k.Own now k.Xs j).set j (cmdM (mvG (xsN c k.Own now k.Xs j) j) now cmd) } →
       (∃ i : Nat, w64 ((j : Int) + 1) = i ∧ i ≤ c.Xs.length ∧ CoIn σ0 s1 id t_kernel_cycle (cyPre v0 v1 v2 v3 c0 c1 c2 c3 c4 c) (cyPost now dd pd) d0 d1 d2 d3 d4 d5 { k with Xs := xsN c k.Own now k.Xs i }) ∧ c.Xs.length - (w64 ((j : Int) + 1)).toNat < c.Xs.length - ((j : Nat) : Int).toNat := fun cmd s1 hcmd h => by
     rw [w64_succ (by omega)]
     refine ⟨⟨j + 1, rfl, by omega, ?_⟩, dec_lt (by omega)⟩
     rw [hsu, ← hcmd]; exact h
   have step : ∀ cmd : Int, cmd = (if ownG k.Own q = 0 then 2 else 1) → ∃ pre : List A → Store → Prop, ∃ post : List A → Store → RV → Store → Prop, SpecOk Tryz.prog n_mover_Command pre post ∧ (NotNil (.el (.osl id 0 1) 0 0)) ∧ ∃ (s2 : D) (i2 off2 : Nat), ((.el (.osl id 0 1) 0 0 : D) = (.el s2 i2 off2 : D)) ∧ ∃ row4 : List D, Row s s2 i2 row4 ∧ ∃ d2' : D, ((List.take 1 (List.drop ((off2 + 13) + 3) row4)) = ([d2'] : List D)) ∧ (NotNil (.el (.osl id 0 1) 0 0)) ∧ ∃ (s3 : D) (i3 off3 : Nat), ((.el (.osl id 0 1) 0 0 : D) = (.el s3 i3 off3 : D)) ∧ ∃ row5 : List D, Row s s3 i3 row5 ∧ ∃ d3' : D, ((List.take 1 (List.drop ((off3 + 13) + 3) row5)) = ([d3'] : List D)) ∧
       ∃ len3 : Nat, Idx Tryz.prog s d3' 2 len3 ∧ (0 : Int) ≤ (j : Int) ∧ (j : Int) < (len3 : Int) ∧ ∃ row6 : List D, Row s d3' (Int.toNat (j : Int)) row6 ∧ ∃ n3 n4 : Int, List.take 2 row6 = [iD n3, iD n4] ∧ (NotNil (.el (.osl id 0 1) 0 0)) ∧ ∃ (s4 : D) (i4 off4 : Nat), ((.el (.osl id 0 1) 0 0 : D) = (.el s4 i4 off4 : D)) ∧ ∃ row7 : List D, Row s s4 i4 row7 ∧ ∃ n5 : Int, List.take 1 (List.drop (off4 + 20) row7) = [iD n5] ∧ pre [.agg [iD n3, iD n4], iA n5, iA cmd] s ∧
       ∀ r : RV, ∀ s5 : Store, post [.agg [iD n3, iD n4], iA n5, iA cmd] s r s5 → ∃ n6 n7 : Int, r = .a (.agg [iD n6, iD n7]) ∧ ∃ len4 : Nat, Idx Tryz.prog s5 d2' 2 len4 ∧ (0 : Int) ≤ (j : Int) ∧ (j : Int) < (len4 : Int) ∧ storeEl [iD n6, iD n7] s5 d2' (Int.toNat (j : Int)) 0 (fun s1 => (∃ i : Nat, w64 ((j : Int) + 1) = i ∧ i ≤ c.Xs.length ∧ CoIn σ0 s1 id t_kernel_cycle (cyPre v0 v1 v2 v3 c0 c1 c2 c3 c4 c) (cyPost now dd pd) d0 d1 d2 d3 d4 d5 { k with Xs := xsN c k.Own now k.Xs i }) ∧ c.Xs.length - (w64 ((j : Int) + 1)).toNat < c.Xs.length - ((j : Nat) : Int).toNat) := fun cmd hcmd => by
     refine ⟨cmdPre, cmdPost, cmd_spec, trivial, _, _, _, rfl, _, box_row hI1.row, d3, rfl, trivial, _, _, _, rfl, _, box_row hI1.row, d3, rfl, hI1.at.xs.load (map_get hm) c_Mover rfl ⟨(mvG (xsN c k.Own now k.Xs j) j).Cmd, (mvG (xsN c k.Own now k.Xs j) j).Other, rfl, trivial, _, _, _, rfl, _, box_row hI1.row, now, rfl, ⟨mvG (xsN c k.Own now k.Xs j) j, now, cmd, rfl⟩, ?_⟩⟩
     intro q8 s8 hq8
     obtain ⟨rfl, rfl⟩ := cmd_post (m := mvG (xsN c k.Own now k.Xs j) j) hq8
     refine ⟨_, _, rfl, hI1.at.xs.idxK c_Mover rfl (by simp only [List.length_map]; omega) ?_⟩
     exact hI1.putX (k := { k with Xs := xsN c k.Own now k.Xs j }) (y := cmdM (mvG (xsN c k.Own now k.Xs j) j) now cmd) hm (by rw [Int.toNat_natCast]) (by simp) rfl fun s11 hI11 _ => go cmd s11 hcmd hI11
   refine (hc s).xs.load (map_get hq) c_int rfl ⟨q, rfl, trivial, _, _, _, rfl, _, box_row hI1.row, d0, rfl, hI1.at.own.load (map_get (own_at (l := k.Own) hgz.1 (by omega))) c_int (Int.toNat_of_nonneg hgz.1).symm ⟨_, rfl, bce (fun e => step 2 (by rw [if_pos e])) (fun e => step 1 (by rw [if_neg e]))⟩⟩
 · have e : j = c.Xs.length := by omega
   rw [e] at hI1
   exact ⟨rfl, hI1⟩
omit hc in
theorem cycle_resets_ok (hv : VwB σ0 v0 v1 v2 v3 v) (hvf : v.fits c = true) (hI : CoIn σ0 σ id t_kernel_cycle (cyPre v0 v1 v2 v3 c0 c1 c2 c3 c4 c) (cyPost now dd pd) d0 d1 d2 d3 d4 d5 k) (hf : FitIs c k) :
   DCalls Tryz.prog n_kernel_cycle_resets [.one (.el (.osl id 0 1) 0 0)] σ (CyPost σ0 id (cyPre v0 v1 v2 v3 c0 c1 c2 c3 c4 c) (cyPost now dd pd) d0 d1 d2 d3 d4 d5 (rstN v k k.Resets.length)) := by
 have hvl := vw_len hvf
 have hlr := hf.lRes
 have hlo := hf.lOwn
 have hsm := check_small hf.chk
 refine W_kernel_cycle_resets _ σ _ ⟨trivial, _, _, _, rfl, _, box_row hI.row, d5, rfl, hI.at.resets.lenK ⟨fun n s => ∃ j : Nat, n = j ∧ j ≤ k.Resets.length ∧ CoIn σ0 s id t_kernel_cycle (cyPre v0 v1 v2 v3 c0 c1 c2 c3 c4 c) (cyPost now dd pd) d0 d1 d2 d3 d4 d5 (rstN v k j),
   fun n _ => k.Resets.length - n.toNat, ⟨0, rfl, by omega, hI⟩, ?_⟩⟩
 rintro n s ⟨j, rfl, hj, hI1⟩
 rw [List.length_map]
 refine bcd (fun hlt => ?_) (fun hge => ?_)
 · have hr := rstN_rst (v := v) (k := k) j
   have hsu : rstN v k (j + 1) = (rstN v k j).rstOne v j := rfl
   generalize rstN v k j = k1 at *
   have h1 := hr.lRes
   have h2 := hr.lOwn
   have hz := own_at (l := k1.Resets) (s := (j : Int)) (by omega) (by omega)
   have ho := own_at (l := k1.Own) (s := (j : Int)) (by omega) (by omega)
   rw [Int.toNat_natCast] at hz ho
   have go : ∀ (k' : Co) s1, k' = k1.rstOne v j → CoIn σ0 s1 id t_kernel_cycle (cyPre v0 v1 v2 v3 c0 c1 c2 c3 c4 c) (cyPost now dd pd) d0 d1 d2 d3 d4 d5 k' →
       (∃ i : Nat, w64 ((j : Int) + 1) = i ∧ i ≤ k.Resets.length ∧ CoIn σ0 s1 id t_kernel_cycle (cyPre v0 v1 v2 v3 c0 c1 c2 c3 c4 c) (cyPost now dd pd) d0 d1 d2 d3 d4 d5 (rstN v k i)) ∧ k.Resets.length - (w64 ((j : Int) + 1)).toNat < k.Resets.length - ((j : Nat) : Int).toNat := fun k' s1 hk h => by
     rw [w64_succ (by omega)]
     refine ⟨⟨j + 1, rfl, by omega, ?_⟩, dec_lt (by omega)⟩
     rw [hsu, ← hk]; exact h
   refine hI1.at.resets.load (map_get hz) c_int rfl ⟨_, rfl, bcd (fun e => go k1 s (by rw [Co.rstOne, if_pos e]) hI1) (fun e => ?_)⟩
   refine ⟨trivial, _, _, _, rfl, _, box_row hI1.row, d0, rfl, hI1.at.own.load (map_get ho) c_int rfl ⟨_, rfl, bcn (fun e1 => ?_) (fun e1 => ?_)⟩⟩
   · refine ⟨trivial, _, _, _, rfl, _, box_row hI1.row, d5, rfl, hI1.at.resets.idxK c_int rfl (by rw [List.length_map]; omega) ?_⟩
     exact hI1.putZ (y := 0) hz rfl (by simp) rfl fun s2 hI2 _ => go _ s2 (by rw [Co.rstOne, if_neg e, if_pos e1, Int.toNat_natCast]) hI2
   refine ⟨trivial, _, _, _, rfl, newObj_intro fun i1 s1 hi1 _ he1 g1 => ?_⟩
   have hI2 := hI1.mono he1
   have hc1 : clr v.Occ [(j : Int)] = (lkG v.Occ j).clear := by simp [clr]
   refine (eye_clear_ok hI2.row (hv.mono hI2.ext) (l := [(j : Int)]) (At.fresh g1 (by simp) rfl) fun x hx => by rw [List.mem_singleton] at hx; subst hx; omega).use ⟨_, rfl, bc (fun e2 => ?_) (fun e2 => go k1 s1 ?_ hI2)⟩
   · rw [hc1] at e2
     refine ⟨trivial, _, _, _, rfl, _, box_row hI2.row, v0, rfl, (hv.occ s1 hI2.ext).load (map_get (lk_at (s := (j : Int)) (by omega) (by omega))) c_Look rfl ⟨(lkG v.Occ j).Stamp, rfl, bcd (fun e3 => ?_) (fun e3 => go k1 s1 ?_ hI2)⟩⟩
     · refine (cycle_free_ok hI2 (s := (j : Int)) (by omega) (by omega)).mono ?_
       rintro q s2 ⟨rfl, hI3⟩
       refine ⟨rfl, trivial, _, _, _, rfl, _, box_row hI3.row, d5, rfl, hI3.at.resets.idxK c_int rfl (by rw [List.length_map]; simp only; omega) ?_⟩
       refine hI3.putZ (k := { k1 with Own := k1.Own.set ((j : Int)).toNat 0, Dirty := true }) (y := 0) hz rfl (by simp) rfl fun s4 hI4 _ => go _ s4 ?_ hI4
       rw [Co.rstOne, if_neg e, if_neg (by simpa using e1), if_pos ⟨e2, e3⟩, Int.toNat_natCast]
     · rw [Co.rstOne, if_neg e, if_neg (by simpa using e1), if_neg (fun h => e3 h.2)]
   · rw [hc1] at e2
     rw [Co.rstOne, if_neg e, if_neg (by simpa using e1), if_neg (fun h => by rw [h.1] at e2; cases e2)]
 · have e : j = k.Resets.length := by omega
   rw [e] at hI1
   exact ⟨rfl, hI1⟩
/-! the signals, as a call that is told -/
def aspPre (id : Nat) (row : List D) (d1 : D) (rs : List Rs) (xs : List A) (s : Store) : Prop := xs = [.one (.el (.osl id 0 1) 0 0)] ∧ s id = .live t_kernel_cycle [row] ∧ At Tryz.prog s t_RouteState d1 (rs.map Rs.enc)
def aspPost (c : Cf) (rs : List Rs) (xs : List A) (s : Store) (r : RV) (s' : Store) : Prop := ∃ i, s i = .free ∧ r = .a (.one (.osl i 0 c.Sigs.length)) ∧ s' = s.set i (.live t_int ((aspN c rs c.Rts.length).map Go.Fw.encI))
omit hc in
theorem set_set (s : Store) (i : Nat) (a b : SO) : (s.set i a).set i b = s.set i b := by
 funext j
 by_cases e : j = i
 · subst e; rw [Store.set_same, Store.set_same]
 · rw [Store.set_ne _ _ e, Store.set_ne _ _ e, Store.set_ne _ _ e]
theorem cycle_aspects_ok {post : List D} {rs : List Rs} (hok : c.check = 0) (hl : rs.length = c.Rts.length)
   (hrow : σ id = .live t_kernel_cycle [cyPre v0 v1 v2 v3 c0 c1 c2 c3 c4 c ++ ([d0, d1, d2, d3, d4, d5, .bool k.Dirty] ++ post)]) (hrs : At Tryz.prog σ t_RouteState d1 (rs.map Rs.enc)) :
   DCalls Tryz.prog n_kernel_cycle_aspects [.one (.el (.osl id 0 1) 0 0)] σ (aspPost c rs [.one (.el (.osl id 0 1) 0 0)] σ) := by
 have hsm := check_small hok
 obtain ⟨rows, hat, hlen, hrow4⟩ := rts_froz fun s => (hc s).rts
 refine W_kernel_cycle_aspects _ σ _ ⟨trivial, _, _, _, rfl, _, box_row hrow, c2, rfl, (hc σ).sigs.lenK ⟨by omega, by omega, by rw [List.length_map]; omega, newObj_intro fun i s1 hi hs1 he1 g1 => ?_⟩⟩
 rw [List.length_map, Int.toNat_natCast] at hs1 g1 ⊢
 have hne : id ≠ i := fun e => by rw [← e, hrow] at hi; cases hi
 refine ⟨trivial, _, _, _, rfl, _, box_row (live_ext hrow he1), c4, rfl, (hat s1).lenK ?_⟩
 rw [hlen]
 refine ⟨fun n s => ∃ j : Nat, n = j ∧ j ≤ c.Rts.length ∧ s = σ.set i (.live t_int ((aspN c rs j).map Go.Fw.encI)), fun n _ => c.Rts.length - n.toNat, ⟨0, rfl, by omega, by rw [hs1, aspN, List.map_replicate]; rfl⟩, ?_⟩
 rintro n s ⟨j, rfl, hj, hs⟩
 have he : Ext σ s := by rw [hs]; exact Ext.new hi _
 have hg : s i = .live t_int ((aspN c rs j).map Go.Fw.encI) := by rw [hs]; exact Store.set_same _ _ _
 refine bcd (fun hlt => ?_) (fun hge => ?_)
 · obtain ⟨x, hx⟩ := get_of_lt (l := c.Rts) (j := j) (by omega)
   obtain ⟨row, hrw⟩ := get_of_lt (l := rows) (j := j) (by omega)
   obtain ⟨q1, q2, q3, rfl, _⟩ := hrow4 j row x hrw hx
   obtain ⟨y, hy⟩ := get_of_lt (l := rs) (j := j) (by omega)
   have hyG : rsG rs (j : Int) = y := by unfold rsG; rw [geti_nat, hy]; rfl
   have hxr : c.rt (j : Int) = x := rt_at (by omega) (by rw [Int.toNat_natCast]; exact hx)
   obtain ⟨a, ha⟩ := (check_rt hok (List.mem_of_getElem? hx)).entry
   have hga := geti_some ha
   have hsu : aspN c rs (j + 1) = if y.State = 2 then (aspN c rs j).set x.Entry.toNat (max (ownG (aspN c rs j) x.Entry) (if x.Shunt = true then 1 else 2)) else aspN c rs j := by rw [aspN, hyG, hxr]
   have hal := aspN_len (c := c) (rs := rs) j
   have go : ∀ s2, s2 = σ.set i (.live t_int ((aspN c rs (j + 1)).map Go.Fw.encI)) → (∃ j' : Nat, w64 ((j : Int) + 1) = j' ∧ j' ≤ c.Rts.length ∧ s2 = σ.set i (.live t_int ((aspN c rs j').map Go.Fw.encI))) ∧ c.Rts.length - (w64 ((j : Int) + 1)).toNat < c.Rts.length - ((j : Nat) : Int).toNat := fun s2 h => by
     rw [w64_succ (by omega)]
     exact ⟨⟨j + 1, rfl, by omega, h⟩, dec_lt (by omega)⟩
   refine (hat s).load hrw c_Route rfl ⟨x.Entry, x.Exit, q1, q2, q3, x.Shunt, rfl, trivial, _, _, _, rfl, _, box_row (live_ext hrow he), d1, rfl, (hrs.ext he).load (map_get hy) c_RouteState rfl ⟨y.State, rfl, bcn (fun e => go s ?_) (fun e => ?_)⟩⟩
   · rw [hsu, if_neg e]; exact hs
   rw [if_pos e] at hsu
   have ho := own_at (l := aspN c rs j) hga.1 (by omega)
   have hatI : At Tryz.prog s t_int (.osl i 0 c.Sigs.length) ((aspN c rs j).map Go.Fw.encI) := At.fresh hg (by rw [List.length_map, hal]; omega) (by rw [List.length_map, hal])
   have put : ∀ m : Int, m = max (ownG (aspN c rs j) x.Entry) (if x.Shunt = true then 1 else 2) → storeEl [iD m] s (.osl i 0 c.Sigs.length) x.Entry.toNat 0 (fun s2 => (∃ j' : Nat, w64 ((j : Int) + 1) = j' ∧ j' ≤ c.Rts.length ∧ s2 = σ.set i (.live t_int ((aspN c rs j').map Go.Fw.encI))) ∧ c.Rts.length - (w64 ((j : Int) + 1)).toNat < c.Rts.length - ((j : Nat) : Int).toNat) := fun m hm => by
     refine ⟨i, 0, c.Sigs.length, t_int, (aspN c rs j).map Go.Fw.encI, Go.Fw.encI (ownG (aspN c rs j) x.Entry), rfl, by omega, hg, by rw [Nat.zero_add]; exact map_get ho, by simp [Go.Fw.encI], go _ ?_⟩
     rw [hsu, hs, set_set, Nat.zero_add, ← hm, ← map_set]
     rfl
   refine bc (fun e1 => ?_) (fun e1 => ?_)
   · refine hatI.load (map_get ho) c_int (Int.toNat_of_nonneg hga.1).symm ⟨_, rfl, hatI.idxK c_int (Int.toNat_of_nonneg hga.1).symm (by rw [List.length_map]; omega) (put _ ?_)⟩
     rw [show (if x.Shunt = true then (1 : Int) else 2) = 1 from if_pos e1]; split <;> omega
   · refine hatI.load (map_get ho) c_int (Int.toNat_of_nonneg hga.1).symm ⟨_, rfl, hatI.idxK c_int (Int.toNat_of_nonneg hga.1).symm (by rw [List.length_map]; omega) (put _ ?_)⟩
     rw [show (if x.Shunt = true then (1 : Int) else 2) = 2 from if_neg (by rw [e1]; decide)]; split <;> omega
 · have e : j = c.Rts.length := by omega
   subst e
   exact ⟨i, hi, rfl, hs⟩
theorem asp_spec {post : List D} {rs : List Rs} (hok : c.check = 0) (hl : rs.length = c.Rts.length) :
   SpecOk Tryz.prog n_kernel_cycle_aspects (aspPre id (cyPre v0 v1 v2 v3 c0 c1 c2 c3 c4 c ++ ([d0, d1, d2, d3, d4, d5, .bool k.Dirty] ++ post)) d1 rs) (aspPost c rs) := by
 refine ⟨?_, ?_, ?_, ?_, ?_⟩
 · rintro xs s ⟨rfl, h1, h2⟩
   exact (cycle_aspects_ok hc hok hl h1 h2)
 · rintro xs s ⟨rfl, h1, h2⟩ ⟨N, hN⟩
   exact ⟨_, _, ⟨N, hN N (Nat.le_refl _), rfl, rfl⟩, Fin.set' ⟨N, hN⟩ _ _⟩
 · rintro xs s r s' ⟨i, h3, rfl, rfl⟩ hf
   exact hf.set' _ _
 · rintro xs s i so hi hso ⟨rfl, h1, h2⟩
   have he := Ext.new hi so
   refine ⟨⟨rfl, live_ext h1 he, h2.ext he⟩, ?_⟩
   rintro r s' ⟨i', g3, rfl, rfl⟩
   have hne : i' ≠ i := fun e => by subst e; rw [Store.set_same] at g3; exact hso g3
   rw [Store.set_ne _ _ hne] at g3
   refine ⟨s.set i' (.live t_int ((aspN c rs c.Rts.length).map Go.Fw.encI)), ⟨i', g3, rfl, rfl⟩, ?_, set_comm (Ne.symm hne) _ _⟩
   rw [Store.set_ne _ _ (Ne.symm hne)]; exact hi
 · rintro xs s r s' _ ⟨i', h3, rfl, rfl⟩ j hj
   exact Store.set_ne _ _ (fun e => hj (e ▸ h3))
end
end
section
variable {σ σ0 : Store}
theorem kernel_copied_ok {k0 k1 k2 k3 k4 k5 : D} {k : Co} (hk : CoAt σ k0 k1 k2 k3 k4 k5 k) (hf : CoFit k0 k1 k2 k3 k4 k5 k) :
   DCalls Tryz.prog n_kernel_copied [coA k0 k1 k2 k3 k4 k5 k.Dirty] σ fun r s => ∃ d0 d1 d2 d3 d4 d5, r = .a (coA d0 d1 d2 d3 d4 d5 k.Dirty) ∧ CoOwn σ s d0 d1 d2 d3 d4 d5 k := by
 refine W_kernel_copied k0 k1 k2 k3 k4 k5 k.Dirty σ _ ((Clone_int_ok hk.own hf.n0 (by rw [List.length_map]; exact hf.b0)).mono ?_)
 rintro r s0 ⟨d0, rfl, o0⟩
 have e0 := o0.ext
 refine ⟨d0, rfl, (Clone_RouteState_ok (hk.routes.ext e0) hf.n1 (by rw [List.length_map]; exact hf.b1)).mono ?_⟩
 rintro r s1 ⟨d1, rfl, o1⟩
 have e1 := e0.trans o1.ext
 refine ⟨d1, rfl, (Clone_Mover_ok (hk.points.ext e1) hf.n2 (by rw [List.length_map]; exact hf.b2)).mono ?_⟩
 rintro r s2 ⟨d2, rfl, o2⟩
 have e2 := e1.trans o2.ext
 refine ⟨d2, rfl, (Clone_Mover_ok (hk.xs.ext e2) hf.n3 (by rw [List.length_map]; exact hf.b3)).mono ?_⟩
 rintro r s3 ⟨d3, rfl, o3⟩
 have e3 := e2.trans o3.ext
 refine ⟨d3, rfl, (Clone_LineState_ok (hk.lines.ext e3) hf.n4 (by rw [List.length_map]; exact hf.b4)).mono ?_⟩
 rintro r s4 ⟨d4, rfl, o4⟩
 have e4 := e3.trans o4.ext
 refine ⟨d4, rfl, (Clone_int_ok (hk.resets.ext e4) hf.n5 (by rw [List.length_map]; exact hf.b5)).mono ?_⟩
 rintro r s5 ⟨d5, rfl, o5⟩
 have x1 := o0.ext' o1.ext
 have x2 := x1.ext' o2.ext
 have x3 := x2.ext' o3.ext
 have x4 := x3.ext' o4.ext
 have y1 := o1.from e0
 have y2 := y1.ext' o2.ext
 have y3 := y2.ext' o3.ext
 have y4 := y3.ext' o4.ext
 have z2 := o2.from e1
 have z3 := z2.ext' o3.ext
 have z4 := z3.ext' o4.ext
 have u3 := o3.from e2
 have u4 := u3.ext' o4.ext
 have w4 := o4.from e3
 refine ⟨d5, rfl, d0, d1, d2, d3, d4, d5, rfl, x4.ext' o5.ext, y4.ext' o5.ext, z4.ext' o5.ext, u4.ext' o5.ext, w4.ext' o5.ext, o5.from e4, ?_⟩
 simp only [List.pairwise_cons, List.mem_cons, List.not_mem_nil, or_false, forall_eq_or_imp, forall_eq, List.Pairwise.nil, and_true, false_imp_iff, implies_true]
 exact ⟨⟨o1.apart o0.at_, o2.apart x1.at_, o3.apart x2.at_, o4.apart x3.at_, o5.apart x4.at_⟩, ⟨o2.apart y1.at_, o3.apart y2.at_, o4.apart y3.at_, o5.apart y4.at_⟩, ⟨o3.apart z2.at_, o4.apart z3.at_, o5.apart z4.at_⟩, ⟨o4.apart u3.at_, o5.apart u4.at_⟩, o5.apart w4.at_⟩
theorem hide_ex (s : Store) (S : Nat → Prop) : ∃ τ : Store, (∀ i, S i → τ i = .free) ∧ ∀ i, ¬ S i → τ i = s i := by
 have h : ∀ i, ∃ b : SO, (S i → b = .free) ∧ (¬ S i → b = s i) := fun i => by
   by_cases hs : S i
   · exact ⟨.free, fun _ => rfl, fun h => absurd hs h⟩
   · exact ⟨s i, fun h => absurd h hs, fun _ => rfl⟩
 obtain ⟨f, hf⟩ := Classical.axiomOfChoice h
 exact ⟨f, fun i => (hf i).1, fun i => (hf i).2⟩
def Hid (id : Nat) (d0 d1 d2 d3 d4 d5 : D) (i : Nat) : Prop := i = id ∨ ∃ d ∈ [d0, d1, d2, d3, d4, d5], idOf d = some i
theorem Own.base {τ s : Store} {el : TypeId} {d : D} {rs : List (List D)} (h : Own Tryz.prog σ0 s el d rs) (he : Ext τ s) (hn : ∀ i, idOf d = some i → τ i = .free) : Own Tryz.prog τ s el d rs :=
 ⟨h.at_, he, fun id i len e => hn id (by subst e; rfl), h.nsl, h.nz⟩
theorem hide_ext {τ s : Store} {S : Nat → Prop} (h1 : ∀ i, S i → τ i = .free) (h2 : ∀ i, ¬ S i → τ i = s i) : Ext τ s := fun i hi => by
 by_cases hs : S i
 · exact absurd (h1 i hs) hi
 · exact (h2 i hs).symm
theorem live_idOf {s : Store} {el : TypeId} {d : D} {rs : List (List D)} (h : At Tryz.prog s el d rs) {i : Nat} (hi : idOf d = some i) : s i ≠ .free := by
 cases d with
 | osl id a n =>
   have e : id = i := by simpa [idOf] using hi
   subst e
   obtain ⟨t, rows, g1, _⟩ := h.rows
   rw [g1]; intro e; cases e
 | _ => simp [idOf] at hi
section
variable {id : Nat} {t : TypeId} {pre post : List D} {d0 d1 d2 d3 d4 d5 : D} {k : Co}
theorem CoIn.base {τ s : Store} (h : CoIn σ0 s id t pre post d0 d1 d2 d3 d4 d5 k) (he : Ext τ s) (hn : ∀ i, Hid id d0 d1 d2 d3 d4 d5 i → τ i = .free) : CoIn τ s id t pre post d0 d1 d2 d3 d4 d5 k :=
 ⟨hn id (.inl rfl), h.row, ⟨Own.base h.co.own he fun i hi => hn i (.inr ⟨d0, by simp, hi⟩), Own.base h.co.routes he fun i hi => hn i (.inr ⟨d1, by simp, hi⟩), Own.base h.co.points he fun i hi => hn i (.inr ⟨d2, by simp, hi⟩),
   Own.base h.co.xs he fun i hi => hn i (.inr ⟨d3, by simp, hi⟩), Own.base h.co.lines he fun i hi => hn i (.inr ⟨d4, by simp, hi⟩), Own.base h.co.resets he fun i hi => hn i (.inr ⟨d5, by simp, hi⟩), h.co.apart⟩, h.ids⟩
theorem CoIn.hid {s : Store} (h : CoIn σ0 s id t pre post d0 d1 d2 d3 d4 d5 k) {i : Nat} (hi : Hid id d0 d1 d2 d3 d4 d5 i) : s i ≠ .free ∧ σ0 i = .free := by
 rcases hi with rfl | ⟨d, hd, hi⟩
 · exact ⟨(by rw [h.row]; intro e; cases e), h.new⟩
 · simp only [List.mem_cons, List.not_mem_nil, or_false] at hd
   rcases hd with rfl | rfl | rfl | rfl | rfl | rfl
   · exact ⟨live_idOf h.co.own.at_ hi, own_id' h.co.own hi⟩
   · exact ⟨live_idOf h.co.routes.at_ hi, own_id' h.co.routes hi⟩
   · exact ⟨live_idOf h.co.points.at_ hi, own_id' h.co.points hi⟩
   · exact ⟨live_idOf h.co.xs.at_ hi, own_id' h.co.xs hi⟩
   · exact ⟨live_idOf h.co.lines.at_ hi, own_id' h.co.lines hi⟩
   · exact ⟨live_idOf h.co.resets.at_ hi, own_id' h.co.resets hi⟩
theorem CoIn.keep {s s' : Store} (h : CoIn σ0 s id t pre post d0 d1 d2 d3 d4 d5 k) (he : Ext σ0 s') (hs : ∀ i, Hid id d0 d1 d2 d3 d4 d5 i → s' i = s i) : CoIn σ0 s' id t pre post d0 d1 d2 d3 d4 d5 k := by
 have al : ∀ {d : D} {el : TypeId} {rs : List (List D)}, d ∈ [d0, d1, d2, d3, d4, d5] → Own Tryz.prog σ0 s el d rs → Own Tryz.prog σ0 s' el d rs := fun hd g =>
   ⟨g.at_.same fun i a n e => hs i (.inr ⟨_, hd, by subst e; rfl⟩), he, g.new, g.nsl, g.nz⟩
 exact ⟨h.new, by rw [hs id (.inl rfl)]; exact h.row, ⟨al (by simp) h.co.own, al (by simp) h.co.routes, al (by simp) h.co.points, al (by simp) h.co.xs, al (by simp) h.co.lines, al (by simp) h.co.resets, h.co.apart⟩, h.ids⟩
end
def BgPost (σ : Store) (v0 v1 v2 v3 c0 c1 c2 c3 c4 : D) (c : Cf) (k : Co) (v : Vw) (now : Int) (r : RV) (s : Store) : Prop :=
 ((k.fits c = false ∨ v.fits c = false) ∧ r = .tup [.one .nilp, bA false] ∧ s = σ) ∨
 (k.fits c = true ∧ v.fits c = true ∧ ∃ (id : Nat) (d0 d1 d2 d3 d4 d5 pd : D) (σ1 : Store), r = .tup [.one (.el (.osl id 0 1) 0 0), bA true] ∧ Ext σ σ1 ∧
   CoIn σ1 s id t_kernel_cycle (cyPre v0 v1 v2 v3 c0 c1 c2 c3 c4 c) (cyPost now k.Dirty pd) d0 d1 d2 d3 d4 d5 k ∧ Paths σ1 pd c)
structure PathsTo (σ τ s : Store) (pd : D) (rows : List (List D)) (c : Cf) (j : Nat) (H : Nat → Prop) : Prop where
 ext : Ext σ τ
 own : Own Tryz.prog τ s t_sl_int pd rows
 len : rows.length = j
 rows : ∀ (i : Nat) x, i < j → c.Rts[i]? = some x → ∃ qd, rows[i]? = some [qd] ∧ At Tryz.prog τ t_int qd ((x.Path.map St.Sec).map Go.Fw.encI)
 apart : ∀ i, idOf pd = some i → ¬ H i
section
variable {c0 c1 c2 c3 c4 v0 v1 v2 v3 : D} {c : Cf} {v : Vw} (hc : ∀ s, CfAt s c0 c1 c2 c3 c4 c) (hv : VwB σ v0 v1 v2 v3 v)
include hc hv
theorem kernel_begin_ok {k0 k1 k2 k3 k4 k5 : D} {k : Co} (hk : CoAt σ k0 k1 k2 k3 k4 k5 k) (hkf : CoFit k0 k1 k2 k3 k4 k5 k) (now : Int) :
   DCalls Tryz.prog n_kernel_begin [cfA c0 c1 c2 c3 c4 c, coA k0 k1 k2 k3 k4 k5 k.Dirty, .agg [v0, v1, v2, v3], iA now] σ (BgPost σ v0 v1 v2 v3 c0 c1 c2 c3 c4 c k v now) := by
 refine W_kernel_begin _ _ _ _ _ _ _ _ _ k0 k1 k2 k3 k4 k5 k.Dirty v0 v1 v2 v3 now σ _ ?_
 intro R hR
 have novf : ¬ (v.Occ.length = c.Secs.length ∧ v.Pos.length = c.Secs.length ∧ v.Shut.length = c.Xs.length ∧ v.Lamp.length = c.Sigs.length) → BgPost σ v0 v1 v2 v3 c0 c1 c2 c3 c4 c k v now (.tup [.one .nilp, .one (.bool false)]) σ := fun h => .inl ⟨.inr (decide_eq_false h), rfl, rfl⟩
 refine (locks_Fits_ok hc hk).use ⟨_, rfl, bcnot (fun e => .inl ⟨.inl e, rfl, rfl⟩) (fun hfit => (hv.occ σ (.refl _)).lenK ((hc σ).secs.lenK ?_))⟩
 rw [List.length_map, List.length_map]
 refine bcn (fun e => novf fun h => e (by omega)) (fun e1 => (hv.pos σ (.refl _)).lenK ((hc σ).secs.lenK ?_))
 rw [List.length_map, List.length_map]
 refine bcn (fun e => novf fun h => e (by omega)) (fun e2 => (hv.shut σ (.refl _)).lenK ((hc σ).xs.lenK ?_))
 rw [List.length_map, List.length_map]
 refine bcn (fun e => novf fun h => e (by omega)) (fun e3 => (hv.lamp σ (.refl _)).lenK ((hc σ).sigs.lenK ?_))
 rw [List.length_map, List.length_map]
 refine bcn (fun e => novf fun h => e (by omega)) (fun e4 => hR σ ?_)
 have hvf : v.fits c = true := decide_eq_true ⟨by omega, by omega, by omega, by omega⟩
 have hfi := fits_iff.1 hfit
 have hok := hfi.chk
 have hsm := check_small hok
 clear novf hR
 refine (kernel_copied_ok hk hkf).mono ?_
 rintro r s1 ⟨d0, d1, d2, d3, d4, d5, rfl, hco⟩
 refine ⟨_, _, _, _, _, _, _, rfl, newObj_intro fun id s2 hid _ he2 g2 => ?_⟩
 obtain ⟨rows, hat, hlen, hrow⟩ := rts_froz fun s => (hc s).rts
 have hidσ : σ id = .free := by
   by_cases hf : σ id = .free
   · exact hf
   · have := hco.own.ext id hf; rw [hid] at this; exact this.symm
 have hlv : ∀ d ∈ [d0, d1, d2, d3, d4, d5], idOf d ≠ some id := fun d hd hi => by
   simp only [List.mem_cons, List.not_mem_nil, or_false] at hd
   rcases hd with rfl | rfl | rfl | rfl | rfl | rfl
   · exact live_idOf hco.own.at_ hi hid
   · exact live_idOf hco.routes.at_ hi hid
   · exact live_idOf hco.points.at_ hi hid
   · exact live_idOf hco.xs.at_ hi hid
   · exact live_idOf hco.lines.at_ hi hid
   · exact live_idOf hco.resets.at_ hi hid
 have hI0 : CoIn σ s2 id t_kernel_cycle (cyPre v0 v1 v2 v3 c0 c1 c2 c3 c4 c) (cyPost now k.Dirty .nils) d0 d1 d2 d3 d4 d5 k := ⟨hidσ, g2, hco.ext' he2, hlv⟩
 obtain ⟨τ0, t1, t2⟩ := hide_ex s2 (Hid id d0 d1 d2 d3 d4 d5)
 have hx0 := hide_ext t1 t2
 have hσ0 : Ext σ τ0 := fun i hi => by
   rw [t2 i (fun h => hi (hI0.hid h).2)]; exact hI0.ext i hi
 refine (hat s2).lenK ⟨fun n s => ∃ (j : Nat) (pd : D) (τ : Store) (rs : List (List D)), n = j ∧ j ≤ c.Rts.length ∧ CoIn τ s id t_kernel_cycle (cyPre v0 v1 v2 v3 c0 c1 c2 c3 c4 c) (cyPost now k.Dirty pd) d0 d1 d2 d3 d4 d5 k ∧ PathsTo σ τ s pd rs c j (Hid id d0 d1 d2 d3 d4 d5),
   fun n _ => c.Rts.length - n.toNat, ⟨0, .nils, τ0, [], rfl, by omega, hI0.base hx0 t1, hσ0, .nil _ hx0, rfl, fun i x h => by omega, fun i h => by cases h⟩, ?_⟩
 rw [hlen]
 rintro n s ⟨j, pd, τ, rs, rfl, hj, hI, hP⟩
 refine bcd (fun hlt => ?_) (fun hge => ?_)
 · obtain ⟨x, hx⟩ := get_of_lt (l := c.Rts) (j := j) (by omega)
   obtain ⟨row, hrw⟩ := get_of_lt (l := rows) (j := j) (by omega)
   obtain ⟨q1, q2, q3, rfl, f1, f2, f3⟩ := hrow j row x hrw hx
   have hpl := (check_rt hok (List.mem_of_getElem? hx)).len
   refine (hat s).load hrw c_Route rfl ⟨x.Entry, x.Exit, q1, q2, q3, x.Shunt, rfl, (f1 s).lenK ⟨fun d n s' => ∃ i : Nat, n = i ∧ i ≤ x.Path.length ∧ Own Tryz.prog s s' t_int d (((x.Path.take i).map St.Sec).map Go.Fw.encI), fun _ n _ => x.Path.length - n.toNat, ⟨0, rfl, by omega, by simpa using Own.nil (P := Tryz.prog) (el := t_int) s (Ext.refl s)⟩, ?_⟩⟩
   rintro d9 n s' ⟨i, rfl, hi, ho⟩
   rw [List.length_map]
   refine bcd (fun hlt => ?_) (fun hge => ?_)
   · obtain ⟨y, hy⟩ := get_of_lt (l := x.Path) (j := i) (by omega)
     refine (f1 s').load (map_get hy) c_Step rfl ⟨y.Sec, y.In, y.Out, rfl, newObj_intro fun i1 s3 hi1 _ he3 g3 => ?_⟩
     refine (ho.ext' he3).append (At.fresh g3 (by simp) rfl) (by simp; omega) (by simp; omega) fun d' s4 ho' _ _ => ?_
     rw [w64_succ (by omega)]
     refine ⟨⟨i + 1, rfl, by omega, ?_⟩, dec_lt (by omega)⟩
     rw [List.take_add_one, hy, List.map_append, List.map_append]; exact ho'
   have e : i = x.Path.length := by omega
   rw [e, List.take_length] at ho
   have hI1 := hI.mono ho.ext
   have hpo := hP.own.ext' ho.ext
   obtain ⟨τ', t1, t2⟩ := hide_ex s' (fun i => Hid id d0 d1 d2 d3 d4 d5 i ∨ idOf pd = some i)
   have hx := hide_ext t1 t2
   have hττ : Ext τ τ' := fun i hi => by
     rw [t2 i (fun h => hi (h.elim (fun h => (hI1.hid h).2) (fun h => own_id' hpo h)))]; exact hpo.ext i hi
   have hI2 := hI1.base hx fun i h => t1 i (.inl h)
   have hp2 := Own.base hpo hx fun i h => t1 i (.inr h)
   have hd9 : At Tryz.prog τ' t_int d9 ((x.Path.map St.Sec).map Go.Fw.encI) := ho.at_.same fun i a n e => t2 i fun h => by
     have hn : s i = .free := own_id' ho (by subst e; rfl)
     rcases h with h | h
     · exact (hI.hid h).1 hn
     · exact live_idOf hP.own.at_ h hn
   refine ⟨_, box_row hI1.row, pd, rfl, newObj_intro fun i1 s5 hi1 _ he5 g5 => ?_⟩
   refine (hp2.ext' he5).append (At.fresh g5 (by simp) rfl) (by simp [hP.len]; omega) (by simp [hP.len]; omega) fun pd' s6 ho6 h1 h2 => ?_
   have hI5 := hI2.mono he5
   have hI6 := hI5.keep ho6.ext fun i hi => h1 i (hI5.hid hi).1 fun a b e => hP.apart i (by rw [e]; rfl) hi
   have hap : ∀ i, idOf pd' = some i → ¬ Hid id d0 d1 d2 d3 d4 d5 i := fun i hi hh => by
     cases pd' with
     | osl i' a b =>
       have e : i' = i := by simpa [idOf] using hi
       subst e
       rcases h2 _ _ _ rfl with h | ⟨a', b', h⟩
       · exact (hI5.hid hh).1 h
       · exact hP.apart i' (by rw [h]; rfl) hh
     | _ => simp [idOf] at hi
   refine cell_store hI6.row (by simp) fun s7 h7 hs7 => ?_
   rw [w64_succ (by omega)]
   have hpd7 := own_other ho6 hI6.new (fun h => hap id h (.inl rfl)) hs7
   have al : ∀ {d : D} {el : TypeId} {rs : List (List D)}, d ∈ [d0, d1, d2, d3, d4, d5] → Own Tryz.prog τ' s6 el d rs → Own Tryz.prog τ' s7 el d rs := fun hd g => own_other g hI6.new (hI6.ids _ hd) hs7
   refine ⟨⟨j + 1, pd', τ', rs ++ [[d9]], rfl, by omega, ⟨hI6.new, h7, ⟨al (by simp) hI6.co.own, al (by simp) hI6.co.routes, al (by simp) hI6.co.points, al (by simp) hI6.co.xs, al (by simp) hI6.co.lines, al (by simp) hI6.co.resets, hI6.co.apart⟩, hI6.ids⟩, hP.ext.trans hττ, hpd7, by simp [hP.len], fun i y hi hy => ?_, hap⟩, dec_lt (by omega)⟩
   by_cases e : i < j
   · obtain ⟨qd, a1, a2⟩ := hP.rows i y e hy
     exact ⟨qd, by rw [List.getElem?_append_left (by rw [hP.len]; exact e)]; exact a1, a2.ext hττ⟩
   · have e : i = j := by omega
     subst e
     have hxy : c.Rts[i]? = some x := by assumption
     rw [hxy] at hy; cases hy
     exact ⟨d9, by rw [List.getElem?_append_right (Nat.le_of_eq hP.len), hP.len, Nat.sub_self]; rfl, hd9⟩
 · have e : j = c.Rts.length := by omega
   subst e
   obtain ⟨τ', t1, t2⟩ := hide_ex s (Hid id d0 d1 d2 d3 d4 d5)
   have hx := hide_ext t1 t2
   have hττ : Ext τ τ' := fun i hi => by
     rw [t2 i (fun h => hi (hI.hid h).2)]; exact hI.ext i hi
   refine .inr ⟨hfit, hvf, id, d0, d1, d2, d3, d4, d5, pd, τ', rfl, hP.ext.trans hττ, hI.base hx t1, rs, hP.own.at_.same fun i a n e => t2 i (hP.apart i (by subst e; rfl)), fun i x hx => ?_⟩
   obtain ⟨qd, a1, a2⟩ := hP.rows i x (List.getElem?_eq_some_iff.1 hx).1 hx
   exact ⟨qd, a1, a2.ext hττ⟩
end
end
section
variable {σ σ0 : Store}
def KPost (σ : Store) (p : Co × List Int × Int) (r : RV) (s : Store) : Prop :=
 ∃ d0 d1 d2 d3 d4 d5 d6, r = .tup [coA d0 d1 d2 d3 d4 d5 p.1.Dirty, .one d6, iA p.2.2] ∧ CoOwn σ s d0 d1 d2 d3 d4 d5 p.1 ∧ At Tryz.prog s t_int d6 (p.2.1.map Go.Fw.encI) ∧ ∀ id i len, d6 = .osl id i len → σ id = .free
def KPostZ (σ : Store) (p : Co × List Int × Int) (r : RV) (s : Store) : Prop :=
 s = σ ∧ ∃ d0 d1 d2 d3 d4 d5 d6, r = .tup [coA d0 d1 d2 d3 d4 d5 p.1.Dirty, .one d6, iA p.2.2] ∧ CoFz d0 d1 d2 d3 d4 d5 p.1 ∧ ∀ s, At Tryz.prog s t_int d6 (p.2.1.map Go.Fw.encI)
theorem kpost_frz {f : FuncId} {xs : List A} {p : Co × List Int × Int} (h : DCalls Tryz.prog f xs σ (KPost σ p)) : DCalls Tryz.prog f xs σ (KPostZ σ p) := by
 refine h.ret ?_
 rintro r s ⟨d0, d1, d2, d3, d4, d5, d6, rfl, hco, ha, hn⟩
 obtain ⟨e0, e1, e2, e3, e4, e5, hfz, hz⟩ := co_frz hco
 obtain ⟨e6, hf6, h6⟩ := ret_slice ha hco.own.ext hn (flat_ints _ flat_co.1 _)
 refine ⟨.tup [coA e0 e1 e2 e3 e4 e5 p.1.Dirty, .one e6, iA p.2.2], σ, .pure hco.own.ext ⟨rfl, fun i x y h1 h2 => ?_⟩, rfl, _, _, _, _, _, _, _, rfl, hz, h6⟩
 rcases i with _ | _ | _ | i
 · simp at h1 h2; subst h1 h2; exact hfz
 · simp at h1 h2; subst h1 h2; exact hf6
 · simp at h1 h2; subst h1 h2; exact .int _ _
 · simp at h1
section
variable {c0 c1 c2 c3 c4 v0 v1 v2 v3 : D} {c : Cf} {v : Vw} (hc : ∀ s, CfAt s c0 c1 c2 c3 c4 c) (hz : RtsNz c4) (hv : VwB σ v0 v1 v2 v3 v)
include hc hz hv
theorem kernel_Step_b {k0 k1 k2 k3 k4 k5 : D} {k : Co} (hk : CoAt σ k0 k1 k2 k3 k4 k5 k) (hkf : CoFit k0 k1 k2 k3 k4 k5 k) (now : Int) :
   DCalls Tryz.prog n_kernel_Step [cfA c0 c1 c2 c3 c4 c, coA k0 k1 k2 k3 k4 k5 k.Dirty, .agg [v0, v1, v2, v3], iA now] σ (KPost σ (k.stepK c v now)) := by
 have cpy : ∀ (s : Store) (e : Int), Ext σ s → k.stepK c v now = (k, [], e) → DCalls Tryz.prog n_kernel_copied [coA k0 k1 k2 k3 k4 k5 k.Dirty] s fun r1 s1 => ∃ d1 d2 d3 d4 d5 d6 : D, ∃ b1 : Bool, r1 = .a (.agg [d1, d2, d3, d4, d5, d6, .bool b1]) ∧ KPost σ (k.stepK c v now) (.tup [.agg [d1, d2, d3, d4, d5, d6, .bool b1], .one .nils, iA e]) s1 := fun s e he hs => by
   refine (kernel_copied_ok (hk.ext' he) hkf).mono ?_
   rintro r s1 ⟨e0, e1, e2, e3, e4, e5, rfl, hco⟩
   refine ⟨_, _, _, _, _, _, _, rfl, ?_⟩
   rw [hs]
   exact ⟨_, _, _, _, _, _, _, rfl, hco.from he, .nil, fun _ _ _ e => by cases e⟩
 refine W_kernel_Step _ _ _ _ _ _ _ _ _ k0 k1 k2 k3 k4 k5 k.Dirty v0 v1 v2 v3 now σ _ ((kernel_begin_ok hc hv hk hkf now).mono ?_)
 rintro r s (⟨hbad, rfl, rfl⟩ | ⟨hfit, hvf, id, d0, d1, d2, d3, d4, d5, pd, σ1, rfl, he1, hI, hP⟩)
 · exact ⟨_, _, rfl, bcnot (fun _ => cpy _ 21 (.refl _) (by rw [Co.stepK, if_pos hbad])) (fun e => by cases e)⟩
 have hn21 : ¬ (k.fits c = false ∨ v.fits c = false) := by rw [hfit, hvf]; simp
 have he : Ext σ s := he1.trans hI.ext
 refine ⟨_, _, rfl, bcnot (fun e => by cases e) (fun _ => ?_)⟩
 intro R hR
 have n32 : tm 0 now = false → k.stepK c v now = (k, [], 32) := fun h => by rw [Co.stepK, if_neg hn21, if_pos h]
 refine bcd (fun e => cpy _ 32 he (n32 (decide_eq_false (by omega)))) (fun e1 => bcd (fun e => cpy _ 32 he (n32 (decide_eq_false (by omega)))) (fun e2 => hR _ _ _ _ _ _ _ s ?_))
 have hn : tm 0 now = true := decide_eq_true ⟨by omega, by omega⟩
 have hS : k.stepK c v now = (k.stepY c v now, aspN c (k.stepY c v now).Routes c.Rts.length, 0) := by rw [Co.stepK, if_neg hn21, if_neg (by rw [hn]; decide)]
 clear n32 cpy hR
 have hfi := fits_iff.1 hfit
 have hok := hfi.chk
 have hsm := check_small hok
 obtain ⟨rows, hat, hlen⟩ := rts_len (hc s)
 refine hat.lenK ⟨fun n s => ∃ j : Nat, n = j ∧ j ≤ c.Rts.length ∧ CoIn σ1 s id t_kernel_cycle (cyPre v0 v1 v2 v3 c0 c1 c2 c3 c4 c) (cyPost now k.Dirty pd) d0 d1 d2 d3 d4 d5 (routesR c v now k.Dirty k j),
   fun n _ => c.Rts.length - n.toNat, ⟨0, rfl, by omega, hI⟩, ?_⟩
 rw [hlen]
 rintro n s2 ⟨j, rfl, hj, hI2⟩
 refine bcd (fun hlt => ?_) (fun hge => ?_)
 · obtain ⟨x, hx⟩ := get_of_lt (l := c.Rts) (j := j) (by omega)
   refine (cycle_route_ok hc hz (hv.mono he1) hvf hP hI2 (routesR_fits hfi hn j) hn (r := (j : Int)) (by rw [geti_nat]; exact hx)).mono ?_
   rintro q s3 ⟨rfl, hI3⟩
   rw [w64_succ (by omega)]
   exact ⟨rfl, rfl, ⟨j + 1, rfl, by omega, hI3⟩, dec_lt (by omega)⟩
 have e : j = c.Rts.length := by omega
 subst e
 have hf1 : FitIs c (k.stepR c v now) := routesR_fits hfi hn _
 refine (cycle_crossings_ok hc (k := k.stepR c v now) hI2 hf1).mono ?_
 rintro q s3 ⟨rfl, hI3⟩
 refine ⟨rfl, (cycle_resets_ok (k := k.stepX c v now) (hv.mono he1) hvf hI3 (stepX_fits hfi hn)).mono ?_⟩
 rintro q s4 ⟨rfl, hI4⟩
 have hf4 := stepY_fits (v := v) hfi hn
 have hI4 : CoIn σ1 s4 id t_kernel_cycle (cyPre v0 v1 v2 v3 c0 c1 c2 c3 c4 c) (cyPost now k.Dirty pd) d0 d1 d2 d3 d4 d5 (k.stepY c v now) := hI4
 rw [hS]
 generalize k.stepY c v now = k4 at *
 refine ⟨rfl, _, _, asp_spec hc (id := id) (post := cyPost now k.Dirty pd) (k := k4) (d0 := d0) (d1 := d1) (d2 := d2) (d3 := d3) (d4 := d4) (d5 := d5) (v0 := v0) (v1 := v1) (v2 := v2) (v3 := v3) hok hf4.lRts, trivial, _, _, _, rfl, _, box_row hI4.row, d0, d1, d2, d3, d4, d5, k4.Dirty, rfl, ⟨rfl, hI4.row, hI4.at.routes⟩, ?_⟩
 rintro r s5 ⟨i, hi, rfl, rfl⟩
 have he5 : Ext s4 (s4.set i (.live t_int ((aspN c k4.Routes c.Rts.length).map Go.Fw.encI))) := Ext.new hi _
 have hal := aspN_len (c := c) (rs := k4.Routes) c.Rts.length
 refine ⟨_, rfl, d0, d1, d2, d3, d4, d5, _, rfl, (hI4.co.ext' he5).from he1, At.fresh (Store.set_same _ _ _) (by rw [List.length_map, hal]; omega) (by rw [List.length_map, hal]), fun id' i' len' e => ?_⟩
 injection e with e
 subst e
 by_cases hf : σ i = .free
 · exact hf
 · have h1 := he1 i hf
   have h2 := hI4.ext i (by rw [h1]; exact hf)
   rw [hi, h1] at h2; exact h2.symm
theorem kernel_Ready_b {k0 k1 k2 k3 k4 k5 : D} {k : Co} (hk : CoAt σ k0 k1 k2 k3 k4 k5 k) (hkf : CoFit k0 k1 k2 k3 k4 k5 k) (r : Int) :
   Pure Tryz.prog n_kernel_Ready [cfA c0 c1 c2 c3 c4 c, coA k0 k1 k2 k3 k4 k5 k.Dirty, .agg [v0, v1, v2, v3], iA r] σ (.a (bA (k.readyC c v r))) := by
 refine .of (W_kernel_Ready _ _ _ _ _ _ _ _ _ k0 k1 k2 k3 k4 k5 k.Dirty v0 v1 v2 v3 r σ _ ((kernel_begin_ok hc hv hk hkf 0).mono ?_)) (flat_b _)
 rintro q s (⟨hbad, rfl, rfl⟩ | ⟨hfit, hvf, id, d0, d1, d2, d3, d4, d5, pd, σ1, rfl, he1, hI, hP⟩)
 · refine ⟨_, _, rfl, bc (fun e => by cases e) (fun _ => ⟨?_, .refl _⟩)⟩
   have : k.readyC c v r = false := by
     unfold Co.readyC
     rcases hbad with h | h <;> rw [h] <;> simp
   rw [this]
 have he : Ext σ s := he1.trans hI.ext
 obtain ⟨rows, hat, hlen⟩ := rts_len (hc s)
 have hQ : k.readyC c v r = (decide (0 ≤ r ∧ r < c.Rts.length) && k.ready c v r) := by unfold Co.readyC; rw [hfit, hvf]; rfl
 refine ⟨_, _, rfl, bc (fun _ => bcd (fun g0 => hat.lenK ?_) (fun g0 => ⟨by rw [hQ, decide_eq_false (by omega)]; rfl, he⟩)) (fun e => by cases e)⟩
 rw [hlen]
 refine bcd (fun g1 => ?_) (fun g1 => ⟨by rw [hQ, decide_eq_false (by omega)]; rfl, he⟩)
 obtain ⟨x, hx⟩ := geti_ex (l := c.Rts) (i := r) (by omega) (by omega)
 refine (cycle_ready_ok hc hz (hv.mono he1) hvf hP hI (fits_iff.1 hfit) hx).use ⟨_, rfl, ?_, he⟩
 rw [hQ, decide_eq_true ⟨g0, g1⟩, Bool.true_and]
end
section
variable {c0 c1 c2 c3 c4 v0 v1 v2 v3 : D} {c : Cf} {v : Vw} (hc : ∀ s, CfAt s c0 c1 c2 c3 c4 c) (hz : RtsNz c4) (hv : VwAt v0 v1 v2 v3 v)
include hc hz hv
theorem kernel_Step_ok {k0 k1 k2 k3 k4 k5 : D} {k : Co} (hk : CoAt σ k0 k1 k2 k3 k4 k5 k) (hkf : CoFit k0 k1 k2 k3 k4 k5 k) (now : Int) :
   DCalls Tryz.prog n_kernel_Step [cfA c0 c1 c2 c3 c4 c, coA k0 k1 k2 k3 k4 k5 k.Dirty, .agg [v0, v1, v2, v3], iA now] σ (KPost σ (k.stepK c v now)) := kernel_Step_b hc hz (VwAt.b hv) hk hkf now
theorem kernel_Step_z {k0 k1 k2 k3 k4 k5 : D} {k : Co} (hk : CoAt σ k0 k1 k2 k3 k4 k5 k) (hkf : CoFit k0 k1 k2 k3 k4 k5 k) (now : Int) :
   DCalls Tryz.prog n_kernel_Step [cfA c0 c1 c2 c3 c4 c, coA k0 k1 k2 k3 k4 k5 k.Dirty, .agg [v0, v1, v2, v3], iA now] σ (KPostZ σ (k.stepK c v now)) := kpost_frz (kernel_Step_ok hc hz hv hk hkf now)
theorem kernel_Ready_ok {k0 k1 k2 k3 k4 k5 : D} {k : Co} (hk : CoAt σ k0 k1 k2 k3 k4 k5 k) (hkf : CoFit k0 k1 k2 k3 k4 k5 k) (r : Int) :
   Pure Tryz.prog n_kernel_Ready [cfA c0 c1 c2 c3 c4 c, coA k0 k1 k2 k3 k4 k5 k.Dirty, .agg [v0, v1, v2, v3], iA r] σ (.a (bA (k.readyC c v r))) := kernel_Ready_b hc hz (VwAt.b hv) hk hkf r
end
end
section
theorem ty_RouteZ {row : List D} {n : Nat} (h : tyD Tryz.prog n t_Route row) : ∃ r : Rt, ((∀ s, RtAt Tryz.prog t_Step t_Need t_int s row r) ∧ RtI r) ∧ row[4]? ≠ some .zsl := by
 obtain ⟨_, _, rfl, ⟨a, rfl, ha⟩, _, _, rfl, ⟨b, rfl, hb⟩, d1, _, rfl, h1, d2, _, rfl, h2, d3, _, rfl, h3, _, _, rfl, ⟨sh, rfl⟩, rfl⟩ := ty_sh n 5 _ _ [.int .i64, .int .i64, .sl t_Step, .sl t_Need, .sl t_int, .bool] h (by kernel_rfl)
 obtain ⟨l1, a1, b1, _, e1⟩ := sh_rows (bytes := 24) St.enc _ (fun row n h => ty_Step h) (by kernel_rfl) (by omega) h1
 obtain ⟨l2, a2, b2, _, e2⟩ := sh_rows (bytes := 16) Nd.enc _ (fun row n h => ty_Need h) (by kernel_rfl) (by omega) h2
 obtain ⟨l3, a3, b3, z3, e3⟩ := sh_rows (bytes := 8) Go.Fw.encI _ (fun row n h => ty_i h) (by kernel_rfl) (by omega) h3
 exact ⟨⟨a, b, l1, l2, l3, sh⟩, ⟨fun s => ⟨d1, d2, d3, rfl, a1 s, a2 s, a3 s⟩, wf_i64 ha, wf_i64 hb, b1, b2, b3, e1, e2, e3⟩, fun e => z3 (by injection e)⟩
theorem ty_ConfigZ {cs : List D} {n : Nat} (h : tyD Tryz.prog n t_Config cs) : ∃ c0 c1 c2 c3 c4 c, cs = [c0, c1, c2, c3, c4, iD c.Age, iD c.Brake, iD c.Hold, iD c.Budget] ∧ (∀ s, CfAt s c0 c1 c2 c3 c4 c) ∧ CfI c ∧ RtsNz c4 := by
 obtain ⟨c0, _, rfl, h0, c1, _, rfl, h1, c2, _, rfl, h2, c3, _, rfl, h3, c4, _, rfl, h4, _, _, rfl, ⟨a, rfl, ha⟩, _, _, rfl, ⟨b, rfl, hb⟩, _, _, rfl, ⟨ho, rfl, hho⟩, _, _, rfl, ⟨bu, rfl, hbu⟩, rfl⟩ :=
   ty_sh n 5 _ _ [.sl t_Section, .sl t_Joint, .sl t_Signal, .sl t_int, .sl t_Route, .int .i64, .int .i64, .int .i64, .int .i64] h (by kernel_rfl)
 obtain ⟨l0, a0, b0, _, e0⟩ := sh_rows (bytes := 24) Sec.enc _ (fun row n h => ty_Section h) (by kernel_rfl) (by omega) h0
 obtain ⟨l1, a1, b1, _, e1⟩ := sh_rows (bytes := 32) Jt.enc _ (fun row n h => ty_Joint h) (by kernel_rfl) (by omega) h1
 obtain ⟨l2, a2, b2, _, e2⟩ := sh_rows (bytes := 16) Sg.enc _ (fun row n h => ty_Signal h) (by kernel_rfl) (by omega) h2
 obtain ⟨l3, a3, b3, _, e3⟩ := sh_rows (bytes := 8) Go.Fw.encI _ (fun row n h => ty_i h) (by kernel_rfl) (by omega) h3
 obtain ⟨rows, l4, a4, q4, b4, _, e4⟩ := sh_rel (bytes := 96) (fun row r => ((∀ s, RtAt Tryz.prog t_Step t_Need t_int s row r) ∧ RtI r) ∧ row[4]? ≠ some .zsl) (fun row n h => ty_RouteZ h) (by kernel_rfl) (by omega) h4
 refine ⟨c0, c1, c2, c3, c4, ⟨l0, l1, l2, l3, l4, a, b, ho, bu⟩, rfl, fun s => ⟨a0 s, a1 s, a2 s, a3 s, rows, a4 s, q4, fun i row r x y => (b4 i row r x y).1.1 s⟩, ⟨b0, b1, b2, b3, ?_, wf_i64 ha, wf_i64 hb, wf_i64 hho, wf_i64 hbu, e0, e1, e2, e3, e4⟩, ?_⟩
 · intro r hr
   obtain ⟨i, hi⟩ := List.mem_iff_getElem?.1 hr
   have hi : l4[i]? = some r := hi
   have hlt := (List.getElem?_eq_some_iff.1 hi).1
   obtain ⟨row, hrow⟩ := get_of_lt (l := rows) (j := i) (by omega)
   exact (b4 i row r hrow hi).1.2
 · have hr := (a4 noS).rows
   cases c4 <;> first | trivial | skip
   obtain ⟨rfl, _⟩ := hr
   intro row hrow
   obtain ⟨i, hi⟩ := List.mem_iff_getElem?.1 hrow
   have hlt := (List.getElem?_eq_some_iff.1 hi).1
   obtain ⟨r, hr⟩ := get_of_lt (l := l4) (j := i) (by omega)
   exact (b4 i row r hi hr).2
end
section
variable {σ σ0 : Store}
def litS : Cf := ⟨[⟨0, 0, 0⟩, ⟨1, 0, 0⟩, ⟨0, 0, 0⟩, ⟨0, 0, 0⟩, ⟨0, 0, 1⟩], [⟨0, 1, 1, 0⟩, ⟨1, 1, 2, 0⟩, ⟨1, 2, 3, 0⟩, ⟨2, 1, 4, 0⟩], [⟨0, 1⟩, ⟨2, 1⟩], [], [⟨0, 1, [⟨1, 0, 1⟩, ⟨2, 0, 1⟩], [], [], false⟩, ⟨1, -1, [⟨4, 0, 1⟩], [], [], false⟩], 2, 1, 4, 1000⟩
def sD0 : D := .sl 3 [[iD 0, iD 0, iD 0], [iD 1, iD 0, iD 0], [iD 0, iD 0, iD 0], [iD 0, iD 0, iD 0], [iD 0, iD 0, iD 1]]
def sD1 : D := .sl 4 [[iD 0, iD 1, iD 1, iD 0], [iD 1, iD 1, iD 2, iD 0], [iD 1, iD 2, iD 3, iD 0], [iD 2, iD 1, iD 4, iD 0]]
def sD2 : D := .sl 2 [[iD 0, iD 1], [iD 2, iD 1]]
def sD4 : D := .sl 6 [[iD 0, iD 1, .sl 3 [[iD 1, iD 0, iD 1], [iD 2, iD 0, iD 1]], .nils, .nils, .bool false], [iD 1, iD (-1), .sl 3 [[iD 4, iD 0, iD 1]], .nils, .nils, .bool false]]
theorem litS_at (s : Store) : CfAt s sD0 sD1 sD2 .nils sD4 litS :=
 ⟨at_lit c_Section (by simp), at_lit c_Joint (by simp), at_lit c_Signal (by simp), .nil, ⟨_, at_lit c_Route (by simp), rfl, fun i row r h1 h2 => by
   have hi : i = 0 ∨ i = 1 := by have := (List.getElem?_eq_some_iff.1 h1).1; simp at this; omega
   rcases hi with rfl | rfl
   · simp at h1; subst h1
     simp [litS] at h2; subst h2
     exact ⟨_, _, _, rfl, at_lit c_Step (by simp), .nil, .nil⟩
   · simp at h1; subst h1
     simp [litS] at h2; subst h2
     exact ⟨_, _, _, rfl, at_lit c_Step (by simp), .nil, .nil⟩⟩⟩
theorem litS_nz : RtsNz sD4 := by
 intro row hr
 simp only [List.mem_cons, List.not_mem_nil, or_false] at hr
 rcases hr with rfl | rfl <;> (intro e; cases e)
theorem lockL0 : litS.lockL 0 = [1, 2] := by
 show Cf.lockR ⟨0, 1, [⟨1, 0, 1⟩, ⟨2, 0, 1⟩], [], [], false⟩ = [1, 2]
 rw [← insL_lockR]; decide +kernel
theorem CoOwn.fit {s : Store} {d0 d1 d2 d3 d4 d5 : D} {k : Co} (h : CoOwn σ s d0 d1 d2 d3 d4 d5 k) (hl : k.Own.length ≤ 2 ^ 20 ∧ k.Routes.length ≤ 2 ^ 20 ∧ k.Points.length ≤ 2 ^ 20 ∧ k.Xs.length ≤ 2 ^ 20 ∧ k.Lines.length ≤ 2 ^ 20 ∧ k.Resets.length ≤ 2 ^ 20) : CoFit d0 d1 d2 d3 d4 d5 k :=
 ⟨h.own.nz, h.routes.nz, h.points.nz, h.xs.nz, h.lines.nz, h.resets.nz, by omega, by omega, by omega, by omega, by omega, by omega⟩
end
section
variable {σ σ0 : Store}
theorem ref12_Command_ok (m : Mv) (now cmd : Int) : Pure Tryz.prog n_ref12_Command [.agg m.enc, iA now, iA cmd] σ (.a (.agg (cmdM m now cmd).enc)) :=
 W_ref12_Command m.Cmd m.Other now cmd σ _ (bce (fun e => ⟨by rw [cmdM, if_neg (by simpa using e)]; rfl, rfl⟩) (fun e => ⟨by rw [cmdM, if_pos e]; rfl, rfl⟩))
section
variable {c0 c1 c2 c3 c4 k0 k1 k2 k3 k4 k5 : D} {c : Cf} (hc : ∀ s, CfAt s c0 c1 c2 c3 c4 c) {k : Co} (hk : CoFz k0 k1 k2 k3 k4 k5 k)
include hc hk
omit hc in
theorem ref13_Copied_fit (hfit : k.fits c = true) : DCalls Tryz.prog n_ref13_Copied [coA k0 k1 k2 k3 k4 k5 k.Dirty] σ fun r s => ∃ d0 d1 d2 d3 d4 d5, r = .a (coA d0 d1 d2 d3 d4 d5 k.Dirty) ∧ CoOwn σ s d0 d1 d2 d3 d4 d5 k := by
 have := fits_small' hfit
 exact ref13_Copied_ok (hk.at_ σ) (by omega) (by omega) (by omega) (by omega) (by omega) (by omega)
end
end
section
variable {σ σ0 : Store}
section
variable {c0 c1 c2 c3 c4 k0 k1 k2 k3 k4 k5 : D} {c : Cf} (hc : ∀ s, CfAt s c0 c1 c2 c3 c4 c) {k : Co}
include hc
theorem ref13_Line_ok (hok : c.check = 0) {r : Int} {x : Rt} (hx : geti c.Rts r = some x) : Pure Tryz.prog n_ref13_Line [cfA c0 c1 c2 c3 c4 c, iA r] σ (.a (iA (lineF c x.Path))) := by
 have hr := check_rt hok (geti_mem hx)
 obtain ⟨rows, q1, q2, q3, hat, hlen, hrow, f1, f2, f3⟩ := rt_frz hc (geti_some hx).2.2
 have hg := geti_some hx
 have w1 := hr.len
 rw [← line_eq hok (geti_mem hx)]
 refine W_ref13_Line _ _ _ _ _ _ _ _ _ r σ _ ((hat σ).load hrow c_Route (by omega) ⟨q1, rfl, (f1 σ).lenK ⟨fun m n s => s = σ ∧ Rng x.Path (fun q => q.foldl (fun n s => max n (secLine c s)) m = lineM c x.Path) n, fun _ n _ => x.Path.length - n.toNat, ⟨rfl, .start rfl⟩, ?_⟩⟩)
 rintro m n s ⟨rfl, hq⟩
 rw [List.length_map]
 refine bcd (fun hlt => ?_) (fun hge => ?_)
 · obtain ⟨j, y, rfl, hy, hj, hF, nx⟩ := hq.step rfl (by omega) hlt
   obtain ⟨z, hz, _⟩ := (hr.step y (List.mem_of_getElem? hy)).1.sec
   have hgz := geti_some hz
   rw [List.foldl_cons, secLine, hz, Option.getD_some] at hF
   refine (f1 s).load (map_get hy) c_Step rfl ⟨y.Sec, y.In, y.Out, rfl, (hc s).secs.load (map_get hgz.2.2) c_Section (Int.toNat_of_nonneg hgz.1).symm ⟨z.Line, rfl, ?_⟩⟩
   have e : (if z.Line > m then z.Line else m) = max m z.Line := by split <;> omega
   rw [e]
   exact andl rfl (nx _ hF)
 · have hF := hq.done rfl hge
   rw [← hF]; exact ⟨rfl, rfl⟩
variable (hk : CoFz k0 k1 k2 k3 k4 k5 k)
include hk
end
end
section
variable {σ σ0 : Store}
theorem law14_station_ok : Pure Tryz.prog n_law14_station [] σ (.a (cfA sD0 sD1 sD2 .nils sD4 litS)) := W_law14_station σ _ ⟨rfl, rfl⟩
theorem free_loop {σ0 : Store} {d0 d1 d2 d3 d4 d5 : D} {k : Co} (h : CoOwn σ0 σ d0 d1 d2 d3 d4 d5 k) {T : Prop} (hT : T) {X : Store → Prop} (hX : ∀ s, CoOwn σ0 s d0 d1 d2 d3 d4 d5 { k with Own := List.replicate k.Own.length 0 } → X s) :
   ∃ len : Nat, Len d0 len ∧ ∃ I : Int → Store → Prop, ∃ μ : Int → Store → Nat, I 0 σ ∧ ∀ n : Int, ∀ σ8 : Store, I n σ8 → bcase (decide (n < (len : Int))) (∃ len1 : Nat, Idx Tryz.prog σ8 d0 1 len1 ∧ (0 : Int) ≤ n ∧ n < (len1 : Int) ∧ storeEl [iD 0] σ8 d0 (Int.toNat n) 0 (fun σ9 => T ∧ I (w64 (n + 1)) σ9 ∧ μ (w64 (n + 1)) σ9 < μ n σ8)) (X σ8) := by
 have hs := h.own.at_.size
 rw [List.length_map] at hs
 refine h.own.at_.lenK ⟨fun n s => ∃ j : Nat, n = j ∧ j ≤ k.Own.length ∧ CoOwn σ0 s d0 d1 d2 d3 d4 d5 { k with Own := List.replicate j 0 ++ k.Own.drop j }, fun n _ => k.Own.length - n.toNat, ⟨0, rfl, by omega, by simpa using h⟩, ?_⟩
 rintro _ s ⟨j, rfl, hj, h'⟩
 rw [List.length_map]
 refine bcd (fun hlt => ?_) (fun hge => hX s ?_)
 · have hlt : j < k.Own.length := by omega
   obtain ⟨o, ho⟩ := get_of_lt hlt
   obtain ⟨hl, he⟩ := List.getElem?_eq_some_iff.1 ho
   have hd : k.Own.drop j = o :: k.Own.drop (j + 1) := by rw [← he]; exact List.drop_eq_getElem_cons hl
   have hx : (List.replicate j (0 : Int) ++ k.Own.drop j)[j]? = some o := by rw [List.getElem?_append_right (by simp), List.length_replicate, Nat.sub_self, hd]; rfl
   refine h'.own.at_.idxK (j := j) c_int rfl (by simp; omega) (h'.putO (k := { k with Own := List.replicate j 0 ++ k.Own.drop j }) hx (by omega) (by simp) (y := 0) rfl fun s' h2 _ => ⟨hT, ?_⟩)
   rw [w64_succ (by omega)]
   refine ⟨⟨j + 1, rfl, by omega, ?_⟩, dec_lt hlt⟩
   have e : (List.replicate j (0 : Int) ++ k.Own.drop j).set j 0 = List.replicate (j + 1) 0 ++ k.Own.drop (j + 1) := by
     rw [List.set_append_right _ _ (by simp), List.length_replicate, Nat.sub_self, hd, List.set_cons_zero, List.replicate_succ']; simp
   rw [← e]; exact h2
 · have e : j = k.Own.length := by omega
   rw [e, List.drop_length, List.append_nil] at h'; exact h'
theorem ref14_clear_ok (l : Lk) : Pure Tryz.prog n_ref14_clear [.agg l.enc] σ (.a (bA l.clear)) :=
 W_ref14_clear l.Value l.Stamp l.Valid σ _ (bc (fun e => ⟨by rw [Lk.clear, e]; by_cases h : l.Value = 0 <;> simp [h], rfl⟩) (fun e => ⟨by rw [Lk.clear, e]; rfl, rfl⟩))
section
variable {c0 c1 c2 c3 c4 : D} {c : Cf} (hc : ∀ s, CfAt s c0 c1 c2 c3 c4 c)
include hc
theorem law14_seen_ok (now : Int) (h1 : c.Secs.length ≤ 2 ^ 20) (h2 : c.Xs.length ≤ 2 ^ 20) (h3 : c.Sigs.length ≤ 2 ^ 20) :
   DCalls Tryz.prog n_law14_seen [cfA c0 c1 c2 c3 c4 c, iA now] σ fun r s => ∃ w0 w1 w2 w3, r = .a (.agg [w0, w1, w2, w3]) ∧ Own Tryz.prog σ s t_Look w0 ((seenK c now).Occ.map Lk.enc) ∧ Own Tryz.prog σ s t_Look w1 ((seenK c now).Pos.map Lk.enc) ∧
     Own Tryz.prog σ s t_Look w2 ((seenK c now).Shut.map Lk.enc) ∧ Own Tryz.prog σ s t_Look w3 ((seenK c now).Lamp.map Lk.enc) ∧ [w0, w1, w2, w3].Pairwise Apart := by
 have hrep : ∀ (j : Nat) (x : List D), List.replicate j x ++ [x] = List.replicate (j + 1) x := fun j x => by rw [List.replicate_succ']
 refine W_law14_seen _ _ _ _ _ _ _ _ _ now σ _ ((hc σ).secs.lenK ⟨fun d d1 d2 d3 n s => d2 = .nils ∧ d3 = .nils ∧ ∃ j : Nat, n = j ∧ j ≤ c.Secs.length ∧ Own Tryz.prog σ s t_Look d (List.replicate j [iD 0, iD now, .bool true]) ∧ Own Tryz.prog σ s t_Look d1 (List.replicate j [iD 1, iD now, .bool true]) ∧ Apart d d1,
   fun _ _ _ _ n _ => c.Secs.length - n.toNat, ⟨rfl, rfl, 0, rfl, by omega, .nil _ (.refl _), .nil _ (.refl _), .nil _⟩, ?_⟩)
 rintro d d1 d2 d3 n s ⟨rfl, rfl, j, rfl, hj, o0, o1, ap⟩
 rw [List.length_map]
 refine bcd (fun hlt => ?_) (fun hge => ?_)
 · refine newObj_intro fun i1 s1 hi1 _ e1 g1 => ?_
   refine (o0.ext' e1).append2 (o1.ext' e1) ap.symm (At.fresh g1 (by simp) rfl) (by simp; omega) (by simp; omega) fun d4 s2 p0 p1 q1 => ?_
   refine newObj_intro fun i2 s3 hi2 _ e2 g2 => ?_
   refine (p1.ext' e2).append2 (p0.ext' e2) q1.symm (At.fresh g2 (by simp) rfl) (by simp; omega) (by simp; omega) fun d5 s4 p2 p3 q2 => ⟨rfl, ?_⟩
   rw [w64_succ (by omega)]
   rw [hrep] at p2 p3
   exact ⟨⟨rfl, rfl, j + 1, rfl, by omega, p3, p2, q2⟩, dec_lt (by omega)⟩
 have e : j = c.Secs.length := by omega
 subst e
 have r0 : (seenK c now).Occ.map Lk.enc = List.replicate c.Secs.length [iD 0, iD now, .bool true] := by simp [seenK, Lk.enc]
 have r1 : (seenK c now).Pos.map Lk.enc = List.replicate c.Secs.length [iD 1, iD now, .bool true] := by simp [seenK, Lk.enc]
 have r2 : (seenK c now).Shut.map Lk.enc = List.replicate c.Xs.length [iD 1, iD now, .bool true] := by simp [seenK, Lk.enc]
 have r3 : (seenK c now).Lamp.map Lk.enc = List.replicate c.Sigs.length [iD 1, iD now, .bool true] := by simp [seenK, Lk.enc]
 refine (hc s).xs.lenK ⟨fun x0 x1 x2 x3 n s' => x0 = d ∧ x1 = d1 ∧ x3 = .nils ∧ ∃ j : Nat, n = j ∧ j ≤ c.Xs.length ∧ Own Tryz.prog s s' t_Look x2 (List.replicate j [iD 1, iD now, .bool true]),
   fun _ _ _ _ n _ => c.Xs.length - n.toNat, ⟨rfl, rfl, rfl, 0, rfl, by omega, .nil _ (.refl _)⟩, ?_⟩
 rintro x0 x1 d2 x3 n s2 ⟨rfl, rfl, rfl, j, rfl, hj, o2⟩
 rw [List.length_map]
 refine bcd (fun hlt => ?_) (fun hge => ?_)
 · refine newObj_intro fun i1 s3 hi1 _ e1 g1 => ?_
   refine (o2.ext' e1).append (At.fresh g1 (by simp) rfl) (by simp; omega) (by simp; omega) fun d4 s4 p0 _ _ => ⟨rfl, ?_⟩
   rw [w64_succ (by omega)]
   rw [hrep] at p0
   exact ⟨⟨rfl, rfl, rfl, j + 1, rfl, by omega, p0⟩, dec_lt (by omega)⟩
 have e : j = c.Xs.length := by omega
 subst e
 refine (hc s2).sigs.lenK ⟨fun y0 y1 y2 x3 n s' => y0 = x0 ∧ y1 = x1 ∧ y2 = d2 ∧ ∃ j : Nat, n = j ∧ j ≤ c.Sigs.length ∧ Own Tryz.prog s2 s' t_Look x3 (List.replicate j [iD 1, iD now, .bool true]),
   fun _ _ _ _ n _ => c.Sigs.length - n.toNat, ⟨rfl, rfl, rfl, 0, rfl, by omega, .nil _ (.refl _)⟩, ?_⟩
 rintro y0 y1 y2 d3 n s3 ⟨rfl, rfl, rfl, j, rfl, hj, o3⟩
 rw [List.length_map]
 refine bcd (fun hlt => ?_) (fun hge => ?_)
 · refine newObj_intro fun i1 s4 hi1 _ e1 g1 => ?_
   refine (o3.ext' e1).append (At.fresh g1 (by simp) rfl) (by simp; omega) (by simp; omega) fun d4 s5 p0 _ _ => ⟨rfl, ?_⟩
   rw [w64_succ (by omega)]
   rw [hrep] at p0
   exact ⟨⟨rfl, rfl, rfl, j + 1, rfl, by omega, p0⟩, dec_lt (by omega)⟩
 have e : j = c.Sigs.length := by omega
 subst e
 have a2 := o2.from o0.ext
 have a3 := o3.from a2.ext
 have b0 := o0.ext' o2.ext
 have b1 := o1.ext' o2.ext
 refine ⟨y0, y1, y2, d3, rfl, by rw [r0]; exact b0.ext' o3.ext, by rw [r1]; exact b1.ext' o3.ext, by rw [r2]; exact a2.ext' o3.ext, by rw [r3]; exact a3, ?_⟩
 simp only [List.pairwise_cons, List.mem_cons, List.not_mem_nil, or_false, forall_eq_or_imp, forall_eq, List.Pairwise.nil, and_true, false_imp_iff, implies_true]
 exact ⟨⟨ap, o2.apart o0.at_, o3.apart b0.at_⟩, ⟨o2.apart o1.at_, o3.apart b1.at_⟩, o3.apart a2.at_⟩
theorem law14_seen_z (now : Int) (h1 : c.Secs.length ≤ 2 ^ 20) (h2 : c.Xs.length ≤ 2 ^ 20) (h3 : c.Sigs.length ≤ 2 ^ 20) :
   DCalls Tryz.prog n_law14_seen [cfA c0 c1 c2 c3 c4 c, iA now] σ fun r s => s = σ ∧ ∃ w0 w1 w2 w3, r = .a (.agg [w0, w1, w2, w3]) ∧ VwAt w0 w1 w2 w3 (seenK c now) := by
 have fl : ∀ l : List Lk, ∀ row ∈ l.map Lk.enc, ∀ x ∈ row, Flat x := flat_ints _ fun l x hx => by
   simp [Lk.enc] at hx; rcases hx with rfl | rfl | rfl
   · exact .int _ _
   · exact .int _ _
   · exact .bool _
 refine (law14_seen_ok hc now h1 h2 h3).ret ?_
 rintro r s ⟨w0, w1, w2, w3, rfl, o0, o1, o2, o3, _⟩
 obtain ⟨e0, f0, a0⟩ := ret_slice o0.at_ o0.ext o0.new (fl _)
 obtain ⟨e1, f1, a1⟩ := ret_slice o1.at_ o1.ext o1.new (fl _)
 obtain ⟨e2, f2, a2⟩ := ret_slice o2.at_ o2.ext o2.new (fl _)
 obtain ⟨e3, f3, a3⟩ := ret_slice o3.at_ o3.ext o3.new (fl _)
 exact ⟨.a (.agg [e0, e1, e2, e3]), σ, .pure o0.ext (.cons f0 (.cons f1 (.cons f2 (.cons f3 .nil)))), rfl, e0, e1, e2, e3, rfl, a0, a1, a2, a3⟩
end
/-! the laws' example -/
def L14 : Co := ⟨[0, 1, 1, 0, 0], [⟨1, 0, 0, 0⟩, ⟨0, 0, 0, 0⟩], [⟨0, 0⟩, ⟨1, 5⟩, ⟨0, 0⟩, ⟨0, 0⟩, ⟨0, 0⟩], [], List.replicate 4 zLs, [0, 0, 0, 0, 0], true⟩
theorem lit14_lock : (openK litS).lockC litS 5 0 = L14 := by unfold Co.lockC; rw [lockL0]; decide +kernel
theorem lit14_req : (openK litS).requestC litS 5 0 = (L14, 0) := by
 have h := open_req (c := litS) (by decide +kernel) (r := 0) (y := ⟨0, 1, [⟨1, 0, 1⟩, ⟨2, 0, 1⟩], [], [], false⟩) rfl
 have hg : (openK litS).gate litS 5 0 = 0 := by decide +kernel
 rw [Co.requestC, h, hg, lit14_lock]; rfl
def L15 : Co := { L14 with Dirty := false }
theorem lit14_a : (L15.stepK litS (seenK litS 8) 8).2.2 = 0 ∧ (L15.stepK litS (seenK litS 8) 8).2.1 = [2, 0] ∧ (L15.stepK litS (seenK litS 8) 8).1.Routes = [⟨2, 0, 0, 0⟩, ⟨0, 0, 0, 0⟩] := by decide +kernel
theorem lit14_b : (L15.stepK litS (seenK litS 7) 8).2.2 = 0 ∧ (L15.stepK litS (seenK litS 7) 8).2.1 = [0, 0] ∧ (L15.stepK litS (seenK litS 7) 8).1.Routes = [⟨1, 0, 0, 0⟩, ⟨0, 0, 0, 0⟩] := by decide +kernel
theorem law14_lives_ok : Pure Tryz.prog n_law14_lives [] σ (.a (bA true)) := by
 refine .of (W_law14_lives σ _ (law14_station_ok.use ⟨_, _, _, _, _, _, _, _, _, rfl, (locks_New_ok litS_at 0 (by decide) (by decide) (by decide)).mono ?_⟩)) (flat_b _)
 rintro r s ⟨k0, k1, k2, k3, k4, k5, rfl, hk⟩
 refine ⟨_, _, _, _, _, _, _, rfl, free_loop hk (by rfl) fun s1 h1 => ?_⟩
 have h1 : CoOwn σ s1 k0 k1 k2 k3 k4 k5 (openK litS) := h1
 refine (locks_Request_ok (k := openK litS) litS_at h1.at (h1.fit (by decide)) litS_nz 5 0).mono ?_
 rintro r s2 ⟨a0, a1, a2, a3, a4, a5, rfl, ha⟩
 rw [lit14_req] at ha ⊢
 have ha : CoOwn s1 s2 a0 a1 a2 a3 a4 a5 L15 := ⟨ha.own, ha.routes, ha.points, ha.xs, ha.lines, ha.resets, ha.apart⟩
 have he : Ext σ s2 := h1.own.ext.trans ha.own.ext
 refine ⟨_, _, _, _, _, _, _, _, rfl, bcn (fun e => absurd rfl e) (fun _ => (law14_seen_z litS_at 8 (by decide) (by decide) (by decide)).mono ?_)⟩
 rintro r s3 ⟨rfl, w0, w1, w2, w3, rfl, hw⟩
 refine ⟨_, _, _, _, rfl, (kernel_Step_z (k := L15) litS_at litS_nz hw ha.at (ha.fit (by decide)) 8).mono ?_⟩
 rintro r s4 ⟨rfl, b0, b1, b2, b3, b4, b5, b6, rfl, hb, hb6⟩
 refine ⟨_, _, _, _, _, _, _, _, _, rfl, (law14_seen_z litS_at 7 (by decide) (by decide) (by decide)).mono ?_⟩
 rintro r s5 ⟨rfl, x0, x1, x2, x3, rfl, hx⟩
 refine ⟨_, _, _, _, rfl, (kernel_Step_z (k := L15) litS_at litS_nz hx ha.at (ha.fit (by decide)) 8).mono ?_⟩
 rintro r s6 ⟨rfl, e0, e1, e2, e3, e4, e5, e6, rfl, hE, hE6⟩
 obtain ⟨t1, t2, t3⟩ := lit14_a
 obtain ⟨u1, u2, u3⟩ := lit14_b
 have hbr := (hb.at_ s6).routes
 have her := (hE.at_ s6).routes
 have hb6 := hb6 s6
 have hE6 := hE6 s6
 rw [t2] at hb6
 rw [u2] at hE6
 rw [t3] at hbr
 rw [u3] at her
 rw [t1, u1]
 refine ⟨_, _, _, _, _, _, _, _, _, rfl, hbr.lenK (bcn (fun e => absurd rfl e) (fun _ => her.lenK (bcn (fun e => absurd rfl e) (fun _ => bce (fun _ => bce (fun _ => ?_) (fun e => absurd rfl e)) (fun e => absurd rfl e)))))⟩
 refine hbr.load (j := 0) rfl c_RouteState rfl ⟨2, rfl, bce (fun _ => her.load (j := 0) rfl c_RouteState rfl ⟨1, rfl, bce (fun _ => ?_) (fun e => absurd rfl e)⟩) (fun e => absurd rfl e)⟩
 refine (ref01_SameInts_ok hb6 (lb := [2, 0]) (at_lit c_int (by simp))).use ⟨_, rfl, bc (fun _ => ?_) (fun e => absurd rfl (of_decide_eq_false e))⟩
 refine (ref01_SameInts_ok hE6 (lb := [0, 0]) (at_lit c_int (by simp))).use ⟨_, rfl, ?_⟩
 exact ⟨rfl, he⟩
end
section
variable {σ σ0 : Store}
section
variable {c0 c1 c2 c3 c4 v0 v1 v2 v3 : D} {c : Cf} {v : Vw} (hc : ∀ s, CfAt s c0 c1 c2 c3 c4 c) (hv : VwAt v0 v1 v2 v3 v)
include hc hv
theorem ref14_Ready_ok {k0 k1 k2 k3 k4 k5 : D} {k : Co} (hk : CoAt σ k0 k1 k2 k3 k4 k5 k) (b : Bool) (r : Int) :
   Pure Tryz.prog n_ref14_Ready [cfA c0 c1 c2 c3 c4 c, coA k0 k1 k2 k3 k4 k5 b, .agg [v0, v1, v2, v3], iA r] σ (.a (bA (k.readyC c v r))) := by
 refine W_ref14_Ready _ _ _ _ _ _ _ _ _ k0 k1 k2 k3 k4 k5 b v0 v1 v2 v3 r σ _ ?_
 intro R hR
 have no : k.readyC c v r = false → (RV.a (.one (.bool false)) = .a (bA (k.readyC c v r)) ∧ σ = σ) := fun h => by rw [h]; exact ⟨rfl, rfl⟩
 refine (ref13_Fits_ok hc hk b).use ⟨_, rfl, bcnot (fun e => no (by unfold Co.readyC; rw [e]; rfl)) (fun hfit => (ref14_Seen_ok (hc σ) hv).use ⟨_, rfl, bcnot (fun e => no (by unfold Co.readyC; rw [e]; simp)) (fun hvf => ?_)⟩)⟩
 have hQ : k.readyC c v r = (decide (0 ≤ r ∧ r < c.Rts.length) && k.ready c v r) := by unfold Co.readyC; rw [hfit, hvf]; rfl
 obtain ⟨rows0, hat0, hlen0⟩ := rts_len (hc σ)
 refine bcd (fun e => no (by rw [hQ, decide_eq_false (by omega)]; rfl)) (fun g0 => hat0.lenK ?_)
 rw [hlen0]
 refine bcd (fun e => no (by rw [hQ, decide_eq_false (by omega)]; rfl)) (fun g1 => hR σ ?_)
 rw [decide_eq_true ⟨by omega, by omega⟩, Bool.true_and] at hQ
 obtain ⟨x, hx⟩ := geti_ex (l := c.Rts) (i := r) (by omega) (by omega)
 have hf := fits_iff.1 hfit
 have hok := hf.chk
 have hr := check_rt hok (geti_mem hx)
 obtain ⟨r0, r1, r2, r3⟩ := fits_rt hf hx
 have hg := geti_some hx
 obtain ⟨l0, l1, l2, l3⟩ := vw_len hvf
 obtain ⟨rrows, q1, q2, q3, hat, hlen, hrow, f1, f2, f3⟩ := rt_frz hc hg.2.2
 have hsO := hf.lOwn
 have hol := hr.olen
 have hpl := hr.len
 clear no hR
 have hRd : k.ready c v r = (clr v.Occ (c.pathS r) && (clr v.Occ (k.ownS c r) && ((c.Needs r).all (needOk c k v) && ((c.Cross r).all (crossOk c k v) && lampOk c k v r)))) := rfl
 rw [hRd] at hQ
 have no : k.readyC c v r = false → (RV.a (.one (.bool false)) = .a (bA (k.readyC c v r)) ∧ σ = σ) := fun h => by rw [h]; exact ⟨rfl, rfl⟩
 rw [pathS_some hx] at hQ
 refine (hat σ).load hrow c_Route (Int.toNat_of_nonneg r0).symm ⟨x.Entry, x.Exit, q1, q2, q3, x.Shunt, rfl, (f1 σ).lenK ⟨fun n s => s = σ ∧ Rng x.Path (fun q => clr v.Occ (q.map St.Sec) = clr v.Occ (x.Path.map St.Sec)) n, fun n _ => x.Path.length - n.toNat, ⟨rfl, .start rfl⟩, ?_⟩⟩
 rintro n s ⟨rfl, hq⟩
 rw [List.length_map]
 refine bcd (fun hlt => ?_) (fun hge => ?_)
 · obtain ⟨j, y, rfl, hy, hj, hF, nx⟩ := hq.step rfl (by omega) hlt
   obtain ⟨z, hz, _⟩ := (hr.step y (List.mem_of_getElem? hy)).1.sec
   have hgz := geti_some hz
   have hF : ((lkG v.Occ y.Sec).clear && clr v.Occ ((x.Path.drop (j + 1)).map St.Sec)) = clr v.Occ (x.Path.map St.Sec) := hF
   refine (f1 s).load (map_get hy) c_Step rfl ⟨y.Sec, y.In, y.Out, rfl, (hv.occ s).load (map_get (lk_at hgz.1 (by omega))) c_Look (Int.toNat_of_nonneg hgz.1).symm ⟨_, _, _, rfl, (ref14_clear_ok (lkG v.Occ y.Sec)).use ⟨_, rfl, bcnot (fun e => no ?_) (fun e => ⟨rfl, ?_⟩)⟩⟩⟩
   · rw [hQ, ← hF, e]; rfl
   · rw [e, Bool.true_and] at hF
     exact andl rfl (nx (fun q => clr v.Occ (q.map St.Sec) = clr v.Occ (x.Path.map St.Sec)) hF)
 have hF := hq.done rfl hge
 rw [← hF, show clr v.Occ (([] : List St).map St.Sec) = true from rfl, Bool.true_and] at hQ
 clear hF hq hge
 have hown : k.ownS c r = x.Overlap.filter fun s => decide (ownG k.Own s = r + 1) := by rw [Co.ownS, rt_some hx]
 rw [hown] at hQ
 have w1 : w64 (r + 1) = r + 1 := w64_id (by omega) (by omega)
 refine (f3 s).lenK ⟨fun n s' => s' = s ∧ Rng x.Overlap (fun q => clr v.Occ (q.filter fun s => decide (ownG k.Own s = r + 1)) = clr v.Occ (x.Overlap.filter fun s => decide (ownG k.Own s = r + 1))) n, fun n _ => x.Overlap.length - n.toNat, ⟨rfl, .start rfl⟩, ?_⟩
 rintro n s' ⟨rfl, hq⟩
 rw [List.length_map]
 refine bcd (fun hlt => ?_) (fun hge => ?_)
 · obtain ⟨j, y, rfl, hy, hj, hF, nx⟩ := hq.step rfl (by omega) hlt
   obtain ⟨z, hz, _⟩ := (hr.ov (List.mem_of_getElem? hy)).1
   have hgz := geti_some hz
   refine (f3 s').load (map_get hy) c_int rfl ⟨y, rfl, hk.own.load (map_get (own_at hgz.1 (by omega))) c_int (Int.toNat_of_nonneg hgz.1).symm ⟨_, rfl, ?_⟩⟩
   rw [w1]
   refine bce (fun e => ?_) (fun e => ⟨rfl, ?_⟩)
   · rw [List.filter_cons, if_pos (decide_eq_true e)] at hF
     have hF : ((lkG v.Occ y).clear && clr v.Occ ((x.Overlap.drop (j + 1)).filter fun s => decide (ownG k.Own s = r + 1))) = clr v.Occ (x.Overlap.filter fun s => decide (ownG k.Own s = r + 1)) := hF
     refine (hv.occ s').load (map_get (lk_at hgz.1 (by omega))) c_Look (Int.toNat_of_nonneg hgz.1).symm ⟨_, _, _, rfl, (ref14_clear_ok (lkG v.Occ y)).use ⟨_, rfl, bcnot (fun e => no ?_) (fun e => ⟨rfl, ?_⟩)⟩⟩
     · rw [hQ, ← hF, e]; rfl
     · rw [e, Bool.true_and] at hF
       exact andl rfl (nx (fun q => clr v.Occ (q.filter fun s => decide (ownG k.Own s = r + 1)) = clr v.Occ (x.Overlap.filter fun s => decide (ownG k.Own s = r + 1))) hF)
   · rw [List.filter_cons, if_neg (by simpa using e)] at hF
     exact andl rfl (nx (fun q => clr v.Occ (q.filter fun s => decide (ownG k.Own s = r + 1)) = clr v.Occ (x.Overlap.filter fun s => decide (ownG k.Own s = r + 1))) hF)
 have hF := hq.done rfl hge
 rw [← hF, show clr v.Occ (([] : List Int).filter fun s => decide (ownG k.Own s = r + 1)) = true from rfl, Bool.true_and] at hQ
 clear hF hq hge
 have hyn : (c.rt r).Path.length ≤ 2 ^ 20 := by rw [rt_some hx]; omega
 have hyf : (c.rt r).Flank.length ≤ 2 ^ 20 := by rw [rt_some hx]; have := hr.flen; omega
 refine (ref12_Needs_ok hc r hyn hyf).mono ?_
 rintro q s ⟨rfl, d11, rfl, h11⟩
 have hnl : (c.Needs r).length ≤ 41 := by
   rw [Cf.Needs, rt_some hx]
   have := needs_len c x
   have := hr.flen; omega
 refine ⟨d11, rfl, (h11 s).lenK ⟨fun n s' => s' = s ∧ Rng (c.Needs r) (fun q => q.all (needOk c k v) = (c.Needs r).all (needOk c k v)) n, fun n _ => (c.Needs r).length - n.toNat, ⟨rfl, .start rfl⟩, ?_⟩⟩
 rintro n s' ⟨rfl, hq⟩
 rw [List.length_map]
 refine bcd (fun hlt => ?_) (fun hge => ?_)
 · obtain ⟨j, nd, rfl, hnd, hj, hF, nx⟩ := hq.step rfl (by omega) hlt
   obtain ⟨hsec, _⟩ := needs_sec hr (by have := List.mem_of_getElem? hnd; rw [Cf.Needs, rt_some hx] at this; exact this)
   obtain ⟨g0, g3⟩ := sec_rng hsec
   have hlp := hf.lPts
   rw [List.all_cons] at hF
   have no' : needOk c k v nd = false → (RV.a (.one (.bool false)) = .a (bA (k.readyC c v r)) ∧ s' = s') := fun e => no (by rw [hQ, ← hF, e]; rfl)
   have hm := mv_at (l := k.Points) g0 (by omega)
   refine (h11 s').load (map_get hnd) c_Need rfl ⟨nd.Sec, nd.Pos, rfl, hk.points.load (map_get hm) c_Mover (Int.toNat_of_nonneg g0).symm ⟨_, rfl, bcn (fun e => no' (by rw [needOk, decide_eq_false e]; rfl)) (fun b3 => ?_)⟩⟩
   refine hk.points.load (map_get hm) c_Mover (Int.toNat_of_nonneg g0).symm ⟨_, _, rfl, (hv.pos s').load (map_get (lk_at g0 (by omega))) c_Look (Int.toNat_of_nonneg g0).symm ⟨_, _, _, rfl, ?_⟩⟩
   refine (ref12_Proven_ok (mvG k.Points nd.Sec) (lkG v.Pos nd.Sec) c.Age).use ⟨_, rfl, bcnot (fun e => no' (by rw [needOk, e, Bool.and_false])) (fun b4 => ⟨rfl, ?_⟩)⟩
   rw [needOk, decide_eq_true b3, b4, Bool.true_and, Bool.true_and] at hF
   exact andl rfl (nx (fun q => q.all (needOk c k v) = (c.Needs r).all (needOk c k v)) hF)
 have hF := hq.done rfl hge
 rw [← hF, List.all_nil, Bool.true_and] at hQ
 clear hF hq hge
 have hxs := (check_xs hok).2.2
 refine (ref12_Crossings_ok hc r (by omega)).mono ?_
 rintro q s ⟨rfl, d18, rfl, h18⟩
 have hcl2 : (c.Cross r).length ≤ c.Xs.length := crossL_len _ _ _
 refine ⟨d18, rfl, (h18 s).lenK ⟨fun n s' => s' = s ∧ Rng (c.Cross r) (fun q => q.all (crossOk c k v) = (c.Cross r).all (crossOk c k v)) n, fun n _ => (c.Cross r).length - n.toNat, ⟨rfl, .start rfl⟩, ?_⟩⟩
 rintro n s' ⟨rfl, hq⟩
 rw [List.length_map]
 refine bcd (fun hlt => ?_) (fun hge => ?_)
 · obtain ⟨j, i, rfl, hi, hj, hF, nx⟩ := hq.step rfl (by omega) hlt
   obtain ⟨i', xx, e3', hxx, _⟩ := crossL_mem _ _ _ _ (List.mem_of_getElem? hi)
   rw [Nat.zero_add] at e3'
   have hil := (List.getElem?_eq_some_iff.1 hxx).1
   have hlp := hf.lXs
   have g0 : 0 ≤ i := by omega
   rw [List.all_cons] at hF
   have no' : crossOk c k v i = false → (RV.a (.one (.bool false)) = .a (bA (k.readyC c v r)) ∧ s' = s') := fun e => no (by rw [hQ, ← hF, e]; rfl)
   refine (h18 s').load (map_get hi) c_int rfl ⟨i, rfl, hk.xs.load (map_get (mv_at g0 (by omega))) c_Mover (Int.toNat_of_nonneg g0).symm ⟨_, _, rfl, (hv.shut s').load (map_get (lk_at g0 (by omega))) c_Look (Int.toNat_of_nonneg g0).symm ⟨_, _, _, rfl, ?_⟩⟩⟩
   refine (ref12_Proven_ok (mvG k.Xs i) (lkG v.Shut i) c.Age).use ⟨_, rfl, bcnot (fun e => no' (by rw [crossOk, e])) (fun b4 => ⟨rfl, ?_⟩)⟩
   rw [crossOk, b4, Bool.true_and] at hF
   exact andl rfl (nx (fun q => q.all (crossOk c k v) = (c.Cross r).all (crossOk c k v)) hF)
 have hF := hq.done rfl hge
 rw [← hF, List.all_nil, Bool.true_and] at hQ
 clear hF hq hge
 obtain ⟨a, ha⟩ := hr.entry
 have hga := geti_some ha
 have hl := line_ok hok x.Path
 have hlr : c.lineR r = lineF c x.Path := by rw [Cf.lineR, rt_some hx]
 have hl4 := hf.lLn
 rw [lampOk, rt_some hx] at hQ
 refine (ref13_Line_ok hc hok hx).use ⟨_, rfl, ?_⟩
 rw [← hlr]
 refine (hv.lamp s').load (map_get (lk_at hga.1 (by omega))) c_Look (Int.toNat_of_nonneg hga.1).symm ⟨_, _, _, rfl, bc (fun b5 => bce (fun b6 => ?_) (fun e => no (by rw [hQ, decide_eq_false e]; simp))) (fun e => no (by rw [hQ, e]; rfl))⟩
 rw [b5, decide_eq_true b6, Bool.true_and, Bool.true_and] at hQ
 refine bce (fun e => ⟨by rw [hQ, decide_eq_true e]; rfl, rfl⟩) (fun e => ?_)
 have hu := ln_at (l := k.Lines) (s := c.lineR r) (by omega) (by omega)
 refine hk.lines.load (map_get hu) c_LineState (Int.toNat_of_nonneg (by omega)).symm ⟨_, rfl, hk.lines.load (map_get hu) c_LineState (Int.toNat_of_nonneg (by omega)).symm ⟨_, rfl, ?_, rfl⟩⟩
 rw [hQ, decide_eq_false e, Bool.false_or]
 by_cases e : (lnG k.Lines (c.lineR r)).PGrant = (lnG k.Lines (c.lineR r)).Ask <;> simp [e]
end
end
section
variable {σ σ0 : Store}
theorem rcmd_spec : SpecOk Tryz.prog n_ref12_Command cmdPre cmdPost := by
 refine ⟨?_, ?_, ?_, ?_, ?_⟩
 · rintro xs s ⟨m, now, cmd, rfl⟩
   exact (ref12_Command_ok m now cmd).use ⟨m, now, cmd, rfl, rfl, rfl⟩
 · rintro xs s ⟨m, now, cmd, rfl⟩ hf
   exact ⟨_, s, ⟨m, now, cmd, rfl, rfl, rfl⟩, hf⟩
 · rintro xs s r s' ⟨m, now, cmd, rfl, rfl, rfl⟩ hf
   exact hf
 · rintro xs s id so hid hso ⟨m, now, cmd, rfl⟩
   refine ⟨⟨m, now, cmd, rfl⟩, ?_⟩
   rintro r s' ⟨m, now, cmd, e, rfl, rfl⟩
   exact ⟨s, ⟨m, now, cmd, e, rfl, rfl⟩, hid, rfl⟩
 · rintro xs s r s' _ ⟨m, now, cmd, rfl, rfl, rfl⟩ i _
   rfl
section
variable {c0 c1 c2 c3 c4 v0 v1 v2 v3 : D} {c : Cf} {v : Vw} (hc : ∀ s, CfAt s c0 c1 c2 c3 c4 c) (hv : VwAt v0 v1 v2 v3 v) (hvf : v.fits c = true)
include hc hv hvf
theorem ref14_occupied_ok (hok : c.check = 0) {r : Int} {x : Rt} (hx : geti c.Rts r = some x) : Pure Tryz.prog n_ref14_occupied [cfA c0 c1 c2 c3 c4 c, .agg [v0, v1, v2, v3], iA r] σ (.a (bA (!clr v.Occ (c.pathS r)))) := by
 have hr := check_rt hok (geti_mem hx)
 have hg := geti_some hx
 obtain ⟨l0, _⟩ := vw_len hvf
 obtain ⟨rrows, q1, q2, q3, hat, hlen, hrow, f1, f2, f3⟩ := rt_frz hc hg.2.2
 have hpl := hr.len
 rw [pathS_some hx]
 refine W_ref14_occupied _ _ _ _ _ _ _ _ _ v0 v1 v2 v3 r σ _ ((hat σ).load hrow c_Route (Int.toNat_of_nonneg hg.1).symm ⟨q1, rfl, (f1 σ).lenK ⟨fun n s => s = σ ∧ Rng x.Path (fun q => clr v.Occ (q.map St.Sec) = clr v.Occ (x.Path.map St.Sec)) n, fun n _ => x.Path.length - n.toNat, ⟨rfl, .start rfl⟩, ?_⟩⟩)
 rintro n s ⟨rfl, hq⟩
 rw [List.length_map]
 refine bcd (fun hlt => ?_) (fun hge => ?_)
 · obtain ⟨j, y, rfl, hy, hj, hF, nx⟩ := hq.step rfl (by omega) hlt
   obtain ⟨z, hz, _⟩ := (hr.step y (List.mem_of_getElem? hy)).1.sec
   have hgz := geti_some hz
   have hF : ((lkG v.Occ y.Sec).clear && clr v.Occ ((x.Path.drop (j + 1)).map St.Sec)) = clr v.Occ (x.Path.map St.Sec) := hF
   refine (f1 s).load (map_get hy) c_Step rfl ⟨y.Sec, y.In, y.Out, rfl, (hv.occ s).load (map_get (lk_at hgz.1 (by omega))) c_Look (Int.toNat_of_nonneg hgz.1).symm ⟨_, _, _, rfl, (ref14_clear_ok (lkG v.Occ y.Sec)).use ⟨_, rfl, bcnot (fun e => ?_) (fun e => ?_)⟩⟩⟩
   · rw [← hF, e]; exact ⟨rfl, rfl⟩
   · rw [e, Bool.true_and] at hF
     exact andl rfl (nx (fun q => clr v.Occ (q.map St.Sec) = clr v.Occ (x.Path.map St.Sec)) hF)
 have hF := hq.done rfl hge
 rw [← hF]; exact ⟨rfl, rfl⟩
variable {id : Nat} {d0 d1 d2 d3 d4 d5 : D} {k : Co} {now : Int}
theorem ref14_ending_ok (hI : CoIn σ0 σ id t_Core [] [] d0 d1 d2 d3 d4 d5 k) (hf : FitIs c k) (hn : tm 0 now = true) {r : Int} {x : Rt} (hx : geti c.Rts r = some x) :
   DCalls Tryz.prog n_ref14_ending [cfA c0 c1 c2 c3 c4 c, .one (.el (.osl id 0 1) 0 0), .agg [v0, v1, v2, v3], iA now, iA r] σ fun q s => q = .tup [] ∧ CoIn σ0 s id t_Core [] [] d0 d1 d2 d3 d4 d5 (k.endingR c v now r) := by
 have hok := hf.chk
 obtain ⟨r0, r1, r2, r3⟩ := fits_rt hf hx
 have hg := geti_some hx
 have hh := hold_rng hok
 have hst := rsG_get r0 r2
 have hrf := hf.rts _ _ _ hst hg.2.2
 simp only [Rs.fits, tm, Bool.and_eq_true, decide_eq_true_eq] at hrf
 have w : w64 ((rsG k.Routes r).Since + c.Hold) = (rsG k.Routes r).Since + c.Hold := w64_id (by omega) (by omega)
 have w1 : w64 (r + 1) = r + 1 := w64_id (by omega) (by omega)
 have hR1 := hI.at.routes.row (map_get hst)
 have hlen : (c.pathS r).length = x.Path.length := by rw [pathS_some hx, List.length_map]
 have hpl := (check_rt hok (geti_mem hx)).len
 obtain ⟨rrows, q1, q2, q3, hat, hlen4, hrow, f1, f2, f3⟩ := rt_frz hc hg.2.2
 refine W_ref14_ending _ _ _ _ _ _ _ _ _ _ v0 v1 v2 v3 now r σ _ ⟨trivial, _, _, _, rfl, _, box_row hI.row, d1, rfl, hI.at.routes.idxK c_RouteState (Int.toNat_of_nonneg r0).symm (by rw [List.length_map]; omega) ((hat σ).load hrow c_Route (Int.toNat_of_nonneg r0).symm ⟨q1, rfl, _, hR1, (rsG k.Routes r).Since, rfl, ?_⟩)⟩
 rw [w]
 refine bcd (fun e => ⟨rfl, by rw [Co.endingR, if_pos e]; exact hI⟩) (fun e => ?_)
 intro R hRR
 have fin : ∀ s', CoIn σ0 s' id t_Core [] [] d0 d1 d2 d3 d4 d5 (k.goOn c v now r) → R s' := fun s' h => hRR s' (by
   have hf1 := goOn_fits (v := v) hf hn r0
   have hE : k.endingR c v now r = if (rsG (k.goOn c v now r).Routes r).Next = (c.pathS r).length then (k.goOn c v now r).endR c r else k.goOn c v now r := by rw [Co.endingR, if_neg e]
   generalize k.goOn c v now r = k1 at *
   obtain ⟨_, _, r2', _⟩ := fits_rt hf1 hx
   have hst1 := rsG_get r0 r2'
   have hrf1 := hf1.rts _ _ _ hst1 hg.2.2
   simp only [Rs.fits, tm, Bool.and_eq_true, decide_eq_true_eq] at hrf1
   refine ⟨_, h.at.routes.row (map_get hst1), (rsG k1.Routes r).Next, rfl, (f1 s').lenK ?_⟩
   rw [List.length_map]
   refine bcd (fun e1 => ⟨rfl, by rw [hE, if_neg (by omega)]; exact h⟩) (fun e1 => ?_)
   rw [if_pos (by omega)] at hE
   have hsm := fits_small' (fits_iff.2 hf1)
   refine ⟨trivial, _, _, _, rfl, _, box_row h.row, d0, rfl, h.at.own.lenK ⟨fun n s => ∃ j : Nat, n = j ∧ j ≤ k1.Own.length ∧ CoIn σ0 s id t_Core [] [] d0 d1 d2 d3 d4 d5 { k1 with Own := freeAll (r + 1) (k1.Own.take j) ++ k1.Own.drop j },
     fun n _ => k1.Own.length - n.toNat, ⟨0, rfl, by omega, by simpa [freeAll] using h⟩, ?_⟩⟩
   rintro n s ⟨j, rfl, hj, hI1⟩
   rw [List.length_map]
   refine bcd (fun hlt => ?_) (fun hge => ?_)
   · obtain ⟨z, hz⟩ := get_of_lt (l := k1.Own) (j := j) (by omega)
     obtain ⟨a1, a2, a3⟩ := freeAll_go (o := r + 1) hz
     have hl1 := (List.getElem?_eq_some_iff.1 a1).1
     refine ⟨trivial, _, _, _, rfl, _, box_row hI1.row, d0, rfl, hI1.at.own.load (map_get a1) c_int rfl ⟨z, rfl, ?_⟩⟩
     rw [w1, w64_succ (by omega)]
     refine bce (fun e => ?_) (fun e => ⟨⟨j + 1, rfl, by omega, by rw [← a3 e]; exact hI1⟩, dec_lt (by omega)⟩)
     refine ⟨trivial, _, _, _, rfl, _, box_row hI1.row, d0, rfl, hI1.at.own.idxK c_int rfl (by rw [List.length_map]; exact hl1) ?_⟩
     refine hI1.putO (k := { k1 with Own := freeAll (r + 1) (k1.Own.take j) ++ k1.Own.drop j }) (y := 0) a1 (by rw [Int.toNat_natCast]) (by simp) rfl fun s2 hI2 _ => ⟨⟨j + 1, rfl, by omega, ?_⟩, dec_lt (by omega)⟩
     rw [← a2 e]; exact hI2
   have e : j = k1.Own.length := by omega
   rw [e, List.take_length, List.drop_length, List.append_nil] at hI1
   have hlr : c.lineR r = lineF c x.Path := by rw [Cf.lineR, rt_some hx]
   have hl := line_ok hok x.Path
   have hl4 := hf1.lLn
   refine (ref13_Line_ok hc hok hx).use ⟨_, rfl, ?_⟩
   rw [← hlr]
   have fin2 : ∀ (L : List Ls) s2, L = doneL (c.lineR r) k1.Lines → CoIn σ0 s2 id t_Core [] [] d0 d1 d2 d3 d4 d5 { k1 with Own := freeAll (r + 1) k1.Own, Lines := L, Routes := k1.Routes.set r.toNat ⟨0, 0, 0, 0⟩, Dirty := true } →
       (RV.tup [] = .tup [] ∧ CoIn σ0 s2 id t_Core [] [] d0 d1 d2 d3 d4 d5 (k.endingR c v now r)) := fun L s2 hL h => ⟨rfl, by rw [hE]; subst hL; exact h⟩
   refine bcd (fun hpos => ?_) (fun hpos => ?_)
   · have hu := ln_at (l := k1.Lines) (s := c.lineR r) (by omega) (by omega)
     have hul := (List.getElem?_eq_some_iff.1 hu).1
     refine ⟨trivial, _, _, _, rfl, _, box_row hI1.row, d4, rfl, trivial, _, _, _, rfl, _, box_row hI1.row, d4, rfl, hI1.at.lines.load (map_get hu) c_LineState (Int.toNat_of_nonneg (by omega)).symm ⟨(lnG k1.Lines (c.lineR r)).Ask, rfl, hI1.at.lines.idxK c_LineState (Int.toNat_of_nonneg (by omega)).symm (by rw [List.length_map]; exact hul) ?_⟩⟩
     refine hI1.putL (k := { k1 with Own := freeAll (r + 1) k1.Own }) (y := { lnG k1.Lines (c.lineR r) with Done := (lnG k1.Lines (c.lineR r)).Ask }) hu rfl (by simp) rfl fun s2 hI2 _ => ?_
     refine hI2.putR (y := ⟨0, 0, 0, 0⟩) hst1 rfl (by simp) rfl fun s3 hI3 _ => ?_
     refine ⟨trivial, _, _, _, rfl, hI3.dirty (b := true) rfl fun s4 hI4 _ => fin2 _ s4 ?_ hI4⟩
     rw [doneL, if_pos hpos]
   · refine hI1.putR (k := { k1 with Own := freeAll (r + 1) k1.Own }) (y := ⟨0, 0, 0, 0⟩) hst1 rfl (by simp) rfl fun s3 hI3 _ => ?_
     refine ⟨trivial, _, _, _, rfl, hI3.dirty (b := true) rfl fun s4 hI4 _ => fin2 k1.Lines s4 ?_ hI4⟩
     rw [doneL, if_neg hpos])
 clear hRR
 refine ⟨_, hR1, (rsG k.Routes r).Next, rfl, (f1 σ).lenK ?_⟩
 rw [List.length_map]
 refine bcd (fun hlt => ?_) (fun hge => fin σ ?_)
 · obtain ⟨y, hy⟩ := get_of_lt (l := x.Path) (j := (rsG k.Routes r).Next.toNat) (by omega)
   have hs : (c.pathS r)[(rsG k.Routes r).Next.toNat]? = some y.Sec := by rw [pathS_some hx, List.getElem?_map, hy]; rfl
   have hgs : geti (c.pathS r) (rsG k.Routes r).Next = some y.Sec := by unfold geti; rw [if_neg (by omega), hs]
   obtain ⟨s0, s1⟩ := sec_path hok hs
   have hlo := hf.lOwn
   have hvl := vw_len hvf
   have hgo : k.goOn c v now r = if ownG k.Own y.Sec ≠ r + 1 then k.setR r { rsG k.Routes r with Next := (rsG k.Routes r).Next + 1 }
       else if (lkG v.Occ y.Sec).clear = true ∧ (lkG v.Occ y.Sec).Stamp > (rsG k.Routes r).Since + c.Hold ∧ (lkG v.Occ y.Sec).Stamp > (rsG k.Routes r).Mark then
         { k with Own := k.Own.set y.Sec.toNat 0, Dirty := true, Routes := k.Routes.set r.toNat { rsG k.Routes r with Next := (rsG k.Routes r).Next + 1, Mark := now } }
       else k := by rw [Co.goOn, hgs]
   have wn : w64 ((rsG k.Routes r).Next + 1) = (rsG k.Routes r).Next + 1 := w64_id (by omega) (by omega)
   have hlk := lk_at (l := v.Occ) s0 (by omega)
   refine ⟨_, hR1, (rsG k.Routes r).Next, rfl, (f1 σ).load (map_get hy) c_Step (Int.toNat_of_nonneg (by omega)).symm ⟨y.Sec, rfl, (hv.occ σ).load (map_get hlk) c_Look (Int.toNat_of_nonneg s0).symm ⟨_, _, _, rfl, trivial, _, _, _, rfl, _, box_row hI.row, d0, rfl, hI.at.own.load (map_get (own_at s0 (by omega))) c_int (Int.toNat_of_nonneg s0).symm ⟨_, rfl, ?_⟩⟩⟩⟩
   rw [w1]
   refine bcn (fun e1 => ?_) (fun e1 => ?_)
   · refine ⟨_, hR1, (rsG k.Routes r).Next, rfl, ?_⟩
     rw [wn]
     refine hI.putR (y := { rsG k.Routes r with Next := (rsG k.Routes r).Next + 1 }) hst rfl (by simp) rfl fun s2 hI2 _ => fin s2 ?_
     rw [hgo, if_pos e1]; exact hI2
   rw [if_neg (by simpa using e1)] at hgo
   intro R1 hRR1
   have go1 : ∀ b1, (b1 = true ↔ (lkG v.Occ y.Sec).clear = true ∧ (lkG v.Occ y.Sec).Stamp > (rsG k.Routes r).Since + c.Hold ∧ (lkG v.Occ y.Sec).Stamp > (rsG k.Routes r).Mark) → R1 b1 σ := fun b1 hb1 => hRR1 b1 σ (by
     refine bc (fun e2 => ?_) (fun e2 => fin σ ?_)
     · rw [if_pos (hb1.1 e2)] at hgo
       refine ⟨trivial, _, _, _, rfl, _, box_row hI.row, d0, rfl, hI.at.own.idxK c_int (Int.toNat_of_nonneg s0).symm (by rw [List.length_map]; omega) ?_⟩
       refine hI.putO (y := 0) (own_at s0 (by omega)) rfl (by simp) rfl fun s2 hI2 _ => ?_
       refine ⟨_, hI2.at.routes.row (map_get hst), (rsG k.Routes r).Next, rfl, ?_⟩
       rw [wn]
       refine hI2.putR (k := { k with Own := k.Own.set y.Sec.toNat 0 }) (y := { rsG k.Routes r with Next := (rsG k.Routes r).Next + 1 }) hst rfl (by simp) rfl fun s3 hI3 _ => ?_
       refine hI3.putR (x := { rsG k.Routes r with Next := (rsG k.Routes r).Next + 1 }) (y := { rsG k.Routes r with Next := (rsG k.Routes r).Next + 1, Mark := now }) (j := r.toNat) (by show (k.Routes.set r.toNat _)[r.toNat]? = _; rw [List.getElem?_set, if_pos rfl, if_pos (by omega)]) rfl (by simp) rfl fun s4 hI4 _ => ?_
       refine ⟨trivial, _, _, _, rfl, hI4.dirty (b := true) rfl fun s5 hI5 _ => fin s5 ?_⟩
       rw [hgo]
       have : ({ k with Own := k.Own.set y.Sec.toNat 0, Dirty := true, Routes := k.Routes.set r.toNat { rsG k.Routes r with Next := (rsG k.Routes r).Next + 1, Mark := now } } : Co) = { k with Own := k.Own.set y.Sec.toNat 0, Dirty := true, Routes := (k.Routes.set r.toNat { rsG k.Routes r with Next := (rsG k.Routes r).Next + 1 }).set r.toNat { rsG k.Routes r with Next := (rsG k.Routes r).Next + 1, Mark := now } } := by rw [List.set_set]
       rw [this]; exact hI5
     · rw [hgo, if_neg (fun h => by rw [hb1.2 h] at e2; cases e2)]; exact hI)
   refine (ref14_clear_ok (lkG v.Occ y.Sec)).use ⟨_, rfl, bc (fun e2 => bcd (fun e3 => ⟨_, hR1, (rsG k.Routes r).Mark, rfl, go1 _ ?_⟩) (fun e3 => go1 _ ?_)) (fun e2 => go1 _ ?_)⟩
   · exact ⟨fun h => ⟨e2, by omega, of_decide_eq_true h⟩, fun h => decide_eq_true h.2.2⟩
   · exact ⟨fun h => (by cases h), fun h => absurd h.2.1 (by omega)⟩
   · exact ⟨fun h => (by cases h), fun h => (by rw [h.1] at e2; cases e2)⟩
 · have : geti (c.pathS r) (rsG k.Routes r).Next = none := geti_ge (by omega)
   rw [Co.goOn, this]; exact hI
end
end
section
variable {σ σ0 : Store}
def KPostK (σ : Store) (p : Co × List Int × Int) (r : RV) (s : Store) : Prop :=
 KPost σ p r s ∨ (s = σ ∧ ∃ d0 d1 d2 d3 d4 d5 d6, r = .tup [coA d0 d1 d2 d3 d4 d5 p.1.Dirty, .one d6, iA p.2.2] ∧ CoFz d0 d1 d2 d3 d4 d5 p.1 ∧ ∀ s, At Tryz.prog s t_int d6 (p.2.1.map Go.Fw.encI))
theorem kpostK_frz {f : FuncId} {xs : List A} {p : Co × List Int × Int} (h : DCalls Tryz.prog f xs σ (KPostK σ p)) : DCalls Tryz.prog f xs σ (KPostZ σ p) := by
 refine h.ret ?_
 rintro r s (⟨d0, d1, d2, d3, d4, d5, d6, rfl, hco, ha, hn⟩ | ⟨rfl, d0, d1, d2, d3, d4, d5, d6, rfl, hz, h6⟩)
 · obtain ⟨e0, e1, e2, e3, e4, e5, hfz, hz⟩ := co_frz hco
   obtain ⟨e6, hf6, h6⟩ := ret_slice ha hco.own.ext hn (flat_ints _ flat_co.1 _)
   refine ⟨.tup [coA e0 e1 e2 e3 e4 e5 p.1.Dirty, .one e6, iA p.2.2], σ, .pure hco.own.ext ⟨rfl, fun i x y h1 h2 => ?_⟩, rfl, _, _, _, _, _, _, _, rfl, hz, h6⟩
   rcases i with _ | _ | _ | i
   · simp at h1 h2; subst h1 h2; exact hfz
   · simp at h1 h2; subst h1 h2; exact hf6
   · simp at h1 h2; subst h1 h2; exact .int _ _
   · simp at h1
 · refine ⟨.tup [coA d0 d1 d2 d3 d4 d5 p.1.Dirty, .one d6, iA p.2.2], s, .pure (.refl _) ⟨rfl, fun i x y h1 h2 => ?_⟩, rfl, _, _, _, _, _, _, _, rfl, hz, h6⟩
   rcases i with _ | _ | _ | i
   · simp at h1 h2; subst h1 h2; exact cofz_fz hz _
   · simp at h1 h2; subst h1 h2; exact plain_fz h6 (flat_ints _ flat_co.1 _)
   · simp at h1 h2; subst h1 h2; exact .int _ _
   · simp at h1
section
variable {c0 c1 c2 c3 c4 v0 v1 v2 v3 : D} {c : Cf} {v : Vw} (hc : ∀ s, CfAt s c0 c1 c2 c3 c4 c) (hv : VwAt v0 v1 v2 v3 v)
include hc hv
theorem ref14_turn_ok (hvf : v.fits c = true) {id : Nat} {d0 d1 d2 d3 d4 d5 : D} {k : Co} {now : Int} {dd : Bool} (hI : CoIn σ0 σ id t_Core [] [] d0 d1 d2 d3 d4 d5 k) (hf : FitIs c k) (hn : tm 0 now = true) {r : Int} {x : Rt} (hx : geti c.Rts r = some x) {T : Prop} (hT : T)
   {R1 : Store → Prop} (hR1 : ∀ s, CoIn σ0 s id t_Core [] [] d0 d1 d2 d3 d4 d5 (k.routeR c v now dd r) → R1 s) {d12 : D} (hd12 : d12 = d1) :
   ∃ len1 : Nat, Idx Tryz.prog σ d12 4 len1 ∧ (0 : Int) ≤ r ∧ r < (len1 : Int) ∧ ∀ R2 : Bool → Store → Prop, (∀ b3 : Bool, ∀ s6 : Store, bcase b3 (storeEl [iD 4] s6 d12 (Int.toNat r) 0 fun s7 => storeEl [iD now] s7 d12 (Int.toNat r) 1 fun s8 => storeEl [iD 0] s8 d12 (Int.toNat r) 3 fun s9 => T ∧ R1 s9)
     (∀ R3 : Bool → Store → Prop, (∀ b4 : Bool, ∀ s7 : Store, bcase b4 (storeEl [iD 3] s7 d12 (Int.toNat r) 0 fun s8 => T ∧ R1 s8)
       (∀ R4 : Bool → Store → Prop, (∀ b5 : Bool, ∀ s8 : Store, bcase b5 (storeEl [iD 2] s8 d12 (Int.toNat r) 0 fun s9 => T ∧ R1 s9)
         (∃ row1 : List D, Row s8 d12 (Int.toNat r) row1 ∧ ∃ n1 : Int, List.take 1 row1 = [iD n1] ∧ bcase (n1 == 4) (DCalls Tryz.prog n_ref14_ending [cfA c0 c1 c2 c3 c4 c, .one (.el (.osl id 0 1) 0 0), .agg [v0, v1, v2, v3], iA now, iA r] s8 fun r2 s9 => r2 = .tup [] ∧ T ∧ R1 s9) (T ∧ R1 s8)) → R4 b5 s8) →
         ∃ row1 : List D, Row s7 d12 (Int.toNat r) row1 ∧ ∃ n1 : Int, List.take 1 row1 = [iD n1] ∧ bcase (n1 == 1) (bcase (!dd) (∃ row2 : List D, Row s7 (.osl id 0 1) 0 row2 ∧ ∃ d13 d14 d15 d16 d17 d18 : D, ∃ b5 : Bool, List.take 7 row2 = [d13, d14, d15, d16, d17, d18, .bool b5] ∧
           DCalls Tryz.prog n_ref14_Ready [cfA c0 c1 c2 c3 c4 c, .agg [d13, d14, d15, d16, d17, d18, .bool b5], .agg [v0, v1, v2, v3], iA r] s7 fun r2 s8 => ∃ b6 : Bool, r2 = .a (bA b6) ∧ T ∧ R4 b6 s8) (T ∧ R4 false s7)) (T ∧ R4 false s7)) → R3 b4 s7) →
       ∃ row1 : List D, Row s6 d12 (Int.toNat r) row1 ∧ ∃ n1 : Int, List.take 1 row1 = [iD n1] ∧ bcase (n1 == 2) (∃ row2 : List D, Row s6 (.osl id 0 1) 0 row2 ∧ ∃ d13 d14 d15 d16 d17 d18 : D, ∃ b4 : Bool, List.take 7 row2 = [d13, d14, d15, d16, d17, d18, .bool b4] ∧
         DCalls Tryz.prog n_ref14_Ready [cfA c0 c1 c2 c3 c4 c, .agg [d13, d14, d15, d16, d17, d18, .bool b4], .agg [v0, v1, v2, v3], iA r] s6 fun r2 s7 => ∃ b5 : Bool, r2 = .a (bA b5) ∧ T ∧ R3 (!b5) s7) (T ∧ R3 false s6)) → R2 b3 s6) →
     ∃ row1 : List D, Row σ d12 (Int.toNat r) row1 ∧ ∃ n1 : Int, List.take 1 row1 = [iD n1] ∧ bcase (n1 == 2) (DCalls Tryz.prog n_ref14_occupied [cfA c0 c1 c2 c3 c4 c, .agg [v0, v1, v2, v3], iA r] σ fun r2 s6 => ∃ b3 : Bool, r2 = .a (bA b3) ∧ T ∧ R2 b3 s6)
       (∃ row2 : List D, Row σ d12 (Int.toNat r) row2 ∧ ∃ n2 : Int, List.take 1 row2 = [iD n2] ∧ bcase (n2 == 3) (DCalls Tryz.prog n_ref14_occupied [cfA c0 c1 c2 c3 c4 c, .agg [v0, v1, v2, v3], iA r] σ fun r2 s6 => ∃ b3 : Bool, r2 = .a (bA b3) ∧ T ∧ R2 b3 s6) (T ∧ R2 false σ)) := by
 subst hd12
 have hok := hf.chk
 obtain ⟨r0, r1, r2, r3⟩ := fits_rt hf hx
 have hst := rsG_get r0 r2
 have hRw := hI.at.routes.row (map_get hst)
 have hD : k.routeR c v now dd r = if ((rsG k.Routes r).State = 2 ∨ (rsG k.Routes r).State = 3) ∧ clr v.Occ (c.pathS r) = false then k.setR r { rsG k.Routes r with State := 4, Since := now, Mark := 0 }
     else if (rsG k.Routes r).State = 2 ∧ k.ready c v r = false then k.setR r { rsG k.Routes r with State := 3 }
     else if (rsG k.Routes r).State = 1 ∧ dd = false ∧ k.ready c v r = true then k.setR r { rsG k.Routes r with State := 2 }
     else if (rsG k.Routes r).State = 4 then k.endingR c v now r
     else k := rfl
 have hend := ref14_ending_ok hc hv hvf hI hf hn hx
 have hrdy := ref14_Ready_ok hc hv hI.at k.Dirty r
 have hrc : k.readyC c v r = k.ready c v r := by unfold Co.readyC; rw [fits_iff.2 hf, hvf, decide_eq_true ⟨by omega, by omega⟩]; rfl
 rw [hrc] at hrdy
 have hocc := ref14_occupied_ok (σ := σ) hc hv hvf hok hx
 generalize k.routeR c v now dd r = k' at hD hR1
 have t4 : (k' = if (rsG k.Routes r).State = 4 then k.endingR c v now r else k) → bcase ((rsG k.Routes r).State == 4) (DCalls Tryz.prog n_ref14_ending [cfA c0 c1 c2 c3 c4 c, .one (.el (.osl id 0 1) 0 0), .agg [v0, v1, v2, v3], iA now, iA r] σ fun r2 s9 => r2 = .tup [] ∧ T ∧ R1 s9) (T ∧ R1 σ) := fun hk => by
   refine bce (fun e => ?_) (fun e => ⟨hT, hR1 σ (by rw [hk, if_neg e]; exact hI)⟩)
   rw [if_pos e] at hk
   exact hend.mono fun q s h => ⟨h.1, hT, hR1 s (by rw [hk]; exact h.2)⟩
 refine hI.at.routes.idxK c_RouteState (Int.toNat_of_nonneg r0).symm (by rw [List.length_map]; omega) ?_
 intro R2 hRR2
 have go1 : ∀ b1, (b1 = true ↔ ((rsG k.Routes r).State = 2 ∨ (rsG k.Routes r).State = 3) ∧ clr v.Occ (c.pathS r) = false) → R2 b1 σ := fun b1 hb1 => hRR2 b1 σ (by
   refine bc (fun e1 => ?_) (fun e1 => ?_)
   · rw [if_pos (hb1.1 e1)] at hD
     refine hI.putR (y := { rsG k.Routes r with State := 4 }) hst rfl (by simp) rfl fun s2 hI2 _ => ?_
     refine hI2.putR (x := { rsG k.Routes r with State := 4 }) (y := { rsG k.Routes r with State := 4, Since := now }) (j := r.toNat) (by show (k.Routes.set r.toNat _)[r.toNat]? = _; rw [List.getElem?_set, if_pos rfl, if_pos (by omega)]) rfl (by simp) rfl fun s3 hI3 _ => ?_
     refine hI3.putR (x := { rsG k.Routes r with State := 4, Since := now }) (y := { rsG k.Routes r with State := 4, Since := now, Mark := 0 }) (j := r.toNat) (by show ((k.Routes.set r.toNat _).set r.toNat _)[r.toNat]? = _; rw [List.getElem?_set, if_pos rfl, if_pos (by rw [List.length_set]; omega)]) rfl (by simp) rfl fun s4 hI4 _ => ⟨hT, hR1 s4 ?_⟩
     have : k.setR r { rsG k.Routes r with State := 4, Since := now, Mark := 0 } = { k with Routes := ((k.Routes.set r.toNat { rsG k.Routes r with State := 4 }).set r.toNat { rsG k.Routes r with State := 4, Since := now }).set r.toNat { rsG k.Routes r with State := 4, Since := now, Mark := 0 } } := by
       rw [List.set_set, List.set_set]; rfl
     rw [hD, this]; exact hI4
   · rw [if_neg (fun h => by rw [hb1.2 h] at e1; cases e1)] at hD
     intro R3 hRR3
     have go2 : ∀ b2, (b2 = true ↔ (rsG k.Routes r).State = 2 ∧ k.ready c v r = false) → R3 b2 σ := fun b2 hb2 => hRR3 b2 σ (by
       refine bc (fun e2 => ?_) (fun e2 => ?_)
       · rw [if_pos (hb2.1 e2)] at hD
         exact hI.putR (y := { rsG k.Routes r with State := 3 }) hst rfl (by simp) rfl fun s2 hI2 _ => ⟨hT, hR1 s2 (by rw [hD]; exact hI2)⟩
       · rw [if_neg (fun h => by rw [hb2.2 h] at e2; cases e2)] at hD
         intro R4 hRR4
         have go3 : ∀ b3, (b3 = true ↔ (rsG k.Routes r).State = 1 ∧ dd = false ∧ k.ready c v r = true) → R4 b3 σ := fun b3 hb3 => hRR4 b3 σ (by
           refine bc (fun e3 => ?_) (fun e3 => ?_)
           · rw [if_pos (hb3.1 e3)] at hD
             exact hI.putR (y := { rsG k.Routes r with State := 2 }) hst rfl (by simp) rfl fun s2 hI2 _ => ⟨hT, hR1 s2 (by rw [hD]; exact hI2)⟩
           · rw [if_neg (fun h => by rw [hb3.2 h] at e3; cases e3)] at hD
             exact ⟨_, hRw, (rsG k.Routes r).State, rfl, t4 hD⟩)
         refine ⟨_, hRw, (rsG k.Routes r).State, rfl, bce (fun e3 => bcnot (fun e4 => ?_) (fun e4 => ⟨hT, go3 _ ⟨fun h => (by cases h), fun h => (by rw [h.2.1] at e4; cases e4)⟩⟩)) (fun e3 => ⟨hT, go3 _ ⟨fun h => (by cases h), fun h => absurd h.1 e3⟩⟩)⟩
         exact ⟨_, box_row hI.row, d0, d12, d2, d3, d4, d5, k.Dirty, rfl, hrdy.use ⟨_, rfl, hT, go3 _ ⟨fun h => ⟨e3, e4, h⟩, fun h => h.2.2⟩⟩⟩)
     refine ⟨_, hRw, (rsG k.Routes r).State, rfl, bce (fun e3 => ?_) (fun e3 => ⟨hT, go2 _ ⟨fun h => (by cases h), fun h => absurd h.1 e3⟩⟩)⟩
     exact ⟨_, box_row hI.row, d0, d12, d2, d3, d4, d5, k.Dirty, rfl, hrdy.use ⟨_, rfl, hT, go2 _ ⟨fun h => ⟨e3, by simpa using h⟩, fun h => (by rw [h.2]; rfl)⟩⟩⟩)
 have goc : ((rsG k.Routes r).State = 2 ∨ (rsG k.Routes r).State = 3) → DCalls Tryz.prog n_ref14_occupied [cfA c0 c1 c2 c3 c4 c, .agg [v0, v1, v2, v3], iA r] σ fun r2 s6 => ∃ b3 : Bool, r2 = .a (bA b3) ∧ T ∧ R2 b3 s6 := fun h =>
   hocc.use ⟨_, rfl, hT, go1 _ ⟨fun h2 => ⟨h, by simpa using h2⟩, fun h2 => (by rw [h2.2]; rfl)⟩⟩
 refine ⟨_, hRw, (rsG k.Routes r).State, rfl, bce (fun e => goc (.inl e)) (fun e => ⟨_, hRw, (rsG k.Routes r).State, rfl, bce (fun e1 => goc (.inr e1)) (fun e1 => ⟨hT, go1 _ ⟨fun h => (by cases h), fun h => ?_⟩⟩)⟩)⟩
 rcases h.1 with h | h
 · exact absurd h e
 · exact absurd h e1
theorem ref14_Step_ok {k0 k1 k2 k3 k4 k5 : D} {k : Co} (hk : CoFz k0 k1 k2 k3 k4 k5 k) (now : Int) :
   DCalls Tryz.prog n_ref14_Step [cfA c0 c1 c2 c3 c4 c, coA k0 k1 k2 k3 k4 k5 k.Dirty, .agg [v0, v1, v2, v3], iA now] σ (KPostK σ (k.stepK c v now)) := by
 have err : ∀ e : Int, k.stepK c v now = (k, [], e) → KPostK σ (k.stepK c v now) (.tup [coA k0 k1 k2 k3 k4 k5 k.Dirty, .one .nils, iA e]) σ := fun e h => by
   rw [h]; exact .inr ⟨rfl, _, _, _, _, _, _, _, rfl, hk, fun _ => .nil⟩
 refine W_ref14_Step _ _ _ _ _ _ _ _ _ k0 k1 k2 k3 k4 k5 k.Dirty v0 v1 v2 v3 now σ _ ?_
 intro R hR
 refine (ref13_Fits_ok hc (hk.at_ σ) k.Dirty).use ⟨_, rfl, bcnot (fun e => err 21 (by rw [Co.stepK, if_pos (.inl e)])) (fun hfit => (ref14_Seen_ok (hc σ) hv).use ⟨_, rfl, bcnot (fun e => err 21 (by rw [Co.stepK, if_pos (.inr e)])) (fun hvf => hR _ _ _ _ _ _ _ σ ?_)⟩)⟩
 have hn21 : ¬ (k.fits c = false ∨ v.fits c = false) := by rw [hfit, hvf]; simp
 refine (ref13_Time_ok now).use ⟨_, rfl, bcnot (fun e => err 32 (by rw [Co.stepK, if_neg hn21, if_pos e])) (fun hn => ?_)⟩
 have hS : k.stepK c v now = (k.stepY c v now, aspN c (k.stepY c v now).Routes c.Rts.length, 0) := by rw [Co.stepK, if_neg hn21, if_neg (by rw [hn]; decide)]
 rw [hS]
 clear err hR hS
 have hfi := fits_iff.1 hfit
 have hok := hfi.chk
 have hsm := check_small hok
 refine (ref13_Copied_fit hk hfit).mono ?_
 rintro q s2 ⟨d0, d1, d2, d3, d4, d5, rfl, hd⟩
 refine ⟨_, _, _, _, _, _, _, rfl, newObj_intro fun id s3 hid _ he3 g3 => cell_store g3 (by simp) fun s4 g4 hs4 => ?_⟩
 have hidσ : σ id = .free := by
   by_cases hf : σ id = .free
   · exact hf
   · have := hd.own.ext id hf; rw [hid] at this; exact this.symm
 have he4 : Ext s2 s4 := fun i hi => by
   have hne : i ≠ id := fun e => hi (by rw [e]; exact hid)
   rw [hs4 i hne]; exact he3 i hi
 have hlv : ∀ d ∈ [d0, d1, d2, d3, d4, d5], idOf d ≠ some id := fun d hd' hi => by
   simp only [List.mem_cons, List.not_mem_nil, or_false] at hd'
   rcases hd' with rfl | rfl | rfl | rfl | rfl | rfl
   · exact live_idOf hd.own.at_ hi hid
   · exact live_idOf hd.routes.at_ hi hid
   · exact live_idOf hd.points.at_ hi hid
   · exact live_idOf hd.xs.at_ hi hid
   · exact live_idOf hd.lines.at_ hi hid
   · exact live_idOf hd.resets.at_ hi hid
 have hI : CoIn σ s4 id t_Core [] [] d0 d1 d2 d3 d4 d5 k := ⟨hidσ, g4, hd.ext' he4, hlv⟩
 obtain ⟨rows, hat, hlen, hrow4⟩ := rts_froz fun s => (hc s).rts
 refine (hat s4).lenK ⟨fun n s => ∃ j : Nat, n = j ∧ j ≤ c.Rts.length ∧ CoIn σ s id t_Core [] [] d0 d1 d2 d3 d4 d5 (routesR c v now k.Dirty k j), fun n _ => c.Rts.length - n.toNat, ⟨0, rfl, by omega, hI⟩, ?_⟩
 rw [hlen]
 rintro n s ⟨j, rfl, hj, hIj⟩
 refine bcd (fun hlt => ?_) (fun hge => ?_)
 · obtain ⟨x, hx⟩ := get_of_lt (l := c.Rts) (j := j) (by omega)
   intro R1 hR1
   refine ⟨_, box_row hIj.row, d1, rfl, ref14_turn_ok hc hv hvf hIj (routesR_fits hfi hn j) hn (dd := k.Dirty) (r := (j : Int)) (by rw [geti_nat]; exact hx) (by rfl) (fun s' h => hR1 s' ⟨rfl, ?_⟩) rfl⟩
   rw [w64_succ (by omega)]
   exact ⟨⟨j + 1, rfl, by omega, h⟩, dec_lt (by omega)⟩
 have e : j = c.Rts.length := by omega
 subst e
 have hf1 : FitIs c (k.stepR c v now) := routesR_fits hfi hn _
 have hIj : CoIn σ s id t_Core [] [] d0 d1 d2 d3 d4 d5 (k.stepR c v now) := hIj
 have hY : k.stepY c v now = rstN v { k.stepR c v now with Xs := xsN c (k.stepR c v now).Own now (k.stepR c v now).Xs c.Xs.length } (k.stepR c v now).Resets.length := rfl
 have hfY := stepY_fits (v := v) hfi hn
 have hfX : FitIs c { k.stepR c v now with Xs := xsN c (k.stepR c v now).Own now (k.stepR c v now).Xs c.Xs.length } := stepX_fits hfi hn
 generalize k.stepR c v now = kR at *
 generalize k.stepY c v now = kY at *
 clear hI
 have hxs := check_xs hok
 have hlo := hf1.lOwn
 have hlx := hf1.lXs
 refine (hc s).xs.lenK ⟨fun n s => ∃ j : Nat, n = j ∧ j ≤ c.Xs.length ∧ CoIn σ s id t_Core [] [] d0 d1 d2 d3 d4 d5 { kR with Xs := xsN c kR.Own now kR.Xs j },
   fun n _ => c.Xs.length - n.toNat, ⟨0, rfl, by omega, hIj⟩, ?_⟩
 clear hIj
 rintro n s ⟨j, rfl, hj, hI1⟩
 rw [List.length_map]
 refine bcd (fun hlt => ?_) (fun hge => ?_)
 · obtain ⟨q, hq⟩ := get_of_lt (l := c.Xs) (j := j) (by omega)
   obtain ⟨z, hz, _⟩ := hxs.1 q (List.mem_of_getElem? hq)
   have hgz := geti_some hz
   have hln := xsN_len (c := c) (own := kR.Own) (now := now) (w := kR.Xs) j
   have hm := mv_at (l := xsN c kR.Own now kR.Xs j) (s := (j : Int)) (by omega) (by omega)
   rw [Int.toNat_natCast] at hm
   have hsu := xsN_succ (own := kR.Own) (now := now) (w := kR.Xs) hq
   have go : ∀ (cmd : Int) s1, cmd = (if ownG kR.Own q = 0 then 2 else 1) → CoIn σ s1 id t_Core [] [] d0 d1 d2 d3 d4 d5 { kR with Xs := (xsN c kR.Own now kR.Xs j).set j (cmdM (mvG (xsN c kR.Own now kR.Xs j) j) now cmd) } →
       (∃ i : Nat, w64 ((j : Int) + 1) = i ∧ i ≤ c.Xs.length ∧ CoIn σ s1 id t_Core [] [] d0 d1 d2 d3 d4 d5 { kR with Xs := xsN c kR.Own now kR.Xs i }) ∧ c.Xs.length - (w64 ((j : Int) + 1)).toNat < c.Xs.length - ((j : Nat) : Int).toNat := fun cmd s1 hcmd h => by
     rw [w64_succ (by omega)]
     refine ⟨⟨j + 1, rfl, by omega, ?_⟩, dec_lt (by omega)⟩
     rw [hsu, ← hcmd]; exact h
   refine (hc s).xs.load (map_get hq) c_int rfl ⟨q, rfl, _, box_row hI1.row, d0, rfl, hI1.at.own.load (map_get (own_at (l := kR.Own) hgz.1 (by omega))) c_int (Int.toNat_of_nonneg hgz.1).symm ⟨_, rfl, bce (fun e => ?_) (fun e => ?_)⟩⟩
   · refine ⟨cmdPre, cmdPost, rcmd_spec, _, box_row hI1.row, d3, rfl, _, box_row hI1.row, d3, rfl, hI1.at.xs.load (map_get hm) c_Mover rfl ⟨_, _, rfl, ⟨mvG (xsN c kR.Own now kR.Xs j) j, now, 2, rfl⟩, ?_⟩⟩
     intro q8 s8 hq8
     obtain ⟨rfl, rfl⟩ := cmd_post (m := mvG (xsN c kR.Own now kR.Xs j) j) hq8
     refine ⟨_, _, rfl, hI1.at.xs.idxK c_Mover rfl (by simp only [List.length_map]; omega) ?_⟩
     exact hI1.putX (k := { kR with Xs := xsN c kR.Own now kR.Xs j }) (y := cmdM (mvG (xsN c kR.Own now kR.Xs j) j) now 2) hm (by rw [Int.toNat_natCast]) (by simp) rfl fun s11 hI11 _ => ⟨rfl, go 2 s11 (by rw [if_pos e]) hI11⟩
   · refine ⟨cmdPre, cmdPost, rcmd_spec, _, box_row hI1.row, d3, rfl, _, box_row hI1.row, d3, rfl, hI1.at.xs.load (map_get hm) c_Mover rfl ⟨_, _, rfl, ⟨mvG (xsN c kR.Own now kR.Xs j) j, now, 1, rfl⟩, ?_⟩⟩
     intro q8 s8 hq8
     obtain ⟨rfl, rfl⟩ := cmd_post (m := mvG (xsN c kR.Own now kR.Xs j) j) hq8
     refine ⟨_, _, rfl, hI1.at.xs.idxK c_Mover rfl (by simp only [List.length_map]; omega) ?_⟩
     exact hI1.putX (k := { kR with Xs := xsN c kR.Own now kR.Xs j }) (y := cmdM (mvG (xsN c kR.Own now kR.Xs j) j) now 1) hm (by rw [Int.toNat_natCast]) (by simp) rfl fun s11 hI11 _ => ⟨rfl, go 1 s11 (by rw [if_neg e]) hI11⟩
 have e : j = c.Xs.length := by omega
 subst e
 have hlz := hfX.lRes
 have hlo2 := hfX.lOwn
 have hRl : kR.Resets.length = c.Secs.length := hlz
 generalize hX : ({ kR with Xs := xsN c kR.Own now kR.Xs c.Xs.length } : Co) = kX at *
 have hRX : kX.Resets.length = kR.Resets.length := by rw [← hX]
 rw [← hRX] at hY hRl
 refine ⟨_, box_row hI1.row, d5, rfl, hI1.at.resets.lenK ⟨fun n s => ∃ j : Nat, n = j ∧ j ≤ kX.Resets.length ∧ CoIn σ s id t_Core [] [] d0 d1 d2 d3 d4 d5 (rstN v kX j),
   fun n _ => kX.Resets.length - n.toNat, ⟨0, rfl, by omega, hI1⟩, ?_⟩⟩
 clear hI1
 have hvl := vw_len hvf
 rintro n s ⟨j, rfl, hj, hI1⟩
 rw [List.length_map]
 refine bcd (fun hlt => ?_) (fun hge => ?_)
 · have hr := rstN_rst (v := v) (k := kX) j
   have hsu : rstN v kX (j + 1) = (rstN v kX j).rstOne v j := rfl
   generalize rstN v kX j = k1 at *
   have h1 := hr.lRes
   have h2 := hr.lOwn
   have hz := own_at (l := k1.Resets) (s := (j : Int)) (by omega) (by omega)
   have ho := own_at (l := k1.Own) (s := (j : Int)) (by omega) (by omega)
   have hlk := lk_at (l := v.Occ) (s := (j : Int)) (by omega) (by omega)
   rw [Int.toNat_natCast] at hz ho
   have go : ∀ (k' : Co) s1, k' = k1.rstOne v j → CoIn σ s1 id t_Core [] [] d0 d1 d2 d3 d4 d5 k' →
       (∃ i : Nat, w64 ((j : Int) + 1) = i ∧ i ≤ kX.Resets.length ∧ CoIn σ s1 id t_Core [] [] d0 d1 d2 d3 d4 d5 (rstN v kX i)) ∧ kX.Resets.length - (w64 ((j : Int) + 1)).toNat < kX.Resets.length - ((j : Nat) : Int).toNat := fun k' s1 hk h => by
     rw [w64_succ (by omega)]
     refine ⟨⟨j + 1, rfl, by omega, ?_⟩, dec_lt (by omega)⟩
     rw [hsu, ← hk]; exact h
   refine hI1.at.resets.load (map_get hz) c_int rfl ⟨_, rfl, (hv.occ s).load (map_get hlk) c_Look rfl ⟨_, _, _, rfl, bcd (fun e => ?_) (fun e => bcd (fun e' => absurd e' e) (fun _ => ⟨rfl, go k1 s (by rw [Co.rstOne, if_pos (by omega)]) hI1⟩))⟩⟩
   refine ⟨_, box_row hI1.row, d0, rfl, hI1.at.own.load (map_get ho) c_int rfl ⟨_, rfl, bcn (fun e1 => ?_) (fun e1 => bcd (fun _ => ?_) (fun e' => absurd e e'))⟩⟩
   · refine ⟨_, box_row hI1.row, d5, rfl, hI1.at.resets.idxK c_int rfl (by rw [List.length_map]; omega) ?_⟩
     exact hI1.putZ (y := 0) hz rfl (by simp) rfl fun s2 hI2 _ => ⟨rfl, go _ s2 (by rw [Co.rstOne, if_neg (by omega), if_pos e1, Int.toNat_natCast]) hI2⟩
   refine (ref14_clear_ok (lkG v.Occ j)).use ⟨_, rfl, bc (fun e2 => bcd (fun e3 => ?_) (fun e3 => ⟨rfl, go k1 s ?_ hI1⟩)) (fun e2 => ⟨rfl, go k1 s ?_ hI1⟩)⟩
   · refine ⟨_, box_row hI1.row, d0, rfl, hI1.at.own.idxK c_int rfl (by rw [List.length_map]; omega) ?_⟩
     refine hI1.putO (y := 0) ho (by rw [Int.toNat_natCast]) (by simp) rfl fun s2 hI2 _ => ?_
     refine ⟨_, box_row hI2.row, d5, rfl, hI2.at.resets.idxK c_int rfl (by rw [List.length_map]; simp only; omega) ?_⟩
     refine hI2.putZ (k := { k1 with Own := k1.Own.set j 0 }) (y := 0) hz (by rw [Int.toNat_natCast]) (by simp) rfl fun s3 hI3 _ => ?_
     refine hI3.dirty (b := true) rfl fun s4 hI4 _ => ⟨rfl, go _ s4 ?_ hI4⟩
     rw [Co.rstOne, if_neg (by omega), if_neg (by simpa using e1), if_pos ⟨e2, e3⟩, Int.toNat_natCast]
   · rw [Co.rstOne, if_neg (by omega), if_neg (by simpa using e1), if_neg (fun h => e3 h.2)]
   · rw [Co.rstOne, if_neg (by omega), if_neg (by simpa using e1), if_neg (fun h => by rw [h.1] at e2; cases e2)]
 have e : j = kX.Resets.length := by omega
 subst e
 rw [← hY] at hI1
 refine (hc s).sigs.lenK ⟨by omega, by omega, by rw [List.length_map]; omega, newObj_intro fun i s8 hi hs8 he8 g8 => ?_⟩
 rw [List.length_map, Int.toNat_natCast] at hs8 g8 ⊢
 have hne : id ≠ i := fun e => by rw [← e, hI1.row] at hi; cases hi
 have hlr := hfY.lRts
 refine (hat s8).lenK ?_
 rw [hlen]
 refine ⟨fun n s' => ∃ j : Nat, n = j ∧ j ≤ c.Rts.length ∧ s' = s.set i (.live t_int ((aspN c kY.Routes j).map Go.Fw.encI)), fun n _ => c.Rts.length - n.toNat, ⟨0, rfl, by omega, by rw [hs8, aspN, List.map_replicate]; rfl⟩, ?_⟩
 clear hs8 g8 he8
 rintro n s9 ⟨j, rfl, hj, hs⟩
 have he : Ext s s9 := by rw [hs]; exact Ext.new hi _
 have hI9 := hI1.mono he
 have hg : s9 i = .live t_int ((aspN c kY.Routes j).map Go.Fw.encI) := by rw [hs]; exact Store.set_same _ _ _
 refine bcd (fun hlt => ?_) (fun hge => ?_)
 · obtain ⟨x, hx⟩ := get_of_lt (l := c.Rts) (j := j) (by omega)
   obtain ⟨row, hrw⟩ := get_of_lt (l := rows) (j := j) (by omega)
   obtain ⟨q1, q2, q3, rfl, _⟩ := hrow4 j row x hrw hx
   have hy := rsG_get (l := kY.Routes) (r := (j : Int)) (by omega) (by omega)
   rw [Int.toNat_natCast] at hy
   have hxr : c.rt (j : Int) = x := rt_at (by omega) (by rw [Int.toNat_natCast]; exact hx)
   obtain ⟨a, ha⟩ := (check_rt hok (List.mem_of_getElem? hx)).entry
   have hga := geti_some ha
   have hsu : aspN c kY.Routes (j + 1) = if (rsG kY.Routes j).State = 2 then (aspN c kY.Routes j).set x.Entry.toNat (max (ownG (aspN c kY.Routes j) x.Entry) (if x.Shunt = true then 1 else 2)) else aspN c kY.Routes j := by rw [aspN, hxr]
   have hal := aspN_len (c := c) (rs := kY.Routes) j
   have hbd := (aspN_fact (c := c) (rs := kY.Routes) hfY.entry j hj x.Entry hga.1 hga.2.1).1
   have go : ∀ s2, s2 = s.set i (.live t_int ((aspN c kY.Routes (j + 1)).map Go.Fw.encI)) → (∃ j' : Nat, w64 ((j : Int) + 1) = j' ∧ j' ≤ c.Rts.length ∧ s2 = s.set i (.live t_int ((aspN c kY.Routes j').map Go.Fw.encI))) ∧ c.Rts.length - (w64 ((j : Int) + 1)).toNat < c.Rts.length - ((j : Nat) : Int).toNat := fun s2 h => by
     rw [w64_succ (by omega)]
     exact ⟨⟨j + 1, rfl, by omega, h⟩, dec_lt (by omega)⟩
   have ho := own_at (l := aspN c kY.Routes j) hga.1 (by omega)
   have hatI : At Tryz.prog s9 t_int (.osl i 0 c.Sigs.length) ((aspN c kY.Routes j).map Go.Fw.encI) := At.fresh hg (by rw [List.length_map, hal]; omega) (by rw [List.length_map, hal])
   have hyR := hI9.at.routes.row (map_get hy)
   refine (hat s9).load hrw c_Route rfl ⟨x.Entry, x.Exit, q1, q2, q3, x.Shunt, rfl, ?_⟩
   intro R1 hR1
   have tail : ∀ s10, (∃ w : List Int, s10 = s.set i (.live t_int (w.map Go.Fw.encI)) ∧ w.length = c.Sigs.length ∧ ((rsG kY.Routes j).State = 2 → x.Shunt = true → w = aspN c kY.Routes (j + 1)) ∧ (¬ ((rsG kY.Routes j).State = 2 ∧ x.Shunt = true) → w = aspN c kY.Routes j)) → R1 s10 := fun s10 ⟨w, hw, hwl, hw1, hw2⟩ => hR1 s10 (by
     have he10 : Ext s s10 := by rw [hw]; exact Ext.new hi _
     have hI10 := hI1.mono he10
     have hg10 : s10 i = .live t_int (w.map Go.Fw.encI) := by rw [hw]; exact Store.set_same _ _ _
     have hat10 : At Tryz.prog s10 t_int (.osl i 0 c.Sigs.length) (w.map Go.Fw.encI) := At.fresh hg10 (by rw [List.length_map, hwl]; omega) (by rw [List.length_map, hwl])
     refine ⟨_, box_row hI10.row, d1, rfl, hI10.at.routes.load (map_get hy) c_RouteState rfl ⟨_, rfl, bce (fun e => bcnot (fun e1 => ?_) (fun e1 => ⟨rfl, go s10 ?_⟩)) (fun e => ⟨rfl, go s10 ?_⟩)⟩⟩
     · have hw2 := hw2 (fun h => by rw [h.2] at e1; cases e1)
       subst hw2
       refine hat10.idxK c_int (Int.toNat_of_nonneg hga.1).symm (by rw [List.length_map]; omega) ?_
       refine ⟨i, 0, c.Sigs.length, t_int, (aspN c kY.Routes j).map Go.Fw.encI, Go.Fw.encI (ownG (aspN c kY.Routes j) x.Entry), rfl, by omega, hg10, by rw [Nat.zero_add]; exact map_get ho, by simp [Go.Fw.encI], rfl, go _ ?_⟩
       rw [hsu, if_pos e, hw, set_set, Nat.zero_add, show (if x.Shunt = true then (1 : Int) else 2) = 2 from if_neg (by rw [e1]; decide), show max (ownG (aspN c kY.Routes j) x.Entry) 2 = 2 by omega, ← map_set]
       rfl
     · rw [← hw1 e e1]; exact hw
     · rw [hsu, if_neg e, ← hw2 (fun h => e h.1)]; exact hw)
   refine ⟨_, box_row hI9.row, d1, rfl, hI9.at.routes.load (map_get hy) c_RouteState rfl ⟨_, rfl, bce (fun e => bc (fun e1 => ?_) (fun e1 => ⟨rfl, tail s9 ⟨_, hs, hal, fun _ h => (by rw [e1] at h; cases h), fun _ => rfl⟩⟩)) (fun e => ⟨rfl, tail s9 ⟨_, hs, hal, fun h => absurd h e, fun _ => rfl⟩⟩)⟩⟩
   refine hatI.load (map_get ho) c_int (Int.toNat_of_nonneg hga.1).symm ⟨_, rfl, hatI.idxK c_int (Int.toNat_of_nonneg hga.1).symm (by rw [List.length_map]; omega) ?_⟩
   refine ⟨i, 0, c.Sigs.length, t_int, (aspN c kY.Routes j).map Go.Fw.encI, Go.Fw.encI (ownG (aspN c kY.Routes j) x.Entry), rfl, by omega, hg, by rw [Nat.zero_add]; exact map_get ho, by simp [Go.Fw.encI], rfl, tail _ ⟨aspN c kY.Routes (j + 1), ?_, aspN_len _, fun _ _ => rfl, fun h => absurd ⟨e, e1⟩ h⟩⟩
   have hmx : (if (1 : Int) > ownG (aspN c kY.Routes j) x.Entry then 1 else ownG (aspN c kY.Routes j) x.Entry) = max (ownG (aspN c kY.Routes j) x.Entry) 1 := by split <;> omega
   rw [hsu, if_pos e, hs, set_set, Nat.zero_add, show (if x.Shunt = true then (1 : Int) else 2) = 1 from if_pos e1, ← hmx, ← map_set]
   rfl
 · have e : j = c.Rts.length := by omega
   subst e
   have hal := aspN_len (c := c) (rs := kY.Routes) c.Rts.length
   refine ⟨_, box_row hI9.row, d0, d1, d2, d3, d4, d5, kY.Dirty, rfl, .inl ⟨d0, d1, d2, d3, d4, d5, _, rfl, hI9.co, At.fresh hg (by rw [List.length_map, hal]; omega) (by rw [List.length_map, hal]), fun id' i' len' e => ?_⟩⟩
   injection e with e
   subst e
   by_cases hf : σ i = .free
   · exact hf
   · have h2 := hI1.ext i hf
     rw [hi] at h2; exact h2.symm
end
end
end Go.Proofs.YtdlnbehcnfjneaaGreat
namespace Go.Fw
section
structure LCall where
 Kind : Int
 Now : Int
 N : Int
 Pos : Int
def LCall.enc (x : LCall) : List D := [iD x.Kind, iD x.Now, iD x.N, iD x.Pos]
structure DoIs (c : Cf) (k : Co) (x : LCall) (p : Co × Int) : Prop where
 fits : p.1.fits c = true
 no : p.2 ≠ 0 → p.1 = k
 rng : p.2 = 0 → x.Kind = 1 → 0 ≤ x.N ∧ x.N < c.Rts.length
 req : p.2 = 0 → x.Kind = 1 → ∀ s ∈ c.lockL x.N, ownG p.1.Own s = x.N + 1 ∧ (ownG k.Own s = 0 ∨ k.inh c x.N s = true)
 own : ∀ s : Nat, p.1.Own[s]? ≠ k.Own[s]? → p.2 = 0 ∧ x.Kind = 1 ∧ p.1.Own[s]? = some (x.N + 1)
end
end Go.Fw
namespace Go.Proofs.YtdlnbehcnfjneaaGreat
open Go.Fw Go.Proofs Go.RowKit
section
variable {σ σ0 : Store}
theorem spoil_ownA {σ0 : Store} {d0 d1 d2 d3 d4 d5 : D} {k : Co} (h : CoOwn σ0 σ d0 d1 d2 d3 d4 d5 k) {T : Prop} (hT : T) {X : Store → Prop} (hX : ∀ (k' : Co) (s : Store), CoOwn σ0 s d0 d1 d2 d3 d4 d5 k' → X s) :
   ∃ len : Nat, Len d0 len ∧ ∃ I : Int → Store → Prop, ∃ μ : Int → Store → Nat, I 0 σ ∧ ∀ n : Int, ∀ σ8 : Store, I n σ8 → bcase (decide (n < (len : Int))) (∃ len1 : Nat, Idx Tryz.prog σ8 d0 1 len1 ∧ (0 : Int) ≤ n ∧ n < (len1 : Int) ∧ storeEl [iD (-9)] σ8 d0 (Int.toNat n) 0 (fun σ9 => T ∧ I (w64 (n + 1)) σ9 ∧ μ (w64 (n + 1)) σ9 < μ n σ8)) (X σ8) := by
 have hs := h.own.at_.size
 rw [List.length_map] at hs
 refine h.own.at_.lenK ⟨fun n s => ∃ (j : Nat) (k' : Co), n = j ∧ j ≤ k.Own.length ∧ CoOwn σ0 s d0 d1 d2 d3 d4 d5 k' ∧ k'.Own.length = k.Own.length, fun n _ => k.Own.length - n.toNat, ⟨0, k, rfl, by omega, h, rfl⟩, ?_⟩
 rintro _ s ⟨j, k', rfl, hj, h', hl⟩
 rw [List.length_map]
 refine bcd (fun hlt => ?_) (fun _ => hX k' s h')
 have hlt : j < k.Own.length := by omega
 obtain ⟨o, ho⟩ := get_of_lt (l := k'.Own) (j := j) (by omega)
 refine h'.own.at_.idxK (j := j) c_int rfl (by rw [List.length_map]; omega) (h'.putO ho (by omega) (by simp) (y := -9) rfl fun s' h2 _ => ⟨hT, ?_⟩)
 rw [w64_succ (by omega)]
 exact ⟨⟨j + 1, _, rfl, by omega, h2, by simpa using hl⟩, dec_lt hlt⟩
theorem spoil_routes {σ0 : Store} {d0 d1 d2 d3 d4 d5 : D} {k : Co} (h : CoOwn σ0 σ d0 d1 d2 d3 d4 d5 k) {T : Prop} (hT : T) {X : Store → Prop} (hX : ∀ (k' : Co) (s : Store), CoOwn σ0 s d0 d1 d2 d3 d4 d5 k' → X s) :
   ∃ len : Nat, Len d1 len ∧ ∃ I : Int → Store → Prop, ∃ μ : Int → Store → Nat, I 0 σ ∧ ∀ n : Int, ∀ σ8 : Store, I n σ8 → bcase (decide (n < (len : Int))) (∃ len1 : Nat, Idx Tryz.prog σ8 d1 4 len1 ∧ (0 : Int) ≤ n ∧ n < (len1 : Int) ∧ storeEl [iD (-9)] σ8 d1 (Int.toNat n) 0 (fun σ9 => T ∧ I (w64 (n + 1)) σ9 ∧ μ (w64 (n + 1)) σ9 < μ n σ8)) (X σ8) := by
 have hs := h.routes.at_.size
 rw [List.length_map] at hs
 refine h.routes.at_.lenK ⟨fun n s => ∃ (j : Nat) (k' : Co), n = j ∧ j ≤ k.Routes.length ∧ CoOwn σ0 s d0 d1 d2 d3 d4 d5 k' ∧ k'.Routes.length = k.Routes.length, fun n _ => k.Routes.length - n.toNat, ⟨0, k, rfl, by omega, h, rfl⟩, ?_⟩
 rintro _ s ⟨j, k', rfl, hj, h', hl⟩
 rw [List.length_map]
 refine bcd (fun hlt => ?_) (fun _ => hX k' s h')
 have hlt : j < k.Routes.length := by omega
 obtain ⟨o, ho⟩ := get_of_lt (l := k'.Routes) (j := j) (by omega)
 refine h'.routes.at_.idxK (j := j) c_RouteState rfl (by rw [List.length_map]; omega) (h'.putR ho (by omega) (by simp) (y := { o with State := -9 }) rfl fun s' h2 _ => ⟨hT, ?_⟩)
 rw [w64_succ (by omega)]
 exact ⟨⟨j + 1, _, rfl, by omega, h2, by simpa using hl⟩, dec_lt hlt⟩
end
section
variable {σ σ0 : Store}
theorem law14_KernelSteps_ok {xs : List A} (h : TyAs Tryz.prog [t_Config, t_Core, t_law14_Cycle] xs) : LawTrue n_law14_KernelSteps xs := by
 obtain ⟨a0, xs, rfl, h0, hr0⟩ := tys_cons h
 obtain ⟨a1, xs, rfl, h1, hr1⟩ := tys_cons hr0
 obtain ⟨a2, xs, rfl, h2, hr2⟩ := tys_cons hr1
 obtain rfl := tys_nil hr2
 obtain ⟨cs, _, rfl, p0⟩ := tya_agg h0 (by kernel_rfl)
 obtain ⟨c0, c1, c2, c3, c4, c, rfl, hc, hci, hz⟩ := ty_ConfigZ p0
 obtain ⟨cs, _, rfl, p1⟩ := tya_agg h1 (by kernel_rfl)
 obtain ⟨k0, k1, k2, k3, k4, k5, k, rfl, hk, hf, hki⟩ := ty_Core p1
 obtain ⟨cs, _, rfl, p2⟩ := tya_agg h2 (by kernel_rfl)
 obtain ⟨v0, _, rfl, q0, v1, _, rfl, q1, v2, _, rfl, q2, v3, _, rfl, q3, _, _, rfl, ⟨now, rfl, hnow⟩, _, _, rfl, ⟨rec, rfl⟩, rfl⟩ :=
   ty_sh _ 5 _ _ [.sl t_Look, .sl t_Look, .sl t_Look, .sl t_Look, .int .i64, .bool] p2 (by kernel_rfl)
 clear h h0 h1 h2 hr0 hr1 hr2 p0 p1 p2
 obtain ⟨v, hv, hvi⟩ := sh_View q0 q1 q2 q3
 refine W_law14_KernelSteps _ _ _ _ _ _ _ _ _ k0 k1 k2 k3 k4 k5 k.Dirty v0 v1 v2 v3 now rec noS _ (law14_lives_ok.use ⟨true, rfl, bcnot (fun e => by cases e) (fun _ => (ref13_Copied_z (hk.at_ noS) hf.b0 hf.b1 hf.b2 hf.b3 hf.b4 hf.b5).mono ?_)⟩)
 rintro r s ⟨rfl, d0, d1, d2, d3, d4, d5, rfl, hd⟩
 refine ⟨_, _, _, _, _, _, _, rfl, (kernel_Step_ok hc hz hv (hd.at_ _) (hd.fits hf) now).mono ?_⟩
 rintro r s1 ⟨e0, e1, e2, e3, e4, e5, e6, rfl, he, he6, _⟩
 refine ⟨_, _, _, _, _, _, _, _, _, rfl, (kpostK_frz (ref14_Step_ok hc hv hk now)).mono ?_⟩
 rintro r s2 ⟨rfl, f0, f1, f2, f3, f4, f5, f6, rfl, hfz, hf6⟩
 refine ⟨_, _, _, _, _, _, _, _, _, rfl, ?_⟩
 intro R hR
 refine bcn (fun e => absurd rfl e) (fun _ => (ref13_Same_ok he.at (hfz.at_ _)).use ⟨_, rfl, bcnot (fun e => absurd rfl (of_decide_eq_false e)) (fun _ => (ref01_SameInts_ok he6 (hf6 _)).use ⟨_, rfl, bcnot (fun e => absurd rfl (of_decide_eq_false e)) (fun _ => (ref13_Same_ok (hd.at_ _) (hk.at_ _)).use ⟨_, rfl, bcnot (fun e => absurd rfl (of_decide_eq_false e)) (fun _ => ⟨rfl, hR _ ?_⟩)⟩)⟩)⟩)
 refine spoil_ownA he (by rfl) fun _ _ g0 => spoil_routes g0 (by rfl) fun _ s3 g1 => ?_
 refine (ref13_Same_ok (hd.at_ _) (hk.at_ _)).use ⟨_, rfl, bcnot (fun e => absurd rfl (of_decide_eq_false e)) (fun _ => ?_)⟩
 obtain ⟨rows, hat, hlen⟩ := rts_len (hc s3)
 have hsz := hat.size
 rw [hlen] at hsz
 refine ⟨fun n s => s = s3 ∧ ∃ j : Nat, n = (j : Int) - 1 ∧ j ≤ c.Rts.length + 2, fun n _ => c.Rts.length + 2 - (n + 1).toNat, ⟨rfl, 0, by omega, by omega⟩, ?_⟩
 rintro n s ⟨rfl, j, rfl, hj⟩
 refine hat.lenK ?_
 rw [hlen]
 refine bcd (fun hlt => ?_) (fun _ => rfl)
 refine (kernel_Ready_ok hc hz hv (hk.at_ s) hf ((j : Int) - 1)).use ⟨_, rfl, (ref14_Ready_ok hc hv (hk.at_ s) k.Dirty ((j : Int) - 1)).use ⟨_, rfl, bcnot (fun e => by simp at e) (fun _ => ?_)⟩⟩
 rw [w64_id (n := (j : Int) - 1 + 1) (by omega) (by omega)]
 refine ⟨⟨rfl, j + 1, by omega, by omega⟩, ?_⟩
 show c.Rts.length + 2 - ((j : Int) - 1 + 1 + 1).toNat < c.Rts.length + 2 - ((j : Int) - 1 + 1).toNat
 omega
end
end Go.Proofs.YtdlnbehcnfjneaaGreat
