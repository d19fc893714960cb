/-
  Proofs that the statement of this claim leans on: part 6.
-/
import Derived.Test.YtaklhjodjbgmgaaGreatP5
section
set_option linter.unusedVariables false
set_option linter.unusedSimpArgs false
namespace Go.Proofs.YtaklhjodjbgmgaaGreat
open Go.Fw Go.Proofs Go.RowKit
variable {σ σ0 : Store}
theorem Repeat_thing_ok {x : D} {row : List D} {n : Nat} (hx : At Tryz.prog σ t_yard_thing x [row]) (hn : n ≤ 2 ^ 20) : DCalls Tryz.prog n_slices_Repeat_yard_thing [.one x, iA n] σ (RepPost t_yard_thing n row σ) :=
  W_slices_Repeat_yard_thing x n σ _ (rep_ok (bytes := 24) Mul_ok c_yard_thing hx hn (by omega) fun _ _ h => h)
theorem Repeat_lamp_ok {x : D} {row : List D} {n : Nat} (hx : At Tryz.prog σ t_yard_lamp x [row]) (hn : n ≤ 2 ^ 20) : DCalls Tryz.prog n_slices_Repeat_yard_lamp [.one x, iA n] σ (RepPost t_yard_lamp n row σ) :=
  W_slices_Repeat_yard_lamp x n σ _ (rep_ok (bytes := 16) Mul_ok c_yard_lamp hx hn (by omega) fun _ _ h => h)
theorem Clone_Section_ok {d : D} {l : List Sec} (h : At Tryz.prog σ t_Section d (l.map Sec.enc)) (hz : d ≠ .zsl) (hl : l.length ≤ 2 ^ 40) : DCalls Tryz.prog n_slices_Clone_Section [.one d] σ (SlPost σ t_Section (l.map Sec.enc)) := by
  have key : DCalls Tryz.prog n_slices_Clone_Section [.one d] σ fun r s => ∃ d', r = .a (.one d') ∧ Own Tryz.prog σ s t_Section d' (l.map Sec.enc) :=
    W_slices_Clone_Section d σ _ (clone_ok (bytes := 24) (Q := fun r s => ∃ d', r = .a (.one d') ∧ Own Tryz.prog σ s t_Section d' (l.map Sec.enc)) h hz (by simp; omega) fun d' s ho => ⟨d', rfl, ho⟩)
  refine key.ret ?_
  rintro r s ⟨d', rfl, ho⟩
  exact own_fin ho fun row hr x hx => by
    obtain ⟨w, _, rfl⟩ := List.mem_map.1 hr
    simp [Sec.enc] at hx
    rcases hx with rfl | rfl | rfl <;> exact .int _ _
theorem Clone_Joint_ok {d : D} {l : List Jt} (h : At Tryz.prog σ t_Joint d (l.map Jt.enc)) (hz : d ≠ .zsl) (hl : l.length ≤ 2 ^ 40) : DCalls Tryz.prog n_slices_Clone_Joint [.one d] σ (SlPost σ t_Joint (l.map Jt.enc)) := by
  have key : DCalls Tryz.prog n_slices_Clone_Joint [.one d] σ fun r s => ∃ d', r = .a (.one d') ∧ Own Tryz.prog σ s t_Joint d' (l.map Jt.enc) :=
    W_slices_Clone_Joint d σ _ (clone_ok (bytes := 32) (Q := fun r s => ∃ d', r = .a (.one d') ∧ Own Tryz.prog σ s t_Joint d' (l.map Jt.enc)) h hz (by simp; omega) fun d' s ho => ⟨d', rfl, ho⟩)
  refine key.ret ?_
  rintro r s ⟨d', rfl, ho⟩
  exact own_fin ho fun row hr x hx => by
    obtain ⟨w, _, rfl⟩ := List.mem_map.1 hr
    simp [Jt.enc] at hx
    rcases hx with rfl | rfl | rfl | rfl <;> exact .int _ _
theorem Clone_Signal_ok {d : D} {l : List Sg} (h : At Tryz.prog σ t_Signal d (l.map Sg.enc)) (hz : d ≠ .zsl) (hl : l.length ≤ 2 ^ 40) : DCalls Tryz.prog n_slices_Clone_Signal [.one d] σ (SlPost σ t_Signal (l.map Sg.enc)) := by
  have key : DCalls Tryz.prog n_slices_Clone_Signal [.one d] σ fun r s => ∃ d', r = .a (.one d') ∧ Own Tryz.prog σ s t_Signal d' (l.map Sg.enc) :=
    W_slices_Clone_Signal d σ _ (clone_ok (bytes := 16) (Q := fun r s => ∃ d', r = .a (.one d') ∧ Own Tryz.prog σ s t_Signal d' (l.map Sg.enc)) h hz (by simp; omega) fun d' s ho => ⟨d', rfl, ho⟩)
  refine key.ret ?_
  rintro r s ⟨d', rfl, ho⟩
  exact own_fin ho fun row hr x hx => by
    obtain ⟨w, _, rfl⟩ := List.mem_map.1 hr
    simp [Sg.enc] at hx
    rcases hx with rfl | rfl <;> exact .int _ _
theorem Clone_int_fz {d : D} {l : List Int} (h : At Tryz.prog σ t_int d (l.map Go.Fw.encI)) (hz : d ≠ .zsl) (hl : l.length ≤ 2 ^ 40) : DCalls Tryz.prog n_slices_Clone_int [.one d] σ (SlPost σ t_int (l.map Go.Fw.encI)) := by
  refine (Clone_int_ok h hz (by simp; omega)).ret ?_
  rintro r s ⟨d', rfl, ho⟩
  exact own_fin ho (flatI _)
def clG (l : List Int) (az : List A) (id : Nat) (r : RV) (so : SO) : Prop := ∃ J, r = .a (.one (.osl id 0 l.length)) ∧ so = .live t_int (l.map Go.Fw.encI ++ J) ∧ J = []
theorem Clone_int_obj {d : D} {l : List Int} (h : At Tryz.prog σ t_int d (l.map Go.Fw.encI)) (h0 : l ≠ []) (hl : l.length ≤ 2 ^ 40) : DCalls Tryz.prog n_slices_Clone_int [.one d] σ (objPost (clG l) [.one d] σ) := by
  have key : DCalls Tryz.prog n_slices_Clone_int [.one d] σ fun r s => ∃ id, σ id = .free ∧ Ext σ s ∧ s id = .live t_int (l.map Go.Fw.encI) ∧ r = .a (.one (.osl id 0 l.length)) := by
    have hr := h.rows
    have hne : l.map Go.Fw.encI ≠ [] := fun e => h0 (List.map_eq_nil_iff.1 e)
    have go : ∀ b : Bool, b = false → bcase (b != false) (∃ id, σ id = .free ∧ Ext σ σ ∧ σ id = .live t_int (l.map Go.Fw.encI) ∧ RV.a (.one .nils) = .a (.one (.osl id 0 l.length))) (Fw.newObj σ (.live t_int []) fun id σ' => appendTo Tryz.prog σ' t_int 8 (.osl id 0 0) d fun d σ'1 => ∃ id, σ id = .free ∧ Ext σ σ'1 ∧ σ'1 id = .live t_int (l.map Go.Fw.encI) ∧ RV.a (.one d) = .a (.one (.osl id 0 l.length))) := by
      rintro b rfl
      refine bc (fun e => by cases e) fun _ => newObj_intro fun id s1 hid hset he hs => ?_
      refine ⟨[], l.map Go.Fw.encI, ⟨t_int, [], hs, rfl, by simp, by simp⟩, (h.ext he).rows, by simp; omega, fun hs => hs.elim, fun d' s' ha => ?_⟩
      rcases ha with ⟨e, _⟩ | ⟨_, id', hid', rfl, rfl⟩ | ⟨_, id', i0, len, t, rows, e, hl2, rfl, rfl⟩
      · exact absurd e hne
      · have hf : σ id' = .free := free_of he hid'
        refine ⟨id', hf, he.trans (Ext.new hid' _), by rw [Store.set_same]; simp, by simp⟩
      · injection e with e1 e2 e3
        subst e1 e2 e3
        rw [hs] at hl2
        injection hl2 with q1 q2
        subst q1 q2
        refine ⟨id, hid, fun i hi => ?_, by rw [Store.set_same]; simp, by simp⟩
        have hne' : i ≠ id := fun e => hi (by rw [e]; exact hid)
        rw [Store.set_ne _ _ hne']; exact he i hi
    refine W_slices_Clone_int d σ _ ?_
    cases d <;> simp only [Go.Fw.Rows] at hr <;> try exact hr.elim
    · exact absurd hr hne
    · exact absurd hr hne
    · exact ⟨false, rfl, go _ rfl⟩
    · exact ⟨false, rfl, go _ rfl⟩
  refine key.ret ?_
  rintro r s ⟨id, h1, h2, h3, rfl⟩
  exact ⟨_, _, ret_obj h2 h1 h3 (flatI _), id, _, h1, (by intro e; cases e), ⟨[], rfl, by rw [List.append_nil], rfl⟩, rfl⟩
theorem clone_spec {d : D} {l : List Int} (h0 : l ≠ []) (hl : l.length ≤ 2 ^ 40) : SpecOk Tryz.prog n_slices_Clone_int (fun az s => az = [.one d] ∧ At Tryz.prog s t_int d (l.map Go.Fw.encI)) (objPost (clG l)) :=
  obj_spec (by rintro az s ⟨rfl, h⟩; exact Clone_int_obj h h0 hl) (by rintro az s id ⟨rfl, h⟩; exact ⟨_, .live t_int (l.map Go.Fw.encI ++ []), (by intro e; cases e), [], rfl, rfl, rfl⟩)
    (by rintro az s i so hi _ ⟨rfl, h⟩; exact ⟨rfl, h.ext (Ext.new hi so)⟩)
def nrG (p a : Int) (az : List A) (id : Nat) (r : RV) (so : SO) : Prop := r = .a (.one (pO id)) ∧ so = .live t_link_Receiver [[iD (-1), iD 0, iD 0, iD p, iD a]]
theorem newRcv_spec (p a : Int) : SpecOk Tryz.prog n_link_NewReceiver (fun az s => az = [iA p, iA a]) (objPost (nrG p a)) :=
  obj_spec (by
    rintro az s rfl
    refine (link_NewReceiver_ok p a).mono ?_
    rintro r s' ⟨id, rfl, h1, rfl⟩
    exact ⟨id, _, h1, (by intro e; cases e), ⟨rfl, rfl⟩, rfl⟩) (by rintro az s id rfl; exact ⟨_, _, (by intro e; cases e), rfl, rfl⟩) (by rintro az s i so _ _ rfl; rfl)
theorem shape_spec {c0 c1 c2 c3 c4 : D} {c : Cf} (hc : ∀ s, CfAt s c0 c1 c2 c3 c4 c) (oc : Int) (h1 : c.Secs.length ≤ 2 ^ 20) (h2 : c.Xs.length ≤ 2 ^ 20) (h3 : c.Sigs.length ≤ 2 ^ 20) :
    SpecOk Tryz.prog n_tele_Shape (fun az s => az = [cfA c0 c1 c2 c3 c4 c, iA oc]) (fun az s r s' => s' = s ∧ ∃ a0 a1 a2 a3, r = .a (.agg [a0, a1, a2, a3]) ∧ ShFz a0 a1 a2 a3 (c.shape oc)) := by
  obtain ⟨l1, l2, l3⟩ := sh_len c oc
  have k1 := l1 c.Secs 0
  have k2 := l2 c.Xs 0
  have k3 := l3 c.Sigs 0
  have e : ∀ l : List Int, l.length ≤ 2 ^ 20 → ∀ s, At Tryz.prog s t_int (.sl (Tryz.prog.cellsOf t_int) (l.map Go.Fw.encI)) (l.map Go.Fw.encI) := fun l hl s => at_sl (by simp; omega)
  exact val_spec (F := fun az r => ∃ a0 a1 a2 a3, r = .a (.agg [a0, a1, a2, a3]) ∧ ShFz a0 a1 a2 a3 (c.shape oc)) (by rintro az s rfl; exact tele_Shape_ok hc oc h1 h2 h3)
    (by rintro az s rfl; exact ⟨_, _, _, _, _, rfl, e _ (Nat.le_trans k1.1 h1), e _ (Nat.le_trans k1.2 h1), e _ (Nat.le_trans k2 h2), e _ (Nat.le_trans k3 h3)⟩) (by rintro az s i so _ _ rfl; rfl)
def objE (el : TypeId) (o : Option (Nat × List (List D))) (rs : List (List D)) : List (Nat × SO) := match o with
  | none => []
  | some x => [(x.1, .live el (rs ++ x.2))]
def objD (o : Option (Nat × List (List D))) (n : Nat) : D := match o with
  | none => .nils
  | some x => .osl x.1 0 n
theorem objAt {s : Store} {el : TypeId} {o : Option (Nat × List (List D))} {rs : List (List D)} {A : List (Nat × SO)} (h : Heap s (objE el o rs ++ A)) (hn : o = none → rs = []) (hl : rs.length < 2 ^ 60) : At Tryz.prog s el (objD o rs.length) rs := by
  cases o with
  | none => rw [hn rfl]; exact .nil
  | some x => exact at_pre (h.get (List.mem_append_left _ (List.mem_singleton.2 rfl))) rfl hl
theorem heap_append {s : Store} {el : TypeId} {bytes : Nat} {o : Option (Nat × List (List D))} {rs : List (List D)} {r : List D} {A : List (Nat × SO)} {x : D} {K : D → Store → Prop} (h : Heap s (objE el o rs ++ A)) (hn : o = none → rs = []) {n : Nat} (hnn : n = rs.length) (hl : rs.length < 2 ^ 20) (hx : At Tryz.prog s el x [r])
    (hb : bytes * (rs.length + 1) ≤ 140737488355328) (hK : ∀ s' z, Heap s' (objE el (some z) (rs ++ [r]) ++ A) → K (objD (some z) (n + 1)) s') : appendTo Tryz.prog s el bytes (objD o n) x K := by
  subst hnn
  have hat := objAt h hn (by omega)
  refine ⟨rs, [r], hat.rows, hx.rows, hb, fun hs => ?_, fun d' s' ha => ?_⟩
  · cases o with
    | none => exact hs.elim
    | some x => exact hs.elim
  rcases ha with ⟨e, _⟩ | ⟨_, id', hid', rfl, rfl⟩ | ⟨_, id', i0, len, t, rows, e, hl2, rfl, rfl⟩
  · cases e
  · refine hK _ (id', []) ?_
    have h1 := h.new hid' (Ext.new hid' (.live el (rs ++ [r]))) (Store.set_same _ _ _) (by intro e; cases e)
    have h2 := h1.sub (l' := (id', .live el (rs ++ [r])) :: A) ((List.sublist_append_right _ _).cons_cons _)
    show Heap _ ((id', SO.live el (rs ++ [r] ++ [])) :: A)
    rw [List.append_nil]
    exact h2
  · cases o with
    | none => cases e
    | some z =>
      injection e with e1 e2 e3
      subst e1 e2 e3
      have hz := h.get (List.mem_append_left _ (List.mem_singleton.2 rfl))
      rw [hz] at hl2
      injection hl2 with q1 q2
      subst q1 q2
      refine hK _ (z.1, z.2.drop 1) ?_
      refine (Heap.put0 (so' := .live el (rs ++ [r] ++ z.2.drop 1)) h ?_ (by intro e; cases e) fun j hj _ => Store.set_ne _ _ hj)
      rw [Store.set_same, Nat.zero_add, List.take_left' rfl, List.drop_append]
      simp
end Go.Proofs.YtaklhjodjbgmgaaGreat
end
section
set_option linter.unusedVariables false
set_option linter.unusedSimpArgs false
namespace Go.Proofs.YtaklhjodjbgmgaaGreat
open Go.Fw Go.Proofs Go.RowKit
variable {σ σ0 : Store}
def nwRow (mp : Nat) (c0 c1 c2 c3 c4 : D) (c : Cf) (f10 f11 f12 f13 f14 : D) : List D := [.omap mp, c0, c1, c2, c3, c4, iD c.Age, iD c.Brake, iD c.Hold, iD c.Budget, f10, f11, f12, f13, f14, iD 0]
theorem fits_one {c : Cf} {l : List Tr} {t : Tr} (h : c.trFits l t = true) : ∃ a x, t.Secs = [a] ∧ geti c.Secs a = some x := by
  unfold Cf.trFits at h
  split at h
  · rename_i a ha
    split at h
    · rename_i x hx; exact ⟨a, x, ha, hx⟩
    · cases h
  · cases h
theorem trs_at {s : Store} {A : List (Nat × SO)} {trd : Option (Nat × List (List D))} {tk : List (Nat × List (List D))} {acc : List Tr} (h : Heap s (objE t_Train trd ((tk.zip acc).map trRow) ++ ((tk.zip acc).map tkE ++ A))) (hl : tk.length = acc.length) (hn : trd = none → acc = []) (h4 : acc.length ≤ 4)
    (hs : ∀ t ∈ acc, t.Secs.length ≤ 2 ^ 45) : TrsAt s (objD trd acc.length) acc := by
  have hrl : ((tk.zip acc).map trRow).length = acc.length := by simp [hl]
  have hat := objAt h (fun e => by rw [hn e]; simp) (by rw [hrl]; omega)
  rw [hrl] at hat
  refine ⟨_, hat, hrl, fun k row t hr ht => ?_⟩
  rw [List.getElem?_map] at hr
  obtain ⟨x, hx⟩ := get_of_lt (l := tk) (j := k) (by rw [hl]; exact (List.getElem?_eq_some_iff.1 ht).1)
  rw [zip_get hx ht] at hr
  injection hr with hr
  subst hr
  have := hs t (List.mem_of_getElem? ht)
  refine ⟨_, rfl, at_pre (J := x.2) (h.get (i := x.1) (List.mem_append_right _ (List.mem_append_left _ (List.mem_map.2 ⟨(x, t), List.mem_of_getElem? (zip_get hx ht), rfl⟩)))) (by simp) (by simp; omega)⟩
def pst0 (c : Cf) (oc : Int) : Pst := ⟨⟨-1, oc + 50, c.Age⟩, c.shape oc, -1⟩
def psts0 (c : Cf) : List Pst := [0, 1, 2, 3].map (pst0 c)
theorem psts0_get (c : Cf) {j : Nat} (h : j < 4) : (psts0 c)[j]? = some (pst0 c j) := by
  match j, h with
  | 0, _ => rfl
  | 1, _ => rfl
  | 2, _ => rfl
  | 3, _ => rfl
theorem yard_New_ok {c0 c1 c2 c3 c4 dt : D} {c : Cf} {l : List Tr} {fr : List (Nat × SO)} (hc : ∀ s, CfAt s c0 c1 c2 c3 c4 c) (z0 : c0 ≠ .zsl) (z1 : c1 ≠ .zsl) (z2 : c2 ≠ .zsl) (z3 : c3 ≠ .zsl) (ht : ∀ s, TrsAt s dt l) (hfr : Heap σ fr) :
    DCalls Tryz.prog n_yard_New [cfA c0 c1 c2 c3 c4 c, .one dt] σ fun r s => ((newYd c l).1 ≠ 0 ∧ r = .tup [.one .nilp, iA (newYd c l).1]) ∨ ((newYd c l).1 = 0 ∧ ∃ id L, r = .tup [.one (pO id), iA 0] ∧ YdIn s id L (newYd c l).2 fr) := by
  obtain ⟨trows, hat, hlen, _⟩ := ht σ
  have hN : newYd c l = if c.check ≠ 0 then (c.check, .fresh c []) else if l.length > 4 then (5, .fresh c []) else match trsNew c l [] with
    | none => (30, .fresh c [])
    | some l => (0, .fresh c l) := rfl
  refine W_yard_New c0 c1 c2 c3 c4 c.Age c.Brake c.Hold c.Budget dt σ _ ((conf_Check_ok hc).use ⟨_, rfl, bcn (fun he => ?_) (fun he => hat.lenK (bcd (fun h4 => ?_) (fun h4 => ?_)))⟩)
  · rw [hN, if_pos he]; exact .inl ⟨he, rfl⟩
  · rw [hN, if_neg (by rw [he]; simp), if_pos (by omega)]; exact .inl ⟨(by show (5 : Int) ≠ 0; decide), rfl⟩
  rw [if_neg (by rw [he]; simp), if_neg (by omega)] at hN
  have hcl := topo_len he
  refine (Clone_Section_ok (hc σ).secs z0 (by omega)).mono ?_
  rintro r s0 ⟨rfl, d, rfl, hd⟩
  refine ⟨d, rfl, (Clone_Joint_ok (hc s0).jts z1 (by omega)).mono ?_⟩
  rintro r s ⟨rfl, d1, rfl, hd1⟩
  refine ⟨d1, rfl, (Clone_Signal_ok (hc s).sigs z2 (by omega)).mono ?_⟩
  rintro r s0 ⟨rfl, d2, rfl, hd2⟩
  refine ⟨d2, rfl, (Clone_int_fz (hc s0).xs z3 (by omega)).mono ?_⟩
  rintro r s ⟨rfl, d3, rfl, hd3⟩
  refine ⟨d3, rfl, ?_⟩
  have hcf : ∀ s, CfAt s d d1 d2 d3 c4 c := fun s => ⟨hd s, hd1 s, hd2 s, hd3 s, (hc s).rts⟩
  refine newObj_intro fun mp s1 hmp _ he1 hs1 => newObj_intro fun yid s2 hyd _ he2 hs2 => ?_
  have H2 : Heap s2 ((yid, .live t_yard_Yard [nwRow mp d d1 d2 d3 c4 c .nils .nils .nils .nils .nils]) :: (mp, .mp 0 []) :: fr) := ((hfr.new hmp he1 hs1 (by intro e; cases e)).new hyd he2 hs2 (by intro e; cases e))
  refine hat.lenK ⟨fun n s => ∃ (j : Nat) (acc : List Tr) (trd : Option (Nat × List (List D))) (tk : List (Nat × List (List D))), n = j ∧ j ≤ l.length ∧ tk.length = acc.length ∧ (trd = none → acc = []) ∧ acc.length ≤ j ∧ (∀ t ∈ acc, ∃ a x, t.Secs = [a] ∧ geti c.Secs a = some x) ∧
      trsNew c (l.drop j) acc = trsNew c l [] ∧ Heap s ((yid, .live t_yard_Yard [nwRow mp d d1 d2 d3 c4 c .nils .nils .nils .nils (objD trd acc.length)]) :: (mp, .mp 0 []) :: (objE t_Train trd ((tk.zip acc).map trRow) ++ ((tk.zip acc).map tkE ++ fr))),
    fun n _ => l.length - n.toNat, ⟨0, [], none, [], rfl, by omega, rfl, fun _ => rfl, by simp, (fun t h => by cases h), rfl, H2⟩, ?_⟩
  clear H2 hs2 hs1 he2 he1
  rintro _ s3 ⟨j, acc, trd, tk, rfl, hj, hkl, htn, hal, hacc, hE, H⟩
  rw [hlen]
  have hrl : ((tk.zip acc).map trRow).length = acc.length := by simp [hkl]
  have hs1 : ∀ t ∈ acc, t.Secs.length ≤ 2 ^ 45 := fun t h => by
    obtain ⟨a, x, e, _⟩ := hacc t h
    rw [e]; simp
  refine bcd (fun hlt => ?_) (fun hge => ?_)
  · have hlt : j < l.length := by omega
    obtain ⟨trows3, hat3, hlen3, hrow3⟩ := ht s3
    obtain ⟨t, htj⟩ := get_of_lt (l := l) (j := j) hlt
    obtain ⟨r, hr⟩ := get_of_lt (l := trows3) (j := j) (by omega)
    obtain ⟨e, rfl, hae⟩ := hrow3 j r t hr htj
    have hdec := dec_lt hlt
    rw [drop_get htj, trsNew] at hE
    have hyr := H.get (i := yid) List.mem_cons_self
    have hT := trs_at (A := fr) (H.sub (List.Sublist.cons _ (List.Sublist.cons _ (List.Sublist.refl _)))) hkl htn (by omega) hs1
    refine hat3.load hr c_Train rfl ⟨e, t.Out, rfl, (yard_fits_ok hyr rfl rfl rfl rfl hcf hT (by omega) hs1 hae).use ⟨_, rfl, bcnot (fun hf => ?_) (fun hf => ?_)⟩⟩
    · rw [if_neg (by rw [hf]; decide)] at hE
      rw [hN, ← hE]; exact .inl ⟨(by show (30 : Int) ≠ 0; decide), rfl⟩
    rw [if_pos hf] at hE
    obtain ⟨a, xa, ha, hxa⟩ := fits_one hf
    have hts : t.Secs.length = 1 := by rw [ha]; rfl
    refine ⟨_, _, clone_spec (d := e) (l := t.Secs) (by rw [ha]; intro e; cases e) (by omega), _, box_row hyr, objD trd acc.length, rfl, ⟨rfl, hae⟩, ?_⟩
    rintro r6 s4 ⟨id2, so, hid2, hne, ⟨J, rfl, rfl, rfl⟩, rfl⟩
    have H4 := H.new' hid2 (Ext.new hid2 _) (Store.set_same _ _ _) hne
    refine ⟨_, rfl, newObj_intro fun tmp s5 htmp _ he5 hs5 => ?_⟩
    have H5 := H4.ext he5
    have H5p : Heap s5 (objE t_Train trd ((tk.zip acc).map trRow) ++ ((yid, .live t_yard_Yard [nwRow mp d d1 d2 d3 c4 c .nils .nils .nils .nils (objD trd acc.length)]) :: (mp, .mp 0 []) :: (((tk.zip acc).map tkE ++ [(id2, .live t_int (t.Secs.map Go.Fw.encI ++ []))]) ++ fr))) := by
      refine H5.perm (perm_cnt fun a => ?_)
      simp only [List.count_append, List.count_cons, List.count_nil]
      omega
    refine heap_append (el := t_Train) (bytes := 32) (x := .osl tmp 0 1) (r := [.osl id2 0 t.Secs.length, iD t.Out]) H5p (fun e => by rw [htn e]; simp) hrl.symm (by rw [hrl]; omega) (At.fresh hs5 (by simp) rfl) (by rw [hrl]; omega) ?_
    intro s6 z H6
    have H6p : Heap s6 ((yid, .live t_yard_Yard [nwRow mp d d1 d2 d3 c4 c .nils .nils .nils .nils (objD trd acc.length)]) :: (mp, .mp 0 []) :: (objE t_Train (some z) ((tk.zip acc).map trRow ++ [[.osl id2 0 t.Secs.length, iD t.Out]]) ++ (((tk.zip acc).map tkE ++ [(id2, .live t_int (t.Secs.map Go.Fw.encI ++ []))]) ++ fr))) := by
      refine H6.perm (perm_cnt fun a => ?_)
      simp only [List.count_append, List.count_cons, List.count_nil]
      omega
    refine H6p.row (by simp [nwRow]) fun s7 H7 _ => ?_
    have hz2 : (tk ++ [(id2, [])]).zip (acc ++ [t]) = tk.zip acc ++ [((id2, []), t)] := by rw [List.zip_append hkl]; rfl
    rw [w64_succ (by omega)]
    refine ⟨by first | exact rfl | trivial, ⟨j + 1, acc ++ [t], some z, tk ++ [(id2, [])], rfl, hlt, by simp [hkl], fun e => (by cases e), by simp; omega, fun t' h => ?_, hE, ?_⟩, hdec⟩
    · rcases List.mem_append.1 h with h | h
      · exact hacc t' h
      · rw [List.mem_singleton.1 h]; exact ⟨a, xa, ha, hxa⟩
    · rw [hz2, List.map_append, List.map_append, List.length_append]
      exact H7
  have e : j = l.length := by omega
  subst e
  rw [List.drop_length, trsNew] at hE
  rw [← hE] at hN
  have hN : newYd c l = (0, .fresh c acc) := hN
  clear hge hj hE hat hlen
  generalize hD : (mp, SO.mp 0 []) :: (objE t_Train trd ((tk.zip acc).map trRow) ++ ((tk.zip acc).map tkE ++ fr)) = R0 at H
  refine newObj_intro fun t1 s4 _ _ he4 hs4 => (hd s4).lenK ?_
  rw [List.length_map]
  refine (Repeat_thing_ok (n := c.Secs.length) (At.fresh (rs := [[iD 1, iD 1, iD 0]]) hs4 (by simp) rfl) (by omega)).mono ?_
  rintro r s5 ⟨idp, hidp, rfl, rfl⟩
  refine ⟨_, rfl, ?_⟩
  have H5 := (H.ext he4).new' (so := .live t_yard_thing (List.replicate c.Secs.length [iD 1, iD 1, iD 0])) hidp (Ext.new hidp _) (Store.set_same _ _ _) (by intro e; cases e)
  refine H5.row (by simp [nwRow]) fun s6 H6 _ => ?_
  refine newObj_intro fun t2 s7 _ _ he7 hs7 => (hd3 s7).lenK ?_
  rw [List.length_map]
  refine (Repeat_thing_ok (n := c.Xs.length) (At.fresh (rs := [[iD 1, iD 1, iD 0]]) hs7 (by simp) rfl) (by omega)).mono ?_
  rintro r s8 ⟨idg, hidg, rfl, rfl⟩
  refine ⟨_, rfl, ?_⟩
  have H8 := (H6.ext he7).new' (so := .live t_yard_thing (List.replicate c.Xs.length [iD 1, iD 1, iD 0])) hidg (Ext.new hidg _) (Store.set_same _ _ _) (by intro e; cases e)
  refine H8.row (by simp [nwRow, patch]) fun s9 H9 _ => ?_
  refine newObj_intro fun t3 s10 _ _ he10 hs10 => (hd2 s10).lenK ?_
  rw [List.length_map]
  refine (Repeat_lamp_ok (n := c.Sigs.length) (At.fresh (rs := [[iD 0, iD (-1)]]) hs10 (by simp) rfl) (by omega)).mono ?_
  rintro r s11 ⟨idl, hidl, rfl, rfl⟩
  refine ⟨_, rfl, ?_⟩
  have H11 := (H9.ext he10).new' (so := .live t_yard_lamp (List.replicate c.Sigs.length [iD 0, iD (-1)])) hidl (Ext.new hidl _) (Store.set_same _ _ _) (by intro e; cases e)
  refine H11.row (by simp [nwRow, patch]) fun s12 H12 _ => ?_
  have H12 : Heap s12 ((yid, .live t_yard_Yard [nwRow mp d d1 d2 d3 c4 c (.osl idp 0 c.Secs.length) (.osl idg 0 c.Xs.length) (.osl idl 0 c.Sigs.length) .nils (objD trd acc.length)]) ::
      (idl, .live t_yard_lamp (List.replicate c.Sigs.length [iD 0, iD (-1)])) :: (idg, .live t_yard_thing (List.replicate c.Xs.length [iD 1, iD 1, iD 0])) :: (idp, .live t_yard_thing (List.replicate c.Secs.length [iD 1, iD 1, iD 0])) :: R0) := H12
  clear H11 H9 H8 H6 H5 H
  generalize hR1 : (idl, SO.live t_yard_lamp (List.replicate c.Sigs.length [iD 0, iD (-1)])) :: (idg, SO.live t_yard_thing (List.replicate c.Xs.length [iD 1, iD 1, iD 0])) :: (idp, SO.live t_yard_thing (List.replicate c.Secs.length [iD 1, iD 1, iD 0])) :: R0 = R1 at H12
  refine ⟨fun n s => ∃ (j : Nat) (ps : List PL) (pod : Option (Nat × List (List D))), n = j ∧ j ≤ 4 ∧ ps.length = j ∧ (pod = none → ps = []) ∧ (∀ (k : Nat) pl, ps[k]? = some pl → ShFz pl.h0 pl.h1 pl.h2 pl.h3 (c.shape k)) ∧
      Heap s ((yid, .live t_yard_Yard [nwRow mp d d1 d2 d3 c4 c (.osl idp 0 c.Secs.length) (.osl idg 0 c.Xs.length) (.osl idl 0 c.Sigs.length) (objD pod ps.length) (objD trd acc.length)]) ::
        (objE t_p_yard_post pod (ps.map fun x => [pO x.i]) ++ ((ps.zip ((psts0 c).take j)).map postE ++ ((ps.zip ((psts0 c).take j)).map recE ++ R1)))),
    fun n _ => 4 - n.toNat, ⟨0, [], none, rfl, by omega, rfl, fun _ => rfl, (fun k pl h => by simp at h), H12⟩, ?_⟩
  clear H12
  rintro _ s ⟨j, ps, pod, rfl, hj, hpl, hpn, hsh, H⟩
  refine bcd (fun hlt => ?_) (fun hge => ?_)
  · have hlt : j < 4 := by omega
    have hw : w64 ((j : Int) + 50) = (j : Int) + 50 := w64_id (by omega) (by omega)
    refine ⟨_, _, newRcv_spec (w64 ((j : Int) + 50)) c.Age, _, _, shape_spec hcf j (by omega) (by omega) (by omega), _, box_row (H.get List.mem_cons_self), objD pod ps.length, rfl, rfl, ?_⟩
    rintro r8 s1' ⟨idr, so, hidr, hne, ⟨rfl, rfl⟩, rfl⟩
    have H1 := H.new' hidr (Ext.new hidr _) (Store.set_same _ _ _) hne
    refine ⟨_, rfl, rfl, ?_⟩
    rintro r9 s2' ⟨rfl, a0, a1, a2, a3, rfl, hS⟩
    refine ⟨a0, a1, a2, a3, rfl, newObj_intro fun id5 s3' hid5 _ he5 hs5 => newObj_intro fun tmp s4' _ _ he6 hs6 => ?_⟩
    have hs5 : s3' id5 = .live t_yard_post [[pO idr, a0, a1, a2, a3, iD (-1)]] := hs5
    have H3 := (H1.new' hid5 he5 hs5 (by intro e; cases e)).ext he6
    have H3p : Heap s4' (objE t_p_yard_post pod (ps.map fun x => [pO x.i]) ++ ((yid, .live t_yard_Yard [nwRow mp d d1 d2 d3 c4 c (.osl idp 0 c.Secs.length) (.osl idg 0 c.Xs.length) (.osl idl 0 c.Sigs.length) (objD pod ps.length) (objD trd acc.length)]) ::
        (((ps.zip ((psts0 c).take j)).map postE ++ [(id5, .live t_yard_post [[pO idr, a0, a1, a2, a3, iD (-1)]])]) ++ (((ps.zip ((psts0 c).take j)).map recE ++ [(idr, .live t_link_Receiver [[iD (-1), iD 0, iD 0, iD (w64 ((j : Int) + 50)), iD c.Age]])]) ++ R1)))) := by
      refine H3.perm (perm_cnt fun a => ?_)
      simp only [List.count_append, List.count_cons, List.count_nil]
      omega
    refine heap_append (el := t_p_yard_post) (bytes := 8) (r := [pO id5]) H3p (fun e => by rw [hpn e]; rfl) (by rw [List.length_map]) (by rw [List.length_map]; omega) (At.fresh hs6 (by simp) rfl) (by rw [List.length_map]; omega) ?_
    intro s6 z H6
    have H6p : Heap s6 ((yid, .live t_yard_Yard [nwRow mp d d1 d2 d3 c4 c (.osl idp 0 c.Secs.length) (.osl idg 0 c.Xs.length) (.osl idl 0 c.Sigs.length) (objD pod ps.length) (objD trd acc.length)]) ::
        (objE t_p_yard_post (some z) ((ps.map fun x => [pO x.i]) ++ [[pO id5]]) ++ (((ps.zip ((psts0 c).take j)).map postE ++ [(id5, .live t_yard_post [[pO idr, a0, a1, a2, a3, iD (-1)]])]) ++ (((ps.zip ((psts0 c).take j)).map recE ++ [(idr, .live t_link_Receiver [[iD (-1), iD 0, iD 0, iD (w64 ((j : Int) + 50)), iD c.Age]])]) ++ R1)))) := by
      refine H6.perm (perm_cnt fun a => ?_)
      simp only [List.count_append, List.count_cons, List.count_nil]
      omega
    refine H6p.row (by simp [nwRow]) fun s7 H7 _ => ?_
    have hdec := dec_lt hlt
    have htake : (psts0 c).take (j + 1) = (psts0 c).take j ++ [pst0 c j] := by rw [List.take_add_one, psts0_get c hlt]; rfl
    have hzip : (ps ++ [(⟨id5, idr, a0, a1, a2, a3, 0, 0⟩ : PL)]).zip ((psts0 c).take (j + 1)) = ps.zip ((psts0 c).take j) ++ [(⟨id5, idr, a0, a1, a2, a3, 0, 0⟩, pst0 c j)] := by
      rw [htake, List.zip_append (by rw [hpl, List.length_take]; show j = min j 4; omega)]; rfl
    rw [w64_succ (by omega)]
    refine ⟨by first | exact rfl | trivial, ⟨j + 1, ps ++ [⟨id5, idr, a0, a1, a2, a3, 0, 0⟩], some z, rfl, hlt, by simp [hpl], fun e => (by cases e), fun k pl h => ?_, ?_⟩, hdec⟩
    · by_cases hk : k < ps.length
      · rw [List.getElem?_append_left hk] at h; exact hsh k pl h
      · rw [List.getElem?_append_right (by omega)] at h
        have hk2 : k = j := by
          have := (List.getElem?_eq_some_iff.1 h).1
          simp at this; omega
        subst hk2
        rw [hpl, Nat.sub_self] at h
        injection h with h
        subst h
        exact hS
    · rw [hzip, List.map_append, List.map_append, List.map_append, List.length_append]
      rw [hw] at H7
      exact H7
  have e : j = 4 := by omega
  subst e
  rw [hN]
  refine .inr ⟨rfl, yid, ?_⟩
  cases pod with
  | none => rw [hpn rfl] at hpl; cases hpl
  | some z =>
    refine ⟨⟨mp, 0, [], d, d1, d2, d3, c4, idp, idg, idl, z.1, z.2, ps, trd, tk⟩, rfl, ?_, hcf, ?_, ?_, hpl, ?_, hkl, ?_⟩
    · have e1 : (List.replicate c.Secs.length (⟨1, 1, 0⟩ : Th)).map Th.enc = List.replicate c.Secs.length [iD 1, iD 1, iD 0] := List.map_replicate ..
      have e2 : (List.replicate c.Xs.length (⟨1, 1, 0⟩ : Th)).map Th.enc = List.replicate c.Xs.length [iD 1, iD 1, iD 0] := List.map_replicate ..
      have e3 : (List.replicate c.Sigs.length (⟨0, -1⟩ : Lp)).map Lp.enc = List.replicate c.Sigs.length [iD 0, iD (-1)] := List.map_replicate ..
      have e : ydHeap yid ⟨mp, 0, [], d, d1, d2, d3, c4, idp, idg, idl, z.1, z.2, ps, trd, tk⟩ (0, Yd.fresh c acc).2 fr =
          (yid, .live t_yard_Yard [nwRow mp d d1 d2 d3 c4 c (.osl idp 0 c.Secs.length) (.osl idg 0 c.Xs.length) (.osl idl 0 c.Sigs.length) (objD (some z) ps.length) (objD trd acc.length)]) :: (mp, .mp 0 []) ::
            (idp, .live t_yard_thing (List.replicate c.Secs.length [iD 1, iD 1, iD 0])) :: (idg, .live t_yard_thing (List.replicate c.Xs.length [iD 1, iD 1, iD 0])) :: (idl, .live t_yard_lamp (List.replicate c.Sigs.length [iD 0, iD (-1)])) ::
            (objE t_p_yard_post (some z) (ps.map fun x => [pO x.i]) ++ ((ps.zip ((psts0 c).take 4)).map postE ++ ((ps.zip ((psts0 c).take 4)).map recE ++ (objE t_Train trd ((tk.zip acc).map trRow) ++ ((tk.zip acc).map tkE ++ fr))))) := by
        rw [← e1, ← e2, ← e3]
        unfold ydHeap ydBase ydRow
        rw [hpl]
        show _ = _
        simp only [Yd.fresh, List.length_replicate]
        rfl
      rw [e]
      subst hR1 hD
      refine H.perm (perm_cnt fun a => ?_)
      simp only [List.count_append, List.count_cons, List.count_nil]
      omega
    · intro e h; cases h
    · exact fun k => rfl
    · intro k pl p h1 h2
      have hk : k < 4 := by have := (List.getElem?_eq_some_iff.1 h1).1; rw [← hpl]; exact this
      have h2 : (psts0 c)[k]? = some p := h2
      rw [psts0_get c hk] at h2
      injection h2 with h2
      subst h2
      exact hsh k pl h1
    · exact htn
end Go.Proofs.YtaklhjodjbgmgaaGreat
end
section
set_option linter.unusedVariables false
set_option linter.unusedSimpArgs false
namespace Go.Fw
theorem bad_iff {k : Nat} {n : Int} : (n < 0 ∨ n.fdiv (2 ^ (8 * k)) ≠ 0) ↔ (n < 0 ∨ 256 ^ k ≤ n) := by
  by_cases h0 : n < 0
  · simp [h0]
  · have e : (2 : Int) ^ (8 * k) = 256 ^ k := by rw [Int.pow_mul]; rfl
    have hp : (0 : Int) < 256 ^ k := Int.pow_pos (by omega)
    rw [e, Int.fdiv_eq_ediv_of_nonneg _ (Int.le_of_lt hp)]
    constructor
    · rintro (h | h)
      · exact .inl h
      · refine .inr (Classical.byContradiction fun hc => h (Int.ediv_eq_zero_of_lt (by omega) (by omega)))
    · rintro (h | h)
      · exact .inl h
      · refine .inr fun hz => ?_
        have := Int.lt_mul_ediv_self_add (x := n) hp
        rw [hz] at this
        omega
theorem Wr.num_room {w : Wr} {k : Nat} {n : Int} (hl : (w.out.length : Int) + k ≤ w.lim) :
    w.num k n = if w.e ≠ 0 then w else if n < 0 ∨ 256 ^ k ≤ n then { w with e := 32 } else { w with out := w.out ++ be k n } := by
  have hput : ∀ v : Wr, v.out = w.out → v.lim = w.lim → v.put (be k n) = if v.e = 0 then { v with out := v.out ++ be k n } else v := fun v h1 h2 => by
    have hc : ¬ ((k : Int) > v.lim - v.out.length) := by rw [h1, h2]; omega
    unfold Wr.put
    simp only [be_len, if_neg hc]
  unfold Wr.num
  by_cases hb : n < 0 ∨ 256 ^ k ≤ n
  · rw [if_pos (bad_iff.2 hb), hput _ (w.note_out 32).1 (w.note_out 32).2]
    unfold Wr.note
    by_cases he : w.e = 0
    · simp [he, hb]
    · simp [he]
  · rw [if_neg (fun h => hb (bad_iff.1 h)), hput _ rfl rfl]
    by_cases he : w.e = 0
    · simp [he, hb]
    · simp [he]
def Wr.putR (w : Wr) (l : List UInt8) (right : Bool) : Wr := if w.e ≠ 0 then w else if right = true then { w with out := w.out ++ l } else { w with e := 32 }
def SimW (w v : Wr) : Prop := w.e = v.e ∧ w.out = v.out
theorem SimW.num {w v : Wr} (h : SimW w v) {k : Nat} (n : Int) (h1 : (w.out.length : Int) + k ≤ w.lim) (h2 : (v.out.length : Int) + k ≤ v.lim) : SimW (w.num k n) (v.num k n) := by
  rw [Wr.num_room h1, Wr.num_room h2]
  obtain ⟨he, ho⟩ := h
  rw [he, ho]
  split
  · exact ⟨he, ho⟩
  split
  · exact ⟨rfl, rfl⟩
  · exact ⟨rfl, rfl⟩
theorem be_step {m : Nat} {n x : Nat} (hx : x = n / 256 ^ m) : be (m + 1) (n : Int) = UInt8.ofNat (x % 256) :: be m (n : Int) := by
  rw [be]
  congr 1
  unfold byteAt
  have e : (n : Int).fdiv (2 ^ (8 * m)) = ((n / 256 ^ m : Nat) : Int) := by
    rw [Int.fdiv_eq_ediv_of_nonneg _ (by exact Int.pow_nonneg (by omega)), Int.pow_mul]
    simp
  rw [e, hx]
  congr 1
end Go.Fw
end
section
set_option linter.unusedVariables false
set_option linter.unusedSimpArgs false
namespace Go.Proofs.YtaklhjodjbgmgaaGreat
open Go.Fw Go.Proofs Go.RowKit
variable {σ σ0 : Store}
structure WrR (σ0 s : Store) (id : Nat) (w : Wr) : Prop where
  new : σ0 id = .free
  cell : ∃ d, s id = .live t_ref01_Writer [[d, iD w.lim, iD w.e]] ∧ Own Tryz.prog σ0 s t_uint8 d (w.out.map encU) ∧ idOf d ≠ some id
theorem WrR.ext {s : Store} {id : Nat} {w : Wr} (h : WrR σ0 s id w) : Ext σ0 s := by
  obtain ⟨d, _, h, _⟩ := h.cell; exact h.ext
theorem WrR.ext' {s s' : Store} {id : Nat} {w : Wr} (h : WrR σ0 s id w) (he : Ext s s') : WrR σ0 s' id w := by
  obtain ⟨d, h1, h2, h3⟩ := h.cell
  exact ⟨h.new, d, by rw [he id (by rw [h1]; intro e; cases e)]; exact h1, h2.ext' he, h3⟩
theorem ref01_New_ok {n : Int} (hn : 0 ≤ n) : DCalls Tryz.prog n_ref01_New [iA n] σ fun r s => ∃ id, r = .a (.one (pO id)) ∧ WrR σ s id ⟨0, [], n⟩ := by
  refine W_ref01_New n σ _ (newObj_intro fun id s hid _ he hs => ?_)
  rw [if_neg (by omega)] at hs
  exact ⟨id, rfl, hid, .nils, hs, .nil _ he, by intro e; cases e⟩
theorem ref_put_ok {s : Store} {id : Nat} {w : Wr} (h : WrR σ0 s id w) {b : D} {l : List UInt8} (hb : At Tryz.prog s t_uint8 b (l.map encU)) (right : Bool) (hs : w.out.length + l.length ≤ 2 ^ 45) (hl : (w.out.length : Int) + l.length ≤ w.lim) (hlim : w.lim ≤ 2 ^ 60) :
    DCalls Tryz.prog n_ref01_Writer_put [.one (pO id), .one b, bA right] s fun r s' => r = .tup [] ∧ WrR σ0 s' id (w.putR l right) := by
  obtain ⟨hn, d, h1, h2, h3⟩ := h
  have ho := h2.at_.size
  have hbs := hb.size
  rw [List.length_map] at ho hbs
  unfold Wr.putR
  refine W_ref01_Writer_put (pO id) b right s _ ⟨trivial, _, _, _, rfl, _, box_row h1, w.e, rfl, bcn (fun e => ⟨rfl, ?_⟩) (fun e0 => bcnot (fun hr => ?_) (fun hr => ?_))⟩
  · rw [if_pos e]; exact ⟨hn, d, h1, h2, h3⟩
  · subst hr
    refine ⟨trivial, _, _, _, rfl, cell_store h1 (by simp) fun s' hs' ho' => ⟨rfl, ?_⟩⟩
    rw [if_neg (by simp [e0])]
    exact ⟨hn, d, hs', own_other h2 hn h3 ho', h3⟩
  · subst hr
    refine hb.lenK ⟨trivial, _, _, _, rfl, _, box_row h1, w.lim, rfl, trivial, _, _, _, rfl, _, box_row h1, d, rfl, h2.at_.lenK ?_⟩
    rw [List.length_map, List.length_map, w64_id (by omega) (by omega)]
    refine bcd (fun hg => by simp only [gt_iff_lt] at hg; omega) (fun _ => ⟨trivial, _, _, _, rfl, _, box_row h1, d, rfl, h2.append hb (by simp; omega) (by simp; omega) fun d2 s2 o2 k2 i2 => ⟨trivial, _, _, _, rfl, ?_⟩⟩)
    have hs2 : s2 id = .live t_ref01_Writer [[d, iD w.lim, iD w.e]] := by
      rw [k2 id (by rw [h1]; intro e; cases e) (fun a b e => h3 (by rw [e]; rfl)), h1]
    have hd2 : idOf d2 ≠ some id := fun hi => by
      cases d2 with
      | osl j a m =>
        have : j = id := by simpa [idOf] using hi
        subst this
        rcases i2 j a m rfl with g | ⟨a', b', g⟩
        · rw [h1] at g; cases g
        · exact h3 (by rw [g]; rfl)
      | _ => simp [idOf] at hi
    rw [← List.map_append] at o2
    refine cell_store hs2 (by simp) fun s3 hs3 ho3 => ⟨rfl, ?_⟩
    rw [if_neg (by simp [e0]), if_pos rfl]
    exact ⟨hn, d2, hs3, own_other o2 hn hd2 ho3, hd2⟩
theorem pow256 {j : Nat} (h : j ≤ 4) : (1 : Int) ≤ 256 ^ j ∧ (256 : Int) ^ j ≤ 4294967296 := by
  have : j = 0 ∨ j = 1 ∨ j = 2 ∨ j = 3 ∨ j = 4 := by omega
  rcases this with rfl | rfl | rfl | rfl | rfl <;> decide
theorem ref_Num_ok {s : Store} {id : Nat} {w : Wr} (h : WrR σ0 s id w) {k : Nat} (hk : k ≤ 4) {n : Int} (hI : -2 ^ 63 ≤ n ∧ n < 2 ^ 63) (hs : w.out.length + k ≤ 2 ^ 45) (hl : (w.out.length : Int) + k ≤ w.lim) (hlim : w.lim ≤ 2 ^ 60) {kk : Int} (hkk : kk = k) :
    DCalls Tryz.prog n_ref01_Writer_Num [.one (pO id), iA n, iA kk] s fun r s' => r = .tup [] ∧ WrR σ0 s' id (w.num k n) := by
  subst hkk
  have hp := pow256 hk
  have hnum := w.num_room (n := n) hl
  refine W_ref01_Writer_Num (pO id) n k s _ ⟨fun n1 n2 s' => s' = s ∧ ∃ j : Nat, n2 = j ∧ j ≤ k ∧ n1 = 256 ^ j, fun _ n2 _ => k - n2.toNat, ⟨rfl, 0, rfl, by omega, rfl⟩, ?_⟩
  rintro _ _ s' ⟨rfl, j, rfl, hj, rfl⟩
  refine bcd (fun hlt => ?_) (fun hge => ?_)
  · have hlt : j < k := by omega
    have hpj := pow256 (j := j + 1) (by omega)
    rw [Int.pow_succ] at hpj
    rw [w64_succ (by omega), w64_id (by omega) (by omega)]
    exact ⟨⟨rfl, j + 1, rfl, hlt, by rw [Int.pow_succ]⟩, dec_lt hlt⟩
  have e : j = k := by omega
  subst e
  have bad : (n < 0 ∨ 256 ^ j ≤ n) → DCalls Tryz.prog n_ref01_Writer_put [.one (pO id), .one .nils, bA false] s' fun r s1 => (r = .tup []) ∧ (RV.tup [] = RV.tup [] ∧ WrR σ0 s1 id (w.num j n)) := fun hb => by
    refine (ref_put_ok h (b := .nils) (l := []) .nil false (by simp; omega) (by simp; omega) hlim).mono ?_
    rintro r s1 ⟨rfl, h1⟩
    refine ⟨rfl, rfl, ?_⟩
    have e2 : w.num j n = w.putR [] false := by
      rw [hnum]
      unfold Wr.putR
      rw [if_pos hb, if_neg (show ¬ (false = true) by decide)]
    rw [e2]; exact h1
  intro R hR
  refine bcd (fun h0 => bad (.inl h0)) (fun h0 => bcd (fun h1 => bad (.inr h1)) (fun h1 => hR s' ?_))
  simp only [ge_iff_le] at h1
  obtain ⟨N, rfl⟩ := Int.eq_ofNat_of_zero_le (show 0 ≤ n by omega)
  refine ⟨by omega, by omega, by omega, newObj_intro fun id2 s2 hid2 _ he2 hs2 => ?_⟩
  rw [Int.toNat_natCast] at hs2 ⊢
  rw [w64_id (n := (j : Int) - 1) (by omega) (by omega)]
  refine ⟨fun n3 n4 s3 => ∃ m q : Nat, m + q = j ∧ n4 = (m : Int) - 1 ∧ n3 = ((N / 256 ^ q : Nat) : Int) ∧ Ext s' s3 ∧ s3 id2 = .live t_uint8 (List.replicate m [.int .u8 0] ++ (be q (N : Int)).map encU), fun _ n4 _ => (n4 + 1).toNat,
    ⟨j, 0, rfl, rfl, by simp, he2, by rw [hs2]; simp [be]⟩, ?_⟩
  rintro _ _ s3 ⟨m, q, hmq, rfl, rfl, he3, hs3⟩
  refine bcd (fun hge0 => ?_) (fun hlt0 => ?_)
  · obtain ⟨m', rfl⟩ : ∃ m', m = m' + 1 := ⟨m - 1, by omega⟩
    have hlen : (List.replicate (m' + 1) [D.int .u8 0] ++ (be q (N : Int)).map encU).length = j := by simp [be_len]; omega
    refine ⟨j, ⟨by omega, t_uint8, _, hs3, c_uint8⟩, by omega, by omega, id2, 0, j, t_uint8, _, [.int .u8 0], rfl, by omega, hs3, ?_, by simp, ?_⟩
    · rw [show 0 + (((m' + 1 : Nat) : Int) - 1).toNat = m' by omega, List.getElem?_append_left (by simp), List.getElem?_replicate, if_pos (by omega)]
    have hX : N / 256 ^ q < 2 ^ 63 := by
      have := Nat.div_le_self N (256 ^ q)
      omega
    generalize hx : N / 256 ^ q = X at *
    have h1 : Int.tdiv (X : Int) 256 = ((X / 256 : Nat) : Int) := by rw [Int.tdiv_eq_ediv_of_nonneg (by omega)]; rfl
    have h2 : Int.tmod (X : Int) 256 = ((X % 256 : Nat) : Int) := by rw [Int.tmod_eq_emod_of_nonneg (by omega)]; rfl
    have h3 : X % 256 < 256 := Nat.mod_lt _ (by omega)
    rw [h1, h2, w64_id (n := ((X / 256 : Nat) : Int)) (by omega) (by omega), w64_id (n := ((m' + 1 : Nat) : Int) - 1 - 1) (by omega) (by omega)]
    refine ⟨⟨m', q + 1, by omega, by omega, ?_, fun i hi => ?_, ?_⟩, by show (((m' + 1 : Nat) : Int) - 1 - 1 + 1).toNat < (((m' + 1 : Nat) : Int) - 1 + 1).toNat; omega⟩
    · rw [← hx, Nat.div_div_eq_div_mul, Nat.pow_succ]
    · rw [Store.set_ne _ _ (fun e => hi (by rw [e]; exact hid2))]; exact he3 i hi
    · rw [Store.set_same, show 0 + (((m' + 1 : Nat) : Int) - 1).toNat = m' by omega, be_step hx.symm]
      congr 1
      rw [List.replicate_succ', List.append_assoc]
      rw [List.set_append_right _ _ (by simp), List.length_replicate, Nat.sub_self]
      simp only [List.singleton_append, List.set_cons_zero, List.map_cons]
      congr 2
  · have hm0 : m = 0 := by omega
    subst hm0
    have hqj : q = j := by omega
    subst hqj
    rw [List.replicate_zero, List.nil_append] at hs3
    refine (ref_put_ok (h.ext' he3) (At.fresh hs3 (by simp [be_len]; omega) (by simp [be_len])) true (by rw [be_len]; exact hs) (by rw [be_len]; exact hl) hlim).mono ?_
    rintro r s4 ⟨rfl, h4⟩
    refine ⟨rfl, rfl, ?_⟩
    have e2 : w.num q (N : Int) = w.putR (be q (N : Int)) true := by
      rw [hnum]
      unfold Wr.putR
      rw [if_neg (show ¬ ((N : Int) < 0 ∨ 256 ^ q ≤ (N : Int)) by omega), if_pos rfl]
    rw [e2]; exact h4
theorem ref_Done_ok {s : Store} {id : Nat} {w : Wr} (h : WrR σ0 s id w) :
    Pure Tryz.prog n_ref01_Writer_Done [.one (pO id)] s (.tup [.one (.str (ofL (if w.e = 0 then w.out else []))), iA w.e]) := by
  obtain ⟨hn, d, h1, h2, h3⟩ := h
  refine W_ref01_Writer_Done (pO id) s _ ⟨trivial, _, _, _, rfl, _, box_row h1, w.e, rfl, bcn (fun e => ?_) (fun e => ?_)⟩
  · refine ⟨trivial, _, _, _, rfl, _, box_row h1, w.e, rfl, ?_⟩
    rw [if_neg e]; exact ⟨rfl, rfl⟩
  · refine ⟨trivial, _, _, _, rfl, _, box_row h1, d, rfl, ofL w.out, ?_, ?_⟩
    · rw [bytesD_ofL]; exact h2.at_.rows
    · rw [if_pos e, e]; exact ⟨rfl, rfl⟩
end Go.Proofs.YtaklhjodjbgmgaaGreat
end
section
set_option linter.unusedVariables false
set_option linter.unusedSimpArgs false
namespace Go.Proofs.YtaklhjodjbgmgaaGreat
open Go.Fw Go.Proofs Go.RowKit
variable {σ σ0 : Store}
theorem ref02_big_ok {k N : Nat} (hk : k ≤ 4) (hN : N < 2 ^ 63) {kk : Int} (hkk : kk = k) {n : Int} (hn : n = N) : DCalls Tryz.prog n_ref02_big [iA n, iA kk] σ fun r s => Ext σ s ∧ r = .a (.one (.str (ofL (be k (N : Int))))) := by
  subst hkk hn
  refine W_ref02_big N k σ _ ⟨by omega, by omega, by omega, newObj_intro fun id2 s2 hid2 _ he2 hs2 => ?_⟩
  rw [Int.toNat_natCast] at hs2 ⊢
  rw [w64_id (n := (k : Int) - 1) (by omega) (by omega)]
  refine ⟨fun n3 n4 s3 => ∃ m q : Nat, m + q = k ∧ n4 = (m : Int) - 1 ∧ n3 = ((N / 256 ^ q : Nat) : Int) ∧ Ext σ s3 ∧ s3 id2 = .live t_uint8 (List.replicate m [.int .u8 0] ++ (be q (N : Int)).map encU), fun _ n4 _ => (n4 + 1).toNat,
    ⟨k, 0, rfl, rfl, by simp, he2, by rw [hs2]; simp [be]⟩, ?_⟩
  rintro _ _ s3 ⟨m, q, hmq, rfl, rfl, he3, hs3⟩
  refine bcd (fun hge0 => ?_) (fun hlt0 => ?_)
  · obtain ⟨m', rfl⟩ : ∃ m', m = m' + 1 := ⟨m - 1, by omega⟩
    have hlen : (List.replicate (m' + 1) [D.int .u8 0] ++ (be q (N : Int)).map encU).length = k := by simp [be_len]; omega
    refine ⟨k, ⟨by omega, t_uint8, _, hs3, c_uint8⟩, by omega, by omega, id2, 0, k, t_uint8, _, [.int .u8 0], rfl, by omega, hs3, ?_, by simp, ?_⟩
    · rw [show 0 + (((m' + 1 : Nat) : Int) - 1).toNat = m' by omega, List.getElem?_append_left (by simp), List.getElem?_replicate, if_pos (by omega)]
    have hX : N / 256 ^ q < 2 ^ 63 := by
      have := Nat.div_le_self N (256 ^ q)
      omega
    generalize hx : N / 256 ^ q = X at *
    have h1 : Int.tdiv (X : Int) 256 = ((X / 256 : Nat) : Int) := by rw [Int.tdiv_eq_ediv_of_nonneg (by omega)]; rfl
    have h2 : Int.tmod (X : Int) 256 = ((X % 256 : Nat) : Int) := by rw [Int.tmod_eq_emod_of_nonneg (by omega)]; rfl
    have h3 : X % 256 < 256 := Nat.mod_lt _ (by omega)
    rw [h1, h2, w64_id (n := ((X / 256 : Nat) : Int)) (by omega) (by omega), w64_id (n := ((m' + 1 : Nat) : Int) - 1 - 1) (by omega) (by omega)]
    have hw : IntKind.wrap .u8 ((X % 256 : Nat) : Int) = ((X % 256 : Nat) : Int) := by
      show ((X % 256 : Nat) : Int) % 256 = _
      omega
    refine ⟨⟨m', q + 1, by omega, by omega, ?_, fun i hi => ?_, ?_⟩, by show (((m' + 1 : Nat) : Int) - 1 - 1 + 1).toNat < (((m' + 1 : Nat) : Int) - 1 + 1).toNat; omega⟩
    · rw [← hx, Nat.div_div_eq_div_mul, Nat.pow_succ]
    · rw [Store.set_ne _ _ (fun e => hi (by rw [e]; exact hid2))]; exact he3 i hi
    · rw [Store.set_same, show 0 + (((m' + 1 : Nat) : Int) - 1).toNat = m' by omega, be_step hx.symm]
      congr 1
      rw [List.replicate_succ', List.append_assoc]
      rw [List.set_append_right _ _ (by simp), List.length_replicate, Nat.sub_self]
      simp only [List.singleton_append, List.set_cons_zero, List.map_cons]
      congr 2
  · have hm0 : m = 0 := by omega
    subst hm0
    have hqj : q = k := by omega
    subst hqj
    rw [List.replicate_zero, List.nil_append] at hs3
    refine ⟨ofL (be q (N : Int)), ?_, he3, rfl⟩
    rw [bytesD_ofL]
    exact (At.fresh (P := Tryz.prog) (n := q) hs3 (by simp [be_len]; omega) (by simp [be_len])).rows
theorem ref02_big_p {k N : Nat} (hk : k ≤ 4) (hN : N < 2 ^ 63) {kk : Int} (hkk : kk = k) {n : Int} (hn : n = N) : Pure Tryz.prog n_ref02_big [iA n, iA kk] σ (.a (.one (.str (ofL (be k (N : Int)))))) := by
  exact .of ((ref02_big_ok hk hN hkk hn).mono fun r s ⟨a, b⟩ => ⟨b, a⟩) (.one _ (.str _))
theorem byte_step64 {r : Nat} (h : r < 4294967296) (b : UInt8) :
    w64 (BitVec.toNat ((BitVec.ofInt 64 (r : Int)) ^^^ (BitVec.ofInt 64 (w64 ((w64 (b.toNat : Int)) * 16777216)))) : Int) = ((r ^^^ (b.toNat * 16777216) : Nat) : Int) := by
  have hb := b.toNat_lt
  have hx := xor_lt32 h (show b.toNat * 16777216 < 4294967296 by omega)
  have e1 : w64 ((w64 (b.toNat : Int)) * 16777216) = ((b.toNat * 16777216 : Nat) : Int) := by
    rw [w64_id (n := (b.toNat : Int)) (by omega) (by omega)]
    rw [w64_id (by omega) (by omega)]
    omega
  rw [e1, BitVec.ofInt_natCast, BitVec.ofInt_natCast, BitVec.toNat_xor, BitVec.toNat_ofNat, BitVec.toNat_ofNat, Nat.mod_eq_of_lt (by omega), Nat.mod_eq_of_lt (by omega)]
  exact w64_id (by omega) (by omega)
theorem bit_step64 {r : Nat} (h : r < 4294967296) (hb : 2147483648 ≤ r) :
    w64 (BitVec.toNat ((BitVec.ofInt 64 (w64 (((2 * r : Nat) : Int) - 4294967296))) ^^^ (BitVec.ofInt 64 79764919)) : Int) = (crcBit r : Nat) := by
  have hlt := crcBit_lt h
  unfold crcBit at hlt ⊢
  rw [if_pos hb] at hlt ⊢
  have e1 : w64 (((2 * r : Nat) : Int) - 4294967296) = ((2 * r - 4294967296 : Nat) : Int) := by rw [w64_id (by omega) (by omega)]; omega
  have e2 : BitVec.ofInt 64 79764919 = BitVec.ofNat 64 79764919 := rfl
  rw [e1, e2, BitVec.ofInt_natCast, BitVec.toNat_xor, BitVec.toNat_ofNat, BitVec.toNat_ofNat, Nat.mod_eq_of_lt (by omega), Nat.mod_eq_of_lt (by omega)]
  exact w64_id (by omega) (by omega)
theorem ref02_Sum_ok {l : List UInt8} (hl : l.length < 2 ^ 60) : Pure Tryz.prog n_ref02_Sum [.one (.str (ofL l))] σ (.a (iA (crc l))) := by
  refine W_ref02_Sum (ofL l) σ _ ⟨fun n n1 s => s = σ ∧ ∃ j : Nat, n1 = j ∧ j ≤ l.length ∧ n = (crcL 4294967295 (l.take j) : Nat), fun _ n1 _ => l.length - n1.toNat, ⟨rfl, 0, rfl, by omega, rfl⟩, ?_⟩
  rintro _ _ s ⟨rfl, j, rfl, hj, rfl⟩
  rw [size_ofL]
  refine bcd (fun hlt => ?_) (fun hge => ?_)
  rotate_left
  · have e : j = l.length := by omega
    subst e
    rw [List.take_length]
    exact ⟨rfl, rfl⟩
  have hlt : j < l.length := by omega
  obtain ⟨c, hc⟩ := get_of_lt (l := l) (j := j) hlt
  refine ⟨c.toNat, ⟨by omega, c, by rw [Int.toNat_natCast]; exact hc, rfl⟩, ?_⟩
  have hr1 := crcL_lt (l.take j) (r := 4294967295) (by omega)
  rw [byte_step64 hr1]
  have hx := xor_lt32 hr1 (show c.toNat * 16777216 < 4294967296 by have := c.toNat_lt; omega)
  have hdec := dec_lt hlt
  refine ⟨fun n5 n6 s' => s' = s ∧ ∃ q : Nat, n6 = q ∧ q ≤ 8 ∧ n5 = (crcN q (crcL 4294967295 (l.take j) ^^^ (c.toNat * 16777216)) : Nat), fun _ n6 _ => 8 - n6.toNat, ⟨rfl, 0, rfl, by omega, rfl⟩, ?_⟩
  rintro _ _ s' ⟨rfl, q, rfl, hq, rfl⟩
  have hN := crcN_lt q hx
  have e2 : w64 (((crcN q (crcL 4294967295 (l.take j) ^^^ (c.toNat * 16777216)) : Nat) : Int) * 2) = ((2 * crcN q (crcL 4294967295 (l.take j) ^^^ (c.toNat * 16777216)) : Nat) : Int) := by rw [w64_id (by omega) (by omega)]; omega
  refine bcd (fun hlt3 => ?_) (fun hge => ?_)
  · have hlt3 : q < 8 := by omega
    rw [e2, w64_succ (by omega)]
    have d8 : 8 - ((q + 1 : Nat) : Int).toNat < 8 - ((q : Nat) : Int).toNat := by omega
    refine bcd (fun hb => ?_) (fun hb => ?_)
    · refine ⟨⟨rfl, q + 1, rfl, by omega, ?_⟩, d8⟩
      rw [bit_step64 hN (by omega), crcN_take]
    · refine ⟨⟨rfl, q + 1, rfl, by omega, ?_⟩, d8⟩
      rw [crcN_take]
      congr 1
      unfold crcBit
      rw [if_neg (by omega)]
  · have e : q = 8 := by omega
    subst e
    rw [w64_succ (by omega)]
    refine ⟨⟨rfl, j + 1, rfl, hlt, ?_⟩, hdec⟩
    rw [crcL_take hc, crcU]
theorem ofL_app (a b : List UInt8) : (ByteArray.append (ofL a) (ofL b)).data.toList = a ++ b := by
  show ((ofL a) ++ (ofL b)).data.toList = a ++ b
  rw [ByteArray.data_append, Array.toList_append, ofL_data, ofL_data]
theorem ref02_Seal_ok {b : List UInt8} (hb : b.length ≤ 1024) : Pure Tryz.prog n_ref02_Seal [.one (.str (ofL b))] σ (.tup [.one (.str (ofL (sealL b))), iA 0]) := by
  refine W_ref02_Seal (ofL b) σ _ ?_
  show bcase (decide ((((ofL b).size : Nat) : Int) > 1024)) _ _
  rw [size_ofL]
  refine bcd (fun h => absurd h (by omega)) (fun _ => (ref02_big_p (k := 2) (N := b.length) (by omega) (by omega) rfl rfl).use ⟨_, rfl, ?_, ?_⟩)
  · rw [size_ofL, be_len]; omega
  have hc := crc_lt (be 2 b.length ++ b)
  refine (ref02_Sum_ok (l := be 2 b.length ++ b) (by rw [List.length_append, be_len]; omega)).use ⟨_, rfl, (ref02_big_p (k := 4) (by omega) (by omega) rfl rfl).use ⟨_, rfl, ?_, ?_⟩⟩
  · show (((ofL (be 2 b.length ++ b)).size : Int) + _) ≤ _
    rw [size_ofL, size_ofL, List.length_append, be_len, be_len]; omega
  · refine ⟨?_, rfl⟩
    rw [ofL_app]
    rfl
theorem ref09_Make_ok {p n s : Int} {b : List UInt8} (hp : 0 ≤ p ∧ p < 256) (hn : 0 ≤ n ∧ n < 65536) (hs : 0 ≤ s ∧ s < 4294967296) (hb : b.length ≤ 1000) :
    Pure Tryz.prog n_ref09_Make [iA p, iA n, iA s, .one (.str (ofL b))] σ (.tup [.one (.str (ofL (sealL (headL p n s ++ b)))), iA 0]) := by
  have num : ∀ (w : Wr) (k : Nat) (m : Int), w.e = 0 → (w.out.length : Int) + k ≤ w.lim → (0 ≤ m ∧ m < 256 ^ k) → w.num k m = ⟨0, w.out ++ be k m, w.lim⟩ := fun w k m h1 h2 h3 => by
    rw [Wr.num_room h2, if_neg (by rw [h1]; simp), if_neg (by omega)]
    cases w
    simp at h1
    subst h1
    rfl
  have key : DCalls Tryz.prog n_ref09_Make [iA p, iA n, iA s, .one (.str (ofL b))] σ fun r s' => Ext σ s' ∧ r = .tup [.one (.str (ofL (sealL (headL p n s ++ b)))), iA 0] := by
    refine W_ref09_Make p n s (ofL b) σ _ ((ref01_New_ok (by omega)).mono ?_)
    rintro r s1 ⟨id, rfl, h1⟩
    refine ⟨_, rfl, (ref_Num_ok h1 (k := 1) (by omega) (by omega) (by simp) (by simp) (by simp) rfl).mono ?_⟩
    rintro r s2 ⟨rfl, h2⟩
    rw [num _ 1 p rfl (by simp) (by simpa using hp)] at h2
    refine ⟨rfl, (ref_Num_ok h2 (k := 2) (by omega) (by omega) (by simp [be_len]) (by simp [be_len]) (by simp) rfl).mono ?_⟩
    rintro r s3 ⟨rfl, h3⟩
    rw [num _ 2 n rfl (by simp [be_len]) (by simpa using hn)] at h3
    refine ⟨rfl, (ref_Num_ok h3 (k := 4) (by omega) (by omega) (by simp [be_len]) (by simp [be_len]) (by simp) rfl).mono ?_⟩
    rintro r s4 ⟨rfl, h4⟩
    rw [num _ 4 s rfl (by simp [be_len]) (by simpa using hs)] at h4
    have hl : ([] ++ be 1 p ++ be 2 n ++ be 4 s) = headL p n s := by unfold headL; rw [List.nil_append]
    have hhl := head_len p n s
    refine ⟨rfl, (ref_Done_ok h4).use ⟨_, 0, rfl, bcn (fun e => absurd rfl e) (fun _ => ?_)⟩⟩
    rw [if_pos rfl]
    show bcase (decide ((((ofL b).size : Nat) : Int) > 1000)) _ _
    rw [size_ofL]
    refine bcd (fun h => absurd h (by omega)) (fun _ => ⟨?_, ?_⟩)
    · rw [size_ofL]
      show (((([] ++ be 1 p ++ be 2 n ++ be 4 s) : List UInt8).length : Nat) : Int) + _ ≤ _
      rw [hl, hhl]; omega
    · have := ref02_Seal_ok (σ := s4) (b := headL p n s ++ b) (by rw [List.length_append, hhl]; omega)
      rw [← hl] at this
      refine Pure.use this ⟨_, _, rfl, h4.ext, ?_⟩
      rw [hl]
  refine .of (key.mono fun r s ⟨a, b⟩ => ⟨b, a⟩) (.tup [.str _, iD 0] fun d hd => ?_)
  simp at hd
  rcases hd with rfl | rfl
  · exact .str _
  · exact .int _ _
end Go.Proofs.YtaklhjodjbgmgaaGreat
end
section
set_option linter.unusedVariables false
set_option linter.unusedSimpArgs false
namespace Go.Fw
def Rc.takeS (r : Rc) (now : Int) (a : Said) : Rc × List UInt8 × Int :=
  if a.e ≠ 0 then (r, [], a.e) else
  if a.p ≠ r.Peer then (r, [], 16) else
  if a.s > now then (r, [], 19) else
  if now - a.s > r.Age then (r, [], 17) else
  if a.s ≤ r.Last then (r, [], 18) else ({ r with Last := a.s }, a.b, 0)
theorem Rc.take_said (r : Rc) (now : Int) (t : List UInt8) : r.take now t = r.takeS now (saidL t) := rfl
def Yd.takeS (y : Yd) (oc : Int) (a : Said) : Yd × Int :=
  match geti y.Psts oc with
  | none => (y, 20)
  | some p =>
    if (p.R.takeS y.Now a).2.2 ≠ 0 then (y, (p.R.takeS y.Now a).2.2) else
    match readO p.H (p.R.takeS y.Now a).2.1 with
    | none => ({ y with Psts := y.Psts.set oc.toNat { p with R := (p.R.takeS y.Now a).1 } }, 3)
    | some o => ({ y with Psts := y.Psts.set oc.toNat ⟨(p.R.takeS y.Now a).1, p.H, (p.R.takeS y.Now a).1.Last⟩, Pts := orderP p.H.Pts o.Pos y.Pts, Gts := orderL p.H.Xs o.Shut y.Gts, Lps := aspL p.H.Sgs o.Asp y.Lps }, 0)
theorem Yd.take_said (y : Yd) (oc : Int) (t : List UInt8) : y.take oc t = y.takeS oc (saidL t) := rfl
def st19 : Cf := ⟨[⟨0, 0, 0⟩, ⟨1, 0, 0⟩, ⟨0, 0, 0⟩, ⟨0, 0, 0⟩, ⟨0, 0, 1⟩], [⟨0, 1, 1, 0⟩, ⟨1, 1, 2, 0⟩, ⟨1, 2, 3, 0⟩, ⟨2, 1, 4, 0⟩], [⟨0, 1⟩, ⟨2, 1⟩], [], [⟨0, 1, [⟨1, 0, 1⟩, ⟨2, 0, 1⟩], [], [], false⟩, ⟨1, -1, [⟨4, 0, 1⟩], [], [], false⟩], 2, 1, 4, 1000⟩
def t19 : List UInt8 := sealL (headL 50 1 5 ++ [2, 0, 2, 0])
theorem said19 : saidL t19 = ⟨50, 1, 5, [2, 0, 2, 0], 0⟩ := said_make (by omega) (by omega) (by omega) (by decide)
def lv0 : Yd := (newYd st19 [⟨[0], 1⟩]).2
def lv1 : Yd := (lv0.move 0).1
def lv2 : Yd := lv1.tick 5
def lv3 : Yd := (lv2.takeS 0 ⟨50, 1, 5, [2, 0, 2, 0], 0⟩).1
def lv4 : Yd := lv3.look
def lv5 : Yd := (lv4.move 0).1
theorem lv_new : (newYd st19 [⟨[0], 1⟩]).1 = 0 := by decide +kernel
theorem lv_move0 : (lv0.move 0).2 = 29 := by decide +kernel
theorem lv_take : (lv2.takeS 0 ⟨50, 1, 5, [2, 0, 2, 0], 0⟩).2 = 0 := by decide +kernel
theorem lv_shows : lv3.shows 0 = 2 := by decide +kernel
theorem lv_move1 : (lv4.move 0).2 = 0 := by decide +kernel
theorem lv_len : lv5.Trs.length = 1 := by decide +kernel
theorem lv_secs : ((lv5.Trs[0]?).map fun t => (t.Secs, t.Out)) = some ([1, 0], 1) := by decide +kernel
theorem lv_hits : lv5.hits.length = 0 := by decide +kernel
theorem lv_take' : lv2.take 0 t19 = lv2.takeS 0 ⟨50, 1, 5, [2, 0, 2, 0], 0⟩ := by rw [Yd.take_said, said19]
theorem lv_train : ∃ t, lv5.Trs[0]? = some t ∧ t.Secs = [1, 0] ∧ t.Out = 1 := by
  have h := lv_secs
  cases hl : lv5.Trs[0]? with
  | none => rw [hl] at h; cases h
  | some t =>
    rw [hl] at h
    simp only [Option.map_some, Option.some.injEq, Prod.mk.injEq] at h
    exact ⟨t, rfl, h.1, h.2⟩
theorem lv_take3 : (lv2.take 0 t19).2 = 0 ∧ (lv2.take 0 t19).1 = lv3 := by
  rw [lv_take']
  exact ⟨lv_take, rfl⟩
theorem trsNew_some (c : Cf) : ∀ (r l l' : List Tr), trsNew c r l = some l' → (∀ t ∈ l, ∃ a x, t.Secs = [a] ∧ geti c.Secs a = some x) → (∀ t ∈ l', ∃ a x, t.Secs = [a] ∧ geti c.Secs a = some x) ∧ l' = l ++ r
  | [], l, l', h, hl => by rw [trsNew] at h; injection h with h; subst h; exact ⟨hl, by simp⟩
  | t :: r, l, l', h, hl => by
    rw [trsNew] at h
    split at h
    · rename_i hf
      have := trsNew_some c r (l ++ [t]) l' h (fun t' ht' => by
        rcases List.mem_append.1 ht' with ht' | ht'
        · exact hl t' ht'
        · rw [List.mem_singleton.1 ht']
          unfold Cf.trFits at hf
          split at hf
          · rename_i a ha
            split at hf
            · rename_i x hx; exact ⟨a, x, ha, hx⟩
            · cases hf
          · cases hf)
      exact ⟨this.1, by rw [this.2]; simp⟩
    · cases h
end Go.Fw
end
section
set_option linter.unusedVariables false
set_option linter.unusedSimpArgs false
namespace Go.Proofs.YtaklhjodjbgmgaaGreat
open Go.Fw Go.Proofs Go.RowKit
variable {σ σ0 : Store}
theorem newYd_wf {c : Cf} {l : List Tr} (h : (newYd c l).1 = 0) : Ywf (newYd c l).2 1 ∧ (newYd c l).2.C = c ∧ (newYd c l).2.Trs = l := by
  unfold newYd at h ⊢
  split
  · rename_i h1; rw [if_pos h1] at h; exact absurd h h1
  split
  · rename_i h1 h2; rw [if_neg h1, if_pos h2] at h; cases h
  rename_i h1 h2
  rw [if_neg h1, if_neg h2] at h
  have hchk : c.check = 0 := Classical.not_not.1 h1
  split
  · rename_i h3; rw [h3] at h; cases h
  · rename_i acc h3
    obtain ⟨g1, g2⟩ := trsNew_some c l [] acc h3 (fun t h => by cases h)
    rw [List.nil_append] at g2
    subst g2
    refine ⟨⟨hchk, by simp [Yd.fresh], by simp [Yd.fresh], by simp [Yd.fresh], rfl, fun k p hp => ?_, by show acc.length ≤ 4; omega, fun t ht => ?_, ⟨Int.le_refl 0, by show (0 : Int) ≤ _; decide⟩, fun l hl => ?_, fun x hx => ?_⟩, rfl, rfl⟩
    · have hp : (psts0 c)[k]? = some p := hp
      have hk : k < 4 := (List.getElem?_eq_some_iff.1 hp).1
      rw [psts0_get c hk] at hp
      injection hp with hp
      subst hp
      exact ⟨rfl, rfl, rfl, by show (-1 : Int) ≤ -1; decide, by show (-1 : Int) ≤ _; decide⟩
    · obtain ⟨a, x, e, hx⟩ := g1 t ht
      rw [e]
      exact ⟨(by intro e; cases e), (by simp), fun s hs => by rw [List.mem_singleton.1 hs]; exact ⟨x, hx⟩⟩
    · have := List.eq_of_mem_replicate hl
      subst this
      exact ⟨by show (-1 : Int) ≤ -1; decide, by show (-1 : Int) ≤ _; decide⟩
    · rcases List.mem_append.1 hx with hx | hx
      · have := List.eq_of_mem_replicate hx
        subst this
        exact ⟨Int.le_refl 0, by show (0 : Int) ≤ 2; decide⟩
      · have := List.eq_of_mem_replicate hx
        subst this
        exact ⟨Int.le_refl 0, by show (0 : Int) ≤ 2; decide⟩
def st0 : D := .sl 3 [[iD 0, iD 0, iD 0], [iD 1, iD 0, iD 0], [iD 0, iD 0, iD 0], [iD 0, iD 0, iD 0], [iD 0, iD 0, iD 1]]
def st1 : D := .sl 4 [[iD 0, iD 1, iD 1, iD 0], [iD 1, iD 1, iD 2, iD 0], [iD 1, iD 2, iD 3, iD 0], [iD 2, iD 1, iD 4, iD 0]]
def st2 : D := .sl 2 [[iD 0, iD 1], [iD 2, iD 1]]
def st4 : D := .sl 6 [[iD 0, iD 1, .sl 3 [[iD 1, iD 0, iD 1], [iD 2, iD 0, iD 1]], .nils, .nils, .bool false], [iD 1, iD (-1), .sl 3 [[iD 4, iD 0, iD 1]], .nils, .nils, .bool false]]
theorem st_at (s : Store) : CfAt s st0 st1 st2 .nils st4 st19 :=
  ⟨at_lit c_Section (by simp), at_lit c_Joint (by simp), at_lit c_Signal (by simp), .nil, ⟨_, at_lit c_Route (by simp), rfl, fun i row r h1 h2 => by
    have hi : i < 2 := by have := (List.getElem?_eq_some_iff.1 h1).1; simpa using this
    rcases (show i = 0 ∨ i = 1 by omega) with rfl | rfl
    · simp at h1; subst h1
      simp [st19] at h2; subst h2
      exact ⟨_, _, _, rfl, at_lit c_Step (by simp), .nil, .nil⟩
    · simp at h1; subst h1
      simp [st19] at h2; subst h2
      exact ⟨_, _, _, rfl, at_lit c_Step (by simp), .nil, .nil⟩⟩⟩
theorem st_trs (s : Store) : TrsAt s (.sl 2 [[.sl 1 [[iD 0]], iD 1]]) [⟨[0], 1⟩] :=
  ⟨_, at_lit c_Train (by simp), rfl, fun k row t h1 h2 => by
    have hk : k = 0 := by have := (List.getElem?_eq_some_iff.1 h1).1; simp at this; exact this
    subst hk
    simp at h1 h2
    subst h1 h2
    exact ⟨_, rfl, at_lit c_int (by simp)⟩⟩
theorem lives19 : DCalls Tryz.prog n_law19_lives [] σ fun r _ => r = .a (bA true) := by
  obtain ⟨hw0, _, _⟩ := newYd_wf lv_new
  refine W_law19_lives σ _ ((W_law19_station σ (fun r s => s = σ ∧ r = .a (.agg [st0, st1, st2, .nils, st4, iD 2, iD 1, iD 4, iD 1000])) ⟨rfl, rfl⟩).mono ?_)
  rintro r s ⟨rfl, rfl⟩
  refine ⟨_, _, _, _, _, _, _, _, _, rfl, (yard_New_ok (c := st19) (l := [⟨[0], 1⟩]) (fr := []) st_at (by intro e; cases e) (by intro e; cases e) (by intro e; cases e) (by intro e; cases e) st_trs (.nil _)).mono ?_⟩
  rintro r s1 (⟨h, _⟩ | ⟨_, id, L, rfl, h0⟩)
  · exact absurd lv_new h
  refine ⟨_, _, rfl, fun R hR => ⟨false, rfl, bc (fun e => by cases e) (fun _ => bcn (fun e => absurd rfl e) (fun _ => (h0.move hw0 (by omega) 0).mono ?_))⟩⟩
  rintro r s2 ⟨rfl, L1, h1⟩
  have hw1 := hw0.move 0
  refine ⟨_, rfl, bcn (fun e => absurd lv_move0 e) (fun _ => hR s2 ?_)⟩
  clear hR
  have h1 : YdIn s2 id L1 lv1 [] := h1
  have hw1 : Ywf lv1 2 := hw1
  refine (h1.tick hw1 5).mono ?_
  rintro r s3 ⟨rfl, h2⟩
  have hw2 : Ywf lv2 2 := hw1.tick (by decide)
  have h2 : YdIn s3 id L1 lv2 [] := h2
  refine ⟨rfl, Pure.use (ref09_Make_ok (p := 50) (n := 1) (s := 5) (b := [2, 0, 2, 0]) (by omega) (by omega) (by omega) (by decide)) ⟨_, _, rfl, fun R1 hR1 => (h2.take hw2 0 (t := t19) (by
    unfold t19
    rw [seal_len, List.length_append, head_len]; decide)).mono ?_⟩⟩
  rintro r s4 ⟨rfl, L3, h3⟩
  have hw3 := hw2.take 0 t19
  obtain ⟨e2, e1⟩ := lv_take3
  generalize lv2.take 0 t19 = q at e1 e2 h3 hw3 ⊢
  rw [e1] at hw3 h3
  refine ⟨_, rfl, bcn (fun e => absurd e2 e) (fun _ => (h3.shows hw3 0).use ⟨_, rfl, bcn (fun e => absurd lv_shows e) (fun _ => hR1 s4 ?_)⟩)⟩
  clear hR1
  refine (h3.look hw3).mono ?_
  rintro r s5 ⟨rfl, h4⟩
  have hw4 : Ywf lv4 2 := hw3.look
  have h4 : YdIn s5 id L3 lv4 [] := h4
  refine ⟨rfl, (h4.move hw4 (by omega) 0).mono ?_⟩
  rintro r s6 ⟨rfl, L5, h5⟩
  have hw5 : Ywf lv5 3 := hw4.move 0
  have h5 : YdIn s6 id L5 lv5 [] := h5
  refine ⟨_, rfl, bcn (fun e => absurd lv_move1 e) (fun _ => (h5.trains hw5 (by omega)).mono ?_)⟩
  rintro r s7 ⟨rfl, d, rfl, hd⟩
  obtain ⟨rows, hat, hlen, hrow⟩ := hd s7
  obtain ⟨t, ht, e3, e4⟩ := lv_train
  obtain ⟨row, hr⟩ := get_of_lt (l := rows) (j := 0) (by rw [hlen, lv_len]; decide)
  obtain ⟨e, rfl, hae⟩ := hrow 0 row t hr ht
  rw [e3] at hae
  refine ⟨d, rfl, hat.lenK ?_⟩
  rw [hlen, lv_len]
  refine bce (fun _ => hat.load (j := 0) hr c_Train rfl ⟨e, rfl, hae.lenK (bce (fun _ => hat.load (j := 0) hr c_Train rfl ⟨e, rfl, hae.load (j := 0) rfl c_int rfl ⟨1, rfl, bce (fun _ => hat.load (j := 0) hr c_Train rfl ⟨t.Out, rfl, bce (fun _ => (h5.hits hw5 (by omega)).mono ?_) (fun h => absurd e4 h)⟩) (fun h => absurd rfl h)⟩⟩) (fun h => absurd rfl h))⟩) (fun h => absurd rfl h)
  rintro r s8 ⟨rfl, d9, rfl, hd9⟩
  refine ⟨d9, rfl, (hd9 s8).lenK ?_⟩
  rw [List.length_map, lv_hits]
  rfl
end Go.Proofs.YtaklhjodjbgmgaaGreat
end
section
set_option linter.unusedVariables false
set_option linter.unusedSimpArgs false
namespace Go.Fw
structure Op5 where
  Kind : Int
  N : Int
  Kind2 : Int
  On : Bool
  Text : List UInt8
def Op5.enc (o : Op5) : List D := [iD o.Kind, iD o.N, iD o.Kind2, .bool o.On, .str (ofL o.Text)]
def RelP (d : Int) (was now : List Int) : Prop := (d = 0 ∧ now = was) ∨ (d = 1 ∧ ∃ s, now = s :: was) ∨ (d = -1 ∧ was ≠ [] ∧ now = was.take (was.length - 1))
theorem RelP.len {d : Int} {was now : List Int} (h : RelP d was now) : (now.length : Int) = was.length + d := by
  rcases h with ⟨rfl, rfl⟩ | ⟨rfl, s, rfl⟩ | ⟨rfl, h, rfl⟩
  · omega
  · simp
  · have := List.length_pos_iff.2 h
    rw [List.length_take]; omega
def StepP (y y' : Yd) (n e by_ : Int) : Prop := y'.Trs.length = y.Trs.length ∧ ∀ (i : Nat) t t', y.Trs[i]? = some t → y'.Trs[i]? = some t' → RelP (if (i : Int) = n ∧ e = 0 then by_ else 0) t.Secs t'.Secs
theorem StepP.same {y y' : Yd} {n e by_ : Int} (h : y'.Trs = y.Trs) (hb : by_ = 0 ∨ e ≠ 0) : StepP y y' n e by_ := by
  refine ⟨by rw [h], fun i t t' h1 h2 => ?_⟩
  rw [h, h1] at h2
  injection h2 with h2
  subst h2
  refine .inl ⟨?_, rfl⟩
  split
  · rename_i hc
    rcases hb with hb | hb
    · exact hb
    · exact absurd hc.2 hb
  · rfl
theorem StepP.setTr {y : Yd} {n by_ : Int} {t t' : Tr} (ht : geti y.Trs n = some t) (hr : RelP by_ t.Secs t'.Secs) : StepP y { y with Trs := y.Trs.set n.toNat t' } n 0 by_ := by
  obtain ⟨h0, h1, h2⟩ := geti_some ht
  obtain ⟨k, rfl⟩ := Int.eq_ofNat_of_zero_le h0
  rw [Int.toNat_natCast] at h2 ⊢
  refine ⟨by simp, fun i a b ha hb => ?_⟩
  have hb : (y.Trs.set k t')[i]? = some b := hb
  by_cases hi : i = k
  · subst hi
    rw [List.getElem?_set_self (List.getElem?_eq_some_iff.1 h2).1] at hb
    injection hb with hb
    rw [h2] at ha
    injection ha with ha
    subst ha hb
    rw [if_pos ⟨rfl, rfl⟩]; exact hr
  · rw [List.getElem?_set_ne (Ne.symm hi), ha] at hb
    injection hb with hb
    subst hb
    rw [if_neg (by omega)]
    exact .inl ⟨rfl, rfl⟩
end Go.Fw
end
section
set_option linter.unusedVariables false
set_option linter.unusedSimpArgs false
namespace Go.Proofs.YtaklhjodjbgmgaaGreat
open Go.Fw Go.Proofs Go.RowKit
variable {σ σ0 : Store}
theorem ty_Train {row : List D} {n : Nat} (h : tyD Tryz.prog n t_Train row) : ∃ t : Tr, ∃ e, row = [e, iD t.Out] ∧ (∀ s, At Tryz.prog s t_int e (t.Secs.map Go.Fw.encI)) ∧ 8 * t.Secs.length ≤ 140737488351232 := by
  obtain ⟨d, _, rfl, h1, _, _, rfl, ⟨b, rfl, hb⟩, rfl⟩ := ty_sh n 5 _ _ [.sl t_int, .int .i64] h (by kernel_rfl)
  obtain ⟨l, a1, b1, z1, e1⟩ := sh_rows (bytes := 8) Go.Fw.encI _ (fun row n h => ty_i h) (by kernel_rfl) (by omega) h1
  exact ⟨⟨l, b⟩, d, rfl, a1, e1⟩
theorem ty_Case19 {cs : List D} {n : Nat} (h : tyD Tryz.prog n t_law19_Case cs) : ∃ c0 c1 c2 c3 c4 dt c l, cs = [c0, c1, c2, c3, c4, iD c.Age, iD c.Brake, iD c.Hold, iD c.Budget, dt] ∧ (∀ s, CfAt s c0 c1 c2 c3 c4 c) ∧
    (c0 ≠ .zsl ∧ c1 ≠ .zsl ∧ c2 ≠ .zsl ∧ c3 ≠ .zsl) ∧ (∀ s, TrsAt s dt l) ∧ (∀ t ∈ l, 8 * t.Secs.length ≤ 140737488351232) ∧ 32 * l.length ≤ 140737488351232 ∧ I64 c.Age ∧ I64 c.Brake := by
  obtain ⟨c0, _, rfl, h0, c1, _, rfl, h1, c2, _, rfl, h2, c3, _, rfl, h3, c4, _, rfl, h4, _, _, rfl, ⟨a, rfl, ha⟩, _, _, rfl, ⟨b, rfl, hb⟩, _, _, rfl, ⟨ho, rfl, hho⟩, _, _, rfl, ⟨bu, rfl, hbu⟩, dt, _, rfl, h5, rfl⟩ :=
    ty_sh n 5 _ _ [.sl t_Section, .sl t_Joint, .sl t_Signal, .sl t_int, .sl t_Route, .int .i64, .int .i64, .int .i64, .int .i64, .sl t_Train] h (by kernel_rfl)
  obtain ⟨l0, a0, b0, z0, e0⟩ := sh_rows (bytes := 24) Sec.enc _ (fun row n h => ty_Section h) (by kernel_rfl) (by omega) h0
  obtain ⟨l1, a1, b1, z1, e1⟩ := sh_rows (bytes := 32) Jt.enc _ (fun row n h => ty_Joint h) (by kernel_rfl) (by omega) h1
  obtain ⟨l2, a2, b2, z2, e2⟩ := sh_rows (bytes := 16) Sg.enc _ (fun row n h => ty_Signal h) (by kernel_rfl) (by omega) h2
  obtain ⟨l3, a3, b3, z3, e3⟩ := sh_rows (bytes := 8) Go.Fw.encI _ (fun row n h => ty_i h) (by kernel_rfl) (by omega) h3
  obtain ⟨rows, l4, a4, q4, b4, _, e4⟩ := sh_rel (bytes := 96) (fun row r => (∀ s, RtAt Tryz.prog t_Step t_Need t_int s row r) ∧ RtI r) (fun row n h => ty_Route h) (by kernel_rfl) (by omega) h4
  obtain ⟨trows, l5, a5, q5, b5, _, e5⟩ := sh_rel (bytes := 32) (fun row (t : Tr) => ∃ e, row = [e, iD t.Out] ∧ (∀ s, At Tryz.prog s t_int e (t.Secs.map Go.Fw.encI)) ∧ 8 * t.Secs.length ≤ 140737488351232) (fun row n h => ty_Train h) (by kernel_rfl) (by omega) h5
  refine ⟨c0, c1, c2, c3, c4, dt, ⟨l0, l1, l2, l3, l4, a, b, ho, bu⟩, l5, rfl, fun s => ⟨a0 s, a1 s, a2 s, a3 s, rows, a4 s, q4, fun i row r x y => (b4 i row r x y).1 s⟩, ⟨z0, z1, z2, z3⟩, fun s => ⟨trows, a5 s, q5, fun k row t x y => ?_⟩, fun t ht => ?_, e5, wf_i64 ha, wf_i64 hb⟩
  · obtain ⟨e, e1, e2, _⟩ := b5 k row t x y
    exact ⟨e, e1, e2 s⟩
  · obtain ⟨i, hi⟩ := List.mem_iff_getElem?.1 ht
    have hlt := (List.getElem?_eq_some_iff.1 hi).1
    obtain ⟨row, hrow⟩ := get_of_lt (l := trows) (j := i) (by omega)
    obtain ⟨e, _, _, e3⟩ := b5 i row t hrow hi
    exact e3
end Go.Proofs.YtaklhjodjbgmgaaGreat
end
section
set_option linter.unusedVariables false
set_option linter.unusedSimpArgs false
namespace Go.Proofs.YtaklhjodjbgmgaaGreat
open Go.Fw Go.Proofs Go.RowKit
variable {σ σ0 : Store}
section
variable {c0 c1 c2 c3 c4 : D} {c : Cf} (hc : ∀ s, CfAt s c0 c1 c2 c3 c4 c)
include hc
theorem ref10_of_ok (n oc : Int) : Pure Tryz.prog n_ref10_of [cfA c0 c1 c2 c3 c4 c, iA n, iA oc] σ (.a (bA (c.mine oc n))) := by
  unfold Cf.mine
  refine W_ref10_of c0 c1 c2 c3 c4 c.Age c.Brake c.Hold c.Budget n oc σ _ (bcd (fun h0 => (hc σ).secs.lenK ?_) (fun h0 => ⟨by rw [geti_neg (by omega)]; rfl, rfl⟩))
  rw [List.length_map]
  refine bcd (fun hlt => ?_) (fun hge => ⟨by rw [geti_ge (by omega)]; rfl, rfl⟩)
  have h0 : 0 ≤ n := h0
  obtain ⟨j, rfl⟩ := Int.eq_ofNat_of_zero_le h0
  obtain ⟨x, hx⟩ := get_of_lt (l := c.Secs) (j := j) (by omega)
  refine (hc σ).secs.load (map_get hx) c_Section rfl ⟨x.OC, rfl, ?_, rfl⟩
  rw [geti_nat, hx]; rfl
theorem ref10_Shape_ok (oc : Int) (h1 : c.Secs.length ≤ 2 ^ 20) (h2 : c.Xs.length ≤ 2 ^ 20) (h3 : c.Sigs.length ≤ 2 ^ 20) :
    DCalls Tryz.prog n_ref10_Shape [cfA c0 c1 c2 c3 c4 c, iA oc] σ fun r s => s = σ ∧ ∃ a0 a1 a2 a3, r = .a (.agg [a0, a1, a2, a3]) ∧ ShFz a0 a1 a2 a3 (c.shape oc) := by
  have key : DCalls Tryz.prog n_ref10_Shape [cfA c0 c1 c2 c3 c4 c, iA oc] σ fun r s => ∃ a0 a1 a2 a3, r = .a (.agg [a0, a1, a2, a3]) ∧ OwnAll σ s [a0, a1, a2, a3] [(c.shape oc).Secs, (c.shape oc).Pts, (c.shape oc).Xs, (c.shape oc).Sgs] := by
    obtain ⟨l1, l2, l3⟩ := sh_len c oc
    refine W_ref10_Shape c0 c1 c2 c3 c4 c.Age c.Brake c.Hold c.Budget oc σ _ ?_
    refine (hc σ).secs.lenK ⟨fun d1 d2 d3 d4 n s => ∃ j : Nat, n = j ∧ j ≤ c.Secs.length ∧ OwnAll σ s [d1, d2, d3, d4] [shSecs oc (c.Secs.take j) 0, shPts oc (c.Secs.take j) 0, [], []], fun _ _ _ _ n _ => c.Secs.length - n.toNat, ⟨0, rfl, by omega, OwnAll.nils σ (.refl _) 4⟩, ?_⟩
    rintro d1 d2 d3 d4 _ s ⟨j, rfl, hj, ho⟩
    rw [List.length_map]
    refine bcd (fun hlt => ?_) (fun hge => ?_)
    · have hlt : j < c.Secs.length := by omega
      obtain ⟨x, hx⟩ := get_of_lt (l := c.Secs) (j := j) hlt
      have ht : c.Secs.take (j + 1) = c.Secs.take j ++ [x] := by rw [List.take_add_one, hx, Option.toList_some]
      have hlen : (c.Secs.take j).length = j := by rw [List.length_take]; omega
      have q1 := (l1 (c.Secs.take j) 0).1
      have q2 := (l1 (c.Secs.take j) 0).2
      have hdec := dec_lt hlt
      refine (hc s).secs.load (map_get hx) c_Section rfl ⟨x.Kind, x.OC, x.Line, rfl, ?_⟩
      rw [w64_succ (by omega)]
      refine bcn (fun hoc => ⟨by trivial, ⟨j + 1, rfl, hlt, ?_⟩, hdec⟩) (fun hoc => newObj_intro fun id2 s4 _ _ he4 hs4 => (ho.ext' he4).append (k := 0) (l := shSecs oc (c.Secs.take j) 0) (ns := [(j : Int)]) rfl rfl (At.fresh hs4 (by simp) rfl) (by simp; omega) fun d5 s5 ho5 _ => bce (fun hk => ?_) (fun hk => ⟨by trivial, ⟨j + 1, rfl, hlt, ?_⟩, hdec⟩))
      · rw [ht, shSecs_snoc, shPts_snoc, if_neg hoc, if_neg (fun h => hoc h.1), List.append_nil, List.append_nil]; exact ho
      · refine newObj_intro fun id3 s6 _ _ he6 hs6 => (ho5.ext' he6).append (k := 1) (l := shPts oc (c.Secs.take j) 0) (ns := [(j : Int)]) rfl rfl (At.fresh hs6 (by simp) rfl) (by simp; omega) fun d6 s7 ho7 _ => ⟨by trivial, ⟨j + 1, rfl, hlt, ?_⟩, hdec⟩
        rw [ht, shSecs_snoc, shPts_snoc, if_pos hoc, if_pos ⟨hoc, hk⟩, hlen, Int.zero_add]; exact ho7
      · rw [ht, shSecs_snoc, shPts_snoc, if_pos hoc, if_neg (fun h => hk h.2), hlen, Int.zero_add, List.append_nil]; exact ho5
    have e : j = c.Secs.length := by omega
    subst e
    rw [List.take_length] at ho
    refine (hc s).xs.lenK ⟨fun d1 d2 d3 d4 n s => ∃ j : Nat, n = j ∧ j ≤ c.Xs.length ∧ OwnAll σ s [d1, d2, d3, d4] [shSecs oc c.Secs 0, shPts oc c.Secs 0, shXs c oc (c.Xs.take j) 0, []], fun _ _ _ _ n _ => c.Xs.length - n.toNat, ⟨0, rfl, by omega, ho⟩, ?_⟩
    clear ho d1 d2 d3 d4 s
    rintro d1 d2 d3 d4 _ s ⟨j, rfl, hj, ho⟩
    rw [List.length_map]
    refine bcd (fun hlt => ?_) (fun hge => ?_)
    · have hlt : j < c.Xs.length := by omega
      obtain ⟨x, hx⟩ := get_of_lt (l := c.Xs) (j := j) hlt
      have ht : c.Xs.take (j + 1) = c.Xs.take j ++ [x] := by rw [List.take_add_one, hx, Option.toList_some]
      have hlen : (c.Xs.take j).length = j := by rw [List.length_take]; omega
      have q1 := l2 (c.Xs.take j) 0
      have hdec := dec_lt hlt
      refine (hc s).xs.load (map_get hx) c_int rfl ⟨x, rfl, (ref10_of_ok hc x oc).use ⟨_, rfl, ?_⟩⟩
      rw [w64_succ (by omega)]
      refine bc (fun hoc => newObj_intro fun id2 s4 _ _ he4 hs4 => (ho.ext' he4).append (k := 2) (l := shXs c oc (c.Xs.take j) 0) (ns := [(j : Int)]) rfl rfl (At.fresh hs4 (by simp) rfl) (by simp; omega) fun d5 s5 ho5 _ => ⟨by trivial, ⟨j + 1, rfl, hlt, ?_⟩, hdec⟩) (fun hoc => ⟨by trivial, ⟨j + 1, rfl, hlt, ?_⟩, hdec⟩)
      · rw [ht, shXs_snoc, if_pos hoc, hlen, Int.zero_add]; exact ho5
      · rw [ht, shXs_snoc, if_neg (by rw [hoc]; simp), List.append_nil]; exact ho
    have e : j = c.Xs.length := by omega
    subst e
    rw [List.take_length] at ho
    refine (hc s).sigs.lenK ⟨fun d1 d2 d3 d4 n s => ∃ j : Nat, n = j ∧ j ≤ c.Sigs.length ∧ OwnAll σ s [d1, d2, d3, d4] [shSecs oc c.Secs 0, shPts oc c.Secs 0, shXs c oc c.Xs 0, shSgs c oc (c.Sigs.take j) 0], fun _ _ _ _ n _ => c.Sigs.length - n.toNat, ⟨0, rfl, by omega, ho⟩, ?_⟩
    clear ho d1 d2 d3 d4 s
    rintro d1 d2 d3 d4 _ s ⟨j, rfl, hj, ho⟩
    rw [List.length_map]
    refine bcd (fun hlt => ?_) (fun hge => ?_)
    · have hlt : j < c.Sigs.length := by omega
      obtain ⟨x, hx⟩ := get_of_lt (l := c.Sigs) (j := j) hlt
      have ht : c.Sigs.take (j + 1) = c.Sigs.take j ++ [x] := by rw [List.take_add_one, hx, Option.toList_some]
      have hlen : (c.Sigs.take j).length = j := by rw [List.length_take]; omega
      have q1 := l3 (c.Sigs.take j) 0
      have hdec := dec_lt hlt
      refine (hc s).sigs.load (map_get hx) c_Signal rfl ⟨x.Sec, x.End_, rfl, (ref10_of_ok hc x.Sec oc).use ⟨_, rfl, ?_⟩⟩
      rw [w64_succ (by omega)]
      refine bc (fun hoc => newObj_intro fun id2 s4 _ _ he4 hs4 => (ho.ext' he4).append (k := 3) (l := shSgs c oc (c.Sigs.take j) 0) (ns := [(j : Int)]) rfl rfl (At.fresh hs4 (by simp) rfl) (by simp; omega) fun d5 s5 ho5 _ => ⟨by trivial, ⟨j + 1, rfl, hlt, ?_⟩, hdec⟩) (fun hoc => ⟨by trivial, ⟨j + 1, rfl, hlt, ?_⟩, hdec⟩)
      · rw [ht, shSgs_snoc, if_pos hoc, hlen, Int.zero_add]; exact ho5
      · rw [ht, shSgs_snoc, if_neg (by rw [hoc]; simp), List.append_nil]; exact ho
    have e : j = c.Sigs.length := by omega
    subst e
    rw [List.take_length] at ho
    exact ⟨d1, d2, d3, d4, rfl, ho⟩
  refine key.ret ?_
  rintro r s ⟨a0, a1, a2, a3, rfl, ho⟩
  have o0 := ho.own 0 _ _ rfl rfl
  have o1 := ho.own 1 _ _ rfl rfl
  have o2 := ho.own 2 _ _ rfl rfl
  have o3 := ho.own 3 _ _ rfl rfl
  obtain ⟨b0, f0, g0⟩ := ret_slice o0.at_ ho.ext o0.new (flatI _)
  obtain ⟨b1, f1, g1⟩ := ret_slice o1.at_ ho.ext o1.new (flatI _)
  obtain ⟨b2, f2, g2⟩ := ret_slice o2.at_ ho.ext o2.new (flatI _)
  obtain ⟨b3, f3, g3⟩ := ret_slice o3.at_ ho.ext o3.new (flatI _)
  exact ⟨.a (.agg [b0, b1, b2, b3]), σ, .pure ho.ext (.cons f0 (.cons f1 (.cons f2 (.cons f3 .nil)))), rfl, b0, b1, b2, b3, rfl, ⟨g0, g1, g2, g3⟩⟩
end
theorem ref10_right_ok {d : D} {l : List Int} (h : At Tryz.prog σ t_int d (l.map Go.Fw.encI)) {n most : Int} (hn : n = l.length) (hr : ∀ x ∈ l, 0 ≤ x ∧ x ≤ most) : Pure Tryz.prog n_ref10_right [.one d, iA n, iA most] σ (.a (bA true)) := by
  have hl := h.size
  rw [List.length_map] at hl
  refine W_ref10_right d n most σ _ (h.lenK ⟨fun m s => s = σ ∧ ∃ j : Nat, m = j ∧ j ≤ l.length, fun m _ => l.length - m.toNat, ⟨rfl, 0, rfl, by omega⟩, ?_⟩)
  rintro _ s ⟨rfl, j, rfl, hj⟩
  rw [List.length_map]
  refine bcd (fun hlt => ?_) (fun hge => h.lenK ?_)
  · obtain ⟨x, hx⟩ := get_of_lt (l := l) (j := j) (by omega)
    have := hr x (List.mem_of_getElem? hx)
    refine h.load (map_get hx) c_int rfl ⟨x, rfl, bcd (fun e => absurd e (by omega)) (fun _ => bcd (fun e => absurd e (by omega)) (fun _ => ?_))⟩
    rw [w64_succ (by omega)]
    exact ⟨⟨rfl, j + 1, rfl, by omega⟩, dec_lt (by omega)⟩
  · rw [List.length_map, hn, beq_self_eq_true]; exact ⟨rfl, rfl⟩
def bsL (ls : List (List Int)) : List UInt8 := (2 :: ls.flatten).map fun x => byteAt x 0
theorem encB (n : Int) : encU (byteAt n 0) = [.int .u8 (IntKind.wrap .u8 n)] := by
  rw [byteAt_enc, show (2 : Int) ^ 0 = 1 from rfl, Int.fdiv_one]
theorem ref10_bytes_ok {d : D} {ds : List D} {ls : List (List Int)} (h : At Tryz.prog σ t_sl_int d (ds.map fun x => [x])) (hdl : ds.length = ls.length) (hd : ∀ (k : Nat) d l, ds[k]? = some d → ls[k]? = some l → At Tryz.prog σ t_int d (l.map Go.Fw.encI))
    (hb : ls.flatten.length ≤ 2 ^ 20) : DCalls Tryz.prog n_ref10_bytes [iA 2, .one d] σ fun r s => Ext σ s ∧ r = .a (.one (.str (ofL (bsL ls)))) := by
  have hsz := h.size
  rw [List.length_map] at hsz
  have hsub : ∀ (j m : Nat) (l : List Int), ls[j]? = some l → ((ls.take j).flatten ++ l.take m).length ≤ 2 ^ 20 := fun j m l hl => by
    have e : ls = ls.take j ++ l :: ls.drop (j + 1) := by rw [← drop_get hl, List.take_append_drop]
    have := congrArg (fun x : List (List Int) => x.flatten.length) e
    simp only [List.flatten_append, List.length_append, List.flatten_cons] at this
    have h1 : (l.take m).length ≤ l.length := by rw [List.length_take]; omega
    rw [List.length_append]; omega
  refine W_ref10_bytes 2 d σ _ (newObj_intro fun id s1 hid _ he1 hs1 => ?_)
  have o0 : Own Tryz.prog σ s1 t_uint8 (.osl id 0 1) ((bsL (ls.take 0)).map encU) := by
    have e : (bsL (ls.take 0)).map encU = [[.int .u8 (IntKind.wrap .u8 2)]] := by simp [bsL, encB]
    rw [e]; exact .at_new hid he1 hs1 (by simp) rfl
  refine h.lenK ⟨fun d1 n s => ∃ j : Nat, n = j ∧ j ≤ ds.length ∧ Own Tryz.prog σ s t_uint8 d1 ((bsL (ls.take j)).map encU), fun _ n _ => ds.length - n.toNat, ⟨0, rfl, by omega, o0⟩, ?_⟩
  rintro d1 _ s ⟨j, rfl, hj, ho⟩
  rw [List.length_map]
  refine bcd (fun hlt => ?_) (fun hge => ?_)
  · have hlt : j < ds.length := by omega
    obtain ⟨e, he⟩ := get_of_lt (l := ds) (j := j) hlt
    obtain ⟨l, hl⟩ := get_of_lt (l := ls) (j := j) (by omega)
    have hdec := dec_lt hlt
    have hae := fun {s : Store} (hs : Ext σ s) => (hd j e l he hl).ext hs
    have hll := (hd j e l he hl).size
    rw [List.length_map] at hll
    refine (h.ext ho.ext).load (j := j) (show (ds.map fun x => [x])[j]? = some [e] by rw [List.getElem?_map, he]; rfl) c_sl_int rfl ⟨e, rfl, (hae ho.ext).lenK ⟨fun d2 n s => ∃ m : Nat, n = m ∧ m ≤ l.length ∧ Own Tryz.prog σ s t_uint8 d2 (((2 :: ((ls.take j).flatten ++ l.take m)).map fun x => byteAt x 0).map encU), fun _ n _ => l.length - n.toNat, ⟨0, rfl, by omega, by
      have e : (2 :: ((ls.take j).flatten ++ l.take 0)).map (fun x => byteAt x 0) = bsL (ls.take j) := by rw [List.take_zero, List.append_nil]; rfl
      rw [e]; exact ho⟩, ?_⟩⟩
    clear ho
    rintro d2 _ s2 ⟨m, rfl, hm, ho⟩
    rw [List.length_map]
    refine bcd (fun hlt2 => ?_) (fun hge => ?_)
    · have hlt2 : m < l.length := by omega
      obtain ⟨x, hx⟩ := get_of_lt (l := l) (j := m) hlt2
      have hdec2 := dec_lt hlt2
      have hb1 := hsub j m l hl
      refine (hae ho.ext).load (map_get hx) c_int rfl ⟨x, rfl, newObj_intro fun id1 s3 _ _ he3 hs3 => ?_⟩
      refine (ho.ext' he3).append (At.fresh hs3 (by simp) rfl) (by simp only [List.length_map, List.length_cons, List.length_nil]; omega) (by simp only [List.length_map, List.length_cons, List.length_nil]; omega) fun d3 s4 ho4 _ _ => ?_
      rw [w64_succ (by omega)]
      refine ⟨⟨m + 1, rfl, hlt2, ?_⟩, hdec2⟩
      have e : (2 :: ((ls.take j).flatten ++ l.take (m + 1))).map (fun x => byteAt x 0) = (2 :: ((ls.take j).flatten ++ l.take m)).map (fun x => byteAt x 0) ++ [byteAt x 0] := by
        rw [List.take_add_one, hx, Option.toList_some, ← List.append_assoc, ← List.cons_append, List.map_append]; rfl
      have e2 : [byteAt x 0].map encU = [[D.int .u8 (IntKind.wrap .u8 x)]] := by simp [encB]
      rw [e, List.map_append, e2]
      exact ho4
    · have e : m = l.length := by omega
      subst e
      rw [w64_succ (by omega)]
      refine ⟨⟨j + 1, rfl, hlt, ?_⟩, hdec⟩
      have e : (2 :: ((ls.take j).flatten ++ l.take l.length)).map (fun x => byteAt x 0) = bsL (ls.take (j + 1)) := by
        unfold bsL
        rw [List.take_length, List.take_add_one, hl, Option.toList_some, List.flatten_append]; simp
      rw [e] at ho
      exact ho
  · have e : j = ls.length := by omega
    rw [e, List.take_length] at ho
    refine ⟨ofL (bsL ls), ?_, ho.ext, rfl⟩
    rw [bytesD_ofL]; exact ho.at_.rows
theorem ref10_Orders_ok {h0 h1 h2 h3 d0 d1 d2 : D} {h : Shp} {o : Od} (hs : ShFz h0 h1 h2 h3 h) (a0 : At Tryz.prog σ t_int d0 (o.Pos.map Go.Fw.encI)) (a1 : At Tryz.prog σ t_int d1 (o.Asp.map Go.Fw.encI)) (a2 : At Tryz.prog σ t_int d2 (o.Shut.map Go.Fw.encI)) (hr : o.right h = true)
    (hb : o.Pos.length + o.Asp.length + o.Shut.length ≤ 2 ^ 20) : DCalls Tryz.prog n_ref10_Orders [.agg [h0, h1, h2, h3], .agg [d0, d1, d2]] σ fun r s => Ext σ s ∧ r = .tup [.one (.str (ofL o.bytes)), iA 0] := by
  unfold Od.right at hr
  simp only [Bool.and_eq_true, decide_eq_true_eq, List.all_eq_true] at hr
  obtain ⟨⟨⟨⟨l1, l2, l3⟩, r1⟩, r2⟩, r3⟩ := hr
  refine W_ref10_Orders h0 h1 h2 h3 d0 d1 d2 σ _ ((hs.pts σ).lenK ?_)
  rw [List.length_map]
  refine (ref10_right_ok a0 (by rw [l1]) r1).use ⟨true, rfl, bcnot (fun e => by cases e) (fun _ => (hs.sgs σ).lenK ?_)⟩
  rw [List.length_map]
  refine (ref10_right_ok a1 (by rw [l2]) r2).use ⟨true, rfl, bcnot (fun e => by cases e) (fun _ => (hs.xs σ).lenK ?_)⟩
  rw [List.length_map]
  refine (ref10_right_ok a2 (by rw [l3]) r3).use ⟨true, rfl, bcnot (fun e => by cases e) (fun _ => newObj_intro fun id s1 hid _ he1 hs1 => ?_)⟩
  refine (ref10_bytes_ok (ds := [d0, d1, d2]) (ls := [o.Pos, o.Asp, o.Shut]) (At.fresh hs1 (by simp) rfl) rfl (fun k d l a b => ?_) (by simp; omega)).mono ?_
  · rcases k with _ | _ | _ | k
    · simp at a b; subst a b; exact a0.ext he1
    · simp at a b; subst a b; exact a1.ext he1
    · simp at a b; subst a b; exact a2.ext he1
    · simp at a
  · rintro r s ⟨he, rfl⟩
    refine ⟨_, rfl, he1.trans he, ?_⟩
    have e : bsL [o.Pos, o.Asp, o.Shut] = o.bytes := by simp [bsL, Od.bytes]
    rw [e]
end Go.Proofs.YtaklhjodjbgmgaaGreat
end
section
set_option linter.unusedVariables false
set_option linter.unusedSimpArgs false
namespace Go.Fw
theorem byteAt_id {x : Int} (h : 0 ≤ x ∧ x < 256) : ((byteAt x 0).toNat : Int) = x := by
  obtain ⟨n, rfl⟩ := Int.eq_ofNat_of_zero_le h.1
  unfold byteAt
  have e : ((n : Int).fdiv (2 ^ 0)) % 256 = n := by
    rw [show (2 : Int) ^ 0 = 1 from rfl, Int.fdiv_one]; omega
  rw [e, Int.toNat_natCast, UInt8.toNat_ofNat', Nat.mod_eq_of_lt (by show n < 256; omega)]
theorem bytesI_map {l : List Int} (h : ∀ x ∈ l, 0 ≤ x ∧ x < 256) : bytesI (l.map fun x => byteAt x 0) = l := by
  unfold bytesI
  rw [List.map_map]
  refine (List.map_congr_left fun x hx => ?_).trans (List.map_id _)
  exact byteAt_id (h x hx)
theorem readO_bytes {h : Shp} {o : Od} (hr : o.right h = true) : readO h o.bytes = some o := by
  have hr' := hr
  unfold Od.right at hr
  simp only [Bool.and_eq_true, decide_eq_true_eq, List.all_eq_true] at hr
  obtain ⟨⟨⟨⟨l1, l2, l3⟩, r1⟩, r2⟩, r3⟩ := hr
  have hof : Od.of h o.bytes = o := by
    unfold Od.of Od.bytes
    have e : (2 :: (o.Pos ++ o.Asp ++ o.Shut)).map (fun x => byteAt x 0) = byteAt 2 0 :: (o.Pos.map (fun x => byteAt x 0) ++ (o.Asp.map (fun x => byteAt x 0) ++ o.Shut.map (fun x => byteAt x 0))) := by simp
    rw [e]
    have m1 : (o.Pos.map fun x => byteAt x 0).length = h.Pts.length := by rw [List.length_map, l1]
    have m2 : (o.Asp.map fun x => byteAt x 0).length = h.Sgs.length := by rw [List.length_map, l2]
    have m3 : (o.Shut.map fun x => byteAt x 0).length = h.Xs.length := by rw [List.length_map, l3]
    have d1 : ∀ n (a : UInt8) (l : List UInt8), (a :: l).drop (1 + n) = l.drop n := fun n a l => by rw [Nat.add_comm, List.drop_succ_cons]
    have b1 : bytesI (o.Pos.map fun x => byteAt x 0) = o.Pos := bytesI_map fun x hx => by have := r1 x hx; omega
    have b2 : bytesI (o.Asp.map fun x => byteAt x 0) = o.Asp := bytesI_map fun x hx => by have := r2 x hx; omega
    have b3 : bytesI (o.Shut.map fun x => byteAt x 0) = o.Shut := bytesI_map fun x hx => by have := r3 x hx; omega
    rw [Nat.add_assoc, d1, d1, List.drop_succ_cons, List.drop_zero, List.take_left' m1, List.drop_left' m1, List.take_left' m2, ← List.drop_drop, List.drop_left' m1, List.drop_left' m2, List.take_of_length_le (by rw [m3]; exact Nat.le_refl _), b1, b2, b3]
  unfold readO
  rw [hof, if_pos]
  refine ⟨by simp [Od.bytes]; rfl, ?_, hr'⟩
  simp [Od.bytes]; omega
theorem aspL_keep {v : Int} : ∀ (is : List Int) (n : Nat) (l : List Lp) (j : Nat), ((l[j]?).map Lp.Asp) = some v → (((aspL is (List.replicate n v) l)[j]?).map Lp.Asp) = some v
  | [], n, l, j, h => by rw [aspL_nil]; exact h
  | i :: is, 0, l, j, h => h
  | i :: is, n + 1, l, j, h => by
    rw [List.replicate_succ, aspL_cons]
    refine aspL_keep is n _ j ?_
    rw [List.getElem?_modify]
    cases hx : l[j]? with
    | none => rw [hx] at h; cases h
    | some x =>
      rw [hx] at h
      have h : some x.Asp = some v := h
      injection h with h
      show some (if i.toNat = j then ({ x with Asp := v } : Lp) else x).Asp = some v
      split
      · rfl
      · rw [h]
theorem aspL_get {v : Int} : ∀ (is : List Int) (l : List Lp) (j : Nat), (j : Int) ∈ is → j < l.length → (((aspL is (List.replicate is.length v) l)[j]?).map Lp.Asp) = some v
  | i :: is, l, j, h, hj => by
    rw [List.length_cons, List.replicate_succ, aspL_cons]
    by_cases hi : i = j
    · subst hi
      refine aspL_keep is _ _ j ?_
      obtain ⟨x, hx⟩ := get_of_lt (l := l) (j := j) hj
      rw [List.getElem?_modify, hx, Int.toNat_natCast]
      show some (if j = j then ({ x with Asp := v } : Lp) else x).Asp = some v
      rw [if_pos rfl]
    · refine aspL_get is _ j ?_ (by simpa using hj)
      rcases List.mem_cons.1 h with h | h
      · exact absurd h.symm hi
      · exact h
theorem shSgs_mem (c : Cf) (oc : Int) : ∀ (l : List Sg) (i : Int) (j : Nat) (g : Sg), l[j]? = some g → c.mine oc g.Sec = true → (i + j) ∈ shSgs c oc l i
  | x :: r, i, 0, g, h, hm => by
    simp at h; subst h
    rw [shSgs, if_pos hm]; simp
  | x :: r, i, j + 1, g, h, hm => by
    have := shSgs_mem c oc r (i + 1) j g (by simpa using h) hm
    rw [show i + ((j + 1 : Nat) : Int) = i + 1 + j by omega, shSgs]
    split
    · exact List.mem_cons_of_mem _ this
    · exact this
def mainO (h : Shp) : Od := ⟨List.replicate h.Pts.length 0, List.replicate h.Sgs.length 2, List.replicate h.Xs.length 0⟩
theorem mainO_right (h : Shp) : (mainO h).right h = true := by
  unfold Od.right mainO
  simp only [List.length_replicate, Bool.and_eq_true, decide_eq_true_eq, List.all_eq_true, and_self, true_and]
  refine ⟨⟨fun x hx => ?_, fun x hx => ?_⟩, fun x hx => ?_⟩ <;> (rw [List.eq_of_mem_replicate hx]; decide)
theorem check_age {c : Cf} (h : c.check = 0) : 0 ≤ c.Age := by
  obtain ⟨_, _, _, _, _, h6⟩ := check_parts h
  unfold Cf.timing at h6
  simp only [Bool.and_eq_true, decide_eq_true_eq] at h6
  omega
theorem srun_ocP {tk : List (Int × Int)} : ∀ (l : List Sec) (i : Int) (ls : List Int), srun tk l i ls = true → ∀ s ∈ l, 0 ≤ s.OC ∧ s.OC ≤ 3
  | [], _, _, _, s, hs => by cases hs
  | x :: r, i, ls, h, s, hs => by
    unfold srun at h
    split at h
    · cases h
    · rename_i hc
      rcases List.mem_cons.1 hs with rfl | hs
      · exact Classical.byContradiction fun hn => hc (.inr (.inl hn))
      · exact srun_ocP r _ _ h s hs
theorem sec_ocP {c : Cf} (h : c.check = 0) {s : Sec} (hs : s ∈ c.Secs) : 0 ≤ s.OC ∧ s.OC ≤ 3 := by
  have h1 := (check_parts h).1
  unfold topoOk at h1
  simp only [Bool.and_eq_true] at h1
  have h2 := h1.2
  split at h2
  · cases h2
  · exact srun_ocP _ _ _ h2 s hs
theorem ages {c : Cf} (hc : c.check = 0) {oc : Nat} (ho : oc < 4) {t : List UInt8} (hs : saidL t = ⟨(oc : Int) + 50, 1, 7, (mainO (c.shape oc)).bytes, 0⟩) {late : Int} (hl : 0 ≤ late) :
    ((((Yd.fresh c []).tick 7).take oc t).2 = 0) ∧ ∀ (i : Nat) g s, c.Sigs[i]? = some g → geti c.Secs g.Sec = some s →
      ((((((Yd.fresh c []).tick 7).take oc t).1).look).tick (7 + late)).shows i = if s.OC = oc then (if late > c.Age then 0 else 2) else 0 := by
  have hage := check_age hc
  have hp : geti ((Yd.fresh c []).tick 7).Psts (oc : Int) = some ⟨⟨-1, (oc : Int) + 50, c.Age⟩, c.shape oc, -1⟩ := by
    rw [geti_nat]
    match oc, ho with
    | 0, _ => rfl
    | 1, _ => rfl
    | 2, _ => rfl
    | 3, _ => rfl
  have hr : (⟨-1, (oc : Int) + 50, c.Age⟩ : Rc).takeS 7 ⟨(oc : Int) + 50, 1, 7, (mainO (c.shape oc)).bytes, 0⟩ = (⟨7, (oc : Int) + 50, c.Age⟩, (mainO (c.shape oc)).bytes, 0) := by
    unfold Rc.takeS
    simp only [ne_eq, not_true_eq_false, if_false]
    rw [if_neg (by omega), if_neg (by omega), if_neg (by omega)]
  have hT : ((Yd.fresh c []).tick 7).take oc t = ({ (Yd.fresh c []).tick 7 with Psts := ((Yd.fresh c []).tick 7).Psts.set oc ⟨⟨7, (oc : Int) + 50, c.Age⟩, c.shape oc, 7⟩, Pts := orderP (c.shape oc).Pts (mainO (c.shape oc)).Pos ((Yd.fresh c []).tick 7).Pts, Gts := orderL (c.shape oc).Xs (mainO (c.shape oc)).Shut ((Yd.fresh c []).tick 7).Gts, Lps := aspL (c.shape oc).Sgs (mainO (c.shape oc)).Asp ((Yd.fresh c []).tick 7).Lps }, 0) := by
    rw [Yd.take_said, hs]
    unfold Yd.takeS
    rw [hp]
    have hn : ((Yd.fresh c []).tick 7).Now = 7 := rfl
    simp only [hn, hr, ne_eq, not_true_eq_false, if_false, readO_bytes (mainO_right (c.shape oc)), Int.toNat_natCast]
  rw [hT]
  refine ⟨rfl, fun i g s hg hsec => ?_⟩
  have hP0 : ((Yd.fresh c []).tick 7).Psts = [0, 1, 2, 3].map fun k : Int => (⟨⟨-1, k + 50, c.Age⟩, c.shape k, -1⟩ : Pst) := rfl
  have hL0 : ((Yd.fresh c []).tick 7).Lps = List.replicate c.Sigs.length ⟨0, -1⟩ := rfl
  generalize hy2 : ({ (Yd.fresh c []).tick 7 with Psts := ((Yd.fresh c []).tick 7).Psts.set oc ⟨⟨7, (oc : Int) + 50, c.Age⟩, c.shape oc, 7⟩, Pts := orderP (c.shape oc).Pts (mainO (c.shape oc)).Pos ((Yd.fresh c []).tick 7).Pts, Gts := orderL (c.shape oc).Xs (mainO (c.shape oc)).Shut ((Yd.fresh c []).tick 7).Gts, Lps := aspL (c.shape oc).Sgs (mainO (c.shape oc)).Asp ((Yd.fresh c []).tick 7).Lps } : Yd) = y2
  have eC : y2.C = c := by rw [← hy2]; rfl
  have eN : y2.Now = 7 := by rw [← hy2]; rfl
  have eP : y2.Psts = ([0, 1, 2, 3].map fun k : Int => (⟨⟨-1, k + 50, c.Age⟩, c.shape k, -1⟩ : Pst)).set oc ⟨⟨7, (oc : Int) + 50, c.Age⟩, c.shape oc, 7⟩ := by rw [← hy2, ← hP0]
  have eL : y2.Lps = aspL (c.shape oc).Sgs (List.replicate (c.shape oc).Sgs.length 2) (List.replicate c.Sigs.length ⟨0, -1⟩) := by rw [← hy2, ← hL0]; rfl
  clear hy2 hT hr hp
  have hil := (List.getElem?_eq_some_iff.1 hg).1
  -- the time
  have q : ∀ y : Yd, y.Now = 7 → (y.tick (7 + late)).C = y.C ∧ (y.tick (7 + late)).Now = 7 + late ∧ (y.tick (7 + late)).Psts = y.Psts ∧ (y.tick (7 + late)).Lps = y.Lps := fun y hy => by
    unfold Yd.tick
    split
    · exact ⟨rfl, by omega, rfl, rfl⟩
    · exact ⟨rfl, rfl, rfl, rfl⟩
  obtain ⟨t1, t2, t3, t4⟩ := q y2.look eN
  have hlen : (aspL (c.shape oc).Sgs (List.replicate (c.shape oc).Sgs.length 2) (List.replicate c.Sigs.length (⟨0, -1⟩ : Lp))).length = c.Sigs.length := by
    rw [(aspL_all (p := fun _ => True) (fun _ _ _ => trivial) _ _ _ (fun _ _ => trivial)).2, List.length_replicate]
  obtain ⟨x, hx⟩ := get_of_lt (l := y2.Lps) (j := i) (by rw [eL, hlen]; exact hil)
  have hlk : ∃ z, (y2.look.tick (7 + late)).Lps[i]? = some z ∧ z.Asp = x.Asp := by
    rw [t4]
    show ∃ z, (lookL y2.shows y2.Now y2.Lps 0)[i]? = some z ∧ z.Asp = x.Asp
    have lg : ∀ (l : List Lp) (k : Int) (j : Nat), (lookL y2.shows y2.Now l k)[j]? = (l[j]?).map fun x => if y2.shows (k + j) ≠ 0 then { x with Last := y2.Now } else x := by
      intro l
      induction l with
      | nil => intro k j; rfl
      | cons a r ih =>
        intro k j
        cases j with
        | zero => simp [lookL]
        | succ j => rw [lookL, List.getElem?_cons_succ, List.getElem?_cons_succ, ih, show k + 1 + (j : Int) = k + ((j + 1 : Nat) : Int) by omega]
    rw [lg, hx]
    refine ⟨_, rfl, ?_⟩
    split <;> rfl
  obtain ⟨z, hz, hza⟩ := hlk
  have hsoc := sec_ocP hc (List.mem_of_getElem? (geti_some hsec).2.2)
  obtain ⟨k, hk⟩ := Int.eq_ofNat_of_zero_le hsoc.1
  have hshow : ∀ p, (y2.Psts)[k]? = some p → (y2.look.tick (7 + late)).shows i = if p.Stamp < 0 ∨ 7 + late - p.Stamp > c.Age then 0 else x.Asp := fun p hp => by
    unfold Yd.shows
    have e1 : y2.look.C = c := eC
    have e3 : y2.look.Psts = y2.Psts := rfl
    rw [geti_nat, hz, geti_nat, t1, e1, hg]
    simp only [hsec, hk, geti_nat, t3, e3, hp, t2, hza]
  by_cases hkoc : k = oc
  · subst hkoc
    rw [if_pos hk, hshow ⟨⟨7, (k : Int) + 50, c.Age⟩, c.shape k, 7⟩ (by rw [eP]; exact List.getElem?_set_self (by show k < 4; exact ho))]
    have hm : c.mine k g.Sec = true := by
      unfold Cf.mine
      rw [hsec]; exact decide_eq_true hk
    have hin := shSgs_mem c k c.Sigs 0 i g hg hm
    rw [Int.zero_add] at hin
    have ha := aspL_get (v := 2) (c.shape k).Sgs (List.replicate c.Sigs.length ⟨0, -1⟩) i hin (by rw [List.length_replicate]; exact hil)
    rw [← eL, hx] at ha
    have ha : some x.Asp = some 2 := ha
    injection ha with ha
    rw [ha]
    by_cases hla : late > c.Age
    · rw [if_pos (.inr (by show 7 + late - 7 > c.Age; omega)), if_pos hla]
    · rw [if_neg (by show ¬ ((7 : Int) < 0 ∨ 7 + late - 7 > c.Age); omega), if_neg hla]
  · rw [if_neg (by omega)]
    have hk4 : k < 4 := by omega
    rw [hshow ⟨⟨-1, (k : Int) + 50, c.Age⟩, c.shape k, -1⟩ (by
      rw [eP, List.getElem?_set_ne (Ne.symm hkoc)]
      match k, hk4 with
      | 0, _ => rfl
      | 1, _ => rfl
      | 2, _ => rfl
      | 3, _ => rfl), if_pos (.inl (by show (-1 : Int) < 0; decide))]
end Go.Fw
end
section
set_option linter.unusedVariables false
set_option linter.unusedSimpArgs false
namespace Go.Proofs.YtaklhjodjbgmgaaGreat
open Go.Fw Go.Proofs Go.RowKit
variable {σ σ0 : Store}
theorem umod {x : Int} {n : Nat} (hn : 0 < n) (hn2 : n ≤ 100) : ∃ m : Nat, m < n ∧ w64 (Int.tmod (IntKind.wrap .u64 x) n) = m := by
  have h0 : 0 ≤ IntKind.wrap .u64 x := by
    show 0 ≤ x % 18446744073709551616
    omega
  rw [Int.tmod_eq_emod_of_nonneg h0]
  have h3 := Int.emod_nonneg (IntKind.wrap .u64 x) (show (n : Int) ≠ 0 by omega)
  have h4 := Int.emod_lt_of_pos (IntKind.wrap .u64 x) (show (0 : Int) < n by omega)
  obtain ⟨m, hm⟩ := Int.eq_ofNat_of_zero_le h3
  rw [hm] at h4 ⊢
  exact ⟨m, by omega, w64_id (by omega) (by omega)⟩
theorem newYd_nil {c : Cf} (h : (newYd c []).1 = 0) : c.check = 0 ∧ (newYd c []).2 = Yd.fresh c [] := by
  unfold newYd at h ⊢
  split
  · rename_i h1; rw [if_pos h1] at h; exact absurd h h1
  · rename_i h1
    exact ⟨Classical.not_not.1 h1, by simp [trsNew]⟩
theorem law19_YardAges_ok {xs : List A} (h : TyAs Tryz.prog [t_law19_Case, t_int, t_int] xs) : DCalls Tryz.prog n_law19_YardAges xs noS fun r _ => r = .a (bA true) := by
  obtain ⟨a0, xs, rfl, h0, hr0⟩ := tys_cons h
  obtain ⟨a1, xs, rfl, h1, hr1⟩ := tys_cons hr0
  obtain ⟨a2, xs, rfl, h2, hr2⟩ := tys_cons hr1
  obtain rfl := tys_nil hr2
  obtain ⟨cs, _, rfl, p0⟩ := tya_agg h0 (by kernel_rfl)
  obtain ⟨oc0, rfl, _⟩ := tya_int h1 (by kernel_rfl) (by kernel_rfl)
  obtain ⟨late0, rfl, _⟩ := tya_int h2 (by kernel_rfl) (by kernel_rfl)
  obtain ⟨c0, c1, c2, c3, c4, dt, c, l, rfl, hc, ⟨z0, z1, z2, z3⟩, _, _, _, _, _⟩ := ty_Case19 p0
  clear h h0 h1 h2 hr0 hr1 hr2 p0
  obtain ⟨oc, hoc, eoc⟩ := umod (x := oc0) (n := 4) (by omega) (by omega)
  obtain ⟨late, hlate, elate⟩ := umod (x := late0) (n := 20) (by omega) (by omega)
  have eoc : w64 (Int.tmod (IntKind.wrap .u64 oc0) 4) = oc := eoc
  have elate : w64 (Int.tmod (IntKind.wrap .u64 late0) 20) = late := elate
  refine W_law19_YardAges c0 c1 c2 c3 c4 c.Age c.Brake c.Hold c.Budget dt oc0 late0 noS _ (lives19.mono ?_)
  rintro r s0 rfl
  rw [eoc, elate]
  have ht0 : ∀ s, TrsAt s .nils ([] : List Tr) := fun s => ⟨[], .nil, rfl, fun k row t h => by simp at h⟩
  refine ⟨true, rfl, bcnot (fun e => by cases e) (fun _ => (yard_New_ok (l := []) (fr := []) hc z0 z1 z2 z3 ht0 (.nil _)).mono ?_)⟩
  rintro r s2 (⟨hne, rfl⟩ | ⟨he, id, L0, rfl, hY0⟩)
  · exact ⟨.nilp, _, rfl, bcn (fun _ => ⟨true, rfl, rfl⟩) (fun e => absurd e hne)⟩
  obtain ⟨hW0, _, _⟩ := newYd_wf he
  obtain ⟨hchk, hy0⟩ := newYd_nil he
  rw [hy0] at hY0 hW0
  have hcl := topo_len hchk
  refine ⟨_, _, rfl, bcn (fun e => absurd rfl e) (fun _ => (ref10_Shape_ok hc oc (by omega) (by omega) (by omega)).mono ?_)⟩
  rintro r s3 ⟨rfl, h0, h1, h2, h3, rfl, hS⟩
  obtain ⟨l1, l2, l3⟩ := sh_len c oc
  have k1 : (c.shape oc).Pts.length ≤ c.Secs.length := (l1 c.Secs 0).2
  have k2 : (c.shape oc).Xs.length ≤ c.Xs.length := l2 c.Xs 0
  have k3 : (c.shape oc).Sgs.length ≤ c.Sigs.length := l3 c.Sigs 0
  refine ⟨h0, h1, h2, h3, rfl, (hS.sgs s3).lenK ?_⟩
  rw [List.length_map]
  refine bce (fun _ => rfl) (fun _ => (hS.pts s3).lenK ((hS.sgs s3).lenK ((hS.xs s3).lenK ?_)))
  rw [List.length_map, List.length_map, List.length_map]
  refine ⟨by omega, by omega, by omega, newObj_intro fun i0 s4 hi0 _ he4 hs4 => ⟨by omega, by omega, by omega, newObj_intro fun i1 s5 hi1 _ he5 hs5 => ⟨by omega, by omega, by omega, newObj_intro fun i2 s6 hi2 _ he6 hs6 => ?_⟩⟩⟩
  simp only [Int.toNat_natCast] at hs4 hs5 hs6 ⊢
  have hY6 := ((hY0.ext he4).ext he5).ext he6
  have hs5' : s6 i1 = .live t_int ((List.replicate (c.shape oc).Sgs.length 0).map Go.Fw.encI) := by
    rw [live_ext hs5 he6, List.map_replicate]; rfl
  have hs4' : s6 i0 = .live t_int ((List.replicate (c.shape oc).Pts.length 0).map Go.Fw.encI) := by
    rw [live_ext (live_ext hs4 he5) he6, List.map_replicate]; rfl
  have hs6' : s6 i2 = .live t_int ((List.replicate (c.shape oc).Xs.length 0).map Go.Fw.encI) := by
    rw [hs6, List.map_replicate]; rfl
  have n01 : i0 ≠ i1 := fun e => by
    have := live_ext hs4 (.refl _)
    rw [e, hi1] at this; cases this
  have n12 : i2 ≠ i1 := fun e => by rw [e] at hi2; rw [hs5] at hi2; cases hi2
  have H : Heap s6 ((i1, .live t_int ((List.replicate (c.shape oc).Sgs.length 0).map Go.Fw.encI)) :: (i2, .live t_int ((List.replicate (c.shape oc).Xs.length 0).map Go.Fw.encI)) :: (i0, .live t_int ((List.replicate (c.shape oc).Pts.length 0).map Go.Fw.encI)) :: ydHeap id L0 (Yd.fresh c []) []) := by
    have g1 := hY0.heap.new (so := .live t_int ((List.replicate (c.shape oc).Pts.length 0).map Go.Fw.encI)) hi0 he4 (by rw [hs4, List.map_replicate]; rfl) (by intro e; cases e)
    have g2 := g1.new (so := .live t_int ((List.replicate (c.shape oc).Sgs.length 0).map Go.Fw.encI)) hi1 he5 (by rw [hs5, List.map_replicate]; rfl) (by intro e; cases e)
    have g3 := g2.new (so := .live t_int ((List.replicate (c.shape oc).Xs.length 0).map Go.Fw.encI)) hi2 he6 hs6' (by intro e; cases e)
    exact g3.perm (.swap _ _ _)
  refine ⟨(c.shape oc).Sgs.length, rfl, fun n s => ∃ j : Nat, n = j ∧ j ≤ (c.shape oc).Sgs.length ∧ Heap s ((i1, .live t_int ((List.replicate j (2 : Int) ++ List.replicate ((c.shape oc).Sgs.length - j) 0).map Go.Fw.encI)) :: (i2, .live t_int ((List.replicate (c.shape oc).Xs.length 0).map Go.Fw.encI)) :: (i0, .live t_int ((List.replicate (c.shape oc).Pts.length 0).map Go.Fw.encI)) :: ydHeap id L0 (Yd.fresh c []) []),
    fun n _ => (c.shape oc).Sgs.length - n.toNat, ⟨0, rfl, by omega, by simpa using H⟩, ?_⟩
  clear H hs4' hs5' hs6' hY6 he4 he5 he6 hs4 hs5 hs6
  rintro _ s7 ⟨j, rfl, hj, H⟩
  have hA1 : At Tryz.prog s7 t_int (.osl i1 0 (c.shape oc).Sgs.length) ((List.replicate j (2 : Int) ++ List.replicate ((c.shape oc).Sgs.length - j) 0).map Go.Fw.encI) := At.fresh (H.get List.mem_cons_self) (by simp; omega) (by simp; omega)
  refine bcd (fun hlt => ?_) (fun hge => ?_)
  · have hlt : j < (c.shape oc).Sgs.length := by omega
    have hrow : ((List.replicate j (2 : Int) ++ List.replicate ((c.shape oc).Sgs.length - j) 0).map Go.Fw.encI)[j]? = some [iD 0] := by
      rw [List.getElem?_map, List.getElem?_append_right (by simp), List.length_replicate, Nat.sub_self, List.getElem?_replicate, if_pos (by omega)]; rfl
    refine hA1.idxK c_int rfl (by simp; omega) ?_
    rw [Int.toNat_natCast]
    refine live_store (row := [iD 0]) (H.get List.mem_cons_self) hlt hrow (by simp) fun s8 h8 o8 => ?_
    rw [w64_succ (by omega)]
    refine ⟨by trivial, ⟨j + 1, rfl, hlt, ?_⟩, dec_lt hlt⟩
    refine H.put0 ?_ (by intro e; cases e) fun k hk _ => o8 k hk
    rw [h8]
    congr 1
    have e : List.replicate ((c.shape oc).Sgs.length - j) (0 : Int) = 0 :: List.replicate ((c.shape oc).Sgs.length - (j + 1)) 0 := by
      rw [show (c.shape oc).Sgs.length - j = ((c.shape oc).Sgs.length - (j + 1)) + 1 by omega, List.replicate_succ]
    rw [e, show patch [iD 0] 0 [D.int IntKind.i64 2] = Go.Fw.encI 2 from rfl, ← map_set', List.set_append_right _ _ (by simp), List.length_replicate, Nat.sub_self, List.set_cons_zero, List.replicate_succ', List.append_assoc]
    rfl
  have e : j = (c.shape oc).Sgs.length := by omega
  subst e
  rw [Nat.sub_self, List.replicate_zero, List.append_nil] at H hA1
  have hA2 : At Tryz.prog s7 t_int (.osl i2 0 (c.shape oc).Xs.length) ((mainO (c.shape oc)).Shut.map Go.Fw.encI) := At.fresh (H.get (List.mem_cons_of_mem _ List.mem_cons_self)) (by simp [mainO]; omega) (by simp [mainO])
  have hA0 : At Tryz.prog s7 t_int (.osl i0 0 (c.shape oc).Pts.length) ((mainO (c.shape oc)).Pos.map Go.Fw.encI) := At.fresh (H.get (List.mem_cons_of_mem _ (List.mem_cons_of_mem _ List.mem_cons_self))) (by simp [mainO]; omega) (by simp [mainO])
  have hY7 : YdIn s7 id L0 (Yd.fresh c []) [] := ⟨H.tail.tail.tail, hY0.cfg, hY0.keys, hY0.flt, hY0.psl, hY0.sh, hY0.tkl, hY0.trn⟩
  have hbl : (mainO (c.shape oc)).bytes.length ≤ 40 := by simp [Od.bytes, mainO]; omega
  refine (ref10_Orders_ok hS hA0 hA1 hA2 (mainO_right _) (by simp [mainO]; omega)).mono ?_
  rintro r s8 ⟨he8, rfl⟩
  have hw1 : w64 ((oc : Int) + 50) = (oc : Int) + 50 := w64_id (by omega) (by omega)
  have hw2 : w64 (7 + (late : Int)) = 7 + late := w64_id (by omega) (by omega)
  rw [hw1, hw2]
  refine ⟨_, _, rfl, Pure.use (ref09_Make_ok (p := (oc : Int) + 50) (n := 1) (s := 7) (by omega) (by omega) (by omega) (by omega)) ⟨_, _, rfl, ((hY7.ext he8).tick hW0 7).mono ?_⟩⟩
  have hsaid := said_make (p := (oc : Int) + 50) (n := 1) (s := 7) (b := (mainO (c.shape oc)).bytes) (by omega) (by omega) (by omega) (by omega)
  have htl : (sealL (headL ((oc : Int) + 50) 1 7 ++ (mainO (c.shape oc)).bytes)).length ≤ 2 ^ 59 := by rw [seal_len, List.length_append, head_len]; omega
  generalize sealL (headL ((oc : Int) + 50) 1 7 ++ (mainO (c.shape oc)).bytes) = t at hsaid htl
  obtain ⟨g1, g2⟩ := ages hchk hoc hsaid (late := late) (by omega)
  rintro r s9 ⟨rfl, hY9⟩
  have hW9 := hW0.tick (now := 7) (by decide)
  refine ⟨rfl, (hY9.take hW9 oc htl).mono ?_⟩
  have hW10 := hW9.take oc t
  generalize ((Yd.fresh c []).tick 7).take oc t = q at g1 g2 hW10
  rintro r s10 ⟨rfl, L3, hY10⟩
  refine ⟨_, rfl, bcn (fun e => absurd g1 e) (fun _ => (hY10.look hW10).mono ?_)⟩
  rintro r s11 ⟨rfl, hY11⟩
  have hW11 := hW10.look
  refine ⟨rfl, (hY11.tick hW11 (7 + late)).mono ?_⟩
  rintro r s12 ⟨rfl, hY12⟩
  have hW12 := hW11.tick (now := 7 + late) (by omega)
  generalize q.1.look.tick (7 + late) = y at hY12 hW12 g2
  refine ⟨rfl, ?_⟩
  intro R hR
  have go : ∀ want : Int, want = (if (late : Int) > c.Age then 0 else 2) → R want s12 := fun want hwant => by
    refine hR want s12 ((hc s12).sigs.lenK ⟨fun n s => ∃ i : Nat, n = i ∧ i ≤ c.Sigs.length ∧ YdIn s id L3 y [], fun n _ => c.Sigs.length - n.toNat, ⟨0, rfl, by omega, hY12⟩, ?_⟩)
    rintro _ s ⟨i, rfl, hi, hY⟩
    rw [List.length_map]
    refine bcd (fun hlt => ?_) (fun _ => by trivial)
    have hlt : i < c.Sigs.length := by omega
    obtain ⟨g, hg⟩ := get_of_lt (l := c.Sigs) (j := i) hlt
    obtain ⟨sec, hsec⟩ := sig_sec hchk (List.mem_of_getElem? hg)
    obtain ⟨q0, q1, q2⟩ := geti_some hsec
    have hgj : (c.Secs.map Sec.enc)[g.Sec.toNat]? = some sec.enc := map_get q2
    have hsh := g2 i g sec hg hsec
    have hdec := dec_lt hlt
    refine (hc s).sigs.load (map_get hg) c_Signal rfl ⟨g.Sec, g.End_, rfl, (hc s).secs.load (j := g.Sec.toNat) hgj c_Section (by omega) ⟨sec.OC, rfl, bce (fun e1 => ?_) (fun e1 => ?_)⟩⟩
    · rw [if_pos e1] at hsh
      refine (hY.shows hW12 i).use ⟨_, rfl, bcn (fun e => absurd (by rw [hsh, hwant]) e) (fun _ => (hc s).secs.load (j := g.Sec.toNat) hgj c_Section (by omega) ⟨sec.OC, rfl, bcn (fun e => absurd e1 e) (fun _ => ?_)⟩)⟩
      rw [w64_succ (by omega)]
      exact ⟨⟨i + 1, rfl, hlt, hY⟩, hdec⟩
    · rw [if_neg e1] at hsh
      refine (hc s).secs.load (j := g.Sec.toNat) hgj c_Section (by omega) ⟨sec.OC, rfl, bcn (fun _ => (hY.shows hW12 i).use ⟨_, rfl, bcn (fun e => absurd hsh e) (fun _ => ?_)⟩) (fun e => absurd e e1)⟩
      rw [w64_succ (by omega)]
      exact ⟨⟨i + 1, rfl, hlt, hY⟩, hdec⟩
  exact bcd (fun h => go 0 (by rw [if_pos h])) (fun h => go 2 (by rw [if_neg h]))
end Go.Proofs.YtaklhjodjbgmgaaGreat
end
