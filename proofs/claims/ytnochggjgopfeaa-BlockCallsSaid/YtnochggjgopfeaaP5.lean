/-
  Proofs that the statement of this claim leans on: part 5.
-/
import Derived.Test.YtnochggjgopfeaaP4
section
set_option linter.unusedVariables false
set_option linter.unusedSimpArgs false
namespace Go.Proofs.Ytnochggjgopfeaa
open Go.Fw Go.Proofs Go.RowKit
variable {σ : Store}

/-- slices.Clone, of any type. -/
theorem clone_ok {t : TypeId} {bytes : Nat} {d : D} {rows : List (List D)} {Q : RV → Store → Prop} (h : At Try.prog σ t d rows) (hz : d ≠ .zsl) (hb : bytes * rows.length ≤ 140737488355328)
    (hQ : ∀ d' s, Own Try.prog σ s t d' rows → Q (.a (.one d')) s) :
    ∃ b : Bool, (IsNil .sl d b) ∧ bcase (b != false) (Q (.a (.one .nils)) σ) (Fw.newObj σ (.live t []) (fun (id : Nat) => fun (σ' : Store) => appendTo Try.prog σ' t bytes (.osl id 0 0) d (fun (d : D) => fun (σ'1 : Store) => Q (.a (.one d)) σ'1))) := by
  have new : ∀ b : Bool, b = false → bcase (b != false) (Q (.a (.one .nils)) σ) (Fw.newObj σ (.live t []) (fun (id : Nat) => fun (σ' : Store) => appendTo Try.prog σ' t bytes (.osl id 0 0) d (fun (d : D) => fun (σ'1 : Store) => Q (.a (.one d)) σ'1))) := by
    rintro b rfl
    rw [show (false != false) = false from by decide]
    refine (newObj_intro (K := fun id σ' => appendTo Try.prog σ' t bytes (.osl id 0 0) d fun d σ'1 => Q (.a (.one d)) σ'1) ?_ : Fw.newObj σ (.live t []) _)
    refine fun id s hid _ he hs => ?_
    have ho : Own Try.prog σ s t (.osl id 0 0) [] := ⟨At.fresh hs (by simp) rfl, he, osl_new hid, fun h => h, by intro e; cases e⟩
    exact ho.append (h.ext he) (by simpa using hb) (by have := h.size; simpa using this) fun d' s' ho' _ _ => hQ _ _ (by simpa using ho')
  have hr := h.rows
  cases d <;> simp only [Go.Fw.Rows] at hr <;> try exact hr.elim
  · subst hr; exact ⟨true, rfl, hQ _ _ (.nil _ (.refl _))⟩
  · exact absurd rfl hz
  · exact ⟨false, rfl, new _ rfl⟩
  · exact ⟨false, rfl, new _ rfl⟩

theorem Clone_int_ok {d : D} {rows : List (List D)} (h : At Try.prog σ t_int d rows) (hz : d ≠ .zsl) (hb : 8 * rows.length ≤ 140737488355328) : DCalls Try.prog n_slices_Clone_int [.one d] σ fun r s => ∃ d', r = .a (.one d') ∧ Own Try.prog σ s t_int d' rows :=
  W_slices_Clone_int d σ _ (clone_ok (Q := fun r s => ∃ d', r = .a (.one d') ∧ Own Try.prog σ s _ d' rows) h hz hb fun d' s ho => ⟨d', rfl, ho⟩)
theorem Clone_RouteState_ok {d : D} {rows : List (List D)} (h : At Try.prog σ t_RouteState d rows) (hz : d ≠ .zsl) (hb : 32 * rows.length ≤ 140737488355328) : DCalls Try.prog n_slices_Clone_RouteState [.one d] σ fun r s => ∃ d', r = .a (.one d') ∧ Own Try.prog σ s t_RouteState d' rows :=
  W_slices_Clone_RouteState d σ _ (clone_ok (Q := fun r s => ∃ d', r = .a (.one d') ∧ Own Try.prog σ s _ d' rows) h hz hb fun d' s ho => ⟨d', rfl, ho⟩)
theorem Clone_Mover_ok {d : D} {rows : List (List D)} (h : At Try.prog σ t_Mover d rows) (hz : d ≠ .zsl) (hb : 16 * rows.length ≤ 140737488355328) : DCalls Try.prog n_slices_Clone_Mover [.one d] σ fun r s => ∃ d', r = .a (.one d') ∧ Own Try.prog σ s t_Mover d' rows :=
  W_slices_Clone_Mover d σ _ (clone_ok (Q := fun r s => ∃ d', r = .a (.one d') ∧ Own Try.prog σ s _ d' rows) h hz hb fun d' s ho => ⟨d', rfl, ho⟩)
theorem Clone_LineState_ok {d : D} {rows : List (List D)} (h : At Try.prog σ t_LineState d rows) (hz : d ≠ .zsl) (hb : 64 * rows.length ≤ 140737488355328) : DCalls Try.prog n_slices_Clone_LineState [.one d] σ fun r s => ∃ d', r = .a (.one d') ∧ Own Try.prog σ s t_LineState d' rows :=
  W_slices_Clone_LineState d σ _ (clone_ok (Q := fun r s => ∃ d', r = .a (.one d') ∧ Own Try.prog σ s _ d' rows) h hz hb fun d' s ho => ⟨d', rfl, ho⟩)

/-- A state's cells. -/
structure CoAt (σ : Store) (k0 k1 k2 k3 k4 k5 : D) (k : Co) : Prop where
  own : At Try.prog σ t_int k0 (k.Own.map encI)
  routes : At Try.prog σ t_RouteState k1 (k.Routes.map Rs.enc)
  points : At Try.prog σ t_Mover k2 (k.Points.map Mv.enc)
  xs : At Try.prog σ t_Mover k3 (k.Xs.map Mv.enc)
  lines : At Try.prog σ t_LineState k4 (k.Lines.map Ls.enc)
  resets : At Try.prog σ t_int k5 (k.Resets.map encI)

theorem CoAt.ext {σ' : Store} {k0 k1 k2 k3 k4 k5 : D} {k : Co} (h : CoAt σ k0 k1 k2 k3 k4 k5 k) (he : Ext σ σ') : CoAt σ' k0 k1 k2 k3 k4 k5 k :=
  ⟨h.own.ext he, h.routes.ext he, h.points.ext he, h.xs.ext he, h.lines.ext he, h.resets.ext he⟩

abbrev coA (k0 k1 k2 k3 k4 k5 : D) (b : Bool) : A := .agg [k0, k1, k2, k3, k4, k5, .bool b]

theorem locks_Fits_ok {c0 c1 c2 c3 c4 : D} {c : Cf} (h : ∀ s, CfAt s c0 c1 c2 c3 c4 c) {k0 k1 k2 k3 k4 k5 : D} {k : Co} (hk : CoAt σ k0 k1 k2 k3 k4 k5 k) :
    Pure Try.prog n_locks_Fits [cfA c0 c1 c2 c3 c4 c, coA k0 k1 k2 k3 k4 k5 k.Dirty] σ (.a (bA (k.fits c))) := by
  have ls := (h σ).secs.size
  have lx := (h σ).xs.size
  have l0 := hk.own.size
  have l1 := hk.routes.size
  have l2 := hk.points.size
  have l3 := hk.xs.size
  have l4 := hk.lines.size
  have l5 := hk.resets.size
  simp only [List.length_map] at ls lx l0 l1 l2 l3 l4 l5
  refine .of (W_locks_Fits _ _ _ _ _ _ _ _ _ k0 k1 k2 k3 k4 k5 k.Dirty σ _ ((h σ).secs.lenK fun R hR => (conf_Check_ok h).use ⟨_, rfl, ?_⟩)) (flat_b _)
  obtain ⟨rows, hat, hlen, hrow⟩ := rts_froz fun s => (h s).rts
  have hl := (hat σ).size
  have bad : k.lens c = false → ∀ s, Ext σ s → (RV.a (.one (.bool false)) = .a (bA (k.fits c)) ∧ Ext σ s) := fun hb s he => ⟨by simp [Co.fits, hb], he⟩
  have nl : ∀ p : Prop, ¬ (k.Own.length = c.Secs.length ∧ k.Points.length = c.Secs.length ∧ k.Resets.length = c.Secs.length ∧ k.Routes.length = c.Rts.length ∧ k.Xs.length = c.Xs.length ∧ k.Lines.length = 4) → k.lens c = false := fun p hn => by
    rw [Co.lens, decide_eq_false hn]
  refine bcn (fun hc => ⟨by simp [Co.fits, hc], .refl _⟩) (fun hc => ?_)
  simp only [List.length_map]
  refine hk.own.lenK (bcn (fun e => bad (nl True fun g => by simp only [List.length_map] at e; omega) _ (.refl _)) (fun e0 => ?_))
  refine hk.points.lenK (bcn (fun e => bad (nl True fun g => by simp only [List.length_map] at e; omega) _ (.refl _)) (fun e1 => ?_))
  refine hk.resets.lenK (bcn (fun e => bad (nl True fun g => by simp only [List.length_map] at e; omega) _ (.refl _)) (fun e2 => ?_))
  refine hk.routes.lenK ((hat σ).lenK (bcn (fun e => bad (nl True fun g => by simp only [List.length_map] at e; omega) _ (.refl _)) (fun e3 => ?_)))
  refine hk.xs.lenK ((h σ).xs.lenK (bcn (fun e => bad (nl True fun g => by simp only [List.length_map] at e; omega) _ (.refl _)) (fun e4 => ?_)))
  refine hk.lines.lenK (bcn (fun e => bad (nl True fun g => by simp only [List.length_map] at e; omega) _ (.refl _)) (fun e5 => hR σ ?_))
  simp only [List.length_map] at e0 e1 e2 e3 e4 e5
  have hL : k.lens c = true := decide_eq_true ⟨by omega, by omega, by omega, by omega, by omega, by omega⟩
  have hfit : k.fits c = k.parts c := by simp [Co.fits, hc, hL]
  rw [hfit]
  obtain ⟨_, s1, s2, s3, _, _⟩ := check_small hc
  clear bad nl hfit hL hR
  unfold Co.parts
  -- owners
  refine hk.own.lenK ⟨fun n s => s = σ ∧ Rng k.Own (fun r => (r.all fun o => decide (-2 ≤ o ∧ o ≤ (c.Rts.length : Int))) = k.Own.all fun o => decide (-2 ≤ o ∧ o ≤ (c.Rts.length : Int))) n, fun n _ => k.Own.length - n.toNat, ⟨rfl, .start rfl⟩, ?_⟩
  rintro n τ ⟨rfl, hr⟩
  refine bcd (fun hlt => ?_) (fun hge => ?_)
  · obtain ⟨j, x, rfl, hx, hj, hF, nx⟩ := hr.step (by simp) l0 hlt
    rw [List.all_cons] at hF
    refine hk.own.load (map_get hx) c_int rfl ⟨x, rfl, (hat τ).lenK ((locks_between_ok _ _ _).use ⟨_, rfl, ?_⟩)⟩
    rw [hlen]
    refine bcnot (fun h1 => ?_) (fun h1 => ?_)
    · rw [h1] at hF; exact ⟨by rw [← hF]; rfl, .refl _⟩
    · rw [h1, Bool.true_and] at hF; exact andl rfl (nx _ hF)
  have hF0 := hr.done (by simp) hge
  rw [← hF0]
  show (∃ len2 : Nat, _)
  simp only [List.all_nil, Bool.true_and]
  clear hF0 hr hge
  -- routes
  have lz : (k.Routes.zip c.Rts).length = k.Routes.length := by rw [List.length_zip]; omega
  refine hk.routes.lenK ⟨fun n s => Ext τ s ∧ Rng (k.Routes.zip c.Rts) (fun r => r.all Rs.fits = (k.Routes.zip c.Rts).all Rs.fits) n, fun n _ => (k.Routes.zip c.Rts).length - n.toNat, ⟨.refl _, .start rfl⟩, ?_⟩
  rintro n s ⟨he, hr⟩
  refine bcd (fun hlt => ?_) (fun hge => ?_)
  · obtain ⟨j, x, rfl, hx, hj, hF, nx⟩ := hr.step (by rw [List.length_map, lz]) (by omega) hlt
    obtain ⟨g1, g2⟩ := List.getElem?_zip_eq_some.1 hx
    rw [List.all_cons] at hF
    refine (hk.ext he).routes.load (map_get g1) c_RouteState rfl ⟨x.1.State, x.1.Since, x.1.Next, x.1.Mark, rfl, (locks_between_ok _ _ _).use ⟨_, rfl, ?_⟩⟩
    have bad : Rs.fits x = false → ∀ s', Ext τ s' → (RV.a (.one (.bool false)) = .a (bA ((k.Routes.zip c.Rts).all Rs.fits && ((k.Points ++ k.Xs).all Mv.fits && (k.Lines.all Ls.fits && k.Resets.all (tm 1))))) ∧ Ext τ s') := fun hb s' he' => by
      rw [hb, Bool.false_and] at hF
      exact ⟨by rw [← hF]; rfl, he'⟩
    refine bcnot (fun h1 => bad (by unfold Rs.fits; rw [h1]; rfl) _ he) (fun h1 => ?_)
    obtain ⟨row, hrw⟩ := get_of_lt (l := rows) (j := j) (by rw [lz] at hj; omega)
    obtain ⟨d1, d2, d3, rfl, q1, q2, q3⟩ := hrow j row x.2 hrw g2
    refine (hat s).load hrw c_Route rfl ⟨d1, rfl, (q1 s).lenK ((locks_between_ok _ _ _).use ⟨_, rfl, ?_⟩)⟩
    rw [List.length_map]
    refine bcnot (fun h2 => bad (by unfold Rs.fits; rw [h1, h2]; rfl) _ he) (fun h2 => ?_)
    refine newObj_intro fun id s2 hid _ he2 hs2 => ?_
    refine (locks_times_ok (l := [x.1.Since, x.1.Mark]) 0 (by omega) (At.fresh hs2 (by simp) rfl)).use ⟨_, rfl, ?_⟩
    have e3 : ([x.1.Since, x.1.Mark].all fun n => decide (0 ≤ n ∧ n ≤ 4294967295 + (0 : Int))) = (tm 0 x.1.Since && tm 0 x.1.Mark) := by simp [tm]
    rw [e3]
    refine bcnot (fun h3 => bad (by unfold Rs.fits; rw [h1, h2, h3]; rfl) _ (he.trans he2)) (fun h3 => ?_)
    have hx : Rs.fits x = true := by unfold Rs.fits; rw [h1, h2, h3]; rfl
    rw [hx, Bool.true_and] at hF
    have hn := nx (fun r => r.all Rs.fits = (k.Routes.zip c.Rts).all Rs.fits) hF
    exact ⟨⟨he.trans he2, hn.1⟩, hn.2⟩
  have hF0 := hr.done (by rw [List.length_map, lz]) hge
  rw [← hF0]
  simp only [List.all_nil, Bool.true_and]
  clear hF0 hr hge
  -- movers
  refine newObj_intro fun id s2 hid _ he2 hs2 => ?_
  have het := he.trans he2
  have hkt := hk.ext het
  refine (Concat_Mover_ok (a := k2) (b := k3) (At.fresh hs2 (by simp) rfl) hkt.points hkt.xs (by rw [List.length_map]; omega) (by rw [List.length_map]; omega)).mono ?_
  rintro r s3 ⟨d, rfl, ho⟩
  rw [← List.map_append] at ho
  have he3 := het.trans ho.ext
  have lm : (k.Points ++ k.Xs).length < 2 ^ 60 := by rw [List.length_append]; omega
  refine ⟨d, rfl, ho.at_.lenK ⟨fun n s => s = s3 ∧ Rng (k.Points ++ k.Xs) (fun r => r.all Mv.fits = (k.Points ++ k.Xs).all Mv.fits) n, fun n _ => (k.Points ++ k.Xs).length - n.toNat, ⟨rfl, .start rfl⟩, ?_⟩⟩
  rintro n s4 ⟨rfl, hr⟩
  refine bcd (fun hlt => ?_) (fun hge => ?_)
  · obtain ⟨j, x, rfl, hx, hj, hF, nx⟩ := hr.step (by simp) lm hlt
    rw [List.all_cons] at hF
    refine ho.at_.load (map_get hx) c_Mover rfl ⟨x.Cmd, x.Other, rfl, (locks_between_ok _ _ _).use ⟨_, rfl, bcnot (fun h1 => ?_) (fun h1 => (locks_between_ok _ _ _).use ⟨_, rfl, bcnot (fun h2 => ?_) (fun h2 => ?_)⟩)⟩⟩
    · have : x.fits = false := by unfold Mv.fits; rw [h1]; rfl
      rw [this, Bool.false_and] at hF; exact ⟨by rw [← hF]; rfl, he3⟩
    · have : x.fits = false := by unfold Mv.fits; rw [h1, h2]; rfl
      rw [this, Bool.false_and] at hF; exact ⟨by rw [← hF]; rfl, he3⟩
    · have : x.fits = true := by unfold Mv.fits; rw [h1, h2]; rfl
      rw [this, Bool.true_and] at hF; exact andl rfl (nx _ hF)
  have hF0 := hr.done (by simp) hge
  rw [← hF0]
  simp only [List.all_nil, Bool.true_and]
  clear hF0 hr hge
  -- lines
  refine hk.lines.lenK ⟨fun n s => Ext τ s ∧ Rng k.Lines (fun r => r.all Ls.fits = k.Lines.all Ls.fits) n, fun n _ => k.Lines.length - n.toNat, ⟨he3, .start rfl⟩, ?_⟩
  rintro n s5 ⟨he5, hr⟩
  refine bcd (fun hlt => ?_) (fun hge => ?_)
  · obtain ⟨j, x, rfl, hx, hj, hF, nx⟩ := hr.step (by simp) l4 hlt
    rw [List.all_cons] at hF
    refine (hk.ext he5).lines.load (map_get hx) c_LineState rfl ⟨x.Ask, x.Done, x.Grant, x.Told, x.PAsk, x.PDone, x.PGrant, x.Since, rfl, newObj_intro fun id1 s6 hid1 _ he6 hs6 => ?_⟩
    have bad : Ls.fits x = false → ∀ s', Ext τ s' → (RV.a (.one (.bool false)) = .a (bA (k.Lines.all Ls.fits && k.Resets.all (tm 1))) ∧ Ext τ s') := fun hb s' he' => by
      rw [hb, Bool.false_and] at hF
      exact ⟨by rw [← hF]; rfl, he'⟩
    refine (locks_times_ok (l := [x.Ask, x.Done, x.Grant, x.Told, x.PAsk, x.PDone, x.PGrant]) 0 (by omega) (At.fresh hs6 (by simp) rfl)).use ⟨_, rfl, ?_⟩
    have e3 : ([x.Ask, x.Done, x.Grant, x.Told, x.PAsk, x.PDone, x.PGrant].all fun n => decide (0 ≤ n ∧ n ≤ 4294967295 + (0 : Int))) = (tm 0 x.Ask && (tm 0 x.Done && (tm 0 x.Grant && (tm 0 x.Told && (tm 0 x.PAsk && (tm 0 x.PDone && tm 0 x.PGrant)))))) := by simp [tm]
    rw [e3]
    refine bcnot (fun h1 => bad (by unfold Ls.fits; rw [h1]; rfl) _ (he5.trans he6)) (fun h1 => newObj_intro fun id2 s7 hid2 _ he7 hs7 => ?_)
    refine (locks_times_ok (l := [x.Since]) 1 (by omega) (At.fresh hs7 (by simp) rfl)).use ⟨_, rfl, ?_⟩
    have e4 : ([x.Since].all fun n => decide (0 ≤ n ∧ n ≤ 4294967295 + (1 : Int))) = tm 1 x.Since := by simp [tm]
    rw [e4]
    refine bcnot (fun h2 => bad (by unfold Ls.fits; rw [h1, h2]; rfl) _ ((he5.trans he6).trans he7)) (fun h2 => ?_)
    have hx : x.fits = true := by unfold Ls.fits; rw [h1, h2]; rfl
    rw [hx, Bool.true_and] at hF
    have hn := nx (fun r => r.all Ls.fits = k.Lines.all Ls.fits) hF
    exact ⟨⟨(he5.trans he6).trans he7, hn.1⟩, hn.2⟩
  have hF0 := hr.done (by simp) hge
  rw [← hF0]
  simp only [List.all_nil, Bool.true_and]
  exact (locks_times_ok 1 (by omega) (hk.ext he5).resets).use ⟨_, rfl, rfl, he5⟩
end Go.Proofs.Ytnochggjgopfeaa
end
section
set_option linter.unusedVariables false
set_option linter.unusedSimpArgs false
namespace Go.Fw
variable {P : Program} {σ : Store}

theorem rows_fun {s : Store} {el : TypeId} {d : D} {rs rs' : List (List D)} (h : Go.Fw.Rows P s el d rs) (h' : Go.Fw.Rows P s el d rs') : rs = rs' := by
  cases d <;> simp only [Go.Fw.Rows] at h h' <;> try exact h.elim
  · rw [h, h']
  · rw [h, h']
  · rw [h.1, h'.1]
  · obtain ⟨t, rows, a1, a2, a3, a4⟩ := h
    obtain ⟨t', rows', b1, b2, b3, b4⟩ := h'
    rw [a1] at b1
    injection b1 with e1 e2
    subst e1 e2
    rw [a4, b4]

def repPre (P : Program) (t : TypeId) (as0 : List A) (s : Store) : Prop := ∃ (d : D) (n : Nat) (row : List D), as0 = [.one d, iA n] ∧ At P s t d [row] ∧ n ≤ 2 ^ 20
def repPost (P : Program) (t : TypeId) (as0 : List A) (s : Store) (r : RV) (s' : Store) : Prop := ∃ (d : D) (n : Nat) (row : List D), as0 = [.one d, iA n] ∧ At P s t d [row] ∧ n ≤ 2 ^ 20 ∧ RepPost t n row s r s'

theorem Fin.set' {s : Store} (h : Fin s) (id : Nat) (so : SO) : Fin (s.set id so) := by
  obtain ⟨N, hN⟩ := h
  refine ⟨max N (id + 1), fun i hi => ?_⟩
  rw [Store.set_ne _ _ (by omega)]; exact hN i (by omega)

theorem rep_spec {f : FuncId} {t : TypeId} (h : ∀ (s : Store) (x : D) (row : List D) (n : Nat), At P s t x [row] → n ≤ 2 ^ 20 → DCalls P f [.one x, iA n] s (RepPost t n row s)) : SpecOk P f (repPre P t) (repPost P t) := by
  refine ⟨?_, ?_, ?_, ?_⟩
  · rintro as0 s ⟨d, n, row, rfl, h1, h2⟩
    exact (h s d row n h1 h2).mono fun r s' hr => ⟨d, n, row, rfl, h1, h2, hr⟩
  · rintro as0 s ⟨d, n, row, rfl, h1, h2⟩ ⟨N, hN⟩
    exact ⟨_, _, ⟨d, n, row, rfl, h1, h2, N, hN N (Nat.le_refl _), rfl, rfl⟩, Fin.set' ⟨N, hN⟩ _ _⟩
  · rintro as0 s r s' ⟨d, n, row, rfl, h1, h2, id, h3, rfl, rfl⟩ hf
    exact hf.set' _ _
  · rintro as0 s id so hid hso ⟨d, n, row, rfl, h1, h2⟩
    have he := Ext.new hid so
    refine ⟨⟨d, n, row, rfl, h1.ext he, h2⟩, ?_⟩
    rintro r s' ⟨d', n', row', e1, g1, g2, id', g3, rfl, rfl⟩
    injection e1 with e2 e3
    injection e2 with e2
    injection e3 with e3 _
    injection e3 with e3
    injection e3 with _ e3
    have e3 : n = n' := by omega
    subst e2 e3
    have e4 := rows_fun (h1.ext he).rows g1.rows
    injection e4 with e4 _
    subst e4
    have hne : id' ≠ id := fun e => by subst e; rw [Store.set_same] at g3; exact hso g3
    rw [Store.set_ne _ _ hne] at g3
    refine ⟨s.set id' (.live t (List.replicate n row)), ⟨d, n, row, rfl, h1, h2, id', g3, rfl, rfl⟩, ?_, set_comm (Ne.symm hne) _ _⟩
    rw [Store.set_ne _ _ (Ne.symm hne)]; exact hid

/-- The object that a slice lies in. -/
def idOf : D → Option Nat
  | .osl id _ _ => some id
  | _ => none

/-- Lists that share no object. -/
def Apart (a b : D) : Prop := ∀ id, idOf a = some id → idOf b ≠ some id

theorem Apart.symm {a b : D} (h : Apart a b) : Apart b a := fun id h1 h2 => h id h2 h1

theorem Own.at_new {σ0 : Store} {el : TypeId} {id n : Nat} {rs : List (List D)} (hid : σ0 id = .free) (he : Ext σ0 σ) (h : σ id = .live el rs) (hsz : rs.length < 2 ^ 60) (hn : n = rs.length) : Own P σ0 σ el (.osl id 0 n) rs :=
  ⟨At.fresh h hsz hn, he, osl_new hid, fun h => h, by intro e; cases e⟩

/-- What is new is apart from what was there. -/
theorem Own.apart {σ0 : Store} {el el' : TypeId} {d d' : D} {rs rs' : List (List D)} (h : Own P σ0 σ el d rs) (h' : At P σ0 el' d' rs') : Apart d' d := by
  intro id h1 h2
  cases d' with
  | osl i a n =>
    have e1 : i = id := by simpa [idOf] using h1
    subst e1
    cases d with
    | osl i' a' n' =>
      have e2 : i' = i := by simpa [idOf] using h2
      subst e2
      have := h.new _ _ _ rfl
      obtain ⟨t, rows, g1, _⟩ := h'.rows
      rw [this] at g1; cases g1
    | _ => simp [idOf] at h2
  | _ => simp [idOf] at h1

theorem Own.from {σ0 σ1 : Store} {el : TypeId} {d : D} {rs : List (List D)} (he : Ext σ0 σ1) (h : Own P σ1 σ el d rs) : Own P σ0 σ el d rs :=
  ⟨h.at_, he.trans h.ext, fun id i len e => by
    have h1 := h.new id i len e
    by_cases hf : σ0 id = .free
    · exact hf
    · have := he id hf; rw [h1] at this; exact this.symm, h.nsl, h.nz⟩

def newCo (c : Cf) (now : Int) : Co :=
  ⟨List.replicate c.Secs.length (-1), List.replicate c.Rts.length ⟨0, 0, 0, 0⟩, c.Secs.map fun s => ⟨0, if s.Kind = 1 then now else 0⟩, List.replicate c.Xs.length ⟨1, now⟩, List.replicate 4 ⟨0, 0, 0, 0, 0, 0, 0, 0⟩, List.replicate c.Secs.length 0, true⟩
end Go.Fw
end
section
set_option linter.unusedVariables false
set_option linter.unusedSimpArgs false
namespace Go.Proofs.Ytnochggjgopfeaa
open Go.Fw Go.Proofs Go.RowKit
variable {σ : Store}

def mvAt (now : Int) (s : Sec) : Mv := ⟨0, if s.Kind = 1 then now else 0⟩

theorem locks_movers_ok {c0 c1 c2 c3 c4 : D} {c : Cf} (h : ∀ s, CfAt s c0 c1 c2 c3 c4 c) (now : Int) (h1 : c.Secs.length ≤ 2 ^ 20) (h2 : c.Xs.length ≤ 2 ^ 20) :
    DCalls Try.prog n_locks_movers [cfA c0 c1 c2 c3 c4 c, iA now] σ fun r s => ∃ d1 d2, r = .tup [.one d1, .one d2] ∧ Own Try.prog σ s t_Mover d1 ((c.Secs.map (mvAt now)).map Mv.enc) ∧ Own Try.prog σ s t_Mover d2 ((List.replicate c.Xs.length (⟨1, now⟩ : Mv)).map Mv.enc) ∧ Apart d1 d2 := by
  refine W_locks_movers _ _ _ _ _ _ _ _ _ now σ _ ((h σ).secs.lenK ⟨by omega, by omega, by rw [List.length_map]; omega, newObj_intro fun id s1 hid _ he hs => (h s1).secs.lenK ?_⟩)
  rw [List.length_map, Int.toNat_natCast]
  refine ⟨fun n s => ∃ j : Nat, n = j ∧ j ≤ c.Secs.length ∧ Ext σ s ∧ s id = .live t_Mover (((c.Secs.take j).map (mvAt now)).map Mv.enc ++ List.replicate (c.Secs.length - j) [iD 0, iD 0]), fun n _ => c.Secs.length - n.toNat, ⟨0, rfl, by omega, he, by simpa using hs⟩, ?_⟩
  rintro _ s ⟨j, rfl, hj, hes, hl⟩
  refine bcd (fun hlt => ?_) (fun hge => ?_)
  · obtain ⟨x, hx⟩ := get_of_lt (l := c.Secs) (j := j) (by omega)
    refine (h s).secs.load (map_get hx) c_Section rfl ⟨x.Kind, x.OC, x.Line, rfl, ?_⟩
    have hw : w64 ((j : Int) + 1) = ((j + 1 : Nat) : Int) := w64_succ (by omega)
    have htake : c.Secs.take (j + 1) = c.Secs.take j ++ [x] := by rw [List.take_add_one, hx]; rfl
    have hlr : (((c.Secs.take j).map (mvAt now)).map Mv.enc ++ List.replicate (c.Secs.length - j) ([iD 0, iD 0] : List D)).length = c.Secs.length := by simp; omega
    have hsplit : List.replicate (c.Secs.length - j) ([iD 0, iD 0] : List D) = [iD 0, iD 0] :: List.replicate (c.Secs.length - (j + 1)) [iD 0, iD 0] := by
      rw [show c.Secs.length - j = (c.Secs.length - (j + 1)) + 1 by omega, List.replicate_succ]
    have hln : (((c.Secs.take j).map (mvAt now)).map Mv.enc).length = j := by rw [List.length_map, List.length_map, List.length_take]; omega
    have hmu : c.Secs.length - ((j + 1 : Nat) : Int).toNat < c.Secs.length - ((j : Nat) : Int).toNat := by omega
    refine bce (fun hk => (Start_ok now).use ⟨0, now, rfl, ?_⟩) (fun hk => ?_)
    · refine ⟨c.Secs.length, ⟨by omega, t_Mover, _, hl, c_Mover⟩, by omega, by omega, ?_⟩
      have hrowj : (((c.Secs.take j).map (mvAt now)).map Mv.enc ++ List.replicate (c.Secs.length - j) ([iD 0, iD 0] : List D))[0 + j]? = some [iD 0, iD 0] := by
        rw [Nat.zero_add, List.getElem?_append_right (by omega), hln, Nat.sub_self, hsplit]; rfl
      refine ⟨id, 0, c.Secs.length, t_Mover, _, [iD 0, iD 0], rfl, by omega, hl, hrowj, by simp, ?_⟩
      rw [hw]
      refine ⟨⟨j + 1, rfl, by omega, hes.set hid _, ?_⟩, hmu⟩
      rw [Store.set_same, htake, Int.toNat_natCast, Nat.zero_add, hsplit]
      congr 1
      rw [List.set_append_right _ _ (by omega), hln, Nat.sub_self, List.set_cons_zero]
      simp [mvAt, hk, Mv.enc, patch]
    · rw [hw]
      refine ⟨⟨j + 1, rfl, by omega, hes, ?_⟩, hmu⟩
      rw [hl, htake, hsplit]
      simp [mvAt, hk, Mv.enc]
  · have e : j = c.Secs.length := by omega
    subst e
    rw [List.take_length, Nat.sub_self, List.replicate_zero, List.append_nil] at hl
    refine newObj_intro fun id1 s2 hid1 _ he2 hs2 => (h s2).xs.lenK ?_
    rw [List.length_map]
    refine (Repeat_Mover_ok (At.fresh hs2 (by simp) rfl) h2).mono ?_
    rintro r s3 ⟨id3, hid3, rfl, rfl⟩
    have he3 : Ext s2 (s2.set id3 (.live t_Mover (List.replicate c.Xs.length [iD 1, iD now]))) := Ext.new hid3 _
    have hne : id ≠ id3 := fun e => by
      rw [← e] at hid3
      have := he2 id (by rw [hl]; intro e; cases e)
      rw [hid3, hl] at this; cases this
    have hf3 : σ id3 = .free := by
      by_cases hf : σ id3 = .free
      · exact hf
      · have := (hes.trans he2) id3 hf
        rw [hid3] at this; exact this.symm
    refine ⟨_, rfl, _, _, rfl, ?_, ?_, ?_⟩
    · refine Own.at_new hid ((hes.trans he2).trans he3) (rs := (c.Secs.map (mvAt now)).map Mv.enc) ?_ (by simp; omega) (by simp)
      rw [Store.set_ne _ _ hne, he2 id (by rw [hl]; intro e; cases e), hl]
    · refine Own.at_new hf3 ((hes.trans he2).trans he3) (rs := (List.replicate c.Xs.length (⟨1, now⟩ : Mv)).map Mv.enc) ?_ (by simp; omega) (by simp)
      rw [Store.set_same]
      simp [Mv.enc]
    · intro i e1 e2
      simp only [idOf, Option.some.injEq] at e1 e2
      exact hne (e1.trans e2.symm)

/-- A state whose lists a call has made, apart from one another. -/
structure CoOwn (σ0 σ : Store) (k0 k1 k2 k3 k4 k5 : D) (k : Co) : Prop where
  own : Own Try.prog σ0 σ t_int k0 (k.Own.map encI)
  routes : Own Try.prog σ0 σ t_RouteState k1 (k.Routes.map Rs.enc)
  points : Own Try.prog σ0 σ t_Mover k2 (k.Points.map Mv.enc)
  xs : Own Try.prog σ0 σ t_Mover k3 (k.Xs.map Mv.enc)
  lines : Own Try.prog σ0 σ t_LineState k4 (k.Lines.map Ls.enc)
  resets : Own Try.prog σ0 σ t_int k5 (k.Resets.map encI)
  apart : [k0, k1, k2, k3, k4, k5].Pairwise Apart

theorem CoOwn.at {σ0 : Store} {k0 k1 k2 k3 k4 k5 : D} {k : Co} (h : CoOwn σ0 σ k0 k1 k2 k3 k4 k5 k) : CoAt σ k0 k1 k2 k3 k4 k5 k :=
  ⟨h.own.at_, h.routes.at_, h.points.at_, h.xs.at_, h.lines.at_, h.resets.at_⟩

theorem locks_New_ok {c0 c1 c2 c3 c4 : D} {c : Cf} (h : ∀ s, CfAt s c0 c1 c2 c3 c4 c) (now : Int) (h1 : c.Secs.length ≤ 2 ^ 20) (h2 : c.Xs.length ≤ 2 ^ 20) (h3 : c.Rts.length ≤ 2 ^ 20) :
    DCalls Try.prog n_locks_New [cfA c0 c1 c2 c3 c4 c, iA now] σ fun r s => ∃ k0 k1 k2 k3 k4 k5, r = .a (coA k0 k1 k2 k3 k4 k5 true) ∧ CoOwn σ s k0 k1 k2 k3 k4 k5 (newCo c now) := by
  obtain ⟨rows, hat, hlen⟩ := rts_len (h σ)
  refine W_locks_New _ _ _ _ _ _ _ _ _ now σ _ ⟨repPre Try.prog t_int, repPost Try.prog t_int, rep_spec fun s x row n q1 q2 => Repeat_int_ok q1 q2, (h σ).secs.lenK (hat.lenK ((h σ).secs.lenK (newObj_intro fun id s1 hid _ he1 hs1 => ?_)))⟩
  simp only [List.length_map, hlen]
  refine ⟨⟨_, _, [iD (-1)], rfl, At.fresh hs1 (by simp) rfl, h1⟩, ?_⟩
  rintro r s2 ⟨d, n, row, e1, g1, g2, id2, hid2, rfl, rfl⟩
  injection e1 with e2 e3
  injection e2 with e2
  injection e3 with e3 _
  injection e3 with e3
  injection e3 with _ e3
  have e3 : c.Secs.length = n := by omega
  subst e2 e3
  have e4 := rows_fun (At.fresh hs1 (by simp) rfl : At Try.prog s1 t_int (.osl id 0 1) _).rows g1.rows
  injection e4 with e4 _
  subst e4
  generalize hs2 : s1.set id2 (SO.live t_int (List.replicate c.Secs.length [D.int IntKind.i64 (-1)])) = s2
  have he2 : Ext s1 s2 := by rw [← hs2]; exact Ext.new hid2 _
  have hl2 : s2 id2 = .live t_int (List.replicate c.Secs.length [iD (-1)]) := by rw [← hs2]; exact Store.set_same _ _ _
  have o0 : Own Try.prog s1 s2 t_int (.osl id2 0 c.Secs.length) (List.replicate c.Secs.length [iD (-1)]) := .at_new hid2 he2 hl2 (by simp; omega) (by simp)
  refine ⟨_, rfl, by omega, by omega, by omega, newObj_intro fun id3 s3 hid3 _ he3 hs3 => ⟨by omega, by omega, by omega, newObj_intro fun id4 s4 hid4 _ he4 hs4 => ⟨by omega, by omega, by omega, newObj_intro fun id5 s5 hid5 _ he5 hs5 => ?_⟩⟩⟩
  simp only [Int.toNat_natCast] at hs3 hs5 ⊢
  have o1 : Own Try.prog s2 s3 t_RouteState (.osl id3 0 c.Rts.length) (List.replicate c.Rts.length [iD 0, iD 0, iD 0, iD 0]) := .at_new hid3 he3 hs3 (by simp; omega) (by simp)
  have o4 : Own Try.prog s3 s4 t_LineState (.osl id4 0 4) (List.replicate 4 [iD 0, iD 0, iD 0, iD 0, iD 0, iD 0, iD 0, iD 0]) := .at_new hid4 he4 hs4 (by simp) (by simp)
  have o5 : Own Try.prog s4 s5 t_int (.osl id5 0 c.Secs.length) (List.replicate c.Secs.length [iD 0]) := .at_new hid5 he5 hs5 (by simp; omega) (by simp)
  refine (locks_movers_ok h now h1 h2).mono ?_
  rintro r s6 ⟨d1, d2, rfl, o2, o3, hap⟩
  refine ⟨d1, d2, rfl, _, _, _, _, _, _, rfl, ?_⟩
  have a3 := o0.at_.ext he3
  have a4 := a3.ext he4
  have a5 := a4.ext he5
  have b4 := o1.at_.ext he4
  have b5 := b4.ext he5
  have c5 := o4.at_.ext he5
  have f1 := he1.trans he2
  have f2 := f1.trans he3
  have f3 := f2.trans he4
  have f4 := f3.trans he5
  refine ⟨?_, ?_, ?_, ?_, ?_, ?_, ?_⟩
  · have : List.map encI (newCo c now).Own = List.replicate c.Secs.length [iD (-1)] := by simp [newCo, encI]
    rw [this]; exact (((o0.ext' he3).ext' he4).ext' he5).ext' o2.ext |>.from he1
  · have : List.map Rs.enc (newCo c now).Routes = List.replicate c.Rts.length [iD 0, iD 0, iD 0, iD 0] := by simp [newCo, Rs.enc]
    rw [this]; exact ((o1.ext' he4).ext' he5).ext' o2.ext |>.from f1
  · exact o2.from f4
  · exact o3.from f4
  · have : List.map Ls.enc (newCo c now).Lines = List.replicate 4 [iD 0, iD 0, iD 0, iD 0, iD 0, iD 0, iD 0, iD 0] := by simp [newCo, Ls.enc]
    rw [this]; exact (o4.ext' he5).ext' o2.ext |>.from f2
  · have : List.map encI (newCo c now).Resets = List.replicate c.Secs.length [iD 0] := by simp [newCo, encI]
    rw [this]; exact (o5.ext' o2.ext).from f3
  · simp only [List.pairwise_cons, List.mem_cons, List.not_mem_nil, or_false, forall_eq_or_imp, forall_eq, List.Pairwise.nil, and_true, false_imp_iff, implies_true]
    exact ⟨⟨o1.apart o0.at_, o2.apart a5, o3.apart a5, o4.apart a3, o5.apart a4⟩, ⟨o2.apart b5, o3.apart b5, o4.apart o1.at_, o5.apart b4⟩, ⟨hap, (o2.apart c5).symm, (o2.apart o5.at_).symm⟩, ⟨(o3.apart c5).symm, (o3.apart o5.at_).symm⟩, o5.apart o4.at_⟩
end Go.Proofs.Ytnochggjgopfeaa
end
section
set_option linter.unusedVariables false
set_option linter.unusedSimpArgs false
namespace Go.Fw
variable {P : Program} {σ : Store}

theorem cell_store {s : Store} {id : Nat} {t : TypeId} {row xs : List D} {off : Nat} {K : Store → Prop} (hs : s id = .live t [row]) (ho : off + xs.length ≤ row.length)
    (hK : ∀ s', s' id = .live t [patch row off xs] → (∀ i, i ≠ id → s' i = s i) → K s') : storeEl xs s (.osl id 0 1) 0 off K :=
  ⟨id, 0, 1, t, [row], row, rfl, by omega, hs, rfl, ho, hK _ (Store.set_same _ _ _) fun i hi => Store.set_ne _ _ hi⟩

/-- An element is written. -/
theorem At.store {el : TypeId} {d : D} {rs : List (List D)} {j off : Nat} {n : Nat} {row xs : List D} {K : Store → Prop} (h : At P σ el d rs) (hd : ¬ isSl d) (hr : rs[j]? = some row) (hn : n = j) (ho : off + xs.length ≤ row.length)
    (hK : ∀ s' id, idOf d = some id → At P s' el d (rs.set j (patch row off xs)) → (∀ i, i ≠ id → s' i = σ i) → s' id ≠ .free → K s') : storeEl xs σ d n off K := by
  subst hn
  have hrows := h.rows
  have hj := (List.getElem?_eq_some_iff.1 hr).1
  cases d <;> simp only [Go.Fw.Rows] at hrows <;> try exact hrows.elim
  · subst hrows; simp at hr
  · subst hrows; simp at hr
  · exact absurd trivial hd
  · obtain ⟨t, rows, h1, h2, h3, rfl⟩ := hrows
    rename_i id i0 len
    have hjl : n < len := by simp at hj; omega
    have hrow : rows[i0 + n]? = some row := by
      rw [List.getElem?_take, if_pos hjl, List.getElem?_drop] at hr; exact hr
    refine ⟨id, i0, len, t, rows, row, rfl, hjl, h1, hrow, ho, hK _ id rfl ⟨⟨t, _, Store.set_same _ _ _, h2, by simp; omega, ?_⟩, ?_, fun es rows e => by cases e⟩ (fun i hi => Store.set_ne _ _ hi) (by rw [Store.set_same]; intro e; cases e)⟩
    · rw [List.drop_set, if_neg (by omega), List.take_set]
      congr 1; omega
    · have := h.size; simpa using this

/-- The line's section; -1: none. -/
def Cf.lineSec (c : Cf) (line : Int) : Int := if line < 1 then -1 else fidx (fun s : Sec => s.Line == line) c.Secs 0

theorem fidx_bound {α : Type} (p : α → Bool) : ∀ (l : List α) (j : Nat), fidx p l j = -1 ∨ ((j : Int) ≤ fidx p l j ∧ fidx p l j < j + l.length)
  | [], j => .inl rfl
  | x :: r, j => by
    rw [fidx]
    split
    · right; simp; omega
    · rcases fidx_bound p r (j + 1) with h | h
      · exact .inl h
      · right; simp only [List.length_cons]; omega

theorem lineSec_bound (c : Cf) (line : Int) : c.lineSec line = -1 ∨ (0 ≤ c.lineSec line ∧ c.lineSec line < c.Secs.length) := by
  unfold Cf.lineSec
  split
  · exact .inl rfl
  · rcases fidx_bound (fun s : Sec => s.Line == line) c.Secs 0 with h | h
    · exact .inl h
    · right; omega

def Co.tell (k : Co) (line : Int) : Int × Int × Int :=
  match geti k.Lines line with
  | some l => if line < 1 then (0, 0, 0) else (l.Ask, l.Done, l.Told)
  | none => (0, 0, 0)

/-- A look at an element. -/
structure Lk where
  Value : Int
  Stamp : Int
  Valid : Bool
def Lk.enc (l : Lk) : List D := [iD l.Value, iD l.Stamp, .bool l.Valid]
end Go.Fw
end
section
set_option linter.unusedVariables false
set_option linter.unusedSimpArgs false
namespace Go.Proofs.Ytnochggjgopfeaa
open Go.Fw Go.Proofs Go.RowKit
variable {σ : Store}

section
variable {c0 c1 c2 c3 c4 : D} {c : Cf}

theorem block_section_ok (h : CfAt σ c0 c1 c2 c3 c4 c) (line : Int) : Pure Try.prog n_block_section [cfA c0 c1 c2 c3 c4 c, iA line] σ (.a (iA (c.lineSec line))) := by
  refine .of (W_block_section _ _ _ _ _ _ _ _ _ line σ _ (newObj_intro fun id σ1 hid _ he hs => ?_)) (flat_i _)
  refine ⟨_, box_row hs, line, rfl, bcd (fun h1 => ⟨by rw [Cf.lineSec, if_pos h1], he⟩) (fun h1 => ?_)⟩
  refine (IndexFunc_Section_ok (p := fun x => x.Line == line) (h.secs.ext he) (cap_fn hs fun x _ => ?_)).use ⟨_, rfl, by rw [Cf.lineSec, if_neg h1], he⟩
  exact W_block_section_1 x.Kind x.OC x.Line _ σ1 _ ⟨_, _, _, rfl, _, box_row hs, line, rfl, rfl, rfl⟩

theorem ref15_Section_ok (h : CfAt σ c0 c1 c2 c3 c4 c) (line : Int) : Pure Try.prog n_ref15_Section [cfA c0 c1 c2 c3 c4 c, iA line] σ (.a (iA (c.lineSec line))) := by
  have hl := h.secs.size
  rw [List.length_map] at hl
  refine W_ref15_Section _ _ _ _ _ _ _ _ _ line σ _ (h.secs.lenK ⟨fun n s => s = σ ∧ Rng c.Secs (fun r => (if line < 1 then (-1 : Int) else fidx (fun s : Sec => s.Line == line) r n.toNat) = c.lineSec line) n, fun n _ => c.Secs.length - n.toNat, ⟨rfl, .start rfl⟩, ?_⟩)
  rintro n τ ⟨rfl, hr⟩
  refine bcd (fun hlt => ?_) (fun hge => ?_)
  · obtain ⟨j, x, rfl, hx, hj, hF, nx⟩ := hr.step (by simp) hl hlt
    refine h.secs.load (map_get hx) c_Section rfl ⟨x.Kind, x.OC, x.Line, rfl, ?_⟩
    rw [fidx] at hF
    have hw : w64 ((j : Int) + 1) = ((j + 1 : Nat) : Int) := w64_succ (by omega)
    have go : (x.Line == line) = false ∨ line < 1 → (τ = τ ∧ Rng c.Secs (fun r => (if line < 1 then (-1 : Int) else fidx (fun s : Sec => s.Line == line) r (w64 ((j : Int) + 1)).toNat) = c.lineSec line) (w64 ((j : Int) + 1))) ∧ c.Secs.length - (w64 ((j : Int) + 1)).toNat < c.Secs.length - (j : Int).toNat := by
      intro hor
      refine andl rfl (nx (fun r => (if line < 1 then (-1 : Int) else fidx (fun s : Sec => s.Line == line) r (w64 ((j : Int) + 1)).toNat) = c.lineSec line) ?_)
      rw [← hF, hw]
      split
      · rfl
      · rcases hor with hor | hor
        · rw [if_neg (by rw [hor]; simp)]; rfl
        · omega
    refine bc (fun h1 => bcd (fun h2 => ⟨?_, rfl⟩) (fun h2 => go (.inr (by omega)))) (fun h1 => go (.inl h1))
    rw [if_neg (by omega), if_pos h1] at hF
    rw [← hF]; rfl
  · have hF := hr.done (by simp) hge
    refine ⟨?_, rfl⟩
    rw [← hF, fidx]
    split <;> rfl
end

theorem block_Tell_ok {k0 k1 k2 k3 k4 k5 : D} {k : Co} (h : CoAt σ k0 k1 k2 k3 k4 k5 k) (b : Bool) (line : Int) : Pure Try.prog n_block_Tell [coA k0 k1 k2 k3 k4 k5 b, iA line] σ (.a (.agg [iD (k.tell line).1, iD (k.tell line).2.1, iD (k.tell line).2.2])) := by
  have hl := h.lines.size
  rw [List.length_map] at hl
  refine W_block_Tell k0 k1 k2 k3 k4 k5 b line σ _ (bcd (fun h1 => ⟨?_, rfl⟩) (fun h1 => h.lines.lenK (bcd (fun h2 => ⟨?_, rfl⟩) (fun h2 => ?_))))
  · have : k.tell line = (0, 0, 0) := by unfold Co.tell; split; · rw [if_pos h1]
                                         · rfl
    rw [this]
  · rw [List.length_map] at h2
    have : k.tell line = (0, 0, 0) := by unfold Co.tell; rw [geti_ge (by omega)]
    rw [this]
  · rw [List.length_map] at h2
    obtain ⟨x, hx⟩ := get_of_lt (l := k.Lines) (j := line.toNat) (by omega)
    refine h.lines.load (map_get hx) c_LineState (by omega) ⟨x.Ask, x.Done, x.Grant, x.Told, x.PAsk, x.PDone, x.PGrant, x.Since, rfl, ?_, rfl⟩
    have : k.tell line = (x.Ask, x.Done, x.Told) := by
      unfold Co.tell geti
      rw [if_neg (by omega), hx]
      show (if line < 1 then _ else _) = _
      rw [if_neg h1]
    rw [this]

/-- The state's lists are of a size that memory bears, and none may be either nil or empty. -/
structure CoFit (k0 k1 k2 k3 k4 k5 : D) (k : Co) : Prop where
  n0 : k0 ≠ .zsl
  n1 : k1 ≠ .zsl
  n2 : k2 ≠ .zsl
  n3 : k3 ≠ .zsl
  n4 : k4 ≠ .zsl
  n5 : k5 ≠ .zsl
  b0 : 8 * k.Own.length ≤ 140737488355328
  b1 : 32 * k.Routes.length ≤ 140737488355328
  b2 : 16 * k.Points.length ≤ 140737488355328
  b3 : 16 * k.Xs.length ≤ 140737488355328
  b4 : 64 * k.Lines.length ≤ 140737488355328
  b5 : 8 * k.Resets.length ≤ 140737488355328

/-- A list stays as it is where another object is written. -/
theorem own_other {σ0 s s' : Store} {el : TypeId} {d : D} {rs : List (List D)} {id : Nat} (h : Own Try.prog σ0 s el d rs) (hid : σ0 id = .free) (hd : idOf d ≠ some id) (hs : ∀ i, i ≠ id → s' i = s i) : Own Try.prog σ0 s' el d rs :=
  ⟨h.at_.same fun i a n e => hs i fun e2 => hd (by subst e; rw [← e2]; rfl), fun i hi => by
    have hne : i ≠ id := fun e => hi (by rw [e]; exact hid)
    rw [hs i hne]; exact h.ext i hi, h.new, h.nsl, h.nz⟩

/-- The row of a desk. -/
abbrev deskRow (k0 k1 k2 k3 k4 k5 : D) (dirty : Bool) (c0 c1 c2 c3 c4 : D) (c : Cf) (v0 v1 v2 v3 : D) (now : Int) (was : Bool) : List D :=
  [k0, k1, k2, k3, k4, k5, .bool dirty, c0, c1, c2, c3, c4, iD c.Age, iD c.Brake, iD c.Hold, iD c.Budget, v0, v1, v2, v3, iD now, .bool was]

/-- A desk and its lists, each apart from the others. -/
structure DeskAt (σ0 σ : Store) (id : Nat) (k0 k1 k2 k3 k4 k5 : D) (k : Co) (c0 c1 c2 c3 c4 : D) (c : Cf) (v0 v1 v2 v3 : D) (now : Int) (was : Bool) : Prop where
  new : σ0 id = .free
  row : σ id = .live t_block_desk [deskRow k0 k1 k2 k3 k4 k5 k.Dirty c0 c1 c2 c3 c4 c v0 v1 v2 v3 now was]
  co : CoOwn σ0 σ k0 k1 k2 k3 k4 k5 k
  ids : ∀ d ∈ [k0, k1, k2, k3, k4, k5], idOf d ≠ some id
  ext : Ext σ0 σ

theorem block_open_ok {c0 c1 c2 c3 c4 : D} {c : Cf} {k0 k1 k2 k3 k4 k5 : D} {k : Co} (h : CoAt σ k0 k1 k2 k3 k4 k5 k) (hf : CoFit k0 k1 k2 k3 k4 k5 k) (v0 v1 v2 v3 : D) (now : Int) :
    DCalls Try.prog n_block_open [cfA c0 c1 c2 c3 c4 c, coA k0 k1 k2 k3 k4 k5 k.Dirty, .agg [v0, v1, v2, v3], iA now] σ fun r s =>
      ∃ id d0 d1 d2 d3 d4 d5, r = .a (.one (.el (.osl id 0 1) 0 0)) ∧ DeskAt σ s id d0 d1 d2 d3 d4 d5 k c0 c1 c2 c3 c4 c v0 v1 v2 v3 now k.Dirty := by
  refine W_block_open _ _ _ _ _ _ _ _ _ k0 k1 k2 k3 k4 k5 k.Dirty v0 v1 v2 v3 now σ _ (newObj_intro fun id s1 hid _ he1 hs1 => ?_)
  have nid : ∀ {s0 s : Store} {el : TypeId} {d : D} {rs : List (List D)}, Own Try.prog s0 s el d rs → s0 id ≠ .free → idOf d ≠ some id := by
    intro s0 s el d rs ho hne he
    cases d with
    | osl i a n =>
      have : i = id := by simpa [idOf] using he
      subst this
      exact hne (ho.new _ _ _ rfl)
    | _ => simp [idOf] at he
  have h1 : s1 id ≠ .free := by rw [hs1]; intro e; cases e
  have kp : ∀ {s s' : Store}, Ext s s' → s id ≠ .free → s' id ≠ .free := fun he hn => by rw [he id hn]; exact hn
  refine (Clone_int_ok (h.own.ext he1) hf.n0 (by rw [List.length_map]; exact hf.b0)).mono ?_
  rintro r s2 ⟨d0, rfl, o0⟩
  have h2 := kp o0.ext h1
  have e2 := he1.trans o0.ext
  refine ⟨d0, rfl, (Clone_LineState_ok (h.lines.ext e2) hf.n4 (by rw [List.length_map]; exact hf.b4)).mono ?_⟩
  rintro r s3 ⟨d4, rfl, o4⟩
  have h3 := kp o4.ext h2
  have e3 := e2.trans o4.ext
  have i0 := nid o0 h1
  have i4 := nid o4 h2
  have r3 : s3 id = .live t_block_desk [deskRow k0 k1 k2 k3 k4 k5 k.Dirty c0 c1 c2 c3 c4 c v0 v1 v2 v3 now k.Dirty] := by
    rw [o4.ext id h2, o0.ext id h1, hs1]
  refine ⟨d4, rfl, cell_store r3 (by simp) fun s4 r4 f4 => cell_store r4 (by simp [patch]) fun s5 r5 f5 => ?_⟩
  have f45 : ∀ i, i ≠ id → s5 i = s3 i := fun i hi => (f5 i hi).trans (f4 i hi)
  have o0' := own_other ((o0.ext' o4.ext).from he1) hid i0 f45
  have o4' := own_other (o4.from e2) hid i4 f45
  have a40 : Apart d0 d4 := o4.apart o0.at_
  have h5 : s5 id ≠ .free := by rw [r5]; intro e; cases e
  have e5 : Ext σ s5 := o0'.ext
  refine (Clone_RouteState_ok (h.routes.ext e5) hf.n1 (by rw [List.length_map]; exact hf.b1)).mono ?_
  rintro r s6 ⟨d1, rfl, o1⟩
  have h6 := kp o1.ext h5
  have e6 := e5.trans o1.ext
  refine ⟨d1, rfl, (Clone_Mover_ok (h.points.ext e6) hf.n2 (by rw [List.length_map]; exact hf.b2)).mono ?_⟩
  rintro r s7 ⟨d2, rfl, o2⟩
  have h7 := kp o2.ext h6
  have e7 := e6.trans o2.ext
  refine ⟨d2, rfl, (Clone_Mover_ok (h.xs.ext e7) hf.n3 (by rw [List.length_map]; exact hf.b3)).mono ?_⟩
  rintro r s8 ⟨d3, rfl, o3⟩
  have h8 := kp o3.ext h7
  have e8 := e7.trans o3.ext
  refine ⟨d3, rfl, (Clone_int_ok (h.resets.ext e8) hf.n5 (by rw [List.length_map]; exact hf.b5)).mono ?_⟩
  rintro r s9 ⟨d5, rfl, o5⟩
  have r9 : s9 id = .live t_block_desk [patch (patch (deskRow k0 k1 k2 k3 k4 k5 k.Dirty c0 c1 c2 c3 c4 c v0 v1 v2 v3 now k.Dirty) 0 [d0]) 4 [d4]] := by
    rw [o5.ext id h8, o3.ext id h7, o2.ext id h6, o1.ext id h5, r5]
  refine ⟨d5, rfl, cell_store r9 (by simp [patch]) fun t1 q1 g1 => cell_store q1 (by simp [patch]) fun t2 q2 g2 => cell_store q2 (by simp [patch]) fun t3 q3 g3 => cell_store q3 (by simp [patch]) fun t4 q4 g4 => ?_⟩
  have g : ∀ i, i ≠ id → t4 i = s9 i := fun i hi => (g4 i hi).trans ((g3 i hi).trans ((g2 i hi).trans (g1 i hi)))
  have p0 := own_other ((((o0'.ext' o1.ext).ext' o2.ext).ext' o3.ext).ext' o5.ext) hid i0 g
  have p4 := own_other ((((o4'.ext' o1.ext).ext' o2.ext).ext' o3.ext).ext' o5.ext) hid i4 g
  have i1 := nid o1 h5
  have i2 := nid o2 h6
  have i3 := nid o3 h7
  have i5 := nid o5 h8
  have p1 := own_other ((((o1.from e5).ext' o2.ext).ext' o3.ext).ext' o5.ext) hid i1 g
  have p2 := own_other (((o2.from e6).ext' o3.ext).ext' o5.ext) hid i2 g
  have p3 := own_other ((o3.from e7).ext' o5.ext) hid i3 g
  have p5 := own_other (o5.from e8) hid i5 g
  refine ⟨id, d0, d1, d2, d3, d4, d5, rfl, hid, q4, ⟨p0, p1, p2, p3, p4, p5, ?_⟩, ?_, p0.ext⟩
  · have w6 := o0'.at_.ext o1.ext
    have w7 := w6.ext o2.ext
    have w8 := w7.ext o3.ext
    have u6 := o4'.at_.ext o1.ext
    have u7 := u6.ext o2.ext
    have u8 := u7.ext o3.ext
    have x7 := o1.at_.ext o2.ext
    have x8 := x7.ext o3.ext
    have y8 := o2.at_.ext o3.ext
    simp only [List.pairwise_cons, List.mem_cons, List.not_mem_nil, or_false, forall_eq_or_imp, forall_eq, List.Pairwise.nil, and_true, false_imp_iff, implies_true]
    exact ⟨⟨o1.apart o0'.at_, o2.apart w6, o3.apart w7, a40, o5.apart w8⟩, ⟨o2.apart o1.at_, o3.apart x7, (o1.apart o4'.at_).symm, o5.apart x8⟩, ⟨o3.apart o2.at_, (o2.apart u6).symm, o5.apart y8⟩, ⟨(o3.apart u7).symm, o5.apart o3.at_⟩, o5.apart u8⟩
  · intro d hd
    simp only [List.mem_cons, List.not_mem_nil, or_false] at hd
    rcases hd with rfl | rfl | rfl | rfl | rfl | rfl <;> assumption
end Go.Proofs.Ytnochggjgopfeaa
end
section
namespace Go.Fw
def zLs : Ls := ⟨0, 0, 0, 0, 0, 0, 0, 0⟩

def backStep (occ : List Lk) (now : Int) (k : Co) (l s : Nat) : Co :=
  let x := (k.Lines[l]?).getD zLs
  let look := (occ[s]?).getD ⟨0, 0, false⟩
  if x.PDone < x.Grant then { k with Lines := k.Lines.set l { x with Since := 0 } }
  else if x.Since = 0 then { k with Lines := k.Lines.set l { x with Since := w64 (now + 1) } }
  else if look.Valid = true ∧ look.Value = 0 ∧ x.Since ≤ look.Stamp then { k with Own := k.Own.set s 0, Dirty := true, Lines := k.Lines.set l { x with Since := 0 } }
  else k

/-- Is a route that isn't idle approached over the section? counted from j on. -/
def apprL (c : Cf) (s : Int) : List Rs → Nat → Bool
  | [], _ => false
  | r :: l, j => (decide (r.State ≠ 0) && decide (c.Approach j = s)) || apprL c s l (j + 1)

def mayOk (c : Cf) (k : Co) (x : Ls) (s : Int) : Bool :=
  !(apprL c s k.Routes 0) && (decide (x.PAsk > (if x.PDone > x.Grant then x.PDone else x.Grant)) && decide (x.Ask = x.Done))

def lineStep (c : Cf) (occ : List Lk) (now : Int) (was : Bool) (k : Co) (l s : Nat) : Co :=
  let x := (k.Lines[l]?).getD zLs
  let o := (k.Own[s]?).getD 0
  let k' := if o = -2 then backStep occ now k l s
    else if o = 0 ∧ mayOk c k x s = true then { k with Own := k.Own.set s (-2), Dirty := true, Lines := k.Lines.set l { x with Grant := x.PAsk, Since := 0 } }
    else k
  if was = true then k' else { k' with Lines := k'.Lines.set l { (k'.Lines[l]?).getD zLs with Told := x.Grant } }

theorem map_set {α β : Type} (f : α → β) (l : List α) (i : Nat) (x : α) : (l.map f).set i (f x) = (l.set i x).map f := by simp
end Go.Fw
end
section
set_option linter.unusedVariables false
set_option linter.unusedSimpArgs false
namespace Go.Proofs.Ytnochggjgopfeaa
open Go.Fw Go.Proofs Go.RowKit
variable {σ : Store}

section
variable {σ0 : Store} {id : Nat} {d0 d1 d2 d3 d4 d5 c0 c1 c2 c3 c4 v0 v1 v2 v3 : D} {k : Co} {c : Cf} {now : Int} {was : Bool}

theorem own_id {s : Store} {el : TypeId} {d : D} {rs : List (List D)} {i : Nat} (h : Own Try.prog σ0 s el d rs) (hi : idOf d = some i) : σ0 i = .free := by
  cases d with
  | osl j a n =>
    have : j = i := by simpa [idOf] using hi
    subst this
    exact h.new _ _ _ rfl
  | _ => simp [idOf] at hi

theorem pw {l : List D} (h : l.Pairwise Apart) {i j : Nat} {a b : D} (hi : l[i]? = some a) (hj : l[j]? = some b) (hne : i ≠ j) : Apart a b := by
  obtain ⟨h1, rfl⟩ := List.getElem?_eq_some_iff.1 hi
  obtain ⟨h2, rfl⟩ := List.getElem?_eq_some_iff.1 hj
  rw [List.pairwise_iff_getElem] at h
  rcases Nat.lt_or_gt_of_ne hne with g | g
  · exact h i j h1 h2 g
  · exact (h j i h2 h1 g).symm

/-- An owner is written. -/
theorem desk_own (h : DeskAt σ0 σ id d0 d1 d2 d3 d4 d5 k c0 c1 c2 c3 c4 c v0 v1 v2 v3 now was) {j n : Nat} {o w : Int} (hj : k.Own[j]? = some o) (hn : n = j) {K : Store → Prop}
    (hK : ∀ s', DeskAt σ0 s' id d0 d1 d2 d3 d4 d5 { k with Own := k.Own.set j w } c0 c1 c2 c3 c4 c v0 v1 v2 v3 now was → K s') : storeEl [iD w] σ d0 n 0 K := by
  refine h.co.own.at_.store h.co.own.nsl (map_get hj) hn (by simp [encI]) fun s' i hi hat hs hne => hK s' ?_
  have hf := own_id h.co.own hi
  have ap : ∀ {m : Nat} {d : D}, [d0, d1, d2, d3, d4, d5][m]? = some d → m ≠ 0 → idOf d ≠ some i := fun hm hne0 => pw h.co.apart (i := 0) rfl hm (Ne.symm hne0) i hi
  have hii : i ≠ id := fun e => h.ids d0 (by simp) (by rw [hi, e])
  refine ⟨h.new, by rw [hs id (Ne.symm hii)]; exact h.row, ⟨⟨?_, ?_, h.co.own.new, h.co.own.nsl, h.co.own.nz⟩, own_other h.co.routes hf (ap (m := 1) rfl (by omega)) hs, own_other h.co.points hf (ap (m := 2) rfl (by omega)) hs, own_other h.co.xs hf (ap (m := 3) rfl (by omega)) hs, own_other h.co.lines hf (ap (m := 4) rfl (by omega)) hs, own_other h.co.resets hf (ap (m := 5) rfl (by omega)) hs, h.co.apart⟩, h.ids, ?_⟩
  · have e : (List.map encI k.Own).set j (patch (encI o) 0 [iD w]) = (k.Own.set j w).map encI := map_set encI k.Own j w
    rw [e] at hat; exact hat
  all_goals
    intro i' hi'
    have hne' : i' ≠ i := fun e => hi' (by rw [e]; exact hf)
    rw [hs i' hne']; exact h.ext i' hi'

/-- A line's cells are written. -/
theorem desk_line (h : DeskAt σ0 σ id d0 d1 d2 d3 d4 d5 k c0 c1 c2 c3 c4 c v0 v1 v2 v3 now was) {j n off : Nat} {x y : Ls} {ys : List D} (hj : k.Lines[j]? = some x) (hn : n = j) (ho : off + ys.length ≤ 8) (hp : patch x.enc off ys = y.enc) {K : Store → Prop}
    (hK : ∀ s', DeskAt σ0 s' id d0 d1 d2 d3 d4 d5 { k with Lines := k.Lines.set j y } c0 c1 c2 c3 c4 c v0 v1 v2 v3 now was → K s') : storeEl ys σ d4 n off K := by
  refine h.co.lines.at_.store h.co.lines.nsl (map_get hj) hn ho fun s' i hi hat hs hne => hK s' ?_
  have hf := own_id h.co.lines hi
  have ap : ∀ {m : Nat} {d : D}, [d0, d1, d2, d3, d4, d5][m]? = some d → m ≠ 4 → idOf d ≠ some i := fun hm hne0 => pw h.co.apart (i := 4) rfl hm (Ne.symm hne0) i hi
  have hii : i ≠ id := fun e => h.ids d4 (by simp) (by rw [hi, e])
  refine ⟨h.new, by rw [hs id (Ne.symm hii)]; exact h.row, ⟨own_other h.co.own hf (ap (m := 0) rfl (by omega)) hs, own_other h.co.routes hf (ap (m := 1) rfl (by omega)) hs, own_other h.co.points hf (ap (m := 2) rfl (by omega)) hs, own_other h.co.xs hf (ap (m := 3) rfl (by omega)) hs, ⟨?_, ?_, h.co.lines.new, h.co.lines.nsl, h.co.lines.nz⟩, own_other h.co.resets hf (ap (m := 5) rfl (by omega)) hs, h.co.apart⟩, h.ids, ?_⟩
  · rw [hp, map_set Ls.enc k.Lines j y] at hat; exact hat
  all_goals
    intro i' hi'
    have hne' : i' ≠ i := fun e => hi' (by rw [e]; exact hf)
    rw [hs i' hne']; exact h.ext i' hi'

/-- The state becomes dirty. -/
theorem desk_dirty (h : DeskAt σ0 σ id d0 d1 d2 d3 d4 d5 k c0 c1 c2 c3 c4 c v0 v1 v2 v3 now was) {K : Store → Prop}
    (hK : ∀ s', DeskAt σ0 s' id d0 d1 d2 d3 d4 d5 { k with Dirty := true } c0 c1 c2 c3 c4 c v0 v1 v2 v3 now was → K s') : storeEl [.bool true] σ (.osl id 0 1) 0 6 K := by
  refine cell_store h.row (by simp) fun s' r' hs => hK s' ?_
  have nt : ∀ {d : D}, d ∈ [d0, d1, d2, d3, d4, d5] → idOf d ≠ some id := fun hd => h.ids _ hd
  refine ⟨h.new, r', ⟨own_other h.co.own h.new (nt (by simp)) hs, own_other h.co.routes h.new (nt (by simp)) hs, own_other h.co.points h.new (nt (by simp)) hs, own_other h.co.xs h.new (nt (by simp)) hs, own_other h.co.lines h.new (nt (by simp)) hs, own_other h.co.resets h.new (nt (by simp)) hs, h.co.apart⟩, h.ids, ?_⟩
  intro i' hi'
  have hne' : i' ≠ id := fun e => hi' (by rw [e]; exact h.new)
  rw [hs i' hne']; exact h.ext i' hi'

abbrev dp (id : Nat) : D := .el (.osl id 0 1) 0 0

theorem desk_own_ok (h : DeskAt σ0 σ id d0 d1 d2 d3 d4 d5 k c0 c1 c2 c3 c4 c v0 v1 v2 v3 now was) {j : Nat} {o w : Int} (hj : k.Own[j]? = some o) :
    DCalls Try.prog n_block_desk_own [.one (dp id), iA j, iA w] σ fun r s => r = .tup [] ∧ DeskAt σ0 s id d0 d1 d2 d3 d4 d5 { k with Own := k.Own.set j w, Dirty := true } c0 c1 c2 c3 c4 c v0 v1 v2 v3 now was := by
  have hlt := (List.getElem?_eq_some_iff.1 hj).1
  refine W_block_desk_own (dp id) j w σ _ ⟨trivial, _, _, _, rfl, _, box_row h.row, d0, rfl, h.co.own.at_.idxK c_int rfl (by rw [List.length_map]; omega) (desk_own h hj (by omega) fun s1 h1 => ⟨trivial, _, _, _, rfl, desk_dirty h1 fun s2 h2 => ⟨rfl, h2⟩⟩)⟩
end
end Go.Proofs.Ytnochggjgopfeaa
end
section
set_option linter.unusedVariables false
set_option linter.unusedSimpArgs false
namespace Go.Proofs.Ytnochggjgopfeaa
open Go.Fw Go.Proofs Go.RowKit
variable {σ : Store}

section
variable {σ0 : Store} {id : Nat} {d0 d1 d2 d3 d4 d5 c0 c1 c2 c3 c4 v0 v1 v2 v3 : D} {k : Co} {c : Cf} {now : Int} {was : Bool} {occ : List Lk}

theorem lines_set_set {l : List Ls} {j : Nat} (a b : Ls) : (l.set j a).set j b = l.set j b := List.set_set ..

theorem desk_back_ok (h : DeskAt σ0 σ id d0 d1 d2 d3 d4 d5 k c0 c1 c2 c3 c4 c v0 v1 v2 v3 now was) (hv : ∀ s, At Try.prog s t_Look v0 (occ.map Lk.enc)) {line s : Nat} {x : Ls} {o : Int} {lk : Lk}
    (hx : k.Lines[line]? = some x) (ho : k.Own[s]? = some o) (hl : occ[s]? = some lk) :
    DCalls Try.prog n_block_desk_back [.one (dp id), .one (.el d4 line 0), iA s] σ fun r s' => r = .tup [] ∧ DeskAt σ0 s' id d0 d1 d2 d3 d4 d5 (backStep occ now k line s) c0 c1 c2 c3 c4 c v0 v1 v2 v3 now was := by
  have lrow : Row σ d4 line x.enc := h.co.lines.at_.row (map_get hx)
  have hb : backStep occ now k line s = if x.PDone < x.Grant then { k with Lines := k.Lines.set line { x with Since := 0 } }
      else if x.Since = 0 then { k with Lines := k.Lines.set line { x with Since := w64 (now + 1) } }
      else if lk.Valid = true ∧ lk.Value = 0 ∧ x.Since ≤ lk.Stamp then { k with Own := k.Own.set s 0, Dirty := true, Lines := k.Lines.set line { x with Since := 0 } }
      else k := by
    unfold backStep; rw [hx, hl]; rfl
  refine W_block_desk_back (dp id) (.el d4 line 0) s σ _ ⟨trivial, _, _, _, rfl, _, box_row h.row, v0, rfl, (hv σ).load (map_get hl) c_Look rfl ⟨lk.Value, lk.Stamp, lk.Valid, rfl, trivial, _, _, _, rfl, _, lrow, x.PDone, rfl, trivial, _, _, _, rfl, _, lrow, x.Grant, rfl, ?_⟩⟩
  refine bcd (fun h1 => ⟨trivial, _, _, _, rfl, desk_line h hx rfl (by simp) (y := { x with Since := 0 }) rfl fun s' h' => ⟨rfl, by rw [hb, if_pos h1]; exact h'⟩⟩) (fun h1 => ⟨trivial, _, _, _, rfl, _, lrow, x.Since, rfl, ?_⟩)
  rw [if_neg h1] at hb
  refine bce (fun h2 => ⟨trivial, _, _, _, rfl, _, box_row h.row, now, rfl, trivial, _, _, _, rfl, desk_line h hx rfl (by simp) (y := { x with Since := w64 (now + 1) }) rfl fun s' h' => ⟨rfl, by rw [hb, if_pos h2]; exact h'⟩⟩) (fun h2 => ?_)
  rw [if_neg h2] at hb
  have no : ¬ (lk.Valid = true ∧ lk.Value = 0 ∧ x.Since ≤ lk.Stamp) → (RV.tup [] = .tup [] ∧ DeskAt σ0 σ id d0 d1 d2 d3 d4 d5 (backStep occ now k line s) c0 c1 c2 c3 c4 c v0 v1 v2 v3 now was) := fun hn => ⟨rfl, by rw [hb, if_neg hn]; exact h⟩
  refine bc (fun h3 => bce (fun h4 => ⟨trivial, _, _, _, rfl, _, lrow, x.Since, rfl, bcd (fun h5 => ?_) (fun h5 => no fun g => h5 g.2.2)⟩) (fun h4 => no fun g => h4 g.2.1)) (fun h3 => no fun g => by rw [g.1] at h3; cases h3)
  refine (desk_own_ok h (w := 0) ho).mono ?_
  rintro r s' ⟨rfl, h'⟩
  refine ⟨rfl, trivial, _, _, _, rfl, desk_line h' (x := x) hx rfl (by simp) (y := { x with Since := 0 }) rfl fun s'' h'' => ⟨rfl, ?_⟩⟩
  rw [hb, if_pos ⟨h3, h4, h5⟩]; exact h''

theorem desk_may_ok (h : DeskAt σ0 σ id d0 d1 d2 d3 d4 d5 k c0 c1 c2 c3 c4 c v0 v1 v2 v3 now was) (hc : ∀ s, CfAt s c0 c1 c2 c3 c4 c) {line : Nat} {x : Ls} (s : Int) (hx : k.Lines[line]? = some x) :
    Pure Try.prog n_block_desk_may [.one (dp id), .one (.el d4 line 0), iA s] σ (.a (bA (mayOk c k x s))) := by
  have lrow : Row σ d4 line x.enc := h.co.lines.at_.row (map_get hx)
  have hl := h.co.routes.at_.size
  rw [List.length_map] at hl
  refine W_block_desk_may (dp id) (.el d4 line 0) s σ _ ⟨trivial, _, _, _, rfl, _, box_row h.row, d1, rfl, h.co.routes.at_.lenK ⟨fun n τ => τ = σ ∧ Rng k.Routes (fun r => apprL c s r n.toNat = apprL c s k.Routes 0) n, fun n _ => k.Routes.length - n.toNat, ⟨rfl, .start rfl⟩, ?_⟩⟩
  rintro n τ ⟨rfl, hr⟩
  refine bcd (fun hlt => ?_) (fun hge => ?_)
  · obtain ⟨j, y, rfl, hy, hj, hF, nx⟩ := hr.step (by simp) hl hlt
    rw [apprL, Int.toNat_natCast] at hF
    have hw : w64 ((j : Int) + 1) = ((j + 1 : Nat) : Int) := w64_succ (by omega)
    have go : (decide (y.State ≠ 0) && decide (c.Approach j = s)) = false → (τ = τ ∧ Rng k.Routes (fun r => apprL c s r (w64 ((j : Int) + 1)).toNat = apprL c s k.Routes 0) (w64 ((j : Int) + 1))) ∧ k.Routes.length - (w64 ((j : Int) + 1)).toNat < k.Routes.length - (j : Int).toNat := by
      intro hn
      rw [hn, Bool.false_or] at hF
      refine andl rfl (nx (fun r => apprL c s r (w64 ((j : Int) + 1)).toNat = apprL c s k.Routes 0) ?_)
      rw [hw]; exact hF
    refine h.co.routes.at_.load (map_get hy) c_RouteState rfl ⟨y.State, y.Since, y.Next, y.Mark, rfl, bcn (fun h1 => ⟨trivial, _, _, _, rfl, _, box_row h.row, c0, c1, c2, c3, c4, c.Age, c.Brake, c.Hold, c.Budget, rfl, (conf_Approach_ok (hc τ) j).use ⟨_, rfl, bce (fun h2 => ⟨?_, rfl⟩) (fun h2 => go (by simp [h2]))⟩⟩) (fun h1 => go (by simp [h1]))⟩
    have e : (decide (y.State ≠ 0) && decide (c.Approach j = s)) = true := by simp [h1, h2]
    rw [e, Bool.true_or] at hF
    rw [mayOk, ← hF]; rfl
  · have hF : false = apprL c s k.Routes 0 := hr.done (by simp) hge
    refine ⟨trivial, _, _, _, rfl, _, lrow, x.PAsk, rfl, trivial, _, _, _, rfl, _, lrow, x.Grant, rfl, trivial, _, _, _, rfl, _, lrow, x.PDone, rfl, bc (fun h1 => ⟨trivial, _, _, _, rfl, _, lrow, x.Ask, rfl, trivial, _, _, _, rfl, _, lrow, x.Done, rfl, ?_, rfl⟩) (fun h1 => ⟨?_, rfl⟩)⟩
    · rw [mayOk, ← hF, h1]
      congr 4
    · rw [mayOk, ← hF, h1]; rfl

theorem backStep_keeps (occ : List Lk) (now : Int) (k : Co) (l s : Nat) {x : Ls} (hx : k.Lines[l]? = some x) : ∃ y, (backStep occ now k l s).Lines[l]? = some y := by
  have hlt := (List.getElem?_eq_some_iff.1 hx).1
  have key : ∀ y : Ls, (k.Lines.set l y)[l]? = some y := fun y => by rw [List.getElem?_set_self hlt]
  unfold backStep
  simp only
  split
  · exact ⟨_, key _⟩
  split
  · exact ⟨_, key _⟩
  split
  · exact ⟨_, key _⟩
  · exact ⟨x, hx⟩

theorem desk_line_ok (h : DeskAt σ0 σ id d0 d1 d2 d3 d4 d5 k c0 c1 c2 c3 c4 c v0 v1 v2 v3 now was) (hc : ∀ s, CfAt s c0 c1 c2 c3 c4 c) (hv : ∀ s, At Try.prog s t_Look v0 (occ.map Lk.enc)) {line s : Nat} {x : Ls} {o : Int} {lk : Lk}
    (hx : k.Lines[line]? = some x) (ho : k.Own[s]? = some o) (hl : occ[s]? = some lk) :
    DCalls Try.prog n_block_desk_line [.one (dp id), .one (.el d4 line 0), iA s] σ fun r s' => r = .tup [] ∧ DeskAt σ0 s' id d0 d1 d2 d3 d4 d5 (lineStep c occ now was k line s) c0 c1 c2 c3 c4 c v0 v1 v2 v3 now was := by
  have lrow : Row σ d4 line x.enc := h.co.lines.at_.row (map_get hx)
  refine W_block_desk_line (dp id) (.el d4 line 0) s σ _ ⟨trivial, _, _, _, rfl, _, lrow, x.Grant, rfl, fun R hR => ?_⟩
  have fin : ∀ (k' : Co) (y : Ls) (s' : Store), k'.Lines[line]? = some y → DeskAt σ0 s' id d0 d1 d2 d3 d4 d5 k' c0 c1 c2 c3 c4 c v0 v1 v2 v3 now was →
      (if o = -2 then backStep occ now k line s else if o = 0 ∧ mayOk c k x s = true then { k with Own := k.Own.set s (-2), Dirty := true, Lines := k.Lines.set line { x with Grant := x.PAsk, Since := 0 } } else k) = k' → R s' := by
    intro k' y s' hy h' he
    have hstep : lineStep c occ now was k line s = if was = true then k' else { k' with Lines := k'.Lines.set line { y with Told := x.Grant } } := by
      unfold lineStep
      rw [hx, ho]
      simp only [Option.getD_some]
      rw [he, hy]
      rfl
    refine hR s' ⟨trivial, _, _, _, rfl, _, box_row h'.row, was, rfl, bcnot (fun hw => ⟨trivial, _, _, _, rfl, desk_line h' hy rfl (by simp) (y := { y with Told := x.Grant }) rfl fun s'' h'' => ⟨rfl, ?_⟩⟩) (fun hw => ⟨rfl, ?_⟩)⟩
    · rw [hstep, if_neg (by rw [hw]; simp)]; exact h''
    · rw [hstep, if_pos hw]; exact h'
  have hlt := (List.getElem?_eq_some_iff.1 hx).1
  refine ⟨trivial, _, _, _, rfl, _, box_row h.row, d0, rfl, h.co.own.at_.load (map_get ho) c_int rfl ⟨o, rfl, bce (fun h1 => ?_) (fun h1 => ⟨trivial, _, _, _, rfl, _, box_row h.row, d0, rfl, h.co.own.at_.load (map_get ho) c_int rfl ⟨o, rfl, bce (fun h2 => ?_) (fun h2 => ?_)⟩⟩)⟩⟩
  · refine (desk_back_ok h hv hx ho hl).mono ?_
    rintro r s' ⟨rfl, h'⟩
    obtain ⟨y, hy⟩ := backStep_keeps occ now k line s hx
    exact ⟨rfl, fin _ y s' hy h' (by rw [if_pos h1])⟩
  · refine (desk_may_ok h hc s hx).use ⟨_, rfl, bc (fun h3 => ?_) (fun h3 => fin k x σ hx h (by rw [if_neg h1, if_neg (by rw [h3]; simp)]))⟩
    refine (desk_own_ok h (w := -2) ho).mono ?_
    rintro r s1 ⟨rfl, g1⟩
    have lrow1 : Row s1 d4 line x.enc := g1.co.lines.at_.row (map_get hx)
    refine ⟨rfl, trivial, _, _, _, rfl, _, lrow1, x.PAsk, rfl, trivial, _, _, _, rfl, desk_line g1 (x := x) hx rfl (by simp) (y := { x with Grant := x.PAsk }) rfl fun s2 g2 => ⟨trivial, _, _, _, rfl, ?_⟩⟩
    refine desk_line g2 (x := { x with Grant := x.PAsk }) (List.getElem?_set_self hlt) rfl (by simp) (y := { x with Grant := x.PAsk, Since := 0 }) rfl fun s3 g3 => ?_
    refine fin _ { x with Grant := x.PAsk, Since := 0 } s3 (by rw [lines_set_set]; exact List.getElem?_set_self hlt) g3 ?_
    rw [if_neg h1, if_pos ⟨h2, h3⟩, lines_set_set]
  · exact fin k x σ hx h (by rw [if_neg h1, if_neg (fun g => h2 g.1)])
end
end Go.Proofs.Ytnochggjgopfeaa
end
section
namespace Go.Fw
structure Vw where
  Occ : List Lk
  Pos : List Lk
  Shut : List Lk
  Lamp : List Lk

def Vw.fits (c : Cf) (v : Vw) : Bool := decide (v.Occ.length = c.Secs.length ∧ v.Pos.length = c.Secs.length ∧ v.Shut.length = c.Xs.length ∧ v.Lamp.length = c.Sigs.length)

def stepRun (c : Cf) (occ : List Lk) (now : Int) (was : Bool) : List Nat → Co → Co
  | [], k => k
  | l :: r, k => stepRun c occ now was r (if 0 ≤ c.lineSec l then lineStep c occ now was k l (c.lineSec l).toNat else k)

def Co.stepC (c : Cf) (k : Co) (v : Vw) (now : Int) : Co × Int :=
  if k.fits c = false ∨ v.fits c = false then (k, 21) else if now < 0 ∨ now > 4294967295 then (k, 32) else (stepRun c v.Occ now k.Dirty [1, 2, 3] k, 0)

def Co.hearC (c : Cf) (k : Co) (line a d g : Int) : Co × Int :=
  if k.fits c = false then (k, 21) else if c.lineSec line < 0 then (k, 20)
  else if a < 0 ∨ d < 0 ∨ g < 0 ∨ a > 4294967295 ∨ d > 4294967295 ∨ g > 4294967295 then (k, 32)
  else ({ k with Lines := k.Lines.set line.toNat { (k.Lines[line.toNat]?).getD zLs with PAsk := a, PDone := d, PGrant := g } }, 0)

theorem lineStep_len (c : Cf) (occ : List Lk) (now : Int) (was : Bool) (k : Co) (l s : Nat) : (lineStep c occ now was k l s).Own.length = k.Own.length ∧ (lineStep c occ now was k l s).Lines.length = k.Lines.length := by
  have hb : (backStep occ now k l s).Own.length = k.Own.length ∧ (backStep occ now k l s).Lines.length = k.Lines.length := by
    unfold backStep
    simp only
    split
    · simp
    split
    · simp
    split <;> simp
  unfold lineStep
  simp only
  split
  · split
    · exact hb
    split <;> simp
  · split
    · simpa using hb
    split <;> simp

theorem fidx_get {α : Type} (p : α → Bool) : ∀ (l : List α) (j : Nat), fidx p l j ≠ -1 → ∃ (i : Nat) (x : α), l[i]? = some x ∧ p x = true
  | [], j, h => absurd rfl h
  | x :: r, j, h => by
    rw [fidx] at h
    by_cases hp : p x = true
    · exact ⟨0, x, rfl, hp⟩
    · rw [if_neg hp] at h
      obtain ⟨i, y, h1, h2⟩ := fidx_get p r (j + 1) h
      exact ⟨i + 1, y, by simpa using h1, h2⟩

theorem topo_line {secs : List Sec} {js : List Jt} (h : topoOk secs js = true) {i : Nat} {s : Sec} (hs : secs[i]? = some s) : 0 ≤ s.Line ∧ s.Line ≤ 3 := by
  unfold topoOk at h
  rw [Bool.and_eq_true] at h
  have h2 := h.2
  split at h2
  · cases h2
  · exact ((srun_iff _ _ _ _).1 h2 i s hs).2.2.1

theorem fits_line {c : Cf} {k : Co} (h : k.fits c = true) {line : Int} (hl : ¬ c.lineSec line < 0) : 1 ≤ line ∧ line ≤ 3 := by
  simp only [Co.fits, Bool.and_eq_true, decide_eq_true_eq] at h
  have ht := (check_small h.1).1
  unfold Cf.lineSec at hl
  split at hl
  · omega
  · obtain ⟨i, x, h1, h2⟩ := fidx_get (fun s : Sec => s.Line == line) c.Secs 0 (by omega)
    have := topo_line ht h1
    have e : x.Line = line := by simpa using h2
    omega
end Go.Fw
end
section
set_option linter.unusedVariables false
set_option linter.unusedSimpArgs false
namespace Go.Proofs.Ytnochggjgopfeaa
open Go.Fw Go.Proofs Go.RowKit
variable {σ : Store}

/-- A view's cells. -/
structure VwAt (v0 v1 v2 v3 : D) (v : Vw) : Prop where
  occ : ∀ s, At Try.prog s t_Look v0 (v.Occ.map Lk.enc)
  pos : ∀ s, At Try.prog s t_Look v1 (v.Pos.map Lk.enc)
  shut : ∀ s, At Try.prog s t_Look v2 (v.Shut.map Lk.enc)
  lamp : ∀ s, At Try.prog s t_Look v3 (v.Lamp.map Lk.enc)

/-- A state and an error are handed back; the state's lists are new. -/
def CoPost (σ : Store) (p : Co × Int) (r : RV) (s : Store) : Prop :=
  ∃ d0 d1 d2 d3 d4 d5, r = .tup [coA d0 d1 d2 d3 d4 d5 p.1.Dirty, iA p.2] ∧ CoOwn σ s d0 d1 d2 d3 d4 d5 p.1

section
variable {c0 c1 c2 c3 c4 v0 v1 v2 v3 k0 k1 k2 k3 k4 k5 : D} {c : Cf} {k : Co} {v : Vw}

/-- The state as it was, copied, and an error. -/
theorem open_err (h : CoAt σ k0 k1 k2 k3 k4 k5 k) (hf : CoFit k0 k1 k2 k3 k4 k5 k) (v0 v1 v2 v3 : D) (now : Int) (e : Int) {Q : RV → Store → Prop} (hQ : ∀ r s, CoPost σ (k, e) r s → Q r s) :
    DCalls Try.prog n_block_open [cfA c0 c1 c2 c3 c4 c, coA k0 k1 k2 k3 k4 k5 k.Dirty, .agg [v0, v1, v2, v3], iA now] σ fun r1 s1 => ∃ d : D, r1 = .a (.one d) ∧ NotNil d ∧ ∃ s : D, ∃ i off : Nat, d = .el s i off ∧ ∃ row : List D, Row s1 s i row ∧
      ∃ d1 d2 d3 d4 d5 d6 : D, ∃ b3 : Bool, List.take 7 (List.drop (off + 0) row) = [d1, d2, d3, d4, d5, d6, .bool b3] ∧ Q (.tup [.agg [d1, d2, d3, d4, d5, d6, .bool b3], .one (.int .i64 e)]) s1 := by
  refine (block_open_ok h hf v0 v1 v2 v3 now).mono ?_
  rintro r s ⟨id, d0, d1, d2, d3, d4, d5, rfl, hd⟩
  exact ⟨_, rfl, trivial, _, _, _, rfl, _, box_row hd.row, d0, d1, d2, d3, d4, d5, k.Dirty, rfl, hQ _ _ ⟨d0, d1, d2, d3, d4, d5, rfl, hd.co⟩⟩

theorem block_Step_ok (hc : ∀ s, CfAt s c0 c1 c2 c3 c4 c) (h : CoAt σ k0 k1 k2 k3 k4 k5 k) (hf : CoFit k0 k1 k2 k3 k4 k5 k) (hv : VwAt v0 v1 v2 v3 v) (now : Int) :
    DCalls Try.prog n_block_Step [cfA c0 c1 c2 c3 c4 c, coA k0 k1 k2 k3 k4 k5 k.Dirty, .agg [v0, v1, v2, v3], iA now] σ (CoPost σ (k.stepC c v now)) := by
  refine W_block_Step _ _ _ _ _ _ _ _ _ k0 k1 k2 k3 k4 k5 k.Dirty v0 v1 v2 v3 now σ _ ?_
  intro R hR R1 hR1
  have bad : (k.fits c = false ∨ v.fits c = false) → R1 true σ := fun hb => hR1 true σ (open_err h hf _ _ _ _ _ 21 fun r s hp => by
    have : k.stepC c v now = (k, 21) := by rw [Co.stepC, if_pos hb]
    rw [this]; exact hp)
  have vf : ∀ q : Prop, ¬ (v.Occ.length = c.Secs.length ∧ v.Pos.length = c.Secs.length ∧ v.Shut.length = c.Xs.length ∧ v.Lamp.length = c.Sigs.length) → v.fits c = false := fun q hn => decide_eq_false hn
  refine (locks_Fits_ok hc h).use ⟨_, rfl, bcnot (fun e => ⟨rfl, bad (.inl e)⟩) (fun e1 => ?_)⟩
  refine (hv.occ σ).lenK ((hc σ).secs.lenK (bcn (fun e => ⟨rfl, bad (.inr (vf True fun g => e (by simp only [List.length_map]; omega)))⟩) (fun e2 => ?_)))
  refine (hv.pos σ).lenK ((hc σ).secs.lenK (bcn (fun e => ⟨rfl, bad (.inr (vf True fun g => e (by simp only [List.length_map]; omega)))⟩) (fun e3 => ?_)))
  refine (hv.shut σ).lenK ((hc σ).xs.lenK (bcn (fun e => ⟨rfl, bad (.inr (vf True fun g => e (by simp only [List.length_map]; omega)))⟩) (fun e4 => ?_)))
  refine (hv.lamp σ).lenK ((hc σ).sigs.lenK ⟨rfl, ?_⟩)
  simp only [List.length_map] at e2 e3 e4 ⊢
  by_cases e5 : (v.Lamp.length : Int) = (c.Sigs.length : Int)
  rotate_left
  · have : ((v.Lamp.length : Int) != (c.Sigs.length : Int)) = true := by simpa using e5
    rw [this]; exact bad (.inr (vf True fun g => e5 (by omega)))
  have hb : ((v.Lamp.length : Int) != (c.Sigs.length : Int)) = false := by simpa using e5
  rw [hb]
  have hvf : v.fits c = true := decide_eq_true ⟨by omega, by omega, by omega, by omega⟩
  have hst : k.stepC c v now = if now < 0 ∨ now > 4294967295 then (k, 32) else (stepRun c v.Occ now k.Dirty [1, 2, 3] k, 0) := by
    rw [Co.stepC, if_neg (by rw [e1, hvf]; simp)]
  have hlen : k.lens c = true := by
    have := e1
    simp only [Co.fits, Bool.and_eq_true] at this
    exact this.2.1
  have hlen := of_decide_eq_true hlen
  refine hR1 false σ ?_
  show bcase (decide (now < 0)) _ _
  refine bcd (fun e => open_err h hf _ _ _ _ _ 32 fun r s hp => by rw [hst, if_pos (.inl e)]; exact hp) (fun e6 => bcd (fun e => open_err h hf _ _ _ _ _ 32 fun r s hp => by rw [hst, if_pos (.inr e)]; exact hp) (fun e7 => ?_))
  rw [if_neg (by omega)] at hst
  refine hR _ _ _ _ _ _ _ _ ((block_open_ok h hf v0 v1 v2 v3 now).mono ?_)
  rintro r s1 ⟨id, d0, d1, d2, d3, d4, d5, rfl, hd⟩
  refine ⟨_, rfl, fun n s => ∃ (j : Nat) (k' : Co), n = j ∧ 1 ≤ j ∧ j ≤ 4 ∧ k'.Own.length = c.Secs.length ∧ k'.Lines.length = 4 ∧ DeskAt σ s id d0 d1 d2 d3 d4 d5 k' c0 c1 c2 c3 c4 c v0 v1 v2 v3 now k.Dirty ∧
      stepRun c v.Occ now k.Dirty (List.range' j (4 - j)) k' = stepRun c v.Occ now k.Dirty [1, 2, 3] k, fun n _ => 4 - n.toNat, ⟨1, k, rfl, by omega, by omega, hlen.1, hlen.2.2.2.2.2, hd, rfl⟩, ?_⟩
  rintro _ s ⟨j, k', rfl, hj1, hj2, ho, hl, hd', hrun⟩
  refine bcd (fun hlt => (block_section_ok (hc s) j).use ⟨_, rfl, ?_⟩) (fun hge => ?_)
  · have hrj : List.range' j (4 - j) = j :: List.range' (j + 1) (4 - (j + 1)) := by
      rw [show 4 - j = (4 - (j + 1)) + 1 by omega, List.range'_succ]
    rw [hrj, stepRun] at hrun
    have hw : w64 ((j : Int) + 1) = ((j + 1 : Nat) : Int) := w64_succ (by omega)
    rw [hw]
    have hmu : 4 - ((j + 1 : Nat) : Int).toNat < 4 - ((j : Nat) : Int).toNat := by omega
    refine bcd (fun hs => ?_) (fun hs => ⟨rfl, ⟨j + 1, k', rfl, by omega, by omega, ho, hl, hd', by rw [if_neg (by omega)] at hrun; exact hrun⟩, hmu⟩)
    rw [if_pos (by omega)] at hrun
    have hsb := lineSec_bound c j
    obtain ⟨si, hsi⟩ : ∃ si : Nat, c.lineSec j = si := ⟨(c.lineSec j).toNat, by omega⟩
    rw [hsi] at hrun hsb ⊢
    rw [Int.toNat_natCast] at hrun
    obtain ⟨x, hx⟩ := get_of_lt (l := k'.Lines) (j := j) (by omega)
    obtain ⟨o, hok⟩ := get_of_lt (l := k'.Own) (j := si) (by omega)
    obtain ⟨lk, hlk⟩ := get_of_lt (l := v.Occ) (j := si) (by omega)
    refine ⟨trivial, _, _, _, rfl, _, box_row hd'.row, d4, rfl, hd'.co.lines.at_.idxK c_LineState rfl (by rw [List.length_map]; omega) ((desk_line_ok hd' hc hv.occ hx hok hlk).mono ?_)⟩
    rintro r s' ⟨rfl, hd''⟩
    have hll := lineStep_len c v.Occ now k.Dirty k' j si
    exact ⟨rfl, rfl, ⟨j + 1, _, rfl, by omega, by omega, by omega, by omega, hd'', hrun⟩, hmu⟩
  · have e : j = 4 := by omega
    subst e
    have hrun : k' = stepRun c v.Occ now k.Dirty [1, 2, 3] k := hrun
    refine ⟨trivial, _, _, _, rfl, _, box_row hd'.row, d0, d1, d2, d3, d4, d5, k'.Dirty, rfl, ?_⟩
    rw [hst, ← hrun]
    exact ⟨d0, d1, d2, d3, d4, d5, rfl, hd'.co⟩

theorem block_Hear_ok (hc : ∀ s, CfAt s c0 c1 c2 c3 c4 c) (h : CoAt σ k0 k1 k2 k3 k4 k5 k) (hf : CoFit k0 k1 k2 k3 k4 k5 k) (line a d g : Int) :
    DCalls Try.prog n_block_Hear [cfA c0 c1 c2 c3 c4 c, coA k0 k1 k2 k3 k4 k5 k.Dirty, iA line, .agg [iD a, iD d, iD g]] σ (CoPost σ (k.hearC c line a d g)) := by
  have oe : ∀ e : Int, k.hearC c line a d g = (k, e) → DCalls Try.prog n_block_open [cfA c0 c1 c2 c3 c4 c, coA k0 k1 k2 k3 k4 k5 k.Dirty, .agg [.nils, .nils, .nils, .nils], iA 0] σ fun r1 s1 => ∃ d' : D, r1 = .a (.one d') ∧ NotNil d' ∧ ∃ s : D, ∃ i off : Nat, d' = .el s i off ∧ ∃ row : List D, Row s1 s i row ∧
      ∃ d1 d2 d3 d4 d5 d6 : D, ∃ b3 : Bool, List.take 7 (List.drop (off + 0) row) = [d1, d2, d3, d4, d5, d6, .bool b3] ∧ CoPost σ (k.hearC c line a d g) (.tup [.agg [d1, d2, d3, d4, d5, d6, .bool b3], .one (.int .i64 e)]) s1 := fun e he =>
    open_err h hf _ _ _ _ _ e fun r s hp => by rw [he]; exact hp
  refine W_block_Hear _ _ _ _ _ _ _ _ _ k0 k1 k2 k3 k4 k5 k.Dirty line a d g σ _ ((locks_Fits_ok hc h).use ⟨_, rfl, bcnot (fun e => oe 21 (by rw [Co.hearC, if_pos e])) (fun e1 => (block_section_ok (hc σ) line).use ⟨_, rfl, ?_⟩)⟩)
  have h1 : k.hearC c line a d g = if c.lineSec line < 0 then (k, 20) else if a < 0 ∨ d < 0 ∨ g < 0 ∨ a > 4294967295 ∨ d > 4294967295 ∨ g > 4294967295 then (k, 32)
      else ({ k with Lines := k.Lines.set line.toNat { (k.Lines[line.toNat]?).getD zLs with PAsk := a, PDone := d, PGrant := g } }, 0) := by
    rw [Co.hearC, if_neg (by rw [e1]; simp)]
  refine bcd (fun e => oe 20 (by rw [h1, if_pos e])) (fun e2 => ?_)
  rw [if_neg e2] at h1
  refine bcd (fun e => oe 32 (by rw [h1, if_pos (by revert e; split <;> split <;> omega)])) (fun e3 => bcd (fun e => oe 32 (by rw [h1, if_pos (by revert e; split <;> split <;> omega)])) (fun e4 => ?_))
  rw [if_neg (by revert e3 e4; split <;> split <;> split <;> split <;> omega)] at h1
  have hlen : k.lens c = true := by
    have := e1
    simp only [Co.fits, Bool.and_eq_true] at this
    exact this.2.1
  have hlen := of_decide_eq_true hlen
  have hr : 1 ≤ line ∧ line ≤ 3 := fits_line e1 e2
  obtain ⟨x, hx⟩ := get_of_lt (l := k.Lines) (j := line.toNat) (by omega)
  refine (block_open_ok h hf _ _ _ _ _).mono ?_
  rintro r s1 ⟨id, d0, d1, d2, d3, d4, d5, rfl, hd⟩
  refine ⟨_, rfl, trivial, _, _, _, rfl, _, box_row hd.row, d4, rfl, hd.co.lines.at_.idxK (j := line.toNat) c_LineState (by omega) (by rw [List.length_map]; omega) (desk_line hd hx rfl (by simp) (y := { x with PAsk := a, PDone := d, PGrant := g }) rfl fun s' h' => ⟨trivial, _, _, _, rfl, _, box_row h'.row, d0, d1, d2, d3, d4, d5, k.Dirty, rfl, ?_⟩)⟩
  rw [h1, hx]
  exact ⟨d0, d1, d2, d3, d4, d5, rfl, h'.co⟩
end
end Go.Proofs.Ytnochggjgopfeaa
end
section
set_option linter.unusedVariables false
set_option linter.unusedSimpArgs false
namespace Go.Proofs.Ytnochggjgopfeaa
open Go.Fw Go.Proofs Go.RowKit
variable {σ : Store}

theorem own_frz {s : Store} {el : TypeId} {d : D} {rs : List (List D)} (h : Own Try.prog σ s el d rs) (hf : ∀ row ∈ rs, ∀ x ∈ row, Flat x) :
    ∃ d', Fz Try.prog s (fun i => σ i ≠ .free) d d' ∧ (∀ s'', At Try.prog s'' el d' rs) ∧ d' ≠ .zsl := by
  obtain ⟨d', h1, h2⟩ := ret_slice h.at_ h.ext h.new hf
  exact ⟨d', h1, h2, fun e => by subst e; cases h1; exact h.nz rfl⟩

theorem flat_ints {α : Type} (f : α → List D) (hf : ∀ a, ∀ d ∈ f a, Flat d) (l : List α) : ∀ row ∈ l.map f, ∀ d ∈ row, Flat d := by
  intro row hrow d hd
  obtain ⟨a, _, rfl⟩ := List.mem_map.1 hrow
  exact hf a d hd

/-- The state's lists lie nowhere in the store. -/
structure CoFz (d0 d1 d2 d3 d4 d5 : D) (k : Co) : Prop where
  at_ : ∀ s, CoAt s d0 d1 d2 d3 d4 d5 k
  n0 : d0 ≠ .zsl
  n1 : d1 ≠ .zsl
  n2 : d2 ≠ .zsl
  n3 : d3 ≠ .zsl
  n4 : d4 ≠ .zsl
  n5 : d5 ≠ .zsl

theorem co_frz {s : Store} {d0 d1 d2 d3 d4 d5 : D} {k : Co} (h : CoOwn σ s d0 d1 d2 d3 d4 d5 k) : ∃ e0 e1 e2 e3 e4 e5, FzL Try.prog s (fun i => σ i ≠ .free) [d0, d1, d2, d3, d4, d5, .bool k.Dirty] [e0, e1, e2, e3, e4, e5, .bool k.Dirty] ∧ CoFz e0 e1 e2 e3 e4 e5 k := by
  have fI : ∀ n : Int, ∀ d ∈ encI n, Flat d := fun n d hd => by simp [encI] at hd; subst hd; exact .int _ _
  have fR : ∀ r : Rs, ∀ d ∈ r.enc, Flat d := fun r d hd => by simp [Rs.enc] at hd; rcases hd with rfl | rfl | rfl | rfl <;> exact .int _ _
  have fM : ∀ r : Mv, ∀ d ∈ r.enc, Flat d := fun r d hd => by simp [Mv.enc] at hd; rcases hd with rfl | rfl <;> exact .int _ _
  have fL : ∀ r : Ls, ∀ d ∈ r.enc, Flat d := fun r d hd => by simp [Ls.enc] at hd; rcases hd with rfl | rfl | rfl | rfl | rfl | rfl | rfl | rfl <;> exact .int _ _
  obtain ⟨e0, a0, b0, n0⟩ := own_frz h.own (flat_ints _ fI _)
  obtain ⟨e1, a1, b1, n1⟩ := own_frz h.routes (flat_ints _ fR _)
  obtain ⟨e2, a2, b2, n2⟩ := own_frz h.points (flat_ints _ fM _)
  obtain ⟨e3, a3, b3, n3⟩ := own_frz h.xs (flat_ints _ fM _)
  obtain ⟨e4, a4, b4, n4⟩ := own_frz h.lines (flat_ints _ fL _)
  obtain ⟨e5, a5, b5, n5⟩ := own_frz h.resets (flat_ints _ fI _)
  exact ⟨e0, e1, e2, e3, e4, e5, .cons a0 (.cons a1 (.cons a2 (.cons a3 (.cons a4 (.cons a5 (.cons (.bool _) .nil)))))), ⟨fun s => ⟨b0 s, b1 s, b2 s, b3 s, b4 s, b5 s⟩, n0, n1, n2, n3, n4, n5⟩⟩

def CoPostZ (σ : Store) (p : Co × Int) (r : RV) (s : Store) : Prop := s = σ ∧ ∃ d0 d1 d2 d3 d4 d5, r = .tup [coA d0 d1 d2 d3 d4 d5 p.1.Dirty, iA p.2] ∧ CoFz d0 d1 d2 d3 d4 d5 p.1

theorem post_frz {f : FuncId} {as0' : List A} {p : Co × Int} (h : DCalls Try.prog f as0' σ (CoPost σ p)) : DCalls Try.prog f as0' σ (CoPostZ σ p) := by
  refine h.ret ?_
  rintro r s ⟨d0, d1, d2, d3, d4, d5, rfl, hco⟩
  obtain ⟨e0, e1, e2, e3, e4, e5, hfz, hz⟩ := co_frz hco
  refine ⟨.tup [coA e0 e1 e2 e3 e4 e5 p.1.Dirty, iA p.2], σ, .pure hco.own.ext ⟨rfl, fun i x y h1 h2 => ?_⟩, rfl, _, _, _, _, _, _, rfl, hz⟩
  rcases i with _ | _ | i
  · simp at h1 h2; subst h1 h2; exact hfz
  · simp at h1 h2; subst h1 h2; exact .int _ _
  · simp at h1
end Go.Proofs.Ytnochggjgopfeaa
end
section
set_option linter.unusedVariables false
set_option linter.unusedSimpArgs false
namespace Go.Fw
variable {P : Program}

/-- What a cell holds. -/
inductive Cs
  | int (k : IntKind)
  | bool
  | str
  | sl (e : TypeId)

def fieldsSh (g : TypeId → Option (List Cs)) : List Field → Option (List Cs)
  | [] => some []
  | f :: fs => match g f.type, fieldsSh g fs with
    | some a, some b => some (a ++ b)
    | _, _ => none

def cellsSh (P : Program) : Nat → TypeId → Option (List Cs)
  | 0, _ => none
  | m + 1, t => match P.underlying t with
    | some .bool => some [.bool]
    | some (.int k) => some [.int k]
    | some .string => some [.str]
    | some (.slice e) => some [.sl e]
    | some (.struct fs) => fieldsSh (cellsSh P m) fs.toList
    | some (.array k e) => (cellsSh P m e).map fun l => (List.replicate k l).flatten
    | _ => none

def CsOk (P : Program) : Cs → D → Prop
  | .int k, d => ∃ m, d = .int k m ∧ (Lit.int k m).wf = true
  | .bool, d => ∃ b, d = .bool b
  | .str, d => ∃ s, d = .str s ∧ s.size ≤ 140737488351232
  | .sl e, d => d = .nils ∨ ∃ rows, d = .sl (P.cellsOf e) rows ∧ rows.length * P.bytesOf e ≤ 140737488351232 ∧ ∀ row ∈ rows, ∃ n, tyD P n e row

def CsL (P : Program) : List Cs → List D → Prop
  | [], ds => ds = []
  | s :: ss, ds => ∃ d r, ds = d :: r ∧ CsOk P s d ∧ CsL P ss r

theorem CsL.append {a b : List Cs} {x y : List D} (h1 : CsL P a x) (h2 : CsL P b y) : CsL P (a ++ b) (x ++ y) := by
  induction a generalizing x with
  | nil => simp only [CsL] at h1; subst h1; exact h2
  | cons s a ih =>
    obtain ⟨d, r, rfl, q1, q2⟩ := h1
    exact ⟨d, r ++ y, rfl, q1, ih q2⟩

theorem fields_sh {g : TypeId → Option (List Cs)} {ty : TypeId → List D → Prop} (ih : ∀ t ds shs, ty t ds → g t = some shs → CsL P shs ds) : ∀ (fs : List Field) (ds : List D) (shs : List Cs), tyF P ty fs ds → fieldsSh g fs = some shs → CsL P shs ds
  | [], ds, shs, h1, h2 => by
    simp only [tyF] at h1; simp only [fieldsSh] at h2
    cases h2; subst h1; rfl
  | f :: fs, ds, shs, h1, h2 => by
    obtain ⟨a, b, rfl, _, q1, q2⟩ := h1
    rw [fieldsSh] at h2
    split at h2
    · rename_i x y e1 e2
      cases h2
      exact (ih _ _ _ q1 e1).append (fields_sh ih fs b y q2 e2)
    · cases h2

theorem rep_sh {ty : TypeId → List D → Prop} {e : TypeId} {l : List Cs} (ih : ∀ ds, ty e ds → CsL P l ds) : ∀ (k : Nat) (ds : List D), tyR P ty e k ds → CsL P (List.replicate k l).flatten ds
  | 0, ds, h => by simp only [tyR] at h; subst h; rfl
  | k + 1, ds, h => by
    obtain ⟨a, b, rfl, _, q1, q2⟩ := h
    rw [List.replicate_succ, List.flatten_cons]
    exact (ih a q1).append (rep_sh ih k b q2)

/-- The cells of a value of a plain type, one by one. -/
theorem ty_sh : ∀ (n m : Nat) (t : TypeId) (ds : List D) (shs : List Cs), tyD P n t ds → cellsSh P m t = some shs → CsL P shs ds
  | 0, _, _, _, _, h, _ => h.elim
  | _ + 1, 0, _, _, _, _, h => by cases h
  | n + 1, m + 1, t, ds, shs, h1, h2 => by
    unfold tyD at h1
    unfold cellsSh at h2
    split at h1
    · rename_i hu
      rw [hu] at h2; cases h2
      obtain ⟨b, rfl⟩ := h1
      exact ⟨_, _, rfl, ⟨b, rfl⟩, rfl⟩
    · rename_i k hu
      rw [hu] at h2; cases h2
      obtain ⟨b, rfl, hw⟩ := h1
      exact ⟨_, _, rfl, ⟨b, rfl, hw⟩, rfl⟩
    · rename_i hu
      rw [hu] at h2; cases h2
      obtain ⟨b, rfl, hw⟩ := h1
      exact ⟨_, _, rfl, ⟨b, rfl, hw⟩, rfl⟩
    · rename_i e hu
      rw [hu] at h2; cases h2
      rcases h1 with rfl | ⟨rows, rfl, q1, q2⟩
      · exact ⟨_, _, rfl, .inl rfl, rfl⟩
      · exact ⟨_, _, rfl, .inr ⟨rows, rfl, q1, fun row hr => ⟨n, q2 row hr⟩⟩, rfl⟩
    · rename_i fs hu
      rw [hu] at h2
      exact fields_sh (fun t ds shs a b => ty_sh n m t ds shs a b) fs.toList ds shs h1 h2
    · rename_i k e hu
      rw [hu] at h2
      simp only [Option.map_eq_some_iff] at h2
      obtain ⟨l, e1, rfl⟩ := h2
      exact rep_sh (fun ds a => ty_sh n m e ds l a e1) k ds h1
    · exact h1.elim

/-- A whole number of Go's int. -/
def I64 (n : Int) : Prop := -9223372036854775808 ≤ n ∧ n ≤ 9223372036854775807

theorem wf_i64 {n : Int} (h : (Lit.int .i64 n).wf = true) : I64 n := by
  simp only [Lit.wf, IntKind.min, IntKind.max, IntKind.signed, IntKind.bits, Bool.and_eq_true, decide_eq_true_eq, if_true] at h
  unfold I64
  omega

theorem I64.w {n : Int} (h : I64 n) : w64 n = n := w64_id h.1 h.2

/-- A slice's rows, each of them one's. -/
theorem sh_rel {α : Type} {e : TypeId} {d : D} {bytes : Nat} (R : List D → α → Prop) (hf : ∀ row n, tyD P n e row → ∃ a, R row a) (hb : P.bytesOf e = bytes) (hb0 : 0 < bytes) (h : CsOk P (.sl e) d) :
    ∃ (rows : List (List D)) (l : List α), (∀ s, At P s e d rows) ∧ rows.length = l.length ∧ (∀ (i : Nat) row a, rows[i]? = some row → l[i]? = some a → R row a) ∧ d ≠ .zsl ∧ bytes * l.length ≤ 140737488351232 := by
  rcases h with rfl | ⟨rows, rfl, q1, q2⟩
  · exact ⟨[], [], fun s => .nil, rfl, fun i row a h => by simp at h, (by intro e; cases e), by simp⟩
  · have key : ∀ rows : List (List D), (∀ row ∈ rows, ∃ n, tyD P n e row) → ∃ l : List α, rows.length = l.length ∧ ∀ (i : Nat) row a, rows[i]? = some row → l[i]? = some a → R row a := by
      intro rows
      induction rows with
      | nil => intro _; exact ⟨[], rfl, fun i row a h => by simp at h⟩
      | cons r rs ih =>
        intro hr
        obtain ⟨l, e1, e2⟩ := ih fun row h => hr row (by simp [h])
        obtain ⟨n, hn⟩ := hr r (by simp)
        obtain ⟨a, ha⟩ := hf r n hn
        refine ⟨a :: l, by simp [e1], fun i row b h1 h2 => ?_⟩
        cases i with
        | zero => simp at h1 h2; subst h1 h2; exact ha
        | succ i => exact e2 i row b (by simpa using h1) (by simpa using h2)
    obtain ⟨l, hl, hR⟩ := key rows q2
    rw [hb, hl] at q1
    have q3 : bytes * l.length ≤ 140737488351232 := by rw [Nat.mul_comm]; exact q1
    have h1 : 1 * l.length ≤ bytes * l.length := Nat.mul_le_mul_right _ hb0
    refine ⟨rows, l, fun s => ⟨⟨rfl, .inr rfl⟩, by omega, fun es rows e => ?_⟩, hl, hR, (by intro e; cases e), q3⟩
    injection e with e1 e2
    exact e1.symm

/-- A slice's rows, each the cells of one. -/
theorem sh_rows {α : Type} {e : TypeId} {d : D} {bytes : Nat} (f : α → List D) (Q : α → Prop) (hf : ∀ row n, tyD P n e row → ∃ a, row = f a ∧ Q a) (hb : P.bytesOf e = bytes) (hb0 : 0 < bytes) (h : CsOk P (.sl e) d) :
    ∃ l : List α, (∀ s, At P s e d (l.map f)) ∧ (∀ a ∈ l, Q a) ∧ d ≠ .zsl ∧ bytes * l.length ≤ 140737488351232 := by
  rcases h with rfl | ⟨rows, rfl, q1, q2⟩
  · exact ⟨[], fun s => .nil, fun a ha => by simp at ha, (by intro e; cases e), by simp⟩
  · have key : ∀ rows : List (List D), (∀ row ∈ rows, ∃ n, tyD P n e row) → ∃ l : List α, l.map f = rows ∧ ∀ a ∈ l, Q a := by
      intro rows
      induction rows with
      | nil => intro _; exact ⟨[], rfl, fun a ha => by simp at ha⟩
      | cons r rs ih =>
        intro hr
        obtain ⟨l, e1, e2⟩ := ih fun row h => hr row (by simp [h])
        obtain ⟨n, hn⟩ := hr r (by simp)
        obtain ⟨a, rfl, ha⟩ := hf r n hn
        refine ⟨a :: l, by simp [e1], fun b hb => ?_⟩
        simp only [List.mem_cons] at hb
        rcases hb with rfl | hb
        · exact ha
        · exact e2 b hb
    obtain ⟨l, rfl, hl⟩ := key rows q2
    rw [hb, List.length_map] at q1
    have q3 : bytes * l.length ≤ 140737488351232 := by rw [Nat.mul_comm]; exact q1
    have h1 : 1 * l.length ≤ bytes * l.length := Nat.mul_le_mul_right _ hb0
    refine ⟨l, fun s => ⟨⟨rfl, .inr rfl⟩, by rw [List.length_map]; omega, fun es rows e => ?_⟩, hl, (by intro e; cases e), q3⟩
    injection e with e1 e2
    exact e1.symm
theorem tya_one {t : TypeId} {x : A} (h : TyA P t x) (hg : isAggT P t = some false) : ∃ d n, x = .one d ∧ tyD P n t [d] := by
  cases x with
  | one d => exact ⟨d, 30, rfl, h.2⟩
  | agg cs => have := h.1; rw [hg] at this; cases this

theorem tya_agg {t : TypeId} {x : A} (h : TyA P t x) (hg : isAggT P t = some true) : ∃ cs n, x = .agg cs ∧ tyD P n t cs := by
  cases x with
  | one d => have := h.1; rw [hg] at this; cases this
  | agg cs => exact ⟨cs, 30, rfl, h.2⟩

theorem tys_cons {t : TypeId} {ts : List TypeId} {as0 : List A} (h : TyAs P (t :: ts) as0) : ∃ a r, as0 = a :: r ∧ TyA P t a ∧ TyAs P ts r := h
theorem tys_nil {as0 : List A} (h : TyAs P [] as0) : as0 = [] := h

/-- A value of a plain type, all zero. -/
def csZero : Cs → Value
  | .int k => .int k 0
  | .bool => .bool false
  | .str => .string .empty
  | .sl _ => .slice none 0 0

def zeroArg (P : Program) (t : TypeId) : Value := match isAggT P t, cellsSh P 9 t with
  | some true, some l => .agg (l.map csZero).toArray
  | _, some [c] => csZero c
  | _, _ => .int .i64 0
end Go.Fw
namespace Go.Fw
/-- A law's answer and arguments. -/
theorem law_fn1 {H : Type} {s : List (DataW H) → Left H} {ds : List (DataW H)} (h : ds.length = 1) (hs : ∀ a, s [a] = { results := [.lit (.bool true)], args := [a] } := by intros; rfl) : s ds = { results := [.lit (.bool true)], args := ds } := by
  match ds, h with
  | [a], _ => exact hs a
theorem law_fn2 {H : Type} {s : List (DataW H) → Left H} {ds : List (DataW H)} (h : ds.length = 2) (hs : ∀ a b, s [a, b] = { results := [.lit (.bool true)], args := [a, b] } := by intros; rfl) : s ds = { results := [.lit (.bool true)], args := ds } := by
  match ds, h with
  | [a, b], _ => exact hs a b
theorem law_fn3 {H : Type} {s : List (DataW H) → Left H} {ds : List (DataW H)} (h : ds.length = 3) (hs : ∀ a b c, s [a, b, c] = { results := [.lit (.bool true)], args := [a, b, c] } := by intros; rfl) : s ds = { results := [.lit (.bool true)], args := ds } := by
  match ds, h with
  | [a, b, c], _ => exact hs a b c
theorem law_fn4 {H : Type} {s : List (DataW H) → Left H} {ds : List (DataW H)} (h : ds.length = 4) (hs : ∀ a b c d, s [a, b, c, d] = { results := [.lit (.bool true)], args := [a, b, c, d] } := by intros; rfl) : s ds = { results := [.lit (.bool true)], args := ds } := by
  match ds, h with
  | [a, b, c, d], _ => exact hs a b c d
theorem law_fn5 {H : Type} {s : List (DataW H) → Left H} {ds : List (DataW H)} (h : ds.length = 5) (hs : ∀ a b c d e, s [a, b, c, d, e] = { results := [.lit (.bool true)], args := [a, b, c, d, e] } := by intros; rfl) : s ds = { results := [.lit (.bool true)], args := ds } := by
  match ds, h with
  | [a, b, c, d, e], _ => exact hs a b c d e
end Go.Fw
namespace Go.Fw
/-- How far two lists have been found alike. -/
def EqR {α : Type} (la lb : List α) (n : Int) : Prop := ∃ j : Nat, n = j ∧ j ≤ la.length ∧ la.take j = lb.take j

theorem EqR.start {α : Type} (la lb : List α) : EqR la lb 0 := ⟨0, rfl, by omega, by simp⟩

theorem EqR.step {α : Type} {la lb : List α} {n : Int} {m : Nat} (h : EqR la lb n) (hl : la.length = lb.length) (hm : m = la.length) (hs : la.length < 2 ^ 60) (hlt : n < (m : Int)) :
    ∃ (j : Nat) (x y : α), n = j ∧ la[j]? = some x ∧ lb[j]? = some y ∧ (x ≠ y → la ≠ lb) ∧ (x = y → EqR la lb (w64 (n + 1)) ∧ la.length - (w64 (n + 1)).toNat < la.length - n.toNat) := by
  obtain ⟨j, rfl, hj, hF⟩ := h
  have hj' : j < la.length := by omega
  obtain ⟨x, hx⟩ := get_of_lt hj'
  obtain ⟨y, hy⟩ := get_of_lt (l := lb) (j := j) (by omega)
  refine ⟨j, x, y, rfl, hx, hy, fun hne e => ?_, fun e => ?_⟩
  · subst e; rw [hx] at hy; cases hy; exact hne rfl
  · rw [w64_succ (by omega)]
    refine ⟨⟨j + 1, rfl, by omega, ?_⟩, by omega⟩
    rw [List.take_add_one, List.take_add_one, hF, hx, hy, e]

theorem EqR.done {α : Type} {la lb : List α} {n : Int} {m : Nat} (h : EqR la lb n) (hl : la.length = lb.length) (hm : m = la.length) (hge : ¬ n < (m : Int)) : la = lb := by
  obtain ⟨j, rfl, hj, hF⟩ := h
  have : j = la.length := by omega
  rw [List.take_of_length_le (by omega), List.take_of_length_le (by omega)] at hF
  exact hF
end Go.Fw
namespace Go.Fw
/-- An argument of one cell. -/
theorem tya_cell {P : Program} {t : TypeId} {x : A} {c : Cs} (h : TyA P t x) (hg : isAggT P t = some false) (hs : cellsSh P 5 t = some [c]) : ∃ d, x = .one d ∧ CsOk P c d := by
  obtain ⟨d, n, rfl, h1⟩ := tya_one h hg
  obtain ⟨d', r, e, h2, h3⟩ := ty_sh n 5 t _ _ h1 hs
  have : d = d' := by injection e
  exact ⟨d, rfl, this ▸ h2⟩
theorem tya_int {P : Program} {t : TypeId} {x : A} (h : TyA P t x) (hg : isAggT P t = some false) (hs : cellsSh P 5 t = some [.int .i64]) : ∃ m, x = iA m ∧ I64 m := by
  obtain ⟨d, rfl, m, rfl, hm⟩ := tya_cell h hg hs
  exact ⟨m, rfl, wf_i64 hm⟩
theorem tya_cells {P : Program} {t : TypeId} {x : A} {l : List Cs} (h : TyA P t x) (hg : isAggT P t = some true) (hs : cellsSh P 7 t = some l) : ∃ ds, x = .agg ds ∧ CsL P l ds := by
  obtain ⟨cs, n, rfl, h1⟩ := tya_agg h hg
  exact ⟨cs, rfl, ty_sh n 7 t _ _ h1 hs⟩
end Go.Fw
end
section
set_option linter.unusedVariables false
set_option linter.unusedSimpArgs false
namespace Go.Proofs.Ytnochggjgopfeaa
open Go.Fw Go.Proofs Go.RowKit

theorem ty_i {row : List D} {n : Nat} (h : tyD Try.prog n t_int row) : ∃ m, row = encI m ∧ I64 m := by
  obtain ⟨_, _, rfl, ⟨m, rfl, hm⟩, rfl⟩ := ty_sh n 2 _ _ [.int .i64] h (by kernel_rfl)
  exact ⟨m, rfl, wf_i64 hm⟩

theorem ty_i2 {t : TypeId} {row : List D} {n : Nat} (h : tyD Try.prog n t row) (hs : cellsSh Try.prog 5 t = some [.int .i64, .int .i64]) : ∃ a b, row = [iD a, iD b] ∧ I64 a ∧ I64 b := by
  obtain ⟨_, _, rfl, ⟨a, rfl, ha⟩, _, _, rfl, ⟨b, rfl, hb⟩, rfl⟩ := ty_sh n 5 _ _ _ h hs
  exact ⟨a, b, rfl, wf_i64 ha, wf_i64 hb⟩

theorem ty_i3 {t : TypeId} {row : List D} {n : Nat} (h : tyD Try.prog n t row) (hs : cellsSh Try.prog 5 t = some [.int .i64, .int .i64, .int .i64]) : ∃ a b c, row = [iD a, iD b, iD c] ∧ I64 a ∧ I64 b ∧ I64 c := by
  obtain ⟨_, _, rfl, ⟨a, rfl, ha⟩, _, _, rfl, ⟨b, rfl, hb⟩, _, _, rfl, ⟨c, rfl, hc⟩, rfl⟩ := ty_sh n 5 _ _ _ h hs
  exact ⟨a, b, c, rfl, wf_i64 ha, wf_i64 hb, wf_i64 hc⟩

theorem ty_i4 {t : TypeId} {row : List D} {n : Nat} (h : tyD Try.prog n t row) (hs : cellsSh Try.prog 5 t = some [.int .i64, .int .i64, .int .i64, .int .i64]) : ∃ a b c d, row = [iD a, iD b, iD c, iD d] ∧ I64 a ∧ I64 b ∧ I64 c ∧ I64 d := by
  obtain ⟨_, _, rfl, ⟨a, rfl, ha⟩, _, _, rfl, ⟨b, rfl, hb⟩, _, _, rfl, ⟨c, rfl, hc⟩, _, _, rfl, ⟨d, rfl, hd⟩, rfl⟩ := ty_sh n 5 _ _ _ h hs
  exact ⟨a, b, c, d, rfl, wf_i64 ha, wf_i64 hb, wf_i64 hc, wf_i64 hd⟩

theorem ty_Section {row : List D} {n : Nat} (h : tyD Try.prog n t_Section row) : ∃ s : Sec, row = s.enc ∧ I64 s.Kind ∧ I64 s.OC ∧ I64 s.Line := by
  obtain ⟨a, b, c, rfl, q⟩ := ty_i3 h (by kernel_rfl)
  exact ⟨⟨a, b, c⟩, rfl, q⟩
theorem ty_Joint {row : List D} {n : Nat} (h : tyD Try.prog n t_Joint row) : ∃ s : Jt, row = s.enc ∧ I64 s.A ∧ I64 s.AEnd ∧ I64 s.B ∧ I64 s.BEnd := by
  obtain ⟨a, b, c, d, rfl, q⟩ := ty_i4 h (by kernel_rfl)
  exact ⟨⟨a, b, c, d⟩, rfl, q⟩
theorem ty_Signal {row : List D} {n : Nat} (h : tyD Try.prog n t_Signal row) : ∃ s : Sg, row = s.enc ∧ I64 s.Sec ∧ I64 s.End_ := by
  obtain ⟨a, b, rfl, q⟩ := ty_i2 h (by kernel_rfl)
  exact ⟨⟨a, b⟩, rfl, q⟩
theorem ty_Step {row : List D} {n : Nat} (h : tyD Try.prog n t_Step row) : ∃ s : St, row = s.enc ∧ I64 s.Sec ∧ I64 s.In ∧ I64 s.Out := by
  obtain ⟨a, b, c, rfl, q⟩ := ty_i3 h (by kernel_rfl)
  exact ⟨⟨a, b, c⟩, rfl, q⟩
theorem ty_Need {row : List D} {n : Nat} (h : tyD Try.prog n t_Need row) : ∃ s : Nd, row = s.enc ∧ I64 s.Sec ∧ I64 s.Pos := by
  obtain ⟨a, b, rfl, q⟩ := ty_i2 h (by kernel_rfl)
  exact ⟨⟨a, b⟩, rfl, q⟩

/-- A route's numbers are Go's. -/
structure RtI (r : Rt) : Prop where
  entry : I64 r.Entry
  exit : I64 r.Exit
  path : ∀ s ∈ r.Path, I64 s.Sec ∧ I64 s.In ∧ I64 s.Out
  flank : ∀ s ∈ r.Flank, I64 s.Sec ∧ I64 s.Pos
  over : ∀ o ∈ r.Overlap, I64 o
  np : 24 * r.Path.length ≤ 140737488351232
  nf : 16 * r.Flank.length ≤ 140737488351232
  no : 8 * r.Overlap.length ≤ 140737488351232

theorem ty_Route {row : List D} {n : Nat} (h : tyD Try.prog n t_Route row) : ∃ r : Rt, (∀ s, RtAt Try.prog t_Step t_Need t_int s row r) ∧ RtI r := by
  obtain ⟨_, _, rfl, ⟨a, rfl, ha⟩, _, _, rfl, ⟨b, rfl, hb⟩, d1, _, rfl, h1, d2, _, rfl, h2, d3, _, rfl, h3, _, _, rfl, ⟨sh, rfl⟩, rfl⟩ := ty_sh n 5 _ _ [.int .i64, .int .i64, .sl t_Step, .sl t_Need, .sl t_int, .bool] h (by kernel_rfl)
  obtain ⟨l1, a1, b1, _, e1⟩ := sh_rows (bytes := 24) St.enc _ (fun row n h => ty_Step h) (by kernel_rfl) (by omega) h1
  obtain ⟨l2, a2, b2, _, e2⟩ := sh_rows (bytes := 16) Nd.enc _ (fun row n h => ty_Need h) (by kernel_rfl) (by omega) h2
  obtain ⟨l3, a3, b3, _, e3⟩ := sh_rows (bytes := 8) encI _ (fun row n h => ty_i h) (by kernel_rfl) (by omega) h3
  exact ⟨⟨a, b, l1, l2, l3, sh⟩, fun s => ⟨d1, d2, d3, rfl, a1 s, a2 s, a3 s⟩, wf_i64 ha, wf_i64 hb, b1, b2, b3, e1, e2, e3⟩

/-- A configuration's numbers are Go's. -/
structure CfI (c : Cf) : Prop where
  secs : ∀ s ∈ c.Secs, I64 s.Kind ∧ I64 s.OC ∧ I64 s.Line
  jts : ∀ s ∈ c.Jts, I64 s.A ∧ I64 s.AEnd ∧ I64 s.B ∧ I64 s.BEnd
  sigs : ∀ s ∈ c.Sigs, I64 s.Sec ∧ I64 s.End_
  xs : ∀ s ∈ c.Xs, I64 s
  rts : ∀ r ∈ c.Rts, RtI r
  age : I64 c.Age
  brake : I64 c.Brake
  hold : I64 c.Hold
  budget : I64 c.Budget
  nsecs : 24 * c.Secs.length ≤ 140737488351232
  njts : 32 * c.Jts.length ≤ 140737488351232
  nsigs : 16 * c.Sigs.length ≤ 140737488351232
  nxs : 8 * c.Xs.length ≤ 140737488351232
  nrts : 96 * c.Rts.length ≤ 140737488351232

theorem ty_Config {cs : List D} {n : Nat} (h : tyD Try.prog n t_Config cs) : ∃ c0 c1 c2 c3 c4 c, cs = [c0, c1, c2, c3, c4, iD c.Age, iD c.Brake, iD c.Hold, iD c.Budget] ∧ (∀ s, CfAt s c0 c1 c2 c3 c4 c) ∧ CfI c := by
  obtain ⟨c0, _, rfl, h0, c1, _, rfl, h1, c2, _, rfl, h2, c3, _, rfl, h3, c4, _, rfl, h4, _, _, rfl, ⟨a, rfl, ha⟩, _, _, rfl, ⟨b, rfl, hb⟩, _, _, rfl, ⟨ho, rfl, hho⟩, _, _, rfl, ⟨bu, rfl, hbu⟩, rfl⟩ :=
    ty_sh n 5 _ _ [.sl t_Section, .sl t_Joint, .sl t_Signal, .sl t_int, .sl t_Route, .int .i64, .int .i64, .int .i64, .int .i64] h (by kernel_rfl)
  obtain ⟨l0, a0, b0, _, e0⟩ := sh_rows (bytes := 24) Sec.enc _ (fun row n h => ty_Section h) (by kernel_rfl) (by omega) h0
  obtain ⟨l1, a1, b1, _, e1⟩ := sh_rows (bytes := 32) Jt.enc _ (fun row n h => ty_Joint h) (by kernel_rfl) (by omega) h1
  obtain ⟨l2, a2, b2, _, e2⟩ := sh_rows (bytes := 16) Sg.enc _ (fun row n h => ty_Signal h) (by kernel_rfl) (by omega) h2
  obtain ⟨l3, a3, b3, _, e3⟩ := sh_rows (bytes := 8) encI _ (fun row n h => ty_i h) (by kernel_rfl) (by omega) h3
  obtain ⟨rows, l4, a4, q4, b4, _, e4⟩ := sh_rel (bytes := 96) (fun row r => (∀ s, RtAt Try.prog t_Step t_Need t_int s row r) ∧ RtI r) (fun row n h => ty_Route h) (by kernel_rfl) (by omega) h4
  refine ⟨c0, c1, c2, c3, c4, ⟨l0, l1, l2, l3, l4, a, b, ho, bu⟩, rfl, fun s => ⟨a0 s, a1 s, a2 s, a3 s, rows, a4 s, q4, fun i row r x y => (b4 i row r x y).1 s⟩, b0, b1, b2, b3, ?_, wf_i64 ha, wf_i64 hb, wf_i64 hho, wf_i64 hbu, e0, e1, e2, e3, e4⟩
  intro r hr
  obtain ⟨i, hi⟩ := List.mem_iff_getElem?.1 hr
  have hi : l4[i]? = some r := hi
  have hlt := (List.getElem?_eq_some_iff.1 hi).1
  obtain ⟨row, hrow⟩ := get_of_lt (l := rows) (j := i) (by omega)
  exact (b4 i row r hrow hi).2

theorem ty_RouteState {row : List D} {n : Nat} (h : tyD Try.prog n t_RouteState row) : ∃ s : Rs, row = s.enc ∧ I64 s.State ∧ I64 s.Since ∧ I64 s.Next ∧ I64 s.Mark := by
  obtain ⟨a, b, c, d, rfl, q⟩ := ty_i4 h (by kernel_rfl)
  exact ⟨⟨a, b, c, d⟩, rfl, q⟩
theorem ty_Mover {row : List D} {n : Nat} (h : tyD Try.prog n t_Mover row) : ∃ s : Mv, row = s.enc ∧ I64 s.Cmd ∧ I64 s.Other := by
  obtain ⟨a, b, rfl, q⟩ := ty_i2 h (by kernel_rfl)
  exact ⟨⟨a, b⟩, rfl, q⟩
structure LsI (l : Ls) : Prop where
  ask : I64 l.Ask
  done : I64 l.Done
  grant : I64 l.Grant
  told : I64 l.Told
  pask : I64 l.PAsk
  pdone : I64 l.PDone
  pgrant : I64 l.PGrant
  since : I64 l.Since
theorem ty_LineState {row : List D} {n : Nat} (h : tyD Try.prog n t_LineState row) : ∃ s : Ls, row = s.enc ∧ LsI s := by
  obtain ⟨_, _, rfl, ⟨a, rfl, ha⟩, _, _, rfl, ⟨b, rfl, hb⟩, _, _, rfl, ⟨c, rfl, hc⟩, _, _, rfl, ⟨d, rfl, hd⟩, _, _, rfl, ⟨e, rfl, he⟩, _, _, rfl, ⟨f, rfl, hf⟩, _, _, rfl, ⟨g, rfl, hg⟩, _, _, rfl, ⟨i, rfl, hi⟩, rfl⟩ :=
    ty_sh n 5 _ _ [.int .i64, .int .i64, .int .i64, .int .i64, .int .i64, .int .i64, .int .i64, .int .i64] h (by kernel_rfl)
  exact ⟨⟨a, b, c, d, e, f, g, i⟩, rfl, wf_i64 ha, wf_i64 hb, wf_i64 hc, wf_i64 hd, wf_i64 he, wf_i64 hf, wf_i64 hg, wf_i64 hi⟩

/-- A state's numbers are Go's. -/
structure CoI (k : Co) : Prop where
  own : ∀ o ∈ k.Own, I64 o
  routes : ∀ s ∈ k.Routes, I64 s.State ∧ I64 s.Since ∧ I64 s.Next ∧ I64 s.Mark
  points : ∀ s ∈ k.Points, I64 s.Cmd ∧ I64 s.Other
  xs : ∀ s ∈ k.Xs, I64 s.Cmd ∧ I64 s.Other
  lines : ∀ s ∈ k.Lines, LsI s
  resets : ∀ o ∈ k.Resets, I64 o

theorem ty_Core {cs : List D} {n : Nat} (h : tyD Try.prog n t_Core cs) : ∃ d0 d1 d2 d3 d4 d5 k, cs = [d0, d1, d2, d3, d4, d5, .bool k.Dirty] ∧ CoFz d0 d1 d2 d3 d4 d5 k ∧ CoFit d0 d1 d2 d3 d4 d5 k ∧ CoI k := by
  obtain ⟨d0, _, rfl, h0, d1, _, rfl, h1, d2, _, rfl, h2, d3, _, rfl, h3, d4, _, rfl, h4, d5, _, rfl, h5, _, _, rfl, ⟨a, rfl⟩, rfl⟩ :=
    ty_sh n 5 _ _ [.sl t_int, .sl t_RouteState, .sl t_Mover, .sl t_Mover, .sl t_LineState, .sl t_int, .bool] h (by kernel_rfl)
  obtain ⟨l0, a0, b0, z0, e0⟩ := sh_rows (bytes := 8) encI _ (fun row n h => ty_i h) (by kernel_rfl) (by omega) h0
  obtain ⟨l1, a1, b1, z1, e1⟩ := sh_rows (bytes := 32) Rs.enc _ (fun row n h => ty_RouteState h) (by kernel_rfl) (by omega) h1
  obtain ⟨l2, a2, b2, z2, e2⟩ := sh_rows (bytes := 16) Mv.enc _ (fun row n h => ty_Mover h) (by kernel_rfl) (by omega) h2
  obtain ⟨l3, a3, b3, z3, e3⟩ := sh_rows (bytes := 16) Mv.enc _ (fun row n h => ty_Mover h) (by kernel_rfl) (by omega) h3
  obtain ⟨l4, a4, b4, z4, e4⟩ := sh_rows (bytes := 64) Ls.enc _ (fun row n h => ty_LineState h) (by kernel_rfl) (by omega) h4
  obtain ⟨l5, a5, b5, z5, e5⟩ := sh_rows (bytes := 8) encI _ (fun row n h => ty_i h) (by kernel_rfl) (by omega) h5
  exact ⟨d0, d1, d2, d3, d4, d5, ⟨l0, l1, l2, l3, l4, l5, a⟩, rfl, ⟨fun s => ⟨a0 s, a1 s, a2 s, a3 s, a4 s, a5 s⟩, z0, z1, z2, z3, z4, z5⟩, ⟨z0, z1, z2, z3, z4, z5, by simp only; omega, by simp only; omega, by simp only; omega, by simp only; omega, by simp only; omega, by simp only; omega⟩, b0, b1, b2, b3, b4, b5⟩

theorem ty_Look {row : List D} {n : Nat} (h : tyD Try.prog n t_Look row) : ∃ s : Lk, row = s.enc ∧ I64 s.Value ∧ I64 s.Stamp := by
  obtain ⟨_, _, rfl, ⟨a, rfl, ha⟩, _, _, rfl, ⟨b, rfl, hb⟩, _, _, rfl, ⟨c, rfl⟩, rfl⟩ := ty_sh n 5 _ _ [.int .i64, .int .i64, .bool] h (by kernel_rfl)
  exact ⟨⟨a, b, c⟩, rfl, wf_i64 ha, wf_i64 hb⟩

structure VwI (v : Vw) : Prop where
  occ : ∀ l ∈ v.Occ, I64 l.Value ∧ I64 l.Stamp
  pos : ∀ l ∈ v.Pos, I64 l.Value ∧ I64 l.Stamp
  shut : ∀ l ∈ v.Shut, I64 l.Value ∧ I64 l.Stamp
  lamp : ∀ l ∈ v.Lamp, I64 l.Value ∧ I64 l.Stamp

theorem sh_View {d0 d1 d2 d3 : D} (h0 : CsOk Try.prog (.sl t_Look) d0) (h1 : CsOk Try.prog (.sl t_Look) d1) (h2 : CsOk Try.prog (.sl t_Look) d2) (h3 : CsOk Try.prog (.sl t_Look) d3) : ∃ v, VwAt d0 d1 d2 d3 v ∧ VwI v := by
  obtain ⟨l0, a0, b0, _, e0⟩ := sh_rows (bytes := 24) Lk.enc _ (fun row n h => ty_Look h) (by kernel_rfl) (by omega) h0
  obtain ⟨l1, a1, b1, _, e1⟩ := sh_rows (bytes := 24) Lk.enc _ (fun row n h => ty_Look h) (by kernel_rfl) (by omega) h1
  obtain ⟨l2, a2, b2, _, e2⟩ := sh_rows (bytes := 24) Lk.enc _ (fun row n h => ty_Look h) (by kernel_rfl) (by omega) h2
  obtain ⟨l3, a3, b3, _, e3⟩ := sh_rows (bytes := 24) Lk.enc _ (fun row n h => ty_Look h) (by kernel_rfl) (by omega) h3
  exact ⟨⟨l0, l1, l2, l3⟩, ⟨a0, a1, a2, a3⟩, b0, b1, b2, b3⟩

theorem ty_View {cs : List D} {n : Nat} (h : tyD Try.prog n t_View cs) : ∃ d0 d1 d2 d3 v, cs = [d0, d1, d2, d3] ∧ VwAt d0 d1 d2 d3 v ∧ VwI v := by
  obtain ⟨d0, _, rfl, h0, d1, _, rfl, h1, d2, _, rfl, h2, d3, _, rfl, h3, rfl⟩ := ty_sh n 5 _ _ [.sl t_Look, .sl t_Look, .sl t_Look, .sl t_Look] h (by kernel_rfl)
  obtain ⟨v, h4, h5⟩ := sh_View h0 h1 h2 h3
  exact ⟨d0, d1, d2, d3, v, rfl, h4, h5⟩
end Go.Proofs.Ytnochggjgopfeaa
end
section
set_option linter.unusedVariables false
set_option linter.unusedSimpArgs false
namespace Go.Proofs.Ytnochggjgopfeaa
open Go.Fw Go.Proofs Go.RowKit
variable {σ : Store}

theorem ref01_SameInts_ok {a b : D} {la lb : List Int} (ha : At Try.prog σ t_int a (la.map encI)) (hb : At Try.prog σ t_int b (lb.map encI)) : Pure Try.prog n_ref01_SameInts [.one a, .one b] σ (.a (bA (decide (la = lb)))) := by
  have hs := ha.size
  rw [List.length_map] at hs
  refine W_ref01_SameInts a b σ _ (ha.lenK (hb.lenK ?_))
  rw [List.length_map, List.length_map]
  refine bcn (fun hne => ⟨?_, rfl⟩) (fun he => ha.lenK ?_)
  · rw [decide_eq_false (fun e => hne (by rw [e]))]
  have hl : la.length = lb.length := by omega
  rw [List.length_map]
  refine ⟨fun n s => s = σ ∧ EqR la lb n, fun n _ => la.length - n.toNat, ⟨rfl, .start _ _⟩, ?_⟩
  rintro n s ⟨rfl, hr⟩
  refine bcd (fun hlt => ?_) (fun hge => ⟨?_, rfl⟩)
  · obtain ⟨j, x, y, rfl, hx, hy, hn, hy2⟩ := hr.step hl rfl hs hlt
    refine ha.load (map_get hx) c_int rfl ⟨x, rfl, hb.load (map_get hy) c_int rfl ⟨y, rfl, bcn (fun e => ⟨?_, rfl⟩) (fun e => andl rfl (hy2 e))⟩⟩
    rw [decide_eq_false (hn e)]
  · rw [decide_eq_true (hr.done hl rfl hge)]

theorem ref13_Same_ok {a0 a1 a2 a3 a4 a5 b0 b1 b2 b3 b4 b5 : D} {k k' : Co} (ha : CoAt σ a0 a1 a2 a3 a4 a5 k) (hb : CoAt σ b0 b1 b2 b3 b4 b5 k') :
    Pure Try.prog n_ref13_Same [coA a0 a1 a2 a3 a4 a5 k.Dirty, coA b0 b1 b2 b3 b4 b5 k'.Dirty] σ (.a (bA (decide (k = k')))) := by
  have no : ∀ p : Prop, ¬ p → (k = k' → p) → (RV.a (bA false) = RV.a (bA (decide (k = k'))) ∧ σ = σ) := fun p h1 h2 => ⟨by rw [decide_eq_false (fun e => h1 (h2 e))], rfl⟩
  have s1 := ha.routes.size
  have s2 := ha.points.size
  have s3 := ha.xs.size
  have s4 := ha.lines.size
  rw [List.length_map] at s1 s2 s3 s4
  refine W_ref13_Same a0 a1 a2 a3 a4 a5 k.Dirty b0 b1 b2 b3 b4 b5 k'.Dirty σ _ ?_
  intro R hR
  refine (ref01_SameInts_ok ha.own hb.own).use ⟨_, rfl, bcnot (fun e => no _ (of_decide_eq_false e) (fun e => by rw [e])) (fun e1 => (ref01_SameInts_ok ha.resets hb.resets).use ⟨_, rfl, bcnot (fun e => no _ (of_decide_eq_false e) (fun e => by rw [e])) (fun e2 => bcnot (fun e => no (k.Dirty = k'.Dirty) (by simpa using e) (fun e => by rw [e])) (fun e3 => ?_))⟩)⟩
  refine ha.routes.lenK (hb.routes.lenK (bcn (fun e => no (k.Routes.length = k'.Routes.length) (by simp only [List.length_map] at e; omega) (fun e => by rw [e])) (fun e4 => ?_)))
  refine ha.points.lenK (hb.points.lenK (bcn (fun e => no (k.Points.length = k'.Points.length) (by simp only [List.length_map] at e; omega) (fun e => by rw [e])) (fun e5 => ?_)))
  refine ha.xs.lenK (hb.xs.lenK (bcn (fun e => no (k.Xs.length = k'.Xs.length) (by simp only [List.length_map] at e; omega) (fun e => by rw [e])) (fun e6 => ?_)))
  refine ha.lines.lenK (hb.lines.lenK (bcn (fun e => no (k.Lines.length = k'.Lines.length) (by simp only [List.length_map] at e; omega) (fun e => by rw [e])) (fun e7 => ?_)))
  have e1 := of_decide_eq_true e1
  have e2 := of_decide_eq_true e2
  have e3 : k.Dirty = k'.Dirty := by simpa using e3
  simp only [List.length_map] at e4 e5 e6 e7
  have e4 : k.Routes.length = k'.Routes.length := by omega
  have e5 : k.Points.length = k'.Points.length := by omega
  have e6 : k.Xs.length = k'.Xs.length := by omega
  have e7 : k.Lines.length = k'.Lines.length := by omega
  refine hR σ (ha.routes.lenK ?_)
  rw [List.length_map]
  refine ⟨fun n s => s = σ ∧ EqR k.Routes k'.Routes n, fun n _ => k.Routes.length - n.toNat, ⟨rfl, .start _ _⟩, ?_⟩
  rintro n s ⟨rfl, hr⟩
  refine bcd (fun hlt => ?_) (fun hge => ?_)
  · obtain ⟨j, x, y, rfl, hx, hy, hn, hy2⟩ := hr.step e4 rfl s1 hlt
    refine ha.routes.load (map_get hx) c_RouteState rfl ⟨_, _, _, _, rfl, hb.routes.load (map_get hy) c_RouteState rfl ⟨_, _, _, _, rfl, bcnot (fun e => no (x = y) (fun h => by subst h; simp at e) (fun h => Classical.not_not.1 fun g => hn g (by rw [h]))) (fun e => andl rfl (hy2 ?_))⟩⟩
    cases x; cases y; simp at e; simp [e]
  have e8 := hr.done e4 rfl hge
  refine ha.points.lenK ?_
  rw [List.length_map]
  refine ⟨fun n s' => s' = s ∧ EqR k.Points k'.Points n, fun n _ => k.Points.length - n.toNat, ⟨rfl, .start _ _⟩, ?_⟩
  rintro n s ⟨rfl, hr⟩
  refine bcd (fun hlt => ?_) (fun hge => ?_)
  · obtain ⟨j, x, y, rfl, hx, hy, hn, hy2⟩ := hr.step e5 rfl s2 hlt
    refine ha.points.load (map_get hx) c_Mover rfl ⟨_, _, rfl, hb.points.load (map_get hy) c_Mover rfl ⟨_, _, rfl, bcnot (fun e => no (x = y) (fun h => by subst h; simp at e) (fun h => Classical.not_not.1 fun g => hn g (by rw [h]))) (fun e => andl rfl (hy2 ?_))⟩⟩
    cases x; cases y; simp at e; simp [e]
  have e9 := hr.done e5 rfl hge
  refine ha.xs.lenK ?_
  rw [List.length_map]
  refine ⟨fun n s' => s' = s ∧ EqR k.Xs k'.Xs n, fun n _ => k.Xs.length - n.toNat, ⟨rfl, .start _ _⟩, ?_⟩
  rintro n s ⟨rfl, hr⟩
  refine bcd (fun hlt => ?_) (fun hge => ?_)
  · obtain ⟨j, x, y, rfl, hx, hy, hn, hy2⟩ := hr.step e6 rfl s3 hlt
    refine ha.xs.load (map_get hx) c_Mover rfl ⟨_, _, rfl, hb.xs.load (map_get hy) c_Mover rfl ⟨_, _, rfl, bcnot (fun e => no (x = y) (fun h => by subst h; simp at e) (fun h => Classical.not_not.1 fun g => hn g (by rw [h]))) (fun e => andl rfl (hy2 ?_))⟩⟩
    cases x; cases y; simp at e; simp [e]
  have e10 := hr.done e6 rfl hge
  refine ha.lines.lenK ?_
  rw [List.length_map]
  refine ⟨fun n s' => s' = s ∧ EqR k.Lines k'.Lines n, fun n _ => k.Lines.length - n.toNat, ⟨rfl, .start _ _⟩, ?_⟩
  rintro n s ⟨rfl, hr⟩
  refine bcd (fun hlt => ?_) (fun hge => ⟨?_, rfl⟩)
  · obtain ⟨j, x, y, rfl, hx, hy, hn, hy2⟩ := hr.step e7 rfl s4 hlt
    refine ha.lines.load (map_get hx) c_LineState rfl ⟨_, _, _, _, _, _, _, _, rfl, hb.lines.load (map_get hy) c_LineState rfl ⟨_, _, _, _, _, _, _, _, rfl, bcnot (fun e => no (x = y) (fun h => by subst h; simp at e) (fun h => Classical.not_not.1 fun g => hn g (by rw [h]))) (fun e => andl rfl (hy2 ?_))⟩⟩
    cases x; cases y; simp at e; simp [e]
  have e11 := hr.done e7 rfl hge
  have : k = k' := by
    cases k; cases k'
    simp only at e1 e2 e3 e8 e9 e10 e11
    simp only [e1, e2, e3, e8, e9, e10, e11]
  rw [decide_eq_true this]
end Go.Proofs.Ytnochggjgopfeaa
end
section
set_option linter.unusedVariables false
set_option linter.unusedSimpArgs false
namespace Go.Fw

theorem dec_lt {j n : Nat} (h : j < n) : n - ((j + 1 : Nat) : Int).toNat < n - ((j : Nat) : Int).toNat := by omega

def inL (l : List Int) (n : Int) : Bool := decide (n ∈ l)
def kindI (c : Cf) (s : Int) : Int := ((geti c.Secs s).map Sec.Kind).getD (-1)

/-- Does a signal stand at the end, but for one? counted from j on. -/
def atB (sec e but : Int) : List Sg → Nat → Bool
  | [], _ => false
  | x :: r, j => (decide (x.Sec = sec) && decide (x.End_ = e) && decide ((j : Int) ≠ but)) || atB sec e but r (j + 1)

theorem atB_iff (sec e but : Int) : ∀ (l : List Sg) (j : Nat), atB sec e but l j = true ↔ ∃ (i : Nat) (x : Sg), l[i]? = some x ∧ x = ⟨sec, e⟩ ∧ ((j + i : Nat) : Int) ≠ but
  | [], j => by simp [atB]
  | x :: r, j => by
    simp only [atB, Bool.or_eq_true, Bool.and_eq_true, decide_eq_true_eq, atB_iff sec e but r (j + 1)]
    constructor
    · rintro (⟨⟨h1, h2⟩, h3⟩ | ⟨i, y, h1, h2, h3⟩)
      · exact ⟨0, x, rfl, by cases x; simp at h1 h2; simp [h1, h2], h3⟩
      · exact ⟨i + 1, y, by simpa using h1, h2, by rw [show j + (i + 1) = j + 1 + i by omega]; exact h3⟩
    · rintro ⟨i, y, h1, h2, h3⟩
      cases i with
      | zero =>
        simp at h1; subst h1 h2
        exact .inl ⟨⟨rfl, rfl⟩, h3⟩
      | succ i => exact .inr ⟨i, y, by simpa using h1, h2, by rw [show j + 1 + i = j + (i + 1) by omega]; exact h3⟩

/-- Where all signals stand apart, one with a number aside is none. -/
theorem atB_self {l : List Sg} (hn : l.Nodup) {i : Nat} {x : Sg} (hi : l[i]? = some x) : atB x.Sec x.End_ i l 0 = false := by
  cases hb : atB x.Sec x.End_ i l 0 with
  | false => rfl
  | true =>
    obtain ⟨j, y, h1, h2, h3⟩ := (atB_iff _ _ _ l 0).1 hb
    have e : y = x := by cases x; exact h2
    subst e
    exfalso; apply h3
    obtain ⟨q1, q2⟩ := List.getElem?_eq_some_iff.1 hi
    obtain ⟨p1, p2⟩ := List.getElem?_eq_some_iff.1 h1
    have := (List.getElem_inj (h₀ := q1) (h₁ := p1) hn).1 (by rw [q2, p2])
    omega

theorem sgrun_iff (js : List Jt) : ∀ (l seen : List Sg), sgrun js l seen = true ↔ (∀ x ∈ l, (nxt js x.Sec x.End_).isSome = true) ∧ l.Nodup ∧ ∀ x ∈ l, x ∉ seen
  | [], seen => by simp [sgrun]
  | x :: r, seen => by
    rw [sgrun]
    by_cases h : (nxt js x.Sec x.End_).isSome = true ∧ x ∉ seen
    · rw [if_pos h, sgrun_iff js r (x :: seen)]
      constructor
      · rintro ⟨h1, h2, h3⟩
        refine ⟨fun y hy => ?_, ?_, fun y hy => ?_⟩
        · rcases List.mem_cons.1 hy with rfl | hy
          · exact h.1
          · exact h1 y hy
        · exact List.nodup_cons.2 ⟨fun hx => h3 x hx (by simp), h2⟩
        · rcases List.mem_cons.1 hy with rfl | hy
          · exact h.2
          · exact fun hs => h3 y hy (by simp [hs])
      · rintro ⟨h1, h2, h3⟩
        obtain ⟨h4, h5⟩ := List.nodup_cons.1 h2
        refine ⟨fun y hy => h1 y (by simp [hy]), h5, fun y hy hs => ?_⟩
        rcases List.mem_cons.1 hs with rfl | hs
        · exact h4 hy
        · exact h3 y (by simp [hy]) hs
    · rw [if_neg h]
      refine ⟨fun e => by simp at e, fun ⟨h1, h2, h3⟩ => absurd ⟨h1 x (by simp), h3 x (by simp)⟩ h⟩

/-- All signals, one by one: each leads on, and none beside it stands where it does. -/
theorem sigs_iff (c : Cf) : (∀ (i : Nat) (x : Sg), c.Sigs[i]? = some x → (nxt c.Jts x.Sec x.End_).isSome = true ∧ atB x.Sec x.End_ i c.Sigs 0 = false) ↔ sgrun c.Jts c.Sigs [] = true := by
  rw [sgrun_iff]
  constructor
  · intro h
    refine ⟨fun x hx => ?_, ?_, fun x _ hx => by simp at hx⟩
    · obtain ⟨i, hi⟩ := List.mem_iff_getElem?.1 hx
      exact (h i x hi).1
    · rw [List.nodup_iff_pairwise_ne, List.pairwise_iff_getElem]
      intro i j hi hj hij e
      have h2 := (h i _ (List.getElem?_eq_getElem hi)).2
      have : atB c.Sigs[i].Sec c.Sigs[i].End_ i c.Sigs 0 = true := (atB_iff _ _ _ _ _).2 ⟨j, c.Sigs[j], List.getElem?_eq_getElem hj, by rw [← e], by omega⟩
      rw [h2] at this; cases this
  · rintro ⟨h1, h2, _⟩ i x hi
    exact ⟨h1 x (List.mem_of_getElem? hi), atB_self h2 hi⟩

theorem xrun_iff (secs : List Sec) : ∀ (l seen : List Int), xrun secs l seen = true ↔ (∀ x ∈ l, ∃ s, geti secs x = some s ∧ s.Line = 0) ∧ l.Nodup ∧ ∀ x ∈ l, x ∉ seen
  | [], seen => by simp [xrun]
  | x :: r, seen => by
    rw [xrun]
    cases hg : geti secs x with
    | none =>
      refine ⟨fun e => by simp at e, fun ⟨h1, _⟩ => ?_⟩
      obtain ⟨s, h, _⟩ := h1 x (by simp)
      rw [hg] at h; cases h
    | some s =>
      simp only
      by_cases h : s.Line = 0 ∧ x ∉ seen
      · rw [if_pos h, xrun_iff secs r (x :: seen)]
        constructor
        · rintro ⟨h1, h2, h3⟩
          refine ⟨fun y hy => ?_, ?_, fun y hy => ?_⟩
          · rcases List.mem_cons.1 hy with rfl | hy
            · exact ⟨s, hg, h.1⟩
            · exact h1 y hy
          · exact List.nodup_cons.2 ⟨fun hx => h3 x hx (by simp), h2⟩
          · rcases List.mem_cons.1 hy with rfl | hy
            · exact h.2
            · exact fun hs => h3 y hy (by simp [hs])
        · rintro ⟨h1, h2, h3⟩
          obtain ⟨h4, h5⟩ := List.nodup_cons.1 h2
          refine ⟨fun y hy => h1 y (by simp [hy]), h5, fun y hy hs => ?_⟩
          rcases List.mem_cons.1 hs with rfl | hs
          · exact h4 hy
          · exact h3 y (by simp [hy]) hs
      · rw [if_neg h]
        refine ⟨fun e => by simp at e, fun ⟨h1, h2, h3⟩ => ?_⟩
        obtain ⟨s', q1, q2⟩ := h1 x (by simp)
        rw [hg] at q1; cases q1
        exact absurd ⟨q2, h3 x (by simp)⟩ h

theorem nxt_mem {js : List Jt} {s e : Int} {p : Int × Int} (h : nxt js s e = some p) : ∃ j ∈ js, (j.B = p.1 ∧ j.BEnd = p.2) ∨ (j.A = p.1 ∧ j.AEnd = p.2) := by
  induction js with
  | nil => cases h
  | cons j r ih =>
    rw [nxt] at h
    split at h
    · cases h; exact ⟨j, by simp, .inl ⟨rfl, rfl⟩⟩
    split at h
    · cases h; exact ⟨j, by simp, .inr ⟨rfl, rfl⟩⟩
    · obtain ⟨k, h1, h2⟩ := ih h
      exact ⟨k, by simp [h1], h2⟩

/-- What meets an end lies in the station. -/
theorem nxt_sec {c : Cf} (ht : topoOk c.Secs c.Jts = true) {s e q f : Int} (h : nxt c.Jts s e = some (q, f)) : ∃ y, geti c.Secs q = some y := by
  obtain ⟨j, hj, h1⟩ := nxt_mem h
  obtain ⟨_, _, h3⟩ := (topoOk_iff _ _).1 ht
  obtain ⟨a, b, _⟩ := h3 j hj
  have : 0 ≤ q ∧ q < c.Secs.length := by rcases h1 with ⟨e1, _⟩ | ⟨e1, _⟩ <;> simp only at e1 <;> omega
  obtain ⟨y, hy⟩ := get_of_lt (l := c.Secs) (j := q.toNat) (by omega)
  exact ⟨y, by unfold geti; rw [if_neg (by omega), hy]⟩

theorem nxt_q {c : Cf} (ht : topoOk c.Secs c.Jts = true) {s e q f : Int} (h : nxt c.Jts s e = some (q, f)) : 0 ≤ q ∧ q < c.Secs.length := by
  obtain ⟨y, hy⟩ := nxt_sec ht h
  have := geti_some hy
  exact ⟨this.1, this.2.1⟩

theorem kindI_some {c : Cf} {s : Int} {y : Sec} (h : geti c.Secs s = some y) : kindI c s = y.Kind := by unfold kindI; rw [h]; rfl
theorem kindI_none {c : Cf} {s : Int} (h : geti c.Secs s = none) : kindI c s = -1 := by unfold kindI; rw [h]; rfl

theorem hasSec_in (path : List St) (q : Int) : inL (path.map St.Sec) q = hasSec path q := by
  unfold inL hasSec
  induction path with
  | nil => rfl
  | cons x r ih =>
    rw [List.any_cons, ← ih, List.map_cons]
    by_cases h : x.Sec = q
    · simp [h]
    · simp [h, Ne.symm h]

theorem kind_ok {c : Cf} (ht : topoOk c.Secs c.Jts = true) {x : Int} {y : Sec} (h : geti c.Secs x = some y) : 0 ≤ y.Kind ∧ y.Kind ≤ 2 := by
  obtain ⟨_, h2, _⟩ := (topoOk_iff _ _).1 ht
  have := (h2 _ _ (geti_some h).2.2).1
  unfold nends at this
  split at this
  · omega
  split at this
  · omega
  split at this
  · omega
  · exact absurd rfl this

theorem sgs_nodup {c : Cf} (h : c.sigsOk = true) : c.Sigs.Nodup := by
  rw [Cf.sigsOk, Bool.and_eq_true, sgrun_iff] at h
  exact h.1.2.1

/-- A signal stands there that isn't the one put aside. -/
theorem atB_eq {c : Cf} (h : c.sigsOk = true) (sec e but : Int) : atB sec e but c.Sigs 0 = ((c.Sigs.any fun x => decide (⟨sec, e⟩ = x)) && !decide (geti c.Sigs but = some ⟨sec, e⟩)) := by
  have hn := sgs_nodup h
  rw [Bool.eq_iff_iff, atB_iff]
  simp only [Bool.and_eq_true, List.any_eq_true, decide_eq_true_eq, Bool.not_eq_true', decide_eq_false_iff_not, Nat.zero_add]
  constructor
  · rintro ⟨i, x, h1, rfl, h3⟩
    refine ⟨⟨_, List.mem_of_getElem? h1, rfl⟩, fun hg => h3 ?_⟩
    have hg := geti_some hg
    obtain ⟨q1, q2⟩ := List.getElem?_eq_some_iff.1 h1
    obtain ⟨p1, p2⟩ := List.getElem?_eq_some_iff.1 hg.2.2
    have := (List.getElem_inj (h₀ := q1) (h₁ := p1) hn).1 (by rw [q2, p2])
    omega
  · rintro ⟨⟨x, hx, rfl⟩, h2⟩
    obtain ⟨i, hi⟩ := List.mem_iff_getElem?.1 hx
    refine ⟨i, _, hi, rfl, fun e => h2 ?_⟩
    unfold geti
    rw [if_neg (by omega), ← e, Int.toNat_natCast]; exact hi

theorem geti_ex {α : Type} {l : List α} {i : Int} (h0 : ¬ i < 0) (h1 : ¬ i ≥ (l.length : Int)) : ∃ x, geti l i = some x := by
  obtain ⟨x, hx⟩ := get_of_lt (l := l) (j := i.toNat) (by omega)
  exact ⟨x, by unfold geti; rw [if_neg h0]; exact hx⟩
end Go.Fw
namespace Go.Fw
theorem nd_any (out : List Nd) (q : Int) : inL (out.map Nd.Sec) q = out.any fun n => n.Sec == q := by
  unfold inL
  induction out with
  | nil => rfl
  | cons x r ih =>
    rw [List.any_cons, ← ih, List.map_cons]
    by_cases h : x.Sec = q
    · simp [h]
    · simp [h, Ne.symm h]
end Go.Fw
end
section
set_option linter.unusedVariables false
set_option linter.unusedSimpArgs false
namespace Go.Proofs.Ytnochggjgopfeaa
open Go.Fw Go.Proofs Go.RowKit
variable {σ : Store}

theorem ref06_in_ok {d : D} {l : List Int} (n : Int) (h : At Try.prog σ t_int d (l.map encI)) : Pure Try.prog n_ref06_in [.one d, iA n] σ (.a (bA (inL l n))) := by
  have hs := h.size
  rw [List.length_map] at hs
  refine W_ref06_in d n σ _ (h.lenK ⟨fun m s => s = σ ∧ Rng l (fun r => inL r n = inL l n) m, fun m _ => l.length - m.toNat, ⟨rfl, .start rfl⟩, ?_⟩)
  rintro m s ⟨rfl, hr⟩
  refine bcd (fun hlt => ?_) (fun hge => ⟨?_, rfl⟩)
  · obtain ⟨j, x, rfl, hx, hj, hF, nx⟩ := hr.step (by simp) hs hlt
    refine h.load (map_get hx) c_int rfl ⟨x, rfl, bce (fun e => ⟨?_, rfl⟩) (fun e => andl rfl (nx (fun r => inL r n = inL l n) ?_))⟩
    · rw [← hF, inL, e, decide_eq_true (by simp)]
    · rw [← hF, inL, inL]; exact decide_eq_decide.2 (by simp [Ne.symm e])
  · rw [← hr.done (by simp) hge]; rfl

theorem ref13_in_ok {d : D} {l : List Int} (n : Int) (h : At Try.prog σ t_int d (l.map encI)) : Pure Try.prog n_ref13_in [.one d, iA n] σ (.a (bA (inL l n))) := by
  have hs := h.size
  rw [List.length_map] at hs
  refine W_ref13_in d n σ _ (h.lenK ⟨fun m s => s = σ ∧ Rng l (fun r => inL r n = inL l n) m, fun m _ => l.length - m.toNat, ⟨rfl, .start rfl⟩, ?_⟩)
  rintro m s ⟨rfl, hr⟩
  refine bcd (fun hlt => ?_) (fun hge => ⟨?_, rfl⟩)
  · obtain ⟨j, x, rfl, hx, hj, hF, nx⟩ := hr.step (by simp) hs hlt
    refine h.load (map_get hx) c_int rfl ⟨x, rfl, bce (fun e => ⟨?_, rfl⟩) (fun e => andl rfl (nx (fun r => inL r n = inL l n) ?_))⟩
    · rw [← hF, inL, e, decide_eq_true (by simp)]
    · rw [← hF, inL, inL]; exact decide_eq_decide.2 (by simp [Ne.symm e])
  · rw [← hr.done (by simp) hge]; rfl

theorem ref06_Sections_ok {d : D} {path : List St} (h : ∀ s, At Try.prog s t_Step d (path.map St.enc)) (hb : 24 * path.length ≤ 140737488355328) :
    DCalls Try.prog n_ref06_Sections [.one d] σ (SlPost σ t_int ((path.map St.Sec).map encI)) := by
  have hs := (h σ).size
  rw [List.length_map] at hs
  refine (W_ref06_Sections d σ _ ?_).ret (Q := fun r s => ∃ r' σ', Ret Try.prog σ s r σ' r' ∧ SlPost σ t_int ((path.map St.Sec).map encI) r' σ') (fun r s h => h)
  refine (h σ).lenK ⟨fun d n s => ∃ j : Nat, n = j ∧ j ≤ path.length ∧ Own Try.prog σ s t_int d (((path.take j).map St.Sec).map encI), fun _ n _ => path.length - n.toNat, ⟨0, rfl, by omega, .nil _ (.refl _)⟩, ?_⟩
  rintro d1 _ s ⟨j, rfl, hj, ho⟩
  rw [List.length_map]
  refine bcd (fun hlt => ?_) (fun hge => ?_)
  · obtain ⟨x, hx⟩ := get_of_lt (l := path) (j := j) (by omega)
    refine (h s).load (map_get hx) c_Step rfl ⟨x.Sec, x.In, x.Out, rfl, newObj_intro fun id s2 hid _ he hs2 => ?_⟩
    have hl : (((path.take j).map St.Sec).map encI).length = j := by simp; omega
    refine (ho.ext' he).append (At.fresh hs2 (by simp) rfl) (by simp; omega) (by simp; omega) fun d4 s5 ho5 _ _ => ?_
    rw [w64_succ (by omega)]
    refine ⟨⟨j + 1, rfl, by omega, ?_⟩, by show path.length - ((j + 1 : Nat) : Int).toNat < path.length - ((j : Nat) : Int).toNat; omega⟩
    have e : path.take (j + 1) = path.take j ++ [x] := by rw [List.take_add_one, hx]; rfl
    rw [e, List.map_append, List.map_append]; exact ho5
  · have e : j = path.length := by omega
    rw [e, List.take_length] at ho
    exact own_fin ho (flatI _)

section
variable {c0 c1 c2 c3 c4 : D} {c : Cf}

theorem ref06_kind_ok (h : CfAt σ c0 c1 c2 c3 c4 c) (s : Int) : Pure Try.prog n_ref06_kind [cfA c0 c1 c2 c3 c4 c, iA s] σ (.a (iA (kindI c s))) := by
  refine W_ref06_kind _ _ _ _ _ _ _ _ _ s σ _ (bcd (fun h1 => ⟨by rw [kindI_none (geti_neg h1)], rfl⟩) (fun h1 => h.secs.lenK (bcd (fun h2 => ⟨by rw [List.length_map] at h2; rw [kindI_none (geti_ge h2)], rfl⟩) (fun h2 => ?_))))
  rw [List.length_map] at h2
  obtain ⟨x, hx⟩ := get_of_lt (l := c.Secs) (j := s.toNat) (by omega)
  refine h.secs.load (map_get hx) c_Section (by omega) ⟨x.Kind, rfl, ?_, rfl⟩
  rw [kindI_some (y := x) (by unfold geti; rw [if_neg h1, hx])]

theorem ref06_Approach_ok (h : CfAt σ c0 c1 c2 c3 c4 c) (i : Int) : Pure Try.prog n_ref06_Approach [cfA c0 c1 c2 c3 c4 c, iA i] σ (.a (iA (c.Approach i))) := by
  obtain ⟨rows, hr, hl⟩ := rts_len h
  refine W_ref06_Approach _ _ _ _ _ _ _ _ _ i σ _ (bcd (fun h1 => ⟨by rw [Cf.Approach, geti_neg h1]; rfl, rfl⟩) (fun h1 => hr.lenK (bcd (fun h2 => ⟨by rw [hl] at h2; rw [Cf.Approach, geti_ge h2]; rfl, rfl⟩) (fun h2 => ?_))))
  rw [hl] at h2
  obtain ⟨x, hx⟩ := get_of_lt (l := c.Rts) (j := i.toNat) (by omega)
  have hg : geti c.Rts i = some x := by unfold geti; rw [if_neg h1, hx]
  have hA : c.Approach i = c.approach x := by rw [Cf.Approach, hg]; rfl
  rw [hA]
  obtain ⟨rows', hr', _, d1, d2, d3, hrow, _⟩ := rts_get h hx
  refine hr'.load hrow c_Route (by omega) ⟨_, rfl, bcd (fun h3 => ⟨by rw [Cf.approach, geti_neg h3]; rfl, rfl⟩) (fun h3 => hr'.load hrow c_Route (by omega) ⟨_, rfl, h.sigs.lenK (bcd (fun h4 => ⟨?_, rfl⟩) (fun h4 => hr'.load hrow c_Route (by omega) ⟨_, rfl, ?_⟩))⟩)⟩
  · rw [List.length_map] at h4; rw [Cf.approach, geti_ge h4]; rfl
  · rw [List.length_map] at h4
    obtain ⟨y, hy⟩ := get_of_lt (l := c.Sigs) (j := x.Entry.toNat) (by omega)
    refine h.sigs.load (map_get hy) c_Signal (by omega) ⟨y.Sec, rfl, ?_, rfl⟩
    rw [Cf.approach, show geti c.Sigs x.Entry = some y by unfold geti; rw [if_neg h3, hy]]; rfl

theorem ref06_at_ok (h : CfAt σ c0 c1 c2 c3 c4 c) (sec e but : Int) : Pure Try.prog n_ref06_at [cfA c0 c1 c2 c3 c4 c, iA sec, iA e, iA but] σ (.a (bA (atB sec e but c.Sigs 0))) := by
  have hs := h.sigs.size
  rw [List.length_map] at hs
  refine W_ref06_at _ _ _ _ _ _ _ _ _ sec e but σ _ (h.sigs.lenK ⟨fun m s => s = σ ∧ Rng c.Sigs (fun r => atB sec e but r m.toNat = atB sec e but c.Sigs 0) m, fun m _ => c.Sigs.length - m.toNat, ⟨rfl, .start rfl⟩, ?_⟩)
  rintro m s ⟨rfl, hr⟩
  refine bcd (fun hlt => ?_) (fun hge => ⟨?_, rfl⟩)
  · obtain ⟨j, x, rfl, hx, hj, hF, nx⟩ := hr.step (by simp) hs hlt
    rw [atB, Int.toNat_natCast] at hF
    have hw : (w64 ((j : Int) + 1)).toNat = j + 1 := by rw [w64_succ (by omega)]; omega
    have go : (decide (x.Sec = sec) && decide (x.End_ = e) && decide ((j : Int) ≠ but)) = false → (s = s ∧ Rng c.Sigs (fun r => atB sec e but r (w64 ((j : Int) + 1)).toNat = atB sec e but c.Sigs 0) (w64 ((j : Int) + 1))) ∧ c.Sigs.length - (w64 ((j : Int) + 1)).toNat < c.Sigs.length - (j : Int).toNat := by
      intro hn
      rw [hn, Bool.false_or] at hF
      exact andl rfl (nx (fun r => atB sec e but r (w64 ((j : Int) + 1)).toNat = atB sec e but c.Sigs 0) (by rw [hw]; exact hF))
    refine h.sigs.load (map_get hx) c_Signal rfl ⟨x.Sec, x.End_, rfl, bce (fun h1 => bce (fun h2 => bcn (fun h3 => ⟨?_, rfl⟩) (fun h3 => go (by simp [h3]))) (fun h2 => go (by simp [h2]))) (fun h1 => go (by simp [h1]))⟩
    rw [← hF, decide_eq_true h1, decide_eq_true h2, decide_eq_true h3]; rfl
  · rw [← hr.done (by simp) hge]; rfl

theorem ref06_signals_ok (h : CfAt σ c0 c1 c2 c3 c4 c) : Pure Try.prog n_ref06_signals [cfA c0 c1 c2 c3 c4 c] σ (.a (bA c.sigsOk)) := by
  have hs := h.sigs.size
  rw [List.length_map] at hs
  have no : ∀ (i : Nat) (x : Sg), c.Sigs[i]? = some x → ¬ ((nxt c.Jts x.Sec x.End_).isSome = true ∧ atB x.Sec x.End_ i c.Sigs 0 = false) → c.sigsOk = false := fun i x hi hn => by
    unfold Cf.sigsOk
    cases hb : sgrun c.Jts c.Sigs [] with
    | false => rfl
    | true => exact absurd ((sigs_iff c).2 hb i x hi) hn
  refine W_ref06_signals _ _ _ _ _ _ _ _ _ σ _ (h.sigs.lenK ⟨fun m s => s = σ ∧ ∃ j : Nat, m = j ∧ j ≤ c.Sigs.length ∧ ∀ (i : Nat) (x : Sg), i < j → c.Sigs[i]? = some x → (nxt c.Jts x.Sec x.End_).isSome = true ∧ atB x.Sec x.End_ i c.Sigs 0 = false, fun m _ => c.Sigs.length - m.toNat, ⟨rfl, 0, rfl, by omega, fun i x hi => by omega⟩, ?_⟩)
  rintro _ s ⟨rfl, j, rfl, hj, hall⟩
  rw [List.length_map]
  refine bcd (fun hlt => ?_) (fun hge => h.sigs.lenK ⟨?_, rfl⟩)
  · have hlt : j < c.Sigs.length := by omega
    obtain ⟨x, hx⟩ := get_of_lt (l := c.Sigs) (j := j) (by omega)
    refine h.sigs.load (map_get hx) c_Signal rfl ⟨x.Sec, x.End_, rfl, (ref05_Next_ok x.Sec x.End_ h.jts).use (opt2_ex _ (bcnot (fun e => ⟨by rw [no j x hx (fun g => by rw [g.1] at e; cases e)], rfl⟩) (fun e => (ref06_at_ok h x.Sec x.End_ j).use ⟨_, rfl, bc (fun e2 => ⟨by rw [no j x hx (fun g => by rw [g.2] at e2; cases e2)], rfl⟩) (fun e2 => ?_)⟩)))⟩
    rw [w64_succ (by omega)]
    refine ⟨⟨rfl, j + 1, rfl, by omega, fun i y hi hy => ?_⟩, dec_lt hlt⟩
    by_cases hij : i = j
    · subst hij; rw [hx] at hy; cases hy; exact ⟨e, e2⟩
    · exact hall i y (by omega) hy
  · rw [List.length_map]
    have : sgrun c.Jts c.Sigs [] = true := (sigs_iff c).1 fun i x hi => hall i x (by have := (List.getElem?_eq_some_iff.1 hi).1; omega) hi
    rw [Cf.sigsOk, this, Bool.true_and]
    congr 3
    exact decide_eq_decide.2 (by omega)

theorem ref06_crossings_ok (h : CfAt σ c0 c1 c2 c3 c4 c) (ht : topoOk c.Secs c.Jts = true) : Pure Try.prog n_ref06_crossings [cfA c0 c1 c2 c3 c4 c] σ (.a (bA c.xsOk)) := by
  have hs := h.xs.size
  rw [List.length_map] at hs
  have key : c.xsOk = true → ∀ (i : Nat) (x : Int), c.Xs[i]? = some x → (∃ s, geti c.Secs x = some s ∧ s.Line = 0) ∧ x ∉ c.Xs.take i := fun hb i x hi => by
    rw [Cf.xsOk, Bool.and_eq_true, xrun_iff] at hb
    obtain ⟨⟨h1, h2, _⟩, _⟩ := hb
    refine ⟨h1 x (List.mem_of_getElem? hi), fun hm => ?_⟩
    obtain ⟨j, hj⟩ := List.mem_iff_getElem?.1 hm
    rw [List.getElem?_take] at hj
    split at hj
    · rename_i hji
      obtain ⟨q1, q2⟩ := List.getElem?_eq_some_iff.1 hi
      obtain ⟨p1, p2⟩ := List.getElem?_eq_some_iff.1 hj
      have := (List.getElem_inj (h₀ := q1) (h₁ := p1) h2).1 (by rw [q2, p2])
      omega
    · cases hj
  have no : ∀ (i : Nat) (x : Int), c.Xs[i]? = some x → ¬ ((∃ s, geti c.Secs x = some s ∧ s.Line = 0) ∧ x ∉ c.Xs.take i) → c.xsOk = false := fun i x hi hn => by
    cases hb : c.xsOk with
    | false => rfl
    | true => exact absurd (key hb i x hi) hn
  refine W_ref06_crossings _ _ _ _ _ _ _ _ _ σ _ (h.xs.lenK ⟨fun m s => s = σ ∧ ∃ j : Nat, m = j ∧ j ≤ c.Xs.length ∧ ∀ (i : Nat) (x : Int), i < j → c.Xs[i]? = some x → (∃ s, geti c.Secs x = some s ∧ s.Line = 0) ∧ x ∉ c.Xs.take i, fun m _ => c.Xs.length - m.toNat, ⟨rfl, 0, rfl, by omega, fun i x hi => by omega⟩, ?_⟩)
  rintro _ s ⟨rfl, j, rfl, hj, hall⟩
  rw [List.length_map]
  refine bcd (fun hlt => ?_) (fun hge => h.xs.lenK ⟨?_, rfl⟩)
  · have hlt : j < c.Xs.length := by omega
    obtain ⟨x, hx⟩ := get_of_lt (l := c.Xs) (j := j) (by omega)
    refine h.xs.load (map_get hx) c_int rfl ⟨x, rfl, (ref06_kind_ok h x).use ⟨_, rfl, ?_⟩⟩
    cases hg : geti c.Secs x with
    | none =>
      rw [kindI_none hg]
      exact bcd (fun _ => ⟨by rw [no j x hx (fun g => by obtain ⟨⟨s, q, _⟩, _⟩ := g; rw [hg] at q; cases q)], rfl⟩) (fun e => absurd (by decide) e)
    | some y =>
      rw [kindI_some hg]
      have hgi := geti_some hg
      have hget : c.Secs[x.toNat]? = some y := hgi.2.2
      refine bcd (fun e => absurd (kind_ok ht hg).1 (by omega)) (fun _ => h.secs.load (map_get hget) c_Section (by omega) ⟨y.Line, rfl, bcn (fun e => ⟨by rw [no j x hx (fun g => by obtain ⟨⟨s, q, q2⟩, _⟩ := g; rw [hg] at q; cases q; exact e q2)], rfl⟩) (fun e => h.xs.sliceK (lo := 0) (hi := j) c_int rfl rfl (by omega) (by rw [List.length_map]; omega) ?_)⟩)
      have hsub := h.xs.sub (lo := 0) (hi := j) (by omega) (by rw [List.length_map]; omega)
      rw [List.drop_zero, Nat.sub_zero, ← List.map_take] at hsub
      refine (ref06_in_ok x hsub).use ⟨_, rfl, bc (fun e2 => ⟨by rw [no j x hx (fun g => g.2 (of_decide_eq_true e2))], rfl⟩) (fun e2 => ?_)⟩
      rw [w64_succ (by omega)]
      refine ⟨⟨rfl, j + 1, rfl, by omega, fun i y' hi hy => ?_⟩, dec_lt hlt⟩
      by_cases hij : i = j
      · subst hij; rw [hx] at hy; cases hy; exact ⟨⟨y, hg, e⟩, of_decide_eq_false e2⟩
      · exact hall i y' (by omega) hy
  · rw [List.length_map]
    have : xrun c.Secs c.Xs [] = true := by
      rw [xrun_iff]
      refine ⟨fun x hx => ?_, ?_, fun x _ hx => by simp at hx⟩
      · obtain ⟨i, hi⟩ := List.mem_iff_getElem?.1 hx
        exact (hall i x (by have := (List.getElem?_eq_some_iff.1 hi).1; omega) hi).1
      · rw [List.nodup_iff_pairwise_ne, List.pairwise_iff_getElem]
        intro i j' hi hj' hij e
        have := (hall j' _ (by omega) (List.getElem?_eq_getElem hj')).2
        apply this
        rw [List.mem_take_iff_getElem]
        exact ⟨i, by omega, e⟩
    rw [Cf.xsOk, this, Bool.true_and]
    congr 3
    exact decide_eq_decide.2 (by omega)
end
end Go.Proofs.Ytnochggjgopfeaa
end
section
set_option linter.unusedVariables false
set_option linter.unusedSimpArgs false
namespace Go.Fw
variable {P : Program} {σ σ' : Store}

theorem Own.stay {σ0 : Store} {el : TypeId} {e d : D} {qs : List (List D)} (g : Own P σ0 σ el e qs) (hs : ∀ i, σ i ≠ .free → idOf d ≠ some i → σ' i = σ i) (ha : Apart e d) (he : Ext σ0 σ') : Own P σ0 σ' el e qs :=
  ⟨g.at_.same fun i a n h => hs i (by
    have := g.at_.rows; subst h
    obtain ⟨t, rows, h1, _⟩ := this
    rw [h1]; intro e; cases e) (ha i (by subst h; rfl)), he, g.new, g.nsl, g.nz⟩

/-- One list grows beside another one. -/
theorem Own.append2 {σ0 : Store} {el el' : TypeId} {d e x : D} {rs qs ns : List (List D)} {bytes : Nat} {K : D → Store → Prop} (h : Own P σ0 σ el d rs) (g : Own P σ0 σ el' e qs) (ha : Apart e d) (hx : At P σ el x ns)
    (hb : bytes * (rs.length + ns.length) ≤ 140737488355328) (hsz : rs.length + ns.length < 2 ^ 60) (hk : ∀ d' σ', Own P σ0 σ' el d' (rs ++ ns) → Own P σ0 σ' el' e qs → Apart e d' → K d' σ') : appendTo P σ el bytes d x K :=
  h.append hx hb hsz fun d' s' ho h1 h2 => hk d' s' ho (g.stay (d := d) (fun i hi hd => h1 i hi fun a b hab => hd (by rw [hab]; rfl)) ha ho.ext) fun i hi hd => by
    have hn := g.at_.rows
    cases e with
    | osl i' a n =>
      have e1 : i' = i := by simpa [idOf] using hi
      subst e1
      obtain ⟨t, rows, h3, _⟩ := hn
      cases d' with
      | osl j a' n' =>
        have e2 : j = i' := by simpa [idOf] using hd
        subst e2
        rcases h2 j a' n' rfl with q | ⟨a2, b2, q⟩
        · rw [h3] at q; cases q
        · exact ha j rfl (by rw [q]; rfl)
      | _ => simp [idOf] at hd
    | _ => simp [idOf] at hi

theorem Apart.nil (d : D) : Apart .nils d := fun i h => by cases h
theorem Apart.nil' (d : D) : Apart d .nils := fun i _ h => by cases h
end Go.Fw
end
section
set_option linter.unusedVariables false
set_option linter.unusedSimpArgs false
namespace Go.Proofs.Ytnochggjgopfeaa
open Go.Fw Go.Proofs Go.RowKit
variable {σ : Store}

theorem ref06_sameInts_ok {a b : D} {la lb : List Int} (ha : At Try.prog σ t_int a (la.map encI)) (hb : At Try.prog σ t_int b (lb.map encI)) : Pure Try.prog n_ref06_sameInts [.one a, .one b] σ (.a (bA (decide (la = lb)))) := by
  have hs := ha.size
  rw [List.length_map] at hs
  refine W_ref06_sameInts a b σ _ (ha.lenK (hb.lenK ?_))
  rw [List.length_map, List.length_map]
  refine bcn (fun hne => ⟨?_, rfl⟩) (fun he => ha.lenK ?_)
  · rw [decide_eq_false (fun e => hne (by rw [e]))]
  have hl : la.length = lb.length := by omega
  rw [List.length_map]
  refine ⟨fun n s => s = σ ∧ EqR la lb n, fun n _ => la.length - n.toNat, ⟨rfl, .start _ _⟩, ?_⟩
  rintro n s ⟨rfl, hr⟩
  refine bcd (fun hlt => ?_) (fun hge => ⟨?_, rfl⟩)
  · obtain ⟨j, x, y, rfl, hx, hy, hn, hy2⟩ := hr.step hl rfl hs hlt
    refine ha.load (map_get hx) c_int rfl ⟨x, rfl, hb.load (map_get hy) c_int rfl ⟨y, rfl, bcn (fun e => ⟨?_, rfl⟩) (fun e => andl rfl (hy2 e))⟩⟩
    rw [decide_eq_false (hn e)]
  · rw [decide_eq_true (hr.done hl rfl hge)]

theorem ref06_SameNeeds_ok {a b : D} {la lb : List Nd} (ha : At Try.prog σ t_Need a (la.map Nd.enc)) (hb : At Try.prog σ t_Need b (lb.map Nd.enc)) : Pure Try.prog n_ref06_SameNeeds [.one a, .one b] σ (.a (bA (decide (la = lb)))) := by
  have hs := ha.size
  rw [List.length_map] at hs
  refine W_ref06_SameNeeds a b σ _ (ha.lenK (hb.lenK ?_))
  rw [List.length_map, List.length_map]
  refine bcn (fun hne => ⟨?_, rfl⟩) (fun he => ha.lenK ?_)
  · rw [decide_eq_false (fun e => hne (by rw [e]))]
  have hl : la.length = lb.length := by omega
  rw [List.length_map]
  refine ⟨fun n s => s = σ ∧ EqR la lb n, fun n _ => la.length - n.toNat, ⟨rfl, .start _ _⟩, ?_⟩
  rintro n s ⟨rfl, hr⟩
  refine bcd (fun hlt => ?_) (fun hge => ⟨?_, rfl⟩)
  · obtain ⟨j, x, y, rfl, hx, hy, hn, hy2⟩ := hr.step hl rfl hs hlt
    refine ha.load (map_get hx) c_Need rfl ⟨x.Sec, x.Pos, rfl, hb.load (map_get hy) c_Need rfl ⟨y.Sec, y.Pos, rfl, bcnot (fun e => ⟨?_, rfl⟩) (fun e => andl rfl (hy2 ?_))⟩⟩
    · rw [decide_eq_false (hn fun g => by rw [g] at e; simp at e)]
    · simp at e; cases x; cases y; simp at e; simp [e]
  · rw [decide_eq_true (hr.done hl rfl hge)]

section
variable {c0 c1 c2 c3 c4 : D} {c : Cf} (h : ∀ s, CfAt s c0 c1 c2 c3 c4 c)
include h

theorem ref06_path_ok (ht : topoOk c.Secs c.Jts = true) (hsg : c.sigsOk = true) (r : Rt) {d1 d2 d3 : D} (hp : ∀ s, At Try.prog s t_Step d1 (r.Path.map St.enc)) :
    Pure Try.prog n_ref06_path [cfA c0 c1 c2 c3 c4 c, rtA d1 d2 d3 r] σ (.a (bA (c.path r))) := by
  have hl := (hp σ).size
  rw [List.length_map] at hl
  refine .of (W_ref06_path _ _ _ _ _ _ _ _ _ _ _ d1 d2 d3 _ σ _ ?_) (flat_b _)
  intro R hR
  have no : c.path r = false → (RV.a (bA false) = .a (bA (c.path r)) ∧ Ext σ σ) := fun e => ⟨by rw [e], .refl _⟩
  refine bcd (fun e => no (by rw [Cf.path, geti_neg e])) (fun e0 => (h σ).sigs.lenK ?_)
  rw [List.length_map]
  refine bcd (fun e => no (by rw [Cf.path, geti_ge e])) (fun e1 => ?_)
  obtain ⟨a, hg⟩ := geti_ex e0 e1
  have hpath : c.path r = ((decide (r.Exit = -1) || (geti c.Sigs r.Exit).isSome) && decide (1 ≤ r.Path.length ∧ r.Path.length ≤ 8) && prunA c r (geti c.Sigs r.Exit) r.Path a [a.Sec]) := by rw [Cf.path, hg]
  refine bcd (fun e => no (by rw [hpath, geti_neg (by omega), decide_eq_false (by omega)]; rfl)) (fun e2 => (h σ).sigs.lenK ?_)
  rw [List.length_map]
  refine bcd (fun e => no (by rw [hpath, geti_ge e, decide_eq_false (by omega)]; rfl)) (fun e3 => (hp σ).lenK ?_)
  rw [List.length_map]
  refine bcd (fun e => no (by rw [hpath, decide_eq_false (p := 1 ≤ r.Path.length ∧ _) (by omega), Bool.and_false, Bool.false_and])) (fun e4 => (hp σ).lenK ?_)
  rw [List.length_map]
  refine bcd (fun e => no (by rw [hpath, decide_eq_false (p := 1 ≤ r.Path.length ∧ _) (by omega), Bool.and_false, Bool.false_and])) (fun e5 => hR σ ?_)
  have hex1 : (decide (r.Exit = -1) || (geti c.Sigs r.Exit).isSome) = true := by
    by_cases e : r.Exit = -1
    · rw [decide_eq_true e]; rfl
    · obtain ⟨x, hx⟩ := geti_ex (l := c.Sigs) (i := r.Exit) (by omega) e3
      rw [hx]; simp
  rw [hex1, decide_eq_true (by omega), Bool.true_and, Bool.true_and] at hpath
  have hgs := geti_some hg
  refine (h σ).sigs.load (map_get hgs.2.2) c_Signal (by omega) ⟨a.Sec, a.End_, rfl, newObj_intro fun id s1 hid _ he1 hs1 => (hp s1).lenK ?_⟩
  rw [List.length_map]
  refine ⟨fun m e d n s => ∃ seen : List Int, Own Try.prog σ s t_int d (seen.reverse.map encI) ∧ (seen.length : Int) ≤ n + 1 ∧ Rng r.Path (fun q => prunA c r (geti c.Sigs r.Exit) q ⟨m, e⟩ seen = c.path r) n, fun _ _ _ n _ => r.Path.length - n.toNat,
    ⟨[a.Sec], .at_new hid he1 hs1 (by simp) rfl, by simp, .start hpath.symm⟩, ?_⟩
  rintro m e d n s ⟨seen, ho, hsl, hr⟩
  refine bcd (fun hlt => ?_) (fun hge => ?_)
  · obtain ⟨j, x, rfl, hx, hj, hF, nx⟩ := hr.step rfl hl hlt
    intro R1 hR1
    refine (hp s).load (map_get hx) c_Step rfl ⟨x.Sec, x.In, x.Out, rfl, (ref05_Next_ok m e (h s).jts).use (opt2_ex _ ?_)⟩
    rw [prunA] at hF
    have hes := ho.ext
    have bad : pstep c r (geti c.Sigs r.Exit) ⟨m, e⟩ x (r.Path.drop (j + 1)).isEmpty seen = false → (RV.a (.one (.bool false)) = .a (bA (c.path r)) ∧ Ext σ s) := fun hb => by
      rw [hb] at hF
      exact ⟨by rw [← hF]; rfl, hes⟩
    have good : pstep c r (geti c.Sigs r.Exit) ⟨m, e⟩ x (r.Path.drop (j + 1)).isEmpty seen = true → ∀ s' d', Own Try.prog σ s' t_int d' ((x.Sec :: seen).reverse.map encI) → R1 x.Sec x.Out d' s' := fun hb s' d' ho' => by
      rw [hb, Bool.true_and] at hF
      have hn := nx (fun q => prunA c r (geti c.Sigs r.Exit) q ⟨x.Sec, x.Out⟩ (x.Sec :: seen) = c.path r) hF
      exact hR1 _ _ _ _ ⟨⟨x.Sec :: seen, ho', by rw [w64_succ (by omega), List.length_cons]; omega, hn.1⟩, hn.2⟩
    intro R2 hR2
    rw [pstep] at bad good
    cases hn : nxt c.Jts m e with
    | none =>
      rw [hn] at bad
      exact bcnot (fun _ => bad rfl) (fun e => by cases e)
    | some p =>
      obtain ⟨q, i⟩ := p
      rw [hn] at bad good hR2
      obtain ⟨y, hy⟩ := nxt_sec ht hn
      simp only [hy, Option.getD_some] at bad good hR2 ⊢
      refine bcnot (fun e => by cases e) (fun _ => bcn (fun k => bad (by simp [k])) (fun k1 => bcn (fun k => bad (by simp [k])) (fun k2 => (ref06_in_ok q ho.at_).use ⟨_, rfl, bc (fun k => bad ?_) (fun k3 => ⟨trivial, hR2 s ?_⟩)⟩)))
      · have : q ∈ seen := by simpa [inL] using k
        simp [this]
      have hq : q ∉ seen := by simpa [inL] using k3
      refine (ref06_kind_ok (h s) q).use ⟨_, rfl, (ref05_Pos_ok _ _ _).use (opt1_ex _ ?_)⟩
      rw [kindI_some hy]
      intro R3 hR3
      have main : ∀ but, decide (geti c.Sigs but = some ⟨x.Sec, x.Out⟩) = ((r.Path.drop (j + 1)).isEmpty && decide (geti c.Sigs r.Exit = some ⟨x.Sec, x.Out⟩)) → R3 but s := fun but hbut => hR3 but s (by
        intro R4 hR4
        refine bcnot (fun k => bad (by rw [k]; simp)) (fun k4 => (ref06_at_ok (h s) x.Sec x.Out but).use ⟨_, rfl, ?_⟩)
        rw [atB_eq hsg, hbut]
        have hfin : (!(r.Shunt && decide (y.Line ≠ 0))) = true → ((c.Sigs.any fun z => decide (⟨x.Sec, x.Out⟩ = z)) && !((r.Path.drop (j + 1)).isEmpty && decide (geti c.Sigs r.Exit = some ⟨x.Sec, x.Out⟩))) = false → R4 s := fun g1 g2 => hR4 s (newObj_intro fun id1 s2 hid1 _ he2 hs2 => (ho.ext' he2).append (At.fresh hs2 (by simp) rfl) (by simp; omega) (by simp; omega) fun d4 s5 ho5 _ _ => good (by
          rw [k4, g1, decide_eq_true k1, decide_eq_true k2, decide_eq_true hq]
          generalize (c.Sigs.any fun z => decide (⟨x.Sec, x.Out⟩ = z)) = u at g2
          generalize ((r.Path.drop (j + 1)).isEmpty && decide (geti c.Sigs r.Exit = some ⟨x.Sec, x.Out⟩)) = w at g2
          cases u <;> cases w <;> first | rfl | cases g2) _ _ (by rw [List.reverse_cons, List.map_append, ← k1]; exact ho5))
        refine bc (fun k => bad ?_) (fun k5 => bc (fun k6 => (h s).secs.load (map_get (geti_some hy).2.2) c_Section (by have := geti_some hy; omega) ⟨y.Line, rfl, bcn (fun k7 => bad (by rw [k6]; simp [k7])) (fun k7 => ⟨trivial, hfin (by rw [k6]; simp [k7]) k5⟩)⟩) (fun k6 => ⟨trivial, hfin (by rw [k6]; rfl) k5⟩))
        · generalize (c.Sigs.any fun z => decide (⟨x.Sec, x.Out⟩ = z)) = u at k
          generalize ((r.Path.drop (j + 1)).isEmpty && decide (geti c.Sigs r.Exit = some ⟨x.Sec, x.Out⟩)) = w at k
          cases u <;> cases w <;> first | (simp; done) | cases k)
      refine (hp s).lenK ?_
      rw [List.length_map, w64_id (n := (r.Path.length : Int) - 1) (by omega) (by omega)]
      refine bce (fun q1 => ⟨trivial, main _ ?_⟩) (fun q1 => ⟨trivial, main _ ?_⟩)
      · rw [drop_end (by omega)]; simp
      · have hemp : (r.Path.drop (j + 1)).isEmpty = false := by
          cases hd : r.Path.drop (j + 1) with
          | nil => rw [List.drop_eq_nil_iff] at hd; omega
          | cons y l => rfl
        rw [hemp, geti_neg (by omega)]; simp
  · have hF : (match (generalizing := false) geti c.Sigs r.Exit with | some x => decide ((⟨m, e⟩ : Sg) = x) | none => !(nxt c.Jts m e).isSome) = c.path r := hr.done rfl hge
    refine bcd (fun k1 => ?_) (fun k1 => (ref05_Next_ok m e (h s).jts).use (opt2_ex _ ⟨?_, ho.ext⟩))
    · obtain ⟨y, hy⟩ := geti_ex (l := c.Sigs) (i := r.Exit) (by omega) e3
      rw [hy] at hF
      refine (h s).sigs.load (map_get (geti_some hy).2.2) c_Signal (by omega) ⟨y.Sec, y.End_, rfl, ?_, ho.ext⟩
      rw [← hF]
      congr 3; rw [Bool.eq_iff_iff]; cases y; simp; exact ⟨fun ⟨a, b⟩ => ⟨a.symm, b.symm⟩, fun ⟨a, b⟩ => ⟨a.symm, b.symm⟩⟩
    · rw [geti_neg (by omega)] at hF
      rw [← hF]

theorem ref06_Flank_ok (a : Int) {pd : D} {path : List St} (hp : ∀ s, At Try.prog s t_Step pd (path.map St.enc)) (hpl : path.length ≤ 2 ^ 20) :
    DCalls Try.prog n_ref06_Flank [cfA c0 c1 c2 c3 c4 c, iA a, .one pd] σ (SlPost σ t_Need ((c.flank a path).map Nd.enc)) := by
  refine (W_ref06_Flank _ _ _ _ _ _ _ _ _ a pd σ _ ?_).ret (Q := fun r s => ∃ r' σ', Ret Try.prog σ s r σ' r' ∧ SlPost σ t_Need ((c.flank a path).map Nd.enc) r' σ') (fun r s h => h)
  refine (hp σ).lenK ⟨fun d d1 n s => ∃ out : List Nd, Own Try.prog σ s t_Need d (out.map Nd.enc) ∧ Own Try.prog σ s t_int d1 ((out.map Nd.Sec).map encI) ∧ Apart d d1 ∧ (out.length : Int) ≤ 4 * n ∧ Rng path (fun r => flankRun c a path r out = c.flank a path) n,
    fun _ _ n _ => path.length - n.toNat, ⟨[], .nil _ (.refl _), .nil _ (.refl _), .nil _, by simp, .start rfl⟩, ?_⟩
  rintro d d1 n s ⟨out, ho, ho1, hap, hol, hr⟩
  rw [List.length_map]
  refine bcd (fun hlt => ?_) (fun hge => ?_)
  · obtain ⟨j, x, rfl, hx, hj, hF, nx⟩ := hr.step rfl (by omega) hlt
    refine (hp s).load (map_get hx) c_Step rfl ⟨x.Sec, x.In, x.Out, rfl, (ref06_kind_ok (h s) _).use ⟨_, rfl, ?_⟩⟩
    have hF' : flankRun c a path (path.drop (j + 1)) (flankEnds c a path x (nends (kindI c x.Sec)).toNat 0 out) = c.flank a path := by
      rw [← hF, flankRun]
      cases hg : geti c.Secs x.Sec with
      | none => rw [kindI_none hg]; rfl
      | some y => rw [kindI_some hg]
    generalize kindI c x.Sec = k at hF'
    have hne := nends_le k
    refine ⟨fun d d1 m s' => ∃ out' : List Nd, Own Try.prog σ s' t_Need d (out'.map Nd.enc) ∧ Own Try.prog σ s' t_int d1 ((out'.map Nd.Sec).map encI) ∧ Apart d d1 ∧ 0 ≤ m ∧ m ≤ nends k ∧ (out'.length : Int) ≤ 4 * j + m ∧ flankEnds c a path x (nends k - m).toNat m out' = flankEnds c a path x (nends k).toNat 0 out,
      fun _ _ m _ => (nends k - m).toNat, ⟨out, ho, ho1, hap, by omega, hne.1, by omega, by rw [Int.sub_zero]⟩, ?_⟩
    rintro d2 d3 m s' ⟨out', ho', ho1', hap', hm0, hm1, hol', hE⟩
    refine (ref05_Ends_ok _).use ⟨_, rfl, bcd (fun hlt' => ?_) (fun hge' => ?_)⟩
    · have hw : w64 (m + 1) = m + 1 := w64_id (by omega) (by omega)
      have hk : (nends k - m).toNat = (nends k - (m + 1)).toNat + 1 := by omega
      rw [hk, flankEnds] at hE
      intro R hR
      have leaf : ∀ (out2 : List Nd) (d4 d5 : D) (s2 : Store), flankStep c a path x out' m = out2 → Own Try.prog σ s2 t_Need d4 (out2.map Nd.enc) → Own Try.prog σ s2 t_int d5 ((out2.map Nd.Sec).map encI) → Apart d4 d5 → R d4 d5 s2 := by
        intro out2 d4 d5 s2 h1 h2 h3 h4
        have hlen := (flankStep_len c a path x out' m).2
        refine hR _ _ _ ⟨rfl, ?_⟩
        rw [hw]
        refine ⟨⟨out2, h2, h3, h4, by omega, by omega, by rw [← h1]; omega, by rw [← h1]; exact hE⟩, by show (nends k - (m + 1)).toNat < (nends k - m).toNat; omega⟩
      intro R1 hR1
      refine bce (fun h1 => ⟨by trivial, leaf out' _ _ s' (by rw [flankStep, if_pos (.inl h1)]) ho' ho1' hap'⟩) (fun h1 => bce (fun h2 => ⟨by trivial, leaf out' _ _ s' (by rw [flankStep, if_pos (.inr h2)]) ho' ho1' hap'⟩) (fun h2 => ⟨by trivial, hR1 s' ?_⟩))
      have hst : flankStep c a path x out' m = match nxt c.Jts x.Sec m with
        | none => out'
        | some (q, f) => match geti c.Secs q with
          | none => out'
          | some y => if y.Kind = 1 ∧ (1 ≤ f ∧ f ≤ 2) ∧ q ≠ a ∧ hasSec path q = false ∧ (out'.any fun n => n.Sec == q) = false then out' ++ [⟨q, 3 - f⟩] else out' := by
        rw [flankStep, if_neg (by rintro (e | e); exact h1 e; exact h2 e)] <;> rfl
      refine (ref05_Next_ok x.Sec m (h s').jts).use (opt2_ex _ ?_)
      intro R2 hR2
      cases hn : nxt c.Jts x.Sec m with
      | none =>
        rw [hn] at hst
        exact bcnot (fun _ => ⟨by trivial, leaf out' _ _ s' hst ho' ho1' hap'⟩) (fun e => by cases e)
      | some p =>
        obtain ⟨q, f⟩ := p
        rw [hn] at hst hR2
        simp only [Option.getD_some] at hst hR2 ⊢
        refine bcnot (fun e => by cases e) (fun _ => (ref06_kind_ok (h s') q).use ⟨_, rfl, ?_⟩)
        refine bcn (fun k1 => ⟨by trivial, leaf out' _ _ s' ?_ ho' ho1' hap'⟩) (fun k1 => ?_)
        · cases hg : geti c.Secs q with
          | none => rw [hg] at hst; exact hst
          | some y => rw [hg] at hst; rw [kindI_some hg] at k1; rw [hst]; exact if_neg fun g => k1 g.1
        obtain ⟨y, hg⟩ : ∃ y, geti c.Secs q = some y := by
          cases hg : geti c.Secs q with
          | none => rw [kindI_none hg] at k1; cases k1
          | some y => exact ⟨y, rfl⟩
        rw [kindI_some hg] at k1
        rw [hg] at hst
        simp only at hst
        have no : ¬ ((1 ≤ f ∧ f ≤ 2) ∧ q ≠ a ∧ hasSec path q = false ∧ (out'.any fun n => n.Sec == q) = false) → flankStep c a path x out' m = out' := fun hn => by rw [hst, if_neg fun g => hn g.2]
        have main : (1 ≤ f ∧ f ≤ 2) → DCalls Try.prog n_ref06_Sections [.one pd] s' fun r4 s4 => ∃ d4, r4 = .a (.one d4) ∧ DCalls Try.prog n_ref06_in [.one d4, iA q] s4 fun r5 s5 => ∃ b1, r5 = .a (bA b1) ∧ bcase b1 (True ∧ R d2 d3 s5) (bcase (q == a) (True ∧ R d2 d3 s5) (DCalls Try.prog n_ref06_in [.one d3, iA q] s5 fun r6 s6 => ∃ b2, r6 = .a (bA b2) ∧ bcase b2 (True ∧ R d2 d3 s6) (True ∧ R2 s6))) := by
          intro hf
          refine (ref06_Sections_ok hp (by omega)).mono ?_
          rintro r4 s4 ⟨rfl, d4, rfl, hd4⟩
          refine ⟨d4, rfl, (ref06_in_ok q (hd4 _)).use ⟨_, rfl, ?_⟩⟩
          rw [hasSec_in]
          refine bc (fun k2 => ⟨by trivial, leaf out' _ _ _ (no fun g => by rw [g.2.2.1] at k2; cases k2) ho' ho1' hap'⟩) (fun k2 => bce (fun k3 => ⟨by trivial, leaf out' _ _ _ (no fun g => g.2.1 k3) ho' ho1' hap'⟩) (fun k3 => (ref06_in_ok q ho1'.at_).use ⟨_, rfl, ?_⟩))
          rw [nd_any]
          refine bc (fun k4 => ⟨by trivial, leaf out' _ _ _ (no fun g => by rw [g.2.2.2] at k4; cases k4) ho' ho1' hap'⟩) (fun k4 => ⟨by trivial, hR2 _ ?_⟩)
          refine newObj_intro fun id s5 hid _ he5 hs5 => ?_
          refine (ho1'.ext' he5).append2 (ho'.ext' he5) hap' (At.fresh hs5 (by simp) rfl) (by simp; omega) (by simp; omega) fun d5 s6 ho6 ho6' hap6 => ?_
          refine newObj_intro fun id7 s7 hid7 _ he7 hs7 => ?_
          have hw2 : w64 (3 - f) = 3 - f := w64_id (by omega) (by omega)
          refine (ho6'.ext' he7).append2 (ho6.ext' he7) hap6.symm (At.fresh hs7 (by simp) rfl) (by simp; omega) (by simp; omega) fun d8 s8 ho8 ho8' hap8 => ⟨by trivial, leaf (out' ++ [⟨q, 3 - f⟩]) _ _ _ (by rw [hst, if_pos ⟨k1, hf, k3, k2, k4⟩]) ?_ ?_ hap8.symm⟩
          · rw [hw2] at ho8; rw [List.map_append]; exact ho8
          · rw [List.map_append, List.map_append]; exact ho8'
        refine bcn (fun k2 => bcn (fun k3 => ⟨by trivial, leaf out' _ _ s' (no fun g => by omega) ho' ho1' hap'⟩) (fun k3 => main (by omega))) (fun k2 => main (by omega))
    · have hz : (nends k - m).toNat = 0 := by omega
      rw [hz, flankEnds] at hE
      rw [← hE] at hF'
      have hn := nx (fun r => flankRun c a path r out' = c.flank a path) hF'
      exact ⟨⟨out', ho', ho1', hap', by rw [w64_succ (by omega)]; omega, hn.1⟩, hn.2⟩
  · have hF := hr.done rfl hge
    rw [flankRun] at hF
    rw [← hF]
    exact own_fin ho (flatNd _)

theorem ref06_Overlap_ok (r : Rt) {d1 d2 d3 : D} (hp : ∀ s, At Try.prog s t_Step d1 (r.Path.map St.enc)) (hpl : r.Path.length ≤ 2 ^ 20) :
    DCalls Try.prog n_ref06_Overlap [cfA c0 c1 c2 c3 c4 c, rtA d1 d2 d3 r] σ (SlPost σ t_int ((c.overlap r).map encI)) := by
  refine (W_ref06_Overlap _ _ _ _ _ _ _ _ _ _ _ d1 d2 d3 _ σ _ ?_).ret (Q := fun r' s => ∃ r'' σ', Ret Try.prog σ s r' σ' r'' ∧ SlPost σ t_int ((c.overlap r).map encI) r'' σ') (fun r s h => h)
  intro R hR
  have nil : c.overlap r = [] → ∃ r'' σ', Ret Try.prog σ σ (.a (.one .nils)) σ' r'' ∧ SlPost σ t_int ((c.overlap r).map encI) r'' σ' := fun e => by
    rw [e]; exact own_fin (.nil _ (.refl _)) (flatI _)
  refine bc (fun h1 => nil (by rw [Cf.overlap, if_pos h1])) (fun h1 => ?_)
  have hov : c.overlap r = match geti c.Sigs r.Exit with
    | none => []
    | some x => match nxt c.Jts x.Sec x.End_ with
      | none => []
      | some (q, _) => match geti c.Secs q with
        | none => []
        | some y => if y.Line = 0 ∧ hasSec r.Path q = false ∧ q ≠ c.approach r then [q] else [] := by
    rw [Cf.overlap, if_neg (by rw [h1]; simp)] <;> rfl
  refine bcd (fun e => nil (by rw [hov, geti_neg e])) (fun e0 => (h σ).sigs.lenK ?_)
  rw [List.length_map]
  refine bcd (fun e => nil (by rw [hov, geti_ge e])) (fun e1 => hR σ ?_)
  obtain ⟨x, hg⟩ := geti_ex e0 e1
  rw [hg] at hov
  simp only at hov
  refine (h σ).sigs.load (map_get (geti_some hg).2.2) c_Signal (by omega) ⟨x.Sec, x.End_, rfl, (ref05_Next_ok _ _ (h σ).jts).use (opt2_ex _ ?_)⟩
  intro R1 hR1
  have main : R1 (c.approach r) σ := by
    refine hR1 _ σ ?_
    cases hn : nxt c.Jts x.Sec x.End_ with
    | none => rw [hn] at hov; exact bcnot (fun _ => nil hov) (fun e => by cases e)
    | some p =>
      obtain ⟨q, f⟩ := p
      rw [hn] at hov
      simp only [Option.getD_some] at hov ⊢
      refine bcnot (fun e => by cases e) (fun _ => bcd (fun e => nil (by rw [hov, geti_neg e])) (fun e2 => (h σ).secs.lenK ?_))
      rw [List.length_map]
      refine bcd (fun e => nil (by rw [hov, geti_ge e])) (fun e3 => (ref06_Sections_ok hp (by omega)).mono ?_)
      obtain ⟨y, hy⟩ := geti_ex e2 e3
      rw [hy] at hov
      simp only at hov
      have no : ¬ (y.Line = 0 ∧ hasSec r.Path q = false ∧ q ≠ c.approach r) → c.overlap r = [] := fun hn => by rw [hov, if_neg hn]
      rintro r4 s4 ⟨rfl, d4, rfl, hd4⟩
      refine ⟨d4, rfl, (ref06_in_ok q (hd4 _)).use ⟨_, rfl, ?_⟩⟩
      rw [hasSec_in]
      refine bc (fun k2 => nil (no fun g => by rw [g.2.1] at k2; cases k2)) (fun k2 => bce (fun k3 => nil (no fun g => g.2.2 k3)) (fun k3 => ?_))
      refine (h s4).secs.load (map_get (geti_some hy).2.2) c_Section (by omega) ⟨y.Line, rfl, bcn (fun k4 => nil (no fun g => k4 g.1)) (fun k4 => ?_)⟩
      refine newObj_intro fun id s5 hid _ he5 hs5 => ?_
      rw [hov, if_pos ⟨k4, k2, k3⟩]
      exact own_fin (.at_new hid he5 hs5 (by simp) rfl) (flatI _)
  refine bcd (fun k0 => (h σ).sigs.lenK ?_) (fun k0 => ?_)
  · rw [List.length_map]
    refine bcd (fun k1 => ?_) (fun k1 => ?_)
    · obtain ⟨z, hz⟩ := geti_ex (l := c.Sigs) (i := r.Entry) (by omega) (by omega)
      refine (h σ).sigs.load (map_get (geti_some hz).2.2) c_Signal (by omega) ⟨z.Sec, rfl, ?_⟩
      rw [Cf.approach, hz] at main; exact main
    · rw [Cf.approach, geti_ge (by omega)] at main; exact main
  · rw [Cf.approach, geti_neg (by omega)] at main; exact main

theorem ref06_Check_ok : Pure Try.prog n_ref06_Check [cfA c0 c1 c2 c3 c4 c] σ (.a (iA c.check)) := by
  refine W_ref06_Check _ _ _ _ _ _ _ _ _ σ _ ((ref05_Check_ok (h σ).secs (h σ).jts).use ⟨_, rfl, ?_⟩)
  have e6 : (if topoOk c.Secs c.Jts = true then (0 : Int) else 6) ≠ 0 ↔ topoOk c.Secs c.Jts = false := by
    cases topoOk c.Secs c.Jts <;> simp
  refine bcn (fun k1 => ⟨by rw [Cf.check, if_pos (e6.1 k1)], rfl⟩) (fun k1 => (ref06_signals_ok (h σ)).use ⟨_, rfl, bcnot (fun k2 => ⟨?_, rfl⟩) (fun k2 => ?_)⟩)
  all_goals have k1' : ¬ topoOk c.Secs c.Jts = false := fun e => e6.2 e k1
  · rw [Cf.check, if_neg k1', if_pos k2]
  have ht : topoOk c.Secs c.Jts = true := by simpa using k1'
  refine (ref06_crossings_ok (h σ) ht).use ⟨_, rfl, bcnot (fun k3 => ⟨?_, rfl⟩) (fun k3 => ?_)⟩
  · rw [Cf.check, if_neg k1', if_neg (by rw [k2]; simp), if_pos k3]
  have hck : c.check = if c.Rts.length > 12 then 9 else if c.routes c.Rts ≠ 0 then c.routes c.Rts else if c.timing = true then 0 else 12 := by
    rw [Cf.check, if_neg k1', if_neg (by rw [k2]; simp), if_neg (by rw [k3]; simp)]
  obtain ⟨rows, hat, hlen, hrow⟩ := rts_froz fun s => (h s).rts
  have hl := (hat σ).size
  refine (hat σ).lenK (bcd (fun k4 => ⟨by rw [hck, if_pos (by omega)], rfl⟩) (fun k4 => (hat σ).lenK ?_))
  rw [if_neg (by omega)] at hck
  refine ⟨fun n s => s = σ ∧ Rng c.Rts (fun l => c.routes l = c.routes c.Rts) n, fun n _ => c.Rts.length - n.toNat, ⟨rfl, .start rfl⟩, ?_⟩
  rintro n τ ⟨rfl, hr⟩
  refine bcd (fun hlt => ?_) (fun hge => ?_)
  · obtain ⟨j, x, rfl, hx, hj, hF, nx⟩ := hr.step hlen (by omega) hlt
    obtain ⟨row, hrw⟩ := get_of_lt (l := rows) (j := j) (by omega)
    obtain ⟨d1, d2, d3, rfl, q1, q2, q3⟩ := hrow j row x hrw hx
    rw [Cf.routes] at hF
    have err : ∀ e, e ≠ 0 → c.route x = e → (RV.a (iA e) = .a (iA c.check) ∧ τ = τ) := fun e he hc => by
      rw [hc, if_pos he] at hF
      rw [hck, ← hF, if_pos he]; exact ⟨rfl, rfl⟩
    refine (hat τ).load hrw c_Route rfl ⟨_, _, d1, d2, d3, _, rfl, (ref06_path_ok h ht k2 x q1).use ⟨_, rfl, bcnot (fun k5 => err 9 (by decide) (by rw [Cf.route, if_pos k5])) (fun k5 => ?_)⟩⟩
    have hpl : x.Path.length ≤ 8 := by
      unfold Cf.path at k5
      split at k5
      · cases k5
      · simp at k5; exact k5.1.2.2
    refine (ref06_Approach_ok (h τ) j).use ⟨_, rfl, ?_⟩
    rw [show c.Approach j = c.approach x by rw [Cf.Approach, show geti c.Rts j = some x by unfold geti; rw [if_neg (by omega), Int.toNat_natCast]; exact hx]; rfl]
    refine (ref06_Flank_ok h _ q1 (by omega)).mono ?_
    rintro r1 s1 ⟨rfl, d, rfl, hd⟩
    refine ⟨d, rfl, (ref06_SameNeeds_ok (q2 _) (hd _)).use ⟨_, rfl, bcnot (fun k6 => err 10 (by decide) ?_) (fun k6 => (ref06_Overlap_ok h x q1 (by omega)).mono ?_)⟩⟩
    · rw [Cf.route, if_neg (by rw [k5]; simp), if_pos (of_decide_eq_false k6)]
    rintro r2 s2 ⟨rfl, d', rfl, hd'⟩
    have e2 := of_decide_eq_true k6
    refine ⟨d', rfl, (ref06_sameInts_ok (q3 _) (hd' _)).use ⟨_, rfl, bcnot (fun k7 => err 11 (by decide) ?_) (fun k7 => ?_)⟩⟩
    · rw [Cf.route, if_neg (by rw [k5]; simp), if_neg (fun hn => hn e2), if_pos (of_decide_eq_false k7)]
    · have h0 : c.route x = 0 := by rw [Cf.route, if_neg (by rw [k5]; simp), if_neg (fun hn => hn e2), if_neg (fun hn => hn (of_decide_eq_true k7))]
      rw [if_neg (by simp [h0])] at hF
      exact andl rfl (nx _ hF)
  · have hF : 0 = c.routes c.Rts := hr.done hlen hge
    rw [← hF, if_neg (by simp)] at hck
    have bad : ¬ (((1 ≤ c.Age ∧ c.Age ≤ 8) ∧ (0 ≤ c.Brake ∧ c.Brake ≤ 8)) ∧ (c.Age + c.Brake + 1 ≤ c.Hold ∧ c.Hold ≤ 40) ∧ (1 ≤ c.Budget ∧ c.Budget ≤ 1000000)) → (RV.a (iA 12) = .a (iA c.check) ∧ τ = τ) := fun hn => by
      rw [hck, if_neg (fun e => hn (by simpa [Cf.timing, and_assoc] using e))]; exact ⟨rfl, rfl⟩
    refine bcd (fun e => bad fun g => by omega) (fun t1 => bcd (fun e => bad fun g => by omega) (fun t2 => bcd (fun e => bad fun g => by omega) (fun t3 => bcd (fun e => bad fun g => by omega) (fun t4 => ?_))))
    rw [w64_id (n := c.Age + c.Brake) (by omega) (by omega), w64_id (n := c.Age + c.Brake + 1) (by omega) (by omega)]
    refine bcd (fun e => bad fun g => by omega) (fun t5 => bcd (fun e => bad fun g => by omega) (fun t6 => bcd (fun e => bad fun g => by omega) (fun t7 => bcd (fun e => bad fun g => by omega) (fun t8 => ⟨?_, rfl⟩))))
    rw [hck, if_pos]
    simp only [Cf.timing, Bool.and_eq_true, decide_eq_true_eq]
    omega
end
end Go.Proofs.Ytnochggjgopfeaa
end
section
set_option linter.unusedVariables false
set_option linter.unusedSimpArgs false
namespace Go.Proofs.Ytnochggjgopfeaa
open Go.Fw Go.Proofs Go.RowKit
variable {σ : Store}

section
variable {σ0 : Store} {d0 d1 d2 d3 d4 d5 : D} {k : Co}

theorem ext_other {s s' : Store} {i : Nat} (he : Ext σ0 s) (hf : σ0 i = .free) (hs : ∀ j, j ≠ i → s' j = s j) : Ext σ0 s' := fun j hj => by
  rw [hs j (fun e => hj (by rw [e]; exact hf))]; exact he j hj

theorem CoOwn.setOwn (h : CoOwn σ0 σ d0 d1 d2 d3 d4 d5 k) {j n : Nat} {o w : Int} (hj : k.Own[j]? = some o) (hn : n = j) {K : Store → Prop}
    (hK : ∀ s', CoOwn σ0 s' d0 d1 d2 d3 d4 d5 { k with Own := k.Own.set j w } → K s') : storeEl [iD w] σ d0 n 0 K := by
  refine h.own.at_.store h.own.nsl (map_get hj) hn (by simp [encI]) fun s' i hi hat hs hne => hK s' ?_
  have hf := own_id h.own hi
  have ap : ∀ {m : Nat} {d : D}, [d0, d1, d2, d3, d4, d5][m]? = some d → m ≠ 0 → idOf d ≠ some i := fun hm hne0 => pw h.apart (i := 0) rfl hm (Ne.symm hne0) i hi
  refine ⟨⟨?_, ext_other h.own.ext hf hs, h.own.new, h.own.nsl, h.own.nz⟩, own_other h.routes hf (ap (m := 1) rfl (by omega)) hs, own_other h.points hf (ap (m := 2) rfl (by omega)) hs, own_other h.xs hf (ap (m := 3) rfl (by omega)) hs, own_other h.lines hf (ap (m := 4) rfl (by omega)) hs, own_other h.resets hf (ap (m := 5) rfl (by omega)) hs, h.apart⟩
  have e : (List.map encI k.Own).set j (patch (encI o) 0 [iD w]) = (k.Own.set j w).map encI := map_set encI k.Own j w
  rw [e] at hat; exact hat

theorem CoOwn.setLine (h : CoOwn σ0 σ d0 d1 d2 d3 d4 d5 k) {j n off : Nat} {x y : Ls} {ys : List D} (hj : k.Lines[j]? = some x) (hn : n = j) (ho : off + ys.length ≤ 8) (hp : patch x.enc off ys = y.enc) {K : Store → Prop}
    (hK : ∀ s', CoOwn σ0 s' d0 d1 d2 d3 d4 d5 { k with Lines := k.Lines.set j y } → K s') : storeEl ys σ d4 n off K := by
  refine h.lines.at_.store h.lines.nsl (map_get hj) hn ho fun s' i hi hat hs hne => hK s' ?_
  have hf := own_id h.lines hi
  have ap : ∀ {m : Nat} {d : D}, [d0, d1, d2, d3, d4, d5][m]? = some d → m ≠ 4 → idOf d ≠ some i := fun hm hne0 => pw h.apart (i := 4) rfl hm (Ne.symm hne0) i hi
  refine ⟨own_other h.own hf (ap (m := 0) rfl (by omega)) hs, own_other h.routes hf (ap (m := 1) rfl (by omega)) hs, own_other h.points hf (ap (m := 2) rfl (by omega)) hs, own_other h.xs hf (ap (m := 3) rfl (by omega)) hs, ⟨?_, ext_other h.lines.ext hf hs, h.lines.new, h.lines.nsl, h.lines.nz⟩, own_other h.resets hf (ap (m := 5) rfl (by omega)) hs, h.apart⟩
  rw [hp, map_set Ls.enc k.Lines j y] at hat; exact hat

/-- All owners are written alike. -/
theorem set_all (l : List Int) (j : Nat) (w : Int) (hj : j < l.length) : (List.replicate j w ++ l.drop j).set j w = List.replicate (j + 1) w ++ l.drop (j + 1) := by
  rw [List.drop_eq_getElem_cons hj, List.set_append_right _ _ (by simp), List.length_replicate, Nat.sub_self, List.set_cons_zero, List.replicate_succ', List.append_assoc]
  rfl
end
end Go.Proofs.Ytnochggjgopfeaa
end
section
set_option linter.unusedVariables false
set_option linter.unusedSimpArgs false
namespace Go.Proofs.Ytnochggjgopfeaa
open Go.Fw Go.Proofs Go.RowKit
variable {σ σ0 : Store} {d0 d1 d2 d3 d4 d5 : D} {k : Co}

/-- A new list with another one's elements. -/
theorem copy_ok {t : TypeId} {bytes : Nat} {d : D} {rows : List (List D)} {K : D → Store → Prop} (h : At Try.prog σ t d rows) (hb : bytes * rows.length ≤ 140737488355328)
    (hK : ∀ d' s, Own Try.prog σ s t d' rows → K d' s) : Fw.newObj σ (.live t []) fun id σ' => appendTo Try.prog σ' t bytes (.osl id 0 0) d K := by
  refine newObj_intro fun id s hid _ he hs => ?_
  have ho : Own Try.prog σ s t (.osl id 0 0) [] := .at_new hid he hs (by simp) rfl
  exact ho.append (h.ext he) (by simpa using hb) (by have := h.size; simpa using this) fun d' s' ho' _ _ => hK _ _ (by simpa using ho')

/-- A state that lies in an object, with lists of its own. -/
structure CoIn (σ0 σ : Store) (id : Nat) (t : TypeId) (pre post : List D) (d0 d1 d2 d3 d4 d5 : D) (k : Co) : Prop where
  new : σ0 id = .free
  row : σ id = .live t [pre ++ ([d0, d1, d2, d3, d4, d5, .bool k.Dirty] ++ post)]
  co : CoOwn σ0 σ d0 d1 d2 d3 d4 d5 k
  ids : ∀ d ∈ [d0, d1, d2, d3, d4, d5], idOf d ≠ some id

theorem CoIn.ext {id t pre post} (h : CoIn σ0 σ id t pre post d0 d1 d2 d3 d4 d5 k) : Ext σ0 σ := h.co.own.ext
theorem CoIn.at {id t pre post} (h : CoIn σ0 σ id t pre post d0 d1 d2 d3 d4 d5 k) : CoAt σ d0 d1 d2 d3 d4 d5 k := h.co.at

theorem CoIn.dirty {id t pre post} (h : CoIn σ0 σ id t pre post d0 d1 d2 d3 d4 d5 k) {b : Bool} {off : Nat} (ho : off = pre.length + 6) {K : Store → Prop}
    (hK : ∀ s', CoIn σ0 s' id t pre post d0 d1 d2 d3 d4 d5 { k with Dirty := b } → (∀ i, i ≠ id → s' i = σ i) → K s') : storeEl [.bool b] σ (.osl id 0 1) 0 off K := by
  refine cell_store h.row (by subst ho; simp; omega) fun s' hs hs' => hK s' ?_ hs'
  have al : ∀ {d : D} {el : TypeId} {rs : List (List D)}, d ∈ [d0, d1, d2, d3, d4, d5] → Own Try.prog σ0 σ el d rs → Own Try.prog σ0 s' el d rs := fun hd g => own_other g h.new (h.ids _ hd) hs'
  refine ⟨h.new, ?_, ⟨al (by simp) h.co.own, al (by simp) h.co.routes, al (by simp) h.co.points, al (by simp) h.co.xs, al (by simp) h.co.lines, al (by simp) h.co.resets, h.co.apart⟩, h.ids⟩
  rw [hs]
  have e : patch (pre ++ ([d0, d1, d2, d3, d4, d5, .bool k.Dirty] ++ post)) off [.bool b] = pre ++ ([d0, d1, d2, d3, d4, d5, .bool b] ++ post) := by
    subst ho
    unfold patch
    rw [List.take_length_add_append, List.length_singleton, Nat.add_assoc, List.drop_length_add_append]
    rw [List.append_assoc, List.append_assoc]; rfl
  rw [e]

theorem CoOwn.putO (h : CoOwn σ0 σ d0 d1 d2 d3 d4 d5 k) {j n off : Nat} {x y : Int} {ys : List D} (hj : k.Own[j]? = some x) (hn : n = j) (ho : off + ys.length ≤ 1) (hp : patch (encI x) off ys = encI y) {K : Store → Prop}
    (hK : ∀ s', CoOwn σ0 s' d0 d1 d2 d3 d4 d5 { k with Own := k.Own.set j y } → (∀ i, idOf d0 ≠ some i → s' i = σ i) → K s') : storeEl ys σ d0 n off K := by
  refine h.own.at_.store h.own.nsl (map_get hj) hn ho fun s' i hi hat hs hne => hK s' ?_ fun i' hi' => hs i' fun e => hi' (by rw [e]; exact hi)
  have hf := own_id h.own hi
  have ap : ∀ {m : Nat} {d : D}, [d0, d1, d2, d3, d4, d5][m]? = some d → m ≠ 0 → idOf d ≠ some i := fun hm hne0 => pw h.apart (i := 0) rfl hm (Ne.symm hne0) i hi
  refine ⟨⟨?_, ext_other h.own.ext hf hs, h.own.new, h.own.nsl, h.own.nz⟩, own_other h.routes hf (ap (m := 1) rfl (by omega)) hs, own_other h.points hf (ap (m := 2) rfl (by omega)) hs, own_other h.xs hf (ap (m := 3) rfl (by omega)) hs, own_other h.lines hf (ap (m := 4) rfl (by omega)) hs, own_other h.resets hf (ap (m := 5) rfl (by omega)) hs, h.apart⟩
  rw [hp, map_set (encI) k.Own j y] at hat; exact hat

theorem CoIn.putO {id t pre post} (h : CoIn σ0 σ id t pre post d0 d1 d2 d3 d4 d5 k) {j n off : Nat} {x y : Int} {ys : List D} (hj : k.Own[j]? = some x) (hn : n = j) (ho : off + ys.length ≤ 1) (hp : patch (encI x) off ys = encI y) {K : Store → Prop}
    (hK : ∀ s', CoIn σ0 s' id t pre post d0 d1 d2 d3 d4 d5 { k with Own := k.Own.set j y } → (∀ i, idOf d0 ≠ some i → s' i = σ i) → K s') : storeEl ys σ d0 n off K :=
  h.co.putO hj hn ho hp fun s' h' hs => hK s' ⟨h.new, (hs id (h.ids _ (by simp))).trans h.row, h', h.ids⟩ hs

theorem CoOwn.putR (h : CoOwn σ0 σ d0 d1 d2 d3 d4 d5 k) {j n off : Nat} {x y : Rs} {ys : List D} (hj : k.Routes[j]? = some x) (hn : n = j) (ho : off + ys.length ≤ 4) (hp : patch (Rs.enc x) off ys = Rs.enc y) {K : Store → Prop}
    (hK : ∀ s', CoOwn σ0 s' d0 d1 d2 d3 d4 d5 { k with Routes := k.Routes.set j y } → (∀ i, idOf d1 ≠ some i → s' i = σ i) → K s') : storeEl ys σ d1 n off K := by
  refine h.routes.at_.store h.routes.nsl (map_get hj) hn ho fun s' i hi hat hs hne => hK s' ?_ fun i' hi' => hs i' fun e => hi' (by rw [e]; exact hi)
  have hf := own_id h.routes hi
  have ap : ∀ {m : Nat} {d : D}, [d0, d1, d2, d3, d4, d5][m]? = some d → m ≠ 1 → idOf d ≠ some i := fun hm hne0 => pw h.apart (i := 1) rfl hm (Ne.symm hne0) i hi
  refine ⟨own_other h.own hf (ap (m := 0) rfl (by omega)) hs, ⟨?_, ext_other h.routes.ext hf hs, h.routes.new, h.routes.nsl, h.routes.nz⟩, own_other h.points hf (ap (m := 2) rfl (by omega)) hs, own_other h.xs hf (ap (m := 3) rfl (by omega)) hs, own_other h.lines hf (ap (m := 4) rfl (by omega)) hs, own_other h.resets hf (ap (m := 5) rfl (by omega)) hs, h.apart⟩
  rw [hp, map_set (Rs.enc) k.Routes j y] at hat; exact hat

theorem CoIn.putR {id t pre post} (h : CoIn σ0 σ id t pre post d0 d1 d2 d3 d4 d5 k) {j n off : Nat} {x y : Rs} {ys : List D} (hj : k.Routes[j]? = some x) (hn : n = j) (ho : off + ys.length ≤ 4) (hp : patch (Rs.enc x) off ys = Rs.enc y) {K : Store → Prop}
    (hK : ∀ s', CoIn σ0 s' id t pre post d0 d1 d2 d3 d4 d5 { k with Routes := k.Routes.set j y } → (∀ i, idOf d1 ≠ some i → s' i = σ i) → K s') : storeEl ys σ d1 n off K :=
  h.co.putR hj hn ho hp fun s' h' hs => hK s' ⟨h.new, (hs id (h.ids _ (by simp))).trans h.row, h', h.ids⟩ hs

theorem CoOwn.putP (h : CoOwn σ0 σ d0 d1 d2 d3 d4 d5 k) {j n off : Nat} {x y : Mv} {ys : List D} (hj : k.Points[j]? = some x) (hn : n = j) (ho : off + ys.length ≤ 2) (hp : patch (Mv.enc x) off ys = Mv.enc y) {K : Store → Prop}
    (hK : ∀ s', CoOwn σ0 s' d0 d1 d2 d3 d4 d5 { k with Points := k.Points.set j y } → (∀ i, idOf d2 ≠ some i → s' i = σ i) → K s') : storeEl ys σ d2 n off K := by
  refine h.points.at_.store h.points.nsl (map_get hj) hn ho fun s' i hi hat hs hne => hK s' ?_ fun i' hi' => hs i' fun e => hi' (by rw [e]; exact hi)
  have hf := own_id h.points hi
  have ap : ∀ {m : Nat} {d : D}, [d0, d1, d2, d3, d4, d5][m]? = some d → m ≠ 2 → idOf d ≠ some i := fun hm hne0 => pw h.apart (i := 2) rfl hm (Ne.symm hne0) i hi
  refine ⟨own_other h.own hf (ap (m := 0) rfl (by omega)) hs, own_other h.routes hf (ap (m := 1) rfl (by omega)) hs, ⟨?_, ext_other h.points.ext hf hs, h.points.new, h.points.nsl, h.points.nz⟩, own_other h.xs hf (ap (m := 3) rfl (by omega)) hs, own_other h.lines hf (ap (m := 4) rfl (by omega)) hs, own_other h.resets hf (ap (m := 5) rfl (by omega)) hs, h.apart⟩
  rw [hp, map_set (Mv.enc) k.Points j y] at hat; exact hat

theorem CoIn.putP {id t pre post} (h : CoIn σ0 σ id t pre post d0 d1 d2 d3 d4 d5 k) {j n off : Nat} {x y : Mv} {ys : List D} (hj : k.Points[j]? = some x) (hn : n = j) (ho : off + ys.length ≤ 2) (hp : patch (Mv.enc x) off ys = Mv.enc y) {K : Store → Prop}
    (hK : ∀ s', CoIn σ0 s' id t pre post d0 d1 d2 d3 d4 d5 { k with Points := k.Points.set j y } → (∀ i, idOf d2 ≠ some i → s' i = σ i) → K s') : storeEl ys σ d2 n off K :=
  h.co.putP hj hn ho hp fun s' h' hs => hK s' ⟨h.new, (hs id (h.ids _ (by simp))).trans h.row, h', h.ids⟩ hs

theorem CoOwn.putX (h : CoOwn σ0 σ d0 d1 d2 d3 d4 d5 k) {j n off : Nat} {x y : Mv} {ys : List D} (hj : k.Xs[j]? = some x) (hn : n = j) (ho : off + ys.length ≤ 2) (hp : patch (Mv.enc x) off ys = Mv.enc y) {K : Store → Prop}
    (hK : ∀ s', CoOwn σ0 s' d0 d1 d2 d3 d4 d5 { k with Xs := k.Xs.set j y } → (∀ i, idOf d3 ≠ some i → s' i = σ i) → K s') : storeEl ys σ d3 n off K := by
  refine h.xs.at_.store h.xs.nsl (map_get hj) hn ho fun s' i hi hat hs hne => hK s' ?_ fun i' hi' => hs i' fun e => hi' (by rw [e]; exact hi)
  have hf := own_id h.xs hi
  have ap : ∀ {m : Nat} {d : D}, [d0, d1, d2, d3, d4, d5][m]? = some d → m ≠ 3 → idOf d ≠ some i := fun hm hne0 => pw h.apart (i := 3) rfl hm (Ne.symm hne0) i hi
  refine ⟨own_other h.own hf (ap (m := 0) rfl (by omega)) hs, own_other h.routes hf (ap (m := 1) rfl (by omega)) hs, own_other h.points hf (ap (m := 2) rfl (by omega)) hs, ⟨?_, ext_other h.xs.ext hf hs, h.xs.new, h.xs.nsl, h.xs.nz⟩, own_other h.lines hf (ap (m := 4) rfl (by omega)) hs, own_other h.resets hf (ap (m := 5) rfl (by omega)) hs, h.apart⟩
  rw [hp, map_set (Mv.enc) k.Xs j y] at hat; exact hat

theorem CoIn.putX {id t pre post} (h : CoIn σ0 σ id t pre post d0 d1 d2 d3 d4 d5 k) {j n off : Nat} {x y : Mv} {ys : List D} (hj : k.Xs[j]? = some x) (hn : n = j) (ho : off + ys.length ≤ 2) (hp : patch (Mv.enc x) off ys = Mv.enc y) {K : Store → Prop}
    (hK : ∀ s', CoIn σ0 s' id t pre post d0 d1 d2 d3 d4 d5 { k with Xs := k.Xs.set j y } → (∀ i, idOf d3 ≠ some i → s' i = σ i) → K s') : storeEl ys σ d3 n off K :=
  h.co.putX hj hn ho hp fun s' h' hs => hK s' ⟨h.new, (hs id (h.ids _ (by simp))).trans h.row, h', h.ids⟩ hs

theorem CoOwn.putL (h : CoOwn σ0 σ d0 d1 d2 d3 d4 d5 k) {j n off : Nat} {x y : Ls} {ys : List D} (hj : k.Lines[j]? = some x) (hn : n = j) (ho : off + ys.length ≤ 8) (hp : patch (Ls.enc x) off ys = Ls.enc y) {K : Store → Prop}
    (hK : ∀ s', CoOwn σ0 s' d0 d1 d2 d3 d4 d5 { k with Lines := k.Lines.set j y } → (∀ i, idOf d4 ≠ some i → s' i = σ i) → K s') : storeEl ys σ d4 n off K := by
  refine h.lines.at_.store h.lines.nsl (map_get hj) hn ho fun s' i hi hat hs hne => hK s' ?_ fun i' hi' => hs i' fun e => hi' (by rw [e]; exact hi)
  have hf := own_id h.lines hi
  have ap : ∀ {m : Nat} {d : D}, [d0, d1, d2, d3, d4, d5][m]? = some d → m ≠ 4 → idOf d ≠ some i := fun hm hne0 => pw h.apart (i := 4) rfl hm (Ne.symm hne0) i hi
  refine ⟨own_other h.own hf (ap (m := 0) rfl (by omega)) hs, own_other h.routes hf (ap (m := 1) rfl (by omega)) hs, own_other h.points hf (ap (m := 2) rfl (by omega)) hs, own_other h.xs hf (ap (m := 3) rfl (by omega)) hs, ⟨?_, ext_other h.lines.ext hf hs, h.lines.new, h.lines.nsl, h.lines.nz⟩, own_other h.resets hf (ap (m := 5) rfl (by omega)) hs, h.apart⟩
  rw [hp, map_set (Ls.enc) k.Lines j y] at hat; exact hat

theorem CoIn.putL {id t pre post} (h : CoIn σ0 σ id t pre post d0 d1 d2 d3 d4 d5 k) {j n off : Nat} {x y : Ls} {ys : List D} (hj : k.Lines[j]? = some x) (hn : n = j) (ho : off + ys.length ≤ 8) (hp : patch (Ls.enc x) off ys = Ls.enc y) {K : Store → Prop}
    (hK : ∀ s', CoIn σ0 s' id t pre post d0 d1 d2 d3 d4 d5 { k with Lines := k.Lines.set j y } → (∀ i, idOf d4 ≠ some i → s' i = σ i) → K s') : storeEl ys σ d4 n off K :=
  h.co.putL hj hn ho hp fun s' h' hs => hK s' ⟨h.new, (hs id (h.ids _ (by simp))).trans h.row, h', h.ids⟩ hs

theorem CoOwn.putZ (h : CoOwn σ0 σ d0 d1 d2 d3 d4 d5 k) {j n off : Nat} {x y : Int} {ys : List D} (hj : k.Resets[j]? = some x) (hn : n = j) (ho : off + ys.length ≤ 1) (hp : patch (encI x) off ys = encI y) {K : Store → Prop}
    (hK : ∀ s', CoOwn σ0 s' d0 d1 d2 d3 d4 d5 { k with Resets := k.Resets.set j y } → (∀ i, idOf d5 ≠ some i → s' i = σ i) → K s') : storeEl ys σ d5 n off K := by
  refine h.resets.at_.store h.resets.nsl (map_get hj) hn ho fun s' i hi hat hs hne => hK s' ?_ fun i' hi' => hs i' fun e => hi' (by rw [e]; exact hi)
  have hf := own_id h.resets hi
  have ap : ∀ {m : Nat} {d : D}, [d0, d1, d2, d3, d4, d5][m]? = some d → m ≠ 5 → idOf d ≠ some i := fun hm hne0 => pw h.apart (i := 5) rfl hm (Ne.symm hne0) i hi
  refine ⟨own_other h.own hf (ap (m := 0) rfl (by omega)) hs, own_other h.routes hf (ap (m := 1) rfl (by omega)) hs, own_other h.points hf (ap (m := 2) rfl (by omega)) hs, own_other h.xs hf (ap (m := 3) rfl (by omega)) hs, own_other h.lines hf (ap (m := 4) rfl (by omega)) hs, ⟨?_, ext_other h.resets.ext hf hs, h.resets.new, h.resets.nsl, h.resets.nz⟩, h.apart⟩
  rw [hp, map_set (encI) k.Resets j y] at hat; exact hat

theorem CoIn.putZ {id t pre post} (h : CoIn σ0 σ id t pre post d0 d1 d2 d3 d4 d5 k) {j n off : Nat} {x y : Int} {ys : List D} (hj : k.Resets[j]? = some x) (hn : n = j) (ho : off + ys.length ≤ 1) (hp : patch (encI x) off ys = encI y) {K : Store → Prop}
    (hK : ∀ s', CoIn σ0 s' id t pre post d0 d1 d2 d3 d4 d5 { k with Resets := k.Resets.set j y } → (∀ i, idOf d5 ≠ some i → s' i = σ i) → K s') : storeEl ys σ d5 n off K :=
  h.co.putZ hj hn ho hp fun s' h' hs => hK s' ⟨h.new, (hs id (h.ids _ (by simp))).trans h.row, h', h.ids⟩ hs
end Go.Proofs.Ytnochggjgopfeaa
end
section
set_option linter.unusedVariables false
set_option linter.unusedSimpArgs false
namespace Go.Fw

theorem mayOk_congr {c : Cf} {k k' : Co} (h : k'.Routes = k.Routes) (x : Ls) (s : Int) : mayOk c k' x s = mayOk c k x s := by unfold mayOk; rw [h]

/-- A line and its section's owner, a cycle later. -/
def lineX (occ : List Lk) (now : Int) (was : Bool) (may : Bool) (x : Ls) (o : Int) (s : Nat) : Ls × Int :=
  let look := (occ[s]?).getD ⟨0, 0, false⟩
  let y : Ls × Int :=
    if o = -2 then
      if x.PDone < x.Grant then ({ x with Since := 0 }, o)
      else if x.Since = 0 then ({ x with Since := w64 (now + 1) }, o)
      else if look.Valid = true ∧ look.Value = 0 ∧ x.Since ≤ look.Stamp then ({ x with Since := 0 }, 0)
      else (x, o)
    else if o = 0 ∧ may = true then ({ x with Grant := x.PAsk, Since := 0 }, -2)
    else (x, o)
  if was = true then y else ({ y.1 with Told := x.Grant }, y.2)

def lineY (occ : List Lk) (now : Int) (may : Bool) (x : Ls) (o : Int) (s : Nat) : Ls × Int :=
  let look := (occ[s]?).getD ⟨0, 0, false⟩
  if o = -2 then
    if x.PDone < x.Grant then ({ x with Since := 0 }, o)
    else if x.Since = 0 then ({ x with Since := w64 (now + 1) }, o)
    else if look.Valid = true ∧ look.Value = 0 ∧ x.Since ≤ look.Stamp then ({ x with Since := 0 }, 0)
    else (x, o)
  else if o = 0 ∧ may = true then ({ x with Grant := x.PAsk, Since := 0 }, -2)
  else (x, o)

theorem lineX_eq (occ : List Lk) (now : Int) (was may : Bool) (x : Ls) (o : Int) (s : Nat) : lineX occ now was may x o s = if was = true then lineY occ now may x o s else ({ (lineY occ now may x o s).1 with Told := x.Grant }, (lineY occ now may x o s).2) := rfl

section
variable {occ : List Lk} {now : Int} {was may : Bool} {x : Ls} {o : Int} {s : Nat} {lk : Lk}

theorem lineX_own : (lineX occ now was may x o s).2 = (lineY occ now may x o s).2 := by rw [lineX_eq]; split <;> rfl
theorem lineX_gr : (lineX occ now was may x o s).1.Grant = (lineY occ now may x o s).1.Grant := by rw [lineX_eq]; split <;> rfl

theorem lineY_told : (lineY occ now may x o s).1.Told = x.Told := by
  unfold lineY
  simp only
  split
  · split; rfl; split; rfl; split <;> rfl
  · split <;> rfl

theorem lineX_told (h : (lineX occ now was may x o s).1.Told ≠ x.Told) : was = false ∧ (lineX occ now was may x o s).1.Told = x.Grant := by
  rw [lineX_eq] at h ⊢
  cases was
  · exact ⟨rfl, rfl⟩
  · exact absurd lineY_told h

theorem lineX_free (hl : occ[s]? = some lk) (ho : o = -2) (h : (lineX occ now was may x o s).2 ≠ -2) : (lineX occ now was may x o s).2 = 0 ∧ ¬ x.PDone < x.Grant ∧ x.Since ≠ 0 ∧ lk.Valid = true ∧ lk.Value = 0 ∧ x.Since ≤ lk.Stamp := by
  rw [lineX_own] at h ⊢
  unfold lineY at h ⊢
  rw [hl] at h ⊢
  simp only [Option.getD_some, if_pos ho] at h ⊢
  split at h
  · exact absurd ho h
  rename_i p1
  split at h
  · exact absurd ho h
  rename_i p2
  split at h
  · rename_i p3
    rw [if_neg p1, if_neg p2, if_pos p3]
    exact ⟨rfl, p1, p2, p3⟩
  · exact absurd ho h

theorem lineX_grant (ho : o ≠ -2) (h : (lineX occ now was may x o s).2 = -2) : o = 0 ∧ may = true ∧ (lineX occ now was may x o s).1.Grant = x.PAsk := by
  rw [lineX_own] at h
  rw [lineX_gr]
  unfold lineY at h ⊢
  simp only [if_neg ho] at h ⊢
  split at h
  · rename_i p
    rw [if_pos p]
    exact ⟨p.1, p.2, rfl⟩
  · exact absurd h ho
end

structure SameBut (k k' : Co) (l s : Nat) : Prop where
  routes : k'.Routes = k.Routes
  lines : ∀ m, m ≠ l → k'.Lines[m]? = k.Lines[m]?
  own : ∀ t, t ≠ s → k'.Own[t]? = k.Own[t]?

theorem get_set {α : Type} {l : List α} {i : Nat} {a b : α} (h : l[i]? = some a) : (l.set i b)[i]? = some b := List.getElem?_set_self (List.getElem?_eq_some_iff.1 h).1

theorem lineStep_val (c : Cf) (occ : List Lk) (now : Int) (was : Bool) (k : Co) (l s : Nat) {x : Ls} {o : Int} (hx : k.Lines[l]? = some x) (ho : k.Own[s]? = some o) :
    (lineStep c occ now was k l s).Lines[l]? = some (lineX occ now was (mayOk c k x s) x o s).1 ∧ (lineStep c occ now was k l s).Own[s]? = some (lineX occ now was (mayOk c k x s) x o s).2 ∧ SameBut k (lineStep c occ now was k l s) l s := by
  have key : ∀ (k' : Co) (y : Ls × Int), k'.Lines[l]? = some y.1 → k'.Own[s]? = some y.2 → SameBut k k' l s →
      (if was = true then k' else { k' with Lines := k'.Lines.set l { (k'.Lines[l]?).getD zLs with Told := x.Grant } }).Lines[l]? = some (if was = true then y else ({ y.1 with Told := x.Grant }, y.2)).1 ∧
      (if was = true then k' else { k' with Lines := k'.Lines.set l { (k'.Lines[l]?).getD zLs with Told := x.Grant } }).Own[s]? = some (if was = true then y else ({ y.1 with Told := x.Grant }, y.2)).2 ∧
      SameBut k (if was = true then k' else { k' with Lines := k'.Lines.set l { (k'.Lines[l]?).getD zLs with Told := x.Grant } }) l s := by
    intro k' y h1 h2 h3
    split
    · exact ⟨h1, h2, h3⟩
    · refine ⟨?_, h2, h3.routes, fun m hm => ?_, h3.own⟩
      · rw [h1]; exact get_set h1
      · rw [← h3.lines m hm]; exact List.getElem?_set_ne (Ne.symm hm)
  have hlines : ∀ y : Ls, SameBut k { k with Lines := k.Lines.set l y } l s := fun y => ⟨rfl, fun m hm => List.getElem?_set_ne (Ne.symm hm), fun t ht => rfl⟩
  have hboth : ∀ (y : Ls) (w : Int), SameBut k { k with Own := k.Own.set s w, Dirty := true, Lines := k.Lines.set l y } l s := fun y w => ⟨rfl, fun m hm => List.getElem?_set_ne (Ne.symm hm), fun t ht => List.getElem?_set_ne (Ne.symm ht)⟩
  have hsame : SameBut k k l s := ⟨rfl, fun _ _ => rfl, fun _ _ => rfl⟩
  unfold lineStep lineX
  rw [hx, ho]
  simp only [Option.getD_some]
  refine key _ _ ?_ ?_ ?_
  · split
    · unfold backStep; rw [hx]; simp only [Option.getD_some]
      split
      · exact get_set hx
      split
      · exact get_set hx
      split
      · exact get_set hx
      · exact hx
    · by_cases hm : o = 0 ∧ mayOk c k x s = true
      · rw [if_pos hm, if_pos hm]; exact get_set hx
      · rw [if_neg hm, if_neg hm]; exact hx
  · split
    · unfold backStep; rw [hx]; simp only [Option.getD_some]
      split
      · exact ho
      split
      · exact ho
      split
      · exact get_set ho
      · exact ho
    · by_cases hm : o = 0 ∧ mayOk c k x s = true
      · rw [if_pos hm, if_pos hm]; exact get_set ho
      · rw [if_neg hm, if_neg hm]; exact ho
  · split
    · unfold backStep; rw [hx]; simp only [Option.getD_some]
      split
      · exact hlines _
      split
      · exact hlines _
      split
      · exact hboth _ _
      · exact hsame
    · by_cases hm : o = 0 ∧ mayOk c k x s = true
      · rw [if_pos hm]; exact hboth _ _
      · rw [if_neg hm]; exact hsame

theorem fidx_at {α : Type} (p : α → Bool) : ∀ (l : List α) (j : Nat), fidx p l j ≠ -1 → ∃ (i : Nat) (x : α), fidx p l j = ((j + i : Nat) : Int) ∧ l[i]? = some x ∧ p x = true
  | [], j, h => absurd rfl h
  | x :: r, j, h => by
    rw [fidx] at h ⊢
    by_cases hp : p x = true
    · rw [if_pos hp]; exact ⟨0, x, rfl, rfl, hp⟩
    · rw [if_neg hp] at h ⊢
      obtain ⟨i, y, h0, h1, h2⟩ := fidx_at p r (j + 1) h
      exact ⟨i + 1, y, by rw [h0]; omega, by simpa using h1, h2⟩

/-- A line's section bears its number. -/
theorem lineSec_at {c : Cf} {line : Int} {s : Nat} (h : c.lineSec line = s) : ∃ x, c.Secs[s]? = some x ∧ x.Line = line := by
  unfold Cf.lineSec at h
  split at h
  · omega
  · obtain ⟨i, x, h0, h1, h2⟩ := fidx_at (fun s : Sec => s.Line == line) c.Secs 0 (by omega)
    have : s = i := by omega
    subst this
    exact ⟨x, h1, by simpa using h2⟩

theorem lineSec_inj {c : Cf} {l m : Int} {s : Nat} (h1 : c.lineSec l = s) (h2 : c.lineSec m = s) : l = m := by
  obtain ⟨x, hx, e1⟩ := lineSec_at h1
  obtain ⟨y, hy, e2⟩ := lineSec_at h2
  rw [hx] at hy; cases hy; rw [← e1, e2]

/-- What no line's section is stays; so do other lines. -/
theorem stepRun_keeps (c : Cf) (occ : List Lk) (now : Int) (was : Bool) : ∀ (ls : List Nat) (k : Co), (∀ l ∈ ls, l < k.Lines.length) → k.Own.length = c.Secs.length →
    (stepRun c occ now was ls k).Routes = k.Routes ∧ (∀ m, m ∉ ls → (stepRun c occ now was ls k).Lines[m]? = k.Lines[m]?) ∧ ∀ t : Nat, (∀ l ∈ ls, c.lineSec l ≠ t) → (stepRun c occ now was ls k).Own[t]? = k.Own[t]?
  | [], k, _, _ => ⟨rfl, fun _ _ => rfl, fun _ _ => rfl⟩
  | l :: r, k, hl, ho => by
    rw [stepRun]
    by_cases h0 : 0 ≤ c.lineSec l
    · rw [if_pos h0]
      have hb := lineSec_bound c l
      obtain ⟨x, hx⟩ := get_of_lt (l := k.Lines) (j := l) (hl l (by simp))
      obtain ⟨o, hoo⟩ := get_of_lt (l := k.Own) (j := (c.lineSec l).toNat) (by omega)
      obtain ⟨_, _, hs⟩ := lineStep_val c occ now was k l (c.lineSec l).toNat hx hoo
      have hlen := lineStep_len c occ now was k l (c.lineSec l).toNat
      obtain ⟨i1, i2, i3⟩ := stepRun_keeps c occ now was r (lineStep c occ now was k l (c.lineSec l).toNat) (fun m hm => by rw [hlen.2]; exact hl m (by simp [hm])) (by rw [hlen.1, ho])
      refine ⟨i1.trans hs.routes, fun m hm => ?_, fun t ht => ?_⟩
      · rw [i2 m (fun h => hm (by simp [h]))]; exact hs.lines m (fun e => hm (by simp [e]))
      · rw [i3 t (fun l' h => ht l' (by simp [h]))]; exact hs.own t (fun e => ht l (by simp) (by omega))
    · rw [if_neg h0]
      obtain ⟨i1, i2, i3⟩ := stepRun_keeps c occ now was r k (fun m hm => hl m (by simp [hm])) ho
      exact ⟨i1, fun m hm => i2 m (fun h => hm (by simp [h])), fun t ht => i3 t (fun l' h => ht l' (by simp [h]))⟩

/-- A line's step within a run. -/
theorem stepRun_val (c : Cf) (occ : List Lk) (now : Int) (was : Bool) : ∀ (ls : List Nat) (k : Co), ls.Nodup → (∀ l ∈ ls, l < k.Lines.length) → k.Own.length = c.Secs.length → ∀ (l s : Nat) (x : Ls) (o : Int), l ∈ ls → c.lineSec l = s → k.Lines[l]? = some x → k.Own[s]? = some o →
    (stepRun c occ now was ls k).Lines[l]? = some (lineX occ now was (mayOk c k x s) x o s).1 ∧ (stepRun c occ now was ls k).Own[s]? = some (lineX occ now was (mayOk c k x s) x o s).2
  | [], _, _, _, _, l, s, x, o, hm, _, _, _ => by simp at hm
  | l0 :: r, k, hnd, hl, hlen, l, s, x, o, hm, hs, hx, ho => by
    rw [stepRun]
    have hnd' := List.nodup_cons.1 hnd
    by_cases e : l = l0
    · subst e
      rw [if_pos (by omega)]
      have e2 : (c.lineSec l).toNat = s := by omega
      rw [e2]
      obtain ⟨h1, h2, h3⟩ := lineStep_val c occ now was k l s hx ho
      have hl2 := lineStep_len c occ now was k l s
      obtain ⟨i1, i2, i3⟩ := stepRun_keeps c occ now was r (lineStep c occ now was k l s) (fun m hm => by rw [hl2.2]; exact hl m (by simp [hm])) (by rw [hl2.1, hlen])
      refine ⟨by rw [i2 l hnd'.1]; exact h1, ?_⟩
      rw [i3 s (fun l' hl' he => ?_)]; exact h2
      have := lineSec_inj hs he
      exact hnd'.1 (by have : l = l' := by omega
                       rw [this]; exact hl')
    · have hr : l ∈ r := by simpa [e] using hm
      by_cases h0 : 0 ≤ c.lineSec l0
      · rw [if_pos h0]
        have hb := lineSec_bound c l0
        obtain ⟨x', hx'⟩ := get_of_lt (l := k.Lines) (j := l0) (hl l0 (by simp))
        obtain ⟨o', ho'⟩ := get_of_lt (l := k.Own) (j := (c.lineSec l0).toNat) (by omega)
        obtain ⟨_, _, h3⟩ := lineStep_val c occ now was k l0 (c.lineSec l0).toNat hx' ho'
        have hl2 := lineStep_len c occ now was k l0 (c.lineSec l0).toNat
        have hne : s ≠ (c.lineSec l0).toNat := fun e2 => e (by
          have h4 : c.lineSec l0 = s := by omega
          have := lineSec_inj hs h4
          omega)
        have := stepRun_val c occ now was r (lineStep c occ now was k l0 (c.lineSec l0).toNat) hnd'.2 (fun m hm => by rw [hl2.2]; exact hl m (by simp [hm])) (by rw [hl2.1, hlen]) l s x o hr hs (by rw [h3.lines l e]; exact hx) (by rw [h3.own s hne]; exact ho)
        rw [mayOk_congr h3.routes] at this
        exact this
      · rw [if_neg h0]
        exact stepRun_val c occ now was r k hnd'.2 (fun m hm => hl m (by simp [hm])) hlen l s x o hr hs hx ho
end Go.Fw
end
section
set_option linter.unusedVariables false
set_option linter.unusedSimpArgs false
namespace Go.Fw
/-- Is a route that isn't idle approached over one of the sections? counted from j on. -/
def apprS (c : Cf) (l : List Int) : List Rs → Nat → Bool
  | [], _ => false
  | r :: rs, j => (decide (r.State ≠ 0) && inL l (c.Approach j)) || apprS c l rs (j + 1)

theorem apprS_one (c : Cf) (s : Int) : ∀ (rs : List Rs) (j : Nat), apprS c [s] rs j = apprL c s rs j
  | [], _ => rfl
  | r :: rs, j => by
    rw [apprS, apprL, apprS_one c s rs (j + 1)]
    congr 2
    simp [inL]
end Go.Fw
end
section
set_option linter.unusedVariables false
set_option linter.unusedSimpArgs false
namespace Go.Proofs.Ytnochggjgopfeaa
open Go.Fw Go.Proofs Go.RowKit
variable {σ : Store}

theorem ref13_Time_ok (n : Int) : Pure Try.prog n_ref13_Time [iA n] σ (.a (bA (tm 0 n))) :=
  W_ref13_Time n σ _ (bcd (fun h => ⟨by rw [tm]; congr 3; exact decide_eq_decide.2 (by omega), rfl⟩) (fun h => ⟨by rw [tm, decide_eq_false (by omega)], rfl⟩))

theorem ref14_Seen_ok {c0 c1 c2 c3 c4 v0 v1 v2 v3 : D} {c : Cf} {v : Vw} (h : CfAt σ c0 c1 c2 c3 c4 c) (hv : VwAt v0 v1 v2 v3 v) :
    Pure Try.prog n_ref14_Seen [cfA c0 c1 c2 c3 c4 c, .agg [v0, v1, v2, v3]] σ (.a (bA (v.fits c))) := by
  refine W_ref14_Seen _ _ _ _ _ _ _ _ _ v0 v1 v2 v3 σ _ ((hv.occ σ).lenK (h.secs.lenK ?_))
  simp only [List.length_map]
  refine bce (fun e1 => (hv.pos σ).lenK (h.secs.lenK ?_)) (fun e => ⟨by rw [Vw.fits, decide_eq_false (by omega)], by trivial⟩)
  simp only [List.length_map]
  refine bce (fun e2 => (hv.shut σ).lenK (h.xs.lenK ?_)) (fun e => ⟨by rw [Vw.fits, decide_eq_false (by omega)], by trivial⟩)
  simp only [List.length_map]
  refine bce (fun e3 => (hv.lamp σ).lenK (h.sigs.lenK ⟨?_, by trivial⟩)) (fun e => ⟨by rw [Vw.fits, decide_eq_false (by omega)], by trivial⟩)
  simp only [List.length_map]
  rw [Vw.fits]; congr 3
  rw [Bool.eq_iff_iff]; simp; omega

theorem ref13_Approached_ok {c0 c1 c2 c3 c4 k0 k1 k2 k3 k4 k5 d : D} {c : Cf} {k : Co} {l : List Int} (h : CfAt σ c0 c1 c2 c3 c4 c) (hk : At Try.prog σ t_RouteState k1 (k.Routes.map Rs.enc)) (b : Bool) (hl : k.Routes.length = c.Rts.length) (hd : At Try.prog σ t_int d (l.map encI)) :
    Pure Try.prog n_ref13_Approached [cfA c0 c1 c2 c3 c4 c, coA k0 k1 k2 k3 k4 k5 b, .one d] σ (.a (bA (apprS c l k.Routes 0))) := by
  obtain ⟨rows, hat, hlen⟩ := rts_len h
  have hs := hk.size
  rw [List.length_map] at hs
  refine W_ref13_Approached _ _ _ _ _ _ _ _ _ k0 k1 k2 k3 k4 k5 b d σ _ (hat.lenK ⟨fun m s => s = σ ∧ Rng k.Routes (fun r => apprS c l r m.toNat = apprS c l k.Routes 0) m, fun m _ => k.Routes.length - m.toNat, ⟨rfl, .start rfl⟩, ?_⟩)
  rintro m s ⟨rfl, hr⟩
  refine bcd (fun hlt => ?_) (fun hge => ⟨?_, rfl⟩)
  · obtain ⟨j, x, rfl, hx, hj, hF, nx⟩ := hr.step (by omega) hs hlt
    rw [apprS, Int.toNat_natCast] at hF
    have hw : (w64 ((j : Int) + 1)).toNat = j + 1 := by rw [w64_succ (by omega)]; omega
    have go : (decide (x.State ≠ 0) && inL l (c.Approach j)) = false → (s = s ∧ Rng k.Routes (fun r => apprS c l r (w64 ((j : Int) + 1)).toNat = apprS c l k.Routes 0) (w64 ((j : Int) + 1))) ∧ k.Routes.length - (w64 ((j : Int) + 1)).toNat < k.Routes.length - (j : Int).toNat := by
      intro hn
      rw [hn, Bool.false_or] at hF
      exact andl rfl (nx (fun r => apprS c l r (w64 ((j : Int) + 1)).toNat = apprS c l k.Routes 0) (by rw [hw]; exact hF))
    refine hk.load (map_get hx) c_RouteState rfl ⟨x.State, rfl, bcn (fun e => (ref06_Approach_ok h j).use ⟨_, rfl, (ref13_in_ok _ hd).use ⟨_, rfl, bc (fun e2 => ⟨?_, rfl⟩) (fun e2 => go (by rw [e2]; simp))⟩⟩) (fun e => go (by simp [e]))⟩
    rw [← hF, e2, decide_eq_true e]; rfl
  · rw [← hr.done (by omega) hge]; rfl

theorem ref13_Copied_ok {k0 k1 k2 k3 k4 k5 : D} {k : Co} (hk : CoAt σ k0 k1 k2 k3 k4 k5 k) (b0 : 8 * k.Own.length ≤ 140737488355328) (b1 : 32 * k.Routes.length ≤ 140737488355328) (b2 : 16 * k.Points.length ≤ 140737488355328)
    (b3 : 16 * k.Xs.length ≤ 140737488355328) (b4 : 64 * k.Lines.length ≤ 140737488355328) (b5 : 8 * k.Resets.length ≤ 140737488355328) :
    DCalls Try.prog n_ref13_Copied [coA k0 k1 k2 k3 k4 k5 k.Dirty] σ fun r s => ∃ d0 d1 d2 d3 d4 d5, r = .a (coA d0 d1 d2 d3 d4 d5 k.Dirty) ∧ CoOwn σ s d0 d1 d2 d3 d4 d5 k := by
  refine W_ref13_Copied k0 k1 k2 k3 k4 k5 k.Dirty σ _ ?_
  refine copy_ok hk.own (by simpa using b0) fun d0 s0 o0 => ?_
  have e0 := o0.ext
  refine copy_ok (hk.routes.ext e0) (by simpa using b1) fun d1 s1 o1 => ?_
  have e1 := e0.trans o1.ext
  refine copy_ok (hk.points.ext e1) (by simpa using b2) fun d2 s2 o2 => ?_
  have e2 := e1.trans o2.ext
  refine copy_ok (hk.xs.ext e2) (by simpa using b3) fun d3 s3 o3 => ?_
  have e3 := e2.trans o3.ext
  refine copy_ok (hk.lines.ext e3) (by simpa using b4) fun d4 s4 o4 => ?_
  have e4 := e3.trans o4.ext
  refine copy_ok (hk.resets.ext e4) (by simpa using b5) fun d5 s5 o5 => ?_
  have x1 := o0.ext' o1.ext
  have x2 := x1.ext' o2.ext
  have x3 := x2.ext' o3.ext
  have x4 := x3.ext' o4.ext
  have y1 := o1.from e0
  have y2 := y1.ext' o2.ext
  have y3 := y2.ext' o3.ext
  have y4 := y3.ext' o4.ext
  have z2 := o2.from e1
  have z3 := z2.ext' o3.ext
  have z4 := z3.ext' o4.ext
  have u3 := o3.from e2
  have u4 := u3.ext' o4.ext
  have w4 := o4.from e3
  refine ⟨d0, d1, d2, d3, d4, d5, rfl, x4.ext' o5.ext, y4.ext' o5.ext, z4.ext' o5.ext, u4.ext' o5.ext, w4.ext' o5.ext, o5.from e4, ?_⟩
  simp only [List.pairwise_cons, List.mem_cons, List.not_mem_nil, or_false, forall_eq_or_imp, forall_eq, List.Pairwise.nil, and_true, false_imp_iff, implies_true]
  exact ⟨⟨o1.apart o0.at_, o2.apart x1.at_, o3.apart x2.at_, o4.apart x3.at_, o5.apart x4.at_⟩, ⟨o2.apart y1.at_, o3.apart y2.at_, o4.apart y3.at_, o5.apart y4.at_⟩, ⟨o3.apart z2.at_, o4.apart z3.at_, o5.apart z4.at_⟩, ⟨o4.apart u3.at_, o5.apart u4.at_⟩, o5.apart w4.at_⟩

theorem ref13_Fits_ok {c0 c1 c2 c3 c4 : D} {c : Cf} (h : ∀ s, CfAt s c0 c1 c2 c3 c4 c) {k0 k1 k2 k3 k4 k5 : D} {k : Co} (hk : CoAt σ k0 k1 k2 k3 k4 k5 k) (b : Bool) :
    Pure Try.prog n_ref13_Fits [cfA c0 c1 c2 c3 c4 c, coA k0 k1 k2 k3 k4 k5 b] σ (.a (bA (k.fits c))) := by
  have l0 := hk.own.size
  have l1 := hk.routes.size
  have l2 := hk.points.size
  have l3 := hk.xs.size
  have l4 := hk.lines.size
  have l5 := hk.resets.size
  simp only [List.length_map] at l0 l1 l2 l3 l4 l5
  refine .of (W_ref13_Fits _ _ _ _ _ _ _ _ _ k0 k1 k2 k3 k4 k5 b σ _ ((h σ).secs.lenK ?_)) (flat_b _)
  intro R hR
  refine (ref06_Check_ok h).use ⟨_, rfl, ?_⟩
  obtain ⟨rows, hat, hlen, hrow⟩ := rts_froz fun s => (h s).rts
  have hl := (hat σ).size
  have bad : k.lens c = false → ∀ s, Ext σ s → (RV.a (.one (.bool false)) = .a (bA (k.fits c)) ∧ Ext σ s) := fun hb s he => ⟨by simp [Co.fits, hb], he⟩
  have nl : ¬ (k.Own.length = c.Secs.length ∧ k.Points.length = c.Secs.length ∧ k.Resets.length = c.Secs.length ∧ k.Routes.length = c.Rts.length ∧ k.Xs.length = c.Xs.length ∧ k.Lines.length = 4) → k.lens c = false := fun hn => by
    rw [Co.lens, decide_eq_false hn]
  refine bcn (fun hc => ⟨by simp [Co.fits, hc], .refl _⟩) (fun hc => ?_)
  simp only [List.length_map]
  refine hk.own.lenK (bcn (fun e => bad (nl fun g => by simp only [List.length_map] at e; omega) _ (.refl _)) (fun e0 => ?_))
  refine hk.points.lenK (bcn (fun e => bad (nl fun g => by simp only [List.length_map] at e; omega) _ (.refl _)) (fun e1 => ?_))
  refine hk.resets.lenK (bcn (fun e => bad (nl fun g => by simp only [List.length_map] at e; omega) _ (.refl _)) (fun e2 => ?_))
  refine hk.routes.lenK ((hat σ).lenK (bcn (fun e => bad (nl fun g => by simp only [List.length_map] at e; omega) _ (.refl _)) (fun e3 => ?_)))
  refine hk.xs.lenK ((h σ).xs.lenK (bcn (fun e => bad (nl fun g => by simp only [List.length_map] at e; omega) _ (.refl _)) (fun e4 => ?_)))
  refine hk.lines.lenK (bcn (fun e => bad (nl fun g => by simp only [List.length_map] at e; omega) _ (.refl _)) (fun e5 => hR σ ?_))
  simp only [List.length_map] at e0 e1 e2 e3 e4 e5
  have hL : k.lens c = true := decide_eq_true ⟨by omega, by omega, by omega, by omega, by omega, by omega⟩
  have hfit : k.fits c = k.parts c := by simp [Co.fits, hc, hL]
  rw [hfit]
  obtain ⟨_, s1, s2, s3, _, _⟩ := check_small hc
  clear bad nl hfit hL hR
  unfold Co.parts
  -- owners
  refine hk.own.lenK ⟨fun n s => s = σ ∧ Rng k.Own (fun r => (r.all fun o => decide (-2 ≤ o ∧ o ≤ (c.Rts.length : Int))) = k.Own.all fun o => decide (-2 ≤ o ∧ o ≤ (c.Rts.length : Int))) n, fun n _ => k.Own.length - n.toNat, ⟨rfl, .start rfl⟩, ?_⟩
  rintro n τ ⟨rfl, hr⟩
  refine bcd (fun hlt => ?_) (fun hge => ?_)
  · obtain ⟨j, x, rfl, hx, hj, hF, nx⟩ := hr.step (by simp) l0 hlt
    rw [List.all_cons] at hF
    have no : ¬ (-2 ≤ x ∧ x ≤ (c.Rts.length : Int)) → (RV.a (.one (.bool false)) = .a (bA ((k.Own.all fun o => decide (-2 ≤ o ∧ o ≤ (c.Rts.length : Int))) && ((k.Routes.zip c.Rts).all Rs.fits && ((k.Points ++ k.Xs).all Mv.fits && (k.Lines.all Ls.fits && k.Resets.all (tm 1)))))) ∧ Ext τ τ) := fun hn => by
      rw [decide_eq_false hn] at hF
      exact ⟨by rw [← hF]; rfl, .refl _⟩
    refine hk.own.load (map_get hx) c_int rfl ⟨x, rfl, bcd (fun e => no (by omega)) (fun g1 => (hat τ).lenK (bcd (fun e => no (by omega)) (fun g2 => ?_)))⟩
    rw [decide_eq_true ⟨by omega, by omega⟩, Bool.true_and] at hF
    exact andl rfl (nx _ hF)
  have hF0 := hr.done (by simp) hge
  rw [← hF0]
  show (∃ len2 : Nat, _)
  simp only [List.all_nil, Bool.true_and]
  clear hF0 hr hge
  -- routes
  have lz : (k.Routes.zip c.Rts).length = k.Routes.length := by rw [List.length_zip]; omega
  refine hk.routes.lenK ⟨fun n s => s = τ ∧ Rng (k.Routes.zip c.Rts) (fun r => r.all Rs.fits = (k.Routes.zip c.Rts).all Rs.fits) n, fun n _ => (k.Routes.zip c.Rts).length - n.toNat, ⟨rfl, .start rfl⟩, ?_⟩
  rintro n s ⟨rfl, hr⟩
  refine bcd (fun hlt => ?_) (fun hge => ?_)
  · obtain ⟨j, x, rfl, hx, hj, hF, nx⟩ := hr.step (by rw [List.length_map, lz]) (by omega) hlt
    obtain ⟨g1, g2⟩ := List.getElem?_zip_eq_some.1 hx
    rw [List.all_cons] at hF
    have bad : Rs.fits x = false → (RV.a (.one (.bool false)) = .a (bA ((k.Routes.zip c.Rts).all Rs.fits && ((k.Points ++ k.Xs).all Mv.fits && (k.Lines.all Ls.fits && k.Resets.all (tm 1))))) ∧ Ext s s) := fun hb => by
      rw [hb, Bool.false_and] at hF
      exact ⟨by rw [← hF]; rfl, .refl _⟩
    have hfx : Rs.fits x = (decide (0 ≤ x.1.State ∧ x.1.State ≤ 5) && decide (0 ≤ x.1.Next ∧ x.1.Next ≤ x.2.Path.length) && (tm 0 x.1.Since && tm 0 x.1.Mark)) := rfl
    refine hk.routes.load (map_get g1) c_RouteState rfl ⟨x.1.State, x.1.Since, x.1.Next, x.1.Mark, rfl, bcd (fun e => bad (by rw [hfx, decide_eq_false (p := 0 ≤ x.1.State ∧ _) (by omega)]; rfl)) (fun t1 => bcd (fun e => bad (by rw [hfx, decide_eq_false (p := 0 ≤ x.1.State ∧ _) (by omega)]; rfl)) (fun t2 => bcd (fun e => bad (by rw [hfx, decide_eq_false (p := 0 ≤ x.1.Next ∧ _) (by omega)]; simp)) (fun t3 => ?_)))⟩
    obtain ⟨row, hrw⟩ := get_of_lt (l := rows) (j := j) (by rw [lz] at hj; omega)
    obtain ⟨d1, d2, d3, rfl, q1, q2, q3⟩ := hrow j row x.2 hrw g2
    refine (hat s).load hrw c_Route rfl ⟨d1, rfl, (q1 s).lenK ?_⟩
    rw [List.length_map]
    refine bcd (fun e => bad (by rw [hfx, decide_eq_false (p := 0 ≤ x.1.Next ∧ _) (by omega)]; simp)) (fun t4 => (ref13_Time_ok _).use ⟨_, rfl, bcnot (fun e => bad (by rw [hfx, e]; simp)) (fun t5 => (ref13_Time_ok _).use ⟨_, rfl, bcnot (fun e => bad (by rw [hfx, e]; simp)) (fun t6 => ?_)⟩)⟩)
    rw [hfx, decide_eq_true ⟨by omega, by omega⟩, decide_eq_true ⟨by omega, by omega⟩, t5, t6] at hF
    exact andl rfl (nx (fun r => r.all Rs.fits = (k.Routes.zip c.Rts).all Rs.fits) hF)
  have hF0 := hr.done (by rw [List.length_map, lz]) hge
  rw [← hF0]
  simp only [List.all_nil, Bool.true_and]
  clear hF0 hr hge
  -- movers
  refine copy_ok hk.points (by rw [List.length_map]; omega) fun d sa oa => (oa.append (hk.xs.ext oa.ext) (by simp only [List.length_map]; omega) (by simp only [List.length_map]; omega) fun d1 s3 ho _ _ => ?_)
  rw [← List.map_append] at ho
  have he3 := ho.ext
  have lm : (k.Points ++ k.Xs).length < 2 ^ 60 := by rw [List.length_append]; omega
  refine ho.at_.lenK ⟨fun n s' => s' = s3 ∧ Rng (k.Points ++ k.Xs) (fun r => r.all Mv.fits = (k.Points ++ k.Xs).all Mv.fits) n, fun n _ => (k.Points ++ k.Xs).length - n.toNat, ⟨rfl, .start rfl⟩, ?_⟩
  rintro n s4 ⟨rfl, hr⟩
  refine bcd (fun hlt => ?_) (fun hge => ?_)
  · obtain ⟨j, x, rfl, hx, hj, hF, nx⟩ := hr.step (by simp) lm hlt
    rw [List.all_cons] at hF
    have no : x.fits = false → (RV.a (.one (.bool false)) = .a (bA ((k.Points ++ k.Xs).all Mv.fits && (k.Lines.all Ls.fits && k.Resets.all (tm 1)))) ∧ Ext s s4) := fun hn => by
      rw [hn] at hF
      exact ⟨by rw [← hF]; rfl, he3⟩
    have go : x.fits = true → _ := fun hn => by
      rw [hn, Bool.true_and] at hF
      exact andl (rfl : s4 = s4) (nx (fun r => r.all Mv.fits = (k.Points ++ k.Xs).all Mv.fits) hF)
    have hfx : x.fits = (decide (0 ≤ x.Cmd ∧ x.Cmd ≤ 2) && decide (-1 ≤ x.Other ∧ x.Other ≤ 4294967295)) := rfl
    refine ho.at_.load (map_get hx) c_Mover rfl ⟨x.Cmd, x.Other, rfl, bcd (fun e => no (by rw [hfx, decide_eq_false (by omega)]; rfl)) (fun t1 => bcd (fun e => no (by rw [hfx, decide_eq_false (by omega)]; rfl)) (fun t2 => ?_))⟩
    refine bcn (fun t3 => (ref13_Time_ok _).use ⟨_, rfl, bcnot (fun e => no ?_) (fun e => go ?_)⟩) (fun t3 => go (by rw [hfx, decide_eq_true ⟨by omega, by omega⟩, decide_eq_true ⟨by omega, by omega⟩]; rfl))
    · have := of_decide_eq_false e
      rw [hfx, decide_eq_false (p := -1 ≤ x.Other ∧ _) (by omega), Bool.and_false]
    · have := of_decide_eq_true e
      rw [hfx, decide_eq_true ⟨by omega, by omega⟩, decide_eq_true ⟨by omega, by omega⟩]; rfl
  have hF0 := hr.done (by simp) hge
  rw [← hF0]
  simp only [List.all_nil, Bool.true_and]
  clear hF0 hr hge
  -- resets
  refine (hk.resets.ext he3).lenK ⟨fun n s' => s' = s4 ∧ Rng k.Resets (fun r => r.all (tm 1) = k.Resets.all (tm 1)) n, fun n _ => k.Resets.length - n.toNat, ⟨rfl, .start rfl⟩, ?_⟩
  rintro n s5 ⟨rfl, hr⟩
  refine bcd (fun hlt => ?_) (fun hge => ?_)
  · obtain ⟨j, x, rfl, hx, hj, hF, nx⟩ := hr.step (by simp) l5 hlt
    rw [List.all_cons] at hF
    have no : ¬ (0 ≤ x ∧ x ≤ 4294967295 + 1) → (RV.a (.one (.bool false)) = .a (bA (k.Lines.all Ls.fits && k.Resets.all (tm 1))) ∧ Ext s s5) := fun hn => by
      rw [tm, decide_eq_false hn] at hF
      exact ⟨by rw [← hF, Bool.false_and, Bool.and_false], he3⟩
    refine (hk.resets.ext he3).load (map_get hx) c_int rfl ⟨x, rfl, bcd (fun e => no (by omega)) (fun g1 => bcd (fun e => no (by omega)) (fun g2 => ?_))⟩
    rw [tm, decide_eq_true ⟨by omega, by omega⟩, Bool.true_and] at hF
    exact andl rfl (nx _ hF)
  have hF0 := hr.done (by simp) hge
  rw [← hF0]
  simp only [List.all_nil, Bool.and_true]
  clear hF0 hr hge
  -- lines
  refine (hk.lines.ext he3).lenK ⟨fun n s' => s' = s5 ∧ Rng k.Lines (fun r => r.all Ls.fits = k.Lines.all Ls.fits) n, fun n _ => k.Lines.length - n.toNat, ⟨rfl, .start rfl⟩, ?_⟩
  rintro n s6 ⟨rfl, hr⟩
  refine bcd (fun hlt => ?_) (fun hge => ?_)
  · obtain ⟨j, x, rfl, hx, hj, hF, nx⟩ := hr.step (by simp) l4 hlt
    rw [List.all_cons] at hF
    have no : x.fits = false → (RV.a (.one (.bool false)) = .a (bA (k.Lines.all Ls.fits)) ∧ Ext s s6) := fun hn => by
      rw [hn] at hF
      exact ⟨by rw [← hF]; rfl, he3⟩
    have hfx : x.fits = ((tm 0 x.Ask && (tm 0 x.Done && (tm 0 x.Grant && (tm 0 x.Told && (tm 0 x.PAsk && (tm 0 x.PDone && tm 0 x.PGrant)))))) && tm 1 x.Since) := rfl
    refine (hk.lines.ext he3).load (map_get hx) c_LineState rfl ⟨x.Ask, x.Done, x.Grant, x.Told, x.PAsk, x.PDone, x.PGrant, x.Since, rfl, ?_⟩
    refine (ref13_Time_ok _).use ⟨_, rfl, bcnot (fun e => no (by rw [hfx, e]; rfl)) (fun t1 => ?_)⟩
    refine (ref13_Time_ok _).use ⟨_, rfl, bcnot (fun e => no (by rw [hfx, t1, e]; rfl)) (fun t2 => ?_)⟩
    refine (ref13_Time_ok _).use ⟨_, rfl, bcnot (fun e => no (by rw [hfx, t1, t2, e]; rfl)) (fun t3 => ?_)⟩
    refine (ref13_Time_ok _).use ⟨_, rfl, bcnot (fun e => no (by rw [hfx, t1, t2, t3, e]; rfl)) (fun t4 => ?_)⟩
    refine (ref13_Time_ok _).use ⟨_, rfl, bcnot (fun e => no (by rw [hfx, t1, t2, t3, t4, e]; rfl)) (fun t5 => ?_)⟩
    refine (ref13_Time_ok _).use ⟨_, rfl, bcnot (fun e => no (by rw [hfx, t1, t2, t3, t4, t5, e]; rfl)) (fun t6 => ?_)⟩
    refine (ref13_Time_ok _).use ⟨_, rfl, bcnot (fun e => no (by rw [hfx, t1, t2, t3, t4, t5, t6, e]; rfl)) (fun t7 => ?_)⟩
    refine bcd (fun e => no (by rw [hfx, tm, tm, tm, tm, tm, tm, tm, tm, decide_eq_false (p := 0 ≤ x.Since ∧ _) (by omega), Bool.and_false])) (fun t8 => bcd (fun e => no (by rw [hfx, tm, tm, tm, tm, tm, tm, tm, tm, decide_eq_false (p := 0 ≤ x.Since ∧ _) (by omega), Bool.and_false])) (fun t9 => ?_))
    have hs : tm 1 x.Since = true := decide_eq_true ⟨by omega, by omega⟩
    rw [hfx, t1, t2, t3, t4, t5, t6, t7, hs] at hF
    exact andl rfl (nx (fun r => r.all Ls.fits = k.Lines.all Ls.fits) hF)
  have hF0 := hr.done (by simp) hge
  rw [← hF0]
  exact ⟨rfl, he3⟩
end Go.Proofs.Ytnochggjgopfeaa
end
section
set_option linter.unusedVariables false
set_option linter.unusedSimpArgs false
namespace Go.Proofs.Ytnochggjgopfeaa
open Go.Fw Go.Proofs Go.RowKit
variable {σ : Store}

/-- The station of the examples. -/
def endC : Cf := ⟨[⟨0, 0, 1⟩, ⟨0, 0, 0⟩], [⟨0, 0, 1, 1⟩], [⟨1, 1⟩], [], [⟨0, -1, [⟨0, 0, 1⟩], [], [], false⟩], 2, 1, 4, 1000⟩

theorem endC_check : endC.check = 0 := by decide +kernel

/-- Plain rows of flat cells that an object holds, as plain data. -/
theorem fz_flat {P : Program} {σ : Store} {S : Nat → Prop} {id n : Nat} {t : TypeId} {rows : List (List D)} (hn : ¬ S id) (hs : σ id = .live t rows) (hl : n = rows.length) (hf : ∀ row ∈ rows, ∀ d ∈ row, Flat d) : Fz P σ S (.osl id 0 n) (.sl (P.cellsOf t) rows) :=
  .osl_flat hn hs (by omega) (by simp [hl]) hf

theorem at_sl {P : Program} {s : Store} {el : TypeId} {rows : List (List D)} (hsz : rows.length < 2 ^ 60) : At P s el (.sl (P.cellsOf el) rows) rows := ⟨⟨rfl, .inr rfl⟩, hsz, fun es rows e => by injection e with e1 e2; rw [← e1]⟩

theorem law15_seen_ok (occ stamp : Int) : DCalls Try.prog n_law15_seen [iA occ, iA stamp] σ fun r s => s = σ ∧ ∃ v0 v1 v2 v3, r = .a (.agg [v0, v1, v2, v3]) ∧
    VwAt v0 v1 v2 v3 ⟨[⟨occ, stamp, true⟩, ⟨occ, stamp, true⟩], [⟨0, 0, false⟩, ⟨0, 0, false⟩], [], [⟨1, stamp, true⟩]⟩ := by
  refine (W_law15_seen occ stamp σ (fun r s => ∃ i j k, r = .a (.agg [.osl i 0 2, .osl j 0 2, .nils, .osl k 0 1]) ∧ Ext σ s ∧ σ i = .free ∧ σ j = .free ∧ σ k = .free ∧
    s i = .live t_Look [[iD occ, iD stamp, .bool true], [iD occ, iD stamp, .bool true]] ∧ s j = .live t_Look [[iD 0, iD 0, .bool false], [iD 0, iD 0, .bool false]] ∧ s k = .live t_Look [[iD 1, iD stamp, .bool true]]) ?_).ret ?_
  · refine newObj_intro fun i s1 hi _ he1 h1 => ⟨by omega, by omega, by omega, newObj_intro fun j s2 hj _ he2 h2 => newObj_intro fun k s3 hk _ he3 h3 => ?_⟩
    have ne1 : s1 i ≠ .free := by rw [h1]; intro e; cases e
    have ne2 : s2 j ≠ .free := by rw [h2]; intro e; cases e
    have fr : ∀ {s : Store} {m : Nat}, Ext σ s → s m = .free → σ m = .free := fun {s m} he hm => by
      by_cases hf : σ m = .free
      · exact hf
      · have := he m hf; rw [hm] at this; exact this.symm
    exact ⟨i, j, k, rfl, (he1.trans he2).trans he3, hi, fr he1 hj, fr (he1.trans he2) hk, by rw [(he2.trans he3) i ne1, h1], by rw [he3 j ne2, h2], h3⟩
  · rintro r s ⟨i, j, k, rfl, he, hi, hj, hk, h1, h2, h3⟩
    have flat : ∀ l : List Lk, ∀ row ∈ l.map Lk.enc, ∀ d ∈ row, Flat d := by
      intro l row hrow d hd
      obtain ⟨w, _, rfl⟩ := List.mem_map.1 hrow
      simp only [Lk.enc, List.mem_cons, List.not_mem_nil, or_false] at hd
      rcases hd with rfl | rfl | rfl
      · exact .int _ _
      · exact .int _ _
      · exact .bool _
    refine ⟨.a (.agg [_, _, .nils, _]), σ, .pure he (.cons (fz_flat (fun g => g hi) h1 rfl (flat [⟨occ, stamp, true⟩, ⟨occ, stamp, true⟩])) (.cons (fz_flat (fun g => g hj) h2 rfl (flat [⟨0, 0, false⟩, ⟨0, 0, false⟩])) (.cons .nils (.cons (fz_flat (fun g => g hk) h3 rfl (flat [⟨1, stamp, true⟩])) .nil)))), rfl, _, _, _, _, rfl, ?_⟩
    exact ⟨fun s => at_sl (by simp), fun s => at_sl (by simp), fun s => .nil, fun s => at_sl (by simp)⟩

def CfPost (σ : Store) (c : Cf) (r : RV) (s : Store) : Prop := s = σ ∧ ∃ c0 c1 c2 c3 c4, r = .a (cfA c0 c1 c2 c3 c4 c) ∧ ∀ s, CfAt s c0 c1 c2 c3 c4 c

theorem law15_end_ok : DCalls Try.prog n_law15_end [] σ (CfPost σ endC) := by
  refine (W_law15_end σ (fun r s => ∃ i0 i1 i2 i3 i4, r = .a (.agg [.osl i0 0 2, .osl i1 0 1, .osl i2 0 1, .nils, .osl i4 0 1, iD 2, iD 1, iD 4, iD 1000]) ∧ Ext σ s ∧ σ i0 = .free ∧ σ i1 = .free ∧ σ i2 = .free ∧ σ i3 = .free ∧ σ i4 = .free ∧
    s i0 = .live t_Section [[iD 0, iD 0, iD 1], [iD 0, iD 0, iD 0]] ∧ s i1 = .live t_Joint [[iD 0, iD 0, iD 1, iD 1]] ∧ s i2 = .live t_Signal [[iD 1, iD 1]] ∧ s i3 = .live t_Step [[iD 0, iD 0, iD 1]] ∧ s i4 = .live t_Route [[iD 0, iD (-1), .osl i3 0 1, .nils, .nils, .bool false]]) ?_).ret ?_
  · refine newObj_intro fun i0 s1 q0 _ e1 h0 => newObj_intro fun i1 s2 q1 _ e2 h1 => newObj_intro fun i2 s3 q2 _ e3 h2 => newObj_intro fun i3 s4 q3 _ e4 h3 => newObj_intro fun i4 s5 q4 _ e5 h4 => ?_
    have ne : ∀ {s : Store} {m : Nat} {t rows}, s m = .live t rows → s m ≠ .free := fun h e => by rw [h] at e; cases e
    have fr : ∀ {s : Store} {m : Nat}, Ext σ s → s m = .free → σ m = .free := fun {s m} he hm => by
      by_cases hf : σ m = .free
      · exact hf
      · have := he m hf; rw [hm] at this; exact this.symm
    have f2 := e1.trans e2
    have f3 := f2.trans e3
    have f4 := f3.trans e4
    exact ⟨i0, i1, i2, i3, i4, rfl, f4.trans e5, q0, fr e1 q1, fr f2 q2, fr f3 q3, fr f4 q4, by rw [(((e2.trans e3).trans e4).trans e5) i0 (ne h0)]; exact h0, by rw [((e3.trans e4).trans e5) i1 (ne h1)]; exact h1, by rw [(e4.trans e5) i2 (ne h2)]; exact h2, by rw [e5 i3 (ne h3)]; exact h3, h4⟩
  · rintro r s ⟨i0, i1, i2, i3, i4, rfl, he, q0, q1, q2, q3, q4, h0, h1, h2, h3, h4⟩
    have fl : ∀ (l : List (List Int)), ∀ row ∈ l.map (·.map iD), ∀ d ∈ row, Flat d := by
      intro l row hrow d hd
      obtain ⟨w, _, rfl⟩ := List.mem_map.1 hrow
      obtain ⟨n, _, rfl⟩ := List.mem_map.1 hd
      exact .int _ _
    have fz3 : Fz Try.prog s (fun i => σ i ≠ .free) (.osl i3 0 1) (.sl (Try.prog.cellsOf t_Step) [[iD 0, iD 0, iD 1]]) := fz_flat (fun g => g q3) h3 rfl (fl [[0, 0, 1]])
    have fz4 : Fz Try.prog s (fun i => σ i ≠ .free) (.osl i4 0 1) (.sl (Try.prog.cellsOf t_Route) [[iD 0, iD (-1), .sl (Try.prog.cellsOf t_Step) [[iD 0, iD 0, iD 1]], .nils, .nils, .bool false]]) := by
      refine .osl i4 0 1 t_Route _ _ (fun g => g q4) h4 (by simp) rfl ?_ ?_
      · intro j row row' a b
        rw [Nat.zero_add] at a
        cases j with
        | zero => simp at a b; subst a b; rfl
        | succ j => simp at a
      · intro j row row' m d d' a b x y
        rw [Nat.zero_add] at a
        cases j with
        | succ j => simp at a
        | zero =>
          simp at a b; subst a b
          rcases m with _ | _ | _ | _ | _ | _ | m <;> simp at x y <;> subst x y
          · exact .int _ _
          · exact .int _ _
          · exact fz3
          · exact .nils
          · exact .nils
          · exact .bool _
    refine ⟨.a (cfA _ _ _ .nils _ endC), σ, .pure he (.cons (fz_flat (fun g => g q0) h0 rfl (fl [[0, 0, 1], [0, 0, 0]])) (.cons (fz_flat (fun g => g q1) h1 rfl (fl [[0, 0, 1, 1]])) (.cons (fz_flat (fun g => g q2) h2 rfl (fl [[1, 1]])) (.cons .nils (.cons fz4 (.cons (.int _ _) (.cons (.int _ _) (.cons (.int _ _) (.cons (.int _ _) .nil))))))))), rfl, _, _, _, _, _, rfl, fun s => ?_⟩
    refine ⟨at_sl (by simp), at_sl (by simp), at_sl (by simp), .nil, _, at_sl (by simp), rfl, ?_⟩
    intro i row r a b
    cases i with
    | zero =>
      simp [endC] at a b
      subst a b
      exact ⟨_, _, _, rfl, at_sl (by simp), .nil, .nil⟩
    | succ i => simp at a
end Go.Proofs.Ytnochggjgopfeaa
end
section
set_option linter.unusedVariables false
set_option linter.unusedSimpArgs false
namespace Go.Proofs.Ytnochggjgopfeaa
open Go.Fw Go.Proofs Go.RowKit
variable {σ : Store}

def freshC : Co := ⟨[0, 0], [⟨0, 0, 0, 0⟩], [⟨0, 0⟩, ⟨0, 0⟩], [], [zLs, zLs, zLs, zLs], [0, 0], false⟩

/-- A state is handed back whose lists lie nowhere in the store. -/
def CoZ (σ : Store) (k : Co) (r : RV) (s : Store) : Prop := s = σ ∧ ∃ d0 d1 d2 d3 d4 d5, r = .a (coA d0 d1 d2 d3 d4 d5 k.Dirty) ∧ CoFz d0 d1 d2 d3 d4 d5 k

theorem law15_fresh_ok : DCalls Try.prog n_law15_fresh [] σ (CoZ σ freshC) := by
  refine (W_law15_fresh σ (fun r s => ∃ d0 d1 d2 d3 d4 d5, r = .a (coA d0 d1 d2 d3 d4 d5 false) ∧ CoOwn σ s d0 d1 d2 d3 d4 d5 freshC) ?_).ret ?_
  · refine law15_end_ok.mono ?_
    rintro r s ⟨rfl, c0, c1, c2, c3, c4, rfl, hc⟩
    refine ⟨_, _, _, _, _, _, _, _, _, rfl, (locks_New_ok hc 0 (by decide) (by decide) (by decide)).mono ?_⟩
    rintro r s1 ⟨d0, d1, d2, d3, d4, d5, rfl, h⟩
    refine ⟨_, _, _, _, _, _, _, rfl, h.own.at_.lenK ⟨fun n s2 => ∃ j : Nat, n = j ∧ j ≤ 2 ∧ CoOwn s s2 d0 d1 d2 d3 d4 d5 { newCo endC 0 with Own := List.replicate j 0 ++ [-1, -1].drop j }, fun n _ => 2 - n.toNat, ⟨0, rfl, by omega, h⟩, ?_⟩⟩
    rintro _ s2 ⟨j, rfl, hj, h2⟩
    have hl : (List.map encI (newCo endC 0).Own).length = 2 := rfl
    rw [hl]
    refine bcd (fun hlt => ?_) (fun hge => ?_)
    · have hlt : j < 2 := by omega
      refine h2.own.at_.idxK c_int rfl (by simp; omega) ?_
      have hw : w64 ((j : Int) + 1) = ((j + 1 : Nat) : Int) := w64_succ (by omega)
      obtain ⟨o, ho⟩ := get_of_lt (l := List.replicate j (0 : Int) ++ [-1, -1].drop j) (j := j) (by simp; omega)
      refine h2.setOwn ho (by omega) (w := 0) fun s3 h3 => ⟨rfl, ?_⟩
      rw [hw]
      refine ⟨⟨j + 1, rfl, by omega, ?_⟩, by show 2 - ((j + 1 : Nat) : Int).toNat < 2 - ((j : Nat) : Int).toNat; omega⟩
      rw [← set_all [-1, -1] j 0 hlt]; exact h3
    · have e : j = 2 := by omega
      subst e
      refine ⟨_, _, _, _, _, _, rfl, ?_⟩
      exact { own := h2.own, routes := h2.routes, points := h2.points, xs := h2.xs, lines := h2.lines, resets := h2.resets, apart := h2.apart }
  · rintro r s ⟨d0, d1, d2, d3, d4, d5, rfl, h⟩
    obtain ⟨e0, e1, e2, e3, e4, e5, hfz, hz⟩ := co_frz h
    exact ⟨.a (coA e0 e1 e2 e3 e4 e5 false), σ, .pure h.own.ext hfz, rfl, _, _, _, _, _, _, rfl, hz⟩

theorem CoFz.fit {d0 d1 d2 d3 d4 d5 : D} {k : Co} (h : CoFz d0 d1 d2 d3 d4 d5 k) (hs : k.Own.length ≤ 2 ^ 20 ∧ k.Routes.length ≤ 2 ^ 20 ∧ k.Points.length ≤ 2 ^ 20 ∧ k.Xs.length ≤ 2 ^ 20 ∧ k.Lines.length ≤ 2 ^ 20 ∧ k.Resets.length ≤ 2 ^ 20) : CoFit d0 d1 d2 d3 d4 d5 k :=
  ⟨h.n0, h.n1, h.n2, h.n3, h.n4, h.n5, by omega, by omega, by omega, by omega, by omega, by omega⟩

theorem stepRun_len (c : Cf) (occ : List Lk) (now : Int) (was : Bool) : ∀ (l : List Nat) (k : Co), (stepRun c occ now was l k).Own.length = k.Own.length ∧ (stepRun c occ now was l k).Lines.length = k.Lines.length
  | [], k => ⟨rfl, rfl⟩
  | i :: r, k => by
    rw [stepRun]
    have h := stepRun_len c occ now was r (if 0 ≤ c.lineSec i then lineStep c occ now was k i (c.lineSec i).toNat else k)
    have h2 : (if 0 ≤ c.lineSec i then lineStep c occ now was k i (c.lineSec i).toNat else k).Own.length = k.Own.length ∧ (if 0 ≤ c.lineSec i then lineStep c occ now was k i (c.lineSec i).toNat else k).Lines.length = k.Lines.length := by
      split
      · exact lineStep_len c occ now was k i _
      · exact ⟨rfl, rfl⟩
    exact ⟨h.1.trans h2.1, h.2.trans h2.2⟩

theorem lives_hear : freshC.hearC endC 1 1 0 0 = ({ freshC with Lines := [zLs, { zLs with PAsk := 1 }, zLs, zLs] }, 0) := by decide +kernel

def livesK : Co := { freshC with Own := [-2, 0], Lines := [zLs, { zLs with PAsk := 1, Grant := 1 }, zLs, zLs], Dirty := true }
theorem lives_step : Co.stepC endC ({ freshC with Lines := [zLs, { zLs with PAsk := 1 }, zLs, zLs] }, (0 : Int)).1 ⟨[⟨0, 9, true⟩, ⟨0, 9, true⟩], [⟨0, 0, false⟩, ⟨0, 0, false⟩], [], [⟨1, 9, true⟩]⟩ 9 = (livesK, 0) := by decide +kernel

theorem law15_lives_ok : Pure Try.prog n_law15_lives [] σ (.a (bA true)) := by
  refine W_law15_lives σ _ (law15_end_ok.mono ?_)
  rintro r s ⟨rfl, c0, c1, c2, c3, c4, rfl, hc⟩
  refine ⟨_, _, _, _, _, _, _, _, _, rfl, law15_fresh_ok.mono ?_⟩
  rintro r s ⟨rfl, k0, k1, k2, k3, k4, k5, rfl, hk⟩
  refine ⟨_, _, _, _, _, _, _, rfl, (post_frz (block_Hear_ok (c := endC) hc (hk.at_ s) (hk.fit (by decide)) 1 1 0 0)).mono ?_⟩
  rintro r s ⟨rfl, k0, k1, k2, k3, k4, k5, rfl, hk⟩
  refine ⟨_, _, _, _, _, _, _, _, rfl, (law15_seen_ok 0 9).mono ?_⟩
  rintro r s ⟨rfl, v0, v1, v2, v3, rfl, hv⟩
  refine ⟨_, _, _, _, rfl, (post_frz (block_Step_ok (c := endC) hc (hk.at_ s) (hk.fit (by decide +kernel)) hv 9)).mono ?_⟩
  rintro r s ⟨rfl, n0, n1, n2, n3, n4, n5, rfl, hn⟩
  rw [lives_hear] at hn ⊢
  rw [lives_step] at hn ⊢
  have h0 : List.map encI ([-2, 0] : List Int) = [[iD (-2)], [iD 0]] := rfl
  refine ⟨_, _, _, _, _, _, _, _, rfl, bce (fun _ => bce (fun _ => (hn.at_ s).own.lenK (bce (fun _ => ?_) (fun e => absurd rfl e))) (fun e => absurd rfl e)) (fun e => absurd rfl e)⟩
  refine (hn.at_ s).own.load (j := 0) (row := encI (-2)) rfl c_int rfl ⟨-2, rfl, bce (fun _ => ?_) (fun e => absurd rfl e)⟩
  refine (hn.at_ s).lines.load (j := 1) (row := Ls.enc { zLs with PAsk := 1, Grant := 1 }) rfl c_LineState rfl ⟨1, rfl, bce (fun _ => ?_) (fun e => absurd rfl e)⟩
  exact (block_Tell_ok (hn.at_ s) _ 1).use ⟨0, 0, 0, rfl, rfl, rfl⟩
end Go.Proofs.Ytnochggjgopfeaa
end
section
set_option linter.unusedVariables false
set_option linter.unusedSimpArgs false
namespace Go.Proofs.Ytnochggjgopfeaa
open Go.Fw Go.Proofs Go.RowKit
variable {σ : Store}

def LawTrue (f : FuncId) (xs : List A) : Prop := DCalls Try.prog f xs noS fun r _ => r = .a (.one (.bool true))

theorem step_ok_cases {c : Cf} {k : Co} {v : Vw} {now : Int} (h : (k.stepC c v now).2 = 0) : k.fits c = true ∧ v.fits c = true ∧ 0 ≤ now ∧ now ≤ 4294967295 ∧ (k.stepC c v now).1 = stepRun c v.Occ now k.Dirty [1, 2, 3] k := by
  unfold Co.stepC at h ⊢
  split at h
  · cases h
  rename_i h1
  split at h
  · cases h
  rename_i h2
  rw [if_neg h1, if_neg h2]
  refine ⟨?_, ?_, by omega, by omega, rfl⟩
  · cases hf : k.fits c
    · exact absurd (.inl hf) h1
    · rfl
  · cases hf : v.fits c
    · exact absurd (.inr hf) h1
    · rfl

theorem fits_lens {c : Cf} {k : Co} (h : k.fits c = true) : k.Own.length = c.Secs.length ∧ k.Points.length = c.Secs.length ∧ k.Resets.length = c.Secs.length ∧ k.Routes.length = c.Rts.length ∧ k.Xs.length = c.Xs.length ∧ k.Lines.length = 4 := by
  simp only [Co.fits, Bool.and_eq_true] at h
  exact of_decide_eq_true h.2.1

theorem vfits_lens {c : Cf} {v : Vw} (h : v.fits c = true) : v.Occ.length = c.Secs.length ∧ v.Pos.length = c.Secs.length ∧ v.Shut.length = c.Xs.length ∧ v.Lamp.length = c.Sigs.length := of_decide_eq_true h

theorem law15_BlockTells_ok {xs : List A} (h : TyAs Try.prog [t_Config, t_Core, t_law15_Cycle] xs) : LawTrue n_law15_BlockTells xs := by
  obtain ⟨a0, xs, rfl, h0, hr0⟩ := tys_cons h
  obtain ⟨a1, xs, rfl, h1, hr1⟩ := tys_cons hr0
  obtain ⟨a2, xs, rfl, h2, hr2⟩ := tys_cons hr1
  obtain rfl := tys_nil hr2
  obtain ⟨cs, _, rfl, p0⟩ := tya_agg h0 (by kernel_rfl)
  obtain ⟨c0, c1, c2, c3, c4, c, rfl, hc, hci⟩ := ty_Config p0
  obtain ⟨cs, _, rfl, p1⟩ := tya_agg h1 (by kernel_rfl)
  obtain ⟨k0, k1, k2, k3, k4, k5, k, rfl, hk, hf, hki⟩ := ty_Core p1
  obtain ⟨cs, _, rfl, p2⟩ := tya_agg h2 (by kernel_rfl)
  obtain ⟨_, _, rfl, ⟨x0, rfl, hx0⟩, _, _, rfl, ⟨x1, rfl, hx1⟩, _, _, rfl, ⟨x2, rfl, hx2⟩, _, _, rfl, ⟨x3, rfl, hx3⟩, v0, _, rfl, q0, v1, _, rfl, q1, v2, _, rfl, q2, v3, _, rfl, q3, _, _, rfl, ⟨now, rfl, hnow⟩, rfl⟩ :=
    ty_sh _ 5 _ _ [.int .i64, .int .i64, .int .i64, .int .i64, .sl t_Look, .sl t_Look, .sl t_Look, .sl t_Look, .int .i64] p2 (by kernel_rfl)
  clear h h0 h1 h2 hr0 hr1 hr2 p0 p1 p2
  obtain ⟨v, hv, hvi⟩ := sh_View q0 q1 q2 q3
  refine W_law15_BlockTells _ _ _ _ _ _ _ _ _ k0 k1 k2 k3 k4 k5 k.Dirty x0 x1 x2 x3 v0 v1 v2 v3 now noS _ (law15_lives_ok.use ⟨true, rfl, bcnot (fun e => by cases e) (fun _ => (post_frz (block_Step_ok hc (hk.at_ noS) hf hv now)).mono ?_)⟩)
  rintro r s ⟨rfl, n0, n1, n2, n3, n4, n5, rfl, hn⟩
  refine ⟨_, _, _, _, _, _, _, _, rfl, bcn (fun _ => rfl) (fun hok => ?_)⟩
  obtain ⟨f1, f2, f3, f4, f5⟩ := step_ok_cases hok
  generalize hns : (k.stepC c v now).1 = kn at *
  obtain ⟨lo, lp, lr, lt, lx, ll⟩ := fits_lens f1
  have lv := vfits_lens f2
  refine ⟨fun n s => ∃ j : Nat, n = j ∧ 1 ≤ j ∧ j ≤ 4, fun n _ => 4 - n.toNat, ⟨1, rfl, by omega, by omega⟩, ?_⟩
  rintro _ s ⟨j, rfl, hj1, hj2⟩
  refine bcd (fun hlt => ?_) (fun _ => rfl)
  intro R hR
  have hw : w64 ((j : Int) + 1) = ((j + 1 : Nat) : Int) := w64_succ (by omega)
  have goR : ∀ s', R s' := fun s' => hR s' ⟨rfl, ⟨j + 1, hw, by omega, by omega⟩, by rw [hw]; show 4 - ((j + 1 : Nat) : Int).toNat < 4 - ((j : Nat) : Int).toNat; omega⟩
  refine (ref15_Section_ok (hc s) j).use ⟨_, rfl, bcd (fun _ => ⟨rfl, goR _⟩) (fun hs => ?_)⟩
  have hsb := lineSec_bound c j
  obtain ⟨t, ht⟩ : ∃ t : Nat, c.lineSec j = t := ⟨(c.lineSec j).toNat, by omega⟩
  rw [ht] at hsb ⊢
  obtain ⟨x, hx⟩ := get_of_lt (l := k.Lines) (j := j) (by omega)
  obtain ⟨o, ho⟩ := get_of_lt (l := k.Own) (j := t) (by omega)
  obtain ⟨lk, hlk⟩ := get_of_lt (l := v.Occ) (j := t) (by omega)
  obtain ⟨g1, g2⟩ := stepRun_val c v.Occ now k.Dirty [1, 2, 3] k (by decide) (fun l hl => by simp at hl; omega) lo j t x o (by simp; omega) ht hx ho
  rw [← f5] at g1 g2
  have x1 := @lineX_told v.Occ now k.Dirty (mayOk c k x t) x o t
  have x2 := @lineX_free v.Occ now k.Dirty (mayOk c k x t) x o t lk hlk
  have x3 := @lineX_grant v.Occ now k.Dirty (mayOk c k x t) x o t
  generalize lineX v.Occ now k.Dirty (mayOk c k x t) x o t = X at g1 g2 x1 x2 x3
  refine (hk.at_ s).lines.load (map_get hx) c_LineState rfl ⟨x.Ask, x.Done, x.Grant, x.Told, x.PAsk, x.PDone, x.PGrant, x.Since, rfl, ?_⟩
  refine (hn.at_ s).lines.load (map_get g1) c_LineState rfl ⟨X.1.Ask, X.1.Done, X.1.Grant, X.1.Told, X.1.PAsk, X.1.PDone, X.1.PGrant, X.1.Since, rfl, ?_⟩
  intro R1 hR1
  have body : ∀ s', R1 s' := by
    intro s'
    refine hR1 s' fun R2 hR2 R3 hR3 => ?_
    have end2 : ∀ s', R2 s' := by
      intro s'
      refine hR2 s' ((hk.at_ s').own.load (map_get ho) c_int rfl ⟨o, rfl, bcn (fun ho2 => ?_) (fun _ => ⟨rfl, goR _⟩)⟩)
      refine (hn.at_ s').own.load (map_get g2) c_int rfl ⟨X.2, rfl, bce (fun hX2 => ?_) (fun _ => ⟨rfl, goR _⟩)⟩
      have hc2 := x3 ho2 hX2
      obtain ⟨q1, q2, q3⟩ := hc2
      unfold mayOk at q2
      simp only [Bool.and_eq_true, decide_eq_true_eq] at q2
      refine (hk.at_ s').own.load (map_get ho) c_int rfl ⟨o, rfl, bcn (fun e => absurd q1 e) (fun _ => bcn (fun e => absurd q2.2.2 e) (fun _ => bcd (fun e => ?_) (fun _ => ⟨rfl, goR _⟩)))⟩
      exfalso
      have := q2.2.1
      rw [q3] at e
      split at this <;> omega
    refine (hk.at_ s').own.load (map_get ho) c_int rfl ⟨o, rfl, bce (fun ho2 => ?_) (fun _ => ⟨rfl, hR3 false s' ⟨rfl, end2 _⟩⟩)⟩
    refine (hn.at_ s').own.load (map_get g2) c_int rfl ⟨X.2, rfl, rfl, hR3 _ s' ?_⟩
    refine bcn (fun hX2 => ?_) (fun _ => ⟨rfl, end2 _⟩)
    have hc3 := x2 ho2 hX2
    obtain ⟨w1, w2, w3, w4, w5, w6⟩ := hc3
    refine (hv.occ s').load (map_get hlk) c_Look rfl ⟨lk.Value, lk.Stamp, lk.Valid, rfl, (hn.at_ s').own.load (map_get g2) c_int rfl ⟨X.2, rfl, bcn (fun e => absurd w1 e) (fun _ => bcd (fun e => absurd e w2) (fun _ => bce (fun e => absurd e w3) (fun _ => bcnot (fun e => by rw [w4] at e; cases e) (fun _ => bcn (fun e => absurd w5 e) (fun _ => bcd (fun e => by exfalso; omega) (fun _ => ⟨rfl, end2 _⟩))))))⟩⟩
  refine bcn (fun htold => bc (fun hd => ?_) (fun hd => bcn (fun hg => ?_) (fun _ => ⟨rfl, body _⟩))) (fun _ => ⟨rfl, body _⟩)
  · have := (x1 htold).1
    rw [hd] at this; cases this
  · exact absurd (x1 htold).2 hg
end Go.Proofs.Ytnochggjgopfeaa
end
section
set_option linter.unusedVariables false
set_option linter.unusedSimpArgs false
namespace Go.Proofs.Ytnochggjgopfeaa
open Go.Fw Go.Proofs Go.RowKit
variable {σ : Store}

/-- A state of the end: who owns the line's section, the line. -/
def endK (o : Int) (x : Ls) (b : Bool) : Co := ⟨[o, 0], [⟨0, 0, 0, 0⟩], [⟨0, 0⟩, ⟨0, 0⟩], [], [zLs, x, zLs, zLs], [0, 0], b⟩
def seenV (occ stamp : Int) : Vw := ⟨[⟨occ, stamp, true⟩, ⟨occ, stamp, true⟩], [⟨0, 0, false⟩, ⟨0, 0, false⟩], [], [⟨1, stamp, true⟩]⟩

theorem endC_lines : endC.lineSec 1 = 0 ∧ endC.lineSec 2 = -1 ∧ endC.lineSec 3 = -1 := by decide

theorem end_fits {o : Int} {x : Ls} {b : Bool} (ho : -2 ≤ o ∧ o ≤ 1) (hx : x.fits = true) : (endK o x b).fits endC = true := by
  have h1 : Ls.fits zLs = true := by decide
  have h2 : (endK o x b).lens endC = true := by unfold Co.lens endK endC; simp
  have h3 : (endK o x b).parts endC = true := by
    unfold Co.parts
    have e1 : ((endK o x b).Routes.zip endC.Rts).all Rs.fits = true := by
      show (([⟨0, 0, 0, 0⟩] : List Rs).zip endC.Rts).all Rs.fits = true
      decide
    have e2 : ((endK o x b).Points ++ (endK o x b).Xs).all Mv.fits = true := by
      show (([⟨0, 0⟩, ⟨0, 0⟩] : List Mv) ++ []).all Mv.fits = true
      decide
    have e3 : (endK o x b).Resets.all (tm 1) = true := by
      show ([0, 0] : List Int).all (tm 1) = true
      decide
    have e4 : (endK o x b).Lines.all Ls.fits = true := by simp [endK, h1, hx]
    have e5 : ((endK o x b).Own.all fun o => decide (-2 ≤ o ∧ o ≤ endC.Rts.length)) = true := by
      simp only [endK, List.all_cons, List.all_nil, Bool.and_true, Bool.and_eq_true, decide_eq_true_eq]
      exact ⟨⟨ho.1, ho.2⟩, by decide⟩
    rw [e1, e2, e3, e4, e5]; rfl
  rw [Co.fits, h2, h3, decide_eq_true endC_check]; rfl

theorem end_step {o : Int} {x : Ls} {b : Bool} (ho : -2 ≤ o ∧ o ≤ 1) (hx : x.fits = true) (occ stamp : Int) {now : Int} (hn : 0 ≤ now ∧ now ≤ 4294967295) :
    (endK o x b).stepC endC (seenV occ stamp) now = (lineStep endC (seenV occ stamp).Occ now b (endK o x b) 1 0, 0) := by
  have hv : (seenV occ stamp).fits endC = true := decide_eq_true ⟨rfl, rfl, rfl, rfl⟩
  obtain ⟨e1, e2, e3⟩ := endC_lines
  rw [Co.stepC, if_neg (by rw [end_fits ho hx, hv]; simp), if_neg (by omega)]
  simp only [stepRun]
  rw [if_neg (by show ¬ 0 ≤ endC.lineSec (3 : Int); rw [e3]; decide), if_neg (by show ¬ 0 ≤ endC.lineSec (2 : Int); rw [e2]; decide), if_pos (by show 0 ≤ endC.lineSec (1 : Int); rw [e1]; decide)]
  have : endC.lineSec ((1 : Nat) : Int) = 0 := e1
  rw [this]; rfl

theorem end_may {o : Int} {x y : Ls} {b : Bool} : mayOk endC (endK o x b) y 0 = (decide (y.PAsk > (if y.PDone > y.Grant then y.PDone else y.Grant)) && decide (y.Ask = y.Done)) := by
  unfold mayOk endK
  simp [apprL]

/-- The end's line, a cycle later. -/
def endStep (occ stamp now : Int) (o : Int) (x : Ls) (b : Bool) : Co :=
  let m := decide (x.PAsk > (if x.PDone > x.Grant then x.PDone else x.Grant)) && decide (x.Ask = x.Done)
  let k' : Co := if o = -2 then
      if x.PDone < x.Grant then endK o { x with Since := 0 } b
      else if x.Since = 0 then endK o { x with Since := w64 (now + 1) } b
      else if occ = 0 ∧ x.Since ≤ stamp then endK 0 { x with Since := 0 } true
      else endK o x b
    else if o = 0 ∧ m = true then endK (-2) { x with Grant := x.PAsk, Since := 0 } true
    else endK o x b
  if b = true then k' else { k' with Lines := k'.Lines.set 1 { (k'.Lines[1]?).getD zLs with Told := x.Grant } }

theorem end_line (occ stamp now : Int) (o : Int) (x : Ls) (b : Bool) : lineStep endC (seenV occ stamp).Occ now b (endK o x b) 1 0 = endStep occ stamp now o x b := by
  unfold lineStep endStep backStep
  have e1 : (endK o x b).Lines[1]? = some x := rfl
  have e2 : (endK o x b).Own[0]? = some o := rfl
  have e3 : (seenV occ stamp).Occ[0]? = some ⟨occ, stamp, true⟩ := rfl
  have e4 := @end_may o x x b
  simp only [e1, e2, e3, Option.getD_some, true_and]
  have e5 : mayOk endC (endK o x b) x ((0 : Nat) : Int) = mayOk endC (endK o x b) x 0 := rfl
  rw [e5, e4]
  rfl

theorem endStep_free (occ stamp now : Int) (x : Ls) (h : ¬ x.PAsk > (if x.PDone > x.Grant then x.PDone else x.Grant)) : endStep occ stamp now 0 x false = endK 0 { x with Told := x.Grant } false := by
  unfold endStep
  simp only
  rw [if_neg (by decide), if_neg (by decide), if_neg (fun g => h (by have := g.2; simp only [Bool.and_eq_true, decide_eq_true_eq] at this; exact this.1))]
  rfl

theorem endStep_wait (occ stamp now : Int) (x : Ls) (h : x.PDone < x.Grant) : endStep occ stamp now (-2) x false = endK (-2) { x with Since := 0, Told := x.Grant } false := by
  unfold endStep
  simp only
  rw [if_neg (by decide), if_pos trivial, if_pos h]
  rfl
theorem endStep_done (occ stamp now : Int) (x : Ls) (h : ¬ x.PDone < x.Grant) (h2 : x.Since = 0) : endStep occ stamp now (-2) x false = endK (-2) { x with Since := w64 (now + 1), Told := x.Grant } false := by
  unfold endStep
  simp only
  rw [if_neg (by decide), if_pos trivial, if_neg h, if_pos h2]
  rfl
theorem endStep_occ (occ stamp now : Int) (x : Ls) (h : ¬ x.PDone < x.Grant) (h2 : x.Since ≠ 0) (h3 : ¬ (occ = 0 ∧ x.Since ≤ stamp)) : endStep occ stamp now (-2) x false = endK (-2) { x with Told := x.Grant } false := by
  unfold endStep
  simp only
  rw [if_neg (by decide), if_pos trivial, if_neg h, if_neg h2, if_neg h3]
  rfl
theorem endStep_clear (occ stamp now : Int) (x : Ls) (h : ¬ x.PDone < x.Grant) (h2 : x.Since ≠ 0) (h3 : occ = 0 ∧ x.Since ≤ stamp) : endStep occ stamp now (-2) x false = endK 0 { x with Since := 0, Told := x.Grant } true := by
  unfold endStep
  simp only
  rw [if_neg (by decide), if_pos trivial, if_neg h, if_neg h2, if_pos h3]
  rfl
theorem endStep_grant (occ stamp now : Int) (x : Ls) (h : x.PAsk > (if x.PDone > x.Grant then x.PDone else x.Grant)) (h2 : x.Ask = x.Done) : endStep occ stamp now 0 x false = endK (-2) { x with Grant := x.PAsk, Since := 0, Told := x.Grant } true := by
  unfold endStep
  simp only
  rw [if_neg (by decide), if_neg (by decide), if_pos ⟨trivial, by rw [decide_eq_true h, decide_eq_true h2]; rfl⟩]
  rfl

theorem freshK : freshC = endK 0 zLs false := rfl

theorem end_hear {o : Int} {x : Ls} {b : Bool} (ho : -2 ≤ o ∧ o ≤ 1) (hx : x.fits = true) {a d g : Int} (ha : 0 ≤ a ∧ a ≤ 4294967295) (hd : 0 ≤ d ∧ d ≤ 4294967295) (hg : 0 ≤ g ∧ g ≤ 4294967295) :
    (endK o x b).hearC endC 1 a d g = (endK o { x with PAsk := a, PDone := d, PGrant := g } b, 0) := by
  rw [Co.hearC, if_neg (by rw [end_fits ho hx]; simp), if_neg (by rw [endC_lines.1]; decide), if_neg (by omega)]
  rfl

theorem fits_small (o : Int) (x : Ls) (b : Bool) {d0 d1 d2 d3 d4 d5 : D} (h : CoFz d0 d1 d2 d3 d4 d5 (endK o x b)) : CoFit d0 d1 d2 d3 d4 d5 (endK o x b) :=
  h.fit ⟨by simp [endK], by simp [endK], by simp [endK], by simp [endK], by simp [endK], by simp [endK]⟩

/-- A cycle of an end. -/
theorem end_step_ok {c0 c1 c2 c3 c4 v0 v1 v2 v3 k0 k1 k2 k3 k4 k5 : D} {o : Int} {x : Ls} {b : Bool} {occ stamp now : Int} {k' : Co} (hc : ∀ s, CfAt s c0 c1 c2 c3 c4 endC) (hk : CoFz k0 k1 k2 k3 k4 k5 (endK o x b)) (hv : VwAt v0 v1 v2 v3 (seenV occ stamp))
    (ho : -2 ≤ o ∧ o ≤ 1) (hx : x.fits = true) (hn : 0 ≤ now ∧ now ≤ 4294967295) (he : endStep occ stamp now o x b = k') :
    DCalls Try.prog n_block_Step [cfA c0 c1 c2 c3 c4 endC, coA k0 k1 k2 k3 k4 k5 b, .agg [v0, v1, v2, v3], iA now] σ (CoPostZ σ (k', 0)) := by
  have := post_frz (block_Step_ok (σ := σ) hc (hk.at_ σ) (fits_small o x b hk) hv now)
  rw [end_step ho hx occ stamp hn, end_line, he] at this
  exact this

theorem end_hear_ok {c0 c1 c2 c3 c4 k0 k1 k2 k3 k4 k5 : D} {o : Int} {x : Ls} {b : Bool} {a d g : Int} (hc : ∀ s, CfAt s c0 c1 c2 c3 c4 endC) (hk : CoFz k0 k1 k2 k3 k4 k5 (endK o x b))
    (ho : -2 ≤ o ∧ o ≤ 1) (hx : x.fits = true) (ha : 0 ≤ a ∧ a ≤ 4294967295) (hd : 0 ≤ d ∧ d ≤ 4294967295) (hg : 0 ≤ g ∧ g ≤ 4294967295) :
    DCalls Try.prog n_block_Hear [cfA c0 c1 c2 c3 c4 endC, coA k0 k1 k2 k3 k4 k5 b, iA 1, .agg [iD a, iD d, iD g]] σ (CoPostZ σ (endK o { x with PAsk := a, PDone := d, PGrant := g } b, 0)) := by
  have := post_frz (block_Hear_ok (σ := σ) hc (hk.at_ σ) (fits_small o x b hk) 1 a d g)
  rw [end_hear ho hx ha hd hg] at this
  exact this

theorem umod {x n : Int} (hx : I64 x) (h1 : 1 ≤ n) (h2 : n ≤ 2 ^ 62) : ∃ d, w64 (Int.tmod (IntKind.wrap .u64 x) n) = d ∧ 0 ≤ d ∧ d < n := by
  have hu : 0 ≤ IntKind.wrap .u64 x := by
    simp only [IntKind.wrap, IntKind.signed, IntKind.bits]; simp; omega
  have e : Int.tmod (IntKind.wrap .u64 x) n = IntKind.wrap .u64 x % n := Int.tmod_eq_emod_of_nonneg hu
  have h3 := Int.emod_nonneg (IntKind.wrap .u64 x) (by omega : n ≠ 0)
  have h4 := Int.emod_lt_of_pos (IntKind.wrap .u64 x) (by omega : 0 < n)
  rw [e]
  exact ⟨_, rfl, by rw [w64_id (by omega) (by omega)]; omega, by rw [w64_id (by omega) (by omega)]; omega⟩

theorem ls_fits {x : Ls} (h1 : 0 ≤ x.Ask ∧ x.Ask ≤ 4294967295) (h2 : 0 ≤ x.Done ∧ x.Done ≤ 4294967295) (h3 : 0 ≤ x.Grant ∧ x.Grant ≤ 4294967295) (h4 : 0 ≤ x.Told ∧ x.Told ≤ 4294967295)
    (h5 : 0 ≤ x.PAsk ∧ x.PAsk ≤ 4294967295) (h6 : 0 ≤ x.PDone ∧ x.PDone ≤ 4294967295) (h7 : 0 ≤ x.PGrant ∧ x.PGrant ≤ 4294967295) (h8 : 0 ≤ x.Since ∧ x.Since ≤ 4294967296) : x.fits = true := by
  simp only [Ls.fits, tm, Bool.and_eq_true, decide_eq_true_eq]
  omega

theorem law15_BlockQuiet_ok {xs : List A} (h : TyAs Try.prog [t_int, t_sl_bool] xs) : LawTrue n_law15_BlockQuiet xs := by
  obtain ⟨a0, xs, rfl, h0, hr0⟩ := tys_cons h
  obtain ⟨a1, xs, rfl, h1, hr1⟩ := tys_cons hr0
  obtain rfl := tys_nil hr1
  obtain ⟨done, rfl, hdone⟩ := tya_int h0 (by kernel_rfl) (by kernel_rfl)
  obtain ⟨occ, rfl, q⟩ := tya_cell h1 (by kernel_rfl) (by kernel_rfl : cellsSh Try.prog 5 t_sl_bool = some [.sl t_bool])
  clear h h0 h1 hr0 hr1
  obtain ⟨l, hl, _⟩ := sh_rows (bytes := 1) (fun b : Bool => [.bool b]) (fun _ => True) (fun row n h => by
    obtain ⟨_, _, rfl, ⟨b, rfl⟩, rfl⟩ := ty_sh n 5 _ _ [.bool] h (by kernel_rfl)
    exact ⟨b, rfl, trivial⟩) (by kernel_rfl) (by omega) q
  have hlen := (hl noS).size
  rw [List.length_map] at hlen
  refine W_law15_BlockQuiet done occ noS _ (law15_lives_ok.use ⟨true, rfl, bcnot (fun e => by cases e) (fun _ => law15_end_ok.mono ?_)⟩)
  rintro r s ⟨rfl, c0, c1, c2, c3, c4, rfl, hc⟩
  refine ⟨_, _, _, _, _, _, _, _, _, rfl, law15_fresh_ok.mono ?_⟩
  rintro r s ⟨rfl, k0, k1, k2, k3, k4, k5, rfl, hk⟩
  obtain ⟨d, hd, hd0, hd1⟩ := umod hdone (n := 1000) (by omega) (by omega)
  rw [hd]
  rw [freshK] at hk ⊢
  refine ⟨_, _, _, _, _, _, _, rfl, (end_hear_ok hc hk (by omega) (by decide) (a := d) (d := d) (g := 0) (by omega) (by omega) (by omega)).mono ?_⟩
  rintro r s ⟨rfl, k0, k1, k2, k3, k4, k5, rfl, hk⟩
  generalize hx : ({ zLs with PAsk := d, PDone := d, PGrant := 0 } : Ls) = x at hk ⊢
  have hxf : x.fits = true := by rw [← hx]; refine ls_fits ?_ ?_ ?_ ?_ ?_ ?_ ?_ ?_ <;> simp [zLs] <;> omega
  have ht : ∀ b, (endK 0 x b).tell 1 = (0, 0, 0) := fun b => by rw [← hx]; rfl
  refine ⟨_, _, _, _, _, _, _, _, rfl, bcn (fun e => absurd rfl e) (fun _ => (block_Tell_ok (hk.at_ _) _ 1).use ⟨0, 0, 0, ?_, (hl noS).lenK ?_⟩)⟩
  · rw [ht]
  refine ⟨fun d11 d12 d13 d14 d15 d16 b n s => b = false ∧ CoFz d11 d12 d13 d14 d15 d16 (endK 0 x false) ∧ ∃ j : Nat, n = j ∧ j ≤ l.length ∧ j ≤ 60, fun _ _ _ _ _ _ _ n _ => l.length - n.toNat, ⟨rfl, hk, 0, rfl, by omega, by omega⟩, ?_⟩
  rintro d0 d1 d2 d3 d4 d5 b _ s ⟨rfl, hk, j, rfl, hj, hj60⟩
  rw [List.length_map]
  refine bcd (fun hlt => ?_) (fun hge => rfl)
  obtain ⟨o, ho⟩ := get_of_lt (l := l) (j := j) (by omega)
  have hw : w64 ((j : Int) + 1) = ((j + 1 : Nat) : Int) := w64_succ (by omega)
  refine (hl s).load (map_get ho) c_bool rfl ⟨o, rfl, bcd (fun _ => rfl) (fun h60 => ?_)⟩
  intro R hR
  have hR : ∀ v s, R v s := by
    intro v s
    refine hR v s (law15_end_ok.mono ?_)
    rintro r s ⟨rfl, c0, c1, c2, c3, c4, rfl, hc⟩
    refine ⟨_, _, _, _, _, _, _, _, _, rfl, (law15_seen_ok v _).mono ?_⟩
    rintro r s ⟨rfl, v0, v1, v2, v3, rfl, hv⟩
    have hst : endStep v (w64 ((j : Int) + 1)) (w64 ((j : Int) + 1)) 0 x false = endK 0 x false := by
      rw [endStep_free]
      · rw [← hx]; rfl
      · rw [← hx]; simp only; split <;> omega
    refine ⟨_, _, _, _, rfl, (end_step_ok hc hk hv (by omega) hxf (by omega) hst).mono ?_⟩
    rintro r s ⟨rfl, k0, k1, k2, k3, k4, k5, rfl, hk⟩
    refine ⟨_, _, _, _, _, _, _, _, rfl, bcn (fun e => absurd rfl e) (fun _ => (hk.at_ s).own.load (j := 0) (row := encI 0) rfl c_int rfl ⟨0, rfl, bcn (fun e => absurd rfl e) (fun _ => (block_Tell_ok (hk.at_ s) _ 1).use ⟨0, 0, 0, ?_, bcnot (fun e => by cases e) (fun _ => ?_)⟩)⟩)⟩
    · rw [ht]
    · refine ⟨rfl, ⟨rfl, hk, j + 1, hw, by omega, by omega⟩, ?_⟩
      rw [hw]; show l.length - ((j + 1 : Nat) : Int).toNat < l.length - ((j : Nat) : Int).toNat; omega
  exact bc (fun _ => ⟨rfl, hR _ _⟩) (fun _ => ⟨rfl, hR _ _⟩)

theorem law15_BlockGrants_ok {xs : List A} (h : TyAs Try.prog [t_int, t_int] xs) : LawTrue n_law15_BlockGrants xs := by
  obtain ⟨a0, xs, rfl, h0, hr0⟩ := tys_cons h
  obtain ⟨a1, xs, rfl, h1, hr1⟩ := tys_cons hr0
  obtain rfl := tys_nil hr1
  obtain ⟨ask, rfl, hask⟩ := tya_int h0 (by kernel_rfl) (by kernel_rfl)
  obtain ⟨wait, rfl, hwait⟩ := tya_int h1 (by kernel_rfl) (by kernel_rfl)
  clear h h0 h1 hr0 hr1
  refine W_law15_BlockGrants ask wait noS _ (law15_lives_ok.use ⟨true, rfl, bcnot (fun e => by cases e) (fun _ => law15_end_ok.mono ?_)⟩)
  rintro r s ⟨rfl, c0, c1, c2, c3, c4, rfl, hc⟩
  refine ⟨_, _, _, _, _, _, _, _, _, rfl, law15_fresh_ok.mono ?_⟩
  rintro r s ⟨rfl, k0, k1, k2, k3, k4, k5, rfl, hk⟩
  obtain ⟨d, hd, hd0, hd1⟩ := umod hask (n := 1000) (by omega) (by omega)
  obtain ⟨w, hw, hw0, hw1⟩ := umod hwait (n := 20) (by omega) (by omega)
  rw [hd, hw, w64_id (n := 1 + d) (by omega) (by omega), w64_id (n := w + 1) (by omega) (by omega)]
  generalize ha : 1 + d = a
  have ha1 : 1 ≤ a ∧ a ≤ 1000 := by omega
  clear hd hw ha hd0 hd1 d
  rw [freshK] at hk ⊢
  refine ⟨_, _, _, _, _, _, _, rfl, (end_hear_ok hc hk (by omega) (by decide) (a := a) (d := 0) (g := 0) (by omega) (by omega) (by omega)).mono ?_⟩
  rintro r s ⟨rfl, k0, k1, k2, k3, k4, k5, rfl, hk⟩
  refine ⟨_, _, _, _, _, _, _, _, rfl, law15_end_ok.mono ?_⟩
  rintro r s ⟨rfl, c0, c1, c2, c3, c4, rfl, hc⟩
  refine ⟨_, _, _, _, _, _, _, _, _, rfl, (law15_seen_ok 0 1).mono ?_⟩
  rintro r s ⟨rfl, v0, v1, v2, v3, rfl, hv⟩
  have fit : ∀ g t p q z : Int, 0 ≤ g ∧ g ≤ 1000 → 0 ≤ t ∧ t ≤ 1000 → 0 ≤ p ∧ p ≤ 1000 → 0 ≤ q ∧ q ≤ 1000 → 0 ≤ z ∧ z ≤ 1000 → Ls.fits ⟨0, 0, g, t, p, q, 0, z⟩ = true := fun g t p q z h1 h2 h3 h4 h5 => by
    refine ls_fits ?_ ?_ ?_ ?_ ?_ ?_ ?_ ?_ <;> simp only <;> omega
  have hs1 : endStep 0 1 1 0 ⟨0, 0, 0, 0, a, 0, 0, 0⟩ false = endK (-2) ⟨0, 0, a, 0, a, 0, 0, 0⟩ true := by
    exact endStep_grant _ _ _ _ (by simp only; rw [if_neg (by omega)]; omega) rfl
  refine ⟨_, _, _, _, rfl, (end_step_ok hc hk hv (by omega) (fit 0 0 a 0 0 (by omega) (by omega) (by omega) (by omega) (by omega)) (by omega) hs1).mono ?_⟩
  rintro r s ⟨rfl, k0, k1, k2, k3, k4, k5, rfl, hk⟩
  refine ⟨_, _, _, _, _, _, _, _, rfl, ?_⟩
  intro R hR
  have ht : ∀ o g t p q z b, (endK o ⟨0, 0, g, t, p, q, 0, z⟩ b).tell 1 = (0, 0, t) := fun _ _ _ _ _ _ _ => rfl
  refine bcn (fun e => absurd rfl e) (fun _ => bcn (fun e => absurd rfl e) (fun _ => (hk.at_ _).own.load (j := 0) (row := encI (-2)) rfl c_int rfl ⟨-2, rfl, bcn (fun e => absurd rfl e) (fun _ => bcnot (fun e => by cases e) (fun _ => (block_Tell_ok (hk.at_ _) _ 1).use ⟨0, 0, 0, by rw [ht], bcn (fun e => absurd rfl e) (fun _ => ⟨rfl, hR _ ?_⟩)⟩))⟩))
  -- granted: it waits, so many cycles
  refine ⟨fun d0 d1 d2 d3 d4 d5 b n m s => b = false ∧ (∃ t, 0 ≤ t ∧ t ≤ 1000 ∧ CoFz d0 d1 d2 d3 d4 d5 (endK (-2) ⟨0, 0, a, t, a, 0, 0, 0⟩ false)) ∧ ∃ j : Nat, m = j ∧ n = j + 1 ∧ j ≤ 20, fun _ _ _ _ _ _ _ _ m _ => 20 - m.toNat, ⟨rfl, ⟨0, by omega, by omega, ⟨fun s => ⟨(hk.at_ s).own, (hk.at_ s).routes, (hk.at_ s).points, (hk.at_ s).xs, (hk.at_ s).lines, (hk.at_ s).resets⟩, hk.n0, hk.n1, hk.n2, hk.n3, hk.n4, hk.n5⟩⟩, 0, rfl, rfl, by omega⟩, ?_⟩
  rintro d0 d1 d2 d3 d4 d5 b _ _ s ⟨rfl, ⟨t, ht0, ht1, hk⟩, j, rfl, rfl, hj⟩
  have hw2 : w64 ((j : Int) + 1 + 1) = ((j + 1 : Nat) : Int) + 1 := by rw [w64_id (by omega) (by omega)]; omega
  have hw3 : w64 ((j : Int) + 1) = ((j + 1 : Nat) : Int) := w64_succ (by omega)
  rw [hw2, hw3]
  refine bcd (fun hlt => law15_end_ok.mono ?_) (fun hge => law15_end_ok.mono ?_)
  · rintro r s ⟨rfl, c0, c1, c2, c3, c4, rfl, hc⟩
    refine ⟨_, _, _, _, _, _, _, _, _, rfl, (law15_seen_ok _ _).mono ?_⟩
    rintro r s ⟨rfl, v0, v1, v2, v3, rfl, hv⟩
    have hs2 : endStep (Int.tmod (j : Int) 2) (((j + 1 : Nat) : Int) + 1) (((j + 1 : Nat) : Int) + 1) (-2) ⟨0, 0, a, t, a, 0, 0, 0⟩ false = endK (-2) ⟨0, 0, a, a, a, 0, 0, 0⟩ false := by
      exact endStep_wait _ _ _ _ (by simp only; omega)
    refine ⟨_, _, _, _, rfl, (end_step_ok hc hk hv (by omega) (fit a t a 0 0 (by omega) (by omega) (by omega) (by omega) (by omega)) (by omega) hs2).mono ?_⟩
    rintro r s ⟨rfl, k0, k1, k2, k3, k4, k5, rfl, hk⟩
    refine ⟨_, _, _, _, _, _, _, _, rfl, bcn (fun e => absurd rfl e) (fun _ => (hk.at_ _).own.load (j := 0) (row := encI (-2)) rfl c_int rfl ⟨-2, rfl, bcn (fun e => absurd rfl e) (fun _ => (block_Tell_ok (hk.at_ _) _ 1).use ⟨0, 0, a, by rw [ht], bcn (fun e => absurd rfl e) (fun _ => ⟨⟨rfl, ⟨a, by omega, by omega, hk⟩, j + 1, rfl, rfl, by omega⟩, ?_⟩)⟩)⟩)⟩
    show 20 - ((j + 1 : Nat) : Int).toNat < 20 - ((j : Nat) : Int).toNat
    omega
  rintro r s ⟨rfl, c0, c1, c2, c3, c4, rfl, hc⟩
  refine ⟨_, _, _, _, _, _, _, _, _, rfl, (end_hear_ok hc hk (by omega) (fit a t a 0 0 (by omega) (by omega) (by omega) (by omega) (by omega)) (a := a) (d := a) (g := 0) (by omega) (by omega) (by omega)).mono ?_⟩
  rintro r s ⟨rfl, k0, k1, k2, k3, k4, k5, rfl, hk⟩
  refine ⟨_, _, _, _, _, _, _, _, rfl, ?_⟩
  intro R1 hR1
  refine bcn (fun e => absurd rfl e) (fun _ => (hk.at_ _).own.load (j := 0) (row := encI (-2)) rfl c_int rfl ⟨-2, rfl, bcn (fun e => absurd rfl e) (fun _ => ⟨rfl, hR1 _ ?_⟩)⟩)
  -- done: it is seen clear three cycles later
  refine ⟨fun d0 d1 d2 d3 d4 d5 b n m s => b = false ∧ (∃ t z : Int, 0 ≤ t ∧ t ≤ 1000 ∧ 0 ≤ z ∧ z ≤ n + 1 ∧ (m ≠ 0 → z ≠ 0) ∧ CoFz d0 d1 d2 d3 d4 d5 (endK (-2) ⟨0, 0, a, t, a, a, 0, z⟩ false)) ∧ ∃ i : Nat, m = i ∧ n = j + 1 + i ∧ i ≤ 3, fun _ _ _ _ _ _ _ _ m _ => 3 - m.toNat, ⟨rfl, ⟨t, 0, by omega, by omega, by omega, by omega, fun e => absurd rfl e, hk⟩, 0, rfl, by omega, by omega⟩, ?_⟩
  rintro d0 d1 d2 d3 d4 d5 b _ _ s ⟨rfl, ⟨t, z, ht0, ht1, hz0, hz1, hz2, hk⟩, i, rfl, rfl, hi⟩
  have hw4 : w64 ((j : Int) + 1 + i + 1) = (j : Int) + 1 + ((i + 1 : Nat) : Int) := by rw [w64_id (by omega) (by omega)]; omega
  have hw5 : w64 ((i : Int) + 1) = ((i + 1 : Nat) : Int) := w64_succ (by omega)
  rw [hw4, hw5]
  refine bcd (fun hlt => law15_end_ok.mono ?_) (fun hge => law15_end_ok.mono ?_)
  · rintro r s ⟨rfl, c0, c1, c2, c3, c4, rfl, hc⟩
    refine ⟨_, _, _, _, _, _, _, _, _, rfl, (law15_seen_ok _ _).mono ?_⟩
    rintro r s ⟨rfl, v0, v1, v2, v3, rfl, hv⟩
    have hs2 : ∃ z' : Int, 0 ≤ z' ∧ z' ≤ (j : Int) + 1 + ((i + 1 : Nat) : Int) + 1 ∧ z' ≠ 0 ∧ endStep 1 ((j : Int) + 1 + ((i + 1 : Nat) : Int)) ((j : Int) + 1 + ((i + 1 : Nat) : Int)) (-2) ⟨0, 0, a, t, a, a, 0, z⟩ false = endK (-2) ⟨0, 0, a, a, a, a, 0, z'⟩ false := by
      by_cases hz : z = 0
      · refine ⟨w64 ((j : Int) + 1 + ((i + 1 : Nat) : Int) + 1), ?_, ?_, ?_, ?_⟩
        · rw [w64_id (by omega) (by omega)]; omega
        · rw [w64_id (by omega) (by omega)]; omega
        · rw [w64_id (by omega) (by omega)]; omega
        · exact endStep_done _ _ _ _ (by simp only; omega) hz
      · refine ⟨z, by omega, by omega, hz, ?_⟩
        exact endStep_occ _ _ _ _ (by simp only; omega) hz (fun g => by cases g.1)
    obtain ⟨z', q1, q2, q3, hs2⟩ := hs2
    refine ⟨_, _, _, _, rfl, (end_step_ok hc hk hv (by omega) (fit a t a a z (by omega) (by omega) (by omega) (by omega) (by omega)) (by omega) hs2).mono ?_⟩
    rintro r s ⟨rfl, k0, k1, k2, k3, k4, k5, rfl, hk⟩
    refine ⟨_, _, _, _, _, _, _, _, rfl, bcn (fun e => absurd rfl e) (fun _ => (hk.at_ _).own.load (j := 0) (row := encI (-2)) rfl c_int rfl ⟨-2, rfl, bcn (fun e => absurd rfl e) (fun _ => ⟨⟨rfl, ⟨a, z', by omega, by omega, q1, q2, fun _ => q3, hk⟩, i + 1, rfl, rfl, by omega⟩, ?_⟩)⟩)⟩
    show 3 - ((i + 1 : Nat) : Int).toNat < 3 - ((i : Nat) : Int).toNat
    omega
  · rintro r s ⟨rfl, c0, c1, c2, c3, c4, rfl, hc⟩
    refine ⟨_, _, _, _, _, _, _, _, _, rfl, (law15_seen_ok _ _).mono ?_⟩
    rintro r s ⟨rfl, v0, v1, v2, v3, rfl, hv⟩
    have hz := hz2 (by omega)
    have hs3 : endStep 0 ((j : Int) + 1 + ((i + 1 : Nat) : Int)) ((j : Int) + 1 + ((i + 1 : Nat) : Int)) (-2) ⟨0, 0, a, t, a, a, 0, z⟩ false = endK 0 ⟨0, 0, a, a, a, a, 0, 0⟩ true := by
      exact endStep_clear _ _ _ _ (by simp only; omega) hz ⟨rfl, by simp only; omega⟩
    refine ⟨_, _, _, _, rfl, (end_step_ok hc hk hv (by omega) (fit a t a a z (by omega) (by omega) (by omega) (by omega) (by omega)) (by omega) hs3).mono ?_⟩
    rintro r s ⟨rfl, k0, k1, k2, k3, k4, k5, rfl, hk'⟩
    refine ⟨_, _, _, _, _, _, _, _, rfl, bce (fun _ => (hk'.at_ _).own.load (j := 0) (row := encI 0) rfl c_int rfl ⟨0, rfl, bce (fun _ => bc (fun _ => (ref13_Same_ok (hk.at_ _) (hk'.at_ _)).use ⟨_, rfl, ?_⟩) (fun e => by cases e)) (fun e => absurd rfl e)⟩) (fun e => absurd rfl e)⟩
    rw [decide_eq_false (fun e => by simp [endK] at e)]; rfl
end Go.Proofs.Ytnochggjgopfeaa
end
section
set_option linter.unusedVariables false
set_option linter.unusedSimpArgs false
namespace Go.Proofs.Ytnochggjgopfeaa
open Go.Fw Go.Proofs Go.RowKit
variable {σ : Store}

theorem ref15_Tell_ok {k0 k1 k2 k3 k4 k5 : D} {k : Co} (h : CoAt σ k0 k1 k2 k3 k4 k5 k) (b : Bool) (line : Int) : Pure Try.prog n_ref15_Tell [coA k0 k1 k2 k3 k4 k5 b, iA line] σ (.a (.agg [iD (k.tell line).1, iD (k.tell line).2.1, iD (k.tell line).2.2])) := by
  have no : ¬ (1 ≤ line ∧ line < (k.Lines.length : Int)) → k.tell line = (0, 0, 0) := fun hn => by
    unfold Co.tell
    cases hg : geti k.Lines line with
    | none => rfl
    | some l => exact if_pos (by have := geti_some hg; omega)
  refine W_ref15_Tell k0 k1 k2 k3 k4 k5 b line σ _ (bcd (fun e => ⟨by rw [no (by omega)], rfl⟩) (fun e => h.lines.lenK ?_))
  rw [List.length_map]
  refine bcd (fun e2 => ⟨by rw [no (by omega)], rfl⟩) (fun e2 => ?_)
  obtain ⟨x, hx⟩ := get_of_lt (l := k.Lines) (j := line.toNat) (by omega)
  refine h.lines.load (map_get hx) c_LineState (by omega) ⟨x.Ask, x.Done, x.Grant, x.Told, x.PAsk, x.PDone, x.PGrant, x.Since, rfl, ?_, rfl⟩
  rw [Co.tell, show geti k.Lines line = some x by unfold geti; rw [if_neg (by omega), hx]]
  simp only
  rw [if_neg (by omega)]

/-- What a call hands back: a state of its own, or one that lies nowhere. -/
def CoPostK (σ : Store) (p : Co × Int) (r : RV) (s : Store) : Prop := CoPost σ p r s ∨ (s = σ ∧ ∃ d0 d1 d2 d3 d4 d5, r = .tup [coA d0 d1 d2 d3 d4 d5 p.1.Dirty, iA p.2] ∧ CoFz d0 d1 d2 d3 d4 d5 p.1)

theorem plain_fz {s : Store} {S : Nat → Prop} {el : TypeId} {d : D} {rs : List (List D)} (h : ∀ s, At Try.prog s el d rs) (hf : ∀ row ∈ rs, ∀ x ∈ row, Flat x) : Fz Try.prog s S d d := by
  have hp := froz_plain (P := Try.prog) (el := el) (d := d) fun s => ⟨rs, (h s).rows⟩
  have hr := (h s).rows
  cases d <;> simp only [Go.Fw.Rows] at hr <;> try exact hr.elim
  · exact .nils
  · exact .zsl
  · obtain ⟨rfl, _⟩ := hr
    exact .refl fun row hrow x hx => (hf row hrow x hx).fz
  · exact absurd rfl (hp _ _ _)

theorem flat_co : (∀ n : Int, ∀ d ∈ encI n, Flat d) ∧ (∀ r : Rs, ∀ d ∈ r.enc, Flat d) ∧ (∀ r : Mv, ∀ d ∈ r.enc, Flat d) ∧ ∀ r : Ls, ∀ d ∈ r.enc, Flat d :=
  ⟨fun n d hd => by simp [encI] at hd; subst hd; exact .int _ _, fun r d hd => by simp [Rs.enc] at hd; rcases hd with rfl | rfl | rfl | rfl <;> exact .int _ _,
    fun r d hd => by simp [Mv.enc] at hd; rcases hd with rfl | rfl <;> exact .int _ _,
    fun r d hd => by simp [Ls.enc] at hd; rcases hd with rfl | rfl | rfl | rfl | rfl | rfl | rfl | rfl <;> exact .int _ _⟩

theorem cofz_fz {s : Store} {S : Nat → Prop} {d0 d1 d2 d3 d4 d5 : D} {k : Co} (h : CoFz d0 d1 d2 d3 d4 d5 k) (b : Bool) : FzL Try.prog s S [d0, d1, d2, d3, d4, d5, .bool b] [d0, d1, d2, d3, d4, d5, .bool b] :=
  .cons (plain_fz (fun s => (h.at_ s).own) (flat_ints _ flat_co.1 _)) (.cons (plain_fz (fun s => (h.at_ s).routes) (flat_ints _ flat_co.2.1 _)) (.cons (plain_fz (fun s => (h.at_ s).points) (flat_ints _ flat_co.2.2.1 _))
    (.cons (plain_fz (fun s => (h.at_ s).xs) (flat_ints _ flat_co.2.2.1 _)) (.cons (plain_fz (fun s => (h.at_ s).lines) (flat_ints _ flat_co.2.2.2 _)) (.cons (plain_fz (fun s => (h.at_ s).resets) (flat_ints _ flat_co.1 _)) (.cons (.bool _) .nil))))))

theorem postK_frz {f : FuncId} {as0' : List A} {p : Co × Int} (h : DCalls Try.prog f as0' σ (CoPostK σ p)) : DCalls Try.prog f as0' σ (CoPostZ σ p) := by
  refine h.ret ?_
  rintro r s (⟨d0, d1, d2, d3, d4, d5, rfl, hco⟩ | ⟨rfl, d0, d1, d2, d3, d4, d5, rfl, hz⟩)
  · obtain ⟨e0, e1, e2, e3, e4, e5, hfz, hz⟩ := co_frz hco
    refine ⟨.tup [coA e0 e1 e2 e3 e4 e5 p.1.Dirty, iA p.2], σ, .pure hco.own.ext ⟨rfl, fun i x y h1 h2 => ?_⟩, rfl, _, _, _, _, _, _, rfl, hz⟩
    rcases i with _ | _ | i
    · simp at h1 h2; subst h1 h2; exact hfz
    · simp at h1 h2; subst h1 h2; exact .int _ _
    · simp at h1
  · refine ⟨.tup [coA d0 d1 d2 d3 d4 d5 p.1.Dirty, iA p.2], s, .pure (.refl _) ⟨rfl, fun i x y h1 h2 => ?_⟩, rfl, _, _, _, _, _, _, rfl, hz⟩
    rcases i with _ | _ | i
    · simp at h1 h2; subst h1 h2; exact cofz_fz hz _
    · simp at h1 h2; subst h1 h2; exact .int _ _
    · simp at h1

section
variable {c0 c1 c2 c3 c4 k0 k1 k2 k3 k4 k5 v0 v1 v2 v3 : D} {c : Cf} {k : Co} {v : Vw}

theorem ref15_Hear_ok (hc : ∀ s, CfAt s c0 c1 c2 c3 c4 c) (h : CoFz k0 k1 k2 k3 k4 k5 k) (hf : CoFit k0 k1 k2 k3 k4 k5 k) (line a d g : Int) :
    DCalls Try.prog n_ref15_Hear [cfA c0 c1 c2 c3 c4 c, coA k0 k1 k2 k3 k4 k5 k.Dirty, iA line, .agg [iD a, iD d, iD g]] σ (CoPostZ σ (k.hearC c line a d g)) := by
  refine postK_frz (W_ref15_Hear _ _ _ _ _ _ _ _ _ k0 k1 k2 k3 k4 k5 k.Dirty line a d g σ _ ?_)
  have er : ∀ e : Int, k.hearC c line a d g = (k, e) → CoPostK σ (k.hearC c line a d g) (.tup [.agg [k0, k1, k2, k3, k4, k5, .bool k.Dirty], iA e]) σ := fun e he => by
    rw [he]; exact .inr ⟨rfl, _, _, _, _, _, _, rfl, h⟩
  refine (ref13_Fits_ok hc (h.at_ σ) _).use ⟨_, rfl, bcnot (fun e => er 21 (by rw [Co.hearC, if_pos e])) (fun e1 => (ref15_Section_ok (hc σ) line).use ⟨_, rfl, ?_⟩)⟩
  have h1 : k.hearC c line a d g = if c.lineSec line < 0 then (k, 20) else if a < 0 ∨ d < 0 ∨ g < 0 ∨ a > 4294967295 ∨ d > 4294967295 ∨ g > 4294967295 then (k, 32)
      else ({ k with Lines := k.Lines.set line.toNat { (k.Lines[line.toNat]?).getD zLs with PAsk := a, PDone := d, PGrant := g } }, 0) := by
    rw [Co.hearC, if_neg (by rw [e1]; simp)]
  refine bcd (fun e => er 20 (by rw [h1, if_pos e])) (fun e2 => ?_)
  rw [if_neg e2] at h1
  have t : ∀ n : Int, tm 0 n = false → n < 0 ∨ n > 4294967295 := fun n hn => by have := of_decide_eq_false hn; omega
  have t' : ∀ n : Int, tm 0 n = true → 0 ≤ n ∧ n ≤ 4294967295 := fun n hn => by have := of_decide_eq_true hn; omega
  refine (ref13_Time_ok _).use ⟨_, rfl, bcnot (fun e => er 32 (by rw [h1, if_pos (by have := t _ e; omega)])) (fun e3 => ?_)⟩
  refine (ref13_Time_ok _).use ⟨_, rfl, bcnot (fun e => er 32 (by rw [h1, if_pos (by have := t _ e; omega)])) (fun e4 => ?_)⟩
  refine (ref13_Time_ok _).use ⟨_, rfl, bcnot (fun e => er 32 (by rw [h1, if_pos (by have := t _ e; omega)])) (fun e5 => ?_)⟩
  rw [if_neg (by have := t' _ e3; have := t' _ e4; have := t' _ e5; omega)] at h1
  have hr : 1 ≤ line ∧ line ≤ 3 := fits_line e1 e2
  have hlen := fits_lens e1
  obtain ⟨x, hx⟩ := get_of_lt (l := k.Lines) (j := line.toNat) (by omega)
  refine (ref13_Copied_ok (h.at_ σ) hf.b0 hf.b1 hf.b2 hf.b3 hf.b4 hf.b5).mono ?_
  rintro r s1 ⟨d0, d1, d2, d3, d4, d5, rfl, hd⟩
  refine ⟨_, _, _, _, _, _, _, rfl, hd.lines.at_.idxK (j := line.toNat) c_LineState (by omega) (by rw [List.length_map]; omega) (hd.putL hx rfl (by simp) (y := { x with PAsk := a, PDone := d, PGrant := g }) rfl fun s' h' _ => .inl ?_)⟩
  rw [h1, hx]
  exact ⟨d0, d1, d2, d3, d4, d5, rfl, h'⟩

/-- A line, a cycle further. -/
theorem ref15_one_ok {σ0 : Store} {id : Nat} {d0 d1 d2 d3 d4 d5 : D} {k' : Co} {now : Int} {line s : Nat} {x : Ls} {o : Int} {lk : Lk} (hc : ∀ s, CfAt s c0 c1 c2 c3 c4 c) (h : CoFz k0 k1 k2 k3 k4 k5 k) (hv : VwAt v0 v1 v2 v3 v)
    (hd : CoIn σ0 σ id t_Core [] [] d0 d1 d2 d3 d4 d5 k') (hx : k'.Lines[line]? = some x) (hx0 : k.Lines[line]? = some x) (ho : k'.Own[s]? = some o) (ho0 : k.Own[s]? = some o) (hr : k'.Routes = k.Routes) (hlk : v.Occ[s]? = some lk) (hrl : k.Routes.length = c.Rts.length) :
    DCalls Try.prog n_ref15_one [cfA c0 c1 c2 c3 c4 c, coA k0 k1 k2 k3 k4 k5 k.Dirty, .one (dp id), .agg [v0, v1, v2, v3], iA now, iA line, iA s] σ fun r s' => r = .tup [] ∧ CoIn σ0 s' id t_Core [] [] d0 d1 d2 d3 d4 d5 (lineStep c v.Occ now k.Dirty k' line s) := by
  have hj : line < k'.Lines.length := (List.getElem?_eq_some_iff.1 hx).1
  have hjs : s < k'.Own.length := (List.getElem?_eq_some_iff.1 ho).1
  have hLS : lineStep c v.Occ now k.Dirty k' line s = (let w := (if o = -2 then backStep v.Occ now k' line s else if o = 0 ∧ mayOk c k' x s = true then { k' with Own := k'.Own.set s (-2), Dirty := true, Lines := k'.Lines.set line { x with Grant := x.PAsk, Since := 0 } } else k');
      if k.Dirty = true then w else { w with Lines := w.Lines.set line { (w.Lines[line]?).getD zLs with Told := x.Grant } }) := by
    unfold lineStep
    simp only [hx, ho, Option.getD_some]
  refine W_ref15_one _ _ _ _ _ _ _ _ _ k0 k1 k2 k3 k4 k5 k.Dirty (dp id) v0 v1 v2 v3 now line s σ _ ⟨trivial, _, _, _, rfl, _, box_row hd.row, d4, rfl, hd.co.lines.at_.idxK (j := line) c_LineState rfl (by rw [List.length_map]; omega) ((hv.occ σ).load (map_get hlk) c_Look rfl ⟨lk.Value, lk.Stamp, lk.Valid, rfl, ?_⟩)⟩
  intro R hR
  have main : R (lk.Valid && lk.Value == 0) σ := by
    refine hR _ σ ?_
    intro R1 hR1
    -- behind the line's change
    have fin : ∀ (w : Co) (y : Ls) (s' : Store), w.Lines[line]? = some y → CoIn σ0 s' id t_Core [] [] d0 d1 d2 d3 d4 d5 w →
        w = (if o = -2 then backStep v.Occ now k' line s else if o = 0 ∧ mayOk c k' x s = true then { k' with Own := k'.Own.set s (-2), Dirty := true, Lines := k'.Lines.set line { x with Grant := x.PAsk, Since := 0 } } else k') → R1 s' := by
      intro w y s' hy hw he
      rw [← he] at hLS
      simp only [hy, Option.getD_some] at hLS
      refine hR1 s' (bcnot (fun q => ?_) (fun q => ⟨rfl, ?_⟩))
      · rw [if_neg (by rw [q]; simp)] at hLS
        refine (h.at_ s').lines.load (map_get hx0) c_LineState rfl ⟨x.Grant, rfl, hw.putL hy (by omega) (by simp) (y := { y with Told := x.Grant }) rfl fun s2 h2 _ => ⟨rfl, ?_⟩⟩
        rw [hLS]; exact h2
      · rw [if_pos q] at hLS; rw [hLS]; exact hw
    have rowx : ∀ {s' : Store} {w : Co} {y : Ls}, CoIn σ0 s' id t_Core [] [] d0 d1 d2 d3 d4 d5 w → w.Lines[line]? = some y → Row s' d4 (line : Int).toNat y.enc := fun hw hy => by
      rw [Int.toNat_natCast]; exact hw.co.lines.at_.row (map_get hy)
    have hset : ∀ y : Ls, (k'.Lines.set line y)[line]? = some y := fun y => get_set hx
    have hx9 := rowx hd hx
    refine (h.at_ σ).own.load (map_get ho0) c_int rfl ⟨o, rfl, bce (fun h1 => ?_) (fun h1 => ?_)⟩
    · have hB : (if o = -2 then backStep v.Occ now k' line s else if o = 0 ∧ mayOk c k' x s = true then { k' with Own := k'.Own.set s (-2), Dirty := true, Lines := k'.Lines.set line { x with Grant := x.PAsk, Since := 0 } } else k') =
          (if x.PDone < x.Grant then { k' with Lines := k'.Lines.set line { x with Since := 0 } }
          else if x.Since = 0 then { k' with Lines := k'.Lines.set line { x with Since := w64 (now + 1) } }
          else if lk.Valid = true ∧ lk.Value = 0 ∧ x.Since ≤ lk.Stamp then { k' with Own := k'.Own.set s 0, Dirty := true, Lines := k'.Lines.set line { x with Since := 0 } }
          else k') := by
        rw [if_pos h1]; unfold backStep; simp only [hx, hlk, Option.getD_some]
      rw [hB] at fin
      refine ⟨_, hx9, _, rfl, _, hx9, _, rfl, bcd (fun h2 => ?_) (fun h2 => ⟨_, hx9, _, rfl, bce (fun h3 => ?_) (fun h3 => ?_)⟩)⟩
      · rw [if_pos h2] at fin
        exact hd.putL hx (by omega) (by simp) (y := { x with Since := 0 }) rfl fun s2 h2 _ => fin _ _ s2 (hset _) h2 rfl
      · rw [if_neg h2, if_pos h3] at fin
        exact hd.putL hx (by omega) (by simp) (y := { x with Since := w64 (now + 1) }) rfl fun s2 h2 _ => fin _ _ s2 (hset _) h2 rfl
      · rw [if_neg h2, if_neg h3] at fin
        refine bc (fun h4 => ⟨_, hx9, _, rfl, bcd (fun h5 => ?_) (fun h5 => ?_)⟩) (fun h4 => ?_)
        · rw [Bool.and_eq_true, beq_iff_eq] at h4
          rw [if_pos ⟨h4.1, h4.2, h5⟩] at fin
          refine ⟨trivial, _, _, _, rfl, _, box_row hd.row, d0, rfl, hd.co.own.at_.idxK (j := s) c_int rfl (by rw [List.length_map]; exact hjs) (hd.putO ho (by omega) (by simp) (y := 0) rfl fun s2 h6 _ => ?_)⟩
          refine h6.putL hx (by omega) (by simp) (y := { x with Since := 0 }) rfl fun s3 h7 _ => ⟨trivial, _, _, _, rfl, h7.dirty (b := true) rfl fun s4 h8 _ => fin _ _ s4 (hset _) h8 rfl⟩
        · rw [if_neg (fun g => h5 g.2.2)] at fin
          exact fin _ _ σ hx hd rfl
        · rw [if_neg (fun g => by rw [g.1, g.2.1] at h4; cases h4)] at fin
          exact fin _ _ σ hx hd rfl
    · rw [if_neg h1] at fin
      intro R2 hR2
      have yes : o = 0 ∧ mayOk c k' x s = true → ∀ s', CoIn σ0 s' id t_Core [] [] d0 d1 d2 d3 d4 d5 k' → R2 true s' := fun hm s' hd' => hR2 _ _ (by
        rw [if_pos hm] at fin
        refine bc (fun _ => ⟨trivial, _, _, _, rfl, _, box_row hd'.row, d0, rfl, hd'.co.own.at_.idxK (j := s) c_int rfl (by rw [List.length_map]; exact hjs) (hd'.putO ho (by omega) (by simp) (y := -2) rfl fun s2 h6 _ => ?_)⟩) (fun e => by cases e)
        refine ⟨_, rowx h6 hx, _, rfl, h6.putL hx (by omega) (by simp) (y := { x with Grant := x.PAsk }) rfl fun s3 h7 _ => ?_⟩
        refine h7.putL (hset _) (by omega) (by simp) (y := { x with Grant := x.PAsk, Since := 0 }) rfl fun s4 h8 _ => ⟨trivial, _, _, _, rfl, h8.dirty (b := true) rfl fun s5 h9 _ => ?_⟩
        simp only [lines_set_set] at h9
        exact fin _ _ s5 (hset _) h9 rfl)
      have nope : ¬ (o = 0 ∧ mayOk c k' x s = true) → ∀ s', CoIn σ0 s' id t_Core [] [] d0 d1 d2 d3 d4 d5 k' → R2 false s' := fun hm s' hd' => hR2 _ _ (by
        rw [if_neg hm] at fin
        exact bc (fun e => by cases e) (fun _ => fin _ _ s' hx hd' rfl))
      have hm : mayOk c k' x s = (!(apprL c s k.Routes 0) && (decide (x.PAsk > (if x.PDone > x.Grant then x.PDone else x.Grant)) && decide (x.Ask = x.Done))) := by rw [mayOk, hr]
      have nm : ∀ p : Prop, [Decidable p] → ¬ p → (p = (x.PAsk > (if x.PDone > x.Grant then x.PDone else x.Grant))) → mayOk c k' x s = false := fun p _ hp e => by rw [hm, ← decide_eq_decide.2 (iff_of_eq e), decide_eq_false hp]; simp
      refine (h.at_ σ).own.load (map_get ho0) c_int rfl ⟨o, rfl, bce (fun h2 => ?_) (fun h2 => nope (fun g => h2 g.1) σ hd)⟩
      refine ⟨_, hx9, _, rfl, _, hx9, _, rfl, bcd (fun h3 => ⟨_, hx9, _, rfl, _, hx9, _, rfl, bcd (fun h4 => ⟨_, hx9, _, rfl, _, hx9, _, rfl, bce (fun h5 => ?_) (fun h5 => ?_)⟩) (fun h4 => ?_)⟩) (fun h3 => ?_)⟩
      · refine newObj_intro fun id1 s2 hid1 _ he2 hs2 => ?_
        have hd2 : CoIn σ0 s2 id t_Core [] [] d0 d1 d2 d3 d4 d5 k' := ⟨hd.new, by rw [he2 id (by rw [hd.row]; intro e; cases e)]; exact hd.row, ⟨hd.co.own.ext' he2, hd.co.routes.ext' he2, hd.co.points.ext' he2, hd.co.xs.ext' he2, hd.co.lines.ext' he2, hd.co.resets.ext' he2, hd.co.apart⟩, hd.ids⟩
        refine (ref13_Approached_ok (l := [(s : Int)]) (hc s2) (h.at_ s2).routes _ hrl (At.fresh hs2 (by simp) rfl)).use ⟨_, rfl, ?_⟩
        rw [apprS_one]
        have hmx : mayOk c k' x s = !(apprL c s k.Routes 0) := by
          rw [hm, decide_eq_true (p := x.Ask = x.Done) h5, decide_eq_true (p := x.PAsk > _) (by split <;> omega)]; simp
        cases ha : apprL c s k.Routes 0 with
        | false => exact yes ⟨h2, by rw [hmx, ha]; rfl⟩ s2 hd2
        | true => exact nope (fun g => by rw [hmx, ha] at g; cases g.2) s2 hd2
      · exact nope (fun g => by rw [hm, decide_eq_false h5] at g; simp at g) σ hd
      · exact nope (fun g => by rw [nm (x.PAsk > (if x.PDone > x.Grant then x.PDone else x.Grant)) (by split <;> omega) rfl] at g; cases g.2) σ hd
      · exact nope (fun g => by rw [nm (x.PAsk > (if x.PDone > x.Grant then x.PDone else x.Grant)) (by split <;> omega) rfl] at g; cases g.2) σ hd
  refine bc (fun q => ⟨rfl, ?_⟩) (fun q => ⟨rfl, ?_⟩)
  · rw [q, Bool.true_and] at main; exact main
  · rw [q, Bool.false_and] at main; exact main

theorem ref15_Step_ok (hc : ∀ s, CfAt s c0 c1 c2 c3 c4 c) (h : CoFz k0 k1 k2 k3 k4 k5 k) (hf : CoFit k0 k1 k2 k3 k4 k5 k) (hv : VwAt v0 v1 v2 v3 v) (now : Int) :
    DCalls Try.prog n_ref15_Step [cfA c0 c1 c2 c3 c4 c, coA k0 k1 k2 k3 k4 k5 k.Dirty, .agg [v0, v1, v2, v3], iA now] σ (CoPostZ σ (k.stepC c v now)) := by
  refine postK_frz (W_ref15_Step _ _ _ _ _ _ _ _ _ k0 k1 k2 k3 k4 k5 k.Dirty v0 v1 v2 v3 now σ _ ?_)
  have er : ∀ e : Int, k.stepC c v now = (k, e) → CoPostK σ (k.stepC c v now) (.tup [.agg [k0, k1, k2, k3, k4, k5, .bool k.Dirty], iA e]) σ := fun e he => by
    rw [he]; exact .inr ⟨rfl, _, _, _, _, _, _, rfl, h⟩
  intro R hR
  refine (ref13_Fits_ok hc (h.at_ σ) _).use ⟨_, rfl, bcnot (fun e => er 21 (by rw [Co.stepC, if_pos (.inl e)])) (fun e1 => (ref14_Seen_ok (hc σ) hv).use ⟨_, rfl, bcnot (fun e => er 21 (by rw [Co.stepC, if_pos (.inr e)])) (fun e2 => hR _ _ _ _ _ _ _ σ ?_)⟩)⟩
  have h1 : k.stepC c v now = if now < 0 ∨ now > 4294967295 then (k, 32) else (stepRun c v.Occ now k.Dirty [1, 2, 3] k, 0) := by
    rw [Co.stepC, if_neg (by rw [e1, e2]; simp)]
  refine (ref13_Time_ok _).use ⟨_, rfl, bcnot (fun e => er 32 (by rw [h1, if_pos (by have := of_decide_eq_false e; omega)])) (fun e3 => ?_)⟩
  rw [if_neg (by have := of_decide_eq_true e3; omega)] at h1
  have hlen := fits_lens e1
  have hvl := vfits_lens e2
  refine (ref13_Copied_ok (h.at_ σ) hf.b0 hf.b1 hf.b2 hf.b3 hf.b4 hf.b5).mono ?_
  rintro r s1 ⟨d0, d1, d2, d3, d4, d5, rfl, hd⟩
  refine ⟨_, _, _, _, _, _, _, rfl, newObj_intro fun id s2 hid _ he2 hs2 => cell_store hs2 (by simp) fun s3 hs3 hs3' => ?_⟩
  have hid0 : σ id = .free := by
    by_cases hf : σ id = .free
    · exact hf
    · have := hd.own.ext id hf; rw [hid] at this; exact this.symm
  have ids : ∀ {d : D} {el : TypeId} {rs : List (List D)}, At Try.prog s1 el d rs → idOf d ≠ some id := fun {d el rs} g e => by
    cases d with
    | osl i a n =>
      have e1 : i = id := by simpa [idOf] using e
      subst e1
      obtain ⟨t, rows, g1, _⟩ := g.rows
      rw [hid] at g1; cases g1
    | _ => simp [idOf] at e
  have mv : ∀ {d : D} {el : TypeId} {rs : List (List D)}, Own Try.prog σ s1 el d rs → Own Try.prog σ s3 el d rs := fun g => own_other (g.ext' he2) hid0 (ids g.at_) hs3'
  have hin : CoIn σ s3 id t_Core [] [] d0 d1 d2 d3 d4 d5 k := ⟨hid0, hs3, ⟨mv hd.own, mv hd.routes, mv hd.points, mv hd.xs, mv hd.lines, mv hd.resets, hd.apart⟩, fun d hm => by
    simp only [List.mem_cons, List.not_mem_nil, or_false] at hm
    rcases hm with rfl | rfl | rfl | rfl | rfl | rfl
    · exact ids hd.own.at_
    · exact ids hd.routes.at_
    · exact ids hd.points.at_
    · exact ids hd.xs.at_
    · exact ids hd.lines.at_
    · exact ids hd.resets.at_⟩
  -- the lines done so far
  have keep := stepRun_keeps c v.Occ now k.Dirty
  refine ⟨fun n s => ∃ (j : Nat), n = j ∧ 1 ≤ j ∧ j ≤ 4 ∧ CoIn σ s id t_Core [] [] d0 d1 d2 d3 d4 d5 (stepRun c v.Occ now k.Dirty (List.take (j - 1) [1, 2, 3]) k), fun n _ => 4 - n.toNat, ⟨1, rfl, by omega, by omega, hin⟩, ?_⟩
  rintro _ s ⟨j, rfl, hj1, hj4, hj⟩
  have hw : w64 ((j : Int) + 1) = ((j + 1 : Nat) : Int) := w64_succ (by omega)
  rw [hw]
  refine bcd (fun hlt => (ref15_Section_ok (hc s) j).use ⟨_, rfl, ?_⟩) (fun hge => ?_)
  · have hmu : 4 - ((j + 1 : Nat) : Int).toNat < 4 - ((j : Nat) : Int).toNat := by omega
    have hsub : ∀ l ∈ List.take (j - 1) [1, 2, 3], l < j ∧ l < k.Lines.length := by
      have : j = 1 ∨ j = 2 ∨ j = 3 := by omega
      rcases this with rfl | rfl | rfl <;> simp <;> omega
    have hnext : stepRun c v.Occ now k.Dirty (List.take (j + 1 - 1) [1, 2, 3]) k = (let w := stepRun c v.Occ now k.Dirty (List.take (j - 1) [1, 2, 3]) k; if 0 ≤ c.lineSec j then lineStep c v.Occ now k.Dirty w j (c.lineSec j).toNat else w) := by
      have : j = 1 ∨ j = 2 ∨ j = 3 := by omega
      rcases this with rfl | rfl | rfl <;> rfl
    obtain ⟨r1, r2, r3⟩ := keep (List.take (j - 1) [1, 2, 3]) k (fun l hl => (hsub l hl).2) hlen.1
    obtain ⟨x, hx⟩ := get_of_lt (l := k.Lines) (j := j) (by omega)
    refine bcd (fun hs => ?_) (fun hs => ⟨rfl, ⟨j + 1, rfl, by omega, by omega, by rw [hnext, if_neg (by omega)]; exact hj⟩, hmu⟩)
    have hsb := lineSec_bound c j
    obtain ⟨si, hsi⟩ : ∃ si : Nat, c.lineSec j = si := ⟨(c.lineSec j).toNat, by omega⟩
    rw [hsi] at hsb ⊢
    obtain ⟨o, ho⟩ := get_of_lt (l := k.Own) (j := si) (by omega)
    obtain ⟨lk, hlk⟩ := get_of_lt (l := v.Occ) (j := si) (by omega)
    have hx' : (stepRun c v.Occ now k.Dirty (List.take (j - 1) [1, 2, 3]) k).Lines[j]? = some x := by
      rw [r2 j (fun hm => by have := (hsub j hm).1; omega)]; exact hx
    have ho' : (stepRun c v.Occ now k.Dirty (List.take (j - 1) [1, 2, 3]) k).Own[si]? = some o := by
      rw [r3 si (fun l hl e => by
        have h2 := (hsub l hl).1
        have := lineSec_inj e hsi
        omega)]
      exact ho
    refine (ref15_one_ok hc h hv hj hx' hx ho' ho r1 hlk (by omega)).mono ?_
    rintro r s' ⟨rfl, h'⟩
    refine ⟨rfl, rfl, ⟨j + 1, rfl, by omega, by omega, ?_⟩, hmu⟩
    rw [hnext, if_pos (by omega), hsi, Int.toNat_natCast]; exact h'
  · have e : j = 4 := by omega
    subst e
    refine ⟨_, box_row hj.row, d0, d1, d2, d3, d4, d5, _, rfl, .inl ?_⟩
    rw [h1]
    exact ⟨d0, d1, d2, d3, d4, d5, rfl, hj.co⟩
end
end Go.Proofs.Ytnochggjgopfeaa
end
