/-
  Proofs that the statement of this claim leans on: part 4.
-/
import Derived.Test.YteflnjedfmmddaaP3
section
set_option linter.unusedVariables false
set_option linter.unusedSimpArgs false
namespace Go.Proofs.Yteflnjedfmmddaa
open Go.Fw Go.Proofs Go.RowKit
variable {σ : Store}
/-- A configuration's cells. -/
structure CfAt (σ : Store) (c0 c1 c2 c3 c4 : D) (c : Cf) : Prop where
  secs : At Try.prog σ t_Section c0 (c.Secs.map Sec.enc)
  jts : At Try.prog σ t_Joint c1 (c.Jts.map Jt.enc)
  sigs : At Try.prog σ t_Signal c2 (c.Sigs.map Sg.enc)
  xs : At Try.prog σ t_int c3 (c.Xs.map encI)
  rts : RtsAt Try.prog t_Route t_Step t_Need t_int σ c4 c.Rts
abbrev cfA (c0 c1 c2 c3 c4 : D) (c : Cf) : A := .agg [c0, c1, c2, c3, c4, iD c.Age, iD c.Brake, iD c.Hold, iD c.Budget]
abbrev rtA (d1 d2 d3 : D) (r : Rt) : A := .agg [iD r.Entry, iD r.Exit, d1, d2, d3, .bool r.Shunt]
section
variable {c0 c1 c2 c3 c4 : D} {c : Cf} (h : CfAt σ c0 c1 c2 c3 c4 c)
include h
theorem plan_section_ok (s : Int) : Pure Try.prog n_conf_plan_section [cfA c0 c1 c2 c3 c4 c, iA s] σ (secRV (geti c.Secs s)) := by
  refine W_conf_plan_section _ _ _ _ _ _ _ _ _ s σ _ (bcd (fun h1 => ⟨by rw [geti_neg h1]; rfl, rfl⟩) (fun h1 => h.secs.lenK (bcd (fun h2 => ⟨by rw [List.length_map] at h2; rw [geti_ge h2]; rfl, rfl⟩) (fun h2 => ?_))))
  rw [List.length_map] at h2
  obtain ⟨x, hx⟩ := get_of_lt (l := c.Secs) (j := s.toNat) (by omega)
  refine h.secs.load (map_get hx) c_Section (by omega) ⟨x.Kind, x.OC, x.Line, rfl, ?_, rfl⟩
  have : geti c.Secs s = some x := by unfold geti; rw [if_neg h1, hx]
  rw [this]; rfl
theorem plan_signal_ok (s : Int) : Pure Try.prog n_conf_plan_signal [cfA c0 c1 c2 c3 c4 c, iA s] σ (sgRV (geti c.Sigs s)) := by
  refine W_conf_plan_signal _ _ _ _ _ _ _ _ _ s σ _ (bcd (fun h1 => ⟨by rw [geti_neg h1]; rfl, rfl⟩) (fun h1 => h.sigs.lenK (bcd (fun h2 => ⟨by rw [List.length_map] at h2; rw [geti_ge h2]; rfl, rfl⟩) (fun h2 => ?_))))
  rw [List.length_map] at h2
  obtain ⟨x, hx⟩ := get_of_lt (l := c.Sigs) (j := s.toNat) (by omega)
  refine h.sigs.load (map_get hx) c_Signal (by omega) ⟨x.Sec, x.End_, rfl, ?_, rfl⟩
  have : geti c.Sigs s = some x := by unfold geti; rw [if_neg h1, hx]
  rw [this]; rfl
theorem plan_approach_ok (r : Rt) (d1 d2 d3 : D) : Pure Try.prog n_conf_plan_approach [cfA c0 c1 c2 c3 c4 c, rtA d1 d2 d3 r] σ (.a (iA (c.approach r))) := by
  refine W_conf_plan_approach _ _ _ _ _ _ _ _ _ _ _ d1 d2 d3 _ σ _ ((plan_signal_ok h r.Entry).use ?_)
  cases hg : geti c.Sigs r.Entry with
  | none => exact ⟨0, 0, false, rfl, by simp [Cf.approach, hg], rfl⟩
  | some x => exact ⟨x.Sec, x.End_, true, rfl, by simp [Cf.approach, hg], rfl⟩
theorem rts_get {i : Nat} {r : Rt} (hr : c.Rts[i]? = some r) : ∃ rows, At Try.prog σ t_Route c4 rows ∧ rows.length = c.Rts.length ∧ ∃ d1 d2 d3, rows[i]? = some [iD r.Entry, iD r.Exit, d1, d2, d3, .bool r.Shunt] ∧ At Try.prog σ t_Step d1 (r.Path.map St.enc) ∧ At Try.prog σ t_Need d2 (r.Flank.map Nd.enc) ∧ At Try.prog σ t_int d3 (r.Overlap.map encI) := by
  obtain ⟨rows, h1, h2, h3⟩ := h.rts
  have hlt := (List.getElem?_eq_some_iff.1 hr).1
  obtain ⟨row, hrow⟩ := get_of_lt (l := rows) (j := i) (by omega)
  obtain ⟨d1, d2, d3, rfl, q1, q2, q3⟩ := h3 i row r hrow hr
  exact ⟨rows, h1, h2, d1, d2, d3, hrow, q1, q2, q3⟩
theorem rts_len : ∃ rows, At Try.prog σ t_Route c4 rows ∧ rows.length = c.Rts.length := by
  obtain ⟨rows, h1, h2, h3⟩ := h.rts
  exact ⟨rows, h1, h2⟩
theorem conf_Approach_ok (i : Int) : Pure Try.prog n_conf_Approach [cfA c0 c1 c2 c3 c4 c, iA i] σ (.a (iA (c.Approach i))) := by
  obtain ⟨rows, hr, hl⟩ := rts_len h
  refine W_conf_Approach _ _ _ _ _ _ _ _ _ i σ _ (bcd (fun h1 => ⟨by rw [Cf.Approach, geti_neg h1]; rfl, rfl⟩) (fun h1 => hr.lenK (bcd (fun h2 => ⟨by rw [hl] at h2; rw [Cf.Approach, geti_ge h2]; rfl, rfl⟩) (fun h2 => ?_))))
  rw [hl] at h2
  obtain ⟨x, hx⟩ := get_of_lt (l := c.Rts) (j := i.toNat) (by omega)
  obtain ⟨rows', hr', _, d1, d2, d3, hrow, _⟩ := rts_get h hx
  refine hr'.load hrow c_Route (by omega) ⟨_, _, d1, d2, d3, _, rfl, (plan_approach_ok h x d1 d2 d3).use ⟨_, rfl, ?_, rfl⟩⟩
  have : geti c.Rts i = some x := by unfold geti; rw [if_neg h1, hx]
  rw [Cf.Approach, this]; rfl
end
/-- A call's own variable, captured. -/
theorem cap_fn {α : Type} {f1 : FuncId} {id : Nat} {t : TypeId} {n : Int} {arg : α → A} {l : List α} {p : α → Bool} (hs : σ id = .live t [[iD n]])
    (hf : ∀ x ∈ l, DCalls Try.prog f1 [arg x, .one (.el (.osl id 0 1) 0 0)] σ fun r s => r = .a (bA (p x)) ∧ s = σ) : FnIs Try.prog σ (.fn f1 [] [(false, [.el (.osl id 0 1) 0 0])]) arg l p :=
  ⟨f1, _, _, [], [.one (.el (.osl id 0 1) 0 0)], rfl, rfl, rfl, hf⟩
theorem box_row {id : Nat} {t : TypeId} {row : List D} (hs : σ id = .live t [row]) : Row σ (.osl id 0 1) 0 row := ⟨by omega, t, [row], hs, rfl⟩
theorem conf_has_ok {d : D} {path : List St} (s : Int) (h : At Try.prog σ t_Step d (path.map St.enc)) : Pure Try.prog n_conf_has [.one d, iA s] σ (.a (bA (hasSec path s))) := by
  refine .of (W_conf_has d s σ _ (newObj_intro fun id σ1 hid _ he hs => ?_)) (flat_b _)
  refine (ContainsFunc_Step_ok (p := fun x => x.Sec == s) (h.ext he) (cap_fn hs fun x _ => ?_)).use ⟨_, rfl, rfl, he⟩
  exact W_conf_has_1 x.Sec x.In x.Out _ σ1 _ ⟨_, _, _, rfl, _, box_row hs, s, rfl, rfl, rfl⟩
theorem hasNeed_ok {d : D} {l : List Nd} {id : Nat} {q : Int} (h : At Try.prog σ t_Need d (l.map Nd.enc)) (hs : σ id = .live t_int [[iD q]]) :
    Pure Try.prog n_slices_ContainsFunc_Need [.one d, .one (.fn n_conf_plan_flank_1 [] [(false, [.el (.osl id 0 1) 0 0])])] σ (.a (bA (l.any fun n => n.Sec == q))) :=
  ContainsFunc_Need_ok (p := fun x => x.Sec == q) h (cap_fn hs fun x _ => W_conf_plan_flank_1 x.Sec x.Pos _ σ _ ⟨_, _, _, rfl, _, box_row hs, q, rfl, rfl, rfl⟩)
end Go.Proofs.Yteflnjedfmmddaa
end
section
namespace Go.Fw
theorem opt2_ex (o : Option (Int × Int)) {K : Int → Int → Bool → Prop} (h : K (o.getD (0, 0)).1 (o.getD (0, 0)).2 o.isSome) : ∃ n m : Int, ∃ b : Bool, opt2 o = .tup [iA n, iA m, bA b] ∧ K n m b := by
  cases o with
  | none => exact ⟨0, 0, false, rfl, h⟩
  | some p => exact ⟨p.1, p.2, true, rfl, h⟩
theorem opt1_ex (o : Option Int) {K : Int → Bool → Prop} (h : K (o.getD 0) o.isSome) : ∃ n : Int, ∃ b : Bool, opt1 o = .tup [iA n, bA b] ∧ K n b := by
  cases o with
  | none => exact ⟨0, false, rfl, h⟩
  | some p => exact ⟨p, true, rfl, h⟩
theorem sec_ex (o : Option Sec) {K : Int → Int → Int → Bool → Prop} (h : K (o.getD ⟨0, 0, 0⟩).Kind (o.getD ⟨0, 0, 0⟩).OC (o.getD ⟨0, 0, 0⟩).Line o.isSome) : ∃ n m k : Int, ∃ b : Bool, secRV o = .tup [.agg [iD n, iD m, iD k], bA b] ∧ K n m k b := by
  cases o with
  | none => exact ⟨0, 0, 0, false, rfl, h⟩
  | some p => exact ⟨p.Kind, p.OC, p.Line, true, rfl, h⟩
theorem sg_ex (o : Option Sg) {K : Int → Int → Bool → Prop} (h : K (o.getD ⟨0, 0⟩).Sec (o.getD ⟨0, 0⟩).End_ o.isSome) : ∃ n m : Int, ∃ b : Bool, sgRV o = .tup [.agg [iD n, iD m], bA b] ∧ K n m b := by
  cases o with
  | none => exact ⟨0, 0, false, rfl, h⟩
  | some p => exact ⟨p.Sec, p.End_, true, rfl, h⟩
/-- A path's steps, from a place on: exit's place, what stands where, is it a shunt route. -/
def pstep (c : Cf) (r : Rt) (ex : Option Sg) (a : Sg) (s : St) (last : Bool) (seen : List Int) : Bool :=
  match nxt c.Jts a.Sec a.End_ with
  | none => false
  | some (q, i) => decide (q = s.Sec) && decide (i = s.In) && (wpos (wayL ((geti c.Secs q).getD ⟨0, 0, 0⟩).Kind) s.In s.Out).isSome && decide (q ∉ seen) &&
      (!(c.Sigs.any fun x => decide (⟨s.Sec, s.Out⟩ = x)) || (last && decide (ex = some ⟨s.Sec, s.Out⟩))) && !(r.Shunt && decide (((geti c.Secs q).getD ⟨0, 0, 0⟩).Line ≠ 0))
def prunA (c : Cf) (r : Rt) (ex : Option Sg) : List St → Sg → List Int → Bool
  | [], a, _ => match ex with
    | some x => decide (a = x)
    | none => !(nxt c.Jts a.Sec a.End_).isSome
  | s :: rest, a, seen => pstep c r ex a s rest.isEmpty seen && prunA c r ex rest ⟨s.Sec, s.Out⟩ (s.Sec :: seen)
def Cf.path (c : Cf) (r : Rt) : Bool :=
  match geti c.Sigs r.Entry with
  | none => false
  | some a => (decide (r.Exit = -1) || (geti c.Sigs r.Exit).isSome) && decide (1 ≤ r.Path.length ∧ r.Path.length ≤ 8) && prunA c r (geti c.Sigs r.Exit) r.Path a [a.Sec]
def Cf.route (c : Cf) (r : Rt) : Int :=
  if c.path r = false then 9 else if r.Flank ≠ c.flank (c.approach r) r.Path then 10 else if r.Overlap ≠ c.overlap r then 11 else 0
def Cf.routes (c : Cf) : List Rt → Int
  | [] => 0
  | r :: l => if c.route r ≠ 0 then c.route r else c.routes l
def Cf.timing (c : Cf) : Bool :=
  decide (1 ≤ c.Age ∧ c.Age ≤ 8) && decide (0 ≤ c.Brake ∧ c.Brake ≤ 8) && decide (c.Age + c.Brake + 1 ≤ c.Hold ∧ c.Hold ≤ 40) && decide (1 ≤ c.Budget ∧ c.Budget ≤ 1000000)
def Cf.check (c : Cf) : Int :=
  if topoOk c.Secs c.Jts = false then 6 else if c.sigsOk = false then 7 else if c.xsOk = false then 8 else if c.Rts.length > 12 then 9
  else if c.routes c.Rts ≠ 0 then c.routes c.Rts else if c.timing = true then 0 else 12
theorem Rows.det {P : Program} {s s' : Store} {el : TypeId} {d : D} {rs rs' : List (List D)} (h : Rows P s el d rs) (h' : Rows P s' el d rs') (hd : ∀ id i len, d ≠ .osl id i len) : rs = rs' := by
  cases d <;> simp only [Rows] at h h' <;> try exact h.elim
  · rw [h, h']
  · rw [h, h']
  · rw [h.1, h'.1]
  · exact absurd rfl (hd _ _ _)
theorem froz_plain {P : Program} {el : TypeId} {d : D} (h : ∀ s, ∃ rs, Rows P s el d rs) : ∀ id i len, d ≠ .osl id i len := by
  rintro id i len rfl
  obtain ⟨rs, t, rows, h1, _⟩ := h fun _ => .free
  cases h1
/-- Routes that lie nowhere in the store. -/
theorem rts_froz {P : Program} {tR tS tN tI : TypeId} {d : D} {l : List Rt} (h : ∀ s, RtsAt P tR tS tN tI s d l) :
    ∃ rows, (∀ s, At P s tR d rows) ∧ rows.length = l.length ∧ ∀ (i : Nat) row r, rows[i]? = some row → l[i]? = some r →
      ∃ d1 d2 d3, row = [iD r.Entry, iD r.Exit, d1, d2, d3, .bool r.Shunt] ∧ (∀ s, At P s tS d1 (r.Path.map St.enc)) ∧ (∀ s, At P s tN d2 (r.Flank.map Nd.enc)) ∧ (∀ s, At P s tI d3 (r.Overlap.map encI)) := by
  have hp := froz_plain (P := P) (el := tR) (d := d) fun s => by
    obtain ⟨rows, h1, _⟩ := h s
    exact ⟨rows, h1.rows⟩
  obtain ⟨rows, h1, h2, h3⟩ := h fun _ => .free
  have hall : ∀ s, At P s tR d rows ∧ ∀ (i : Nat) row r, rows[i]? = some row → l[i]? = some r → RtAt P tS tN tI s row r := fun s => by
    obtain ⟨rows', q1, q2, q3⟩ := h s
    have e := q1.rows.det h1.rows hp
    subst e
    exact ⟨q1, q3⟩
  refine ⟨rows, fun s => (hall s).1, h2, fun i row r hi hr => ?_⟩
  obtain ⟨d1, d2, d3, rfl, _⟩ := h3 i row r hi hr
  refine ⟨d1, d2, d3, rfl, fun s => ?_, fun s => ?_, fun s => ?_⟩ <;>
  · obtain ⟨e1, e2, e3, he, q1, q2, q3⟩ := (hall s).2 i _ r hi hr
    injection he with _ he; injection he with _ he; injection he with a1 he; injection he with a2 he; injection he with a3 he
    subst a1 a2 a3
    assumption
end Go.Fw
end
section
set_option linter.unusedVariables false
set_option linter.unusedSimpArgs false
namespace Go.Proofs.Yteflnjedfmmddaa
open Go.Fw Go.Proofs Go.RowKit
variable {σ : Store}
abbrev encSg (p : Sg) : A := .agg [iD p.Sec, iD p.End_]
theorem keys_sg : Keys Try.prog t_Signal encSg := by
  refine ⟨fun x => ?_, fun x y => ?_⟩
  · have : ∀ a b : Int, keyOk Try.prog t_Signal (.agg [iD a, iD b]) = true := fun a b => by kernel_rfl
    exact this _ _
  · cases x; cases y; simp [eqA, eqCells, aCells, eqCell]
theorem conf_between_ok (n lo hi : Int) : Pure Try.prog n_conf_between [iA n, iA lo, iA hi] σ (.a (bA (decide (lo ≤ n ∧ n ≤ hi)))) := by
  refine W_conf_between n lo hi σ _ (bcd (fun h => ⟨?_, rfl⟩) (fun h => ⟨?_, rfl⟩)) <;> simp [h]
section
variable {c0 c1 c2 c3 c4 : D} {c : Cf} (h : ∀ s, CfAt s c0 c1 c2 c3 c4 c)
include h
theorem plan_signals_ok : Pure Try.prog n_conf_plan_signals [cfA c0 c1 c2 c3 c4 c] σ (.a (bA c.sigsOk)) := by
  have hl := (h σ).sigs.size
  rw [List.length_map] at hl
  refine .of (W_conf_plan_signals _ _ _ _ _ _ _ _ _ σ _ ?_) (flat_b _)
  refine newObj_intro fun id σ1 hid _ he hs => (h σ1).sigs.lenK ⟨fun n s => ∃ seen f, MapAt Try.prog t_Signal encSg s id f ∧ (∀ z, f z = if z ∈ seen then some (iA 1) else none) ∧ Ext σ s ∧ Rng c.Sigs (fun r => sgrun c.Jts r seen = sgrun c.Jts c.Sigs []) n,
    fun n _ => c.Sigs.length - n.toNat, ⟨[], _, .new hs, fun z => by simp, he, .start rfl⟩, ?_⟩
  rintro n s ⟨seen, f, hm, hf, hes, hr⟩
  refine bcd (fun hlt => ?_) (fun hge => ?_)
  · obtain ⟨j, x, rfl, hx, hj, hF, nx⟩ := hr.step (by simp) hl hlt
    refine (h s).sigs.load (map_get hx) c_Signal rfl ⟨x.Sec, x.End_, rfl, (topo_Next_ok x.Sec x.End_ (h s).jts).use (opt2_ex _ ?_)⟩
    rw [sgrun] at hF
    have key : ∀ k : Int, f x = (if x ∈ seen then some (iA 1) else none) → ((f x).getD (iA 0) = iA (if x ∈ seen then 1 else 0)) := fun k e => by
      rw [e]; split <;> rfl
    refine hm.lookI keys_sg x (key 0 (hf x)) (hm.bump keys_sg x fun s' f' hm' hf' hfx hs' hne => ?_)
    have hes' : Ext σ s' := fun i hi => by
      rw [hs' i (fun e => hi (by rw [e]; exact hid))]; exact hes i hi
    refine bcnot (fun hb => ?_) (fun hb => ?_)
    · rw [if_neg (by rw [hb]; simp)] at hF
      exact ⟨by simp [Cf.sigsOk, ← hF], hes'⟩
    · refine hm'.lookI keys_sg x (by rw [hfx]; rfl) (bcd (fun h2 => ?_) (fun h2 => ?_))
      · have hin : x ∈ seen := by
          by_cases hin : x ∈ seen
          · exact hin
          · rw [if_neg hin] at h2; exact absurd h2 (by decide)
        rw [if_neg (by simp [hin])] at hF
        exact ⟨by simp [Cf.sigsOk, ← hF], hes'⟩
      · have hin : x ∉ seen := fun hin => h2 (by rw [if_pos hin]; decide)
        rw [if_pos ⟨hb, hin⟩] at hF
        have hn := nx (fun r => sgrun c.Jts r (x :: seen) = sgrun c.Jts c.Sigs []) hF
        refine ⟨⟨x :: seen, f', hm', fun z => ?_, hes', hn.1⟩, hn.2⟩
        by_cases hz : z = x
        · subst hz; rw [hfx, if_neg hin]; simp; rfl
        · rw [hf' z hz, hf]; simp [hz]
  · have hF := hr.done (by simp) hge
    rw [sgrun] at hF
    refine (h s).sigs.lenK ⟨?_, hes⟩
    rw [Cf.sigsOk, ← hF, List.length_map, Bool.true_and]
    congr 4; simp; omega
theorem plan_crossings_ok : Pure Try.prog n_conf_plan_crossings [cfA c0 c1 c2 c3 c4 c] σ (.a (bA c.xsOk)) := by
  have hl := (h σ).xs.size
  rw [List.length_map] at hl
  refine .of (W_conf_plan_crossings _ _ _ _ _ _ _ _ _ σ _ ?_) (flat_b _)
  refine newObj_intro fun id σ1 hid _ he hs => (h σ1).xs.lenK ⟨fun n s => ∃ seen f, MapAt Try.prog t_int iA s id f ∧ (∀ z, f z = if z ∈ seen then some (iA 1) else none) ∧ Ext σ s ∧ Rng c.Xs (fun r => xrun c.Secs r seen = xrun c.Secs c.Xs []) n,
    fun n _ => c.Xs.length - n.toNat, ⟨[], _, .new hs, fun z => by simp, he, .start rfl⟩, ?_⟩
  rintro n s ⟨seen, f, hm, hf, hes, hr⟩
  refine bcd (fun hlt => ?_) (fun hge => ?_)
  · obtain ⟨j, x, rfl, hx, hj, hF, nx⟩ := hr.step (by simp) hl hlt
    refine (h s).xs.load (map_get hx) c_int rfl ⟨x, rfl, (plan_section_ok (h s) x).use (sec_ex _ ?_)⟩
    rw [xrun] at hF
    have key : (f x).getD (iA 0) = iA (if x ∈ seen then 1 else 0) := by
      rw [hf]; split <;> rfl
    refine hm.lookI keysI x key (hm.put keysI x fun s' f' hm' hf' hfx hs' hne => ?_)
    have hes' : Ext σ s' := fun i hi => by
      rw [hs' i (fun e => hi (by rw [e]; exact hid))]; exact hes i hi
    refine bcnot (fun hb => ?_) (fun hb => ?_)
    · cases hg : geti c.Secs x with
      | some y => rw [hg] at hb; cases hb
      | none =>
        rw [hg] at hF
        exact ⟨by simp [Cf.xsOk, ← hF], hes'⟩
    · obtain ⟨y, hg⟩ := Option.isSome_iff_exists.1 hb
      rw [hg] at hF
      simp only [hg, Option.getD_some] at hF ⊢
      refine bcn (fun h3 => ?_) (fun h3 => ?_)
      · rw [if_neg (by simp [h3])] at hF
        exact ⟨by simp [Cf.xsOk, ← hF], hes'⟩
      refine hm'.lookI keysI x (by rw [hfx]; rfl) (bcd (fun h2 => ?_) (fun h2 => ?_))
      · have hin : x ∈ seen := by
          by_cases hin : x ∈ seen
          · exact hin
          · rw [if_neg hin] at h2; exact absurd h2 (by decide)
        rw [if_neg (by simp [hin])] at hF
        exact ⟨by simp [Cf.xsOk, ← hF], hes'⟩
      · have hin : x ∉ seen := fun hin => h2 (by rw [if_pos hin]; decide)
        rw [if_pos ⟨h3, hin⟩] at hF
        have hn := nx (fun r => xrun c.Secs r (x :: seen) = xrun c.Secs c.Xs []) hF
        refine ⟨⟨x :: seen, f', hm', fun z => ?_, hes', hn.1⟩, hn.2⟩
        by_cases hz : z = x
        · subst hz; rw [hfx, if_neg hin]; simp; rfl
        · rw [hf' z hz, hf]; simp [hz]
  · have hF := hr.done (by simp) hge
    rw [xrun] at hF
    refine (h s).xs.lenK ⟨?_, hes⟩
    rw [Cf.xsOk, ← hF, List.length_map, Bool.true_and]
    congr 4; simp; omega
end
end Go.Proofs.Yteflnjedfmmddaa
end
section
set_option linter.unusedVariables false
set_option linter.unusedSimpArgs false
namespace Go.Proofs.Yteflnjedfmmddaa
open Go.Fw Go.Proofs Go.RowKit
variable {σ : Store}
/-- A call hands back a list that lies nowhere in the store, and leaves the store. -/
def SlPost (σ : Store) (t : TypeId) (rows : List (List D)) (r : RV) (σ' : Store) : Prop := σ' = σ ∧ ∃ d, r = .a (.one d) ∧ ∀ s, At Try.prog s t d rows
theorem own_fin {t : TypeId} {d : D} {rows : List (List D)} {s : Store} (h : Own Try.prog σ s t d rows) (hf : ∀ row ∈ rows, ∀ x ∈ row, Flat x) :
    ∃ r' σ', Ret Try.prog σ s (.a (.one d)) σ' r' ∧ SlPost σ t rows r' σ' := by
  obtain ⟨d', h1, h2⟩ := ret_slice h.at_ h.ext h.new hf
  exact ⟨.a (.one d'), σ, .pure h.ext h1, rfl, d', rfl, h2⟩
theorem flatNd (l : List Nd) : ∀ row ∈ l.map Nd.enc, ∀ x ∈ row, Flat x := by
  intro row hrow x hx
  obtain ⟨w, _, rfl⟩ := List.mem_map.1 hrow
  simp [Nd.enc] at hx
  rcases hx with rfl | rfl <;> exact .int _ _
theorem flatI (l : List Int) : ∀ row ∈ l.map encI, ∀ x ∈ row, Flat x := by
  intro row hrow x hx
  obtain ⟨w, _, rfl⟩ := List.mem_map.1 hrow
  simp [encI] at hx
  subst hx; exact .int _ _
theorem box_store {s : Store} {id : Nat} {t : TypeId} {x y : D} {K : Store → Prop} (hs : s id = .live t [[x]]) (hK : ∀ s', s' id = .live t [[y]] → (∀ i, i ≠ id → s' i = s i) → K s') : storeEl [y] s (.osl id 0 1) 0 0 K :=
  ⟨id, 0, 1, t, [[x]], [x], rfl, by omega, hs, rfl, by simp, hK _ (Store.set_same _ _ _) fun i hi => Store.set_ne _ _ hi⟩
section
variable {c0 c1 c2 c3 c4 : D} {c : Cf} (h : ∀ s, CfAt s c0 c1 c2 c3 c4 c)
include h
theorem plan_flank_ok (a : Int) {d : D} {path : List St} (hp : ∀ s, At Try.prog s t_Step d (path.map St.enc)) (hpl : path.length ≤ 2 ^ 20) :
    DCalls Try.prog n_conf_plan_flank [cfA c0 c1 c2 c3 c4 c, iA a, .one d] σ (SlPost σ t_Need ((c.flank a path).map Nd.enc)) := by
  have hl := (hp σ).size
  rw [List.length_map] at hl
  refine (W_conf_plan_flank _ _ _ _ _ _ _ _ _ a d σ _ ?_).ret (Q := fun r s => ∃ r' σ', Ret Try.prog σ s r σ' r' ∧ SlPost σ t_Need ((c.flank a path).map Nd.enc) r' σ') (fun r s h => h)
  refine (hp σ).lenK ⟨fun d n s => ∃ out : List Nd, Own Try.prog σ s t_Need d (out.map Nd.enc) ∧ out.length ≤ 4 * n.toNat ∧ Rng path (fun r => flankRun c a path r out = c.flank a path) n, fun _ n _ => path.length - n.toNat,
    ⟨[], .nil _ (.refl _), by simp, .start rfl⟩, ?_⟩
  rintro d1 n s ⟨out, ho, hol, hr⟩
  refine bcd (fun hlt => ?_) (fun hge => ?_)
  · obtain ⟨j, x, rfl, hx, hj, hF, nx⟩ := hr.step (by simp) hl hlt
    refine (hp s).load (map_get hx) c_Step rfl ⟨x.Sec, x.In, x.Out, rfl, (plan_section_ok (h s) x.Sec).use (sec_ex _ ?_)⟩
    rw [flankRun] at hF
    refine bcnot (fun hb => ?_) (fun hb => ?_)
    · cases hg : geti c.Secs x.Sec with
      | some y => rw [hg] at hb; cases hb
      | none =>
        rw [hg] at hF
        have hn := nx (fun r => flankRun c a path r out = c.flank a path) hF
        exact ⟨⟨out, ho, by rw [w64_succ (by omega)]; omega, hn.1⟩, hn.2⟩
    · obtain ⟨y, hg⟩ := Option.isSome_iff_exists.1 hb
      rw [hg] at hF
      simp only [hg, Option.getD_some] at hF ⊢
      refine (topo_Ends_ok _).use ⟨_, rfl, ?_⟩
      have hne := nends_le y.Kind
      refine ⟨fun d m s' => ∃ out' : List Nd, Own Try.prog σ s' t_Need d (out'.map Nd.enc) ∧ 0 ≤ m ∧ m ≤ nends y.Kind ∧ out'.length ≤ 4 * j + m.toNat ∧ flankEnds c a path x (nends y.Kind - m).toNat m out' = flankEnds c a path x (nends y.Kind).toNat 0 out,
        fun _ m _ => (nends y.Kind - m).toNat, ⟨out, ho, by omega, hne.1, by simp at hol ⊢; omega, by rw [Int.sub_zero]⟩, ?_⟩
      rintro d2 m s' ⟨out', ho', hm0, hm1, hol', hE⟩
      refine bcd (fun hlt' => ?_) (fun hge' => ?_)
      · have hw : w64 (m + 1) = m + 1 := w64_id (by omega) (by omega)
        have hk : (nends y.Kind - m).toNat = (nends y.Kind - (m + 1)).toNat + 1 := by omega
        rw [hk, flankEnds] at hE
        have leaf : ∀ (out2 : List Nd) (d3 : D) (s2 : Store), flankStep c a path x out' m = out2 → Own Try.prog σ s2 t_Need d3 (out2.map Nd.enc) →
            (∃ out' : List Nd, Own Try.prog σ s2 t_Need d3 (out'.map Nd.enc) ∧ 0 ≤ w64 (m + 1) ∧ w64 (m + 1) ≤ nends y.Kind ∧ out'.length ≤ 4 * j + (w64 (m + 1)).toNat ∧ flankEnds c a path x (nends y.Kind - w64 (m + 1)).toNat (w64 (m + 1)) out' = flankEnds c a path x (nends y.Kind).toNat 0 out) ∧
            (nends y.Kind - w64 (m + 1)).toNat < (nends y.Kind - m).toNat := by
          intro out2 d3 s2 h1 h2
          have hlen := (flankStep_len c a path x out' m).2
          rw [hw]
          refine ⟨⟨out2, h2, by omega, by omega, by rw [← h1]; omega, by rw [← h1]; exact hE⟩, by omega⟩
        intro R hR
        refine bce (fun h1 => ⟨trivial, leaf out' d2 s' (by rw [flankStep, if_pos (.inl h1)]) ho'⟩) (fun h1 => bce (fun h2 => ⟨trivial, leaf out' d2 s' (by rw [flankStep, if_pos (.inr h2)]) ho'⟩) (fun h2 => ⟨trivial, hR s' ?_⟩))
        have hst : flankStep c a path x out' m = match nxt c.Jts x.Sec m with
          | none => out'
          | some (q, f) => match geti c.Secs q with
            | none => out'
            | some y => if y.Kind = 1 ∧ (1 ≤ f ∧ f ≤ 2) ∧ q ≠ a ∧ hasSec path q = false ∧ (out'.any fun n => n.Sec == q) = false then out' ++ [⟨q, 3 - f⟩] else out' := by
          rw [flankStep, if_neg (by rintro (e | e); exact h1 e; exact h2 e)] <;> rfl
        refine (topo_Next_ok x.Sec m (h s').jts).use (opt2_ex _ ?_)
        generalize nxt c.Jts x.Sec m = o at hst
        refine newObj_intro fun id s2 hid _ he hs2 => box_store hs2 fun s3 hs3 hs3' => ?_
        have he3 : Ext s' s3 := fun i hi => by
          rw [hs3' i (fun e => hi (by rw [e]; exact hid))]; exact he i hi
        have ho3 := ho'.ext' he3
        refine ⟨_, box_row hs3, _, rfl, (plan_section_ok (h s3) _).use (sec_ex _ ?_)⟩
        intro R1 hR1
        refine bcnot (fun hb1 => ?_) (fun hb1 => ?_)
        · cases o with
          | some p => cases hb1
          | none => exact ⟨trivial, leaf out' d2 s3 hst ho3⟩
        obtain ⟨⟨q, f⟩, rfl⟩ := Option.isSome_iff_exists.1 hb1
        simp only [Option.getD_some] at hst hR1 hs3 ⊢
        refine bcnot (fun hb2 => ?_) (fun hb2 => ?_)
        · cases hg2 : geti c.Secs q with
          | some p => rw [hg2] at hb2; cases hb2
          | none => rw [hg2] at hst; exact ⟨trivial, leaf out' d2 s3 hst ho3⟩
        obtain ⟨y2, hg2⟩ := Option.isSome_iff_exists.1 hb2
        rw [hg2] at hst
        simp only [hg2, Option.getD_some] at hst ⊢
        have no : ¬ (y2.Kind = 1 ∧ (1 ≤ f ∧ f ≤ 2) ∧ q ≠ a ∧ hasSec path q = false ∧ (out'.any fun n => n.Sec == q) = false) → flankStep c a path x out' m = out' := fun hn => by rw [hst, if_neg hn]
        refine bcn (fun h3 => ⟨trivial, leaf out' d2 s3 (no fun h => h3 h.1) ho3⟩) (fun h3 => ?_)
        refine bcd (fun h4 => ⟨trivial, leaf out' d2 s3 (no fun h => by omega) ho3⟩) (fun h4 => ?_)
        refine bcd (fun h5 => ⟨trivial, leaf out' d2 s3 (no fun h => by omega) ho3⟩) (fun h5 => ?_)
        refine ⟨_, box_row hs3, q, rfl, bce (fun h6 => ⟨trivial, leaf out' d2 s3 (no fun h => h.2.2.1 h6) ho3⟩) (fun h6 => ?_)⟩
        refine ⟨_, box_row hs3, q, rfl, (conf_has_ok q (hp s3)).use ⟨_, rfl, bc (fun h7 => ⟨trivial, leaf out' d2 s3 (no fun h => by rw [h.2.2.2.1] at h7; cases h7) ho3⟩) (fun h7 => ?_)⟩⟩
        refine (hasNeed_ok ho3.at_ hs3).use ⟨_, rfl, bc (fun h8 => ⟨trivial, leaf out' d2 s3 (no fun h => by rw [h.2.2.2.2] at h8; cases h8) ho3⟩) (fun h8 => ⟨trivial, hR1 s3 ?_⟩)⟩
        refine ⟨_, box_row hs3, q, rfl, newObj_intro fun id1 s4 hid1 _ he4 hs4 => ?_⟩
        have hw2 : w64 (3 - f) = 3 - f := w64_id (by omega) (by omega)
        have ho4 := ho3.ext' he4
        refine ho4.append (At.fresh hs4 (by simp) rfl) (by simp; omega) (by simp; omega) fun d4 s5 ho5 _ _ => ⟨trivial, leaf (out' ++ [⟨q, 3 - f⟩]) d4 s5 (by rw [hst, if_pos ⟨h3, ⟨by omega, by omega⟩, h6, h7, h8⟩]) ?_⟩
        rw [hw2] at ho5
        rw [List.map_append]
        exact ho5
      · have hz : (nends y.Kind - m).toNat = 0 := by omega
        rw [hz, flankEnds] at hE
        rw [← hE] at hF
        have hn := nx (fun r => flankRun c a path r out' = c.flank a path) hF
        exact ⟨⟨out', ho', by rw [w64_succ (by omega)]; omega, hn.1⟩, hn.2⟩
  · have hF := hr.done (by simp) hge
    rw [flankRun] at hF
    rw [← hF]
    exact own_fin ho (flatNd _)
theorem plan_overlap_ok (r : Rt) {d1 d2 d3 : D} (hp : ∀ s, At Try.prog s t_Step d1 (r.Path.map St.enc)) :
    DCalls Try.prog n_conf_plan_overlap [cfA c0 c1 c2 c3 c4 c, rtA d1 d2 d3 r] σ (SlPost σ t_int ((c.overlap r).map encI)) := by
  refine (W_conf_plan_overlap _ _ _ _ _ _ _ _ _ _ _ d1 d2 d3 _ σ _ ?_).ret (Q := fun r' s => ∃ r'' σ', Ret Try.prog σ s r' σ' r'' ∧ SlPost σ t_int ((c.overlap r).map encI) r'' σ') (fun r s h => h)
  refine (plan_signal_ok (h σ) _).use (sg_ex _ ?_)
  intro R hR
  have nil : c.overlap r = [] → ∃ r'' σ', Ret Try.prog σ σ (.a (.one .nils)) σ' r'' ∧ SlPost σ t_int ((c.overlap r).map encI) r'' σ' := fun e => by
    rw [e]; exact own_fin (.nil _ (.refl _)) (flatI _)
  refine bc (fun h1 => nil (by rw [Cf.overlap, if_pos h1])) (fun h1 => bcnot (fun h2 => nil ?_) (fun h2 => ⟨rfl, hR σ ?_⟩))
  · rw [Cf.overlap, if_neg (by rw [h1]; simp)]
    cases hg : geti c.Sigs r.Exit with
    | none => rfl
    | some x => rw [hg] at h2; cases h2
  obtain ⟨x, hg⟩ := Option.isSome_iff_exists.1 h2
  simp only [hg, Option.getD_some] at hR ⊢
  have hov : c.overlap r = match nxt c.Jts x.Sec x.End_ with
    | none => []
    | some (q, _) => match geti c.Secs q with
      | none => []
      | some y => if y.Line = 0 ∧ hasSec r.Path q = false ∧ q ≠ c.approach r then [q] else [] := by
    rw [Cf.overlap, if_neg (by rw [h1]; simp), hg] <;> rfl
  refine (topo_Next_ok _ _ (h σ).jts).use (opt2_ex _ ((plan_section_ok (h σ) _).use (sec_ex _ ?_)))
  generalize nxt c.Jts x.Sec x.End_ = o at hov
  refine bcnot (fun hb1 => nil ?_) (fun hb1 => ?_)
  · cases o with
    | none => exact hov
    | some p => cases hb1
  obtain ⟨⟨q, f⟩, rfl⟩ := Option.isSome_iff_exists.1 hb1
  simp only [Option.getD_some] at hov ⊢
  refine bcnot (fun hb2 => nil ?_) (fun hb2 => ?_)
  · cases hg2 : geti c.Secs q with
    | none => rw [hg2] at hov; exact hov
    | some p => rw [hg2] at hb2; cases hb2
  obtain ⟨y, hg2⟩ := Option.isSome_iff_exists.1 hb2
  simp only [hg2, Option.getD_some] at hov ⊢
  have no : ¬ (y.Line = 0 ∧ hasSec r.Path q = false ∧ q ≠ c.approach r) → c.overlap r = [] := fun hn => by rw [hov, if_neg hn]
  refine bcn (fun h3 => nil (no fun h => h3 h.1)) (fun h3 => (conf_has_ok q (hp σ)).use ⟨_, rfl, bc (fun h4 => nil (no fun h => by rw [h.2.1] at h4; cases h4)) (fun h4 => (plan_approach_ok (h σ) r d1 d2 d3).use ⟨_, rfl, bce (fun h5 => nil (no fun h => h.2.2 h5)) (fun h5 => ?_)⟩)⟩)
  refine newObj_intro fun id s2 hid _ he hs2 => ?_
  rw [hov, if_pos ⟨h3, h4, h5⟩]
  exact own_fin ⟨At.fresh hs2 (by simp) rfl, he, osl_new hid, fun h => h, by intro e; cases e⟩ (flatI _)
end
end Go.Proofs.Yteflnjedfmmddaa
end
section
set_option linter.unusedVariables false
set_option linter.unusedSimpArgs false
namespace Go.Proofs.Yteflnjedfmmddaa
open Go.Fw Go.Proofs Go.RowKit
variable {σ : Store}
section
variable {c0 c1 c2 c3 c4 : D} {c : Cf} (h : ∀ s, CfAt s c0 c1 c2 c3 c4 c)
include h
theorem plan_path_ok (r : Rt) {d1 d2 d3 : D} (hp : ∀ s, At Try.prog s t_Step d1 (r.Path.map St.enc)) :
    Pure Try.prog n_conf_plan_path [cfA c0 c1 c2 c3 c4 c, rtA d1 d2 d3 r] σ (.a (bA (c.path r))) := by
  have hl := (hp σ).size
  rw [List.length_map] at hl
  refine .of (W_conf_plan_path _ _ _ _ _ _ _ _ _ _ _ d1 d2 d3 _ σ _ ?_) (flat_b _)
  refine (plan_signal_ok (h σ) _).use (sg_ex _ ((plan_signal_ok (h σ) _).use (sg_ex _ ?_)))
  intro R hR
  refine bcnot (fun h1 => ?_) (fun h1 => ?_)
  · cases hg : geti c.Sigs r.Entry with
    | some x => rw [hg] at h1; cases h1
    | none => exact ⟨by rw [Cf.path, hg], .refl _⟩
  obtain ⟨a, hg⟩ := Option.isSome_iff_exists.1 h1
  have hpath : c.path r = ((decide (r.Exit = -1) || (geti c.Sigs r.Exit).isSome) && decide (1 ≤ r.Path.length ∧ r.Path.length ≤ 8) && prunA c r (geti c.Sigs r.Exit) r.Path a [a.Sec]) := by rw [Cf.path, hg]
  rw [hg, Option.getD_some] at hR
  generalize hex : geti c.Sigs r.Exit = ex at hpath hR
  have hlen : decide ((1 : Int) ≤ ((r.Path.map St.enc).length : Int) ∧ ((r.Path.map St.enc).length : Int) ≤ 8) = decide (1 ≤ r.Path.length ∧ r.Path.length ≤ 8) := by
    rw [List.length_map]; congr 1; apply propext; omega
  have hgo : decide (1 ≤ r.Path.length ∧ r.Path.length ≤ 8) = true → (decide (r.Exit = -1) || ex.isSome) = true → R σ := by
    intro hlen2 hexok
    rw [hlen2, hexok] at hpath
    simp only [Bool.true_and] at hpath
    refine hR σ (newObj_intro fun id s1 hid _ he1 hs1 => (MapAt.new hs1).put keysI a.Sec fun s2 f2 hm2 hf2 hfx2 hs2 hne2 => ?_)
    have he2 : Ext σ s2 := fun i hi => by
      rw [hs2 i (fun e => hi (by rw [e]; exact hid))]; exact he1 i hi
    refine (hp s2).lenK ⟨fun m e n s => ∃ seen f, MapAt Try.prog t_int iA s id f ∧ (∀ z, f z = if z ∈ seen then some (iA 1) else none) ∧ Ext σ s ∧ Rng r.Path (fun q => prunA c r ex q ⟨m, e⟩ seen = c.path r) n, fun _ _ n _ => r.Path.length - n.toNat,
      ⟨[a.Sec], f2, hm2, fun z => ?_, he2, .start hpath.symm⟩, ?_⟩
    · by_cases hz : z = a.Sec
      · subst hz; rw [hfx2]; simp
      · rw [hf2 z hz]; simp [hz]
    rintro m e n s ⟨seen, f, hm, hf, hes, hr⟩
    refine bcd (fun hlt => ?_) (fun hge => ?_)
    · obtain ⟨j, x, rfl, hx, hj, hF, nx⟩ := hr.step (by simp) hl hlt
      intro R1 hR1
      refine (hp s).load (map_get hx) c_Step rfl ⟨x.Sec, x.In, x.Out, rfl, (topo_Next_ok m e (h s).jts).use (opt2_ex _ ((plan_section_ok (h s) _).use (sec_ex _ ((topo_Pos_ok _ _ _).use (opt1_ex _ ?_)))))⟩
      rw [prunA] at hF
      have bad : pstep c r ex ⟨m, e⟩ x (r.Path.drop (j + 1)).isEmpty seen = false → ∀ s', Ext σ s' → (RV.a (.one (.bool false)) = .a (bA (c.path r)) ∧ Ext σ s') := fun hb s' he' => by
        rw [hb] at hF
        exact ⟨by rw [← hF]; rfl, he'⟩
      have good : pstep c r ex ⟨m, e⟩ x (r.Path.drop (j + 1)).isEmpty seen = true → ∀ s' f', MapAt Try.prog t_int iA s' id f' → (∀ z, f' z = if z ∈ x.Sec :: seen then some (iA 1) else none) → Ext σ s' → R1 x.Sec x.Out s' := fun hb s' f' hm' hf' he' => by
        rw [hb, Bool.true_and] at hF
        have hn := nx (fun q => prunA c r ex q ⟨x.Sec, x.Out⟩ (x.Sec :: seen) = c.path r) hF
        exact hR1 _ _ _ ⟨rfl, ⟨x.Sec :: seen, f', hm', hf', he', hn.1⟩, hn.2⟩
      have hst : pstep c r ex ⟨m, e⟩ x (r.Path.drop (j + 1)).isEmpty seen = match nxt c.Jts m e with
        | none => false
        | some (q, i) => decide (q = x.Sec) && decide (i = x.In) && (wpos (wayL ((geti c.Secs q).getD ⟨0, 0, 0⟩).Kind) x.In x.Out).isSome && decide (q ∉ seen) &&
          (!(c.Sigs.any fun y => decide (⟨x.Sec, x.Out⟩ = y)) || ((r.Path.drop (j + 1)).isEmpty && decide (ex = some ⟨x.Sec, x.Out⟩))) && !(r.Shunt && decide (((geti c.Secs q).getD ⟨0, 0, 0⟩).Line ≠ 0)) := rfl
      generalize nxt c.Jts m e = o at hst
      have key : (f (o.getD (0, 0)).1).getD (iA 0) = iA (if (o.getD (0, 0)).1 ∈ seen then 1 else 0) := by
        rw [hf]; split <;> rfl
      refine hm.lookI keysI _ key (hm.put keysI _ fun s' f' hm' hf' hfx hs' hne => ?_)
      have hes' : Ext σ s' := fun i hi => by
        rw [hs' i (fun e => hi (by rw [e]; exact hid))]; exact hes i hi
      refine (Contains_Signal_ok ⟨x.Sec, x.Out⟩ (h s').sigs).use ⟨_, rfl, ?_⟩
      intro R2 hR2
      have main : R2 ((r.Path.drop (j + 1)).isEmpty && decide (ex = some ⟨x.Sec, x.Out⟩)) s' := by
        refine hR2 _ _ (bcnot (fun k1 => bad ?_ s' hes') (fun k1 => ?_))
        · cases o with
          | none => exact hst
          | some p => cases k1
        obtain ⟨⟨q, i⟩, rfl⟩ := Option.isSome_iff_exists.1 k1
        simp only [Option.getD_some] at hst key hfx hf' ⊢
        refine bcn (fun k2 => bad (by rw [hst]; simp [k2]) s' hes') (fun k2 => ?_)
        refine bcn (fun k3 => bad (by rw [hst]; simp [k3]) s' hes') (fun k3 => ?_)
        refine bcnot (fun k4 => bad (by rw [hst, k4]; simp) s' hes') (fun k4 => ?_)
        refine hm'.lookI keysI q (by rw [hfx]; rfl) (bcd (fun k5 => ?_) (fun k5 => ?_))
        · have hin : q ∈ seen := by
            by_cases hin : q ∈ seen
            · exact hin
            · rw [if_neg hin] at k5; exact absurd k5 (by decide)
          exact bad (by rw [hst]; simp [hin]) s' hes'
        have hin : q ∉ seen := fun hin => k5 (by rw [if_pos hin]; decide)
        have hfin : pstep c r ex ⟨m, e⟩ x (r.Path.drop (j + 1)).isEmpty seen = true → R1 x.Sec x.Out s' := fun hb => good hb s' f' hm' (fun z => by
          by_cases hz : z = q
          · subst hz; rw [hfx, if_neg hin, k2]; simp; rfl
          · rw [hf' z hz, hf]; simp [k2 ▸ hz]) hes'
        have hpre : (decide (q = x.Sec) && decide (i = x.In) && (wpos (wayL ((geti c.Secs q).getD ⟨0, 0, 0⟩).Kind) x.In x.Out).isSome && decide (q ∉ seen)) = true := by
          rw [k4]; simp [k2, k3]; rw [← k2]; exact hin
        rw [hpre, Bool.true_and] at hst
        refine bc (fun k6 => bcnot (fun k7 => bad ?_ s' hes') (fun k7 => ?_)) (fun k6 => ?_)
        · rw [hst, k6, k7]; rfl
        · rw [k6, k7] at hst
          refine bc (fun k8 => bcn (fun k9 => bad ?_ s' hes') (fun k9 => ⟨trivial, hfin ?_⟩)) (fun k8 => ⟨trivial, hfin ?_⟩)
          · rw [hst, k8]; simp [k9]
          · rw [hst]; simp [k9]
          · rw [hst, k8]; rfl
        · rw [k6] at hst
          refine bc (fun k8 => bcn (fun k9 => bad ?_ s' hes') (fun k9 => ⟨trivial, hfin ?_⟩)) (fun k8 => ⟨trivial, hfin ?_⟩)
          · rw [hst, k8]; simp [k9]
          · rw [hst]; simp [k9]
          · rw [hst, k8]; rfl
      refine (hp s').lenK ?_
      have hw : w64 (((r.Path.map St.enc).length : Int) - 1) = (r.Path.length : Int) - 1 := by rw [List.length_map, w64_id (by omega) (by omega)]
      rw [hw]
      refine bce (fun q1 => bc (fun q2 => ⟨rfl, ?_⟩) (fun q2 => ⟨rfl, ?_⟩)) (fun q1 => ⟨rfl, ?_⟩)
      · have hemp : (r.Path.drop (j + 1)).isEmpty = true := by rw [drop_end (by omega)]; rfl
        obtain ⟨y, rfl⟩ := Option.isSome_iff_exists.1 q2
        rw [hemp, Bool.true_and] at main
        have hd : decide (some y = some (⟨x.Sec, x.Out⟩ : Sg)) = (x.Sec == y.Sec && x.Out == y.End_) := by
          cases y with
          | mk y1 y2 =>
            rw [Bool.eq_iff_iff]; simp
            exact ⟨fun ⟨a, b⟩ => ⟨a.symm, b.symm⟩, fun ⟨a, b⟩ => ⟨a.symm, b.symm⟩⟩
        rw [hd] at main
        exact main
      · have hd : ex = none := by cases ex; rfl; cases q2
        rw [hd] at main
        simpa using main
      · have hemp : (r.Path.drop (j + 1)).isEmpty = false := by
          cases hd : r.Path.drop (j + 1) with
          | nil => rw [List.drop_eq_nil_iff] at hd; omega
          | cons y l => rfl
        rw [hemp, Bool.false_and] at main
        exact main
    · have hF : (match (generalizing := false) ex with | some x => decide ((⟨m, e⟩ : Sg) = x) | none => !(nxt c.Jts m e).isSome) = c.path r := hr.done (by simp) hge
      refine bc (fun q2 => ?_) (fun q2 => ?_)
      · obtain ⟨y, rfl⟩ := Option.isSome_iff_exists.1 q2
        refine ⟨?_, hes⟩
        rw [← hF]
        cases y with
        | mk y1 y2 =>
          congr 4; rw [Bool.eq_iff_iff]; simp
      · have hd : ex = none := by cases ex; rfl; cases q2
        subst hd
        refine (topo_Next_ok m e (h s).jts).use (opt2_ex _ ⟨?_, hes⟩)
        rw [← hF]
  refine bcnot (fun h2 => bcn (fun h3 => ⟨?_, .refl _⟩) (fun h3 => (hp σ).lenK ((conf_between_ok _ _ _).use ⟨_, rfl, bcnot (fun h4 => ⟨?_, .refl _⟩) (fun h4 => ⟨rfl, hgo ?_ ?_⟩)⟩))) (fun h2 => (hp σ).lenK ((conf_between_ok _ _ _).use ⟨_, rfl, bcnot (fun h4 => ⟨?_, .refl _⟩) (fun h4 => ⟨rfl, hgo ?_ ?_⟩)⟩))
  · rw [hpath, h2]; simp [h3]
  · rw [hlen] at h4; rw [hpath, h4]; simp
  · rw [← hlen]; exact h4
  · simp [h3]
  · rw [hlen] at h4; rw [hpath, h4]; simp
  · rw [← hlen]; exact h4
  · simp [h2]
theorem plan_route_ok (r : Rt) {d1 d2 d3 : D} (hp : ∀ s, At Try.prog s t_Step d1 (r.Path.map St.enc)) (hf : ∀ s, At Try.prog s t_Need d2 (r.Flank.map Nd.enc)) (ho : ∀ s, At Try.prog s t_int d3 (r.Overlap.map encI)) :
    Pure Try.prog n_conf_plan_route [cfA c0 c1 c2 c3 c4 c, rtA d1 d2 d3 r] σ (.a (iA (c.route r))) := by
  refine W_conf_plan_route _ _ _ _ _ _ _ _ _ _ _ d1 d2 d3 _ σ _ ((plan_path_ok h r hp).use ⟨_, rfl, bcnot (fun h1 => ⟨by rw [Cf.route, if_pos h1], rfl⟩) (fun h1 => ?_)⟩)
  have hpl : r.Path.length ≤ 8 := by
    unfold Cf.path at h1
    split at h1
    · cases h1
    · simp at h1; exact h1.1.2.2
  refine (plan_approach_ok (h σ) r d1 d2 d3).use ⟨_, rfl, (plan_flank_ok h _ hp (by omega)).mono ?_⟩
  rintro r1 s1 ⟨rfl, d, rfl, hd⟩
  refine ⟨d, rfl, (Equal_Need_ok (hf _) (hd _)).use ⟨_, rfl, bcnot (fun h2 => ⟨?_, rfl⟩) (fun h2 => (plan_overlap_ok h r hp).mono ?_)⟩⟩
  · rw [Cf.route, if_neg (by rw [h1]; simp), if_pos (of_decide_eq_false h2)]
  rintro r2 s2 ⟨rfl, d', rfl, hd'⟩
  have e2 := of_decide_eq_true h2
  refine ⟨d', rfl, (Equal_int_ok (ho _) (hd' _)).use ⟨_, rfl, bcnot (fun h3 => ⟨?_, rfl⟩) (fun h3 => ⟨?_, rfl⟩)⟩⟩
  · rw [Cf.route, if_neg (by rw [h1]; simp), if_neg (fun hn => hn e2), if_pos (of_decide_eq_false h3)]
  · rw [Cf.route, if_neg (by rw [h1]; simp), if_neg (fun hn => hn e2), if_neg (fun hn => hn (of_decide_eq_true h3))]
theorem conf_Check_ok : Pure Try.prog n_conf_Check [cfA c0 c1 c2 c3 c4 c] σ (.a (iA c.check)) := by
  refine W_conf_Check _ _ _ _ _ _ _ _ _ σ _ ((topo_Check_ok (fun s => (h s).secs) (fun s => (h s).jts)).use ⟨_, rfl, ?_⟩)
  have e6 : (if topoOk c.Secs c.Jts = true then (0 : Int) else 6) ≠ 0 ↔ topoOk c.Secs c.Jts = false := by
    cases topoOk c.Secs c.Jts <;> simp
  refine bcn (fun k1 => ⟨by rw [Cf.check, if_pos (e6.1 k1)], rfl⟩) (fun k1 => (plan_signals_ok h).use ⟨_, rfl, bcnot (fun k2 => ⟨?_, rfl⟩) (fun k2 => (plan_crossings_ok h).use ⟨_, rfl, bcnot (fun k3 => ⟨?_, rfl⟩) (fun k3 => ?_)⟩)⟩)
  all_goals have k1' : ¬ topoOk c.Secs c.Jts = false := fun e => e6.2 e k1
  · rw [Cf.check, if_neg k1', if_pos k2]
  · rw [Cf.check, if_neg k1', if_neg (by rw [k2]; simp), if_pos k3]
  have hck : c.check = if c.Rts.length > 12 then 9 else if c.routes c.Rts ≠ 0 then c.routes c.Rts else if c.timing = true then 0 else 12 := by
    rw [Cf.check, if_neg k1', if_neg (by rw [k2]; simp), if_neg (by rw [k3]; simp)]
  obtain ⟨rows, hat, hlen, hrow⟩ := rts_froz fun s => (h s).rts
  have hl := (hat σ).size
  refine (hat σ).lenK (bcd (fun k4 => ⟨by rw [hck, if_pos (by omega)], rfl⟩) (fun k4 => (hat σ).lenK ?_))
  rw [if_neg (by omega)] at hck
  refine ⟨fun n s => s = σ ∧ Rng c.Rts (fun l => c.routes l = c.routes c.Rts) n, fun n _ => c.Rts.length - n.toNat, ⟨rfl, .start rfl⟩, ?_⟩
  rintro n τ ⟨rfl, hr⟩
  refine bcd (fun hlt => ?_) (fun hge => ?_)
  · obtain ⟨j, x, rfl, hx, hj, hF, nx⟩ := hr.step hlen (by omega) hlt
    obtain ⟨row, hrw⟩ := get_of_lt (l := rows) (j := j) (by omega)
    obtain ⟨d1, d2, d3, rfl, q1, q2, q3⟩ := hrow j row x hrw hx
    refine (hat τ).load hrw c_Route rfl ⟨_, _, d1, d2, d3, _, rfl, (plan_route_ok h x q1 q2 q3).use ⟨_, rfl, ?_⟩⟩
    rw [Cf.routes] at hF
    refine bcn (fun k5 => ⟨?_, rfl⟩) (fun k5 => ?_)
    · rw [if_pos k5] at hF
      rw [hck, ← hF, if_pos k5]
    · rw [if_neg (by simp [k5])] at hF
      exact ⟨rfl, andl rfl (nx _ hF)⟩
  · have hF : 0 = c.routes c.Rts := hr.done hlen hge
    rw [← hF, if_neg (by simp)] at hck
    have hpos : c.timing = (decide (1 ≤ c.Age ∧ c.Age ≤ 8) && decide (0 ≤ c.Brake ∧ c.Brake ≤ 8) && decide (c.Age + c.Brake + 1 ≤ c.Hold ∧ c.Hold ≤ 40) && decide (1 ≤ c.Budget ∧ c.Budget ≤ 1000000)) := rfl
    refine (conf_between_ok _ _ _).use ⟨_, rfl, bcnot (fun k5 => ⟨?_, rfl⟩) (fun k5 => (conf_between_ok _ _ _).use ⟨_, rfl, bcnot (fun k6 => ⟨?_, rfl⟩) (fun k6 => (conf_between_ok _ _ _).use ⟨_, rfl, ?_⟩)⟩)⟩
    · rw [hck, hpos, k5]; simp
    · rw [hck, hpos, k6]; simp
    have a5 := of_decide_eq_true k5
    have a6 := of_decide_eq_true k6
    rw [w64_id (n := c.Age + c.Brake) (by omega) (by omega), w64_id (n := c.Age + c.Brake + 1) (by omega) (by omega)]
    refine bcnot (fun k7 => ⟨?_, rfl⟩) (fun k7 => (conf_between_ok _ _ _).use ⟨_, rfl, bcnot (fun k8 => ⟨?_, rfl⟩) (fun k8 => ⟨?_, rfl⟩)⟩)
    · rw [hck, hpos, k7]; simp
    · rw [hck, hpos, k8]; simp
    · rw [hck, hpos, k5, k6, k7, k8]; rfl
end
end Go.Proofs.Yteflnjedfmmddaa
end
section
set_option linter.unusedVariables false
set_option linter.unusedSimpArgs false
namespace Go.Fw
variable {P : Program} {σ : Store}
theorem u64_id {n : Int} (h1 : 0 ≤ n) (h2 : n ≤ 18446744073709551615) : IntKind.wrap .u64 n = n := by
  simp only [IntKind.wrap, IntKind.signed, IntKind.bits]; simp; omega
theorem and_mask {x : Int} (h1 : 0 ≤ x) (h2 : x < 2 ^ 32) : ((BitVec.toNat ((BitVec.ofInt 64 x) &&& (BitVec.ofInt 64 4294967295)) : Nat) : Int) = x := by
  rw [BitVec.toNat_and, BitVec.toNat_ofInt, BitVec.toNat_ofInt]
  have e1 : (x % ((2 ^ 64 : Nat) : Int)).toNat = x.toNat := by
    rw [Int.emod_eq_of_lt h1 (by omega)]
  have e2 : ((4294967295 : Int) % ((2 ^ 64 : Nat) : Int)).toNat = 2 ^ 32 - 1 := by decide
  rw [e1, e2, Nat.and_two_pow_sub_one_eq_mod, Nat.mod_eq_of_lt (by omega)]
  omega
theorem fdiv_small {x : Int} (h1 : 0 ≤ x) (h2 : x < 2 ^ 32) : Int.fdiv x (2 ^ 32) = 0 := by
  rw [Int.fdiv_eq_ediv_of_nonneg _ (by omega)]; omega
theorem set_set (i : Nat) (a b : SO) : (σ.set i a).set i b = σ.set i b := by
  funext j
  by_cases h : j = i
  · subst h; rw [Store.set_same, Store.set_same]
  · rw [Store.set_ne _ _ h, Store.set_ne _ _ h, Store.set_ne _ _ h]
/-- A slice that repeats one row. -/
def RepPost (t : TypeId) (n : Nat) (row : List D) (s : Store) (r : RV) (s' : Store) : Prop :=
  ∃ id, s id = .free ∧ r = .a (.one (.osl id 0 n)) ∧ s' = s.set id (.live t (List.replicate n row))
theorem rep_rows {row z : List D} {m k n : Nat} (h1 : k ≤ m) (h2 : m + k ≤ n) :
    (List.replicate m row ++ List.replicate (n - m) z).take m ++ (List.replicate m row).take k ++ (List.replicate m row ++ List.replicate (n - m) z).drop (m + k) = List.replicate (m + k) row ++ List.replicate (n - (m + k)) z := by
  rw [List.take_left' (by simp), List.take_replicate, Nat.min_eq_left h1, List.replicate_append_replicate, List.drop_append, List.drop_eq_nil_iff.2 (by simp), List.nil_append, List.drop_replicate]
  congr 2; simp; omega
/-- slices.Repeat of one row. -/
theorem rep_ok {f : FuncId} {t : TypeId} {es bytes : Nat} {z row : List D} {x : D} {n : Nat} {Q : RV → Store → Prop}
    (hmul : ∀ s (a b : Int), 0 ≤ a → 0 ≤ b → a * b < 2 ^ 32 → a < 2 ^ 32 → b < 2 ^ 32 → Pure P f [.one (.int .u64 a), .one (.int .u64 b)] s (.tup [.one (.int .u64 0), .one (.int .u64 (a * b))]))
    (hes : P.cellsOf t = es) (hx : At P σ t x [row]) (hn : n ≤ 2 ^ 20) (hb : bytes ≤ 2 ^ 20) (hQ : ∀ r s, RepPost t n row σ r s → Q r s) :
    ∀ R : Store → Prop, (∀ σ' : Store, (∃ len : Nat, (Len x len) ∧ DCalls P f [.one (.int .u64 (IntKind.wrap .u64 (len : Int))), .one (.int .u64 (IntKind.wrap .u64 (n : Int)))] σ' (fun (r : RV) => fun (σ'1 : Store) => ∃ n : Int, ∃ n1 : Int, (r = (.tup [.one (.int .u64 n), .one (.int .u64 n1)] : RV)) ∧ ∀ R1 : Store → Prop, (∀ σ'2 : Store, (((0 : Int) ≤ (w64 n1)) ∧ ((w64 n1) ≤ (w64 n1)) ∧ (((bytes : Int) * (w64 n1)) ≤ (2 ^ 48)) ∧ Fw.newObj σ'2 (.live t (List.replicate (Int.toNat (w64 n1)) z)) (fun (id : Nat) => fun (σ'3 : Store) => copyTo P σ'3 t (.osl id 0 (Int.toNat (w64 n1))) x (fun (n2 : Int) => fun (σ'4 : Store) => ∃ I : Int → Store → Prop, ∃ μ : Int → Store → Nat, (I n2 σ'4) ∧ ∀ n3 : Int, ∀ σ'5 : Store, (I n3 σ'5) → ∃ len1 : Nat, (Len (.osl id 0 (Int.toNat (w64 n1))) len1) ∧ bcase (decide (n3 < (len1 : Int))) (∃ len2 : Nat, (IdxN P σ'5 (.osl id 0 (Int.toNat (w64 n1))) es len2) ∧ ((0 : Int) ≤ n3) ∧ (n3 ≤ (len2 : Int)) ∧ ∃ len3 : Nat, (IdxN P σ'5 (.osl id 0 (Int.toNat (w64 n1))) es len3) ∧ ((0 : Int) ≤ 0) ∧ ((0 : Int) ≤ n3) ∧ (n3 ≤ (len3 : Int)) ∧ copyTo P σ'5 t (.osl id (0 + (Int.toNat n3)) (len2 - (Int.toNat n3))) (.osl id 0 ((Int.toNat n3) - 0)) (fun (n4 : Int) => fun (σ'6 : Store) => (I (w64 (n3 + n4)) σ'6) ∧ ((μ (w64 (n3 + n4)) σ'6) < (μ n3 σ'5)))) (Q (.a (.one (.osl id 0 (Int.toNat (w64 n1))))) σ'5)))) → R1 σ'2) → bcase (decide (n > 0)) False (bcase (decide (n1 > 9223372036854775807)) False (R1 σ'1)))) → R σ') → bcase (decide ((n : Int) < 0)) False (R σ) := by
  intro R hR
  refine bcd (fun h => absurd h (by omega)) (fun _ => hR σ (hx.lenK ?_))
  rw [u64_id (by simp) (by simp), u64_id (by omega) (by omega)]
  have hw : w64 (((1 : Nat) : Int) * n) = n := by rw [w64_id (by omega) (by omega)]; omega
  refine (hmul σ _ _ (by simp) (by omega) (by simp; omega) (by simp) (by omega)).use ⟨0, _, rfl, fun R1 hR1 => bcd (fun h => absurd h (by decide)) (fun _ => bcd (fun h => absurd h (by simp; omega)) (fun _ => hR1 σ ?_))⟩
  show 0 ≤ w64 (((1 : Nat) : Int) * n) ∧ _
  simp only [List.length_singleton, hw, Int.toNat_natCast]
  refine ⟨by omega, Int.le_refl _, ?_, fun id hid => ?_⟩
  · have : bytes * n ≤ 2 ^ 20 * 2 ^ 20 := Nat.mul_le_mul hb hn
    have h2 : ((bytes * n : Nat) : Int) ≤ 2 ^ 48 := by omega
    rw [Int.natCast_mul] at h2; exact h2
  have hidx : ∀ (s : Store) (rows : List (List D)), s id = .live t rows → rows.length = n → IdxN P s (.osl id 0 n) es n := fun s rows h1 h2 => .inl ⟨by omega, t, rows, h1, hes⟩
  have hxr : Rows P (σ.set id (.live t (List.replicate n z))) t x [row] := (hx.ext (Ext.new hid _)).rows
  have hdr : ∀ (s : Store) (rows : List (List D)) (i len : Nat), s id = .live t rows → i + len ≤ rows.length → Rows P s t (.osl id i len) ((rows.drop i).take len) := fun s rows i len h1 h2 => ⟨t, rows, h1, rfl, h2, rfl⟩
  refine ⟨_, _, hdr _ _ 0 n (Store.set_same _ _ _) (by simp), hxr, ?_⟩
  have hmin : min [row].length ((List.replicate n z).drop 0 |>.take n).length = min 1 n := by simp
  have hminI : min (([row].length : Nat) : Int) ((((List.replicate n z).drop 0 |>.take n).length : Nat) : Int) = ((min 1 n : Nat) : Int) := by rw [← hmin]; omega
  rw [hmin, hminI]
  have hloop : ∀ (m : Nat) (s : Store), m ≤ n → (0 < n → 0 < m) → s = σ.set id (.live t (List.replicate m row ++ List.replicate (n - m) z)) → ∃ I : Int → Store → Prop, ∃ μ : Int → Store → Nat, (I m s) ∧ ∀ n3 : Int, ∀ σ'5 : Store, (I n3 σ'5) → ∃ len1 : Nat, (Len (.osl id 0 n) len1) ∧ bcase (decide (n3 < (len1 : Int))) (∃ len2 : Nat, (IdxN P σ'5 (.osl id 0 n) es len2) ∧ ((0 : Int) ≤ n3) ∧ (n3 ≤ (len2 : Int)) ∧ ∃ len3 : Nat, (IdxN P σ'5 (.osl id 0 n) es len3) ∧ ((0 : Int) ≤ 0) ∧ ((0 : Int) ≤ n3) ∧ (n3 ≤ (len3 : Int)) ∧ copyTo P σ'5 t (.osl id (0 + (Int.toNat n3)) (len2 - (Int.toNat n3))) (.osl id 0 ((Int.toNat n3) - 0)) (fun (n4 : Int) => fun (σ'6 : Store) => (I (w64 (n3 + n4)) σ'6) ∧ ((μ (w64 (n3 + n4)) σ'6) < (μ n3 σ'5)))) (Q (.a (.one (.osl id 0 n))) σ'5) := by
    intro m0 s0 hm0 hm0' hs0
    refine ⟨fun n3 s => ∃ m : Nat, n3 = m ∧ m ≤ n ∧ (0 < n → 0 < m) ∧ s = σ.set id (.live t (List.replicate m row ++ List.replicate (n - m) z)), fun n3 _ => n - n3.toNat, ⟨m0, rfl, hm0, hm0', hs0⟩, ?_⟩
    rintro _ s ⟨m, rfl, hm, hm', rfl⟩
    refine ⟨n, rfl, bcd (fun hlt => ?_) (fun hge => ?_)⟩
    · have hl : (List.replicate m row ++ List.replicate (n - m) z).length = n := by simp; omega
      refine ⟨n, hidx _ _ (Store.set_same _ _ _) hl, by omega, by omega, n, hidx _ _ (Store.set_same _ _ _) hl, by omega, by omega, by omega, ?_⟩
      rw [Int.toNat_natCast, Nat.zero_add, Nat.sub_zero]
      refine ⟨_, _, hdr _ _ m (n - m) (Store.set_same _ _ _) (by rw [hl]; omega), hdr _ _ 0 m (Store.set_same _ _ _) (by rw [hl]; omega), .inr ⟨id, m, n - m, t, _, rfl, Store.set_same _ _ _, ?_⟩⟩
      have e1 : ((List.replicate m row ++ List.replicate (n - m) z).drop 0).take m = List.replicate m row := by
        rw [List.drop_zero, List.take_left' (by simp)]
      have e2 : min (((List.replicate m row ++ List.replicate (n - m) z).drop 0).take m).length (((List.replicate m row ++ List.replicate (n - m) z).drop m).take (n - m)).length = min m (n - m) := by
        rw [e1, List.length_take, List.length_drop, hl]; simp
      have e3 : min (((((List.replicate m row ++ List.replicate (n - m) z).drop 0).take m).length : Nat) : Int) (((((List.replicate m row ++ List.replicate (n - m) z).drop m).take (n - m)).length : Nat) : Int) = ((min m (n - m) : Nat) : Int) := by
        rw [← e2]; omega
      rw [e3, e2, e1, rep_rows (by omega) (by omega), set_set]
      have hk : 0 < min m (n - m) := by have := hm' (by omega); omega
      have hw2 : w64 ((m : Int) + ((min m (n - m) : Nat) : Int)) = ((m + min m (n - m) : Nat) : Int) := by rw [w64_id (by omega) (by omega)]; omega
      show (∃ m' : Nat, w64 ((m : Int) + ((min m (n - m) : Nat) : Int)) = m' ∧ _) ∧ _
      rw [hw2]
      refine ⟨⟨m + min m (n - m), rfl, by omega, fun _ => by omega, rfl⟩, ?_⟩
      show n - ((m + min m (n - m) : Nat) : Int).toNat < n - ((m : Nat) : Int).toNat
      omega
    · have e : m = n := by omega
      subst e
      refine hQ _ _ ⟨id, hid, rfl, ?_⟩
      rw [Nat.sub_self, List.replicate_zero, List.append_nil]
  by_cases h0 : n = 0
  · subst h0
    exact .inl ⟨rfl, hloop 0 _ (by omega) (by omega) rfl⟩
  · refine .inr ⟨id, 0, n, t, _, rfl, Store.set_same _ _ _, ?_⟩
    have e1 : min 1 n = 1 := by omega
    rw [e1, set_set]
    refine hloop 1 _ (by omega) (by omega) ?_
    congr 2
    rw [List.drop_replicate]; simp
end Go.Fw
end
section
set_option linter.unusedVariables false
set_option linter.unusedSimpArgs false
namespace Go.Proofs.Yteflnjedfmmddaa
open Go.Fw Go.Proofs Go.RowKit
variable {σ : Store}
theorem Mul64_ok (x y : Int) (hx0 : 0 ≤ x) (hy0 : 0 ≤ y) (hxy : x * y < 2 ^ 32) (hx : x < 2 ^ 32) (hy : y < 2 ^ 32) : Pure Try.prog n_math_bits_Mul64 [.one (.int .u64 x), .one (.int .u64 y)] σ (.tup [.one (.int .u64 0), .one (.int .u64 (x * y))]) := by
  have h0 : 0 ≤ x * y := Int.mul_nonneg hx0 hy0
  refine W_math_bits_Mul64 x y σ _ ?_
  unfold V_math_bits_Mul64
  have z0 : IntKind.wrap .u64 0 = 0 := u64_id (by omega) (by omega)
  have m0 := and_mask (x := 0) (by omega) (by omega)
  have f0 := fdiv_small (x := 0) (by omega) (by omega)
  rw [and_mask hx0 hx, and_mask hy0 hy, fdiv_small hx0 hx, fdiv_small hy0 hy, u64_id (n := x) hx0 (by omega), u64_id (n := y) hy0 (by omega), u64_id (n := x * y) h0 (by omega), fdiv_small h0 hxy]
  simp only [Int.zero_mul, Int.mul_zero, Int.add_zero, Int.zero_add, z0, m0, f0]
  exact ⟨trivial, trivial⟩
theorem Mul_ok (s : Store) (x y : Int) (hx0 : 0 ≤ x) (hy0 : 0 ≤ y) (hxy : x * y < 2 ^ 32) (hx : x < 2 ^ 32) (hy : y < 2 ^ 32) : Pure Try.prog n_math_bits_Mul [.one (.int .u64 x), .one (.int .u64 y)] s (.tup [.one (.int .u64 0), .one (.int .u64 (x * y))]) :=
  W_math_bits_Mul x y s _ ((Mul64_ok x y hx0 hy0 hxy hx hy).use ⟨_, _, rfl, rfl, rfl⟩)
theorem Repeat_int_ok {x : D} {row : List D} {n : Nat} (hx : At Try.prog σ t_int x [row]) (hn : n ≤ 2 ^ 20) : DCalls Try.prog n_slices_Repeat_int [.one x, iA n] σ (RepPost t_int n row σ) :=
  W_slices_Repeat_int x n σ _ (rep_ok (bytes := 8) Mul_ok c_int hx hn (by omega) fun _ _ h => h)
theorem Repeat_Mover_ok {x : D} {row : List D} {n : Nat} (hx : At Try.prog σ t_Mover x [row]) (hn : n ≤ 2 ^ 20) : DCalls Try.prog n_slices_Repeat_Mover [.one x, iA n] σ (RepPost t_Mover n row σ) :=
  W_slices_Repeat_Mover x n σ _ (rep_ok (bytes := 16) Mul_ok c_Mover hx hn (by omega) fun _ _ h => h)
theorem Start_ok (now : Int) : Pure Try.prog n_mover_Start [iA now] σ (.a (.agg [iD 0, iD now])) := W_mover_Start now σ _ ⟨rfl, rfl⟩
theorem Grow_Mover_ok {n : Nat} (hn : n ≤ 2 ^ 40) : DCalls Try.prog n_slices_Grow_Mover [.one .nils, iA n] σ fun r s => ∃ d, r = .a (.one d) ∧ Own Try.prog σ s t_Mover d [] := by
  refine W_slices_Grow_Mover n σ _ (bcd (fun h => absurd h (by omega)) (fun _ => ⟨0, rfl, ?_⟩))
  have hw : w64 ((n : Int) - w64 (0 - ((0 : Nat) : Int))) = n := by
    have : w64 (0 - ((0 : Nat) : Int)) = 0 := by decide
    rw [this, w64_id (by omega) (by omega)]; omega
  rw [hw]
  refine bcd (fun h => ⟨0, .inr ⟨rfl, .inl rfl⟩, by omega, by omega, by omega, by omega, by omega, bcd (fun h0 => absurd h0 (by omega)) (fun _ => newObj_intro fun id s hid _ he hs => ?_)⟩) (fun h => ⟨_, rfl, .nil _ (.refl _)⟩)
  refine ⟨0, rfl, n, .inl ⟨by simp, _, _, hs, c_Mover⟩, by omega, by omega, by omega, _, rfl, ?_⟩
  exact ⟨⟨⟨_, _, hs, rfl, by simp, by simp⟩, by simp, fun es rows e => by cases e⟩, he, osl_new hid, fun h => h, by intro e; cases e⟩
/-- slices.Concat of two lists. -/
theorem Concat_Mover_ok {d a b : D} {ra rb : List (List D)} (hd : At Try.prog σ t_sl_Mover d [[a], [b]]) (ha : At Try.prog σ t_Mover a ra) (hb : At Try.prog σ t_Mover b rb) (hla : ra.length ≤ 2 ^ 20) (hlb : rb.length ≤ 2 ^ 20) :
    DCalls Try.prog n_slices_Concat_Mover [.one d] σ fun r s => ∃ d, r = .a (.one d) ∧ Own Try.prog σ s t_Mover d (ra ++ rb) := by
  let L : List (D × List (List D)) := [(a, ra), (b, rb)]
  have hL : ∀ p ∈ L, At Try.prog σ t_Mover p.1 p.2 := fun p hp => by
    rcases List.mem_cons.1 hp with rfl | hp
    · exact ha
    · rcases List.mem_cons.1 hp with rfl | hp
      · exact hb
      · cases hp
  have hdL : At Try.prog σ t_sl_Mover d (L.map fun p => [p.1]) := hd
  have hl : L.length < 2 ^ 60 := by show 2 < 2 ^ 60; omega
  refine W_slices_Concat_Mover d σ _ (hdL.lenK ⟨fun m n s => s = σ ∧ 0 ≤ m ∧ Rng L (fun r => m + ((r.map fun p => p.2.length).sum : Nat) = ((ra.length + rb.length : Nat) : Int)) n, fun _ n _ => L.length - n.toNat, ⟨rfl, by omega, .start (by simp [L])⟩, ?_⟩)
  rintro m n s ⟨rfl, hm, hr⟩
  refine bcd (fun hlt => ?_) (fun hge => ?_)
  · obtain ⟨j, x, rfl, hx, hj, hF, nx⟩ := hr.step (by simp) hl hlt
    refine hdL.load (map_get hx) c_sl_Mover rfl ⟨x.1, rfl, (hL x (List.mem_of_getElem? hx)).lenK ?_⟩
    simp only [List.map_cons, List.sum_cons] at hF
    have hw : w64 (m + (x.2.length : Int)) = m + x.2.length := w64_id (by omega) (by omega)
    rw [hw]
    refine bcd (fun h => absurd h (by omega)) (fun _ => ?_)
    have hn := nx (fun r => m + x.2.length + ((r.map fun p => p.2.length).sum : Nat) = ((ra.length + rb.length : Nat) : Int)) (by omega)
    exact ⟨⟨rfl, by omega, hn.1⟩, hn.2⟩
  · have hF := hr.done (by simp) hge
    simp only [List.map_nil, List.sum_nil] at hF
    have hmn : m = ((ra.length + rb.length : Nat) : Int) := by omega
    subst hmn
    refine (Grow_Mover_ok (by omega)).mono ?_
    rintro r s1 ⟨d1, rfl, ho⟩
    refine ⟨d1, rfl, hdL.lenK ⟨fun d2 n s2 => ∃ out, Own Try.prog s s2 t_Mover d2 out ∧ Rng L (fun q => out ++ (q.map fun p => p.2).flatten = ra ++ rb) n, fun _ n _ => L.length - n.toNat, ⟨[], ho, .start (by simp [L])⟩, ?_⟩⟩
    rintro d2 n s2 ⟨out, ho2, hr2⟩
    refine bcd (fun hlt => ?_) (fun hge => ?_)
    · obtain ⟨j, x, rfl, hx, hj, hF2, nx⟩ := hr2.step (by simp) hl hlt
      refine (hdL.ext ho2.ext).load (map_get hx) c_sl_Mover rfl ⟨x.1, rfl, ?_⟩
      have hxa := (hL x (List.mem_of_getElem? hx)).ext ho2.ext
      simp only [List.map_cons, List.flatten_cons] at hF2
      have hlen := congrArg List.length hF2
      simp only [List.length_append] at hlen
      refine ho2.append hxa (by omega) (by omega) fun d3 s3 ho3 _ _ => ?_
      have hn := nx (fun q => out ++ x.2 ++ (q.map fun p => p.2).flatten = ra ++ rb) (by rw [List.append_assoc]; exact hF2)
      exact ⟨⟨_, ho3, hn.1⟩, hn.2⟩
    · have hF2 := hr2.done (by simp) hge
      simp only [List.map_nil, List.flatten_nil, List.append_nil] at hF2
      exact ⟨_, rfl, hF2 ▸ ho2⟩
theorem locks_between_ok (n lo hi : Int) : Pure Try.prog n_locks_between [iA n, iA lo, iA hi] σ (.a (bA (decide (lo ≤ n ∧ n ≤ hi)))) := by
  refine W_locks_between n lo hi σ _ (bcd (fun h => ⟨?_, rfl⟩) (fun h => ⟨?_, rfl⟩)) <;> simp [h]
theorem locks_times_ok {d : D} {l : List Int} (b : Int) (hb : 0 ≤ b ∧ b ≤ 1) (h : At Try.prog σ t_int d (l.map encI)) : Pure Try.prog n_locks_times [iA b, .one d] σ (.a (bA (l.all fun n => decide (0 ≤ n ∧ n ≤ 4294967295 + b)))) := by
  have hl := h.size
  rw [List.length_map] at hl
  refine W_locks_times b d σ _ (h.lenK ⟨fun n s => s = σ ∧ Rng l (fun r => (r.all fun n => decide (0 ≤ n ∧ n ≤ 4294967295 + b)) = l.all fun n => decide (0 ≤ n ∧ n ≤ 4294967295 + b)) n, fun n _ => l.length - n.toNat, ⟨rfl, .start rfl⟩, ?_⟩)
  rintro n τ ⟨rfl, hr⟩
  refine bcd (fun hlt => ?_) (fun hge => ?_)
  · obtain ⟨j, x, rfl, hx, hj, hF, nx⟩ := hr.step (by simp) hl hlt
    rw [List.all_cons] at hF
    have hw : w64 (4294967295 + b) = 4294967295 + b := w64_id (by omega) (by omega)
    refine h.load (map_get hx) c_int rfl ⟨x, rfl, (locks_between_ok _ _ _).use ⟨_, rfl, ?_⟩⟩
    rw [hw]
    refine bcnot (fun h1 => ?_) (fun h1 => ?_)
    · rw [h1] at hF; exact ⟨by rw [← hF]; rfl, rfl⟩
    · rw [h1, Bool.true_and] at hF; exact andl rfl (nx _ hF)
  · have hF := hr.done (by simp) hge
    exact ⟨by rw [← hF]; rfl, rfl⟩
end Go.Proofs.Yteflnjedfmmddaa
end
section
namespace Go.Fw
structure Rs where
  State : Int
  Since : Int
  Next : Int
  Mark : Int
  deriving DecidableEq
structure Mv where
  Cmd : Int
  Other : Int
  deriving DecidableEq
structure Ls where
  Ask : Int
  Done : Int
  Grant : Int
  Told : Int
  PAsk : Int
  PDone : Int
  PGrant : Int
  Since : Int
  deriving DecidableEq
structure Co where
  Own : List Int
  Routes : List Rs
  Points : List Mv
  Xs : List Mv
  Lines : List Ls
  Resets : List Int
  Dirty : Bool
  deriving DecidableEq
def Rs.enc (r : Rs) : List D := [iD r.State, iD r.Since, iD r.Next, iD r.Mark]
def Mv.enc (r : Mv) : List D := [iD r.Cmd, iD r.Other]
def Ls.enc (r : Ls) : List D := [iD r.Ask, iD r.Done, iD r.Grant, iD r.Told, iD r.PAsk, iD r.PDone, iD r.PGrant, iD r.Since]
/-- A cycle, or so many beyond. -/
def tm (b n : Int) : Bool := decide (0 ≤ n ∧ n ≤ 4294967295 + b)
def Rs.fits (p : Rs × Rt) : Bool := decide (0 ≤ p.1.State ∧ p.1.State ≤ 5) && decide (0 ≤ p.1.Next ∧ p.1.Next ≤ p.2.Path.length) && (tm 0 p.1.Since && tm 0 p.1.Mark)
def Mv.fits (m : Mv) : Bool := decide (0 ≤ m.Cmd ∧ m.Cmd ≤ 2) && decide (-1 ≤ m.Other ∧ m.Other ≤ 4294967295)
def Ls.fits (l : Ls) : Bool := (tm 0 l.Ask && (tm 0 l.Done && (tm 0 l.Grant && (tm 0 l.Told && (tm 0 l.PAsk && (tm 0 l.PDone && tm 0 l.PGrant)))))) && tm 1 l.Since
def Co.lens (c : Cf) (k : Co) : Bool := decide (k.Own.length = c.Secs.length ∧ k.Points.length = c.Secs.length ∧ k.Resets.length = c.Secs.length ∧ k.Routes.length = c.Rts.length ∧ k.Xs.length = c.Xs.length ∧ k.Lines.length = 4)
def Co.parts (c : Cf) (k : Co) : Bool :=
  (k.Own.all fun o => decide (-2 ≤ o ∧ o ≤ c.Rts.length)) && ((k.Routes.zip c.Rts).all Rs.fits && ((k.Points ++ k.Xs).all Mv.fits && (k.Lines.all Ls.fits && k.Resets.all (tm 1))))
def Co.fits (c : Cf) (k : Co) : Bool := decide (c.check = 0) && (k.lens c && k.parts c)
/-- A station that is right is small. -/
theorem check_small {c : Cf} (h : c.check = 0) : topoOk c.Secs c.Jts = true ∧ c.Secs.length ≤ 16 ∧ c.Rts.length ≤ 12 ∧ c.Xs.length ≤ 4 ∧ c.Sigs.length ≤ 12 ∧ c.Jts.length ≤ 24 := by
  unfold Cf.check at h
  split at h
  · cases h
  split at h
  · cases h
  split at h
  · cases h
  split at h
  · cases h
  rename_i h1 h2 h3 h4
  simp only [Bool.not_eq_false] at h1 h2 h3
  simp only [Cf.sigsOk, Cf.xsOk, Bool.and_eq_true, decide_eq_true_eq, topoOk] at h1 h2 h3
  exact ⟨by simp only [topoOk, Bool.and_eq_true, decide_eq_true_eq]; exact h1, h1.1.2.1, by omega, h3.2, h2.2, h1.1.2.2⟩
end Go.Fw
end
section
set_option linter.unusedVariables false
set_option linter.unusedSimpArgs false
namespace Go.Proofs.Yteflnjedfmmddaa
open Go.Fw Go.Proofs Go.RowKit
variable {σ : Store}
/-- slices.Clone, of any type. -/
theorem clone_ok {t : TypeId} {bytes : Nat} {d : D} {rows : List (List D)} {Q : RV → Store → Prop} (h : At Try.prog σ t d rows) (hz : d ≠ .zsl) (hb : bytes * rows.length ≤ 140737488355328)
    (hQ : ∀ d' s, Own Try.prog σ s t d' rows → Q (.a (.one d')) s) :
    ∃ b : Bool, (IsNil .sl d b) ∧ bcase (b != false) (Q (.a (.one .nils)) σ) (Fw.newObj σ (.live t []) (fun (id : Nat) => fun (σ' : Store) => appendTo Try.prog σ' t bytes (.osl id 0 0) d (fun (d : D) => fun (σ'1 : Store) => Q (.a (.one d)) σ'1))) := by
  have new : ∀ b : Bool, b = false → bcase (b != false) (Q (.a (.one .nils)) σ) (Fw.newObj σ (.live t []) (fun (id : Nat) => fun (σ' : Store) => appendTo Try.prog σ' t bytes (.osl id 0 0) d (fun (d : D) => fun (σ'1 : Store) => Q (.a (.one d)) σ'1))) := by
    rintro b rfl
    rw [show (false != false) = false from by decide]
    refine (newObj_intro (K := fun id σ' => appendTo Try.prog σ' t bytes (.osl id 0 0) d fun d σ'1 => Q (.a (.one d)) σ'1) ?_ : Fw.newObj σ (.live t []) _)
    refine fun id s hid _ he hs => ?_
    have ho : Own Try.prog σ s t (.osl id 0 0) [] := ⟨At.fresh hs (by simp) rfl, he, osl_new hid, fun h => h, by intro e; cases e⟩
    exact ho.append (h.ext he) (by simpa using hb) (by have := h.size; simpa using this) fun d' s' ho' _ _ => hQ _ _ (by simpa using ho')
  have hr := h.rows
  cases d <;> simp only [Go.Fw.Rows] at hr <;> try exact hr.elim
  · subst hr; exact ⟨true, rfl, hQ _ _ (.nil _ (.refl _))⟩
  · exact absurd rfl hz
  · exact ⟨false, rfl, new _ rfl⟩
  · exact ⟨false, rfl, new _ rfl⟩
theorem Clone_int_ok {d : D} {rows : List (List D)} (h : At Try.prog σ t_int d rows) (hz : d ≠ .zsl) (hb : 8 * rows.length ≤ 140737488355328) : DCalls Try.prog n_slices_Clone_int [.one d] σ fun r s => ∃ d', r = .a (.one d') ∧ Own Try.prog σ s t_int d' rows :=
  W_slices_Clone_int d σ _ (clone_ok (Q := fun r s => ∃ d', r = .a (.one d') ∧ Own Try.prog σ s _ d' rows) h hz hb fun d' s ho => ⟨d', rfl, ho⟩)
/-- A state's cells. -/
structure CoAt (σ : Store) (k0 k1 k2 k3 k4 k5 : D) (k : Co) : Prop where
  own : At Try.prog σ t_int k0 (k.Own.map encI)
  routes : At Try.prog σ t_RouteState k1 (k.Routes.map Rs.enc)
  points : At Try.prog σ t_Mover k2 (k.Points.map Mv.enc)
  xs : At Try.prog σ t_Mover k3 (k.Xs.map Mv.enc)
  lines : At Try.prog σ t_LineState k4 (k.Lines.map Ls.enc)
  resets : At Try.prog σ t_int k5 (k.Resets.map encI)
theorem CoAt.ext {σ' : Store} {k0 k1 k2 k3 k4 k5 : D} {k : Co} (h : CoAt σ k0 k1 k2 k3 k4 k5 k) (he : Ext σ σ') : CoAt σ' k0 k1 k2 k3 k4 k5 k :=
  ⟨h.own.ext he, h.routes.ext he, h.points.ext he, h.xs.ext he, h.lines.ext he, h.resets.ext he⟩
abbrev coA (k0 k1 k2 k3 k4 k5 : D) (b : Bool) : A := .agg [k0, k1, k2, k3, k4, k5, .bool b]
theorem locks_Fits_ok {c0 c1 c2 c3 c4 : D} {c : Cf} (h : ∀ s, CfAt s c0 c1 c2 c3 c4 c) {k0 k1 k2 k3 k4 k5 : D} {k : Co} (hk : CoAt σ k0 k1 k2 k3 k4 k5 k) :
    Pure Try.prog n_locks_Fits [cfA c0 c1 c2 c3 c4 c, coA k0 k1 k2 k3 k4 k5 k.Dirty] σ (.a (bA (k.fits c))) := by
  have ls := (h σ).secs.size
  have lx := (h σ).xs.size
  have l0 := hk.own.size
  have l1 := hk.routes.size
  have l2 := hk.points.size
  have l3 := hk.xs.size
  have l4 := hk.lines.size
  have l5 := hk.resets.size
  simp only [List.length_map] at ls lx l0 l1 l2 l3 l4 l5
  refine .of (W_locks_Fits _ _ _ _ _ _ _ _ _ k0 k1 k2 k3 k4 k5 k.Dirty σ _ ((h σ).secs.lenK fun R hR => (conf_Check_ok h).use ⟨_, rfl, ?_⟩)) (flat_b _)
  obtain ⟨rows, hat, hlen, hrow⟩ := rts_froz fun s => (h s).rts
  have hl := (hat σ).size
  have bad : k.lens c = false → ∀ s, Ext σ s → (RV.a (.one (.bool false)) = .a (bA (k.fits c)) ∧ Ext σ s) := fun hb s he => ⟨by simp [Co.fits, hb], he⟩
  have nl : ∀ p : Prop, ¬ (k.Own.length = c.Secs.length ∧ k.Points.length = c.Secs.length ∧ k.Resets.length = c.Secs.length ∧ k.Routes.length = c.Rts.length ∧ k.Xs.length = c.Xs.length ∧ k.Lines.length = 4) → k.lens c = false := fun p hn => by
    rw [Co.lens, decide_eq_false hn]
  refine bcn (fun hc => ⟨by simp [Co.fits, hc], .refl _⟩) (fun hc => ?_)
  simp only [List.length_map]
  refine hk.own.lenK (bcn (fun e => bad (nl True fun g => by simp only [List.length_map] at e; omega) _ (.refl _)) (fun e0 => ?_))
  refine hk.points.lenK (bcn (fun e => bad (nl True fun g => by simp only [List.length_map] at e; omega) _ (.refl _)) (fun e1 => ?_))
  refine hk.resets.lenK (bcn (fun e => bad (nl True fun g => by simp only [List.length_map] at e; omega) _ (.refl _)) (fun e2 => ?_))
  refine hk.routes.lenK ((hat σ).lenK (bcn (fun e => bad (nl True fun g => by simp only [List.length_map] at e; omega) _ (.refl _)) (fun e3 => ?_)))
  refine hk.xs.lenK ((h σ).xs.lenK (bcn (fun e => bad (nl True fun g => by simp only [List.length_map] at e; omega) _ (.refl _)) (fun e4 => ?_)))
  refine hk.lines.lenK (bcn (fun e => bad (nl True fun g => by simp only [List.length_map] at e; omega) _ (.refl _)) (fun e5 => hR σ ?_))
  simp only [List.length_map] at e0 e1 e2 e3 e4 e5
  have hL : k.lens c = true := decide_eq_true ⟨by omega, by omega, by omega, by omega, by omega, by omega⟩
  have hfit : k.fits c = k.parts c := by simp [Co.fits, hc, hL]
  rw [hfit]
  obtain ⟨_, s1, s2, s3, _, _⟩ := check_small hc
  clear bad nl hfit hL hR
  unfold Co.parts
  -- owners
  refine hk.own.lenK ⟨fun n s => s = σ ∧ Rng k.Own (fun r => (r.all fun o => decide (-2 ≤ o ∧ o ≤ (c.Rts.length : Int))) = k.Own.all fun o => decide (-2 ≤ o ∧ o ≤ (c.Rts.length : Int))) n, fun n _ => k.Own.length - n.toNat, ⟨rfl, .start rfl⟩, ?_⟩
  rintro n τ ⟨rfl, hr⟩
  refine bcd (fun hlt => ?_) (fun hge => ?_)
  · obtain ⟨j, x, rfl, hx, hj, hF, nx⟩ := hr.step (by simp) l0 hlt
    rw [List.all_cons] at hF
    refine hk.own.load (map_get hx) c_int rfl ⟨x, rfl, (hat τ).lenK ((locks_between_ok _ _ _).use ⟨_, rfl, ?_⟩)⟩
    rw [hlen]
    refine bcnot (fun h1 => ?_) (fun h1 => ?_)
    · rw [h1] at hF; exact ⟨by rw [← hF]; rfl, .refl _⟩
    · rw [h1, Bool.true_and] at hF; exact andl rfl (nx _ hF)
  have hF0 := hr.done (by simp) hge
  rw [← hF0]
  show (∃ len2 : Nat, _)
  simp only [List.all_nil, Bool.true_and]
  clear hF0 hr hge
  -- routes
  have lz : (k.Routes.zip c.Rts).length = k.Routes.length := by rw [List.length_zip]; omega
  refine hk.routes.lenK ⟨fun n s => Ext τ s ∧ Rng (k.Routes.zip c.Rts) (fun r => r.all Rs.fits = (k.Routes.zip c.Rts).all Rs.fits) n, fun n _ => (k.Routes.zip c.Rts).length - n.toNat, ⟨.refl _, .start rfl⟩, ?_⟩
  rintro n s ⟨he, hr⟩
  refine bcd (fun hlt => ?_) (fun hge => ?_)
  · obtain ⟨j, x, rfl, hx, hj, hF, nx⟩ := hr.step (by rw [List.length_map, lz]) (by omega) hlt
    obtain ⟨g1, g2⟩ := List.getElem?_zip_eq_some.1 hx
    rw [List.all_cons] at hF
    refine (hk.ext he).routes.load (map_get g1) c_RouteState rfl ⟨x.1.State, x.1.Since, x.1.Next, x.1.Mark, rfl, (locks_between_ok _ _ _).use ⟨_, rfl, ?_⟩⟩
    have bad : Rs.fits x = false → ∀ s', Ext τ s' → (RV.a (.one (.bool false)) = .a (bA ((k.Routes.zip c.Rts).all Rs.fits && ((k.Points ++ k.Xs).all Mv.fits && (k.Lines.all Ls.fits && k.Resets.all (tm 1))))) ∧ Ext τ s') := fun hb s' he' => by
      rw [hb, Bool.false_and] at hF
      exact ⟨by rw [← hF]; rfl, he'⟩
    refine bcnot (fun h1 => bad (by unfold Rs.fits; rw [h1]; rfl) _ he) (fun h1 => ?_)
    obtain ⟨row, hrw⟩ := get_of_lt (l := rows) (j := j) (by rw [lz] at hj; omega)
    obtain ⟨d1, d2, d3, rfl, q1, q2, q3⟩ := hrow j row x.2 hrw g2
    refine (hat s).load hrw c_Route rfl ⟨d1, rfl, (q1 s).lenK ((locks_between_ok _ _ _).use ⟨_, rfl, ?_⟩)⟩
    rw [List.length_map]
    refine bcnot (fun h2 => bad (by unfold Rs.fits; rw [h1, h2]; rfl) _ he) (fun h2 => ?_)
    refine newObj_intro fun id s2 hid _ he2 hs2 => ?_
    refine (locks_times_ok (l := [x.1.Since, x.1.Mark]) 0 (by omega) (At.fresh hs2 (by simp) rfl)).use ⟨_, rfl, ?_⟩
    have e3 : ([x.1.Since, x.1.Mark].all fun n => decide (0 ≤ n ∧ n ≤ 4294967295 + (0 : Int))) = (tm 0 x.1.Since && tm 0 x.1.Mark) := by simp [tm]
    rw [e3]
    refine bcnot (fun h3 => bad (by unfold Rs.fits; rw [h1, h2, h3]; rfl) _ (he.trans he2)) (fun h3 => ?_)
    have hx : Rs.fits x = true := by unfold Rs.fits; rw [h1, h2, h3]; rfl
    rw [hx, Bool.true_and] at hF
    have hn := nx (fun r => r.all Rs.fits = (k.Routes.zip c.Rts).all Rs.fits) hF
    exact ⟨⟨he.trans he2, hn.1⟩, hn.2⟩
  have hF0 := hr.done (by rw [List.length_map, lz]) hge
  rw [← hF0]
  simp only [List.all_nil, Bool.true_and]
  clear hF0 hr hge
  -- movers
  refine newObj_intro fun id s2 hid _ he2 hs2 => ?_
  have het := he.trans he2
  have hkt := hk.ext het
  refine (Concat_Mover_ok (a := k2) (b := k3) (At.fresh hs2 (by simp) rfl) hkt.points hkt.xs (by rw [List.length_map]; omega) (by rw [List.length_map]; omega)).mono ?_
  rintro r s3 ⟨d, rfl, ho⟩
  rw [← List.map_append] at ho
  have he3 := het.trans ho.ext
  have lm : (k.Points ++ k.Xs).length < 2 ^ 60 := by rw [List.length_append]; omega
  refine ⟨d, rfl, ho.at_.lenK ⟨fun n s => s = s3 ∧ Rng (k.Points ++ k.Xs) (fun r => r.all Mv.fits = (k.Points ++ k.Xs).all Mv.fits) n, fun n _ => (k.Points ++ k.Xs).length - n.toNat, ⟨rfl, .start rfl⟩, ?_⟩⟩
  rintro n s4 ⟨rfl, hr⟩
  refine bcd (fun hlt => ?_) (fun hge => ?_)
  · obtain ⟨j, x, rfl, hx, hj, hF, nx⟩ := hr.step (by simp) lm hlt
    rw [List.all_cons] at hF
    refine ho.at_.load (map_get hx) c_Mover rfl ⟨x.Cmd, x.Other, rfl, (locks_between_ok _ _ _).use ⟨_, rfl, bcnot (fun h1 => ?_) (fun h1 => (locks_between_ok _ _ _).use ⟨_, rfl, bcnot (fun h2 => ?_) (fun h2 => ?_)⟩)⟩⟩
    · have : x.fits = false := by unfold Mv.fits; rw [h1]; rfl
      rw [this, Bool.false_and] at hF; exact ⟨by rw [← hF]; rfl, he3⟩
    · have : x.fits = false := by unfold Mv.fits; rw [h1, h2]; rfl
      rw [this, Bool.false_and] at hF; exact ⟨by rw [← hF]; rfl, he3⟩
    · have : x.fits = true := by unfold Mv.fits; rw [h1, h2]; rfl
      rw [this, Bool.true_and] at hF; exact andl rfl (nx _ hF)
  have hF0 := hr.done (by simp) hge
  rw [← hF0]
  simp only [List.all_nil, Bool.true_and]
  clear hF0 hr hge
  -- lines
  refine hk.lines.lenK ⟨fun n s => Ext τ s ∧ Rng k.Lines (fun r => r.all Ls.fits = k.Lines.all Ls.fits) n, fun n _ => k.Lines.length - n.toNat, ⟨he3, .start rfl⟩, ?_⟩
  rintro n s5 ⟨he5, hr⟩
  refine bcd (fun hlt => ?_) (fun hge => ?_)
  · obtain ⟨j, x, rfl, hx, hj, hF, nx⟩ := hr.step (by simp) l4 hlt
    rw [List.all_cons] at hF
    refine (hk.ext he5).lines.load (map_get hx) c_LineState rfl ⟨x.Ask, x.Done, x.Grant, x.Told, x.PAsk, x.PDone, x.PGrant, x.Since, rfl, newObj_intro fun id1 s6 hid1 _ he6 hs6 => ?_⟩
    have bad : Ls.fits x = false → ∀ s', Ext τ s' → (RV.a (.one (.bool false)) = .a (bA (k.Lines.all Ls.fits && k.Resets.all (tm 1))) ∧ Ext τ s') := fun hb s' he' => by
      rw [hb, Bool.false_and] at hF
      exact ⟨by rw [← hF]; rfl, he'⟩
    refine (locks_times_ok (l := [x.Ask, x.Done, x.Grant, x.Told, x.PAsk, x.PDone, x.PGrant]) 0 (by omega) (At.fresh hs6 (by simp) rfl)).use ⟨_, rfl, ?_⟩
    have e3 : ([x.Ask, x.Done, x.Grant, x.Told, x.PAsk, x.PDone, x.PGrant].all fun n => decide (0 ≤ n ∧ n ≤ 4294967295 + (0 : Int))) = (tm 0 x.Ask && (tm 0 x.Done && (tm 0 x.Grant && (tm 0 x.Told && (tm 0 x.PAsk && (tm 0 x.PDone && tm 0 x.PGrant)))))) := by simp [tm]
    rw [e3]
    refine bcnot (fun h1 => bad (by unfold Ls.fits; rw [h1]; rfl) _ (he5.trans he6)) (fun h1 => newObj_intro fun id2 s7 hid2 _ he7 hs7 => ?_)
    refine (locks_times_ok (l := [x.Since]) 1 (by omega) (At.fresh hs7 (by simp) rfl)).use ⟨_, rfl, ?_⟩
    have e4 : ([x.Since].all fun n => decide (0 ≤ n ∧ n ≤ 4294967295 + (1 : Int))) = tm 1 x.Since := by simp [tm]
    rw [e4]
    refine bcnot (fun h2 => bad (by unfold Ls.fits; rw [h1, h2]; rfl) _ ((he5.trans he6).trans he7)) (fun h2 => ?_)
    have hx : x.fits = true := by unfold Ls.fits; rw [h1, h2]; rfl
    rw [hx, Bool.true_and] at hF
    have hn := nx (fun r => r.all Ls.fits = k.Lines.all Ls.fits) hF
    exact ⟨⟨(he5.trans he6).trans he7, hn.1⟩, hn.2⟩
  have hF0 := hr.done (by simp) hge
  rw [← hF0]
  simp only [List.all_nil, Bool.true_and]
  exact (locks_times_ok 1 (by omega) (hk.ext he5).resets).use ⟨_, rfl, rfl, he5⟩
end Go.Proofs.Yteflnjedfmmddaa
end
section
set_option linter.unusedVariables false
set_option linter.unusedSimpArgs false
namespace Go.Fw
variable {P : Program} {σ : Store}
theorem rows_fun {s : Store} {el : TypeId} {d : D} {rs rs' : List (List D)} (h : Go.Fw.Rows P s el d rs) (h' : Go.Fw.Rows P s el d rs') : rs = rs' := by
  cases d <;> simp only [Go.Fw.Rows] at h h' <;> try exact h.elim
  · rw [h, h']
  · rw [h, h']
  · rw [h.1, h'.1]
  · obtain ⟨t, rows, a1, a2, a3, a4⟩ := h
    obtain ⟨t', rows', b1, b2, b3, b4⟩ := h'
    rw [a1] at b1
    injection b1 with e1 e2
    subst e1 e2
    rw [a4, b4]
def repPre (P : Program) (t : TypeId) (as0 : List A) (s : Store) : Prop := ∃ (d : D) (n : Nat) (row : List D), as0 = [.one d, iA n] ∧ At P s t d [row] ∧ n ≤ 2 ^ 20
def repPost (P : Program) (t : TypeId) (as0 : List A) (s : Store) (r : RV) (s' : Store) : Prop := ∃ (d : D) (n : Nat) (row : List D), as0 = [.one d, iA n] ∧ At P s t d [row] ∧ n ≤ 2 ^ 20 ∧ RepPost t n row s r s'
theorem Fin.set' {s : Store} (h : Fin s) (id : Nat) (so : SO) : Fin (s.set id so) := by
  obtain ⟨N, hN⟩ := h
  refine ⟨max N (id + 1), fun i hi => ?_⟩
  rw [Store.set_ne _ _ (by omega)]; exact hN i (by omega)
theorem rep_spec {f : FuncId} {t : TypeId} (h : ∀ (s : Store) (x : D) (row : List D) (n : Nat), At P s t x [row] → n ≤ 2 ^ 20 → DCalls P f [.one x, iA n] s (RepPost t n row s)) : SpecOk P f (repPre P t) (repPost P t) := by
  refine ⟨?_, ?_, ?_, ?_⟩
  · rintro as0 s ⟨d, n, row, rfl, h1, h2⟩
    exact (h s d row n h1 h2).mono fun r s' hr => ⟨d, n, row, rfl, h1, h2, hr⟩
  · rintro as0 s ⟨d, n, row, rfl, h1, h2⟩ ⟨N, hN⟩
    exact ⟨_, _, ⟨d, n, row, rfl, h1, h2, N, hN N (Nat.le_refl _), rfl, rfl⟩, Fin.set' ⟨N, hN⟩ _ _⟩
  · rintro as0 s r s' ⟨d, n, row, rfl, h1, h2, id, h3, rfl, rfl⟩ hf
    exact hf.set' _ _
  · rintro as0 s id so hid hso ⟨d, n, row, rfl, h1, h2⟩
    have he := Ext.new hid so
    refine ⟨⟨d, n, row, rfl, h1.ext he, h2⟩, ?_⟩
    rintro r s' ⟨d', n', row', e1, g1, g2, id', g3, rfl, rfl⟩
    injection e1 with e2 e3
    injection e2 with e2
    injection e3 with e3 _
    injection e3 with e3
    injection e3 with _ e3
    have e3 : n = n' := by omega
    subst e2 e3
    have e4 := rows_fun (h1.ext he).rows g1.rows
    injection e4 with e4 _
    subst e4
    have hne : id' ≠ id := fun e => by subst e; rw [Store.set_same] at g3; exact hso g3
    rw [Store.set_ne _ _ hne] at g3
    refine ⟨s.set id' (.live t (List.replicate n row)), ⟨d, n, row, rfl, h1, h2, id', g3, rfl, rfl⟩, ?_, set_comm (Ne.symm hne) _ _⟩
    rw [Store.set_ne _ _ (Ne.symm hne)]; exact hid
/-- The object that a slice lies in. -/
def idOf : D → Option Nat
  | .osl id _ _ => some id
  | _ => none
/-- Lists that share no object. -/
def Apart (a b : D) : Prop := ∀ id, idOf a = some id → idOf b ≠ some id
theorem Apart.symm {a b : D} (h : Apart a b) : Apart b a := fun id h1 h2 => h id h2 h1
theorem Own.at_new {σ0 : Store} {el : TypeId} {id n : Nat} {rs : List (List D)} (hid : σ0 id = .free) (he : Ext σ0 σ) (h : σ id = .live el rs) (hsz : rs.length < 2 ^ 60) (hn : n = rs.length) : Own P σ0 σ el (.osl id 0 n) rs :=
  ⟨At.fresh h hsz hn, he, osl_new hid, fun h => h, by intro e; cases e⟩
/-- What is new is apart from what was there. -/
theorem Own.apart {σ0 : Store} {el el' : TypeId} {d d' : D} {rs rs' : List (List D)} (h : Own P σ0 σ el d rs) (h' : At P σ0 el' d' rs') : Apart d' d := by
  intro id h1 h2
  cases d' with
  | osl i a n =>
    have e1 : i = id := by simpa [idOf] using h1
    subst e1
    cases d with
    | osl i' a' n' =>
      have e2 : i' = i := by simpa [idOf] using h2
      subst e2
      have := h.new _ _ _ rfl
      obtain ⟨t, rows, g1, _⟩ := h'.rows
      rw [this] at g1; cases g1
    | _ => simp [idOf] at h2
  | _ => simp [idOf] at h1
theorem Own.from {σ0 σ1 : Store} {el : TypeId} {d : D} {rs : List (List D)} (he : Ext σ0 σ1) (h : Own P σ1 σ el d rs) : Own P σ0 σ el d rs :=
  ⟨h.at_, he.trans h.ext, fun id i len e => by
    have h1 := h.new id i len e
    by_cases hf : σ0 id = .free
    · exact hf
    · have := he id hf; rw [h1] at this; exact this.symm, h.nsl, h.nz⟩
def newCo (c : Cf) (now : Int) : Co :=
  ⟨List.replicate c.Secs.length (-1), List.replicate c.Rts.length ⟨0, 0, 0, 0⟩, c.Secs.map fun s => ⟨0, if s.Kind = 1 then now else 0⟩, List.replicate c.Xs.length ⟨1, now⟩, List.replicate 4 ⟨0, 0, 0, 0, 0, 0, 0, 0⟩, List.replicate c.Secs.length 0, true⟩
end Go.Fw
end
section
set_option linter.unusedVariables false
set_option linter.unusedSimpArgs false
namespace Go.Proofs.Yteflnjedfmmddaa
open Go.Fw Go.Proofs Go.RowKit
variable {σ : Store}
def mvAt (now : Int) (s : Sec) : Mv := ⟨0, if s.Kind = 1 then now else 0⟩
theorem locks_movers_ok {c0 c1 c2 c3 c4 : D} {c : Cf} (h : ∀ s, CfAt s c0 c1 c2 c3 c4 c) (now : Int) (h1 : c.Secs.length ≤ 2 ^ 20) (h2 : c.Xs.length ≤ 2 ^ 20) :
    DCalls Try.prog n_locks_movers [cfA c0 c1 c2 c3 c4 c, iA now] σ fun r s => ∃ d1 d2, r = .tup [.one d1, .one d2] ∧ Own Try.prog σ s t_Mover d1 ((c.Secs.map (mvAt now)).map Mv.enc) ∧ Own Try.prog σ s t_Mover d2 ((List.replicate c.Xs.length (⟨1, now⟩ : Mv)).map Mv.enc) ∧ Apart d1 d2 := by
  refine W_locks_movers _ _ _ _ _ _ _ _ _ now σ _ ((h σ).secs.lenK ⟨by omega, by omega, by rw [List.length_map]; omega, newObj_intro fun id s1 hid _ he hs => (h s1).secs.lenK ?_⟩)
  rw [List.length_map, Int.toNat_natCast]
  refine ⟨fun n s => ∃ j : Nat, n = j ∧ j ≤ c.Secs.length ∧ Ext σ s ∧ s id = .live t_Mover (((c.Secs.take j).map (mvAt now)).map Mv.enc ++ List.replicate (c.Secs.length - j) [iD 0, iD 0]), fun n _ => c.Secs.length - n.toNat, ⟨0, rfl, by omega, he, by simpa using hs⟩, ?_⟩
  rintro _ s ⟨j, rfl, hj, hes, hl⟩
  refine bcd (fun hlt => ?_) (fun hge => ?_)
  · obtain ⟨x, hx⟩ := get_of_lt (l := c.Secs) (j := j) (by omega)
    refine (h s).secs.load (map_get hx) c_Section rfl ⟨x.Kind, x.OC, x.Line, rfl, ?_⟩
    have hw : w64 ((j : Int) + 1) = ((j + 1 : Nat) : Int) := w64_succ (by omega)
    have htake : c.Secs.take (j + 1) = c.Secs.take j ++ [x] := by rw [List.take_add_one, hx]; rfl
    have hlr : (((c.Secs.take j).map (mvAt now)).map Mv.enc ++ List.replicate (c.Secs.length - j) ([iD 0, iD 0] : List D)).length = c.Secs.length := by simp; omega
    have hsplit : List.replicate (c.Secs.length - j) ([iD 0, iD 0] : List D) = [iD 0, iD 0] :: List.replicate (c.Secs.length - (j + 1)) [iD 0, iD 0] := by
      rw [show c.Secs.length - j = (c.Secs.length - (j + 1)) + 1 by omega, List.replicate_succ]
    have hln : (((c.Secs.take j).map (mvAt now)).map Mv.enc).length = j := by rw [List.length_map, List.length_map, List.length_take]; omega
    have hmu : c.Secs.length - ((j + 1 : Nat) : Int).toNat < c.Secs.length - ((j : Nat) : Int).toNat := by omega
    refine bce (fun hk => (Start_ok now).use ⟨0, now, rfl, ?_⟩) (fun hk => ?_)
    · refine ⟨c.Secs.length, ⟨by omega, t_Mover, _, hl, c_Mover⟩, by omega, by omega, ?_⟩
      have hrowj : (((c.Secs.take j).map (mvAt now)).map Mv.enc ++ List.replicate (c.Secs.length - j) ([iD 0, iD 0] : List D))[0 + j]? = some [iD 0, iD 0] := by
        rw [Nat.zero_add, List.getElem?_append_right (by omega), hln, Nat.sub_self, hsplit]; rfl
      refine ⟨id, 0, c.Secs.length, t_Mover, _, [iD 0, iD 0], rfl, by omega, hl, hrowj, by simp, ?_⟩
      rw [hw]
      refine ⟨⟨j + 1, rfl, by omega, hes.set hid _, ?_⟩, hmu⟩
      rw [Store.set_same, htake, Int.toNat_natCast, Nat.zero_add, hsplit]
      congr 1
      rw [List.set_append_right _ _ (by omega), hln, Nat.sub_self, List.set_cons_zero]
      simp [mvAt, hk, Mv.enc, patch]
    · rw [hw]
      refine ⟨⟨j + 1, rfl, by omega, hes, ?_⟩, hmu⟩
      rw [hl, htake, hsplit]
      simp [mvAt, hk, Mv.enc]
  · have e : j = c.Secs.length := by omega
    subst e
    rw [List.take_length, Nat.sub_self, List.replicate_zero, List.append_nil] at hl
    refine newObj_intro fun id1 s2 hid1 _ he2 hs2 => (h s2).xs.lenK ?_
    rw [List.length_map]
    refine (Repeat_Mover_ok (At.fresh hs2 (by simp) rfl) h2).mono ?_
    rintro r s3 ⟨id3, hid3, rfl, rfl⟩
    have he3 : Ext s2 (s2.set id3 (.live t_Mover (List.replicate c.Xs.length [iD 1, iD now]))) := Ext.new hid3 _
    have hne : id ≠ id3 := fun e => by
      rw [← e] at hid3
      have := he2 id (by rw [hl]; intro e; cases e)
      rw [hid3, hl] at this; cases this
    have hf3 : σ id3 = .free := by
      by_cases hf : σ id3 = .free
      · exact hf
      · have := (hes.trans he2) id3 hf
        rw [hid3] at this; exact this.symm
    refine ⟨_, rfl, _, _, rfl, ?_, ?_, ?_⟩
    · refine Own.at_new hid ((hes.trans he2).trans he3) (rs := (c.Secs.map (mvAt now)).map Mv.enc) ?_ (by simp; omega) (by simp)
      rw [Store.set_ne _ _ hne, he2 id (by rw [hl]; intro e; cases e), hl]
    · refine Own.at_new hf3 ((hes.trans he2).trans he3) (rs := (List.replicate c.Xs.length (⟨1, now⟩ : Mv)).map Mv.enc) ?_ (by simp; omega) (by simp)
      rw [Store.set_same]
      simp [Mv.enc]
    · intro i e1 e2
      simp only [idOf, Option.some.injEq] at e1 e2
      exact hne (e1.trans e2.symm)
/-- A state whose lists a call has made, apart from one another. -/
structure CoOwn (σ0 σ : Store) (k0 k1 k2 k3 k4 k5 : D) (k : Co) : Prop where
  own : Own Try.prog σ0 σ t_int k0 (k.Own.map encI)
  routes : Own Try.prog σ0 σ t_RouteState k1 (k.Routes.map Rs.enc)
  points : Own Try.prog σ0 σ t_Mover k2 (k.Points.map Mv.enc)
  xs : Own Try.prog σ0 σ t_Mover k3 (k.Xs.map Mv.enc)
  lines : Own Try.prog σ0 σ t_LineState k4 (k.Lines.map Ls.enc)
  resets : Own Try.prog σ0 σ t_int k5 (k.Resets.map encI)
  apart : [k0, k1, k2, k3, k4, k5].Pairwise Apart
theorem CoOwn.at {σ0 : Store} {k0 k1 k2 k3 k4 k5 : D} {k : Co} (h : CoOwn σ0 σ k0 k1 k2 k3 k4 k5 k) : CoAt σ k0 k1 k2 k3 k4 k5 k :=
  ⟨h.own.at_, h.routes.at_, h.points.at_, h.xs.at_, h.lines.at_, h.resets.at_⟩
theorem locks_New_ok {c0 c1 c2 c3 c4 : D} {c : Cf} (h : ∀ s, CfAt s c0 c1 c2 c3 c4 c) (now : Int) (h1 : c.Secs.length ≤ 2 ^ 20) (h2 : c.Xs.length ≤ 2 ^ 20) (h3 : c.Rts.length ≤ 2 ^ 20) :
    DCalls Try.prog n_locks_New [cfA c0 c1 c2 c3 c4 c, iA now] σ fun r s => ∃ k0 k1 k2 k3 k4 k5, r = .a (coA k0 k1 k2 k3 k4 k5 true) ∧ CoOwn σ s k0 k1 k2 k3 k4 k5 (newCo c now) := by
  obtain ⟨rows, hat, hlen⟩ := rts_len (h σ)
  refine W_locks_New _ _ _ _ _ _ _ _ _ now σ _ ⟨repPre Try.prog t_int, repPost Try.prog t_int, rep_spec fun s x row n q1 q2 => Repeat_int_ok q1 q2, (h σ).secs.lenK (hat.lenK ((h σ).secs.lenK (newObj_intro fun id s1 hid _ he1 hs1 => ?_)))⟩
  simp only [List.length_map, hlen]
  refine ⟨⟨_, _, [iD (-1)], rfl, At.fresh hs1 (by simp) rfl, h1⟩, ?_⟩
  rintro r s2 ⟨d, n, row, e1, g1, g2, id2, hid2, rfl, rfl⟩
  injection e1 with e2 e3
  injection e2 with e2
  injection e3 with e3 _
  injection e3 with e3
  injection e3 with _ e3
  have e3 : c.Secs.length = n := by omega
  subst e2 e3
  have e4 := rows_fun (At.fresh hs1 (by simp) rfl : At Try.prog s1 t_int (.osl id 0 1) _).rows g1.rows
  injection e4 with e4 _
  subst e4
  generalize hs2 : s1.set id2 (SO.live t_int (List.replicate c.Secs.length [D.int IntKind.i64 (-1)])) = s2
  have he2 : Ext s1 s2 := by rw [← hs2]; exact Ext.new hid2 _
  have hl2 : s2 id2 = .live t_int (List.replicate c.Secs.length [iD (-1)]) := by rw [← hs2]; exact Store.set_same _ _ _
  have o0 : Own Try.prog s1 s2 t_int (.osl id2 0 c.Secs.length) (List.replicate c.Secs.length [iD (-1)]) := .at_new hid2 he2 hl2 (by simp; omega) (by simp)
  refine ⟨_, rfl, by omega, by omega, by omega, newObj_intro fun id3 s3 hid3 _ he3 hs3 => ⟨by omega, by omega, by omega, newObj_intro fun id4 s4 hid4 _ he4 hs4 => ⟨by omega, by omega, by omega, newObj_intro fun id5 s5 hid5 _ he5 hs5 => ?_⟩⟩⟩
  simp only [Int.toNat_natCast] at hs3 hs5 ⊢
  have o1 : Own Try.prog s2 s3 t_RouteState (.osl id3 0 c.Rts.length) (List.replicate c.Rts.length [iD 0, iD 0, iD 0, iD 0]) := .at_new hid3 he3 hs3 (by simp; omega) (by simp)
  have o4 : Own Try.prog s3 s4 t_LineState (.osl id4 0 4) (List.replicate 4 [iD 0, iD 0, iD 0, iD 0, iD 0, iD 0, iD 0, iD 0]) := .at_new hid4 he4 hs4 (by simp) (by simp)
  have o5 : Own Try.prog s4 s5 t_int (.osl id5 0 c.Secs.length) (List.replicate c.Secs.length [iD 0]) := .at_new hid5 he5 hs5 (by simp; omega) (by simp)
  refine (locks_movers_ok h now h1 h2).mono ?_
  rintro r s6 ⟨d1, d2, rfl, o2, o3, hap⟩
  refine ⟨d1, d2, rfl, _, _, _, _, _, _, rfl, ?_⟩
  have a3 := o0.at_.ext he3
  have a4 := a3.ext he4
  have a5 := a4.ext he5
  have b4 := o1.at_.ext he4
  have b5 := b4.ext he5
  have c5 := o4.at_.ext he5
  have f1 := he1.trans he2
  have f2 := f1.trans he3
  have f3 := f2.trans he4
  have f4 := f3.trans he5
  refine ⟨?_, ?_, ?_, ?_, ?_, ?_, ?_⟩
  · have : List.map encI (newCo c now).Own = List.replicate c.Secs.length [iD (-1)] := by simp [newCo, encI]
    rw [this]; exact (((o0.ext' he3).ext' he4).ext' he5).ext' o2.ext |>.from he1
  · have : List.map Rs.enc (newCo c now).Routes = List.replicate c.Rts.length [iD 0, iD 0, iD 0, iD 0] := by simp [newCo, Rs.enc]
    rw [this]; exact ((o1.ext' he4).ext' he5).ext' o2.ext |>.from f1
  · exact o2.from f4
  · exact o3.from f4
  · have : List.map Ls.enc (newCo c now).Lines = List.replicate 4 [iD 0, iD 0, iD 0, iD 0, iD 0, iD 0, iD 0, iD 0] := by simp [newCo, Ls.enc]
    rw [this]; exact (o4.ext' he5).ext' o2.ext |>.from f2
  · have : List.map encI (newCo c now).Resets = List.replicate c.Secs.length [iD 0] := by simp [newCo, encI]
    rw [this]; exact (o5.ext' o2.ext).from f3
  · simp only [List.pairwise_cons, List.mem_cons, List.not_mem_nil, or_false, forall_eq_or_imp, forall_eq, List.Pairwise.nil, and_true, false_imp_iff, implies_true]
    exact ⟨⟨o1.apart o0.at_, o2.apart a5, o3.apart a5, o4.apart a3, o5.apart a4⟩, ⟨o2.apart b5, o3.apart b5, o4.apart o1.at_, o5.apart b4⟩, ⟨hap, (o2.apart c5).symm, (o2.apart o5.at_).symm⟩, ⟨(o3.apart c5).symm, (o3.apart o5.at_).symm⟩, o5.apart o4.at_⟩
end Go.Proofs.Yteflnjedfmmddaa
end
section
set_option linter.unusedVariables false
set_option linter.unusedSimpArgs false
namespace Go.Fw
variable {P : Program} {σ : Store}
/-- An element is written. -/
theorem At.store {el : TypeId} {d : D} {rs : List (List D)} {j off : Nat} {n : Nat} {row xs : List D} {K : Store → Prop} (h : At P σ el d rs) (hd : ¬ isSl d) (hr : rs[j]? = some row) (hn : n = j) (ho : off + xs.length ≤ row.length)
    (hK : ∀ s' id, idOf d = some id → At P s' el d (rs.set j (patch row off xs)) → (∀ i, i ≠ id → s' i = σ i) → s' id ≠ .free → K s') : storeEl xs σ d n off K := by
  subst hn
  have hrows := h.rows
  have hj := (List.getElem?_eq_some_iff.1 hr).1
  cases d <;> simp only [Go.Fw.Rows] at hrows <;> try exact hrows.elim
  · subst hrows; simp at hr
  · subst hrows; simp at hr
  · exact absurd trivial hd
  · obtain ⟨t, rows, h1, h2, h3, rfl⟩ := hrows
    rename_i id i0 len
    have hjl : n < len := by simp at hj; omega
    have hrow : rows[i0 + n]? = some row := by
      rw [List.getElem?_take, if_pos hjl, List.getElem?_drop] at hr; exact hr
    refine ⟨id, i0, len, t, rows, row, rfl, hjl, h1, hrow, ho, hK _ id rfl ⟨⟨t, _, Store.set_same _ _ _, h2, by simp; omega, ?_⟩, ?_, fun es rows e => by cases e⟩ (fun i hi => Store.set_ne _ _ hi) (by rw [Store.set_same]; intro e; cases e)⟩
    · rw [List.drop_set, if_neg (by omega), List.take_set]
      congr 1; omega
    · have := h.size; simpa using this
/-- A look at an element. -/
structure Lk where
  Value : Int
  Stamp : Int
  Valid : Bool
def Lk.enc (l : Lk) : List D := [iD l.Value, iD l.Stamp, .bool l.Valid]
end Go.Fw
end
section
set_option linter.unusedVariables false
set_option linter.unusedSimpArgs false
namespace Go.Proofs.Yteflnjedfmmddaa
open Go.Fw Go.Proofs Go.RowKit
variable {σ : Store}
section
variable {c0 c1 c2 c3 c4 : D} {c : Cf}
end
/-- The state's lists are of a size that memory bears, and none may be either nil or empty. -/
structure CoFit (k0 k1 k2 k3 k4 k5 : D) (k : Co) : Prop where
  n0 : k0 ≠ .zsl
  n1 : k1 ≠ .zsl
  n2 : k2 ≠ .zsl
  n3 : k3 ≠ .zsl
  n4 : k4 ≠ .zsl
  n5 : k5 ≠ .zsl
  b0 : 8 * k.Own.length ≤ 140737488355328
  b1 : 32 * k.Routes.length ≤ 140737488355328
  b2 : 16 * k.Points.length ≤ 140737488355328
  b3 : 16 * k.Xs.length ≤ 140737488355328
  b4 : 64 * k.Lines.length ≤ 140737488355328
  b5 : 8 * k.Resets.length ≤ 140737488355328
/-- A list stays as it is where another object is written. -/
theorem own_other {σ0 s s' : Store} {el : TypeId} {d : D} {rs : List (List D)} {id : Nat} (h : Own Try.prog σ0 s el d rs) (hid : σ0 id = .free) (hd : idOf d ≠ some id) (hs : ∀ i, i ≠ id → s' i = s i) : Own Try.prog σ0 s' el d rs :=
  ⟨h.at_.same fun i a n e => hs i fun e2 => hd (by subst e; rw [← e2]; rfl), fun i hi => by
    have hne : i ≠ id := fun e => hi (by rw [e]; exact hid)
    rw [hs i hne]; exact h.ext i hi, h.new, h.nsl, h.nz⟩
end Go.Proofs.Yteflnjedfmmddaa
end
section
namespace Go.Fw
def zLs : Ls := ⟨0, 0, 0, 0, 0, 0, 0, 0⟩
theorem map_set {α β : Type} (f : α → β) (l : List α) (i : Nat) (x : α) : (l.map f).set i (f x) = (l.set i x).map f := by simp
end Go.Fw
end
section
set_option linter.unusedVariables false
set_option linter.unusedSimpArgs false
namespace Go.Proofs.Yteflnjedfmmddaa
open Go.Fw Go.Proofs Go.RowKit
variable {σ : Store}
section
variable {σ0 : Store} {id : Nat} {d0 d1 d2 d3 d4 d5 c0 c1 c2 c3 c4 v0 v1 v2 v3 : D} {k : Co} {c : Cf} {now : Int} {was : Bool}
theorem own_id {s : Store} {el : TypeId} {d : D} {rs : List (List D)} {i : Nat} (h : Own Try.prog σ0 s el d rs) (hi : idOf d = some i) : σ0 i = .free := by
  cases d with
  | osl j a n =>
    have : j = i := by simpa [idOf] using hi
    subst this
    exact h.new _ _ _ rfl
  | _ => simp [idOf] at hi
theorem pw {l : List D} (h : l.Pairwise Apart) {i j : Nat} {a b : D} (hi : l[i]? = some a) (hj : l[j]? = some b) (hne : i ≠ j) : Apart a b := by
  obtain ⟨h1, rfl⟩ := List.getElem?_eq_some_iff.1 hi
  obtain ⟨h2, rfl⟩ := List.getElem?_eq_some_iff.1 hj
  rw [List.pairwise_iff_getElem] at h
  rcases Nat.lt_or_gt_of_ne hne with g | g
  · exact h i j h1 h2 g
  · exact (h j i h2 h1 g).symm
end
end Go.Proofs.Yteflnjedfmmddaa
end
section
namespace Go.Fw
structure Vw where
  Occ : List Lk
  Pos : List Lk
  Shut : List Lk
  Lamp : List Lk
def Vw.fits (c : Cf) (v : Vw) : Bool := decide (v.Occ.length = c.Secs.length ∧ v.Pos.length = c.Secs.length ∧ v.Shut.length = c.Xs.length ∧ v.Lamp.length = c.Sigs.length)
theorem fits_lens {c : Cf} {k : Co} (h : k.fits c = true) : k.Own.length = c.Secs.length ∧ k.Points.length = c.Secs.length ∧ k.Resets.length = c.Secs.length ∧ k.Routes.length = c.Rts.length ∧ k.Xs.length = c.Xs.length ∧ k.Lines.length = 4 := by
  simp only [Co.fits, Bool.and_eq_true] at h
  exact of_decide_eq_true h.2.1
end Go.Fw
end
section
set_option linter.unusedVariables false
set_option linter.unusedSimpArgs false
namespace Go.Proofs.Yteflnjedfmmddaa
open Go.Fw Go.Proofs Go.RowKit
variable {σ : Store}
/-- A view's cells. -/
structure VwAt (v0 v1 v2 v3 : D) (v : Vw) : Prop where
  occ : ∀ s, At Try.prog s t_Look v0 (v.Occ.map Lk.enc)
  pos : ∀ s, At Try.prog s t_Look v1 (v.Pos.map Lk.enc)
  shut : ∀ s, At Try.prog s t_Look v2 (v.Shut.map Lk.enc)
  lamp : ∀ s, At Try.prog s t_Look v3 (v.Lamp.map Lk.enc)
section
variable {c0 c1 c2 c3 c4 v0 v1 v2 v3 k0 k1 k2 k3 k4 k5 : D} {c : Cf} {k : Co} {v : Vw}
end
end Go.Proofs.Yteflnjedfmmddaa
end
section
set_option linter.unusedVariables false
set_option linter.unusedSimpArgs false
namespace Go.Proofs.Yteflnjedfmmddaa
open Go.Fw Go.Proofs Go.RowKit
variable {σ : Store}
theorem own_frz {s : Store} {el : TypeId} {d : D} {rs : List (List D)} (h : Own Try.prog σ s el d rs) (hf : ∀ row ∈ rs, ∀ x ∈ row, Flat x) :
    ∃ d', Fz Try.prog s (fun i => σ i ≠ .free) d d' ∧ (∀ s'', At Try.prog s'' el d' rs) ∧ d' ≠ .zsl := by
  obtain ⟨d', h1, h2⟩ := ret_slice h.at_ h.ext h.new hf
  exact ⟨d', h1, h2, fun e => by subst e; cases h1; exact h.nz rfl⟩
theorem flat_ints {α : Type} (f : α → List D) (hf : ∀ a, ∀ d ∈ f a, Flat d) (l : List α) : ∀ row ∈ l.map f, ∀ d ∈ row, Flat d := by
  intro row hrow d hd
  obtain ⟨a, _, rfl⟩ := List.mem_map.1 hrow
  exact hf a d hd
/-- The state's lists lie nowhere in the store. -/
structure CoFz (d0 d1 d2 d3 d4 d5 : D) (k : Co) : Prop where
  at_ : ∀ s, CoAt s d0 d1 d2 d3 d4 d5 k
  n0 : d0 ≠ .zsl
  n1 : d1 ≠ .zsl
  n2 : d2 ≠ .zsl
  n3 : d3 ≠ .zsl
  n4 : d4 ≠ .zsl
  n5 : d5 ≠ .zsl
theorem co_frz {s : Store} {d0 d1 d2 d3 d4 d5 : D} {k : Co} (h : CoOwn σ s d0 d1 d2 d3 d4 d5 k) : ∃ e0 e1 e2 e3 e4 e5, FzL Try.prog s (fun i => σ i ≠ .free) [d0, d1, d2, d3, d4, d5, .bool k.Dirty] [e0, e1, e2, e3, e4, e5, .bool k.Dirty] ∧ CoFz e0 e1 e2 e3 e4 e5 k := by
  have fI : ∀ n : Int, ∀ d ∈ encI n, Flat d := fun n d hd => by simp [encI] at hd; subst hd; exact .int _ _
  have fR : ∀ r : Rs, ∀ d ∈ r.enc, Flat d := fun r d hd => by simp [Rs.enc] at hd; rcases hd with rfl | rfl | rfl | rfl <;> exact .int _ _
  have fM : ∀ r : Mv, ∀ d ∈ r.enc, Flat d := fun r d hd => by simp [Mv.enc] at hd; rcases hd with rfl | rfl <;> exact .int _ _
  have fL : ∀ r : Ls, ∀ d ∈ r.enc, Flat d := fun r d hd => by simp [Ls.enc] at hd; rcases hd with rfl | rfl | rfl | rfl | rfl | rfl | rfl | rfl <;> exact .int _ _
  obtain ⟨e0, a0, b0, n0⟩ := own_frz h.own (flat_ints _ fI _)
  obtain ⟨e1, a1, b1, n1⟩ := own_frz h.routes (flat_ints _ fR _)
  obtain ⟨e2, a2, b2, n2⟩ := own_frz h.points (flat_ints _ fM _)
  obtain ⟨e3, a3, b3, n3⟩ := own_frz h.xs (flat_ints _ fM _)
  obtain ⟨e4, a4, b4, n4⟩ := own_frz h.lines (flat_ints _ fL _)
  obtain ⟨e5, a5, b5, n5⟩ := own_frz h.resets (flat_ints _ fI _)
  exact ⟨e0, e1, e2, e3, e4, e5, .cons a0 (.cons a1 (.cons a2 (.cons a3 (.cons a4 (.cons a5 (.cons (.bool _) .nil)))))), ⟨fun s => ⟨b0 s, b1 s, b2 s, b3 s, b4 s, b5 s⟩, n0, n1, n2, n3, n4, n5⟩⟩
end Go.Proofs.Yteflnjedfmmddaa
end
section
set_option linter.unusedVariables false
set_option linter.unusedSimpArgs false
namespace Go.Fw
variable {P : Program}
/-- What a cell holds. -/
inductive Cs
  | int (k : IntKind)
  | bool
  | str
  | sl (e : TypeId)
def fieldsSh (g : TypeId → Option (List Cs)) : List Field → Option (List Cs)
  | [] => some []
  | f :: fs => match g f.type, fieldsSh g fs with
    | some a, some b => some (a ++ b)
    | _, _ => none
def cellsSh (P : Program) : Nat → TypeId → Option (List Cs)
  | 0, _ => none
  | m + 1, t => match P.underlying t with
    | some .bool => some [.bool]
    | some (.int k) => some [.int k]
    | some .string => some [.str]
    | some (.slice e) => some [.sl e]
    | some (.struct fs) => fieldsSh (cellsSh P m) fs.toList
    | some (.array k e) => (cellsSh P m e).map fun l => (List.replicate k l).flatten
    | _ => none
def CsOk (P : Program) : Cs → D → Prop
  | .int k, d => ∃ m, d = .int k m ∧ (Lit.int k m).wf = true
  | .bool, d => ∃ b, d = .bool b
  | .str, d => ∃ s, d = .str s ∧ s.size ≤ 140737488351232
  | .sl e, d => d = .nils ∨ ∃ rows, d = .sl (P.cellsOf e) rows ∧ rows.length * P.bytesOf e ≤ 140737488351232 ∧ ∀ row ∈ rows, ∃ n, tyD P n e row
def CsL (P : Program) : List Cs → List D → Prop
  | [], ds => ds = []
  | s :: ss, ds => ∃ d r, ds = d :: r ∧ CsOk P s d ∧ CsL P ss r
theorem CsL.append {a b : List Cs} {x y : List D} (h1 : CsL P a x) (h2 : CsL P b y) : CsL P (a ++ b) (x ++ y) := by
  induction a generalizing x with
  | nil => simp only [CsL] at h1; subst h1; exact h2
  | cons s a ih =>
    obtain ⟨d, r, rfl, q1, q2⟩ := h1
    exact ⟨d, r ++ y, rfl, q1, ih q2⟩
theorem fields_sh {g : TypeId → Option (List Cs)} {ty : TypeId → List D → Prop} (ih : ∀ t ds shs, ty t ds → g t = some shs → CsL P shs ds) : ∀ (fs : List Field) (ds : List D) (shs : List Cs), tyF P ty fs ds → fieldsSh g fs = some shs → CsL P shs ds
  | [], ds, shs, h1, h2 => by
    simp only [tyF] at h1; simp only [fieldsSh] at h2
    cases h2; subst h1; rfl
  | f :: fs, ds, shs, h1, h2 => by
    obtain ⟨a, b, rfl, _, q1, q2⟩ := h1
    rw [fieldsSh] at h2
    split at h2
    · rename_i x y e1 e2
      cases h2
      exact (ih _ _ _ q1 e1).append (fields_sh ih fs b y q2 e2)
    · cases h2
theorem rep_sh {ty : TypeId → List D → Prop} {e : TypeId} {l : List Cs} (ih : ∀ ds, ty e ds → CsL P l ds) : ∀ (k : Nat) (ds : List D), tyR P ty e k ds → CsL P (List.replicate k l).flatten ds
  | 0, ds, h => by simp only [tyR] at h; subst h; rfl
  | k + 1, ds, h => by
    obtain ⟨a, b, rfl, _, q1, q2⟩ := h
    rw [List.replicate_succ, List.flatten_cons]
    exact (ih a q1).append (rep_sh ih k b q2)
/-- The cells of a value of a plain type, one by one. -/
theorem ty_sh : ∀ (n m : Nat) (t : TypeId) (ds : List D) (shs : List Cs), tyD P n t ds → cellsSh P m t = some shs → CsL P shs ds
  | 0, _, _, _, _, h, _ => h.elim
  | _ + 1, 0, _, _, _, _, h => by cases h
  | n + 1, m + 1, t, ds, shs, h1, h2 => by
    unfold tyD at h1
    unfold cellsSh at h2
    split at h1
    · rename_i hu
      rw [hu] at h2; cases h2
      obtain ⟨b, rfl⟩ := h1
      exact ⟨_, _, rfl, ⟨b, rfl⟩, rfl⟩
    · rename_i k hu
      rw [hu] at h2; cases h2
      obtain ⟨b, rfl, hw⟩ := h1
      exact ⟨_, _, rfl, ⟨b, rfl, hw⟩, rfl⟩
    · rename_i hu
      rw [hu] at h2; cases h2
      obtain ⟨b, rfl, hw⟩ := h1
      exact ⟨_, _, rfl, ⟨b, rfl, hw⟩, rfl⟩
    · rename_i e hu
      rw [hu] at h2; cases h2
      rcases h1 with rfl | ⟨rows, rfl, q1, q2⟩
      · exact ⟨_, _, rfl, .inl rfl, rfl⟩
      · exact ⟨_, _, rfl, .inr ⟨rows, rfl, q1, fun row hr => ⟨n, q2 row hr⟩⟩, rfl⟩
    · rename_i fs hu
      rw [hu] at h2
      exact fields_sh (fun t ds shs a b => ty_sh n m t ds shs a b) fs.toList ds shs h1 h2
    · rename_i k e hu
      rw [hu] at h2
      simp only [Option.map_eq_some_iff] at h2
      obtain ⟨l, e1, rfl⟩ := h2
      exact rep_sh (fun ds a => ty_sh n m e ds l a e1) k ds h1
    · exact h1.elim
/-- A whole number of Go's int. -/
def I64 (n : Int) : Prop := -9223372036854775808 ≤ n ∧ n ≤ 9223372036854775807
theorem wf_i64 {n : Int} (h : (Lit.int .i64 n).wf = true) : I64 n := by
  simp only [Lit.wf, IntKind.min, IntKind.max, IntKind.signed, IntKind.bits, Bool.and_eq_true, decide_eq_true_eq, if_true] at h
  unfold I64
  omega
theorem I64.w {n : Int} (h : I64 n) : w64 n = n := w64_id h.1 h.2
/-- A slice's rows, each of them one's. -/
theorem sh_rel {α : Type} {e : TypeId} {d : D} {bytes : Nat} (R : List D → α → Prop) (hf : ∀ row n, tyD P n e row → ∃ a, R row a) (hb : P.bytesOf e = bytes) (hb0 : 0 < bytes) (h : CsOk P (.sl e) d) :
    ∃ (rows : List (List D)) (l : List α), (∀ s, At P s e d rows) ∧ rows.length = l.length ∧ (∀ (i : Nat) row a, rows[i]? = some row → l[i]? = some a → R row a) ∧ d ≠ .zsl ∧ bytes * l.length ≤ 140737488351232 := by
  rcases h with rfl | ⟨rows, rfl, q1, q2⟩
  · exact ⟨[], [], fun s => .nil, rfl, fun i row a h => by simp at h, (by intro e; cases e), by simp⟩
  · have key : ∀ rows : List (List D), (∀ row ∈ rows, ∃ n, tyD P n e row) → ∃ l : List α, rows.length = l.length ∧ ∀ (i : Nat) row a, rows[i]? = some row → l[i]? = some a → R row a := by
      intro rows
      induction rows with
      | nil => intro _; exact ⟨[], rfl, fun i row a h => by simp at h⟩
      | cons r rs ih =>
        intro hr
        obtain ⟨l, e1, e2⟩ := ih fun row h => hr row (by simp [h])
        obtain ⟨n, hn⟩ := hr r (by simp)
        obtain ⟨a, ha⟩ := hf r n hn
        refine ⟨a :: l, by simp [e1], fun i row b h1 h2 => ?_⟩
        cases i with
        | zero => simp at h1 h2; subst h1 h2; exact ha
        | succ i => exact e2 i row b (by simpa using h1) (by simpa using h2)
    obtain ⟨l, hl, hR⟩ := key rows q2
    rw [hb, hl] at q1
    have q3 : bytes * l.length ≤ 140737488351232 := by rw [Nat.mul_comm]; exact q1
    have h1 : 1 * l.length ≤ bytes * l.length := Nat.mul_le_mul_right _ hb0
    refine ⟨rows, l, fun s => ⟨⟨rfl, .inr rfl⟩, by omega, fun es rows e => ?_⟩, hl, hR, (by intro e; cases e), q3⟩
    injection e with e1 e2
    exact e1.symm
/-- A slice's rows, each the cells of one. -/
theorem sh_rows {α : Type} {e : TypeId} {d : D} {bytes : Nat} (f : α → List D) (Q : α → Prop) (hf : ∀ row n, tyD P n e row → ∃ a, row = f a ∧ Q a) (hb : P.bytesOf e = bytes) (hb0 : 0 < bytes) (h : CsOk P (.sl e) d) :
    ∃ l : List α, (∀ s, At P s e d (l.map f)) ∧ (∀ a ∈ l, Q a) ∧ d ≠ .zsl ∧ bytes * l.length ≤ 140737488351232 := by
  rcases h with rfl | ⟨rows, rfl, q1, q2⟩
  · exact ⟨[], fun s => .nil, fun a ha => by simp at ha, (by intro e; cases e), by simp⟩
  · have key : ∀ rows : List (List D), (∀ row ∈ rows, ∃ n, tyD P n e row) → ∃ l : List α, l.map f = rows ∧ ∀ a ∈ l, Q a := by
      intro rows
      induction rows with
      | nil => intro _; exact ⟨[], rfl, fun a ha => by simp at ha⟩
      | cons r rs ih =>
        intro hr
        obtain ⟨l, e1, e2⟩ := ih fun row h => hr row (by simp [h])
        obtain ⟨n, hn⟩ := hr r (by simp)
        obtain ⟨a, rfl, ha⟩ := hf r n hn
        refine ⟨a :: l, by simp [e1], fun b hb => ?_⟩
        simp only [List.mem_cons] at hb
        rcases hb with rfl | hb
        · exact ha
        · exact e2 b hb
    obtain ⟨l, rfl, hl⟩ := key rows q2
    rw [hb, List.length_map] at q1
    have q3 : bytes * l.length ≤ 140737488351232 := by rw [Nat.mul_comm]; exact q1
    have h1 : 1 * l.length ≤ bytes * l.length := Nat.mul_le_mul_right _ hb0
    refine ⟨l, fun s => ⟨⟨rfl, .inr rfl⟩, by rw [List.length_map]; omega, fun es rows e => ?_⟩, hl, (by intro e; cases e), q3⟩
    injection e with e1 e2
    exact e1.symm
theorem tya_one {t : TypeId} {x : A} (h : TyA P t x) (hg : isAggT P t = some false) : ∃ d n, x = .one d ∧ tyD P n t [d] := by
  cases x with
  | one d => exact ⟨d, 30, rfl, h.2⟩
  | agg cs => have := h.1; rw [hg] at this; cases this
theorem tya_agg {t : TypeId} {x : A} (h : TyA P t x) (hg : isAggT P t = some true) : ∃ cs n, x = .agg cs ∧ tyD P n t cs := by
  cases x with
  | one d => have := h.1; rw [hg] at this; cases this
  | agg cs => exact ⟨cs, 30, rfl, h.2⟩
theorem tys_cons {t : TypeId} {ts : List TypeId} {as0 : List A} (h : TyAs P (t :: ts) as0) : ∃ a r, as0 = a :: r ∧ TyA P t a ∧ TyAs P ts r := h
theorem tys_nil {as0 : List A} (h : TyAs P [] as0) : as0 = [] := h
/-- A value of a plain type, all zero. -/
def csZero : Cs → Value
  | .int k => .int k 0
  | .bool => .bool false
  | .str => .string .empty
  | .sl _ => .slice none 0 0
def zeroArg (P : Program) (t : TypeId) : Value := match isAggT P t, cellsSh P 9 t with
  | some true, some l => .agg (l.map csZero).toArray
  | _, some [c] => csZero c
  | _, _ => .int .i64 0
end Go.Fw
namespace Go.Fw
theorem law_fn3 {H : Type} {s : List (DataW H) → Left H} {ds : List (DataW H)} (h : ds.length = 3) (hs : ∀ a b c, s [a, b, c] = { results := [.lit (.bool true)], args := [a, b, c] } := by intros; rfl) : s ds = { results := [.lit (.bool true)], args := ds } := by
  match ds, h with
  | [a, b, c], _ => exact hs a b c
end Go.Fw
namespace Go.Fw
/-- How far two lists have been found alike. -/
def EqR {α : Type} (la lb : List α) (n : Int) : Prop := ∃ j : Nat, n = j ∧ j ≤ la.length ∧ la.take j = lb.take j
theorem EqR.start {α : Type} (la lb : List α) : EqR la lb 0 := ⟨0, rfl, by omega, by simp⟩
theorem EqR.step {α : Type} {la lb : List α} {n : Int} {m : Nat} (h : EqR la lb n) (hl : la.length = lb.length) (hm : m = la.length) (hs : la.length < 2 ^ 60) (hlt : n < (m : Int)) :
    ∃ (j : Nat) (x y : α), n = j ∧ la[j]? = some x ∧ lb[j]? = some y ∧ (x ≠ y → la ≠ lb) ∧ (x = y → EqR la lb (w64 (n + 1)) ∧ la.length - (w64 (n + 1)).toNat < la.length - n.toNat) := by
  obtain ⟨j, rfl, hj, hF⟩ := h
  have hj' : j < la.length := by omega
  obtain ⟨x, hx⟩ := get_of_lt hj'
  obtain ⟨y, hy⟩ := get_of_lt (l := lb) (j := j) (by omega)
  refine ⟨j, x, y, rfl, hx, hy, fun hne e => ?_, fun e => ?_⟩
  · subst e; rw [hx] at hy; cases hy; exact hne rfl
  · rw [w64_succ (by omega)]
    refine ⟨⟨j + 1, rfl, by omega, ?_⟩, by omega⟩
    rw [List.take_add_one, List.take_add_one, hF, hx, hy, e]
theorem EqR.done {α : Type} {la lb : List α} {n : Int} {m : Nat} (h : EqR la lb n) (hl : la.length = lb.length) (hm : m = la.length) (hge : ¬ n < (m : Int)) : la = lb := by
  obtain ⟨j, rfl, hj, hF⟩ := h
  have : j = la.length := by omega
  rw [List.take_of_length_le (by omega), List.take_of_length_le (by omega)] at hF
  exact hF
end Go.Fw
namespace Go.Fw
/-- An argument of one cell. -/
theorem tya_cell {P : Program} {t : TypeId} {x : A} {c : Cs} (h : TyA P t x) (hg : isAggT P t = some false) (hs : cellsSh P 5 t = some [c]) : ∃ d, x = .one d ∧ CsOk P c d := by
  obtain ⟨d, n, rfl, h1⟩ := tya_one h hg
  obtain ⟨d', r, e, h2, h3⟩ := ty_sh n 5 t _ _ h1 hs
  have : d = d' := by injection e
  exact ⟨d, rfl, this ▸ h2⟩
end Go.Fw
end
section
set_option linter.unusedVariables false
set_option linter.unusedSimpArgs false
namespace Go.Proofs.Yteflnjedfmmddaa
open Go.Fw Go.Proofs Go.RowKit
theorem ty_i {row : List D} {n : Nat} (h : tyD Try.prog n t_int row) : ∃ m, row = encI m ∧ I64 m := by
  obtain ⟨_, _, rfl, ⟨m, rfl, hm⟩, rfl⟩ := ty_sh n 2 _ _ [.int .i64] h (by kernel_rfl)
  exact ⟨m, rfl, wf_i64 hm⟩
theorem ty_i2 {t : TypeId} {row : List D} {n : Nat} (h : tyD Try.prog n t row) (hs : cellsSh Try.prog 5 t = some [.int .i64, .int .i64]) : ∃ a b, row = [iD a, iD b] ∧ I64 a ∧ I64 b := by
  obtain ⟨_, _, rfl, ⟨a, rfl, ha⟩, _, _, rfl, ⟨b, rfl, hb⟩, rfl⟩ := ty_sh n 5 _ _ _ h hs
  exact ⟨a, b, rfl, wf_i64 ha, wf_i64 hb⟩
theorem ty_i3 {t : TypeId} {row : List D} {n : Nat} (h : tyD Try.prog n t row) (hs : cellsSh Try.prog 5 t = some [.int .i64, .int .i64, .int .i64]) : ∃ a b c, row = [iD a, iD b, iD c] ∧ I64 a ∧ I64 b ∧ I64 c := by
  obtain ⟨_, _, rfl, ⟨a, rfl, ha⟩, _, _, rfl, ⟨b, rfl, hb⟩, _, _, rfl, ⟨c, rfl, hc⟩, rfl⟩ := ty_sh n 5 _ _ _ h hs
  exact ⟨a, b, c, rfl, wf_i64 ha, wf_i64 hb, wf_i64 hc⟩
theorem ty_i4 {t : TypeId} {row : List D} {n : Nat} (h : tyD Try.prog n t row) (hs : cellsSh Try.prog 5 t = some [.int .i64, .int .i64, .int .i64, .int .i64]) : ∃ a b c d, row = [iD a, iD b, iD c, iD d] ∧ I64 a ∧ I64 b ∧ I64 c ∧ I64 d := by
  obtain ⟨_, _, rfl, ⟨a, rfl, ha⟩, _, _, rfl, ⟨b, rfl, hb⟩, _, _, rfl, ⟨c, rfl, hc⟩, _, _, rfl, ⟨d, rfl, hd⟩, rfl⟩ := ty_sh n 5 _ _ _ h hs
  exact ⟨a, b, c, d, rfl, wf_i64 ha, wf_i64 hb, wf_i64 hc, wf_i64 hd⟩
theorem ty_Section {row : List D} {n : Nat} (h : tyD Try.prog n t_Section row) : ∃ s : Sec, row = s.enc ∧ I64 s.Kind ∧ I64 s.OC ∧ I64 s.Line := by
  obtain ⟨a, b, c, rfl, q⟩ := ty_i3 h (by kernel_rfl)
  exact ⟨⟨a, b, c⟩, rfl, q⟩
theorem ty_Joint {row : List D} {n : Nat} (h : tyD Try.prog n t_Joint row) : ∃ s : Jt, row = s.enc ∧ I64 s.A ∧ I64 s.AEnd ∧ I64 s.B ∧ I64 s.BEnd := by
  obtain ⟨a, b, c, d, rfl, q⟩ := ty_i4 h (by kernel_rfl)
  exact ⟨⟨a, b, c, d⟩, rfl, q⟩
theorem ty_Signal {row : List D} {n : Nat} (h : tyD Try.prog n t_Signal row) : ∃ s : Sg, row = s.enc ∧ I64 s.Sec ∧ I64 s.End_ := by
  obtain ⟨a, b, rfl, q⟩ := ty_i2 h (by kernel_rfl)
  exact ⟨⟨a, b⟩, rfl, q⟩
theorem ty_Step {row : List D} {n : Nat} (h : tyD Try.prog n t_Step row) : ∃ s : St, row = s.enc ∧ I64 s.Sec ∧ I64 s.In ∧ I64 s.Out := by
  obtain ⟨a, b, c, rfl, q⟩ := ty_i3 h (by kernel_rfl)
  exact ⟨⟨a, b, c⟩, rfl, q⟩
theorem ty_Need {row : List D} {n : Nat} (h : tyD Try.prog n t_Need row) : ∃ s : Nd, row = s.enc ∧ I64 s.Sec ∧ I64 s.Pos := by
  obtain ⟨a, b, rfl, q⟩ := ty_i2 h (by kernel_rfl)
  exact ⟨⟨a, b⟩, rfl, q⟩
/-- A route's numbers are Go's. -/
structure RtI (r : Rt) : Prop where
  entry : I64 r.Entry
  exit : I64 r.Exit
  path : ∀ s ∈ r.Path, I64 s.Sec ∧ I64 s.In ∧ I64 s.Out
  flank : ∀ s ∈ r.Flank, I64 s.Sec ∧ I64 s.Pos
  over : ∀ o ∈ r.Overlap, I64 o
  np : 24 * r.Path.length ≤ 140737488351232
  nf : 16 * r.Flank.length ≤ 140737488351232
  no : 8 * r.Overlap.length ≤ 140737488351232
theorem ty_Route {row : List D} {n : Nat} (h : tyD Try.prog n t_Route row) : ∃ r : Rt, (∀ s, RtAt Try.prog t_Step t_Need t_int s row r) ∧ RtI r := by
  obtain ⟨_, _, rfl, ⟨a, rfl, ha⟩, _, _, rfl, ⟨b, rfl, hb⟩, d1, _, rfl, h1, d2, _, rfl, h2, d3, _, rfl, h3, _, _, rfl, ⟨sh, rfl⟩, rfl⟩ := ty_sh n 5 _ _ [.int .i64, .int .i64, .sl t_Step, .sl t_Need, .sl t_int, .bool] h (by kernel_rfl)
  obtain ⟨l1, a1, b1, _, e1⟩ := sh_rows (bytes := 24) St.enc _ (fun row n h => ty_Step h) (by kernel_rfl) (by omega) h1
  obtain ⟨l2, a2, b2, _, e2⟩ := sh_rows (bytes := 16) Nd.enc _ (fun row n h => ty_Need h) (by kernel_rfl) (by omega) h2
  obtain ⟨l3, a3, b3, _, e3⟩ := sh_rows (bytes := 8) encI _ (fun row n h => ty_i h) (by kernel_rfl) (by omega) h3
  exact ⟨⟨a, b, l1, l2, l3, sh⟩, fun s => ⟨d1, d2, d3, rfl, a1 s, a2 s, a3 s⟩, wf_i64 ha, wf_i64 hb, b1, b2, b3, e1, e2, e3⟩
/-- A configuration's numbers are Go's. -/
structure CfI (c : Cf) : Prop where
  secs : ∀ s ∈ c.Secs, I64 s.Kind ∧ I64 s.OC ∧ I64 s.Line
  jts : ∀ s ∈ c.Jts, I64 s.A ∧ I64 s.AEnd ∧ I64 s.B ∧ I64 s.BEnd
  sigs : ∀ s ∈ c.Sigs, I64 s.Sec ∧ I64 s.End_
  xs : ∀ s ∈ c.Xs, I64 s
  rts : ∀ r ∈ c.Rts, RtI r
  age : I64 c.Age
  brake : I64 c.Brake
  hold : I64 c.Hold
  budget : I64 c.Budget
  nsecs : 24 * c.Secs.length ≤ 140737488351232
  njts : 32 * c.Jts.length ≤ 140737488351232
  nsigs : 16 * c.Sigs.length ≤ 140737488351232
  nxs : 8 * c.Xs.length ≤ 140737488351232
  nrts : 96 * c.Rts.length ≤ 140737488351232
theorem ty_Config {cs : List D} {n : Nat} (h : tyD Try.prog n t_Config cs) : ∃ c0 c1 c2 c3 c4 c, cs = [c0, c1, c2, c3, c4, iD c.Age, iD c.Brake, iD c.Hold, iD c.Budget] ∧ (∀ s, CfAt s c0 c1 c2 c3 c4 c) ∧ CfI c := by
  obtain ⟨c0, _, rfl, h0, c1, _, rfl, h1, c2, _, rfl, h2, c3, _, rfl, h3, c4, _, rfl, h4, _, _, rfl, ⟨a, rfl, ha⟩, _, _, rfl, ⟨b, rfl, hb⟩, _, _, rfl, ⟨ho, rfl, hho⟩, _, _, rfl, ⟨bu, rfl, hbu⟩, rfl⟩ :=
    ty_sh n 5 _ _ [.sl t_Section, .sl t_Joint, .sl t_Signal, .sl t_int, .sl t_Route, .int .i64, .int .i64, .int .i64, .int .i64] h (by kernel_rfl)
  obtain ⟨l0, a0, b0, _, e0⟩ := sh_rows (bytes := 24) Sec.enc _ (fun row n h => ty_Section h) (by kernel_rfl) (by omega) h0
  obtain ⟨l1, a1, b1, _, e1⟩ := sh_rows (bytes := 32) Jt.enc _ (fun row n h => ty_Joint h) (by kernel_rfl) (by omega) h1
  obtain ⟨l2, a2, b2, _, e2⟩ := sh_rows (bytes := 16) Sg.enc _ (fun row n h => ty_Signal h) (by kernel_rfl) (by omega) h2
  obtain ⟨l3, a3, b3, _, e3⟩ := sh_rows (bytes := 8) encI _ (fun row n h => ty_i h) (by kernel_rfl) (by omega) h3
  obtain ⟨rows, l4, a4, q4, b4, _, e4⟩ := sh_rel (bytes := 96) (fun row r => (∀ s, RtAt Try.prog t_Step t_Need t_int s row r) ∧ RtI r) (fun row n h => ty_Route h) (by kernel_rfl) (by omega) h4
  refine ⟨c0, c1, c2, c3, c4, ⟨l0, l1, l2, l3, l4, a, b, ho, bu⟩, rfl, fun s => ⟨a0 s, a1 s, a2 s, a3 s, rows, a4 s, q4, fun i row r x y => (b4 i row r x y).1 s⟩, b0, b1, b2, b3, ?_, wf_i64 ha, wf_i64 hb, wf_i64 hho, wf_i64 hbu, e0, e1, e2, e3, e4⟩
  intro r hr
  obtain ⟨i, hi⟩ := List.mem_iff_getElem?.1 hr
  have hi : l4[i]? = some r := hi
  have hlt := (List.getElem?_eq_some_iff.1 hi).1
  obtain ⟨row, hrow⟩ := get_of_lt (l := rows) (j := i) (by omega)
  exact (b4 i row r hrow hi).2
theorem ty_RouteState {row : List D} {n : Nat} (h : tyD Try.prog n t_RouteState row) : ∃ s : Rs, row = s.enc ∧ I64 s.State ∧ I64 s.Since ∧ I64 s.Next ∧ I64 s.Mark := by
  obtain ⟨a, b, c, d, rfl, q⟩ := ty_i4 h (by kernel_rfl)
  exact ⟨⟨a, b, c, d⟩, rfl, q⟩
theorem ty_Mover {row : List D} {n : Nat} (h : tyD Try.prog n t_Mover row) : ∃ s : Mv, row = s.enc ∧ I64 s.Cmd ∧ I64 s.Other := by
  obtain ⟨a, b, rfl, q⟩ := ty_i2 h (by kernel_rfl)
  exact ⟨⟨a, b⟩, rfl, q⟩
structure LsI (l : Ls) : Prop where
  ask : I64 l.Ask
  done : I64 l.Done
  grant : I64 l.Grant
  told : I64 l.Told
  pask : I64 l.PAsk
  pdone : I64 l.PDone
  pgrant : I64 l.PGrant
  since : I64 l.Since
theorem ty_LineState {row : List D} {n : Nat} (h : tyD Try.prog n t_LineState row) : ∃ s : Ls, row = s.enc ∧ LsI s := by
  obtain ⟨_, _, rfl, ⟨a, rfl, ha⟩, _, _, rfl, ⟨b, rfl, hb⟩, _, _, rfl, ⟨c, rfl, hc⟩, _, _, rfl, ⟨d, rfl, hd⟩, _, _, rfl, ⟨e, rfl, he⟩, _, _, rfl, ⟨f, rfl, hf⟩, _, _, rfl, ⟨g, rfl, hg⟩, _, _, rfl, ⟨i, rfl, hi⟩, rfl⟩ :=
    ty_sh n 5 _ _ [.int .i64, .int .i64, .int .i64, .int .i64, .int .i64, .int .i64, .int .i64, .int .i64] h (by kernel_rfl)
  exact ⟨⟨a, b, c, d, e, f, g, i⟩, rfl, wf_i64 ha, wf_i64 hb, wf_i64 hc, wf_i64 hd, wf_i64 he, wf_i64 hf, wf_i64 hg, wf_i64 hi⟩
/-- A state's numbers are Go's. -/
structure CoI (k : Co) : Prop where
  own : ∀ o ∈ k.Own, I64 o
  routes : ∀ s ∈ k.Routes, I64 s.State ∧ I64 s.Since ∧ I64 s.Next ∧ I64 s.Mark
  points : ∀ s ∈ k.Points, I64 s.Cmd ∧ I64 s.Other
  xs : ∀ s ∈ k.Xs, I64 s.Cmd ∧ I64 s.Other
  lines : ∀ s ∈ k.Lines, LsI s
  resets : ∀ o ∈ k.Resets, I64 o
theorem ty_Look {row : List D} {n : Nat} (h : tyD Try.prog n t_Look row) : ∃ s : Lk, row = s.enc ∧ I64 s.Value ∧ I64 s.Stamp := by
  obtain ⟨_, _, rfl, ⟨a, rfl, ha⟩, _, _, rfl, ⟨b, rfl, hb⟩, _, _, rfl, ⟨c, rfl⟩, rfl⟩ := ty_sh n 5 _ _ [.int .i64, .int .i64, .bool] h (by kernel_rfl)
  exact ⟨⟨a, b, c⟩, rfl, wf_i64 ha, wf_i64 hb⟩
structure VwI (v : Vw) : Prop where
  occ : ∀ l ∈ v.Occ, I64 l.Value ∧ I64 l.Stamp
  pos : ∀ l ∈ v.Pos, I64 l.Value ∧ I64 l.Stamp
  shut : ∀ l ∈ v.Shut, I64 l.Value ∧ I64 l.Stamp
  lamp : ∀ l ∈ v.Lamp, I64 l.Value ∧ I64 l.Stamp
theorem sh_View {d0 d1 d2 d3 : D} (h0 : CsOk Try.prog (.sl t_Look) d0) (h1 : CsOk Try.prog (.sl t_Look) d1) (h2 : CsOk Try.prog (.sl t_Look) d2) (h3 : CsOk Try.prog (.sl t_Look) d3) : ∃ v, VwAt d0 d1 d2 d3 v ∧ VwI v := by
  obtain ⟨l0, a0, b0, _, e0⟩ := sh_rows (bytes := 24) Lk.enc _ (fun row n h => ty_Look h) (by kernel_rfl) (by omega) h0
  obtain ⟨l1, a1, b1, _, e1⟩ := sh_rows (bytes := 24) Lk.enc _ (fun row n h => ty_Look h) (by kernel_rfl) (by omega) h1
  obtain ⟨l2, a2, b2, _, e2⟩ := sh_rows (bytes := 24) Lk.enc _ (fun row n h => ty_Look h) (by kernel_rfl) (by omega) h2
  obtain ⟨l3, a3, b3, _, e3⟩ := sh_rows (bytes := 24) Lk.enc _ (fun row n h => ty_Look h) (by kernel_rfl) (by omega) h3
  exact ⟨⟨l0, l1, l2, l3⟩, ⟨a0, a1, a2, a3⟩, b0, b1, b2, b3⟩
end Go.Proofs.Yteflnjedfmmddaa
end
section
set_option linter.unusedVariables false
set_option linter.unusedSimpArgs false
namespace Go.Proofs.Yteflnjedfmmddaa
open Go.Fw Go.Proofs Go.RowKit
variable {σ : Store}
theorem ref01_SameInts_ok {a b : D} {la lb : List Int} (ha : At Try.prog σ t_int a (la.map encI)) (hb : At Try.prog σ t_int b (lb.map encI)) : Pure Try.prog n_ref01_SameInts [.one a, .one b] σ (.a (bA (decide (la = lb)))) := by
  have hs := ha.size
  rw [List.length_map] at hs
  refine W_ref01_SameInts a b σ _ (ha.lenK (hb.lenK ?_))
  rw [List.length_map, List.length_map]
  refine bcn (fun hne => ⟨?_, rfl⟩) (fun he => ha.lenK ?_)
  · rw [decide_eq_false (fun e => hne (by rw [e]))]
  have hl : la.length = lb.length := by omega
  rw [List.length_map]
  refine ⟨fun n s => s = σ ∧ EqR la lb n, fun n _ => la.length - n.toNat, ⟨rfl, .start _ _⟩, ?_⟩
  rintro n s ⟨rfl, hr⟩
  refine bcd (fun hlt => ?_) (fun hge => ⟨?_, rfl⟩)
  · obtain ⟨j, x, y, rfl, hx, hy, hn, hy2⟩ := hr.step hl rfl hs hlt
    refine ha.load (map_get hx) c_int rfl ⟨x, rfl, hb.load (map_get hy) c_int rfl ⟨y, rfl, bcn (fun e => ⟨?_, rfl⟩) (fun e => andl rfl (hy2 e))⟩⟩
    rw [decide_eq_false (hn e)]
  · rw [decide_eq_true (hr.done hl rfl hge)]
end Go.Proofs.Yteflnjedfmmddaa
end
section
set_option linter.unusedVariables false
set_option linter.unusedSimpArgs false
namespace Go.Fw
theorem dec_lt {j n : Nat} (h : j < n) : n - ((j + 1 : Nat) : Int).toNat < n - ((j : Nat) : Int).toNat := by omega
theorem sgrun_iff (js : List Jt) : ∀ (l seen : List Sg), sgrun js l seen = true ↔ (∀ x ∈ l, (nxt js x.Sec x.End_).isSome = true) ∧ l.Nodup ∧ ∀ x ∈ l, x ∉ seen
  | [], seen => by simp [sgrun]
  | x :: r, seen => by
    rw [sgrun]
    by_cases h : (nxt js x.Sec x.End_).isSome = true ∧ x ∉ seen
    · rw [if_pos h, sgrun_iff js r (x :: seen)]
      constructor
      · rintro ⟨h1, h2, h3⟩
        refine ⟨fun y hy => ?_, ?_, fun y hy => ?_⟩
        · rcases List.mem_cons.1 hy with rfl | hy
          · exact h.1
          · exact h1 y hy
        · exact List.nodup_cons.2 ⟨fun hx => h3 x hx (by simp), h2⟩
        · rcases List.mem_cons.1 hy with rfl | hy
          · exact h.2
          · exact fun hs => h3 y hy (by simp [hs])
      · rintro ⟨h1, h2, h3⟩
        obtain ⟨h4, h5⟩ := List.nodup_cons.1 h2
        refine ⟨fun y hy => h1 y (by simp [hy]), h5, fun y hy hs => ?_⟩
        rcases List.mem_cons.1 hs with rfl | hs
        · exact h4 hy
        · exact h3 y (by simp [hy]) hs
    · rw [if_neg h]
      refine ⟨fun e => by simp at e, fun ⟨h1, h2, h3⟩ => absurd ⟨h1 x (by simp), h3 x (by simp)⟩ h⟩
theorem nxt_mem {js : List Jt} {s e : Int} {p : Int × Int} (h : nxt js s e = some p) : ∃ j ∈ js, (j.B = p.1 ∧ j.BEnd = p.2) ∨ (j.A = p.1 ∧ j.AEnd = p.2) := by
  induction js with
  | nil => cases h
  | cons j r ih =>
    rw [nxt] at h
    split at h
    · cases h; exact ⟨j, by simp, .inl ⟨rfl, rfl⟩⟩
    split at h
    · cases h; exact ⟨j, by simp, .inr ⟨rfl, rfl⟩⟩
    · obtain ⟨k, h1, h2⟩ := ih h
      exact ⟨k, by simp [h1], h2⟩
/-- What meets an end lies in the station. -/
theorem nxt_sec {c : Cf} (ht : topoOk c.Secs c.Jts = true) {s e q f : Int} (h : nxt c.Jts s e = some (q, f)) : ∃ y, geti c.Secs q = some y := by
  obtain ⟨j, hj, h1⟩ := nxt_mem h
  obtain ⟨_, _, h3⟩ := (topoOk_iff _ _).1 ht
  obtain ⟨a, b, _⟩ := h3 j hj
  have : 0 ≤ q ∧ q < c.Secs.length := by rcases h1 with ⟨e1, _⟩ | ⟨e1, _⟩ <;> simp only at e1 <;> omega
  obtain ⟨y, hy⟩ := get_of_lt (l := c.Secs) (j := q.toNat) (by omega)
  exact ⟨y, by unfold geti; rw [if_neg (by omega), hy]⟩
theorem geti_ex {α : Type} {l : List α} {i : Int} (h0 : ¬ i < 0) (h1 : ¬ i ≥ (l.length : Int)) : ∃ x, geti l i = some x := by
  obtain ⟨x, hx⟩ := get_of_lt (l := l) (j := i.toNat) (by omega)
  exact ⟨x, by unfold geti; rw [if_neg h0]; exact hx⟩
end Go.Fw
namespace Go.Fw
end Go.Fw
end
section
set_option linter.unusedVariables false
set_option linter.unusedSimpArgs false
namespace Go.Fw
variable {P : Program} {σ σ' : Store}
theorem Own.stay {σ0 : Store} {el : TypeId} {e d : D} {qs : List (List D)} (g : Own P σ0 σ el e qs) (hs : ∀ i, σ i ≠ .free → idOf d ≠ some i → σ' i = σ i) (ha : Apart e d) (he : Ext σ0 σ') : Own P σ0 σ' el e qs :=
  ⟨g.at_.same fun i a n h => hs i (by
    have := g.at_.rows; subst h
    obtain ⟨t, rows, h1, _⟩ := this
    rw [h1]; intro e; cases e) (ha i (by subst h; rfl)), he, g.new, g.nsl, g.nz⟩
theorem Apart.nil (d : D) : Apart .nils d := fun i h => by cases h
end Go.Fw
namespace Go.Fw
variable {P : Program} {σ σ' : Store}
/-- Plain data that a literal is. -/
theorem at_lit {s : Store} {el : TypeId} {es : Nat} {rows : List (List D)} (hes : P.cellsOf el = es) (hsz : rows.length < 2 ^ 60) : At P s el (.sl es rows) rows :=
  ⟨⟨rfl, .inr hes.symm⟩, hsz, fun es rows e => by injection e with e1 e2; rw [← e1, hes]⟩
theorem own_id' {σ0 s : Store} {el : TypeId} {d : D} {rs : List (List D)} {i : Nat} (h : Own P σ0 s el d rs) (hi : idOf d = some i) : σ0 i = .free := by
  cases d with
  | osl id a n =>
    have : id = i := by simpa [idOf] using hi
    subst this
    exact h.new _ _ _ rfl
  | _ => simp [idOf] at hi
end Go.Fw
namespace Go.Fw
variable {P : Program} {σ σ' : Store}
/-- A cell of a list of the call's own is written. -/
theorem Own.put {σ0 : Store} {el : TypeId} {d : D} {rs : List (List D)} {j off n : Nat} {row xs : List D} {K : Store → Prop} (h : Own P σ0 σ el d rs) (hr : rs[j]? = some row) (hn : n = j) (ho : off + xs.length ≤ row.length)
    (hK : ∀ s', Own P σ0 s' el d (rs.set j (patch row off xs)) → (∀ i, idOf d ≠ some i → s' i = σ i) → K s') : storeEl xs σ d n off K :=
  h.at_.store h.nsl hr hn ho fun s' id hid hat hs hne => hK s' ⟨hat, fun i hi => by
    have hne' : i ≠ id := fun e => hi (by rw [e]; exact own_id' h hid)
    rw [hs i hne']; exact h.ext i hi, h.new, h.nsl, h.nz⟩ fun i hi => hs i fun e => hi (by rw [e]; exact hid)
end Go.Fw
namespace Go.Fw
variable {P : Program} {σ σ' : Store}
/-- Another list's elements are copied over those of a list of the call's own. -/
theorem Own.copy {σ0 : Store} {el : TypeId} {d x : D} {rd rs : List (List D)} {K : Int → Store → Prop} (h : Own P σ0 σ el d rd) (hx : At P σ el x rs)
    (hK : ∀ s', Own P σ0 s' el d (rs.take (min rs.length rd.length) ++ rd.drop (min rs.length rd.length)) → (∀ i, idOf d ≠ some i → s' i = σ i) → K (min (rs.length : Int) (rd.length : Int)) s') : copyTo P σ el d x K := by
  refine ⟨rd, rs, h.at_.rows, hx.rows, ?_⟩
  by_cases hm : min rs.length rd.length = 0
  · refine .inl ⟨hm, ?_⟩
    have := hK σ (by rw [hm]; simpa using h) (fun _ _ => rfl)
    rw [show min (rs.length : Int) (rd.length : Int) = 0 by omega] at this; exact this
  · refine .inr ?_
    have hrow := h.at_.rows
    have hnew := h.new
    have hsz := h.at_.size
    cases d with
    | osl id i0 len =>
      obtain ⟨t, rows, h1, h2, h3, rfl⟩ := hrow
      have hml : min rs.length ((rows.drop i0).take len).length ≤ len := by simp; omega
      have hmr : min rs.length ((rows.drop i0).take len).length ≤ rs.length := Nat.min_le_left _ _
      have hmx : min rs.length ((rows.drop i0).take len).length ≤ ((rows.drop i0).take len).length := Nat.min_le_right _ _
      generalize min rs.length ((rows.drop i0).take len).length = m at *
      have hl : (rows.take i0 ++ rs.take m ++ rows.drop (i0 + m)).length = rows.length := by simp; omega
      refine ⟨id, i0, len, t, rows, rfl, h1, ?_⟩
      refine hK (σ.set id (.live t (rows.take i0 ++ rs.take m ++ rows.drop (i0 + m)))) ⟨⟨⟨t, _, Store.set_same _ _ _, h2, by rw [hl]; exact h3, ?_⟩, by rw [List.length_append, List.length_take, List.length_drop]; omega, fun es rows e => by cases e⟩, fun i hi => ?_, h.new, h.nsl, h.nz⟩ fun i hi => Store.set_ne _ _ fun e => hi (by rw [e]; rfl)
      · have hA : (rs.take m).length = m := by rw [List.length_take]; omega
        generalize rs.take m = A at *
        rw [List.append_assoc, List.drop_left' (by rw [List.length_take]; omega), List.take_append, List.take_of_length_le (show A.length ≤ len by omega), hA, List.drop_take, List.drop_drop]
      · rw [Store.set_ne _ _ (fun e => hi (by rw [e]; exact h.new _ _ _ rfl))]; exact h.ext i hi
    | nils => have : rd = [] := hrow; subst this; simp at hm
    | zsl => exact absurd rfl h.nz
    | sl es rows => exact absurd trivial h.nsl
    | _ => exact hrow.elim
end Go.Fw
namespace Go.Fw
variable {P : Program} {σ σ' : Store}
end Go.Fw
end
section
set_option linter.unusedVariables false
set_option linter.unusedSimpArgs false
namespace Go.Proofs.Yteflnjedfmmddaa
open Go.Fw Go.Proofs Go.RowKit
variable {σ : Store}
section
variable {σ0 : Store} {d0 d1 d2 d3 d4 d5 : D} {k : Co}
theorem ext_other {s s' : Store} {i : Nat} (he : Ext σ0 s) (hf : σ0 i = .free) (hs : ∀ j, j ≠ i → s' j = s j) : Ext σ0 s' := fun j hj => by
  rw [hs j (fun e => hj (by rw [e]; exact hf))]; exact he j hj
end
end Go.Proofs.Yteflnjedfmmddaa
end
section
set_option linter.unusedVariables false
set_option linter.unusedSimpArgs false
namespace Go.Proofs.Yteflnjedfmmddaa
open Go.Fw Go.Proofs Go.RowKit
variable {σ σ0 : Store} {d0 d1 d2 d3 d4 d5 : D} {k : Co}
/-- A new list with another one's elements. -/
theorem copy_ok {t : TypeId} {bytes : Nat} {d : D} {rows : List (List D)} {K : D → Store → Prop} (h : At Try.prog σ t d rows) (hb : bytes * rows.length ≤ 140737488355328)
    (hK : ∀ d' s, Own Try.prog σ s t d' rows → K d' s) : Fw.newObj σ (.live t []) fun id σ' => appendTo Try.prog σ' t bytes (.osl id 0 0) d K := by
  refine newObj_intro fun id s hid _ he hs => ?_
  have ho : Own Try.prog σ s t (.osl id 0 0) [] := .at_new hid he hs (by simp) rfl
  exact ho.append (h.ext he) (by simpa using hb) (by have := h.size; simpa using this) fun d' s' ho' _ _ => hK _ _ (by simpa using ho')
/-- A state that lies in an object, with lists of its own. -/
structure CoIn (σ0 σ : Store) (id : Nat) (t : TypeId) (pre post : List D) (d0 d1 d2 d3 d4 d5 : D) (k : Co) : Prop where
  new : σ0 id = .free
  row : σ id = .live t [pre ++ ([d0, d1, d2, d3, d4, d5, .bool k.Dirty] ++ post)]
  co : CoOwn σ0 σ d0 d1 d2 d3 d4 d5 k
  ids : ∀ d ∈ [d0, d1, d2, d3, d4, d5], idOf d ≠ some id
theorem CoIn.ext {id t pre post} (h : CoIn σ0 σ id t pre post d0 d1 d2 d3 d4 d5 k) : Ext σ0 σ := h.co.own.ext
theorem CoIn.at {id t pre post} (h : CoIn σ0 σ id t pre post d0 d1 d2 d3 d4 d5 k) : CoAt σ d0 d1 d2 d3 d4 d5 k := h.co.at
theorem CoOwn.putL (h : CoOwn σ0 σ d0 d1 d2 d3 d4 d5 k) {j n off : Nat} {x y : Ls} {ys : List D} (hj : k.Lines[j]? = some x) (hn : n = j) (ho : off + ys.length ≤ 8) (hp : patch (Ls.enc x) off ys = Ls.enc y) {K : Store → Prop}
    (hK : ∀ s', CoOwn σ0 s' d0 d1 d2 d3 d4 d5 { k with Lines := k.Lines.set j y } → (∀ i, idOf d4 ≠ some i → s' i = σ i) → K s') : storeEl ys σ d4 n off K := by
  refine h.lines.at_.store h.lines.nsl (map_get hj) hn ho fun s' i hi hat hs hne => hK s' ?_ fun i' hi' => hs i' fun e => hi' (by rw [e]; exact hi)
  have hf := own_id h.lines hi
  have ap : ∀ {m : Nat} {d : D}, [d0, d1, d2, d3, d4, d5][m]? = some d → m ≠ 4 → idOf d ≠ some i := fun hm hne0 => pw h.apart (i := 4) rfl hm (Ne.symm hne0) i hi
  refine ⟨own_other h.own hf (ap (m := 0) rfl (by omega)) hs, own_other h.routes hf (ap (m := 1) rfl (by omega)) hs, own_other h.points hf (ap (m := 2) rfl (by omega)) hs, own_other h.xs hf (ap (m := 3) rfl (by omega)) hs, ⟨?_, ext_other h.lines.ext hf hs, h.lines.new, h.lines.nsl, h.lines.nz⟩, own_other h.resets hf (ap (m := 5) rfl (by omega)) hs, h.apart⟩
  rw [hp, map_set (Ls.enc) k.Lines j y] at hat; exact hat
theorem CoIn.putL {id t pre post} (h : CoIn σ0 σ id t pre post d0 d1 d2 d3 d4 d5 k) {j n off : Nat} {x y : Ls} {ys : List D} (hj : k.Lines[j]? = some x) (hn : n = j) (ho : off + ys.length ≤ 8) (hp : patch (Ls.enc x) off ys = Ls.enc y) {K : Store → Prop}
    (hK : ∀ s', CoIn σ0 s' id t pre post d0 d1 d2 d3 d4 d5 { k with Lines := k.Lines.set j y } → (∀ i, idOf d4 ≠ some i → s' i = σ i) → K s') : storeEl ys σ d4 n off K :=
  h.co.putL hj hn ho hp fun s' h' hs => hK s' ⟨h.new, (hs id (h.ids _ (by simp))).trans h.row, h', h.ids⟩ hs
end Go.Proofs.Yteflnjedfmmddaa
end
section
set_option linter.unusedVariables false
set_option linter.unusedSimpArgs false
namespace Go.Fw
section
variable {occ : List Lk} {now : Int} {was may : Bool} {x : Ls} {o : Int} {s : Nat} {lk : Lk}
end
structure SameBut (k k' : Co) (l s : Nat) : Prop where
  routes : k'.Routes = k.Routes
  lines : ∀ m, m ≠ l → k'.Lines[m]? = k.Lines[m]?
  own : ∀ t, t ≠ s → k'.Own[t]? = k.Own[t]?
end Go.Fw
end
section
set_option linter.unusedVariables false
set_option linter.unusedSimpArgs false
namespace Go.Fw
/-- A step of a right path. -/
structure StOk (c : Cf) (r : Rt) (s : St) : Prop where
  sec : ∃ y, geti c.Secs s.Sec = some y ∧ (wpos (wayL y.Kind) s.In s.Out).isSome = true ∧ (r.Shunt = true → y.Line = 0)
theorem prunA_facts {c : Cf} (ht : topoOk c.Secs c.Jts = true) (r : Rt) (ex : Option Sg) : ∀ (l : List St) (a : Sg) (seen : List Int), prunA c r ex l a seen = true →
    (∀ s ∈ l, StOk c r s ∧ s.Sec ∉ seen) ∧ (l.map St.Sec).Nodup
  | [], a, seen, _ => ⟨fun s hs => by simp at hs, by simp⟩
  | s :: rest, a, seen, h => by
    rw [prunA, Bool.and_eq_true] at h
    obtain ⟨h1, h2⟩ := h
    obtain ⟨q1, q2⟩ := prunA_facts ht r ex rest _ _ h2
    unfold pstep at h1
    cases hn : nxt c.Jts a.Sec a.End_ with
    | none => rw [hn] at h1; cases h1
    | some p =>
      obtain ⟨q, i⟩ := p
      rw [hn] at h1
      obtain ⟨y, hy⟩ := nxt_sec ht hn
      simp only [hy, Option.getD_some, Bool.and_eq_true, decide_eq_true_eq, Bool.not_eq_true'] at h1
      obtain ⟨⟨⟨⟨⟨rfl, e2⟩, e3⟩, e4⟩, e5⟩, e6⟩ := h1
      refine ⟨fun x hx => ?_, ?_⟩
      · rcases List.mem_cons.1 hx with rfl | hx
        · refine ⟨⟨y, hy, e3, fun hs => ?_⟩, e4⟩
          rw [hs, Bool.true_and, decide_eq_false_iff_not] at e6
          exact Decidable.not_not.1 e6
        · obtain ⟨w1, w2⟩ := q1 x hx
          exact ⟨w1, fun hm => w2 (List.mem_cons_of_mem _ hm)⟩
      · rw [List.map_cons, List.nodup_cons]
        refine ⟨fun hm => ?_, q2⟩
        obtain ⟨x, hx, e⟩ := List.mem_map.1 hm
        exact (q1 x hx).2 (by rw [e]; simp)
/-- A right route. -/
structure RtOk (c : Cf) (r : Rt) : Prop where
  entry : ∃ a, geti c.Sigs r.Entry = some a
  exit_ : r.Exit = -1 ∨ ∃ x, geti c.Sigs r.Exit = some x
  len : 1 ≤ r.Path.length ∧ r.Path.length ≤ 8
  step : ∀ s ∈ r.Path, StOk c r s ∧ s.Sec ≠ c.approach r
  dup : (r.Path.map St.Sec).Nodup
  flank : r.Flank = c.flank (c.approach r) r.Path
  over : r.Overlap = c.overlap r
theorem routes_zero {c : Cf} : ∀ {l : List Rt}, c.routes l = 0 → ∀ r ∈ l, c.route r = 0
  | [], _, r, hr => by simp at hr
  | x :: l, h, r, hr => by
    rw [Cf.routes] at h
    split at h
    · rename_i hne; exact absurd h hne
    · rename_i he
      rcases List.mem_cons.1 hr with rfl | hr
      · simpa using he
      · exact routes_zero h r hr
theorem check_parts {c : Cf} (h : c.check = 0) : topoOk c.Secs c.Jts = true ∧ c.sigsOk = true ∧ c.xsOk = true ∧ c.Rts.length ≤ 12 ∧ c.routes c.Rts = 0 ∧ c.timing = true := by
  unfold Cf.check at h
  split at h
  · cases h
  split at h
  · cases h
  split at h
  · cases h
  split at h
  · cases h
  split at h
  · rename_i hne; exact absurd h hne
  split at h
  · rename_i h1 h2 h3 h4 h5 h6
    exact ⟨by simpa using h1, by simpa using h2, by simpa using h3, by omega, by simpa using h5, h6⟩
  · cases h
theorem path_ok {c : Cf} (ht : topoOk c.Secs c.Jts = true) {r : Rt} (h : c.route r = 0) : RtOk c r := by
  unfold Cf.route at h
  split at h
  · cases h
  split at h
  · cases h
  split at h
  · cases h
  rename_i h1 h2 h3
  have h1 : c.path r = true := by simpa using h1
  unfold Cf.path at h1
  cases hg : geti c.Sigs r.Entry with
  | none => rw [hg] at h1; cases h1
  | some a =>
    rw [hg] at h1
    simp only [Bool.and_eq_true, Bool.or_eq_true, decide_eq_true_eq] at h1
    obtain ⟨⟨e1, e2⟩, e3⟩ := h1
    obtain ⟨q1, q2⟩ := prunA_facts ht r _ _ _ _ e3
    have ha : c.approach r = a.Sec := by rw [Cf.approach, hg]; rfl
    refine ⟨⟨a, hg⟩, e1.imp id Option.isSome_iff_exists.1, e2, fun s hs => ⟨(q1 s hs).1, fun e => (q1 s hs).2 (by rw [e, ha]; simp)⟩, q2, Decidable.not_not.1 h2, Decidable.not_not.1 h3⟩
theorem check_rt {c : Cf} (h : c.check = 0) {r : Rt} (hr : r ∈ c.Rts) : RtOk c r := by
  obtain ⟨h1, _, _, _, h5, _⟩ := check_parts h
  exact path_ok h1 (routes_zero h5 r hr)
/-- A right flank's section. -/
structure NdOk (c : Cf) (a : Int) (path : List St) (n : Nd) : Prop where
  sec : ∃ y, geti c.Secs n.Sec = some y ∧ y.Kind = 1
  pos : 1 ≤ n.Pos ∧ n.Pos ≤ 2
  app : n.Sec ≠ a
  path : hasSec path n.Sec = false
theorem geti_nat {α : Type} {l : List α} {j : Nat} : geti l (j : Int) = l[j]? := by unfold geti; rw [if_neg (by omega), Int.toNat_natCast]
theorem fits_check {c : Cf} {k : Co} (h : k.fits c = true) : c.check = 0 := by
  rw [Co.fits, Bool.and_eq_true] at h; exact of_decide_eq_true h.1
end Go.Fw
namespace Go.Fw
theorem nxt_at {js : List Jt} {s e : Int} (h : (nxt js s e).isSome = true) : ∃ j ∈ js, j.A = s ∨ j.B = s := by
  induction js with
  | nil => cases h
  | cons j r ih =>
    rw [nxt] at h
    split at h
    · rename_i h1; exact ⟨j, by simp, .inl h1.1⟩
    split at h
    · rename_i h1; exact ⟨j, by simp, .inr h1.1⟩
    · obtain ⟨j', h1, h2⟩ := ih h
      exact ⟨j', by simp [h1], h2⟩
/-- A right station's signals stand in it. -/
theorem sig_sec {c : Cf} (h : c.check = 0) {x : Sg} (hx : x ∈ c.Sigs) : ∃ y, geti c.Secs x.Sec = some y := by
  obtain ⟨ht, hs, _⟩ := check_parts h
  rw [Cf.sigsOk, Bool.and_eq_true, sgrun_iff] at hs
  obtain ⟨j, hj, hA⟩ := nxt_at (hs.1.1 x hx)
  obtain ⟨a, b, _⟩ := ((topoOk_iff _ _).1 ht).2.2 j hj
  exact geti_ex (by omega) (by omega)
theorem app_sec {c : Cf} (h : c.check = 0) {r : Rt} (hr : r ∈ c.Rts) : ∃ y, geti c.Secs (c.approach r) = some y := by
  obtain ⟨a, ha⟩ := (check_rt h hr).entry
  rw [Cf.approach, ha]
  exact sig_sec h (List.mem_of_getElem? (geti_some ha).2.2)
end Go.Fw
end
section
set_option linter.unusedVariables false
set_option linter.unusedSimpArgs false
namespace Go.Fw
def zRt : Rt := ⟨0, 0, [], [], [], false⟩
def Cf.rt (c : Cf) (i : Int) : Rt := (geti c.Rts i).getD zRt
end Go.Fw
end
section
set_option linter.unusedVariables false
set_option linter.unusedSimpArgs false
namespace Go.Fw
structure Br where
  Kind : Int
  Route : Int
  Sec : Int
  deriving DecidableEq
def Br.enc (b : Br) : List D := [iD b.Kind, iD b.Route, iD b.Sec]
def stAt (k : Co) (i : Int) : Int := ((geti k.Routes i).map Rs.State).getD 0
def nextAt (k : Co) (i : Int) : Int := ((geti k.Routes i).map Rs.Next).getD 0
theorem stAt_get {k : Co} {i : Int} {j : Nat} {x : Rs} (hi : i = j) (h : k.Routes[j]? = some x) : stAt k i = x.State ∧ nextAt k i = x.Next := by
  unfold stAt nextAt; subst hi; rw [geti_nat, h]; exact ⟨rfl, rfl⟩
end Go.Fw
end
section
set_option linter.unusedVariables false
set_option linter.unusedSimpArgs false
namespace Go.Fw
structure En where
  Time : Int
  Route : Int
  Train : Int
  deriving DecidableEq
def En.enc (e : En) : List D := [iD e.Time, iD e.Route, iD e.Train]
def enOk (c : Cf) (e : En) : Bool := tm 0 e.Time && decide (0 ≤ e.Route ∧ e.Route ≤ (c.Rts.length : Int) - 1) && decide (1 ≤ e.Train ∧ e.Train ≤ 9999)
def Cf.tchk (c : Cf) (t : List En) : Int := if c.check ≠ 0 then 21 else if t.length > 16 then 5 else if t.all (enOk c) = true then 0 else 32
def occAt (v : List Lk) (i : Int) : Lk := (geti v i).getD ⟨0, 0, false⟩
def isDue (c : Cf) (k : Co) (v : Vw) (now : Int) (done : List Bool) (j : Nat) (e : En) : Bool :=
  !((done[j]?).getD false) && (decide (e.Time ≤ now) && (decide (stAt k e.Route = 0) && ((occAt v.Occ (c.Approach e.Route)).Valid && decide ((occAt v.Occ (c.Approach e.Route)).Value = 1))))
structure Du where
  e : En
  n : Nat
def Du.enc (d : Du) : List D := [iD d.e.Time, iD d.e.Route, iD d.e.Train, iD d.n]
def duesL (p : Nat → En → Bool) : List En → Nat → List Du
  | [], _ => []
  | e :: r, j => if p j e = true then ⟨e, j⟩ :: duesL p r (j + 1) else duesL p r (j + 1)
/-- Behind whom one stands, looked for from the end. -/
def cutR (x : Du) (P : List Du) : Nat → Nat
  | 0 => 0
  | m + 1 => match P[m]? with
    | some y => if x.e.Time < y.e.Time then cutR x P m else m + 1
    | none => m + 1
def insD (x : Du) (P : List Du) : List Du := P.take (cutR x P P.length) ++ x :: P.drop (cutR x P P.length)
def sortD (l : List Du) : List Du := l.foldl (fun P x => insD x P) []
def Co.due (c : Cf) (k : Co) (v : Vw) (now : Int) (done : List Bool) (t : List En) : List Int :=
  if c.tchk t = 0 ∧ k.fits c = true ∧ v.fits c = true then (sortD (duesL (isDue c k v now done) t 0)).map fun d => (d.n : Int) else []
theorem sortD_snoc (l : List Du) (x : Du) : sortD (l ++ [x]) = insD x (sortD l) := by unfold sortD; rw [List.foldl_append]; rfl
theorem insD_perm (x : Du) (P : List Du) : (insD x P).Perm (x :: P) := by
  unfold insD
  exact List.perm_middle.trans (by rw [List.take_append_drop])
theorem foldl_perm : ∀ (l P : List Du), (l.foldl (fun P x => insD x P) P).Perm (l ++ P)
  | [], P => .refl _
  | x :: l, P => by
    rw [List.foldl_cons]
    refine (foldl_perm l _).trans (((insD_perm x P).append_left l).trans ?_)
    rw [List.cons_append]
    exact List.perm_middle
theorem sortD_perm (l : List Du) : (sortD l).Perm l := by
  have := foldl_perm l []
  rw [List.append_nil] at this; exact this
/-- Earlier ones stand first, and of one time those with the lower number. -/
def Du.lt (a b : Du) : Prop := a.e.Time < b.e.Time ∨ (a.e.Time = b.e.Time ∧ a.n < b.n)
theorem cutR_low {x : Du} {P : List Du} (hs : P.Pairwise Du.lt) : ∀ m, m ≤ P.length → ∀ y ∈ P.take (cutR x P m), y.e.Time ≤ x.e.Time
  | 0, _, y, hy => by simp [cutR] at hy
  | m + 1, hm, y, hy => by
    rw [cutR] at hy
    obtain ⟨z, hz⟩ := get_of_lt (l := P) (j := m) (by omega)
    rw [hz] at hy
    simp only at hy
    split at hy
    · exact cutR_low hs m (by omega) y hy
    · rename_i hlt
      obtain ⟨i, hi⟩ := List.mem_iff_getElem?.1 hy
      rw [List.getElem?_take] at hi
      split at hi
      · rename_i him
        by_cases e : i = m
        · subst e; rw [hz] at hi; cases hi; omega
        · have hil := (List.getElem?_eq_some_iff.1 hi)
          have hml := (List.getElem?_eq_some_iff.1 hz)
          have := List.pairwise_iff_getElem.1 hs i m hil.1 hml.1 (by omega)
          rw [hil.2, hml.2] at this
          rcases this with h | h <;> omega
      · cases hi
theorem cutR_high {x : Du} {P : List Du} : ∀ m, m ≤ P.length → ∀ i, cutR x P m ≤ i → i < m → ∀ y, P[i]? = some y → x.e.Time < y.e.Time
  | 0, _, i, _, hi, _, _ => by omega
  | m + 1, hm, i, h1, h2, y, hy => by
    rw [cutR] at h1
    obtain ⟨z, hz⟩ := get_of_lt (l := P) (j := m) (by omega)
    rw [hz] at h1
    simp only at h1
    split at h1
    · rename_i hlt
      by_cases e : i = m
      · subst e; rw [hz] at hy; cases hy; exact hlt
      · exact cutR_high m (by omega) i h1 (by omega) y hy
    · omega
theorem insD_sorted {x : Du} {P : List Du} (hs : P.Pairwise Du.lt) (hn : ∀ y ∈ P, y.n < x.n) : (insD x P).Pairwise Du.lt := by
  unfold insD
  rw [List.pairwise_append, List.pairwise_cons]
  refine ⟨hs.sublist (List.take_sublist _ _), ⟨fun y hy => ?_, hs.sublist (List.drop_sublist _ _)⟩, fun y hy z hz => ?_⟩
  · obtain ⟨i, hi⟩ := List.mem_iff_getElem?.1 hy
    rw [List.getElem?_drop] at hi
    have hl := (List.getElem?_eq_some_iff.1 hi).1
    exact .inl (cutR_high P.length (Nat.le_refl _) _ (by omega) hl y hi)
  · have h1 := cutR_low hs P.length (Nat.le_refl _) y hy
    have h2 := hn y (List.mem_of_mem_take hy)
    rcases List.mem_cons.1 hz with rfl | hz
    · by_cases e : y.e.Time = z.e.Time
      · exact .inr ⟨e, h2⟩
      · exact .inl (by omega)
    · obtain ⟨i, hi⟩ := List.mem_iff_getElem?.1 hz
      rw [List.getElem?_drop] at hi
      have hl := (List.getElem?_eq_some_iff.1 hi).1
      have := cutR_high (x := x) P.length (Nat.le_refl _) _ (by omega) hl z hi
      exact .inl (by omega)
theorem foldl_sorted : ∀ (l P : List Du), P.Pairwise Du.lt → (l.Pairwise fun a b => a.n < b.n) → (∀ y ∈ P, ∀ z ∈ l, y.n < z.n) → (l.foldl (fun P x => insD x P) P).Pairwise Du.lt
  | [], P, h, _, _ => h
  | x :: l, P, h, h1, h2 => by
    rw [List.foldl_cons]
    rw [List.pairwise_cons] at h1
    refine foldl_sorted l _ (insD_sorted h fun y hy => h2 y hy x (by simp)) h1.2 fun y hy z hz => ?_
    rcases List.mem_cons.1 ((insD_perm x P).mem_iff.1 hy) with rfl | hy
    · exact h1.1 z hz
    · exact h2 y hy z (by simp [hz])
theorem duesL_mem (p : Nat → En → Bool) : ∀ (l : List En) (j : Nat) (d : Du), d ∈ duesL p l j → j ≤ d.n ∧ l[d.n - j]? = some d.e ∧ p d.n d.e = true
  | [], _, d, h => by simp [duesL] at h
  | e :: r, j, d, h => by
    have go : d ∈ duesL p r (j + 1) → j ≤ d.n ∧ (e :: r)[d.n - j]? = some d.e ∧ p d.n d.e = true := fun h => by
      obtain ⟨h1, h2, h3⟩ := duesL_mem p r (j + 1) d h
      refine ⟨by omega, ?_, h3⟩
      rw [show d.n - j = (d.n - (j + 1)) + 1 by omega, List.getElem?_cons_succ]; exact h2
    rw [duesL] at h
    split at h
    · rename_i hp
      rcases List.mem_cons.1 h with rfl | h
      · exact ⟨Nat.le_refl _, by simp, hp⟩
      · exact go h
    · exact go h
theorem duesL_inc (p : Nat → En → Bool) : ∀ (l : List En) (j : Nat), (duesL p l j).Pairwise fun a b => a.n < b.n
  | [], _ => .nil
  | e :: r, j => by
    rw [duesL]
    split
    · exact .cons (fun d hd => by have := (duesL_mem p r (j + 1) d hd).1; simp only; omega) (duesL_inc p r (j + 1))
    · exact duesL_inc p r (j + 1)
theorem duesL_of (p : Nat → En → Bool) : ∀ (l : List En) (j i : Nat) (e : En), l[i]? = some e → p (j + i) e = true → (⟨e, j + i⟩ : Du) ∈ duesL p l j
  | [], _, _, _, h, _ => by simp at h
  | x :: r, j, 0, e, h, hp => by
    simp at h; subst h
    rw [duesL, Nat.add_zero] at *
    rw [if_pos hp]; simp
  | x :: r, j, i + 1, e, h, hp => by
    have := duesL_of p r (j + 1) i e (by simpa using h) (by rw [show j + 1 + i = j + (i + 1) by omega]; exact hp)
    rw [duesL]
    rw [show j + 1 + i = j + (i + 1) by omega] at this
    split
    · exact List.mem_cons_of_mem _ this
    · exact this
theorem duesL_len (p : Nat → En → Bool) : ∀ (l : List En) (j : Nat), (duesL p l j).length ≤ l.length
  | [], _ => by simp [duesL]
  | e :: r, j => by rw [duesL]; have := duesL_len p r (j + 1); split <;> simp <;> omega
theorem sortD_sorted (p : Nat → En → Bool) (l : List En) (j : Nat) : (sortD (duesL p l j)).Pairwise Du.lt := foldl_sorted _ [] .nil (duesL_inc p l j) fun y hy => by simp at hy
theorem sortD_len (l : List Du) : (sortD l).length = l.length := (sortD_perm l).length_eq
/-! ### where the numbers stand -/
def fit0 (n : Nat) (l : List Int) : List Int := l.take n ++ List.replicate (n - l.length) 0
def bStep (was is_ : Co) (out : List Int) (x : Rt) (r : Nat) : List Int :=
  if (stAt was r = 2 ∨ stAt was r = 3) ∧ stAt is_ r = 4 ∧ (geti out x.Entry).getD 0 ≠ 0 then
    (if 0 ≤ x.Exit ∧ x.Exit ≠ x.Entry then (out.set x.Entry.toNat 0).set x.Exit.toNat ((geti out x.Entry).getD 0) else out.set x.Entry.toNat 0)
  else out
def bRun (was is_ : Co) : List Rt → Nat → List Int → List Int
  | [], _, out => out
  | x :: l, r, out => bRun was is_ l (r + 1) (bStep was is_ out x r)
def Cf.berths (c : Cf) (was is_ : Co) (b : List Int) : List Int :=
  if was.fits c = true ∧ is_.fits c = true then bRun was is_ c.Rts 0 (fit0 c.Sigs.length b) else b
theorem fit0_len (n : Nat) (l : List Int) : (fit0 n l).length = n := by unfold fit0; simp; omega
theorem bStep_len (was is_ : Co) (out : List Int) (x : Rt) (r : Nat) : (bStep was is_ out x r).length = out.length := by
  unfold bStep; split
  · split <;> simp
  · rfl
end Go.Fw
end
section
set_option linter.unusedVariables false
set_option linter.unusedSimpArgs false
namespace Go.Fw
theorem tchk_ok {c : Cf} {t : List En} (h : c.tchk t = 0) : c.check = 0 ∧ t.length ≤ 16 ∧ ∀ e ∈ t, (0 ≤ e.Time ∧ e.Time ≤ 4294967295) ∧ (0 ≤ e.Route ∧ e.Route < (c.Rts.length : Int)) := by
  unfold Cf.tchk at h
  split at h
  · cases h
  split at h
  · cases h
  split at h
  · rename_i h1 h2 h3
    refine ⟨by simpa using h1, by omega, fun e he => ?_⟩
    have := List.all_eq_true.1 h3 e he
    simp only [enOk, tm, Bool.and_eq_true, decide_eq_true_eq] at this
    omega
  · cases h
/-- An entry that is due. -/
structure DueF (c : Cf) (k : Co) (v : Vw) (now : Int) (done : List Bool) (t : List En) (y : Du) : Prop where
  cond : c.tchk t = 0 ∧ k.fits c = true ∧ v.fits c = true
  due : isDue c k v now done y.n y.e = true
  ent : t[y.n]? = some y.e
  time : y.e.Time ≤ now
  done : (done[y.n]?).getD false = false
  idle : ∃ rs, 0 ≤ y.e.Route ∧ k.Routes[y.e.Route.toNat]? = some rs ∧ rs.State = 0
theorem due_facts (c : Cf) (k : Co) (v : Vw) (now : Int) (done : List Bool) (t : List En) : ∃ S : List Du, k.due c v now done t = S.map (fun d => (d.n : Int)) ∧ (∀ y ∈ S, DueF c k v now done t y) ∧ S.Pairwise Du.lt ∧ (S.map Du.n).Nodup ∧
    ((c.tchk t = 0 ∧ k.fits c = true ∧ v.fits c = true) → ∀ (j : Nat) (e : En), t[j]? = some e → isDue c k v now done j e = true → ⟨e, j⟩ ∈ S) := by
  by_cases hc : c.tchk t = 0 ∧ k.fits c = true ∧ v.fits c = true
  · refine ⟨sortD (duesL (isDue c k v now done) t 0), by rw [Co.due, if_pos hc], fun y hy => ?_, sortD_sorted _ _ _, ?_, fun _ j e he hd => ?_⟩
    · obtain ⟨h1, h2, h3⟩ := duesL_mem _ _ _ y ((sortD_perm _).mem_iff.1 hy)
      rw [Nat.sub_zero] at h2
      obtain ⟨_, _, hte⟩ := tchk_ok hc.1
      have hr := (hte _ (List.mem_of_getElem? h2)).2
      have hl := (fits_lens hc.2.1).2.2.2.1
      obtain ⟨rs, hrs⟩ := get_of_lt (l := k.Routes) (j := y.e.Route.toNat) (by omega)
      have h3' := h3
      simp only [isDue, Bool.and_eq_true, decide_eq_true_eq, Bool.not_eq_true'] at h3
      exact ⟨hc, h3', h2, h3.2.1, h3.1, rs, hr.1, hrs, by rw [← (stAt_get (i := y.e.Route) (j := y.e.Route.toNat) (by omega) hrs).1]; exact h3.2.2.1⟩
    · rw [((sortD_perm (duesL (isDue c k v now done) t 0)).map Du.n).nodup_iff, List.nodup_iff_pairwise_ne, List.pairwise_map]
      exact (duesL_inc (isDue c k v now done) t 0).imp fun h => by omega
    · rw [(sortD_perm _).mem_iff]
      have := duesL_of (isDue c k v now done) t 0 j e he (by rw [Nat.zero_add]; exact hd)
      rwa [Nat.zero_add] at this
  · exact ⟨[], by rw [Co.due, if_neg hc]; rfl, fun y hy => by simp at hy, .nil, by simp, fun h => absurd h hc⟩
/-! ### the numbers -/
theorem bStep_count (was is_ : Co) (out : List Int) (x : Rt) (r : Nat) (z : Int) (hz : z ≠ 0) : (bStep was is_ out x r).count z ≤ out.count z := by
  unfold bStep
  split
  · rename_i h
    have h3 := h.2.2
    cases hg : geti out x.Entry with
    | none => rw [hg] at h3; exact absurd rfl h3
    | some o =>
      rw [Option.getD_some]
      have hgi := geti_some hg
      obtain ⟨hl, ho⟩ := List.getElem?_eq_some_iff.1 hgi.2.2
      have c1 : (out.set x.Entry.toNat 0).count z + (if o = z then 1 else 0) = out.count z := by
        rw [List.count_set hl, ho]
        have hpos : o = z → 0 < out.count z := fun e => List.count_pos_iff.2 (e ▸ List.mem_of_getElem? hgi.2.2)
        by_cases e : o = z
        · have := hpos e
          simp [e, Ne.symm hz]; omega
        · simp [e, Ne.symm hz]
      split
      · by_cases hx : x.Exit.toNat < (out.set x.Entry.toNat 0).length
        · rw [List.count_set hx]
          by_cases e : o = z
          · subst e; simp at c1 ⊢; omega
          · simp [e] at c1 ⊢; omega
        · rw [List.set_eq_of_length_le (by omega)]; omega
      · omega
  · exact Nat.le_refl _
theorem bRun_count (was is_ : Co) (z : Int) (hz : z ≠ 0) : ∀ (l : List Rt) (r : Nat) (out : List Int), (bRun was is_ l r out).count z ≤ out.count z
  | [], _, _ => Nat.le_refl _
  | x :: l, r, out => by
    rw [bRun]
    exact Nat.le_trans (bRun_count was is_ z hz l _ _) (bStep_count was is_ out x r z hz)
theorem berths_count (c : Cf) (was is_ : Co) (b : List Int) (z : Int) (hz : z ≠ 0) : (c.berths was is_ b).count z ≤ b.count z := by
  unfold Cf.berths
  split
  · refine Nat.le_trans (bRun_count was is_ z hz _ _ _) ?_
    unfold fit0
    rw [List.count_append, List.count_replicate, if_neg (by simpa using Ne.symm hz), Nat.add_zero]
    exact (List.take_sublist _ _).count_le _
  · exact Nat.le_refl _
theorem bRun_same (k : Co) : ∀ (l : List Rt) (r : Nat) (out : List Int), bRun k k l r out = out
  | [], _, _ => rfl
  | x :: l, r, out => by
    rw [bRun, bStep, if_neg (by omega)]
    exact bRun_same k l _ _
theorem berths_same (c : Cf) (k : Co) (b : List Int) : c.berths k k b = if k.fits c = true then fit0 c.Sigs.length b else b := by
  unfold Cf.berths
  by_cases h : k.fits c = true
  · rw [if_pos ⟨h, h⟩, if_pos h, bRun_same]
  · rw [if_neg (fun g => h g.1), if_neg h]
theorem fit0_id {n : Nat} {b : List Int} (h : b.length = n) : fit0 n b = b := by unfold fit0; rw [h, Nat.sub_self, List.take_of_length_le (by omega)]; simp
theorem fit0_get {n : Nat} {b : List Int} {i : Nat} {x : Int} (h : (fit0 n b)[i]? = some x) : b[i]? = some x ∨ (b.length ≤ i ∧ x = 0) := by
  unfold fit0 at h
  by_cases hi : i < (b.take n).length
  · rw [List.getElem?_append_left hi, List.getElem?_take] at h
    split at h
    · exact .inl h
    · cases h
  · rw [List.getElem?_append_right (by omega), List.getElem?_replicate] at h
    split at h
    · rename_i h2
      rw [List.length_take] at hi h2
      exact .inr ⟨by omega, by injection h with h; exact h.symm⟩
    · cases h
end Go.Fw
end
section
set_option linter.unusedVariables false
set_option linter.unusedSimpArgs false
namespace Go.Proofs.Yteflnjedfmmddaa
open Go.Fw Go.Proofs Go.RowKit
variable {σ : Store}
abbrev encB (b : Bool) : List D := [.bool b]
theorem ars_between_ok (n lo hi : Int) : Pure Try.prog n_ars_between [iA n, iA lo, iA hi] σ (.a (bA (decide (lo ≤ n ∧ n ≤ hi)))) :=
  W_ars_between n lo hi σ _ (bcd (fun h => ⟨by congr 3; exact decide_eq_decide.2 (by omega), rfl⟩) (fun h => ⟨by rw [decide_eq_false (by omega)], rfl⟩))
/-- Two neighbours change places. -/
theorem set_swap {α : Type} (A B : List α) (p x : α) : ((A ++ p :: x :: B).set (A.length + 1) p).set A.length x = A ++ x :: p :: B := by
  rw [List.set_append_right _ _ (by omega), Nat.add_sub_cancel_left, List.set_append_right _ _ (by omega), Nat.sub_self]
  rfl
theorem insSort_ok {σ0 : Store} {d : D} {l : List Du} (h : Own Try.prog σ0 σ t_ars_due d (l.map Du.enc)) (hT : ∀ x ∈ l, 0 ≤ x.e.Time ∧ x.e.Time ≤ 4294967295) (hl : l.length ≤ 2 ^ 20) :
    DCalls Try.prog n_slices_insertionSortCmpFunc_ars_due [.one d, iA 0, iA l.length, .one (.fn n_ars_Due_1 [] [])] σ fun r s => r = .tup [] ∧ Own Try.prog σ0 s t_ars_due d ((sortD l).map Du.enc) ∧ ∀ i, idOf d ≠ some i → s i = σ i := by
  have h1 : sortD (l.take 1) = l.take 1 := by
    cases l with
    | nil => rfl
    | cons x r => simp [sortD, insD, cutR]
  have hw1 : w64 ((0 : Int) + 1) = ((1 : Nat) : Int) := by rw [w64_id (by omega) (by omega)]; rfl
  refine W_slices_insertionSortCmpFunc_ars_due d 0 l.length _ σ _ ⟨fun n s => ∃ j : Nat, n = j ∧ 1 ≤ j ∧ j ≤ l.length + 1 ∧ Own Try.prog σ0 s t_ars_due d ((sortD (l.take j) ++ l.drop j).map Du.enc) ∧ ∀ i, idOf d ≠ some i → s i = σ i, fun n _ => l.length + 1 - n.toNat,
    ⟨1, hw1, by omega, by omega, by rw [h1, List.take_append_drop]; exact h, fun _ _ => rfl⟩, ?_⟩
  rintro _ s ⟨j, rfl, hj1, hjl, ho, hk⟩
  have hw : w64 ((j : Int) + 1) = ((j + 1 : Nat) : Int) := w64_succ (by omega)
  rw [hw]
  refine bcd (fun hlt => ?_) (fun hge => ⟨rfl, by rw [List.take_of_length_le (by omega), List.drop_eq_nil_of_le (by omega), List.append_nil] at ho; exact ho, hk⟩)
  have hlt : j < l.length := by omega
  obtain ⟨x, hx⟩ := get_of_lt (l := l) (j := j) hlt
  have hmu : l.length + 1 - ((j + 1 : Nat) : Int).toNat < l.length + 1 - ((j : Nat) : Int).toNat := by omega
  have hP : (sortD (l.take j)).length = j := by rw [sortD_len, List.length_take]; omega
  have hsn : sortD (l.take (j + 1)) = insD x (sortD (l.take j)) := by
    rw [List.take_add_one, hx]; exact sortD_snoc _ _
  have hPT : ∀ y ∈ sortD (l.take j), 0 ≤ y.e.Time ∧ y.e.Time ≤ 4294967295 := fun y hy => hT y (List.mem_of_mem_take ((sortD_perm _).mem_iff.1 hy))
  have hdrop : l.drop j = x :: l.drop (j + 1) := by
    rw [List.drop_eq_getElem_cons hlt, (List.getElem?_eq_some_iff.1 hx).2]
  have hxT := hT x (List.mem_of_getElem? hx)
  rw [hdrop] at ho
  generalize sortD (l.take j) = P at *
  have fin : ∀ (m : Nat) (s' : Store), Own Try.prog σ0 s' t_ars_due d ((P.take m ++ x :: (P.drop m ++ l.drop (j + 1))).map Du.enc) → cutR x P P.length = m → (∀ i, idOf d ≠ some i → s' i = σ i) →
      (∃ j' : Nat, ((j + 1 : Nat) : Int) = j' ∧ 1 ≤ j' ∧ j' ≤ l.length + 1 ∧ Own Try.prog σ0 s' t_ars_due d ((sortD (l.take j') ++ l.drop j').map Du.enc) ∧ ∀ i, idOf d ≠ some i → s' i = σ i) ∧ l.length + 1 - ((j + 1 : Nat) : Int).toNat < l.length + 1 - ((j : Nat) : Int).toNat := fun m s' ho' hc hk' => by
    refine ⟨⟨j + 1, rfl, by omega, by omega, ?_, hk'⟩, hmu⟩
    rw [hsn, insD, hc, List.append_assoc, List.cons_append]; exact ho'
  refine ⟨fun n s' => ∃ m : Nat, n = m ∧ m ≤ j ∧ Own Try.prog σ0 s' t_ars_due d ((P.take m ++ x :: (P.drop m ++ l.drop (j + 1))).map Du.enc) ∧ cutR x P m = cutR x P P.length ∧ ∀ i, idOf d ≠ some i → s' i = σ i, fun n _ => n.toNat,
    ⟨j, rfl, Nat.le_refl _, by rw [← hP, List.take_length, List.drop_length, List.nil_append, hP]; exact ho, by rw [hP], hk⟩, ?_⟩
  rintro _ s' ⟨m, rfl, hm, ho', hc, hk'⟩
  refine bcd (fun hgt => ?_) (fun hle => ?_)
  · obtain ⟨q, rfl⟩ : ∃ q, m = q + 1 := ⟨m - 1, by omega⟩
    obtain ⟨y, hy⟩ := get_of_lt (l := P) (j := q) (by omega)
    have hyT := hPT y (List.mem_of_getElem? hy)
    have hq : w64 (((q + 1 : Nat) : Int) - 1) = (q : Int) := by rw [w64_id (by omega) (by omega)]; omega
    have hlq : (P.take q).length = q := by rw [List.length_take]; omega
    have htk : P.take (q + 1) ++ x :: (P.drop (q + 1) ++ l.drop (j + 1)) = P.take q ++ y :: x :: (P.drop (q + 1) ++ l.drop (j + 1)) := by
      rw [List.take_add_one, hy]; simp
    rw [htk] at ho'
    generalize hB : P.drop (q + 1) ++ l.drop (j + 1) = B at *
    have gx : ((P.take q ++ y :: x :: B).map Du.enc)[q + 1]? = some x.enc := by
      rw [List.getElem?_map, List.getElem?_append_right (by omega), hlq, Nat.add_sub_cancel_left]; rfl
    have gy : ((P.take q ++ y :: x :: B).map Du.enc)[q]? = some y.enc := by
      rw [List.getElem?_map, List.getElem?_append_right (by omega), hlq, Nat.sub_self]; rfl
    have hcq : cutR x P (q + 1) = if x.e.Time < y.e.Time then cutR x P q else q + 1 := by rw [cutR, hy]
    rw [hq]
    refine ho'.at_.load gx c_ars_due rfl ⟨_, _, _, _, rfl, ho'.at_.load gy c_ars_due rfl ⟨_, _, _, _, rfl, n_ars_Due_1, [], [], [], [], rfl, rfl, rfl, ?_⟩⟩
    refine W_ars_Due_1 _ _ _ _ _ _ _ _ s' _ ⟨_, rfl, ?_⟩
    rw [w64_id (n := x.e.Time - y.e.Time) (by omega) (by omega)]
    refine bcd (fun hneg => ?_) (fun hpos => fin (q + 1) s' (by rw [hB, htk]; exact ho') (by rw [← hc, hcq, if_neg (by omega)]) hk')
    rw [hcq, if_pos (by omega)] at hc
    refine ho'.at_.load gy c_ars_due rfl ⟨_, _, _, _, rfl, ho'.at_.load gx c_ars_due rfl ⟨_, _, _, _, rfl, ho'.at_.idxK c_ars_due rfl (List.getElem?_eq_some_iff.1 gx).1 (ho'.put gx (by omega) (by simp [Du.enc]) fun s2 ho2 hk2 => ?_)⟩⟩
    have e1 : ((P.take q ++ y :: x :: B).map Du.enc).set (q + 1) (patch x.enc 0 [iD y.e.Time, iD y.e.Route, iD y.e.Train, iD y.n]) = (((P.take q ++ y :: x :: B).set (q + 1) y)).map Du.enc := map_set Du.enc _ _ _
    rw [e1] at ho2
    have gy2 : (((P.take q ++ y :: x :: B).set (q + 1) y).map Du.enc)[q]? = some y.enc := by
      rw [List.getElem?_map, List.getElem?_set_ne (by omega), ← List.getElem?_map]; exact gy
    refine ho2.at_.idxK c_ars_due rfl (List.getElem?_eq_some_iff.1 gy2).1 (ho2.put gy2 (by omega) (by simp [Du.enc]) fun s3 ho3 hk3 => ?_)
    have e2 : ((((P.take q ++ y :: x :: B).set (q + 1) y)).map Du.enc).set q (patch y.enc 0 [iD x.e.Time, iD x.e.Route, iD x.e.Train, iD x.n]) = ((((P.take q ++ y :: x :: B).set (q + 1) y)).set q x).map Du.enc := map_set Du.enc _ _ _
    have e3 := set_swap (P.take q) B y x
    rw [hlq] at e3
    rw [e2, e3] at ho3
    refine ⟨⟨q, rfl, by omega, ?_, hc, fun i hi => by rw [hk3 i hi, hk2 i hi]; exact hk' i hi⟩, by show ((q : Nat) : Int).toNat < ((q + 1 : Nat) : Int).toNat; omega⟩
    have e4 : P.drop q ++ l.drop (j + 1) = y :: B := by
      rw [← hB, List.drop_eq_getElem_cons (by omega), (List.getElem?_eq_some_iff.1 hy).2, List.cons_append]
    rw [e4]; exact ho3
  · have hm0 : m = 0 := by omega
    subst hm0
    exact fin 0 s' ho' (by rw [← hc]; rfl) hk'
theorem sort_ok {σ0 : Store} {d : D} {l : List Du} (h : Own Try.prog σ0 σ t_ars_due d (l.map Du.enc)) (hT : ∀ x ∈ l, 0 ≤ x.e.Time ∧ x.e.Time ≤ 4294967295) (hl : l.length ≤ 16) :
    DCalls Try.prog n_slices_SortStableFunc_ars_due [.one d, .one (.fn n_ars_Due_1 [] [])] σ fun r s => r = .tup [] ∧ Own Try.prog σ0 s t_ars_due d ((sortD l).map Du.enc) ∧ ∀ i, idOf d ≠ some i → s i = σ i := by
  refine W_slices_SortStableFunc_ars_due d _ σ _ (h.at_.lenK ?_)
  rw [List.length_map]
  refine (W_slices_stableCmpFunc_ars_due d l.length _ σ (fun r s => r = .tup [] ∧ Own Try.prog σ0 s t_ars_due d ((sortD l).map Du.enc) ∧ ∀ i, idOf d ≠ some i → s i = σ i) ⟨fun a b s => a = 0 ∧ b = 20 ∧ s = σ, fun _ _ _ => 0, ⟨rfl, rfl, rfl⟩, ?_⟩).mono fun r s hr => ⟨hr.1, rfl, hr.2⟩
  rintro _ _ _ ⟨rfl, rfl, rfl⟩
  refine bcd (fun e => absurd e (by omega)) (fun _ => (insSort_ok h hT (by omega)).mono ?_)
  rintro r s ⟨rfl, ho, hk⟩
  refine ⟨rfl, fun n s' => n = 20 ∧ s' = s, fun _ _ => 0, ⟨rfl, rfl⟩, ?_⟩
  rintro _ _ ⟨rfl, rfl⟩
  exact bcd (fun e => absurd e (by omega)) (fun _ => ⟨rfl, ho, hk⟩)
section
variable {c0 c1 c2 c3 c4 : D} {c : Cf} (hc : ∀ s, CfAt s c0 c1 c2 c3 c4 c)
include hc
theorem ars_Check_ok {dt : D} {t : List En} (ht : At Try.prog σ t_Entry dt (t.map En.enc)) : Pure Try.prog n_ars_Check [cfA c0 c1 c2 c3 c4 c, .one dt] σ (.a (iA (c.tchk t))) := by
  obtain ⟨rows, hat, hlen⟩ := rts_len (hc σ)
  have hts := ht.size
  rw [List.length_map] at hts
  refine W_ars_Check _ _ _ _ _ _ _ _ _ dt σ _ ((conf_Check_ok hc).use ⟨_, rfl, bcn (fun e => ⟨by rw [Cf.tchk, if_pos e], rfl⟩) (fun e0 => ht.lenK ?_)⟩)
  rw [List.length_map]
  have h1 : c.tchk t = if t.length > 16 then 5 else if t.all (enOk c) = true then 0 else 32 := by rw [Cf.tchk, if_neg (by simp [e0])]
  refine bcd (fun e => ⟨by rw [h1, if_pos (by omega)], rfl⟩) (fun e1 => ht.lenK ?_)
  rw [if_neg (by omega)] at h1
  refine ⟨fun n s => s = σ ∧ Rng t (fun l => l.all (enOk c) = t.all (enOk c)) n, fun n _ => t.length - n.toNat, ⟨rfl, .start rfl⟩, ?_⟩
  rintro n s ⟨rfl, hr⟩
  rw [List.length_map]
  refine bcd (fun hlt => ?_) (fun hge => ?_)
  · obtain ⟨j, x, rfl, hx, hj, hF, nx⟩ := hr.step rfl hts hlt
    rw [List.all_cons] at hF
    have bad : enOk c x = false → (RV.a (iA 32) = .a (iA (c.tchk t)) ∧ s = s) := fun hb => by
      rw [hb, Bool.false_and] at hF
      exact ⟨by rw [h1, ← hF, if_neg (by simp)], rfl⟩
    have hxo : enOk c x = (tm 0 x.Time && decide (0 ≤ x.Route ∧ x.Route ≤ (c.Rts.length : Int) - 1) && decide (1 ≤ x.Train ∧ x.Train ≤ 9999)) := rfl
    have hs13 := (check_small (by simpa using e0)).2.2.1
    refine ht.load (map_get hx) c_Entry rfl ⟨x.Time, x.Route, x.Train, rfl, (ars_between_ok _ _ _).use ⟨_, rfl, bcnot (fun e => bad (by rw [hxo, show tm 0 x.Time = false from e]; rfl)) (fun t1 => hat.lenK ?_)⟩⟩
    rw [hlen, w64_id (n := (c.Rts.length : Int) - 1) (by omega) (by omega)]
    refine (ars_between_ok _ _ _).use ⟨_, rfl, bcnot (fun e => bad (by rw [hxo, e]; simp)) (fun t2 => (ars_between_ok _ _ _).use ⟨_, rfl, bcnot (fun e => bad (by rw [hxo, e]; simp)) (fun t3 => ?_)⟩)⟩
    rw [hxo, show tm 0 x.Time = true from t1, t2, t3] at hF
    exact andl rfl (nx (fun l => l.all (enOk c) = t.all (enOk c)) hF)
  · have hF := hr.done rfl hge
    exact ⟨by rw [h1, ← hF]; rfl, rfl⟩
theorem ars_Due_ok {k0 k1 k2 k3 k4 k5 v0 v1 v2 v3 dd dt : D} {k : Co} {v : Vw} {done : List Bool} {t : List En} (now : Int) (hk : CoAt σ k0 k1 k2 k3 k4 k5 k) (hv0 : At Try.prog σ t_Look v0 (v.Occ.map Lk.enc)) (hv1 : At Try.prog σ t_Look v1 (v.Pos.map Lk.enc))
    (hv2 : At Try.prog σ t_Look v2 (v.Shut.map Lk.enc)) (hv3 : At Try.prog σ t_Look v3 (v.Lamp.map Lk.enc)) (hd : At Try.prog σ t_bool dd (done.map encB)) (ht : At Try.prog σ t_Entry dt (t.map En.enc)) :
    DCalls Try.prog n_ars_Due [cfA c0 c1 c2 c3 c4 c, coA k0 k1 k2 k3 k4 k5 k.Dirty, .agg [v0, v1, v2, v3], iA now, .one dd, .one dt] σ fun r s => ∃ d, r = .a (.one d) ∧ Own Try.prog σ s t_int d ((k.due c v now done t).map encI) := by
  refine W_ars_Due _ _ _ _ _ _ _ _ _ k0 k1 k2 k3 k4 k5 k.Dirty v0 v1 v2 v3 now dd dt σ _ ?_
  intro R hR
  have nil : ¬ (c.tchk t = 0 ∧ k.fits c = true ∧ v.fits c = true) → ∃ d, RV.a (.one .nils) = .a (.one d) ∧ Own Try.prog σ σ t_int d ((k.due c v now done t).map encI) := fun e => ⟨_, rfl, by rw [Co.due, if_neg e]; exact .nil _ (.refl _)⟩
  refine (ars_Check_ok hc ht).use ⟨_, rfl, bcn (fun e => nil fun g => e g.1) (fun e1 => (locks_Fits_ok hc hk).use ⟨_, rfl, bcnot (fun e => nil fun g => by rw [g.2.1] at e; cases e) (fun e2 => hv0.lenK ((hc σ).secs.lenK ?_))⟩)⟩
  have nov : ¬ (v.Occ.length = c.Secs.length ∧ v.Pos.length = c.Secs.length ∧ v.Shut.length = c.Xs.length ∧ v.Lamp.length = c.Sigs.length) → ¬ (c.tchk t = 0 ∧ k.fits c = true ∧ v.fits c = true) := fun hn g => hn (of_decide_eq_true g.2.2)
  simp only [List.length_map]
  refine bcn (fun e => nil (nov fun g => by omega)) (fun g1 => hv1.lenK ((hc σ).secs.lenK ?_))
  simp only [List.length_map]
  refine bcn (fun e => nil (nov fun g => by omega)) (fun g2 => hv2.lenK ((hc σ).xs.lenK ?_))
  simp only [List.length_map]
  refine bcn (fun e => nil (nov fun g => by omega)) (fun g3 => hv3.lenK ((hc σ).sigs.lenK ?_))
  simp only [List.length_map]
  refine bcn (fun e => nil (nov fun g => by omega)) (fun g4 => hR σ ?_)
  have hvf : v.fits c = true := decide_eq_true ⟨by omega, by omega, by omega, by omega⟩
  rw [Co.due, if_pos ⟨e1, e2, hvf⟩]
  obtain ⟨hck, htl, hte⟩ := tchk_ok e1
  obtain ⟨lo, lp, lr, lt, lx, ll⟩ := fits_lens e2
  have hdl := duesL_len (isDue c k v now done) t 0
  have hds := hd.size
  rw [List.length_map] at hds
  have hdm := duesL_mem (isDue c k v now done) t 0
  generalize hD : duesL (isDue c k v now done) t 0 = DD at *
  refine ht.lenK ⟨fun d n s => ∃ out : List Du, Own Try.prog σ s t_ars_due d (out.map Du.enc) ∧ (out.length : Int) ≤ n ∧ Rng t (fun l => out ++ duesL (isDue c k v now done) l n.toNat = DD) n, fun _ n _ => t.length - n.toNat,
    ⟨[], .nil _ (.refl _), by simp, .start hD⟩, ?_⟩
  rintro d n s ⟨out, ho, hol, hr⟩
  rw [List.length_map]
  refine bcd (fun hlt => ?_) (fun hge => ?_)
  · obtain ⟨j, x, rfl, hx, hj, hF, nx⟩ := hr.step rfl (by omega) hlt
    have hw : w64 ((j : Int) + 1) = ((j + 1 : Nat) : Int) := w64_succ (by omega)
    rw [Int.toNat_natCast, duesL] at hF
    have go : ∀ out2 d2 s2, out2 ++ duesL (isDue c k v now done) (t.drop (j + 1)) (j + 1) = DD → Own Try.prog σ s2 t_ars_due d2 (out2.map Du.enc) → out2.length ≤ j + 1 → (∃ out : List Du, Own Try.prog σ s2 t_ars_due d2 (out.map Du.enc) ∧ (out.length : Int) ≤ w64 ((j : Int) + 1) ∧ Rng t (fun l => out ++ duesL (isDue c k v now done) l (w64 ((j : Int) + 1)).toNat = DD) (w64 ((j : Int) + 1))) ∧
        t.length - (w64 ((j : Int) + 1)).toNat < t.length - (j : Int).toNat := fun out2 d2 s2 he ho2 hl => by
      have := nx (fun l => out2 ++ duesL (isDue c k v now done) l (w64 ((j : Int) + 1)).toNat = DD) (by rw [hw, Int.toNat_natCast]; exact he)
      exact ⟨⟨out2, ho2, by rw [hw]; omega, this.1⟩, this.2⟩
    have skip : isDue c k v now done j x = false → _ := fun hb => go out d s (by rw [if_neg (by rw [hb]; simp)] at hF; exact hF) ho (by omega)
    obtain ⟨_, hrx⟩ := hte x (List.mem_of_getElem? hx)
    obtain ⟨rt, hrt⟩ := geti_ex (l := c.Rts) (i := x.Route) (by omega) (by omega)
    have hap : c.Approach x.Route = c.approach rt := by rw [Cf.Approach, hrt]; rfl
    obtain ⟨y, hy⟩ := app_sec hck (List.mem_of_getElem? (geti_some hrt).2.2)
    have hyg := geti_some hy
    obtain ⟨lk, hlk⟩ := get_of_lt (l := v.Occ) (j := (c.approach rt).toNat) (by omega)
    obtain ⟨rs, hrs⟩ := get_of_lt (l := k.Routes) (j := x.Route.toNat) (by omega)
    have hoc : occAt v.Occ (c.Approach x.Route) = lk := by rw [hap, occAt]; unfold geti; rw [if_neg (by omega), hlk]; rfl
    have hI : isDue c k v now done j x = (!((done[j]?).getD false) && (decide (x.Time ≤ now) && (decide (rs.State = 0) && (lk.Valid && decide (lk.Value = 1))))) := by
      rw [isDue, hoc, (stAt_get (i := x.Route) (j := x.Route.toNat) (by omega) hrs).1]
    refine (ht.ext ho.ext).load (map_get hx) c_Entry rfl ⟨x.Time, x.Route, x.Train, rfl, (conf_Approach_ok (hc s) _).use ⟨_, rfl, ?_⟩⟩
    rw [hap]
    refine (hv0.ext ho.ext).load (map_get hlk) c_Look (by omega) ⟨lk.Value, lk.Stamp, lk.Valid, rfl, ?_⟩
    intro R1 hR1
    have yes : isDue c k v now done j x = true → R1 s := fun hb => hR1 s (by
      rw [if_pos hb] at hF
      exact newObj_intro fun id1 s4 hid1 _ he4 hs4 => (ho.ext' he4).append (At.fresh hs4 (by simp) rfl) (by simp; omega) (by simp; omega) fun d4 s5 ho5 _ _ => go (out ++ [⟨x, j⟩]) _ _ (by rw [List.append_assoc]; exact hF) (by rw [List.map_append]; exact ho5) (by simp; omega))
    have tail : ∀ T : Prop, T → (done[j]?).getD false = false → bcase (decide (x.Time > now)) ((∃ out : List Du, Own Try.prog σ s t_ars_due d (out.map Du.enc) ∧ (out.length : Int) ≤ w64 ((j : Int) + 1) ∧ Rng t (fun l => out ++ duesL (isDue c k v now done) l (w64 ((j : Int) + 1)).toNat = DD) (w64 ((j : Int) + 1))) ∧ t.length - (w64 ((j : Int) + 1)).toNat < t.length - (j : Int).toNat)
        (∃ len : Nat, Idx Try.prog s k1 4 len ∧ (0 : Int) ≤ x.Route ∧ x.Route < (len : Int) ∧ ∃ row : List D, Row s k1 x.Route.toNat row ∧ ∃ n7 : Int, List.take 1 row = [iD n7] ∧ bcase (n7 != 0) ((∃ out : List Du, Own Try.prog σ s t_ars_due d (out.map Du.enc) ∧ (out.length : Int) ≤ w64 ((j : Int) + 1) ∧ Rng t (fun l => out ++ duesL (isDue c k v now done) l (w64 ((j : Int) + 1)).toNat = DD) (w64 ((j : Int) + 1))) ∧ t.length - (w64 ((j : Int) + 1)).toNat < t.length - (j : Int).toNat)
          (bcase (!lk.Valid) ((∃ out : List Du, Own Try.prog σ s t_ars_due d (out.map Du.enc) ∧ (out.length : Int) ≤ w64 ((j : Int) + 1) ∧ Rng t (fun l => out ++ duesL (isDue c k v now done) l (w64 ((j : Int) + 1)).toNat = DD) (w64 ((j : Int) + 1))) ∧ t.length - (w64 ((j : Int) + 1)).toNat < t.length - (j : Int).toNat)
          (bcase (lk.Value != 1) ((∃ out : List Du, Own Try.prog σ s t_ars_due d (out.map Du.enc) ∧ (out.length : Int) ≤ w64 ((j : Int) + 1) ∧ Rng t (fun l => out ++ duesL (isDue c k v now done) l (w64 ((j : Int) + 1)).toNat = DD) (w64 ((j : Int) + 1))) ∧ t.length - (w64 ((j : Int) + 1)).toNat < t.length - (j : Int).toNat) (T ∧ R1 s)))) := fun T hT hdn => by
      rw [hdn] at hI
      refine bcd (fun e => skip (by rw [hI, decide_eq_false (by omega)]; rfl)) (fun t1 => (hk.ext ho.ext).routes.load (map_get hrs) c_RouteState (by omega) ⟨rs.State, rfl, bcn (fun e => skip (by rw [hI, decide_eq_false e]; simp)) (fun t2 => bcnot (fun e => skip (by rw [hI, e]; simp)) (fun t3 => bcn (fun e => skip (by rw [hI, decide_eq_false e]; simp)) (fun t4 => ⟨hT, yes ?_⟩)))⟩)
      rw [hI, decide_eq_true (by omega), decide_eq_true t2, t3, decide_eq_true t4]; rfl
    refine hd.lenK ?_
    rw [List.length_map]
    refine bcd (fun e => ?_) (fun e => tail _ (by rfl) (by rw [List.getElem?_eq_none (by omega)]; rfl))
    obtain ⟨db, hdb⟩ := get_of_lt (l := done) (j := j) (by omega)
    refine (hd.ext ho.ext).load (map_get hdb) c_bool rfl ⟨db, rfl, bc (fun e2 => skip (by rw [hI, hdb, e2]; rfl)) (fun e2 => tail _ (by rfl) (by rw [hdb, e2]; rfl))⟩
  · have hF := hr.done rfl hge
    rw [duesL, List.append_nil] at hF
    subst hF
    refine (sort_ok ho (fun x hx => ?_) (by omega)).mono ?_
    · have := (hdm x hx).2.1
      exact (hte x.e (List.mem_of_getElem? this)).1
    rintro r s2 ⟨rfl, ho2, hk2⟩
    have hsl := sortD_len out
    generalize sortD out = S at *
    refine ⟨rfl, ho2.at_.lenK ⟨fun d1 n s' => ∃ (j : Nat), n = j ∧ j ≤ S.length ∧ Own Try.prog s2 s' t_int d1 (((S.take j).map fun d => (d.n : Int)).map encI), fun _ n _ => S.length - n.toNat, ⟨0, rfl, by omega, .nil _ (.refl _)⟩, ?_⟩⟩
    rintro d1 _ s' ⟨j, rfl, hj, ho1⟩
    rw [List.length_map]
    refine bcd (fun hlt => ?_) (fun hge => ?_)
    · have hlt : j < S.length := by omega
      obtain ⟨x, hx⟩ := get_of_lt (l := S) (j := j) hlt
      refine ((ho2.ext' ho1.ext).at_).load (map_get hx) c_ars_due rfl ⟨x.e.Time, x.e.Route, x.e.Train, x.n, rfl, newObj_intro fun id1 s4 hid1 _ he4 hs4 => ?_⟩
      have hl2 : (((S.take j).map fun d => (d.n : Int)).map encI).length = j := by simp; omega
      refine (ho1.ext' he4).append (At.fresh hs4 (by simp) rfl) (by rw [hl2]; simp; omega) (by rw [hl2]; simp; omega) fun d4 s5 ho5 _ _ => ?_
      rw [w64_succ (by omega)]
      have e : S.take (j + 1) = S.take j ++ [x] := by rw [List.take_add_one, hx]; rfl
      exact ⟨⟨j + 1, rfl, by omega, by rw [e, List.map_append, List.map_append]; exact ho5⟩, dec_lt hlt⟩
    · have hjl : j = S.length := by omega
      subst hjl
      rw [List.take_length] at ho1
      exact ⟨d1, rfl, ho1.from ho2.ext⟩
end
end Go.Proofs.Yteflnjedfmmddaa
namespace Go.Proofs.Yteflnjedfmmddaa
open Go.Fw Go.Proofs Go.RowKit
variable {σ : Store}
theorem ars_Berths_ok {c0 c1 c2 c3 c4 : D} {c : Cf} (hc : ∀ s, CfAt s c0 c1 c2 c3 c4 c) {k0 k1 k2 k3 k4 k5 m0 m1 m2 m3 m4 m5 db : D} {k m : Co} {b : List Int} (hk : CoAt σ k0 k1 k2 k3 k4 k5 k) (hm : CoAt σ m0 m1 m2 m3 m4 m5 m)
    (hb : At Try.prog σ t_int db (b.map encI)) (hz : db ≠ .zsl) (hbl : 8 * b.length ≤ 140737488355328) :
    DCalls Try.prog n_ars_Berths [cfA c0 c1 c2 c3 c4 c, coA k0 k1 k2 k3 k4 k5 k.Dirty, coA m0 m1 m2 m3 m4 m5 m.Dirty, .one db] σ fun r s => ∃ d, r = .a (.one d) ∧ Own Try.prog σ s t_int d ((c.berths k m b).map encI) := by
  refine W_ars_Berths _ _ _ _ _ _ _ _ _ k0 k1 k2 k3 k4 k5 k.Dirty m0 m1 m2 m3 m4 m5 m.Dirty db σ _ ?_
  intro R hR
  have cl : ¬ (k.fits c = true ∧ m.fits c = true) → DCalls Try.prog n_slices_Clone_int [.one db] σ fun r1 s1 => ∃ d, r1 = .a (.one d) ∧ ∃ d', RV.a (.one d) = .a (.one d') ∧ Own Try.prog σ s1 t_int d' ((c.berths k m b).map encI) := fun e =>
    (Clone_int_ok hb hz (by rw [List.length_map]; exact hbl)).mono fun r s ⟨d, h1, h2⟩ => ⟨d, h1, d, rfl, by rw [Cf.berths, if_neg e]; exact h2⟩
  refine (locks_Fits_ok hc hk).use ⟨_, rfl, bcnot (fun e => cl fun g => by rw [g.1] at e; cases e) (fun e1 => (locks_Fits_ok hc hm).use ⟨_, rfl, bcnot (fun e => cl fun g => by rw [g.2] at e; cases e) (fun e2 => hR σ ?_)⟩)⟩
  rw [Cf.berths, if_pos ⟨e1, e2⟩]
  have hck := fits_check e1
  obtain ⟨lo, lp, lr, lt, lx, ll⟩ := fits_lens e1
  obtain ⟨lo', lp', lr', lt', lx', ll'⟩ := fits_lens e2
  obtain ⟨_, s1, s2, s3, s4, _⟩ := check_small hck
  obtain ⟨rows, hat, hlen, hrow⟩ := rts_froz fun s => (hc s).rts
  refine (hc σ).sigs.lenK ⟨by omega, by omega, by rw [List.length_map]; omega, newObj_intro fun id sa hid _ he hs => ?_⟩
  rw [List.length_map, Int.toNat_natCast] at *
  have ho : Own Try.prog σ sa t_int (.osl id 0 c.Sigs.length) (List.replicate c.Sigs.length [iD 0]) := .at_new hid he hs (by simp; omega) (by simp)
  refine ho.copy (hb.ext he) fun sb hob _ => ?_
  have hfit : (b.map encI).take (min (b.map encI).length (List.replicate c.Sigs.length [iD 0]).length) ++ (List.replicate c.Sigs.length [iD 0]).drop (min (b.map encI).length (List.replicate c.Sigs.length [iD 0]).length) = (fit0 c.Sigs.length b).map encI := by
    unfold fit0
    rw [List.length_map, List.length_replicate, List.map_append, ← List.map_take, List.map_replicate, List.drop_replicate]
    congr 2
    · by_cases h : b.length ≤ c.Sigs.length
      · rw [Nat.min_eq_left h, List.take_length, List.take_of_length_le h]
      · rw [Nat.min_eq_right (by omega)]
    · omega
  rw [hfit] at hob
  have hf0 := fit0_len c.Sigs.length b
  generalize fit0 c.Sigs.length b = f0 at *
  refine (hat sb).lenK ⟨fun n s => ∃ out : List Int, Own Try.prog σ s t_int (.osl id 0 c.Sigs.length) (out.map encI) ∧ out.length = c.Sigs.length ∧ Rng c.Rts (fun l => bRun k m l n.toNat out = bRun k m c.Rts 0 f0) n, fun n _ => c.Rts.length - n.toNat, ⟨f0, hob, hf0, .start rfl⟩, ?_⟩
  rintro n s ⟨out, ho, hol, hr⟩
  refine bcd (fun hlt => ?_) (fun hge => ?_)
  · obtain ⟨j, x, rfl, hx, hj, hF, nx⟩ := hr.step hlen (by omega) hlt
    have hw : w64 ((j : Int) + 1) = ((j + 1 : Nat) : Int) := w64_succ (by omega)
    have hxo := check_rt hck (List.mem_of_getElem? hx)
    obtain ⟨row, hrw⟩ := get_of_lt (l := rows) (j := j) (by omega)
    obtain ⟨d1, d2, d3, rfl, q1, q2, q3⟩ := hrow j row x hrw hx
    obtain ⟨r1, hr1⟩ := get_of_lt (l := k.Routes) (j := j) (by omega)
    obtain ⟨r2, hr2⟩ := get_of_lt (l := m.Routes) (j := j) (by omega)
    obtain ⟨a, ha⟩ := hxo.entry
    have hag := geti_some ha
    obtain ⟨o, hog⟩ := get_of_lt (l := out) (j := x.Entry.toNat) (by omega)
    have hgo : (geti out x.Entry).getD 0 = o := by unfold geti; rw [if_neg (by omega), hog]; rfl
    rw [Int.toNat_natCast, bRun] at hF
    have hst : bStep k m out x j = if (r1.State = 2 ∨ r1.State = 3) ∧ r2.State = 4 ∧ o ≠ 0 then (if 0 ≤ x.Exit ∧ x.Exit ≠ x.Entry then (out.set x.Entry.toNat 0).set x.Exit.toNat o else out.set x.Entry.toNat 0) else out := by
      unfold bStep; rw [(stAt_get (i := j) rfl hr1).1, (stAt_get (i := j) rfl hr2).1, hgo]
    have go : ∀ out2 s2, bStep k m out x j = out2 → Own Try.prog σ s2 t_int (.osl id 0 c.Sigs.length) (out2.map encI) → (∃ out : List Int, Own Try.prog σ s2 t_int (.osl id 0 c.Sigs.length) (out.map encI) ∧ out.length = c.Sigs.length ∧ Rng c.Rts (fun l => bRun k m l (w64 ((j : Int) + 1)).toNat out = bRun k m c.Rts 0 f0) (w64 ((j : Int) + 1))) ∧
        c.Rts.length - (w64 ((j : Int) + 1)).toNat < c.Rts.length - (j : Int).toNat := fun out2 s2 he ho2 => by
      have hl2 := bStep_len k m out x j
      rw [he] at hF hl2
      have := nx (fun l => bRun k m l (w64 ((j : Int) + 1)).toNat out2 = bRun k m c.Rts 0 f0) (by rw [hw, Int.toNat_natCast]; exact hF)
      exact ⟨⟨out2, ho2, by omega, this.1⟩, this.2⟩
    have stay : ¬ ((r1.State = 2 ∨ r1.State = 3) ∧ r2.State = 4 ∧ o ≠ 0) → _ := fun hn => go out s (by rw [hst, if_neg hn]) ho
    refine (hat s).load hrw c_Route rfl ⟨_, _, d1, d2, d3, _, rfl, (hk.ext ho.ext).routes.load (map_get hr1) c_RouteState rfl ⟨r1.State, rfl, ?_⟩⟩
    intro R1 hR1
    have yes : (r1.State = 2 ∨ r1.State = 3) ∧ r2.State = 4 ∧ o ≠ 0 → R1 s := fun hy => hR1 s (by
      rw [if_pos hy] at hst
      refine ho.at_.load (map_get hog) c_int (by omega) ⟨o, rfl, ho.at_.idxK (j := x.Entry.toNat) c_int (by omega) (by rw [List.length_map]; omega) (ho.put (map_get hog) rfl (by simp [encI]) fun s2 ho2 _ => ?_)⟩
      have e1 : (out.map encI).set x.Entry.toNat (patch (encI o) 0 [iD 0]) = (out.set x.Entry.toNat 0).map encI := map_set encI out _ 0
      rw [e1] at ho2
      refine bcd (fun t1 => bcn (fun t2 => ?_) (fun t2 => go _ s2 (by rw [hst, if_neg (by simp [t2])]) ho2)) (fun t1 => go _ s2 (by rw [hst, if_neg (by omega)]) ho2)
      rw [if_pos ⟨t1, t2⟩] at hst
      have hxr : x.Exit < c.Sigs.length := by
        rcases hxo.exit_ with e | ⟨y, hy⟩
        · omega
        · exact (geti_some hy).2.1
      obtain ⟨o2, ho2g⟩ := get_of_lt (l := out.set x.Entry.toNat 0) (j := x.Exit.toNat) (by rw [List.length_set]; omega)
      refine ho2.at_.idxK (j := x.Exit.toNat) c_int (by omega) (by rw [List.length_map, List.length_set]; omega) (ho2.put (map_get ho2g) rfl (by simp [encI]) fun s3 ho3 _ => go _ s3 hst ?_)
      have e2 : ((out.set x.Entry.toNat 0).map encI).set x.Exit.toNat (patch (encI o2) 0 [iD o]) = ((out.set x.Entry.toNat 0).set x.Exit.toNat o).map encI := map_set encI _ _ o
      rw [e2] at ho3; exact ho3)
    have tail : ∀ T : Prop, T → (r1.State = 2 ∨ r1.State = 3) → ∃ len : Nat, Idx Try.prog s m1 4 len ∧ (0 : Int) ≤ (j : Int) ∧ (j : Int) < (len : Int) ∧ ∃ row2 : List D, Row s m1 (Int.toNat j) row2 ∧ ∃ n5 : Int, List.take 1 row2 = [iD n5] ∧ bcase (n5 != 4) ((∃ out : List Int, Own Try.prog σ s t_int (.osl id 0 c.Sigs.length) (out.map encI) ∧ out.length = c.Sigs.length ∧ Rng c.Rts (fun l => bRun k m l (w64 ((j : Int) + 1)).toNat out = bRun k m c.Rts 0 f0) (w64 ((j : Int) + 1))) ∧ c.Rts.length - (w64 ((j : Int) + 1)).toNat < c.Rts.length - (j : Int).toNat)
        (∃ len5 : Nat, Idx Try.prog s (.osl id 0 c.Sigs.length) 1 len5 ∧ (0 : Int) ≤ x.Entry ∧ x.Entry < (len5 : Int) ∧ ∃ row3 : List D, Row s (.osl id 0 c.Sigs.length) x.Entry.toNat row3 ∧ ∃ n6 : Int, List.take 1 row3 = [iD n6] ∧ bcase (n6 == 0) ((∃ out : List Int, Own Try.prog σ s t_int (.osl id 0 c.Sigs.length) (out.map encI) ∧ out.length = c.Sigs.length ∧ Rng c.Rts (fun l => bRun k m l (w64 ((j : Int) + 1)).toNat out = bRun k m c.Rts 0 f0) (w64 ((j : Int) + 1))) ∧ c.Rts.length - (w64 ((j : Int) + 1)).toNat < c.Rts.length - (j : Int).toNat) (T ∧ R1 s)) := fun T hT h23 =>
      (hm.ext ho.ext).routes.load (map_get hr2) c_RouteState rfl ⟨r2.State, rfl, bcn (fun e => stay (fun g => e g.2.1)) (fun t2 => ho.at_.load (map_get hog) c_int (by omega) ⟨o, rfl, bce (fun e => stay (fun g => g.2.2 e)) (fun t3 => ⟨hT, yes ⟨h23, t2, t3⟩⟩)⟩)⟩
    exact bcn (fun t1 => bcn (fun t2 => stay (fun g => by rcases g.1 with e | e; exact t1 e; exact t2 e)) (fun t2 => tail _ (by rfl) (.inr t2))) (fun t1 => tail _ (by rfl) (.inl t1))
  · have hF := hr.done hlen hge
    exact ⟨_, rfl, by rw [← hF]; exact ho⟩
end Go.Proofs.Yteflnjedfmmddaa
end
section
set_option linter.unusedVariables false
set_option linter.unusedSimpArgs false
namespace Go.Proofs.Yteflnjedfmmddaa
open Go.Fw Go.Proofs Go.RowKit
variable {σ : Store}
section
variable {c0 c1 c2 c3 c4 : D} {c : Cf} {k0 k1 k2 k3 k4 k5 : D} {k : Co} {σ0 : Store} {b : Bool} {id : Nat} {d : D} {out : List Br}
/-- A judge: a state, its station, what was found. -/
structure JAt (σ0 σ : Store) (id : Nat) (k0 k1 k2 k3 k4 k5 : D) (b : Bool) (c0 c1 c2 c3 c4 : D) (c : Cf) (d : D) (out : List Br) : Prop where
  new : σ0 id = .free
  row : σ id = .live t_watch_judge [[k0, k1, k2, k3, k4, k5, .bool b, c0, c1, c2, c3, c4, iD c.Age, iD c.Brake, iD c.Hold, iD c.Budget, d]]
  own : Own Try.prog σ0 σ t_Breach d (out.map Br.enc)
  ido : idOf d ≠ some id
theorem JAt.ext' {σ' : Store} (h : JAt σ0 σ id k0 k1 k2 k3 k4 k5 b c0 c1 c2 c3 c4 c d out) (he : Ext σ σ') : JAt σ0 σ' id k0 k1 k2 k3 k4 k5 b c0 c1 c2 c3 c4 c d out :=
  ⟨h.new, (he id (by rw [h.row]; intro e; cases e)).trans h.row, h.own.ext' he, h.ido⟩
variable (hc : ∀ s, CfAt s c0 c1 c2 c3 c4 c) (hk : CoAt σ0 k0 k1 k2 k3 k4 k5 k) (hfit : k.fits c = true)
include hc hk hfit
end
end Go.Proofs.Yteflnjedfmmddaa
end
section
set_option linter.unusedVariables false
set_option linter.unusedSimpArgs false
namespace Go.Proofs.Yteflnjedfmmddaa
open Go.Fw Go.Proofs Go.RowKit
variable {σ : Store}
/-- A state is handed back whose lists lie nowhere in the store. -/
def CoZ (σ : Store) (k : Co) (r : RV) (s : Store) : Prop := s = σ ∧ ∃ d0 d1 d2 d3 d4 d5, r = .a (coA d0 d1 d2 d3 d4 d5 k.Dirty) ∧ CoFz d0 d1 d2 d3 d4 d5 k
end Go.Proofs.Yteflnjedfmmddaa
end
section
set_option linter.unusedVariables false
set_option linter.unusedSimpArgs false
namespace Go.Proofs.Yteflnjedfmmddaa
open Go.Fw Go.Proofs Go.RowKit
variable {σ : Store}
def LawTrue (f : FuncId) (xs : List A) : Prop := DCalls Try.prog f xs noS fun r _ => r = .a (.one (.bool true))
end Go.Proofs.Yteflnjedfmmddaa
end
section
set_option linter.unusedVariables false
set_option linter.unusedSimpArgs false
namespace Go.Proofs.Yteflnjedfmmddaa
open Go.Fw Go.Proofs Go.RowKit
variable {σ : Store}
/-- A state of the end: who owns the line's section, the line. -/
def endK (o : Int) (x : Ls) (b : Bool) : Co := ⟨[o, 0], [⟨0, 0, 0, 0⟩], [⟨0, 0⟩, ⟨0, 0⟩], [], [zLs, x, zLs, zLs], [0, 0], b⟩
/-- The end's line, a cycle later. -/
def endStep (occ stamp now : Int) (o : Int) (x : Ls) (b : Bool) : Co :=
  let m := decide (x.PAsk > (if x.PDone > x.Grant then x.PDone else x.Grant)) && decide (x.Ask = x.Done)
  let k' : Co := if o = -2 then
      if x.PDone < x.Grant then endK o { x with Since := 0 } b
      else if x.Since = 0 then endK o { x with Since := w64 (now + 1) } b
      else if occ = 0 ∧ x.Since ≤ stamp then endK 0 { x with Since := 0 } true
      else endK o x b
    else if o = 0 ∧ m = true then endK (-2) { x with Grant := x.PAsk, Since := 0 } true
    else endK o x b
  if b = true then k' else { k' with Lines := k'.Lines.set 1 { (k'.Lines[1]?).getD zLs with Told := x.Grant } }
end Go.Proofs.Yteflnjedfmmddaa
end
section
set_option linter.unusedVariables false
set_option linter.unusedSimpArgs false
namespace Go.Proofs.Yteflnjedfmmddaa
open Go.Fw Go.Proofs Go.RowKit
variable {σ : Store}
theorem CoFz.fits {d0 d1 d2 d3 d4 d5 k0 k1 k2 k3 k4 k5 : D} {k : Co} (h : CoFz d0 d1 d2 d3 d4 d5 k) (hf : CoFit k0 k1 k2 k3 k4 k5 k) : CoFit d0 d1 d2 d3 d4 d5 k :=
  ⟨h.n0, h.n1, h.n2, h.n3, h.n4, h.n5, hf.b0, hf.b1, hf.b2, hf.b3, hf.b4, hf.b5⟩
theorem CoOwn.ext' {σ0 s s' : Store} {d0 d1 d2 d3 d4 d5 : D} {k : Co} (h : CoOwn σ0 s d0 d1 d2 d3 d4 d5 k) (he : Ext s s') : CoOwn σ0 s' d0 d1 d2 d3 d4 d5 k :=
  ⟨h.own.ext' he, h.routes.ext' he, h.points.ext' he, h.xs.ext' he, h.lines.ext' he, h.resets.ext' he, h.apart⟩
end Go.Proofs.Yteflnjedfmmddaa
end
section
set_option linter.unusedVariables false
set_option linter.unusedSimpArgs false
namespace Go.Proofs.Yteflnjedfmmddaa
open Go.Fw Go.Proofs Go.RowKit
variable {σ : Store}
/-- A station of two sections and one route, as the laws of several layers write it. -/
def litC : Cf := ⟨[⟨0, 0, 0⟩, ⟨0, 0, 0⟩], [⟨0, 1, 1, 0⟩], [⟨0, 1⟩], [], [⟨0, -1, [⟨1, 0, 1⟩], [], [], false⟩], 2, 1, 4, 1000⟩
theorem lit_at (s : Store) : CfAt s (.sl 3 [[iD 0, iD 0, iD 0], [iD 0, iD 0, iD 0]]) (.sl 4 [[iD 0, iD 1, iD 1, iD 0]]) (.sl 2 [[iD 0, iD 1]]) .nils (.sl 6 [[iD 0, iD (-1), .sl 3 [[iD 1, iD 0, iD 1]], .nils, .nils, .bool false]]) litC :=
  ⟨at_lit c_Section (by simp), at_lit c_Joint (by simp), at_lit c_Signal (by simp), .nil, ⟨_, at_lit c_Route (by simp), rfl, fun i row r h1 h2 => by
    have hi : i = 0 := by have := (List.getElem?_eq_some_iff.1 h1).1; simp at this; exact this
    subst hi
    simp at h1; subst h1
    simp [litC] at h2; subst h2
    exact ⟨_, _, _, rfl, at_lit c_Step (by simp), .nil, .nil⟩⟩⟩
end Go.Proofs.Yteflnjedfmmddaa
end
section
set_option linter.unusedVariables false
set_option linter.unusedSimpArgs false
namespace Go.Proofs.Yteflnjedfmmddaa
open Go.Fw Go.Proofs Go.RowKit
theorem sh_Core (b : Bool) {d0 d1 d2 d3 d4 d5 : D} (h0 : CsOk Try.prog (.sl t_int) d0) (h1 : CsOk Try.prog (.sl t_RouteState) d1) (h2 : CsOk Try.prog (.sl t_Mover) d2) (h3 : CsOk Try.prog (.sl t_Mover) d3) (h4 : CsOk Try.prog (.sl t_LineState) d4) (h5 : CsOk Try.prog (.sl t_int) d5) :
    ∃ k, k.Dirty = b ∧ CoFz d0 d1 d2 d3 d4 d5 k ∧ CoFit d0 d1 d2 d3 d4 d5 k ∧ CoI k := by
  obtain ⟨l0, a0, b0, z0, e0⟩ := sh_rows (bytes := 8) encI _ (fun row n h => ty_i h) (by kernel_rfl) (by omega) h0
  obtain ⟨l1, a1, b1, z1, e1⟩ := sh_rows (bytes := 32) Rs.enc _ (fun row n h => ty_RouteState h) (by kernel_rfl) (by omega) h1
  obtain ⟨l2, a2, b2, z2, e2⟩ := sh_rows (bytes := 16) Mv.enc _ (fun row n h => ty_Mover h) (by kernel_rfl) (by omega) h2
  obtain ⟨l3, a3, b3, z3, e3⟩ := sh_rows (bytes := 16) Mv.enc _ (fun row n h => ty_Mover h) (by kernel_rfl) (by omega) h3
  obtain ⟨l4, a4, b4, z4, e4⟩ := sh_rows (bytes := 64) Ls.enc _ (fun row n h => ty_LineState h) (by kernel_rfl) (by omega) h4
  obtain ⟨l5, a5, b5, z5, e5⟩ := sh_rows (bytes := 8) encI _ (fun row n h => ty_i h) (by kernel_rfl) (by omega) h5
  exact ⟨⟨l0, l1, l2, l3, l4, l5, b⟩, rfl, ⟨fun s => ⟨a0 s, a1 s, a2 s, a3 s, a4 s, a5 s⟩, z0, z1, z2, z3, z4, z5⟩, ⟨z0, z1, z2, z3, z4, z5, by simp only; omega, by simp only; omega, by simp only; omega, by simp only; omega, by simp only; omega, by simp only; omega⟩, b0, b1, b2, b3, b4, b5⟩
end Go.Proofs.Yteflnjedfmmddaa
end
section
set_option linter.unusedVariables false
set_option linter.unusedSimpArgs false
namespace Go.Proofs.Yteflnjedfmmddaa
open Go.Fw Go.Proofs Go.RowKit
variable {σ : Store}
def litV : Vw := ⟨[⟨1, 9, true⟩, ⟨0, 9, true⟩], [⟨0, 0, false⟩, ⟨0, 0, false⟩], [], [⟨0, 0, false⟩]⟩
theorem lives16_a : Co.due litC (newCo litC 0) litV 9 [] [⟨5, 0, 7⟩] = [0] := by decide +kernel
theorem lives16_b : Co.due litC (newCo litC 0) litV 4 [] [⟨5, 0, 7⟩] = [] := by decide +kernel
abbrev litA : A := .agg [.sl 3 [[iD 0, iD 0, iD 0], [iD 0, iD 0, iD 0]], .sl 4 [[iD 0, iD 1, iD 1, iD 0]], .sl 2 [[iD 0, iD 1]], .nils, .sl 6 [[iD 0, iD (-1), .sl 3 [[iD 1, iD 0, iD 1]], .nils, .nils, .bool false]], iD 2, iD 1, iD 4, iD 1000]
theorem locks_New_z {c0 c1 c2 c3 c4 : D} {c : Cf} (h : ∀ s, CfAt s c0 c1 c2 c3 c4 c) (now : Int) (h1 : c.Secs.length ≤ 2 ^ 20) (h2 : c.Xs.length ≤ 2 ^ 20) (h3 : c.Rts.length ≤ 2 ^ 20) :
    DCalls Try.prog n_locks_New [cfA c0 c1 c2 c3 c4 c, iA now] σ (CoZ σ (newCo c now)) := by
  refine (locks_New_ok h now h1 h2 h3).ret ?_
  rintro r s ⟨d0, d1, d2, d3, d4, d5, rfl, hco⟩
  obtain ⟨e0, e1, e2, e3, e4, e5, hfz, hz⟩ := co_frz hco
  exact ⟨.a (coA e0 e1 e2 e3 e4 e5 true), σ, .pure hco.own.ext hfz, rfl, _, _, _, _, _, _, rfl, hz⟩
/-- A frozen state there is. -/
theorem newCo_ex : ∃ d0 d1 d2 d3 d4 d5, CoFz d0 d1 d2 d3 d4 d5 (newCo litC 0) :=
  ⟨.sl 1 [[iD (-1)], [iD (-1)]], .sl 4 [[iD 0, iD 0, iD 0, iD 0]], .sl 2 [[iD 0, iD 0], [iD 0, iD 0]], .nils, .sl 8 (List.replicate 4 [iD 0, iD 0, iD 0, iD 0, iD 0, iD 0, iD 0, iD 0]), .sl 1 [[iD 0], [iD 0]],
    ⟨fun s => ⟨at_lit c_int (by simp), at_lit c_RouteState (by simp), at_lit c_Mover (by simp), .nil, at_lit c_LineState (by simp), at_lit c_int (by simp)⟩, (by intro e; cases e), (by intro e; cases e), (by intro e; cases e), (by intro e; cases e), (by intro e; cases e), (by intro e; cases e)⟩⟩
theorem new_spec : SpecOk Try.prog n_locks_New (fun az s => az = [litA, iA 0]) (fun az s r s' => s' = s ∧ ∃ d0 d1 d2 d3 d4 d5, r = .a (coA d0 d1 d2 d3 d4 d5 true) ∧ CoFz d0 d1 d2 d3 d4 d5 (newCo litC 0)) := by
  refine ⟨?_, ?_, ?_, ?_⟩
  · rintro az s rfl
    exact locks_New_z lit_at 0 (by decide) (by decide) (by decide)
  · rintro az s rfl hf
    obtain ⟨d0, d1, d2, d3, d4, d5, h⟩ := newCo_ex
    exact ⟨_, s, ⟨rfl, d0, d1, d2, d3, d4, d5, rfl, h⟩, hf⟩
  · rintro az s r s' ⟨rfl, _⟩ hf; exact hf
  · rintro az s id so h0 hso rfl
    refine ⟨rfl, ?_⟩
    rintro r s' ⟨rfl, h⟩
    exact ⟨s, ⟨rfl, h⟩, h0, rfl⟩
/-- What is asked in the example. -/
def duePre (i0 i1 i2 : Nat) (az' : List A) (s : Store) : Prop := s i0 = .live t_Look [[iD 1, iD 9, .bool true], [iD 0, iD 9, .bool true]] ∧ s i1 = .live t_Look [[iD 0, iD 0, .bool false], [iD 0, iD 0, .bool false]] ∧ s i2 = .live t_Look [[iD 0, iD 0, .bool false]] ∧
  ∃ d0 d1 d2 d3 d4 d5 i4, CoFz d0 d1 d2 d3 d4 d5 (newCo litC 0) ∧ s i4 = .live t_Entry [[iD 5, iD 0, iD 7]] ∧ az' = [litA, coA d0 d1 d2 d3 d4 d5 true, .agg [.osl i0 0 2, .osl i1 0 2, .nils, .osl i2 0 1], iA 9, .one .nils, .one (.osl i4 0 1)]
theorem due_call {i0 i1 i2 i4 : Nat} {d0 d1 d2 d3 d4 d5 : D} (now : Int) (h0 : σ i0 = .live t_Look [[iD 1, iD 9, .bool true], [iD 0, iD 9, .bool true]]) (h1 : σ i1 = .live t_Look [[iD 0, iD 0, .bool false], [iD 0, iD 0, .bool false]])
    (h2 : σ i2 = .live t_Look [[iD 0, iD 0, .bool false]]) (h4 : σ i4 = .live t_Entry [[iD 5, iD 0, iD 7]]) (hz : CoFz d0 d1 d2 d3 d4 d5 (newCo litC 0)) :
    DCalls Try.prog n_ars_Due [litA, coA d0 d1 d2 d3 d4 d5 true, .agg [.osl i0 0 2, .osl i1 0 2, .nils, .osl i2 0 1], iA now, .one .nils, .one (.osl i4 0 1)] σ (SlPost σ t_int ((Co.due litC (newCo litC 0) litV now [] [⟨5, 0, 7⟩]).map encI)) := by
  refine (ars_Due_ok (c := litC) (v := litV) (done := []) (t := [⟨5, 0, 7⟩]) lit_at now (hz.at_ σ) (At.fresh h0 (by simp) rfl) (At.fresh h1 (by simp) rfl) .nil (At.fresh h2 (by simp) rfl) .nil (At.fresh h4 (by simp) rfl)).ret ?_
  rintro r s ⟨d, rfl, ho⟩
  exact own_fin ho (flatI _)
theorem due_spec (i0 i1 i2 : Nat) : SpecOk Try.prog n_ars_Due (duePre i0 i1 i2) (fun az s r s' => s' = s ∧ ∃ d, r = .a (.one d) ∧ ∀ s, At Try.prog s t_int d [[iD 0]]) := by
  refine ⟨?_, ?_, ?_, ?_⟩
  · rintro az s ⟨h0, h1, h2, d0, d1, d2, d3, d4, d5, i4, hz, h4, rfl⟩
    have := due_call 9 h0 h1 h2 h4 hz
    rw [lives16_a] at this
    exact this.mono fun r s h => h
  · rintro az s _ hf
    exact ⟨_, s, ⟨rfl, .sl 1 [[iD 0]], rfl, fun s => at_lit c_int (by simp)⟩, hf⟩
  · rintro az s r s' ⟨rfl, _⟩ hf; exact hf
  · rintro az s id so h0 hso ⟨q0, q1, q2, d0, d1, d2, d3, d4, d5, i4, hz, q4, rfl⟩
    have k : ∀ {i : Nat} {x : SO}, s i = x → x ≠ .free → (s.set id so) i = x := fun h hx => by
      rw [Store.set_ne _ _ (fun e => hx (by rw [← h, e]; exact h0))]; exact h
    refine ⟨⟨k q0 (by intro e; cases e), k q1 (by intro e; cases e), k q2 (by intro e; cases e), d0, d1, d2, d3, d4, d5, i4, hz, k q4 (by intro e; cases e), rfl⟩, ?_⟩
    rintro r s' ⟨rfl, h⟩
    exact ⟨s, ⟨rfl, h⟩, h0, rfl⟩
theorem law16_lives_ok : Pure Try.prog n_law16_lives [] σ (.a (bA true)) := by
  refine .of (W_law16_lives σ _ (newObj_intro fun i0 s0 hi0 _ he0 hs0 => ⟨by omega, by omega, by omega, newObj_intro fun i1 s1 hi1 _ he1 hs1 => ⟨by omega, by omega, by omega, newObj_intro fun i2 s2 hi2 _ he2 hs2 => ?_⟩⟩)) (flat_b _)
  refine ⟨_, _, new_spec, duePre i0 i1 i2, _, due_spec i0 i1 i2, _, _, new_spec, newObj_intro fun i3 s3 hi3 _ he3 hs3 => ?_⟩
  have x0 : ∀ s, Ext s3 s → s i0 = .live t_Look [[iD 1, iD 9, .bool true], [iD 0, iD 9, .bool true]] := fun s he => by
    have e := (he1.trans he2).trans (he3.trans he)
    rw [e i0 (by rw [hs0]; intro e; cases e), hs0]
  have x1 : ∀ s, Ext s3 s → s i1 = .live t_Look [[iD 0, iD 0, .bool false], [iD 0, iD 0, .bool false]] := fun s he => by
    have e := he2.trans (he3.trans he)
    rw [e i1 (by rw [hs1]; intro e; cases e), hs1]
  have x2 : ∀ s, Ext s3 s → s i2 = .live t_Look [[iD 0, iD 0, .bool false]] := fun s he => by
    have e := he3.trans he
    rw [e i2 (by rw [hs2]; intro e; cases e), hs2]
  have hσ := ((he0.trans he1).trans he2).trans he3
  refine (ars_Check_ok (c := litC) (t := [⟨5, 0, 7⟩]) lit_at (At.fresh hs3 (by simp) rfl)).use ⟨_, rfl, bce (fun _ => ⟨rfl, ?_⟩) (fun e => absurd (by decide +kernel) e)⟩
  rintro r s4 ⟨rfl, d0, d1, d2, d3, d4, d5, rfl, hz⟩
  refine ⟨_, _, _, _, _, _, _, rfl, newObj_intro fun i4 s5 hi4 _ he5 hs5 => ⟨⟨x0 _ he5, x1 _ he5, x2 _ he5, d0, d1, d2, d3, d4, d5, i4, hz, hs5, rfl⟩, ?_⟩⟩
  rintro r s6 ⟨rfl, d, rfl, hd⟩
  refine ⟨_, rfl, newObj_intro fun i5 s7 hi5 _ he7 hs7 => (ref01_SameInts_ok (la := [0]) (lb := [0]) (hd _) (At.fresh hs7 (by simp) rfl)).use ⟨_, rfl, bc (fun _ => ⟨rfl, ?_⟩) (fun e => absurd rfl (of_decide_eq_false e))⟩⟩
  rintro r s8 ⟨rfl, d0, d1, d2, d3, d4, d5, rfl, hz⟩
  refine ⟨_, _, _, _, _, _, _, rfl, newObj_intro fun i6 s9 hi6 _ he9 hs9 => ?_⟩
  have hx := (he5.trans he7).trans he9
  refine (due_call 4 (x0 _ hx) (x1 _ hx) (x2 _ hx) hs9 hz).mono ?_
  rintro r s10 ⟨rfl, d', rfl, hd'⟩
  rw [lives16_b] at hd'
  exact ⟨_, rfl, (hd' s10).lenK ⟨rfl, hσ.trans hx⟩⟩
theorem ty_Entry {row : List D} {n : Nat} (h : tyD Try.prog n t_Entry row) : ∃ e : En, row = e.enc ∧ I64 e.Time ∧ I64 e.Route ∧ I64 e.Train := by
  obtain ⟨a, b, c, rfl, q⟩ := ty_i3 h (by kernel_rfl)
  exact ⟨⟨a, b, c⟩, rfl, q⟩
theorem ty_b {row : List D} {n : Nat} (h : tyD Try.prog n t_bool row) : ∃ b, row = encB b ∧ True := by
  obtain ⟨_, _, rfl, ⟨b, rfl⟩, rfl⟩ := ty_sh n 5 _ _ [.bool] h (by kernel_rfl)
  exact ⟨b, rfl, trivial⟩
/-- What a law of this layer is handed: a station, two states, a view. -/
theorem world_args {xs : List A} {ts : List TypeId} (h : TyAs Try.prog (t_Config :: t_law16_World :: ts) xs) : ∃ c0 c1 c2 c3 c4 c k0 k1 k2 k3 k4 k5 k m0 m1 m2 m3 m4 m5 m v0 v1 v2 v3 v r, xs = cfA c0 c1 c2 c3 c4 c :: .agg [k0, k1, k2, k3, k4, k5, .bool k.Dirty, m0, m1, m2, m3, m4, m5, .bool m.Dirty, v0, v1, v2, v3] :: r ∧
    (∀ s, CfAt s c0 c1 c2 c3 c4 c) ∧ CoFz k0 k1 k2 k3 k4 k5 k ∧ CoFz m0 m1 m2 m3 m4 m5 m ∧ VwAt v0 v1 v2 v3 v ∧ TyAs Try.prog ts r := by
  obtain ⟨a0, xs, rfl, h0, hr0⟩ := tys_cons h
  obtain ⟨a1, xs, rfl, h1, hr1⟩ := tys_cons hr0
  obtain ⟨cs, _, rfl, p0⟩ := tya_agg h0 (by kernel_rfl)
  obtain ⟨c0, c1, c2, c3, c4, c, rfl, hc, hci⟩ := ty_Config p0
  obtain ⟨cs, _, rfl, p1⟩ := tya_agg h1 (by kernel_rfl)
  obtain ⟨k0, _, rfl, q0, k1, _, rfl, q1, k2, _, rfl, q2, k3, _, rfl, q3, k4, _, rfl, q4, k5, _, rfl, q5, _, _, rfl, ⟨b, rfl⟩, m0, _, rfl, w0, m1, _, rfl, w1, m2, _, rfl, w2, m3, _, rfl, w3, m4, _, rfl, w4, m5, _, rfl, w5, _, _, rfl, ⟨b', rfl⟩, v0, _, rfl, u0, v1, _, rfl, u1, v2, _, rfl, u2, v3, _, rfl, u3, rfl⟩ :=
    ty_sh _ 5 _ _ [.sl t_int, .sl t_RouteState, .sl t_Mover, .sl t_Mover, .sl t_LineState, .sl t_int, .bool, .sl t_int, .sl t_RouteState, .sl t_Mover, .sl t_Mover, .sl t_LineState, .sl t_int, .bool, .sl t_Look, .sl t_Look, .sl t_Look, .sl t_Look] p1 (by kernel_rfl)
  obtain ⟨k, rfl, hk, _⟩ := sh_Core b q0 q1 q2 q3 q4 q5
  obtain ⟨m, rfl, hm, _⟩ := sh_Core b' w0 w1 w2 w3 w4 w5
  obtain ⟨v, hv, _⟩ := sh_View u0 u1 u2 u3
  exact ⟨c0, c1, c2, c3, c4, c, k0, k1, k2, k3, k4, k5, k, m0, m1, m2, m3, m4, m5, m, v0, v1, v2, v3, v, xs, rfl, hc, hk, hm, hv, hr1⟩
/-- A time, what is done, a table. -/
theorem ask_args {xs : List A} (h : TyAs Try.prog [t_law16_Ask] xs) : ∃ (now : Int) (dd dt : D) (done : List Bool) (t : List En), xs = [.agg [iD now, dd, dt]] ∧ I64 now ∧ (∀ s, At Try.prog s t_bool dd (List.map encB done)) ∧ (∀ s, At Try.prog s t_Entry dt (t.map En.enc)) ∧ (∀ e ∈ t, I64 e.Time ∧ I64 e.Route ∧ I64 e.Train) ∧ 24 * t.length ≤ 140737488351232 := by
  obtain ⟨a0, xs, rfl, h0, hr0⟩ := tys_cons h
  obtain rfl := tys_nil hr0
  obtain ⟨cs, _, rfl, p0⟩ := tya_agg h0 (by kernel_rfl)
  obtain ⟨_, _, rfl, ⟨now, rfl, hnow⟩, dd, _, rfl, q0, dt, _, rfl, q1, rfl⟩ := ty_sh _ 5 _ _ [.int .i64, .sl t_bool, .sl t_Entry] p0 (by kernel_rfl)
  obtain ⟨done, hd, _, _⟩ := sh_rows (bytes := 1) encB _ (fun row n h => ty_b h) (by kernel_rfl) (by omega) q0
  obtain ⟨t, ht, hti, _, htl⟩ := sh_rows (bytes := 24) En.enc _ (fun row n h => ty_Entry h) (by kernel_rfl) (by omega) q1
  exact ⟨now, dd, dt, done, t, rfl, wf_i64 hnow, hd, ht, hti, htl⟩
theorem law16_ArsDue_ok {xs : List A} (h : TyAs Try.prog [t_Config, t_law16_World, t_law16_Ask] xs) : LawTrue n_law16_ArsDue xs := by
  obtain ⟨c0, c1, c2, c3, c4, c, k0, k1, k2, k3, k4, k5, k, m0, m1, m2, m3, m4, m5, m, v0, v1, v2, v3, v, r, rfl, hc, hk, hm, hv, hr⟩ := world_args h
  obtain ⟨now, dd, dt, done, t, rfl, hnow, hd, ht, hti, htl⟩ := ask_args hr
  clear h hr
  have hdl := (hd noS).size
  have htl := (ht noS).size
  rw [List.length_map] at hdl htl
  refine W_law16_ArsDue _ _ _ _ _ _ _ _ _ k0 k1 k2 k3 k4 k5 k.Dirty m0 m1 m2 m3 m4 m5 m.Dirty v0 v1 v2 v3 now dd dt noS _ (law16_lives_ok.use ⟨true, rfl, bcnot (fun e => by cases e) (fun _ => (ars_Due_ok hc now (hk.at_ _) (hv.occ _) (hv.pos _) (hv.shut _) (hv.lamp _) (hd _) (ht _)).mono ?_)⟩)
  rintro r s1 ⟨d, rfl, ho⟩
  obtain ⟨S, hS, hF, hsort, hnd, _⟩ := due_facts c k v now done t
  rw [hS] at ho
  have hss := ho.at_.size
  rw [List.length_map, List.length_map] at hss
  refine ⟨_, rfl, newObj_intro fun id s2 hid _ he2 hs2 => ho.at_.lenK ⟨fun n s => ∃ (j : Nat) (f : Int → Option A), n = j ∧ j ≤ S.length ∧ Ext s1 s ∧ MapAt Try.prog t_int iA s id f ∧ ∀ z, f z = if z ∈ (S.take j).map (fun d => (d.n : Int)) then some (iA 1) else none, fun n _ => S.length - n.toNat,
    ⟨0, _, rfl, by omega, he2, MapAt.new hs2, fun z => by simp⟩, ?_⟩⟩
  rintro _ s ⟨j, f, rfl, hj, he, hmp, hf⟩
  rw [List.length_map, List.length_map]
  refine bcd (fun hlt => ?_) (fun _ => rfl)
  have hlt : j < S.length := by omega
  obtain ⟨y, hy⟩ := get_of_lt (l := S) (j := j) hlt
  obtain ⟨_, _, f1, f2, f3, rs, f4, f5, f6⟩ := hF y (List.mem_of_getElem? hy)
  have hyn := (List.getElem?_eq_some_iff.1 f1).1
  have hat := ho.at_.ext he
  have hnin : (y.n : Int) ∉ (S.take j).map (fun d => (d.n : Int)) := fun hin => by
    obtain ⟨w, hw, e⟩ := List.mem_map.1 hin
    obtain ⟨i, hi⟩ := List.mem_iff_getElem?.1 hw
    rw [List.getElem?_take] at hi
    split at hi
    · obtain ⟨p1, p2⟩ := List.getElem?_eq_some_iff.1 hi
      obtain ⟨q1, q2⟩ := List.getElem?_eq_some_iff.1 hy
      have := (List.getElem_inj (xs := S.map Du.n) (h₀ := by simpa using p1) (h₁ := by simpa using q1) hnd).1 (by rw [List.getElem_map, List.getElem_map, p2, q2]; omega)
      omega
    · cases hi
  intro R hR
  refine hat.load (map_get (map_get hy)) c_int rfl ⟨y.n, rfl, ?_⟩
  intro R1 hR1
  refine bcd (fun e => absurd e (by omega)) (fun _ => (ht s).lenK (bcd (fun e => absurd e (by rw [List.length_map]; omega)) (fun _ => hmp.lookI keysI (y.n : Int) (n := 0) (by rw [hf, if_neg hnin]; rfl) (bcd (fun e => absurd e (by omega)) (fun _ => hR1 s ?_)))))
  refine hmp.lookI keysI (y.n : Int) (n := 0) (by rw [hf, if_neg hnin]; rfl) (hmp.put keysI (y.n : Int) fun s' f' hm' hf' hfx hs' hne => ?_)
  have hids : s1 id = .free := hid
  have he' : Ext s1 s' := ext_other he hids hs'
  have hat' := ho.at_.ext he'
  refine (ht s').load (map_get f1) c_Entry rfl ⟨y.e.Time, y.e.Route, y.e.Train, rfl, ?_⟩
  intro R2 hR2
  have goR : R s' := hR s' (by
    rw [w64_succ (by omega)]
    refine ⟨⟨j + 1, f', rfl, by omega, he', hm', fun z => ?_⟩, dec_lt hlt⟩
    have et : S.take (j + 1) = S.take j ++ [y] := by rw [List.take_add_one, hy]; rfl
    by_cases hz : z = (y.n : Int)
    · subst hz; rw [hfx, et, if_pos (by simp)]; rfl
    · rw [hf' z hz, hf, et]; simp [hz])
  have goR2 : R2 s' := hR2 s' (bcd (fun hpos => ?_) (fun _ => goR))
  · refine bcd (fun e => absurd e (by omega)) (fun _ => (hd s').lenK ?_)
    rw [List.length_map]
    refine bcd (fun e => ?_) (fun e => (hk.at_ s').routes.load (map_get f5) c_RouteState (by omega) ⟨rs.State, rfl, bcn (fun e => absurd f6 e) (fun _ => ⟨rfl, goR2⟩)⟩)
    obtain ⟨db, hdb⟩ := get_of_lt (l := done) (j := y.n) (by omega)
    rw [hdb] at f3
    refine (hd s').load (map_get hdb) c_bool rfl ⟨db, rfl, bc (fun e => by rw [e] at f3; cases f3) (fun _ => (hk.at_ s').routes.load (map_get f5) c_RouteState (by omega) ⟨rs.State, rfl, bcn (fun e => absurd f6 e) (fun _ => ⟨rfl, goR2⟩)⟩)⟩
  · obtain ⟨q, rfl⟩ : ∃ q, j = q + 1 := ⟨j - 1, by omega⟩
    have hq : w64 (((q + 1 : Nat) : Int) - 1) = (q : Int) := by rw [w64_id (by omega) (by omega)]; omega
    obtain ⟨z, hz⟩ := get_of_lt (l := S) (j := q) (by omega)
    have g1 := (hF z (List.mem_of_getElem? hz)).ent
    have hlt2 : z.lt y := by
      obtain ⟨p1, p2⟩ := List.getElem?_eq_some_iff.1 hz
      obtain ⟨q1, q2⟩ := List.getElem?_eq_some_iff.1 hy
      have := List.pairwise_iff_getElem.1 hsort q (q + 1) p1 q1 (by omega)
      rwa [p2, q2] at this
    rw [hq]
    refine hat'.load (map_get (map_get hz)) c_int rfl ⟨z.n, rfl, (ht s').load (map_get g1) c_Entry rfl ⟨z.e.Time, rfl, bcd (fun e => ?_) (fun _ => hat'.load (map_get (map_get hz)) c_int rfl ⟨z.n, rfl, (ht s').load (map_get g1) c_Entry rfl ⟨z.e.Time, rfl, bce (fun e => hat'.load (map_get (map_get hz)) c_int rfl ⟨z.n, rfl, bcd (fun e2 => ?_) (fun _ => goR)⟩) (fun _ => goR)⟩⟩)⟩⟩
    · exfalso; rcases hlt2 with h | h <;> omega
    · exfalso; rcases hlt2 with h | h <;> omega
theorem law16_ArsOnce_ok {xs : List A} (h : TyAs Try.prog [t_Config, t_law16_World, t_law16_Ask] xs) : LawTrue n_law16_ArsOnce xs := by
  obtain ⟨c0, c1, c2, c3, c4, c, k0, k1, k2, k3, k4, k5, k, m0, m1, m2, m3, m4, m5, m, v0, v1, v2, v3, v, r, rfl, hc, hk, hm, hv, hr⟩ := world_args h
  obtain ⟨now, dd, dt, done, t, rfl, hnow, hd, ht, hti, htb⟩ := ask_args hr
  clear h hr
  have hdl := (hd noS).size
  have htl := (ht noS).size
  rw [List.length_map] at hdl htl
  refine W_law16_ArsOnce _ _ _ _ _ _ _ _ _ k0 k1 k2 k3 k4 k5 k.Dirty m0 m1 m2 m3 m4 m5 m.Dirty v0 v1 v2 v3 now dd dt noS _ (law16_lives_ok.use ⟨true, rfl, bcnot (fun e => by cases e) (fun _ => (ars_Due_ok hc now (hk.at_ _) (hv.occ _) (hv.pos _) (hv.shut _) (hv.lamp _) (hd _) (ht _)).mono ?_)⟩)
  rintro r s1 ⟨d, rfl, ho⟩
  obtain ⟨S, hS, hF, hsort, hnd, hall⟩ := due_facts c k v now done t
  rw [hS] at ho
  have hss := ho.at_.size
  rw [List.length_map, List.length_map] at hss
  refine ⟨_, rfl, (ht s1).lenK ⟨by omega, by omega, by rw [List.length_map]; omega, newObj_intro fun id s2 hid _ he2 hs2 => ?_⟩⟩
  rw [List.length_map, Int.toNat_natCast] at *
  have hn : Own Try.prog s1 s2 t_bool (.osl id 0 t.length) (List.replicate t.length [.bool false]) := .at_new hid he2 hs2 (by simp; omega) (by simp)
  refine hn.copy (hd s2) fun s3 hn3 _ => ?_
  obtain ⟨D0, hD0, hD0l, hD0g⟩ : ∃ D0 : List Bool, (done.map encB).take (min (done.map encB).length (List.replicate t.length [D.bool false]).length) ++ (List.replicate t.length [D.bool false]).drop (min (done.map encB).length (List.replicate t.length [D.bool false]).length) = D0.map encB ∧ D0.length = t.length ∧ ∀ j, j < t.length → (D0[j]?).getD false = (done[j]?).getD false := by
    refine ⟨done.take (min done.length t.length) ++ List.replicate (t.length - min done.length t.length) false, ?_, by simp; omega, fun j hj => ?_⟩
    · rw [List.length_map, List.length_replicate, List.map_append, ← List.map_take, List.map_replicate, List.drop_replicate]
    · by_cases hjd : j < min done.length t.length
      · rw [List.getElem?_append_left (by simp; omega), List.getElem?_take, if_pos hjd]
      · rw [List.getElem?_append_right (by simp; omega), List.getElem?_replicate, List.getElem?_eq_none (l := done) (by omega)]
        split <;> rfl
  rw [hD0] at hn3
  refine ho.at_.lenK ⟨fun n s => ∃ (j : Nat) (D1 : List Bool), n = j ∧ j ≤ S.length ∧ Own Try.prog s1 s t_bool (.osl id 0 t.length) (D1.map encB) ∧ D1.length = t.length ∧ ∀ i, i < t.length → (D1[i]?).getD false = ((done[i]?).getD false || decide (i ∈ (S.take j).map Du.n)), fun n _ => S.length - n.toNat,
    ⟨0, D0, rfl, by omega, hn3, hD0l, fun i hi => by rw [hD0g i hi]; simp⟩, ?_⟩
  rintro _ s ⟨j, D1, rfl, hj, hn1, hD1l, hD1⟩
  rw [List.length_map, List.length_map]
  refine bcd (fun hlt => ?_) (fun hge => ?_)
  · have hlt : j < S.length := by omega
    obtain ⟨y, hy⟩ := get_of_lt (l := S) (j := j) hlt
    obtain ⟨_, _, f1, f2, f3, rs, f4, f5, f6⟩ := hF y (List.mem_of_getElem? hy)
    have hyn := (List.getElem?_eq_some_iff.1 f1).1
    have hnin : y.n ∉ (S.take j).map Du.n := fun hin => by
      obtain ⟨w, hw, e⟩ := List.mem_map.1 hin
      obtain ⟨i, hi⟩ := List.mem_iff_getElem?.1 hw
      rw [List.getElem?_take] at hi
      split at hi
      · obtain ⟨p1, p2⟩ := List.getElem?_eq_some_iff.1 hi
        obtain ⟨q1, q2⟩ := List.getElem?_eq_some_iff.1 hy
        have := (List.getElem_inj (xs := S.map Du.n) (h₀ := by simpa using p1) (h₁ := by simpa using q1) hnd).1 (by rw [List.getElem_map, List.getElem_map, p2, q2]; omega)
        omega
      · cases hi
    obtain ⟨b0, hb0⟩ := get_of_lt (l := D1) (j := y.n) (by omega)
    have hb0f : b0 = false := by
      have := hD1 y.n hyn
      rw [hb0, f3, decide_eq_false hnin] at this; exact this
    subst hb0f
    refine (ho.at_.ext hn1.ext).load (map_get (map_get hy)) c_int rfl ⟨y.n, rfl, bcd (fun e => absurd e (by omega)) (fun _ => hn1.at_.lenK (bcd (fun e => absurd e (by rw [List.length_map]; omega)) (fun _ => hn1.at_.load (map_get hb0) c_bool rfl ⟨false, rfl, bc (fun e => by cases e) (fun _ => hn1.at_.idxK (j := y.n) c_bool rfl (by rw [List.length_map]; omega) (hn1.put (map_get hb0) rfl (by simp) fun s' hn' _ => ?_))⟩)))⟩
    have e1 : (D1.map encB).set y.n (patch (encB false) 0 [.bool true]) = (D1.set y.n true).map encB := map_set encB D1 _ true
    rw [e1] at hn'
    rw [w64_succ (by omega)]
    refine ⟨⟨j + 1, D1.set y.n true, rfl, by omega, hn', by rw [List.length_set]; exact hD1l, fun i hi => ?_⟩, dec_lt hlt⟩
    have et : S.take (j + 1) = S.take j ++ [y] := by rw [List.take_add_one, hy]; rfl
    rw [List.getElem?_set, et, List.map_append]
    by_cases hiy : y.n = i
    · subst hiy; rw [if_pos rfl, if_pos (show y.n < D1.length by omega)]; simp
    · rw [if_neg hiy, hD1 i hi]; simp [Ne.symm hiy]
  have hjS : j = S.length := by omega
  subst hjS
  rw [List.take_length] at hD1
  -- what is due behind
  have later : ∀ (now' : Int) (y : Du), DueF c k v now' D1 t y → now < y.e.Time := fun now' y hy => by
    have hdue := hy.due
    simp only [isDue, Bool.and_eq_true, decide_eq_true_eq, Bool.not_eq_true'] at hdue
    have hil := (List.getElem?_eq_some_iff.1 hy.ent).1
    obtain ⟨h1, h2, h3, h4, h5⟩ := hdue
    rw [hD1 y.n hil, Bool.or_eq_false_iff, decide_eq_false_iff_not] at h1
    refine Int.not_le.1 fun hle => h1.2 ?_
    exact List.mem_map.2 ⟨⟨y.e, y.n⟩, hall hy.cond y.n y.e hy.ent (by simp only [isDue, Bool.and_eq_true, decide_eq_true_eq, Bool.not_eq_true']; exact ⟨h1.1, hle, h3, h4, h5⟩), rfl⟩
  refine (ars_Due_ok hc now (hk.at_ _) (hv.occ _) (hv.pos _) (hv.shut _) (hv.lamp _) hn1.at_ (ht _)).mono ?_
  rintro r s4 ⟨d2, rfl, ho2⟩
  obtain ⟨S2, hS2, hF2, _⟩ := due_facts c k v now D1 t
  have hS2n : S2 = [] := by
    cases S2 with
    | nil => rfl
    | cons y l =>
      have h1 := hF2 y (by simp)
      have := later now y h1
      have := h1.time
      omega
  rw [hS2, hS2n] at ho2
  refine ⟨_, rfl, ho2.at_.lenK (bcn (fun e => absurd rfl e) (fun _ => ?_))⟩
  intro R hR
  refine bcd (fun _ => rfl) (fun h1 => bcd (fun _ => rfl) (fun h2 => hR s4 ?_))
  have hw : w64 (now + 1) = now + 1 := w64_id (by omega) (by omega)
  rw [hw]
  refine (ars_Due_ok hc (now + 1) (hk.at_ _) (hv.occ _) (hv.pos _) (hv.shut _) (hv.lamp _) (hn1.ext' ho2.ext).at_ (ht _)).mono ?_
  rintro r s5 ⟨d3, rfl, ho3⟩
  obtain ⟨S3, hS3, hF3, _⟩ := due_facts c k v (now + 1) D1 t
  rw [hS3] at ho3
  have hsl := ho3.at_.size
  rw [List.length_map, List.length_map] at hsl
  refine ⟨_, rfl, ho3.at_.lenK ⟨fun n s => s = s5 ∧ Rng S3 (fun _ => True) n, fun n _ => S3.length - n.toNat, ⟨rfl, .start trivial⟩, ?_⟩⟩
  rintro n s ⟨rfl, hr⟩
  rw [List.length_map, List.length_map]
  refine bcd (fun hlt => ?_) (fun _ => rfl)
  obtain ⟨j, y, rfl, hy, hj, _, nx⟩ := hr.step rfl hsl hlt
  have g := hF3 y (List.mem_of_getElem? hy)
  have g1 := later _ y g
  have g2 := g.time
  refine ho3.at_.load (map_get (map_get hy)) c_int rfl ⟨y.n, rfl, (ht s).load (map_get g.ent) c_Entry rfl ⟨y.e.Time, rfl, bcn (fun e => absurd (by omega) e) (fun _ => andl rfl (nx (fun _ => True) trivial))⟩⟩
theorem law16_ArsBerths_ok {xs : List A} (h : TyAs Try.prog [t_Config, t_law16_World, t_sl_int] xs) : LawTrue n_law16_ArsBerths xs := by
  obtain ⟨c0, c1, c2, c3, c4, c, k0, k1, k2, k3, k4, k5, k, m0, m1, m2, m3, m4, m5, m, v0, v1, v2, v3, v, r, rfl, hc, hk, hm, hv, hr⟩ := world_args h
  obtain ⟨a0, r, rfl, h0, hr0⟩ := tys_cons hr
  obtain rfl := tys_nil hr0
  obtain ⟨db, rfl, q⟩ := tya_cell h0 (by kernel_rfl) (by kernel_rfl : cellsSh Try.prog 5 t_sl_int = some [.sl t_int])
  obtain ⟨b, hb, _, hz, hbl⟩ := sh_rows (bytes := 8) encI _ (fun row n h => ty_i h) (by kernel_rfl) (by omega) q
  clear h hr h0 hr0
  have hbs := (hb noS).size
  rw [List.length_map] at hbs
  refine W_law16_ArsBerths _ _ _ _ _ _ _ _ _ k0 k1 k2 k3 k4 k5 k.Dirty m0 m1 m2 m3 m4 m5 m.Dirty v0 v1 v2 v3 db noS _ (law16_lives_ok.use ⟨true, rfl, bcnot (fun e => by cases e) (fun _ => newObj_intro fun id s1 hid _ he1 hs1 => (hb s1).lenK ?_)⟩)
  -- a count in a map
  have cnt : ∀ (l : List Int) (j : Nat) (x : Int), l[j]? = some x → ∀ z, (l.take (j + 1)).count z = (l.take j).count z + if z = x then 1 else 0 := fun l j x hx z => by
    rw [List.take_add_one, hx, Option.toList_some, List.count_append, List.count_singleton]
    by_cases e : x = z
    · simp [e]
    · simp [e, Ne.symm e]
  refine ⟨fun n s => ∃ (j : Nat) (f : Int → Option A), n = j ∧ j ≤ b.length ∧ MapAt Try.prog t_int iA s id f ∧ ∀ z, (f z).getD (iA 0) = iA ((b.take j).count z : Nat), fun n _ => b.length - n.toNat, ⟨0, _, rfl, by omega, MapAt.new hs1, fun z => by simp⟩, ?_⟩
  rintro _ s ⟨j, f, rfl, hj, hmp, hf⟩
  rw [List.length_map]
  refine bcd (fun hlt => ?_) (fun hge => ?_)
  · have hlt : j < b.length := by omega
    obtain ⟨x, hx⟩ := get_of_lt (l := b) (j := j) hlt
    have hcl : (b.take j).count x ≤ b.length := Nat.le_trans List.count_le_length (by rw [List.length_take]; omega)
    refine (hb s).load (map_get hx) c_int rfl ⟨x, rfl, hmp.lookI keysI x (hf x) (hmp.put keysI x fun s' f' hm' hf' hfx _ _ => ?_)⟩
    rw [w64_succ (j := j) (by omega)]
    refine ⟨⟨j + 1, f', rfl, by omega, hm', fun z => ?_⟩, dec_lt hlt⟩
    rw [cnt b j x hx z]
    by_cases hz : z = x
    · subst hz; rw [hfx, if_pos rfl, w64_succ (by omega)]; rfl
    · rw [hf' z hz, hf, if_neg hz, Nat.add_zero]
  have hjb : j = b.length := by omega
  subst hjb
  rw [List.take_length] at hf
  refine (ars_Berths_ok hc (hk.at_ _) (hm.at_ _) (hb s) hz (by omega)).mono ?_
  rintro r s2 ⟨d, rfl, ho⟩
  have hcount := berths_count c k m b
  generalize c.berths k m b = out at *
  have hos := ho.at_.size
  rw [List.length_map] at hos
  refine ⟨_, rfl, newObj_intro fun id2 s3 hid2 _ he3 hs3 => ho.at_.lenK ?_⟩
  refine ⟨fun n s' => ∃ (j : Nat) (g : Int → Option A), n = j ∧ j ≤ out.length ∧ Ext s2 s' ∧ MapAt Try.prog t_int iA s' id2 g ∧ ∀ z, (g z).getD (iA 0) = iA ((out.take j).count z : Nat), fun n _ => out.length - n.toNat, ⟨0, _, rfl, by omega, he3, MapAt.new hs3, fun z => by simp⟩, ?_⟩
  rintro _ s' ⟨j, g, rfl, hj, he, hmp2, hg⟩
  rw [List.length_map]
  refine bcd (fun hlt => ?_) (fun _ => rfl)
  have hlt : j < out.length := by omega
  obtain ⟨x, hx⟩ := get_of_lt (l := out) (j := j) hlt
  have hcl : (out.take j).count x ≤ out.length := Nat.le_trans List.count_le_length (by rw [List.length_take]; omega)
  refine (ho.at_.ext he).load (map_get hx) c_int rfl ⟨x, rfl, hmp2.lookI keysI x (hg x) (hmp2.put keysI x fun s4 g' hm' hg' hgx hs4 _ => ?_)⟩
  have he4 : Ext s2 s4 := ext_other he hid2 hs4
  have hidf : s id ≠ .free := by obtain ⟨cl, es, h1, _⟩ := hmp; rw [h1]; intro e; cases e
  have hmp4 : MapAt Try.prog t_int iA s4 id f := hmp.same ((ho.ext.trans he4) id hidf)
  have hg4 : ∀ z, (g' z).getD (iA 0) = iA ((out.take (j + 1)).count z : Nat) := fun z => by
    rw [cnt out j x hx z]
    by_cases hz : z = x
    · subst hz; rw [hgx, if_pos rfl, w64_succ (by omega)]; rfl
    · rw [hg' z hz, hg, if_neg hz, Nat.add_zero]
  have goI : (∃ (j' : Nat) (g : Int → Option A), w64 ((j : Int) + 1) = j' ∧ j' ≤ out.length ∧ Ext s2 s4 ∧ MapAt Try.prog t_int iA s4 id2 g ∧ ∀ z, (g z).getD (iA 0) = iA ((out.take j').count z : Nat)) ∧ out.length - (w64 ((j : Int) + 1)).toNat < out.length - (j : Int).toNat := by
    rw [w64_succ (by omega)]
    exact ⟨⟨j + 1, g', rfl, by omega, he4, hm', hg4⟩, dec_lt hlt⟩
  refine bcn (fun hx0 => hm'.lookI keysI x (hg4 x) (hmp4.lookI keysI x (hf x) (bcd (fun e => ?_) (fun _ => goI)))) (fun _ => goI)
  exfalso
  have h1 := hcount x hx0
  have h2 : (out.take (j + 1)).count x ≤ out.count x := (List.take_sublist _ _).count_le _
  omega
theorem law16_ArsStays_ok {xs : List A} (h : TyAs Try.prog [t_Config, t_law16_World, t_sl_int] xs) : LawTrue n_law16_ArsStays xs := by
  obtain ⟨c0, c1, c2, c3, c4, c, k0, k1, k2, k3, k4, k5, k, m0, m1, m2, m3, m4, m5, m, v0, v1, v2, v3, v, r, rfl, hc, hk, hm, hv, hr⟩ := world_args h
  obtain ⟨a0, r, rfl, h0, hr0⟩ := tys_cons hr
  obtain rfl := tys_nil hr0
  obtain ⟨db, rfl, q⟩ := tya_cell h0 (by kernel_rfl) (by kernel_rfl : cellsSh Try.prog 5 t_sl_int = some [.sl t_int])
  obtain ⟨b, hb, _, hz, hbl⟩ := sh_rows (bytes := 8) encI _ (fun row n h => ty_i h) (by kernel_rfl) (by omega) q
  clear h hr h0 hr0
  have hbs := (hb noS).size
  rw [List.length_map] at hbs
  refine W_law16_ArsStays _ _ _ _ _ _ _ _ _ k0 k1 k2 k3 k4 k5 k.Dirty m0 m1 m2 m3 m4 m5 m.Dirty v0 v1 v2 v3 db noS _ (law16_lives_ok.use ⟨true, rfl, bcnot (fun e => by cases e) (fun _ => (ars_Berths_ok hc (hk.at_ _) (hk.at_ _) (hb _) hz (by omega)).mono ?_)⟩)
  rintro r s ⟨d, rfl, ho⟩
  have hB := berths_same c k b
  have hB2 := berths_same c k (c.berths k k b)
  have hlen : (c.berths k k b).length = b.length ∨ (c.berths k k b).length = c.Sigs.length := by
    rw [hB]; split
    · exact .inr (fit0_len _ _)
    · exact .inl rfl
  have hob : 8 * (c.berths k k b).length ≤ 140737488355328 := by
    rw [hB]; split
    · rename_i hf
      have := (check_small (fits_check hf)).2.2.2.2.1
      rw [fit0_len]; omega
    · omega
  have hget : ∀ (i : Nat) x, (c.berths k k b)[i]? = some x → b[i]? = some x ∨ (b.length ≤ i ∧ x = 0) := fun i x hi => by
    rw [hB] at hi; split at hi
    · exact fit0_get hi
    · exact .inl hi
  have hsame : c.berths k k (c.berths k k b) = c.berths k k b := by
    rw [hB2]; split
    · rename_i hf
      exact fit0_id (by rw [hB, if_pos hf]; exact fit0_len _ _)
    · rfl
  generalize hout : c.berths k k b = out at *
  have hos := ho.at_.size
  rw [List.length_map] at hos
  refine ⟨_, rfl, ?_⟩
  intro R hR
  have main : R s := hR s (by
    refine (hb s).lenK ⟨fun n s' => s' = s ∧ ∃ j : Nat, n = j ∧ j ≤ b.length, fun n _ => b.length - n.toNat, ⟨rfl, 0, rfl, by omega⟩, ?_⟩
    rintro _ s' ⟨rfl, j, rfl, hj⟩
    rw [List.length_map]
    refine bcd (fun hlt => ?_) (fun _ => ho.at_.lenK ?_)
    · have hlt : j < b.length := by omega
      obtain ⟨x, hx⟩ := get_of_lt (l := b) (j := j) hlt
      have next : (s' = s' ∧ ∃ j' : Nat, w64 ((j : Int) + 1) = j' ∧ j' ≤ b.length) ∧ b.length - (w64 ((j : Int) + 1)).toNat < b.length - (j : Int).toNat := by
        rw [w64_succ (by omega)]; exact ⟨⟨rfl, j + 1, rfl, by omega⟩, dec_lt hlt⟩
      refine (hb s').load (map_get hx) c_int rfl ⟨x, rfl, ho.at_.lenK ?_⟩
      rw [List.length_map]
      refine bcd (fun hlt2 => ?_) (fun _ => next)
      obtain ⟨y, hy⟩ := get_of_lt (l := out) (j := j) (by omega)
      refine ho.at_.load (map_get hy) c_int rfl ⟨y, rfl, bcn (fun e => ?_) (fun _ => next)⟩
      rcases hget j y hy with g | g
      · rw [hx] at g; injection g with g; exact absurd g.symm e
      · omega
    refine ⟨fun n s2 => s2 = s' ∧ ∃ j : Nat, n = j ∧ j ≤ out.length, fun n _ => out.length - n.toNat, ⟨rfl, 0, rfl, by omega⟩, ?_⟩
    rintro _ s2 ⟨rfl, i, rfl, hi⟩
    rw [List.length_map]
    refine bcd (fun hlt => ?_) (fun _ => ?_)
    · have hlt : i < out.length := by omega
      obtain ⟨y, hy⟩ := get_of_lt (l := out) (j := i) hlt
      have next : (s2 = s2 ∧ ∃ j' : Nat, w64 ((i : Int) + 1) = j' ∧ j' ≤ out.length) ∧ out.length - (w64 ((i : Int) + 1)).toNat < out.length - (i : Int).toNat := by
        rw [w64_succ (by omega)]; exact ⟨⟨rfl, i + 1, rfl, by omega⟩, dec_lt hlt⟩
      refine ho.at_.load (map_get hy) c_int rfl ⟨y, rfl, (hb s2).lenK ?_⟩
      rw [List.length_map]
      refine bcd (fun hge => bcn (fun e => ?_) (fun _ => next)) (fun _ => next)
      rcases hget i y hy with g | g
      · have := (List.getElem?_eq_some_iff.1 g).1; omega
      · exact absurd g.2 e
    · refine (ars_Berths_ok hc (hk.at_ _) (hk.at_ _) ho.at_ ho.nz hob).mono ?_
      rintro r s3 ⟨d2, rfl, ho2⟩
      rw [hsame] at ho2
      refine ⟨_, rfl, (ref01_SameInts_ok ho2.at_ (ho.at_.ext ho2.ext)).use ⟨_, rfl, ?_⟩⟩
      rw [decide_eq_true rfl])
  refine ho.at_.lenK ((hb s).lenK ?_)
  rw [List.length_map, List.length_map]
  refine bcn (fun e1 => ho.at_.lenK ((hc s).sigs.lenK ?_)) (fun _ => main)
  rw [List.length_map, List.length_map]
  exact bcn (fun e2 => by exfalso; omega) (fun _ => main)
end Go.Proofs.Yteflnjedfmmddaa
end
