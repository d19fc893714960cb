/-
  Proofs that the statement of this claim leans on: part 5.
-/
import Derived.Test.YtpanpagcgckeoaaGreatP4
section
set_option linter.unusedVariables false
set_option linter.unusedSimpArgs false
namespace Go.Proofs.YtpanpagcgckeoaaGreat
open Go.Fw Go.Proofs Go.RowKit
variable {σ : Store}
theorem Mul64_ok (x y : Int) (hx0 : 0 ≤ x) (hy0 : 0 ≤ y) (hxy : x * y < 2 ^ 32) (hx : x < 2 ^ 32) (hy : y < 2 ^ 32) : Pure Tryz.prog n_math_bits_Mul64 [.one (.int .u64 x), .one (.int .u64 y)] σ (.tup [.one (.int .u64 0), .one (.int .u64 (x * y))]) := by
  have h0 : 0 ≤ x * y := Int.mul_nonneg hx0 hy0
  refine W_math_bits_Mul64 x y σ _ ?_
  unfold V_math_bits_Mul64
  have z0 : IntKind.wrap .u64 0 = 0 := u64_id (by omega) (by omega)
  have m0 := and_mask (x := 0) (by omega) (by omega)
  have f0 := fdiv_small (x := 0) (by omega) (by omega)
  rw [and_mask hx0 hx, and_mask hy0 hy, fdiv_small hx0 hx, fdiv_small hy0 hy, u64_id (n := x) hx0 (by omega), u64_id (n := y) hy0 (by omega), u64_id (n := x * y) h0 (by omega), fdiv_small h0 hxy]
  simp only [Int.zero_mul, Int.mul_zero, Int.add_zero, Int.zero_add, z0, m0, f0]
  exact ⟨trivial, trivial⟩
theorem Mul_ok (s : Store) (x y : Int) (hx0 : 0 ≤ x) (hy0 : 0 ≤ y) (hxy : x * y < 2 ^ 32) (hx : x < 2 ^ 32) (hy : y < 2 ^ 32) : Pure Tryz.prog n_math_bits_Mul [.one (.int .u64 x), .one (.int .u64 y)] s (.tup [.one (.int .u64 0), .one (.int .u64 (x * y))]) :=
  W_math_bits_Mul x y s _ ((Mul64_ok x y hx0 hy0 hxy hx hy).use ⟨_, _, rfl, rfl, rfl⟩)
theorem Repeat_int_ok {x : D} {row : List D} {n : Nat} (hx : At Tryz.prog σ t_int x [row]) (hn : n ≤ 2 ^ 20) : DCalls Tryz.prog n_slices_Repeat_int [.one x, iA n] σ (RepPost t_int n row σ) :=
  W_slices_Repeat_int x n σ _ (rep_ok (bytes := 8) Mul_ok c_int hx hn (by omega) fun _ _ h => h)
theorem Repeat_Mover_ok {x : D} {row : List D} {n : Nat} (hx : At Tryz.prog σ t_Mover x [row]) (hn : n ≤ 2 ^ 20) : DCalls Tryz.prog n_slices_Repeat_Mover [.one x, iA n] σ (RepPost t_Mover n row σ) :=
  W_slices_Repeat_Mover x n σ _ (rep_ok (bytes := 16) Mul_ok c_Mover hx hn (by omega) fun _ _ h => h)
theorem Start_ok (now : Int) : Pure Tryz.prog n_mover_Start [iA now] σ (.a (.agg [iD 0, iD now])) := W_mover_Start now σ _ ⟨rfl, rfl⟩
theorem Grow_Mover_ok {n : Nat} (hn : n ≤ 2 ^ 40) : DCalls Tryz.prog n_slices_Grow_Mover [.one .nils, iA n] σ fun r s => ∃ d, r = .a (.one d) ∧ Own Tryz.prog σ s t_Mover d [] := by
  refine W_slices_Grow_Mover n σ _ (bcd (fun h => absurd h (by omega)) (fun _ => ⟨0, rfl, ?_⟩))
  have hw : w64 ((n : Int) - w64 (0 - ((0 : Nat) : Int))) = n := by
    have : w64 (0 - ((0 : Nat) : Int)) = 0 := by decide
    rw [this, w64_id (by omega) (by omega)]; omega
  rw [hw]
  refine bcd (fun h => ⟨0, .inr ⟨rfl, .inl rfl⟩, by omega, by omega, by omega, by omega, by omega, bcd (fun h0 => absurd h0 (by omega)) (fun _ => newObj_intro fun id s hid _ he hs => ?_)⟩) (fun h => ⟨_, rfl, .nil _ (.refl _)⟩)
  refine ⟨0, rfl, n, .inl ⟨by simp, _, _, hs, c_Mover⟩, by omega, by omega, by omega, _, rfl, ?_⟩
  exact ⟨⟨⟨_, _, hs, rfl, by simp, by simp⟩, by simp, fun es rows e => by cases e⟩, he, osl_new hid, fun h => h, by intro e; cases e⟩
theorem Concat_Mover_ok {d a b : D} {ra rb : List (List D)} (hd : At Tryz.prog σ t_sl_Mover d [[a], [b]]) (ha : At Tryz.prog σ t_Mover a ra) (hb : At Tryz.prog σ t_Mover b rb) (hla : ra.length ≤ 2 ^ 20) (hlb : rb.length ≤ 2 ^ 20) :
    DCalls Tryz.prog n_slices_Concat_Mover [.one d] σ fun r s => ∃ d, r = .a (.one d) ∧ Own Tryz.prog σ s t_Mover d (ra ++ rb) := by
  let L : List (D × List (List D)) := [(a, ra), (b, rb)]
  have hL : ∀ p ∈ L, At Tryz.prog σ t_Mover p.1 p.2 := fun p hp => by
    rcases List.mem_cons.1 hp with rfl | hp
    · exact ha
    · rcases List.mem_cons.1 hp with rfl | hp
      · exact hb
      · cases hp
  have hdL : At Tryz.prog σ t_sl_Mover d (L.map fun p => [p.1]) := hd
  have hl : L.length < 2 ^ 60 := by show 2 < 2 ^ 60; omega
  refine W_slices_Concat_Mover d σ _ (hdL.lenK ⟨fun m n s => s = σ ∧ 0 ≤ m ∧ Rng L (fun r => m + ((r.map fun p => p.2.length).sum : Nat) = ((ra.length + rb.length : Nat) : Int)) n, fun _ n _ => L.length - n.toNat, ⟨rfl, by omega, .start (by simp [L])⟩, ?_⟩)
  rintro m n s ⟨rfl, hm, hr⟩
  refine bcd (fun hlt => ?_) (fun hge => ?_)
  · obtain ⟨j, x, rfl, hx, hj, hF, nx⟩ := hr.step (by simp) hl hlt
    refine hdL.load (map_get hx) c_sl_Mover rfl ⟨x.1, rfl, (hL x (List.mem_of_getElem? hx)).lenK ?_⟩
    simp only [List.map_cons, List.sum_cons] at hF
    have hw : w64 (m + (x.2.length : Int)) = m + x.2.length := w64_id (by omega) (by omega)
    rw [hw]
    refine bcd (fun h => absurd h (by omega)) (fun _ => ?_)
    have hn := nx (fun r => m + x.2.length + ((r.map fun p => p.2.length).sum : Nat) = ((ra.length + rb.length : Nat) : Int)) (by omega)
    exact ⟨⟨rfl, by omega, hn.1⟩, hn.2⟩
  · have hF := hr.done (by simp) hge
    simp only [List.map_nil, List.sum_nil] at hF
    have hmn : m = ((ra.length + rb.length : Nat) : Int) := by omega
    subst hmn
    refine (Grow_Mover_ok (by omega)).mono ?_
    rintro r s1 ⟨d1, rfl, ho⟩
    refine ⟨d1, rfl, hdL.lenK ⟨fun d2 n s2 => ∃ out, Own Tryz.prog s s2 t_Mover d2 out ∧ Rng L (fun q => out ++ (q.map fun p => p.2).flatten = ra ++ rb) n, fun _ n _ => L.length - n.toNat, ⟨[], ho, .start (by simp [L])⟩, ?_⟩⟩
    rintro d2 n s2 ⟨out, ho2, hr2⟩
    refine bcd (fun hlt => ?_) (fun hge => ?_)
    · obtain ⟨j, x, rfl, hx, hj, hF2, nx⟩ := hr2.step (by simp) hl hlt
      refine (hdL.ext ho2.ext).load (map_get hx) c_sl_Mover rfl ⟨x.1, rfl, ?_⟩
      have hxa := (hL x (List.mem_of_getElem? hx)).ext ho2.ext
      simp only [List.map_cons, List.flatten_cons] at hF2
      have hlen := congrArg List.length hF2
      simp only [List.length_append] at hlen
      refine ho2.append hxa (by omega) (by omega) fun d3 s3 ho3 _ _ => ?_
      have hn := nx (fun q => out ++ x.2 ++ (q.map fun p => p.2).flatten = ra ++ rb) (by rw [List.append_assoc]; exact hF2)
      exact ⟨⟨_, ho3, hn.1⟩, hn.2⟩
    · have hF2 := hr2.done (by simp) hge
      simp only [List.map_nil, List.flatten_nil, List.append_nil] at hF2
      exact ⟨_, rfl, hF2 ▸ ho2⟩
theorem locks_between_ok (n lo hi : Int) : Pure Tryz.prog n_locks_between [iA n, iA lo, iA hi] σ (.a (bA (decide (lo ≤ n ∧ n ≤ hi)))) := by
  refine W_locks_between n lo hi σ _ (bcd (fun h => ⟨?_, rfl⟩) (fun h => ⟨?_, rfl⟩)) <;> simp [h]
theorem locks_times_ok {d : D} {l : List Int} (b : Int) (hb : 0 ≤ b ∧ b ≤ 1) (h : At Tryz.prog σ t_int d (l.map Go.Fw.encI)) : Pure Tryz.prog n_locks_times [iA b, .one d] σ (.a (bA (l.all fun n => decide (0 ≤ n ∧ n ≤ 4294967295 + b)))) := by
  have hl := h.size
  rw [List.length_map] at hl
  refine W_locks_times b d σ _ (h.lenK ⟨fun n s => s = σ ∧ Rng l (fun r => (r.all fun n => decide (0 ≤ n ∧ n ≤ 4294967295 + b)) = l.all fun n => decide (0 ≤ n ∧ n ≤ 4294967295 + b)) n, fun n _ => l.length - n.toNat, ⟨rfl, .start rfl⟩, ?_⟩)
  rintro n τ ⟨rfl, hr⟩
  refine bcd (fun hlt => ?_) (fun hge => ?_)
  · obtain ⟨j, x, rfl, hx, hj, hF, nx⟩ := hr.step (by simp) hl hlt
    rw [List.all_cons] at hF
    have hw : w64 (4294967295 + b) = 4294967295 + b := w64_id (by omega) (by omega)
    refine h.load (map_get hx) c_int rfl ⟨x, rfl, (locks_between_ok _ _ _).use ⟨_, rfl, ?_⟩⟩
    rw [hw]
    refine bcnot (fun h1 => ?_) (fun h1 => ?_)
    · rw [h1] at hF; exact ⟨by rw [← hF]; rfl, rfl⟩
    · rw [h1, Bool.true_and] at hF; exact andl rfl (nx _ hF)
  · have hF := hr.done (by simp) hge
    exact ⟨by rw [← hF]; rfl, rfl⟩
end Go.Proofs.YtpanpagcgckeoaaGreat
end
section
namespace Go.Fw
structure Rs where
  State : Int
  Since : Int
  Next : Int
  Mark : Int
  deriving DecidableEq
structure Mv where
  Cmd : Int
  Other : Int
  deriving DecidableEq
structure Ls where
  Ask : Int
  Done : Int
  Grant : Int
  Told : Int
  PAsk : Int
  PDone : Int
  PGrant : Int
  Since : Int
  deriving DecidableEq
structure Co where
  Own : List Int
  Routes : List Rs
  Points : List Mv
  Xs : List Mv
  Lines : List Ls
  Resets : List Int
  Dirty : Bool
  deriving DecidableEq
def Rs.enc (r : Rs) : List D := [iD r.State, iD r.Since, iD r.Next, iD r.Mark]
def Mv.enc (r : Mv) : List D := [iD r.Cmd, iD r.Other]
def Ls.enc (r : Ls) : List D := [iD r.Ask, iD r.Done, iD r.Grant, iD r.Told, iD r.PAsk, iD r.PDone, iD r.PGrant, iD r.Since]
def tm (b n : Int) : Bool := decide (0 ≤ n ∧ n ≤ 4294967295 + b)
def Rs.fits (p : Rs × Rt) : Bool := decide (0 ≤ p.1.State ∧ p.1.State ≤ 5) && decide (0 ≤ p.1.Next ∧ p.1.Next ≤ p.2.Path.length) && (tm 0 p.1.Since && tm 0 p.1.Mark)
def Mv.fits (m : Mv) : Bool := decide (0 ≤ m.Cmd ∧ m.Cmd ≤ 2) && decide (-1 ≤ m.Other ∧ m.Other ≤ 4294967295)
def Ls.fits (l : Ls) : Bool := (tm 0 l.Ask && (tm 0 l.Done && (tm 0 l.Grant && (tm 0 l.Told && (tm 0 l.PAsk && (tm 0 l.PDone && tm 0 l.PGrant)))))) && tm 1 l.Since
def Co.lens (c : Cf) (k : Co) : Bool := decide (k.Own.length = c.Secs.length ∧ k.Points.length = c.Secs.length ∧ k.Resets.length = c.Secs.length ∧ k.Routes.length = c.Rts.length ∧ k.Xs.length = c.Xs.length ∧ k.Lines.length = 4)
def Co.parts (c : Cf) (k : Co) : Bool :=
  (k.Own.all fun o => decide (-2 ≤ o ∧ o ≤ c.Rts.length)) && ((k.Routes.zip c.Rts).all Rs.fits && ((k.Points ++ k.Xs).all Mv.fits && (k.Lines.all Ls.fits && k.Resets.all (tm 1))))
def Co.fits (c : Cf) (k : Co) : Bool := decide (c.check = 0) && (k.lens c && k.parts c)
theorem check_small {c : Cf} (h : c.check = 0) : topoOk c.Secs c.Jts = true ∧ c.Secs.length ≤ 16 ∧ c.Rts.length ≤ 12 ∧ c.Xs.length ≤ 4 ∧ c.Sigs.length ≤ 12 ∧ c.Jts.length ≤ 24 := by
  unfold Cf.check at h
  split at h
  · cases h
  split at h
  · cases h
  split at h
  · cases h
  split at h
  · cases h
  rename_i h1 h2 h3 h4
  simp only [Bool.not_eq_false] at h1 h2 h3
  simp only [Cf.sigsOk, Cf.xsOk, Bool.and_eq_true, decide_eq_true_eq, topoOk] at h1 h2 h3
  exact ⟨by simp only [topoOk, Bool.and_eq_true, decide_eq_true_eq]; exact h1, h1.1.2.1, by omega, h3.2, h2.2, h1.1.2.2⟩
end Go.Fw
end
section
set_option linter.unusedVariables false
set_option linter.unusedSimpArgs false
namespace Go.Proofs.YtpanpagcgckeoaaGreat
open Go.Fw Go.Proofs Go.RowKit
variable {σ : Store}
theorem clone_ok {t : TypeId} {bytes : Nat} {d : D} {rows : List (List D)} {Q : RV → Store → Prop} (h : At Tryz.prog σ t d rows) (hz : d ≠ .zsl) (hb : bytes * rows.length ≤ 140737488355328)
    (hQ : ∀ d' s, Own Tryz.prog σ s t d' rows → Q (.a (.one d')) s) :
    ∃ b : Bool, (IsNil .sl d b) ∧ bcase (b != false) (Q (.a (.one .nils)) σ) (Fw.newObj σ (.live t []) (fun (id : Nat) => fun (σ' : Store) => appendTo Tryz.prog σ' t bytes (.osl id 0 0) d (fun (d : D) => fun (σ'1 : Store) => Q (.a (.one d)) σ'1))) := by
  have new : ∀ b : Bool, b = false → bcase (b != false) (Q (.a (.one .nils)) σ) (Fw.newObj σ (.live t []) (fun (id : Nat) => fun (σ' : Store) => appendTo Tryz.prog σ' t bytes (.osl id 0 0) d (fun (d : D) => fun (σ'1 : Store) => Q (.a (.one d)) σ'1))) := by
    rintro b rfl
    rw [show (false != false) = false from by decide]
    refine (newObj_intro (K := fun id σ' => appendTo Tryz.prog σ' t bytes (.osl id 0 0) d fun d σ'1 => Q (.a (.one d)) σ'1) ?_ : Fw.newObj σ (.live t []) _)
    refine fun id s hid _ he hs => ?_
    have ho : Own Tryz.prog σ s t (.osl id 0 0) [] := ⟨At.fresh hs (by simp) rfl, he, osl_new hid, fun h => h, by intro e; cases e⟩
    exact ho.append (h.ext he) (by simpa using hb) (by have := h.size; simpa using this) fun d' s' ho' _ _ => hQ _ _ (by simpa using ho')
  have hr := h.rows
  cases d <;> simp only [Go.Fw.Rows] at hr <;> try exact hr.elim
  · subst hr; exact ⟨true, rfl, hQ _ _ (.nil _ (.refl _))⟩
  · exact absurd rfl hz
  · exact ⟨false, rfl, new _ rfl⟩
  · exact ⟨false, rfl, new _ rfl⟩
theorem Clone_int_ok {d : D} {rows : List (List D)} (h : At Tryz.prog σ t_int d rows) (hz : d ≠ .zsl) (hb : 8 * rows.length ≤ 140737488355328) : DCalls Tryz.prog n_slices_Clone_int [.one d] σ fun r s => ∃ d', r = .a (.one d') ∧ Own Tryz.prog σ s t_int d' rows :=
  W_slices_Clone_int d σ _ (clone_ok (Q := fun r s => ∃ d', r = .a (.one d') ∧ Own Tryz.prog σ s _ d' rows) h hz hb fun d' s ho => ⟨d', rfl, ho⟩)
theorem Clone_RouteState_ok {d : D} {rows : List (List D)} (h : At Tryz.prog σ t_RouteState d rows) (hz : d ≠ .zsl) (hb : 32 * rows.length ≤ 140737488355328) : DCalls Tryz.prog n_slices_Clone_RouteState [.one d] σ fun r s => ∃ d', r = .a (.one d') ∧ Own Tryz.prog σ s t_RouteState d' rows :=
  W_slices_Clone_RouteState d σ _ (clone_ok (Q := fun r s => ∃ d', r = .a (.one d') ∧ Own Tryz.prog σ s _ d' rows) h hz hb fun d' s ho => ⟨d', rfl, ho⟩)
theorem Clone_Mover_ok {d : D} {rows : List (List D)} (h : At Tryz.prog σ t_Mover d rows) (hz : d ≠ .zsl) (hb : 16 * rows.length ≤ 140737488355328) : DCalls Tryz.prog n_slices_Clone_Mover [.one d] σ fun r s => ∃ d', r = .a (.one d') ∧ Own Tryz.prog σ s t_Mover d' rows :=
  W_slices_Clone_Mover d σ _ (clone_ok (Q := fun r s => ∃ d', r = .a (.one d') ∧ Own Tryz.prog σ s _ d' rows) h hz hb fun d' s ho => ⟨d', rfl, ho⟩)
theorem Clone_LineState_ok {d : D} {rows : List (List D)} (h : At Tryz.prog σ t_LineState d rows) (hz : d ≠ .zsl) (hb : 64 * rows.length ≤ 140737488355328) : DCalls Tryz.prog n_slices_Clone_LineState [.one d] σ fun r s => ∃ d', r = .a (.one d') ∧ Own Tryz.prog σ s t_LineState d' rows :=
  W_slices_Clone_LineState d σ _ (clone_ok (Q := fun r s => ∃ d', r = .a (.one d') ∧ Own Tryz.prog σ s _ d' rows) h hz hb fun d' s ho => ⟨d', rfl, ho⟩)
structure CoAt (σ : Store) (k0 k1 k2 k3 k4 k5 : D) (k : Co) : Prop where
  own : At Tryz.prog σ t_int k0 (k.Own.map Go.Fw.encI)
  routes : At Tryz.prog σ t_RouteState k1 (k.Routes.map Rs.enc)
  points : At Tryz.prog σ t_Mover k2 (k.Points.map Mv.enc)
  xs : At Tryz.prog σ t_Mover k3 (k.Xs.map Mv.enc)
  lines : At Tryz.prog σ t_LineState k4 (k.Lines.map Ls.enc)
  resets : At Tryz.prog σ t_int k5 (k.Resets.map Go.Fw.encI)
theorem CoAt.ext {σ' : Store} {k0 k1 k2 k3 k4 k5 : D} {k : Co} (h : CoAt σ k0 k1 k2 k3 k4 k5 k) (he : Ext σ σ') : CoAt σ' k0 k1 k2 k3 k4 k5 k :=
  ⟨h.own.ext he, h.routes.ext he, h.points.ext he, h.xs.ext he, h.lines.ext he, h.resets.ext he⟩
abbrev coA (k0 k1 k2 k3 k4 k5 : D) (b : Bool) : A := .agg [k0, k1, k2, k3, k4, k5, .bool b]
theorem locks_Fits_ok {c0 c1 c2 c3 c4 : D} {c : Cf} (h : ∀ s, CfAt s c0 c1 c2 c3 c4 c) {k0 k1 k2 k3 k4 k5 : D} {k : Co} (hk : CoAt σ k0 k1 k2 k3 k4 k5 k) :
    Pure Tryz.prog n_locks_Fits [cfA c0 c1 c2 c3 c4 c, coA k0 k1 k2 k3 k4 k5 k.Dirty] σ (.a (bA (k.fits c))) := by
  have ls := (h σ).secs.size
  have lx := (h σ).xs.size
  have l0 := hk.own.size
  have l1 := hk.routes.size
  have l2 := hk.points.size
  have l3 := hk.xs.size
  have l4 := hk.lines.size
  have l5 := hk.resets.size
  simp only [List.length_map] at ls lx l0 l1 l2 l3 l4 l5
  refine .of (W_locks_Fits _ _ _ _ _ _ _ _ _ k0 k1 k2 k3 k4 k5 k.Dirty σ _ ((h σ).secs.lenK fun R hR => (conf_Check_ok h).use ⟨_, rfl, ?_⟩)) (flat_b _)
  obtain ⟨rows, hat, hlen, hrow⟩ := rts_froz fun s => (h s).rts
  have hl := (hat σ).size
  have bad : k.lens c = false → ∀ s, Ext σ s → (RV.a (.one (.bool false)) = .a (bA (k.fits c)) ∧ Ext σ s) := fun hb s he => ⟨by simp [Co.fits, hb], he⟩
  have nl : ∀ p : Prop, ¬ (k.Own.length = c.Secs.length ∧ k.Points.length = c.Secs.length ∧ k.Resets.length = c.Secs.length ∧ k.Routes.length = c.Rts.length ∧ k.Xs.length = c.Xs.length ∧ k.Lines.length = 4) → k.lens c = false := fun p hn => by
    rw [Co.lens, decide_eq_false hn]
  refine bcn (fun hc => ⟨by simp [Co.fits, hc], .refl _⟩) (fun hc => ?_)
  simp only [List.length_map]
  refine hk.own.lenK (bcn (fun e => bad (nl True fun g => by simp only [List.length_map] at e; omega) _ (.refl _)) (fun e0 => ?_))
  refine hk.points.lenK (bcn (fun e => bad (nl True fun g => by simp only [List.length_map] at e; omega) _ (.refl _)) (fun e1 => ?_))
  refine hk.resets.lenK (bcn (fun e => bad (nl True fun g => by simp only [List.length_map] at e; omega) _ (.refl _)) (fun e2 => ?_))
  refine hk.routes.lenK ((hat σ).lenK (bcn (fun e => bad (nl True fun g => by simp only [List.length_map] at e; omega) _ (.refl _)) (fun e3 => ?_)))
  refine hk.xs.lenK ((h σ).xs.lenK (bcn (fun e => bad (nl True fun g => by simp only [List.length_map] at e; omega) _ (.refl _)) (fun e4 => ?_)))
  refine hk.lines.lenK (bcn (fun e => bad (nl True fun g => by simp only [List.length_map] at e; omega) _ (.refl _)) (fun e5 => hR σ ?_))
  simp only [List.length_map] at e0 e1 e2 e3 e4 e5
  have hL : k.lens c = true := decide_eq_true ⟨by omega, by omega, by omega, by omega, by omega, by omega⟩
  have hfit : k.fits c = k.parts c := by simp [Co.fits, hc, hL]
  rw [hfit]
  obtain ⟨_, s1, s2, s3, _, _⟩ := check_small hc
  clear bad nl hfit hL hR
  unfold Co.parts
  -- owners
  refine hk.own.lenK ⟨fun n s => s = σ ∧ Rng k.Own (fun r => (r.all fun o => decide (-2 ≤ o ∧ o ≤ (c.Rts.length : Int))) = k.Own.all fun o => decide (-2 ≤ o ∧ o ≤ (c.Rts.length : Int))) n, fun n _ => k.Own.length - n.toNat, ⟨rfl, .start rfl⟩, ?_⟩
  rintro n τ ⟨rfl, hr⟩
  refine bcd (fun hlt => ?_) (fun hge => ?_)
  · obtain ⟨j, x, rfl, hx, hj, hF, nx⟩ := hr.step (by simp) l0 hlt
    rw [List.all_cons] at hF
    refine hk.own.load (map_get hx) c_int rfl ⟨x, rfl, (hat τ).lenK ((locks_between_ok _ _ _).use ⟨_, rfl, ?_⟩)⟩
    rw [hlen]
    refine bcnot (fun h1 => ?_) (fun h1 => ?_)
    · rw [h1] at hF; exact ⟨by rw [← hF]; rfl, .refl _⟩
    · rw [h1, Bool.true_and] at hF; exact andl rfl (nx _ hF)
  have hF0 := hr.done (by simp) hge
  rw [← hF0]
  show (∃ len2 : Nat, _)
  simp only [List.all_nil, Bool.true_and]
  clear hF0 hr hge
  -- routes
  have lz : (k.Routes.zip c.Rts).length = k.Routes.length := by rw [List.length_zip]; omega
  refine hk.routes.lenK ⟨fun n s => Ext τ s ∧ Rng (k.Routes.zip c.Rts) (fun r => r.all Rs.fits = (k.Routes.zip c.Rts).all Rs.fits) n, fun n _ => (k.Routes.zip c.Rts).length - n.toNat, ⟨.refl _, .start rfl⟩, ?_⟩
  rintro n s ⟨he, hr⟩
  refine bcd (fun hlt => ?_) (fun hge => ?_)
  · obtain ⟨j, x, rfl, hx, hj, hF, nx⟩ := hr.step (by rw [List.length_map, lz]) (by omega) hlt
    obtain ⟨g1, g2⟩ := List.getElem?_zip_eq_some.1 hx
    rw [List.all_cons] at hF
    refine (hk.ext he).routes.load (map_get g1) c_RouteState rfl ⟨x.1.State, x.1.Since, x.1.Next, x.1.Mark, rfl, (locks_between_ok _ _ _).use ⟨_, rfl, ?_⟩⟩
    have bad : Rs.fits x = false → ∀ s', Ext τ s' → (RV.a (.one (.bool false)) = .a (bA ((k.Routes.zip c.Rts).all Rs.fits && ((k.Points ++ k.Xs).all Mv.fits && (k.Lines.all Ls.fits && k.Resets.all (tm 1))))) ∧ Ext τ s') := fun hb s' he' => by
      rw [hb, Bool.false_and] at hF
      exact ⟨by rw [← hF]; rfl, he'⟩
    refine bcnot (fun h1 => bad (by unfold Rs.fits; rw [h1]; rfl) _ he) (fun h1 => ?_)
    obtain ⟨row, hrw⟩ := get_of_lt (l := rows) (j := j) (by rw [lz] at hj; omega)
    obtain ⟨d1, d2, d3, rfl, q1, q2, q3⟩ := hrow j row x.2 hrw g2
    refine (hat s).load hrw c_Route rfl ⟨d1, rfl, (q1 s).lenK ((locks_between_ok _ _ _).use ⟨_, rfl, ?_⟩)⟩
    rw [List.length_map]
    refine bcnot (fun h2 => bad (by unfold Rs.fits; rw [h1, h2]; rfl) _ he) (fun h2 => ?_)
    refine newObj_intro fun id s2 hid _ he2 hs2 => ?_
    refine (locks_times_ok (l := [x.1.Since, x.1.Mark]) 0 (by omega) (At.fresh hs2 (by simp) rfl)).use ⟨_, rfl, ?_⟩
    have e3 : ([x.1.Since, x.1.Mark].all fun n => decide (0 ≤ n ∧ n ≤ 4294967295 + (0 : Int))) = (tm 0 x.1.Since && tm 0 x.1.Mark) := by simp [tm]
    rw [e3]
    refine bcnot (fun h3 => bad (by unfold Rs.fits; rw [h1, h2, h3]; rfl) _ (he.trans he2)) (fun h3 => ?_)
    have hx : Rs.fits x = true := by unfold Rs.fits; rw [h1, h2, h3]; rfl
    rw [hx, Bool.true_and] at hF
    have hn := nx (fun r => r.all Rs.fits = (k.Routes.zip c.Rts).all Rs.fits) hF
    exact ⟨⟨he.trans he2, hn.1⟩, hn.2⟩
  have hF0 := hr.done (by rw [List.length_map, lz]) hge
  rw [← hF0]
  simp only [List.all_nil, Bool.true_and]
  clear hF0 hr hge
  -- movers
  refine newObj_intro fun id s2 hid _ he2 hs2 => ?_
  have het := he.trans he2
  have hkt := hk.ext het
  refine (Concat_Mover_ok (a := k2) (b := k3) (At.fresh hs2 (by simp) rfl) hkt.points hkt.xs (by rw [List.length_map]; omega) (by rw [List.length_map]; omega)).mono ?_
  rintro r s3 ⟨d, rfl, ho⟩
  rw [← List.map_append] at ho
  have he3 := het.trans ho.ext
  have lm : (k.Points ++ k.Xs).length < 2 ^ 60 := by rw [List.length_append]; omega
  refine ⟨d, rfl, ho.at_.lenK ⟨fun n s => s = s3 ∧ Rng (k.Points ++ k.Xs) (fun r => r.all Mv.fits = (k.Points ++ k.Xs).all Mv.fits) n, fun n _ => (k.Points ++ k.Xs).length - n.toNat, ⟨rfl, .start rfl⟩, ?_⟩⟩
  rintro n s4 ⟨rfl, hr⟩
  refine bcd (fun hlt => ?_) (fun hge => ?_)
  · obtain ⟨j, x, rfl, hx, hj, hF, nx⟩ := hr.step (by simp) lm hlt
    rw [List.all_cons] at hF
    refine ho.at_.load (map_get hx) c_Mover rfl ⟨x.Cmd, x.Other, rfl, (locks_between_ok _ _ _).use ⟨_, rfl, bcnot (fun h1 => ?_) (fun h1 => (locks_between_ok _ _ _).use ⟨_, rfl, bcnot (fun h2 => ?_) (fun h2 => ?_)⟩)⟩⟩
    · have : x.fits = false := by unfold Mv.fits; rw [h1]; rfl
      rw [this, Bool.false_and] at hF; exact ⟨by rw [← hF]; rfl, he3⟩
    · have : x.fits = false := by unfold Mv.fits; rw [h1, h2]; rfl
      rw [this, Bool.false_and] at hF; exact ⟨by rw [← hF]; rfl, he3⟩
    · have : x.fits = true := by unfold Mv.fits; rw [h1, h2]; rfl
      rw [this, Bool.true_and] at hF; exact andl rfl (nx _ hF)
  have hF0 := hr.done (by simp) hge
  rw [← hF0]
  simp only [List.all_nil, Bool.true_and]
  clear hF0 hr hge
  -- lines
  refine hk.lines.lenK ⟨fun n s => Ext τ s ∧ Rng k.Lines (fun r => r.all Ls.fits = k.Lines.all Ls.fits) n, fun n _ => k.Lines.length - n.toNat, ⟨he3, .start rfl⟩, ?_⟩
  rintro n s5 ⟨he5, hr⟩
  refine bcd (fun hlt => ?_) (fun hge => ?_)
  · obtain ⟨j, x, rfl, hx, hj, hF, nx⟩ := hr.step (by simp) l4 hlt
    rw [List.all_cons] at hF
    refine (hk.ext he5).lines.load (map_get hx) c_LineState rfl ⟨x.Ask, x.Done, x.Grant, x.Told, x.PAsk, x.PDone, x.PGrant, x.Since, rfl, newObj_intro fun id1 s6 hid1 _ he6 hs6 => ?_⟩
    have bad : Ls.fits x = false → ∀ s', Ext τ s' → (RV.a (.one (.bool false)) = .a (bA (k.Lines.all Ls.fits && k.Resets.all (tm 1))) ∧ Ext τ s') := fun hb s' he' => by
      rw [hb, Bool.false_and] at hF
      exact ⟨by rw [← hF]; rfl, he'⟩
    refine (locks_times_ok (l := [x.Ask, x.Done, x.Grant, x.Told, x.PAsk, x.PDone, x.PGrant]) 0 (by omega) (At.fresh hs6 (by simp) rfl)).use ⟨_, rfl, ?_⟩
    have e3 : ([x.Ask, x.Done, x.Grant, x.Told, x.PAsk, x.PDone, x.PGrant].all fun n => decide (0 ≤ n ∧ n ≤ 4294967295 + (0 : Int))) = (tm 0 x.Ask && (tm 0 x.Done && (tm 0 x.Grant && (tm 0 x.Told && (tm 0 x.PAsk && (tm 0 x.PDone && tm 0 x.PGrant)))))) := by simp [tm]
    rw [e3]
    refine bcnot (fun h1 => bad (by unfold Ls.fits; rw [h1]; rfl) _ (he5.trans he6)) (fun h1 => newObj_intro fun id2 s7 hid2 _ he7 hs7 => ?_)
    refine (locks_times_ok (l := [x.Since]) 1 (by omega) (At.fresh hs7 (by simp) rfl)).use ⟨_, rfl, ?_⟩
    have e4 : ([x.Since].all fun n => decide (0 ≤ n ∧ n ≤ 4294967295 + (1 : Int))) = tm 1 x.Since := by simp [tm]
    rw [e4]
    refine bcnot (fun h2 => bad (by unfold Ls.fits; rw [h1, h2]; rfl) _ ((he5.trans he6).trans he7)) (fun h2 => ?_)
    have hx : x.fits = true := by unfold Ls.fits; rw [h1, h2]; rfl
    rw [hx, Bool.true_and] at hF
    have hn := nx (fun r => r.all Ls.fits = k.Lines.all Ls.fits) hF
    exact ⟨⟨(he5.trans he6).trans he7, hn.1⟩, hn.2⟩
  have hF0 := hr.done (by simp) hge
  rw [← hF0]
  simp only [List.all_nil, Bool.true_and]
  exact (locks_times_ok 1 (by omega) (hk.ext he5).resets).use ⟨_, rfl, rfl, he5⟩
end Go.Proofs.YtpanpagcgckeoaaGreat
end
section
set_option linter.unusedVariables false
set_option linter.unusedSimpArgs false
namespace Go.Fw
variable {P : Program} {σ : Store}
theorem rows_fun {s : Store} {el : TypeId} {d : D} {rs rs' : List (List D)} (h : Go.Fw.Rows P s el d rs) (h' : Go.Fw.Rows P s el d rs') : rs = rs' := by
  cases d <;> simp only [Go.Fw.Rows] at h h' <;> try exact h.elim
  · rw [h, h']
  · rw [h, h']
  · rw [h.1, h'.1]
  · obtain ⟨t, rows, a1, a2, a3, a4⟩ := h
    obtain ⟨t', rows', b1, b2, b3, b4⟩ := h'
    rw [a1] at b1
    injection b1 with e1 e2
    subst e1 e2
    rw [a4, b4]
def repPre (P : Program) (t : TypeId) (as0 : List A) (s : Store) : Prop := ∃ (d : D) (n : Nat) (row : List D), as0 = [.one d, iA n] ∧ At P s t d [row] ∧ n ≤ 2 ^ 20
def repPost (P : Program) (t : TypeId) (as0 : List A) (s : Store) (r : RV) (s' : Store) : Prop := ∃ (d : D) (n : Nat) (row : List D), as0 = [.one d, iA n] ∧ At P s t d [row] ∧ n ≤ 2 ^ 20 ∧ RepPost t n row s r s'
theorem Fin.set' {s : Store} (h : Fin s) (id : Nat) (so : SO) : Fin (s.set id so) := by
  obtain ⟨N, hN⟩ := h
  refine ⟨max N (id + 1), fun i hi => ?_⟩
  rw [Store.set_ne _ _ (by omega)]; exact hN i (by omega)
theorem rep_spec {f : FuncId} {t : TypeId} (h : ∀ (s : Store) (x : D) (row : List D) (n : Nat), At P s t x [row] → n ≤ 2 ^ 20 → DCalls P f [.one x, iA n] s (RepPost t n row s)) : SpecOk P f (repPre P t) (repPost P t) := by
  refine ⟨?_, ?_, ?_, ?_, ?_⟩
  · rintro as0 s ⟨d, n, row, rfl, h1, h2⟩
    exact (h s d row n h1 h2).mono fun r s' hr => ⟨d, n, row, rfl, h1, h2, hr⟩
  · rintro as0 s ⟨d, n, row, rfl, h1, h2⟩ ⟨N, hN⟩
    exact ⟨_, _, ⟨d, n, row, rfl, h1, h2, N, hN N (Nat.le_refl _), rfl, rfl⟩, Fin.set' ⟨N, hN⟩ _ _⟩
  · rintro as0 s r s' ⟨d, n, row, rfl, h1, h2, id, h3, rfl, rfl⟩ hf
    exact hf.set' _ _
  · rintro as0 s id so hid hso ⟨d, n, row, rfl, h1, h2⟩
    have he := Ext.new hid so
    refine ⟨⟨d, n, row, rfl, h1.ext he, h2⟩, ?_⟩
    rintro r s' ⟨d', n', row', e1, g1, g2, id', g3, rfl, rfl⟩
    injection e1 with e2 e3
    injection e2 with e2
    injection e3 with e3 _
    injection e3 with e3
    injection e3 with _ e3
    have e3 : n = n' := by omega
    subst e2 e3
    have e4 := rows_fun (h1.ext he).rows g1.rows
    injection e4 with e4 _
    subst e4
    have hne : id' ≠ id := fun e => by subst e; rw [Store.set_same] at g3; exact hso g3
    rw [Store.set_ne _ _ hne] at g3
    refine ⟨s.set id' (.live t (List.replicate n row)), ⟨d, n, row, rfl, h1, h2, id', g3, rfl, rfl⟩, ?_, set_comm (Ne.symm hne) _ _⟩
    rw [Store.set_ne _ _ (Ne.symm hne)]; exact hid
  · rintro as0 s r s' _ ⟨d, n, row, rfl, h1, h2, id, h3, rfl, rfl⟩ i hi
    exact Store.set_ne _ _ (fun e => hi (e ▸ h3))
def idOf : D → Option Nat
  | .osl id _ _ => some id
  | _ => none
def Apart (a b : D) : Prop := ∀ id, idOf a = some id → idOf b ≠ some id
theorem Apart.symm {a b : D} (h : Apart a b) : Apart b a := fun id h1 h2 => h id h2 h1
theorem Own.at_new {σ0 : Store} {el : TypeId} {id n : Nat} {rs : List (List D)} (hid : σ0 id = .free) (he : Ext σ0 σ) (h : σ id = .live el rs) (hsz : rs.length < 2 ^ 60) (hn : n = rs.length) : Own P σ0 σ el (.osl id 0 n) rs :=
  ⟨At.fresh h hsz hn, he, osl_new hid, fun h => h, by intro e; cases e⟩
theorem Own.apart {σ0 : Store} {el el' : TypeId} {d d' : D} {rs rs' : List (List D)} (h : Own P σ0 σ el d rs) (h' : At P σ0 el' d' rs') : Apart d' d := by
  intro id h1 h2
  cases d' with
  | osl i a n =>
    have e1 : i = id := by simpa [idOf] using h1
    subst e1
    cases d with
    | osl i' a' n' =>
      have e2 : i' = i := by simpa [idOf] using h2
      subst e2
      have := h.new _ _ _ rfl
      obtain ⟨t, rows, g1, _⟩ := h'.rows
      rw [this] at g1; cases g1
    | _ => simp [idOf] at h2
  | _ => simp [idOf] at h1
theorem Own.from {σ0 σ1 : Store} {el : TypeId} {d : D} {rs : List (List D)} (he : Ext σ0 σ1) (h : Own P σ1 σ el d rs) : Own P σ0 σ el d rs :=
  ⟨h.at_, he.trans h.ext, fun id i len e => by
    have h1 := h.new id i len e
    by_cases hf : σ0 id = .free
    · exact hf
    · have := he id hf; rw [h1] at this; exact this.symm, h.nsl, h.nz⟩
def newCo (c : Cf) (now : Int) : Co :=
  ⟨List.replicate c.Secs.length (-1), List.replicate c.Rts.length ⟨0, 0, 0, 0⟩, c.Secs.map fun s => ⟨0, if s.Kind = 1 then now else 0⟩, List.replicate c.Xs.length ⟨1, now⟩, List.replicate 4 ⟨0, 0, 0, 0, 0, 0, 0, 0⟩, List.replicate c.Secs.length 0, true⟩
end Go.Fw
end
section
set_option linter.unusedVariables false
set_option linter.unusedSimpArgs false
namespace Go.Proofs.YtpanpagcgckeoaaGreat
open Go.Fw Go.Proofs Go.RowKit
variable {σ : Store}
def mvAt (now : Int) (s : Sec) : Mv := ⟨0, if s.Kind = 1 then now else 0⟩
theorem locks_movers_ok {c0 c1 c2 c3 c4 : D} {c : Cf} (h : ∀ s, CfAt s c0 c1 c2 c3 c4 c) (now : Int) (h1 : c.Secs.length ≤ 2 ^ 20) (h2 : c.Xs.length ≤ 2 ^ 20) :
    DCalls Tryz.prog n_locks_movers [cfA c0 c1 c2 c3 c4 c, iA now] σ fun r s => ∃ d1 d2, r = .tup [.one d1, .one d2] ∧ Own Tryz.prog σ s t_Mover d1 ((c.Secs.map (mvAt now)).map Mv.enc) ∧ Own Tryz.prog σ s t_Mover d2 ((List.replicate c.Xs.length (⟨1, now⟩ : Mv)).map Mv.enc) ∧ Apart d1 d2 := by
  refine W_locks_movers _ _ _ _ _ _ _ _ _ now σ _ ((h σ).secs.lenK ⟨by omega, by omega, by rw [List.length_map]; omega, newObj_intro fun id s1 hid _ he hs => (h s1).secs.lenK ?_⟩)
  rw [List.length_map, Int.toNat_natCast]
  refine ⟨fun n s => ∃ j : Nat, n = j ∧ j ≤ c.Secs.length ∧ Ext σ s ∧ s id = .live t_Mover (((c.Secs.take j).map (mvAt now)).map Mv.enc ++ List.replicate (c.Secs.length - j) [iD 0, iD 0]), fun n _ => c.Secs.length - n.toNat, ⟨0, rfl, by omega, he, by simpa using hs⟩, ?_⟩
  rintro _ s ⟨j, rfl, hj, hes, hl⟩
  refine bcd (fun hlt => ?_) (fun hge => ?_)
  · obtain ⟨x, hx⟩ := get_of_lt (l := c.Secs) (j := j) (by omega)
    refine (h s).secs.load (map_get hx) c_Section rfl ⟨x.Kind, x.OC, x.Line, rfl, ?_⟩
    have hw : w64 ((j : Int) + 1) = ((j + 1 : Nat) : Int) := w64_succ (by omega)
    have htake : c.Secs.take (j + 1) = c.Secs.take j ++ [x] := by rw [List.take_add_one, hx]; rfl
    have hlr : (((c.Secs.take j).map (mvAt now)).map Mv.enc ++ List.replicate (c.Secs.length - j) ([iD 0, iD 0] : List D)).length = c.Secs.length := by simp; omega
    have hsplit : List.replicate (c.Secs.length - j) ([iD 0, iD 0] : List D) = [iD 0, iD 0] :: List.replicate (c.Secs.length - (j + 1)) [iD 0, iD 0] := by
      rw [show c.Secs.length - j = (c.Secs.length - (j + 1)) + 1 by omega, List.replicate_succ]
    have hln : (((c.Secs.take j).map (mvAt now)).map Mv.enc).length = j := by rw [List.length_map, List.length_map, List.length_take]; omega
    have hmu : c.Secs.length - ((j + 1 : Nat) : Int).toNat < c.Secs.length - ((j : Nat) : Int).toNat := by omega
    refine bce (fun hk => (Start_ok now).use ⟨0, now, rfl, ?_⟩) (fun hk => ?_)
    · refine ⟨c.Secs.length, ⟨by omega, t_Mover, _, hl, c_Mover⟩, by omega, by omega, ?_⟩
      have hrowj : (((c.Secs.take j).map (mvAt now)).map Mv.enc ++ List.replicate (c.Secs.length - j) ([iD 0, iD 0] : List D))[0 + j]? = some [iD 0, iD 0] := by
        rw [Nat.zero_add, List.getElem?_append_right (by omega), hln, Nat.sub_self, hsplit]; rfl
      refine ⟨id, 0, c.Secs.length, t_Mover, _, [iD 0, iD 0], rfl, by omega, hl, hrowj, by simp, ?_⟩
      rw [hw]
      refine ⟨⟨j + 1, rfl, by omega, hes.set hid _, ?_⟩, hmu⟩
      rw [Store.set_same, htake, Int.toNat_natCast, Nat.zero_add, hsplit]
      congr 1
      rw [List.set_append_right _ _ (by omega), hln, Nat.sub_self, List.set_cons_zero]
      simp [mvAt, hk, Mv.enc, patch]
    · rw [hw]
      refine ⟨⟨j + 1, rfl, by omega, hes, ?_⟩, hmu⟩
      rw [hl, htake, hsplit]
      simp [mvAt, hk, Mv.enc]
  · have e : j = c.Secs.length := by omega
    subst e
    rw [List.take_length, Nat.sub_self, List.replicate_zero, List.append_nil] at hl
    refine newObj_intro fun id1 s2 hid1 _ he2 hs2 => (h s2).xs.lenK ?_
    rw [List.length_map]
    refine (Repeat_Mover_ok (At.fresh hs2 (by simp) rfl) h2).mono ?_
    rintro r s3 ⟨id3, hid3, rfl, rfl⟩
    have he3 : Ext s2 (s2.set id3 (.live t_Mover (List.replicate c.Xs.length [iD 1, iD now]))) := Ext.new hid3 _
    have hne : id ≠ id3 := fun e => by
      rw [← e] at hid3
      have := he2 id (by rw [hl]; intro e; cases e)
      rw [hid3, hl] at this; cases this
    have hf3 : σ id3 = .free := by
      by_cases hf : σ id3 = .free
      · exact hf
      · have := (hes.trans he2) id3 hf
        rw [hid3] at this; exact this.symm
    refine ⟨_, rfl, _, _, rfl, ?_, ?_, ?_⟩
    · refine Own.at_new hid ((hes.trans he2).trans he3) (rs := (c.Secs.map (mvAt now)).map Mv.enc) ?_ (by simp; omega) (by simp)
      rw [Store.set_ne _ _ hne, he2 id (by rw [hl]; intro e; cases e), hl]
    · refine Own.at_new hf3 ((hes.trans he2).trans he3) (rs := (List.replicate c.Xs.length (⟨1, now⟩ : Mv)).map Mv.enc) ?_ (by simp; omega) (by simp)
      rw [Store.set_same]
      simp [Mv.enc]
    · intro i e1 e2
      simp only [idOf, Option.some.injEq] at e1 e2
      exact hne (e1.trans e2.symm)
structure CoOwn (σ0 σ : Store) (k0 k1 k2 k3 k4 k5 : D) (k : Co) : Prop where
  own : Own Tryz.prog σ0 σ t_int k0 (k.Own.map Go.Fw.encI)
  routes : Own Tryz.prog σ0 σ t_RouteState k1 (k.Routes.map Rs.enc)
  points : Own Tryz.prog σ0 σ t_Mover k2 (k.Points.map Mv.enc)
  xs : Own Tryz.prog σ0 σ t_Mover k3 (k.Xs.map Mv.enc)
  lines : Own Tryz.prog σ0 σ t_LineState k4 (k.Lines.map Ls.enc)
  resets : Own Tryz.prog σ0 σ t_int k5 (k.Resets.map Go.Fw.encI)
  apart : [k0, k1, k2, k3, k4, k5].Pairwise Apart
theorem CoOwn.at {σ0 : Store} {k0 k1 k2 k3 k4 k5 : D} {k : Co} (h : CoOwn σ0 σ k0 k1 k2 k3 k4 k5 k) : CoAt σ k0 k1 k2 k3 k4 k5 k :=
  ⟨h.own.at_, h.routes.at_, h.points.at_, h.xs.at_, h.lines.at_, h.resets.at_⟩
theorem locks_New_ok {c0 c1 c2 c3 c4 : D} {c : Cf} (h : ∀ s, CfAt s c0 c1 c2 c3 c4 c) (now : Int) (h1 : c.Secs.length ≤ 2 ^ 20) (h2 : c.Xs.length ≤ 2 ^ 20) (h3 : c.Rts.length ≤ 2 ^ 20) :
    DCalls Tryz.prog n_locks_New [cfA c0 c1 c2 c3 c4 c, iA now] σ fun r s => ∃ k0 k1 k2 k3 k4 k5, r = .a (coA k0 k1 k2 k3 k4 k5 true) ∧ CoOwn σ s k0 k1 k2 k3 k4 k5 (newCo c now) := by
  obtain ⟨rows, hat, hlen⟩ := rts_len (h σ)
  refine W_locks_New _ _ _ _ _ _ _ _ _ now σ _ ⟨repPre Tryz.prog t_int, repPost Tryz.prog t_int, rep_spec fun s x row n q1 q2 => Repeat_int_ok q1 q2, (h σ).secs.lenK (hat.lenK ((h σ).secs.lenK (newObj_intro fun id s1 hid _ he1 hs1 => ?_)))⟩
  simp only [List.length_map, hlen]
  refine ⟨⟨_, _, [iD (-1)], rfl, At.fresh hs1 (by simp) rfl, h1⟩, ?_⟩
  rintro r s2 ⟨d, n, row, e1, g1, g2, id2, hid2, rfl, rfl⟩
  injection e1 with e2 e3
  injection e2 with e2
  injection e3 with e3 _
  injection e3 with e3
  injection e3 with _ e3
  have e3 : c.Secs.length = n := by omega
  subst e2 e3
  have e4 := rows_fun (At.fresh hs1 (by simp) rfl : At Tryz.prog s1 t_int (.osl id 0 1) _).rows g1.rows
  injection e4 with e4 _
  subst e4
  generalize hs2 : s1.set id2 (SO.live t_int (List.replicate c.Secs.length [D.int IntKind.i64 (-1)])) = s2
  have he2 : Ext s1 s2 := by rw [← hs2]; exact Ext.new hid2 _
  have hl2 : s2 id2 = .live t_int (List.replicate c.Secs.length [iD (-1)]) := by rw [← hs2]; exact Store.set_same _ _ _
  have o0 : Own Tryz.prog s1 s2 t_int (.osl id2 0 c.Secs.length) (List.replicate c.Secs.length [iD (-1)]) := .at_new hid2 he2 hl2 (by simp; omega) (by simp)
  refine ⟨_, rfl, by omega, by omega, by omega, newObj_intro fun id3 s3 hid3 _ he3 hs3 => ⟨by omega, by omega, by omega, newObj_intro fun id4 s4 hid4 _ he4 hs4 => ⟨by omega, by omega, by omega, newObj_intro fun id5 s5 hid5 _ he5 hs5 => ?_⟩⟩⟩
  simp only [Int.toNat_natCast] at hs3 hs5 ⊢
  have o1 : Own Tryz.prog s2 s3 t_RouteState (.osl id3 0 c.Rts.length) (List.replicate c.Rts.length [iD 0, iD 0, iD 0, iD 0]) := .at_new hid3 he3 hs3 (by simp; omega) (by simp)
  have o4 : Own Tryz.prog s3 s4 t_LineState (.osl id4 0 4) (List.replicate 4 [iD 0, iD 0, iD 0, iD 0, iD 0, iD 0, iD 0, iD 0]) := .at_new hid4 he4 hs4 (by simp) (by simp)
  have o5 : Own Tryz.prog s4 s5 t_int (.osl id5 0 c.Secs.length) (List.replicate c.Secs.length [iD 0]) := .at_new hid5 he5 hs5 (by simp; omega) (by simp)
  refine (locks_movers_ok h now h1 h2).mono ?_
  rintro r s6 ⟨d1, d2, rfl, o2, o3, hap⟩
  refine ⟨d1, d2, rfl, _, _, _, _, _, _, rfl, ?_⟩
  have a3 := o0.at_.ext he3
  have a4 := a3.ext he4
  have a5 := a4.ext he5
  have b4 := o1.at_.ext he4
  have b5 := b4.ext he5
  have c5 := o4.at_.ext he5
  have f1 := he1.trans he2
  have f2 := f1.trans he3
  have f3 := f2.trans he4
  have f4 := f3.trans he5
  refine ⟨?_, ?_, ?_, ?_, ?_, ?_, ?_⟩
  · have : List.map Go.Fw.encI (newCo c now).Own = List.replicate c.Secs.length [iD (-1)] := by simp [newCo, Go.Fw.encI]
    rw [this]; exact (((o0.ext' he3).ext' he4).ext' he5).ext' o2.ext |>.from he1
  · have : List.map Rs.enc (newCo c now).Routes = List.replicate c.Rts.length [iD 0, iD 0, iD 0, iD 0] := by simp [newCo, Rs.enc]
    rw [this]; exact ((o1.ext' he4).ext' he5).ext' o2.ext |>.from f1
  · exact o2.from f4
  · exact o3.from f4
  · have : List.map Ls.enc (newCo c now).Lines = List.replicate 4 [iD 0, iD 0, iD 0, iD 0, iD 0, iD 0, iD 0, iD 0] := by simp [newCo, Ls.enc]
    rw [this]; exact (o4.ext' he5).ext' o2.ext |>.from f2
  · have : List.map Go.Fw.encI (newCo c now).Resets = List.replicate c.Secs.length [iD 0] := by simp [newCo, Go.Fw.encI]
    rw [this]; exact (o5.ext' o2.ext).from f3
  · simp only [List.pairwise_cons, List.mem_cons, List.not_mem_nil, or_false, forall_eq_or_imp, forall_eq, List.Pairwise.nil, and_true, false_imp_iff, implies_true]
    exact ⟨⟨o1.apart o0.at_, o2.apart a5, o3.apart a5, o4.apart a3, o5.apart a4⟩, ⟨o2.apart b5, o3.apart b5, o4.apart o1.at_, o5.apart b4⟩, ⟨hap, (o2.apart c5).symm, (o2.apart o5.at_).symm⟩, ⟨(o3.apart c5).symm, (o3.apart o5.at_).symm⟩, o5.apart o4.at_⟩
end Go.Proofs.YtpanpagcgckeoaaGreat
end
section
set_option linter.unusedVariables false
set_option linter.unusedSimpArgs false
namespace Go.Fw
variable {P : Program} {σ : Store}
theorem cell_store {s : Store} {id : Nat} {t : TypeId} {row xs : List D} {off : Nat} {K : Store → Prop} (hs : s id = .live t [row]) (ho : off + xs.length ≤ row.length)
    (hK : ∀ s', s' id = .live t [patch row off xs] → (∀ i, i ≠ id → s' i = s i) → K s') : storeEl xs s (.osl id 0 1) 0 off K :=
  ⟨id, 0, 1, t, [row], row, rfl, by omega, hs, rfl, ho, hK _ (Store.set_same _ _ _) fun i hi => Store.set_ne _ _ hi⟩
theorem At.store {el : TypeId} {d : D} {rs : List (List D)} {j off : Nat} {n : Nat} {row xs : List D} {K : Store → Prop} (h : At P σ el d rs) (hd : ¬ isSl d) (hr : rs[j]? = some row) (hn : n = j) (ho : off + xs.length ≤ row.length)
    (hK : ∀ s' id, idOf d = some id → At P s' el d (rs.set j (patch row off xs)) → (∀ i, i ≠ id → s' i = σ i) → s' id ≠ .free → K s') : storeEl xs σ d n off K := by
  subst hn
  have hrows := h.rows
  have hj := (List.getElem?_eq_some_iff.1 hr).1
  cases d <;> simp only [Go.Fw.Rows] at hrows <;> try exact hrows.elim
  · subst hrows; simp at hr
  · subst hrows; simp at hr
  · exact absurd trivial hd
  · obtain ⟨t, rows, h1, h2, h3, rfl⟩ := hrows
    rename_i id i0 len
    have hjl : n < len := by simp at hj; omega
    have hrow : rows[i0 + n]? = some row := by
      rw [List.getElem?_take, if_pos hjl, List.getElem?_drop] at hr; exact hr
    refine ⟨id, i0, len, t, rows, row, rfl, hjl, h1, hrow, ho, hK _ id rfl ⟨⟨t, _, Store.set_same _ _ _, h2, by simp; omega, ?_⟩, ?_, fun es rows e => by cases e⟩ (fun i hi => Store.set_ne _ _ hi) (by rw [Store.set_same]; intro e; cases e)⟩
    · rw [List.drop_set, if_neg (by omega), List.take_set]
      congr 1; omega
    · have := h.size; simpa using this
structure Lk where
  Value : Int
  Stamp : Int
  Valid : Bool
def Lk.enc (l : Lk) : List D := [iD l.Value, iD l.Stamp, .bool l.Valid]
end Go.Fw
end
section
set_option linter.unusedVariables false
set_option linter.unusedSimpArgs false
namespace Go.Proofs.YtpanpagcgckeoaaGreat
open Go.Fw Go.Proofs Go.RowKit
variable {σ : Store}
section
variable {c0 c1 c2 c3 c4 : D} {c : Cf}
end
structure CoFit (k0 k1 k2 k3 k4 k5 : D) (k : Co) : Prop where
  n0 : k0 ≠ .zsl
  n1 : k1 ≠ .zsl
  n2 : k2 ≠ .zsl
  n3 : k3 ≠ .zsl
  n4 : k4 ≠ .zsl
  n5 : k5 ≠ .zsl
  b0 : 8 * k.Own.length ≤ 140737488355328
  b1 : 32 * k.Routes.length ≤ 140737488355328
  b2 : 16 * k.Points.length ≤ 140737488355328
  b3 : 16 * k.Xs.length ≤ 140737488355328
  b4 : 64 * k.Lines.length ≤ 140737488355328
  b5 : 8 * k.Resets.length ≤ 140737488355328
theorem own_other {σ0 s s' : Store} {el : TypeId} {d : D} {rs : List (List D)} {id : Nat} (h : Own Tryz.prog σ0 s el d rs) (hid : σ0 id = .free) (hd : idOf d ≠ some id) (hs : ∀ i, i ≠ id → s' i = s i) : Own Tryz.prog σ0 s' el d rs :=
  ⟨h.at_.same fun i a n e => hs i fun e2 => hd (by subst e; rw [← e2]; rfl), fun i hi => by
    have hne : i ≠ id := fun e => hi (by rw [e]; exact hid)
    rw [hs i hne]; exact h.ext i hi, h.new, h.nsl, h.nz⟩
end Go.Proofs.YtpanpagcgckeoaaGreat
end
section
namespace Go.Fw
def zLs : Ls := ⟨0, 0, 0, 0, 0, 0, 0, 0⟩
theorem map_set {α β : Type} (f : α → β) (l : List α) (i : Nat) (x : α) : (l.map f).set i (f x) = (l.set i x).map f := by simp
end Go.Fw
end
section
set_option linter.unusedVariables false
set_option linter.unusedSimpArgs false
namespace Go.Proofs.YtpanpagcgckeoaaGreat
open Go.Fw Go.Proofs Go.RowKit
variable {σ : Store}
section
variable {σ0 : Store} {id : Nat} {d0 d1 d2 d3 d4 d5 c0 c1 c2 c3 c4 v0 v1 v2 v3 : D} {k : Co} {c : Cf} {now : Int} {was : Bool}
theorem own_id {s : Store} {el : TypeId} {d : D} {rs : List (List D)} {i : Nat} (h : Own Tryz.prog σ0 s el d rs) (hi : idOf d = some i) : σ0 i = .free := by
  cases d with
  | osl j a n =>
    have : j = i := by simpa [idOf] using hi
    subst this
    exact h.new _ _ _ rfl
  | _ => simp [idOf] at hi
theorem pw {l : List D} (h : l.Pairwise Apart) {i j : Nat} {a b : D} (hi : l[i]? = some a) (hj : l[j]? = some b) (hne : i ≠ j) : Apart a b := by
  obtain ⟨h1, rfl⟩ := List.getElem?_eq_some_iff.1 hi
  obtain ⟨h2, rfl⟩ := List.getElem?_eq_some_iff.1 hj
  rw [List.pairwise_iff_getElem] at h
  rcases Nat.lt_or_gt_of_ne hne with g | g
  · exact h i j h1 h2 g
  · exact (h j i h2 h1 g).symm
end
end Go.Proofs.YtpanpagcgckeoaaGreat
end
section
namespace Go.Fw
structure Vw where
  Occ : List Lk
  Pos : List Lk
  Shut : List Lk
  Lamp : List Lk
def Vw.fits (c : Cf) (v : Vw) : Bool := decide (v.Occ.length = c.Secs.length ∧ v.Pos.length = c.Secs.length ∧ v.Shut.length = c.Xs.length ∧ v.Lamp.length = c.Sigs.length)
theorem topo_line {secs : List Sec} {js : List Jt} (h : topoOk secs js = true) {i : Nat} {s : Sec} (hs : secs[i]? = some s) : 0 ≤ s.Line ∧ s.Line ≤ 3 := by
  unfold topoOk at h
  rw [Bool.and_eq_true] at h
  have h2 := h.2
  split at h2
  · cases h2
  · exact ((srun_iff _ _ _ _).1 h2 i s hs).2.2.1
end Go.Fw
end
section
set_option linter.unusedVariables false
set_option linter.unusedSimpArgs false
namespace Go.Proofs.YtpanpagcgckeoaaGreat
open Go.Fw Go.Proofs Go.RowKit
variable {σ : Store}
def CoPost (σ : Store) (p : Co × Int) (r : RV) (s : Store) : Prop :=
  ∃ d0 d1 d2 d3 d4 d5, r = .tup [coA d0 d1 d2 d3 d4 d5 p.1.Dirty, iA p.2] ∧ CoOwn σ s d0 d1 d2 d3 d4 d5 p.1
section
variable {c0 c1 c2 c3 c4 v0 v1 v2 v3 k0 k1 k2 k3 k4 k5 : D} {c : Cf} {k : Co} {v : Vw}
end
end Go.Proofs.YtpanpagcgckeoaaGreat
end
section
set_option linter.unusedVariables false
set_option linter.unusedSimpArgs false
namespace Go.Proofs.YtpanpagcgckeoaaGreat
open Go.Fw Go.Proofs Go.RowKit
variable {σ : Store}
structure CoFz (d0 d1 d2 d3 d4 d5 : D) (k : Co) : Prop where
  at_ : ∀ s, CoAt s d0 d1 d2 d3 d4 d5 k
  n0 : d0 ≠ .zsl
  n1 : d1 ≠ .zsl
  n2 : d2 ≠ .zsl
  n3 : d3 ≠ .zsl
  n4 : d4 ≠ .zsl
  n5 : d5 ≠ .zsl
end Go.Proofs.YtpanpagcgckeoaaGreat
end
section
set_option linter.unusedVariables false
set_option linter.unusedSimpArgs false
namespace Go.Fw
variable {P : Program}
inductive Cs
  | int (k : IntKind)
  | bool
  | str
  | sl (e : TypeId)
def fieldsSh (g : TypeId → Option (List Cs)) : List Field → Option (List Cs)
  | [] => some []
  | f :: fs => match g f.type, fieldsSh g fs with
    | some a, some b => some (a ++ b)
    | _, _ => none
def cellsSh (P : Program) : Nat → TypeId → Option (List Cs)
  | 0, _ => none
  | m + 1, t => match P.underlying t with
    | some .bool => some [.bool]
    | some (.int k) => some [.int k]
    | some .string => some [.str]
    | some (.slice e) => some [.sl e]
    | some (.struct fs) => fieldsSh (cellsSh P m) fs.toList
    | some (.array k e) => (cellsSh P m e).map fun l => (List.replicate k l).flatten
    | _ => none
def CsOk (P : Program) : Cs → D → Prop
  | .int k, d => ∃ m, d = .int k m ∧ (Lit.int k m).wf = true
  | .bool, d => ∃ b, d = .bool b
  | .str, d => ∃ s, d = .str s ∧ s.size ≤ 140737488351232
  | .sl e, d => d = .nils ∨ ∃ rows, d = .sl (P.cellsOf e) rows ∧ rows.length * P.bytesOf e ≤ 140737488351232 ∧ ∀ row ∈ rows, ∃ n, tyD P n e row
def CsL (P : Program) : List Cs → List D → Prop
  | [], ds => ds = []
  | s :: ss, ds => ∃ d r, ds = d :: r ∧ CsOk P s d ∧ CsL P ss r
theorem CsL.append {a b : List Cs} {x y : List D} (h1 : CsL P a x) (h2 : CsL P b y) : CsL P (a ++ b) (x ++ y) := by
  induction a generalizing x with
  | nil => simp only [CsL] at h1; subst h1; exact h2
  | cons s a ih =>
    obtain ⟨d, r, rfl, q1, q2⟩ := h1
    exact ⟨d, r ++ y, rfl, q1, ih q2⟩
theorem fields_sh {g : TypeId → Option (List Cs)} {ty : TypeId → List D → Prop} (ih : ∀ t ds shs, ty t ds → g t = some shs → CsL P shs ds) : ∀ (fs : List Field) (ds : List D) (shs : List Cs), tyF P ty fs ds → fieldsSh g fs = some shs → CsL P shs ds
  | [], ds, shs, h1, h2 => by
    simp only [tyF] at h1; simp only [fieldsSh] at h2
    cases h2; subst h1; rfl
  | f :: fs, ds, shs, h1, h2 => by
    obtain ⟨a, b, rfl, _, q1, q2⟩ := h1
    rw [fieldsSh] at h2
    split at h2
    · rename_i x y e1 e2
      cases h2
      exact (ih _ _ _ q1 e1).append (fields_sh ih fs b y q2 e2)
    · cases h2
theorem rep_sh {ty : TypeId → List D → Prop} {e : TypeId} {l : List Cs} (ih : ∀ ds, ty e ds → CsL P l ds) : ∀ (k : Nat) (ds : List D), tyR P ty e k ds → CsL P (List.replicate k l).flatten ds
  | 0, ds, h => by simp only [tyR] at h; subst h; rfl
  | k + 1, ds, h => by
    obtain ⟨a, b, rfl, _, q1, q2⟩ := h
    rw [List.replicate_succ, List.flatten_cons]
    exact (ih a q1).append (rep_sh ih k b q2)
theorem ty_sh : ∀ (n m : Nat) (t : TypeId) (ds : List D) (shs : List Cs), tyD P n t ds → cellsSh P m t = some shs → CsL P shs ds
  | 0, _, _, _, _, h, _ => h.elim
  | _ + 1, 0, _, _, _, _, h => by cases h
  | n + 1, m + 1, t, ds, shs, h1, h2 => by
    unfold tyD at h1
    unfold cellsSh at h2
    split at h1
    · rename_i hu
      rw [hu] at h2; cases h2
      obtain ⟨b, rfl⟩ := h1
      exact ⟨_, _, rfl, ⟨b, rfl⟩, rfl⟩
    · rename_i k hu
      rw [hu] at h2; cases h2
      obtain ⟨b, rfl, hw⟩ := h1
      exact ⟨_, _, rfl, ⟨b, rfl, hw⟩, rfl⟩
    · rename_i hu
      rw [hu] at h2; cases h2
      obtain ⟨b, rfl, hw⟩ := h1
      exact ⟨_, _, rfl, ⟨b, rfl, hw⟩, rfl⟩
    · rename_i e hu
      rw [hu] at h2; cases h2
      rcases h1 with rfl | ⟨rows, rfl, q1, q2⟩
      · exact ⟨_, _, rfl, .inl rfl, rfl⟩
      · exact ⟨_, _, rfl, .inr ⟨rows, rfl, q1, fun row hr => ⟨n, q2 row hr⟩⟩, rfl⟩
    · rename_i fs hu
      rw [hu] at h2
      exact fields_sh (fun t ds shs a b => ty_sh n m t ds shs a b) fs.toList ds shs h1 h2
    · rename_i k e hu
      rw [hu] at h2
      simp only [Option.map_eq_some_iff] at h2
      obtain ⟨l, e1, rfl⟩ := h2
      exact rep_sh (fun ds a => ty_sh n m e ds l a e1) k ds h1
    · exact h1.elim
def I64 (n : Int) : Prop := -9223372036854775808 ≤ n ∧ n ≤ 9223372036854775807
theorem wf_i64 {n : Int} (h : (Lit.int .i64 n).wf = true) : I64 n := by
  simp only [Lit.wf, IntKind.min, IntKind.max, IntKind.signed, IntKind.bits, Bool.and_eq_true, decide_eq_true_eq, if_true] at h
  unfold I64
  omega
theorem sh_rel {α : Type} {e : TypeId} {d : D} {bytes : Nat} (R : List D → α → Prop) (hf : ∀ row n, tyD P n e row → ∃ a, R row a) (hb : P.bytesOf e = bytes) (hb0 : 0 < bytes) (h : CsOk P (.sl e) d) :
    ∃ (rows : List (List D)) (l : List α), (∀ s, At P s e d rows) ∧ rows.length = l.length ∧ (∀ (i : Nat) row a, rows[i]? = some row → l[i]? = some a → R row a) ∧ d ≠ .zsl ∧ bytes * l.length ≤ 140737488351232 := by
  rcases h with rfl | ⟨rows, rfl, q1, q2⟩
  · exact ⟨[], [], fun s => .nil, rfl, fun i row a h => by simp at h, (by intro e; cases e), by simp⟩
  · have key : ∀ rows : List (List D), (∀ row ∈ rows, ∃ n, tyD P n e row) → ∃ l : List α, rows.length = l.length ∧ ∀ (i : Nat) row a, rows[i]? = some row → l[i]? = some a → R row a := by
      intro rows
      induction rows with
      | nil => intro _; exact ⟨[], rfl, fun i row a h => by simp at h⟩
      | cons r rs ih =>
        intro hr
        obtain ⟨l, e1, e2⟩ := ih fun row h => hr row (by simp [h])
        obtain ⟨n, hn⟩ := hr r (by simp)
        obtain ⟨a, ha⟩ := hf r n hn
        refine ⟨a :: l, by simp [e1], fun i row b h1 h2 => ?_⟩
        cases i with
        | zero => simp at h1 h2; subst h1 h2; exact ha
        | succ i => exact e2 i row b (by simpa using h1) (by simpa using h2)
    obtain ⟨l, hl, hR⟩ := key rows q2
    rw [hb, hl] at q1
    have q3 : bytes * l.length ≤ 140737488351232 := by rw [Nat.mul_comm]; exact q1
    have h1 : 1 * l.length ≤ bytes * l.length := Nat.mul_le_mul_right _ hb0
    refine ⟨rows, l, fun s => ⟨⟨rfl, .inr rfl⟩, by omega, fun es rows e => ?_⟩, hl, hR, (by intro e; cases e), q3⟩
    injection e with e1 e2
    exact e1.symm
theorem sh_rows {α : Type} {e : TypeId} {d : D} {bytes : Nat} (f : α → List D) (Q : α → Prop) (hf : ∀ row n, tyD P n e row → ∃ a, row = f a ∧ Q a) (hb : P.bytesOf e = bytes) (hb0 : 0 < bytes) (h : CsOk P (.sl e) d) :
    ∃ l : List α, (∀ s, At P s e d (l.map f)) ∧ (∀ a ∈ l, Q a) ∧ d ≠ .zsl ∧ bytes * l.length ≤ 140737488351232 := by
  rcases h with rfl | ⟨rows, rfl, q1, q2⟩
  · exact ⟨[], fun s => .nil, fun a ha => by simp at ha, (by intro e; cases e), by simp⟩
  · have key : ∀ rows : List (List D), (∀ row ∈ rows, ∃ n, tyD P n e row) → ∃ l : List α, l.map f = rows ∧ ∀ a ∈ l, Q a := by
      intro rows
      induction rows with
      | nil => intro _; exact ⟨[], rfl, fun a ha => by simp at ha⟩
      | cons r rs ih =>
        intro hr
        obtain ⟨l, e1, e2⟩ := ih fun row h => hr row (by simp [h])
        obtain ⟨n, hn⟩ := hr r (by simp)
        obtain ⟨a, rfl, ha⟩ := hf r n hn
        refine ⟨a :: l, by simp [e1], fun b hb => ?_⟩
        simp only [List.mem_cons] at hb
        rcases hb with rfl | hb
        · exact ha
        · exact e2 b hb
    obtain ⟨l, rfl, hl⟩ := key rows q2
    rw [hb, List.length_map] at q1
    have q3 : bytes * l.length ≤ 140737488351232 := by rw [Nat.mul_comm]; exact q1
    have h1 : 1 * l.length ≤ bytes * l.length := Nat.mul_le_mul_right _ hb0
    refine ⟨l, fun s => ⟨⟨rfl, .inr rfl⟩, by rw [List.length_map]; omega, fun es rows e => ?_⟩, hl, (by intro e; cases e), q3⟩
    injection e with e1 e2
    exact e1.symm
theorem tya_agg {t : TypeId} {x : A} (h : TyA P t x) (hg : isAggT P t = some true) : ∃ cs n, x = .agg cs ∧ tyD P n t cs := by
  cases x with
  | one d => have := h.1; rw [hg] at this; cases this
  | agg cs => exact ⟨cs, 30, rfl, h.2⟩
theorem tys_cons {t : TypeId} {ts : List TypeId} {as0 : List A} (h : TyAs P (t :: ts) as0) : ∃ a r, as0 = a :: r ∧ TyA P t a ∧ TyAs P ts r := h
theorem tys_nil {as0 : List A} (h : TyAs P [] as0) : as0 = [] := h
def csZero : Cs → Value
  | .int k => .int k 0
  | .bool => .bool false
  | .str => .string .empty
  | .sl _ => .slice none 0 0
def zeroArg (P : Program) (t : TypeId) : Value := match isAggT P t, cellsSh P 9 t with
  | some true, some l => .agg (l.map csZero).toArray
  | _, some [c] => csZero c
  | _, _ => .int .i64 0
end Go.Fw
namespace Go.Fw
theorem law_fn3 {H : Type} {s : List (DataW H) → Left H} {ds : List (DataW H)} (h : ds.length = 3) (hs : ∀ a b c, s [a, b, c] = { results := [.lit (.bool true)], args := [a, b, c] } := by intros; rfl) : s ds = { results := [.lit (.bool true)], args := ds } := by
  match ds, h with
  | [a, b, c], _ => exact hs a b c
end Go.Fw
namespace Go.Fw
def EqR {α : Type} (la lb : List α) (n : Int) : Prop := ∃ j : Nat, n = j ∧ j ≤ la.length ∧ la.take j = lb.take j
theorem EqR.start {α : Type} (la lb : List α) : EqR la lb 0 := ⟨0, rfl, by omega, by simp⟩
theorem EqR.step {α : Type} {la lb : List α} {n : Int} {m : Nat} (h : EqR la lb n) (hl : la.length = lb.length) (hm : m = la.length) (hs : la.length < 2 ^ 60) (hlt : n < (m : Int)) :
    ∃ (j : Nat) (x y : α), n = j ∧ la[j]? = some x ∧ lb[j]? = some y ∧ (x ≠ y → la ≠ lb) ∧ (x = y → EqR la lb (w64 (n + 1)) ∧ la.length - (w64 (n + 1)).toNat < la.length - n.toNat) := by
  obtain ⟨j, rfl, hj, hF⟩ := h
  have hj' : j < la.length := by omega
  obtain ⟨x, hx⟩ := get_of_lt hj'
  obtain ⟨y, hy⟩ := get_of_lt (l := lb) (j := j) (by omega)
  refine ⟨j, x, y, rfl, hx, hy, fun hne e => ?_, fun e => ?_⟩
  · subst e; rw [hx] at hy; cases hy; exact hne rfl
  · rw [w64_succ (by omega)]
    refine ⟨⟨j + 1, rfl, by omega, ?_⟩, by omega⟩
    rw [List.take_add_one, List.take_add_one, hF, hx, hy, e]
theorem EqR.done {α : Type} {la lb : List α} {n : Int} {m : Nat} (h : EqR la lb n) (hl : la.length = lb.length) (hm : m = la.length) (hge : ¬ n < (m : Int)) : la = lb := by
  obtain ⟨j, rfl, hj, hF⟩ := h
  have : j = la.length := by omega
  rw [List.take_of_length_le (by omega), List.take_of_length_le (by omega)] at hF
  exact hF
end Go.Fw
namespace Go.Fw
end Go.Fw
end
section
set_option linter.unusedVariables false
set_option linter.unusedSimpArgs false
namespace Go.Proofs.YtpanpagcgckeoaaGreat
open Go.Fw Go.Proofs Go.RowKit
theorem ty_i {row : List D} {n : Nat} (h : tyD Tryz.prog n t_int row) : ∃ m, row = Go.Fw.encI m ∧ I64 m := by
  obtain ⟨_, _, rfl, ⟨m, rfl, hm⟩, rfl⟩ := ty_sh n 2 _ _ [.int .i64] h (by kernel_rfl)
  exact ⟨m, rfl, wf_i64 hm⟩
theorem ty_i2 {t : TypeId} {row : List D} {n : Nat} (h : tyD Tryz.prog n t row) (hs : cellsSh Tryz.prog 5 t = some [.int .i64, .int .i64]) : ∃ a b, row = [iD a, iD b] ∧ I64 a ∧ I64 b := by
  obtain ⟨_, _, rfl, ⟨a, rfl, ha⟩, _, _, rfl, ⟨b, rfl, hb⟩, rfl⟩ := ty_sh n 5 _ _ _ h hs
  exact ⟨a, b, rfl, wf_i64 ha, wf_i64 hb⟩
theorem ty_i3 {t : TypeId} {row : List D} {n : Nat} (h : tyD Tryz.prog n t row) (hs : cellsSh Tryz.prog 5 t = some [.int .i64, .int .i64, .int .i64]) : ∃ a b c, row = [iD a, iD b, iD c] ∧ I64 a ∧ I64 b ∧ I64 c := by
  obtain ⟨_, _, rfl, ⟨a, rfl, ha⟩, _, _, rfl, ⟨b, rfl, hb⟩, _, _, rfl, ⟨c, rfl, hc⟩, rfl⟩ := ty_sh n 5 _ _ _ h hs
  exact ⟨a, b, c, rfl, wf_i64 ha, wf_i64 hb, wf_i64 hc⟩
theorem ty_i4 {t : TypeId} {row : List D} {n : Nat} (h : tyD Tryz.prog n t row) (hs : cellsSh Tryz.prog 5 t = some [.int .i64, .int .i64, .int .i64, .int .i64]) : ∃ a b c d, row = [iD a, iD b, iD c, iD d] ∧ I64 a ∧ I64 b ∧ I64 c ∧ I64 d := by
  obtain ⟨_, _, rfl, ⟨a, rfl, ha⟩, _, _, rfl, ⟨b, rfl, hb⟩, _, _, rfl, ⟨c, rfl, hc⟩, _, _, rfl, ⟨d, rfl, hd⟩, rfl⟩ := ty_sh n 5 _ _ _ h hs
  exact ⟨a, b, c, d, rfl, wf_i64 ha, wf_i64 hb, wf_i64 hc, wf_i64 hd⟩
theorem ty_Section {row : List D} {n : Nat} (h : tyD Tryz.prog n t_Section row) : ∃ s : Sec, row = s.enc ∧ I64 s.Kind ∧ I64 s.OC ∧ I64 s.Line := by
  obtain ⟨a, b, c, rfl, q⟩ := ty_i3 h (by kernel_rfl)
  exact ⟨⟨a, b, c⟩, rfl, q⟩
theorem ty_Joint {row : List D} {n : Nat} (h : tyD Tryz.prog n t_Joint row) : ∃ s : Jt, row = s.enc ∧ I64 s.A ∧ I64 s.AEnd ∧ I64 s.B ∧ I64 s.BEnd := by
  obtain ⟨a, b, c, d, rfl, q⟩ := ty_i4 h (by kernel_rfl)
  exact ⟨⟨a, b, c, d⟩, rfl, q⟩
theorem ty_Signal {row : List D} {n : Nat} (h : tyD Tryz.prog n t_Signal row) : ∃ s : Sg, row = s.enc ∧ I64 s.Sec ∧ I64 s.End_ := by
  obtain ⟨a, b, rfl, q⟩ := ty_i2 h (by kernel_rfl)
  exact ⟨⟨a, b⟩, rfl, q⟩
theorem ty_Step {row : List D} {n : Nat} (h : tyD Tryz.prog n t_Step row) : ∃ s : St, row = s.enc ∧ I64 s.Sec ∧ I64 s.In ∧ I64 s.Out := by
  obtain ⟨a, b, c, rfl, q⟩ := ty_i3 h (by kernel_rfl)
  exact ⟨⟨a, b, c⟩, rfl, q⟩
theorem ty_Need {row : List D} {n : Nat} (h : tyD Tryz.prog n t_Need row) : ∃ s : Nd, row = s.enc ∧ I64 s.Sec ∧ I64 s.Pos := by
  obtain ⟨a, b, rfl, q⟩ := ty_i2 h (by kernel_rfl)
  exact ⟨⟨a, b⟩, rfl, q⟩
structure RtI (r : Rt) : Prop where
  entry : I64 r.Entry
  exit : I64 r.Exit
  path : ∀ s ∈ r.Path, I64 s.Sec ∧ I64 s.In ∧ I64 s.Out
  flank : ∀ s ∈ r.Flank, I64 s.Sec ∧ I64 s.Pos
  over : ∀ o ∈ r.Overlap, I64 o
  np : 24 * r.Path.length ≤ 140737488351232
  nf : 16 * r.Flank.length ≤ 140737488351232
  no : 8 * r.Overlap.length ≤ 140737488351232
theorem ty_Route {row : List D} {n : Nat} (h : tyD Tryz.prog n t_Route row) : ∃ r : Rt, (∀ s, RtAt Tryz.prog t_Step t_Need t_int s row r) ∧ RtI r := by
  obtain ⟨_, _, rfl, ⟨a, rfl, ha⟩, _, _, rfl, ⟨b, rfl, hb⟩, d1, _, rfl, h1, d2, _, rfl, h2, d3, _, rfl, h3, _, _, rfl, ⟨sh, rfl⟩, rfl⟩ := ty_sh n 5 _ _ [.int .i64, .int .i64, .sl t_Step, .sl t_Need, .sl t_int, .bool] h (by kernel_rfl)
  obtain ⟨l1, a1, b1, _, e1⟩ := sh_rows (bytes := 24) St.enc _ (fun row n h => ty_Step h) (by kernel_rfl) (by omega) h1
  obtain ⟨l2, a2, b2, _, e2⟩ := sh_rows (bytes := 16) Nd.enc _ (fun row n h => ty_Need h) (by kernel_rfl) (by omega) h2
  obtain ⟨l3, a3, b3, _, e3⟩ := sh_rows (bytes := 8) Go.Fw.encI _ (fun row n h => ty_i h) (by kernel_rfl) (by omega) h3
  exact ⟨⟨a, b, l1, l2, l3, sh⟩, fun s => ⟨d1, d2, d3, rfl, a1 s, a2 s, a3 s⟩, wf_i64 ha, wf_i64 hb, b1, b2, b3, e1, e2, e3⟩
structure CfI (c : Cf) : Prop where
  secs : ∀ s ∈ c.Secs, I64 s.Kind ∧ I64 s.OC ∧ I64 s.Line
  jts : ∀ s ∈ c.Jts, I64 s.A ∧ I64 s.AEnd ∧ I64 s.B ∧ I64 s.BEnd
  sigs : ∀ s ∈ c.Sigs, I64 s.Sec ∧ I64 s.End_
  xs : ∀ s ∈ c.Xs, I64 s
  rts : ∀ r ∈ c.Rts, RtI r
  age : I64 c.Age
  brake : I64 c.Brake
  hold : I64 c.Hold
  budget : I64 c.Budget
  nsecs : 24 * c.Secs.length ≤ 140737488351232
  njts : 32 * c.Jts.length ≤ 140737488351232
  nsigs : 16 * c.Sigs.length ≤ 140737488351232
  nxs : 8 * c.Xs.length ≤ 140737488351232
  nrts : 96 * c.Rts.length ≤ 140737488351232
theorem ty_Config {cs : List D} {n : Nat} (h : tyD Tryz.prog n t_Config cs) : ∃ c0 c1 c2 c3 c4 c, cs = [c0, c1, c2, c3, c4, iD c.Age, iD c.Brake, iD c.Hold, iD c.Budget] ∧ (∀ s, CfAt s c0 c1 c2 c3 c4 c) ∧ CfI c := by
  obtain ⟨c0, _, rfl, h0, c1, _, rfl, h1, c2, _, rfl, h2, c3, _, rfl, h3, c4, _, rfl, h4, _, _, rfl, ⟨a, rfl, ha⟩, _, _, rfl, ⟨b, rfl, hb⟩, _, _, rfl, ⟨ho, rfl, hho⟩, _, _, rfl, ⟨bu, rfl, hbu⟩, rfl⟩ :=
    ty_sh n 5 _ _ [.sl t_Section, .sl t_Joint, .sl t_Signal, .sl t_int, .sl t_Route, .int .i64, .int .i64, .int .i64, .int .i64] h (by kernel_rfl)
  obtain ⟨l0, a0, b0, _, e0⟩ := sh_rows (bytes := 24) Sec.enc _ (fun row n h => ty_Section h) (by kernel_rfl) (by omega) h0
  obtain ⟨l1, a1, b1, _, e1⟩ := sh_rows (bytes := 32) Jt.enc _ (fun row n h => ty_Joint h) (by kernel_rfl) (by omega) h1
  obtain ⟨l2, a2, b2, _, e2⟩ := sh_rows (bytes := 16) Sg.enc _ (fun row n h => ty_Signal h) (by kernel_rfl) (by omega) h2
  obtain ⟨l3, a3, b3, _, e3⟩ := sh_rows (bytes := 8) Go.Fw.encI _ (fun row n h => ty_i h) (by kernel_rfl) (by omega) h3
  obtain ⟨rows, l4, a4, q4, b4, _, e4⟩ := sh_rel (bytes := 96) (fun row r => (∀ s, RtAt Tryz.prog t_Step t_Need t_int s row r) ∧ RtI r) (fun row n h => ty_Route h) (by kernel_rfl) (by omega) h4
  refine ⟨c0, c1, c2, c3, c4, ⟨l0, l1, l2, l3, l4, a, b, ho, bu⟩, rfl, fun s => ⟨a0 s, a1 s, a2 s, a3 s, rows, a4 s, q4, fun i row r x y => (b4 i row r x y).1 s⟩, b0, b1, b2, b3, ?_, wf_i64 ha, wf_i64 hb, wf_i64 hho, wf_i64 hbu, e0, e1, e2, e3, e4⟩
  intro r hr
  obtain ⟨i, hi⟩ := List.mem_iff_getElem?.1 hr
  have hi : l4[i]? = some r := hi
  have hlt := (List.getElem?_eq_some_iff.1 hi).1
  obtain ⟨row, hrow⟩ := get_of_lt (l := rows) (j := i) (by omega)
  exact (b4 i row r hrow hi).2
theorem ty_RouteState {row : List D} {n : Nat} (h : tyD Tryz.prog n t_RouteState row) : ∃ s : Rs, row = s.enc ∧ I64 s.State ∧ I64 s.Since ∧ I64 s.Next ∧ I64 s.Mark := by
  obtain ⟨a, b, c, d, rfl, q⟩ := ty_i4 h (by kernel_rfl)
  exact ⟨⟨a, b, c, d⟩, rfl, q⟩
theorem ty_Mover {row : List D} {n : Nat} (h : tyD Tryz.prog n t_Mover row) : ∃ s : Mv, row = s.enc ∧ I64 s.Cmd ∧ I64 s.Other := by
  obtain ⟨a, b, rfl, q⟩ := ty_i2 h (by kernel_rfl)
  exact ⟨⟨a, b⟩, rfl, q⟩
structure LsI (l : Ls) : Prop where
  ask : I64 l.Ask
  done : I64 l.Done
  grant : I64 l.Grant
  told : I64 l.Told
  pask : I64 l.PAsk
  pdone : I64 l.PDone
  pgrant : I64 l.PGrant
  since : I64 l.Since
theorem ty_LineState {row : List D} {n : Nat} (h : tyD Tryz.prog n t_LineState row) : ∃ s : Ls, row = s.enc ∧ LsI s := by
  obtain ⟨_, _, rfl, ⟨a, rfl, ha⟩, _, _, rfl, ⟨b, rfl, hb⟩, _, _, rfl, ⟨c, rfl, hc⟩, _, _, rfl, ⟨d, rfl, hd⟩, _, _, rfl, ⟨e, rfl, he⟩, _, _, rfl, ⟨f, rfl, hf⟩, _, _, rfl, ⟨g, rfl, hg⟩, _, _, rfl, ⟨i, rfl, hi⟩, rfl⟩ :=
    ty_sh n 5 _ _ [.int .i64, .int .i64, .int .i64, .int .i64, .int .i64, .int .i64, .int .i64, .int .i64] h (by kernel_rfl)
  exact ⟨⟨a, b, c, d, e, f, g, i⟩, rfl, wf_i64 ha, wf_i64 hb, wf_i64 hc, wf_i64 hd, wf_i64 he, wf_i64 hf, wf_i64 hg, wf_i64 hi⟩
structure CoI (k : Co) : Prop where
  own : ∀ o ∈ k.Own, I64 o
  routes : ∀ s ∈ k.Routes, I64 s.State ∧ I64 s.Since ∧ I64 s.Next ∧ I64 s.Mark
  points : ∀ s ∈ k.Points, I64 s.Cmd ∧ I64 s.Other
  xs : ∀ s ∈ k.Xs, I64 s.Cmd ∧ I64 s.Other
  lines : ∀ s ∈ k.Lines, LsI s
  resets : ∀ o ∈ k.Resets, I64 o
theorem ty_Core {cs : List D} {n : Nat} (h : tyD Tryz.prog n t_Core cs) : ∃ d0 d1 d2 d3 d4 d5 k, cs = [d0, d1, d2, d3, d4, d5, .bool k.Dirty] ∧ CoFz d0 d1 d2 d3 d4 d5 k ∧ CoFit d0 d1 d2 d3 d4 d5 k ∧ CoI k := by
  obtain ⟨d0, _, rfl, h0, d1, _, rfl, h1, d2, _, rfl, h2, d3, _, rfl, h3, d4, _, rfl, h4, d5, _, rfl, h5, _, _, rfl, ⟨a, rfl⟩, rfl⟩ :=
    ty_sh n 5 _ _ [.sl t_int, .sl t_RouteState, .sl t_Mover, .sl t_Mover, .sl t_LineState, .sl t_int, .bool] h (by kernel_rfl)
  obtain ⟨l0, a0, b0, z0, e0⟩ := sh_rows (bytes := 8) Go.Fw.encI _ (fun row n h => ty_i h) (by kernel_rfl) (by omega) h0
  obtain ⟨l1, a1, b1, z1, e1⟩ := sh_rows (bytes := 32) Rs.enc _ (fun row n h => ty_RouteState h) (by kernel_rfl) (by omega) h1
  obtain ⟨l2, a2, b2, z2, e2⟩ := sh_rows (bytes := 16) Mv.enc _ (fun row n h => ty_Mover h) (by kernel_rfl) (by omega) h2
  obtain ⟨l3, a3, b3, z3, e3⟩ := sh_rows (bytes := 16) Mv.enc _ (fun row n h => ty_Mover h) (by kernel_rfl) (by omega) h3
  obtain ⟨l4, a4, b4, z4, e4⟩ := sh_rows (bytes := 64) Ls.enc _ (fun row n h => ty_LineState h) (by kernel_rfl) (by omega) h4
  obtain ⟨l5, a5, b5, z5, e5⟩ := sh_rows (bytes := 8) Go.Fw.encI _ (fun row n h => ty_i h) (by kernel_rfl) (by omega) h5
  exact ⟨d0, d1, d2, d3, d4, d5, ⟨l0, l1, l2, l3, l4, l5, a⟩, rfl, ⟨fun s => ⟨a0 s, a1 s, a2 s, a3 s, a4 s, a5 s⟩, z0, z1, z2, z3, z4, z5⟩, ⟨z0, z1, z2, z3, z4, z5, by simp only; omega, by simp only; omega, by simp only; omega, by simp only; omega, by simp only; omega, by simp only; omega⟩, b0, b1, b2, b3, b4, b5⟩
structure VwI (v : Vw) : Prop where
  occ : ∀ l ∈ v.Occ, I64 l.Value ∧ I64 l.Stamp
  pos : ∀ l ∈ v.Pos, I64 l.Value ∧ I64 l.Stamp
  shut : ∀ l ∈ v.Shut, I64 l.Value ∧ I64 l.Stamp
  lamp : ∀ l ∈ v.Lamp, I64 l.Value ∧ I64 l.Stamp
end Go.Proofs.YtpanpagcgckeoaaGreat
end
section
set_option linter.unusedVariables false
set_option linter.unusedSimpArgs false
namespace Go.Proofs.YtpanpagcgckeoaaGreat
open Go.Fw Go.Proofs Go.RowKit
variable {σ : Store}
theorem ref01_SameInts_ok {a b : D} {la lb : List Int} (ha : At Tryz.prog σ t_int a (la.map Go.Fw.encI)) (hb : At Tryz.prog σ t_int b (lb.map Go.Fw.encI)) : Pure Tryz.prog n_ref01_SameInts [.one a, .one b] σ (.a (bA (decide (la = lb)))) := by
  have hs := ha.size
  rw [List.length_map] at hs
  refine W_ref01_SameInts a b σ _ (ha.lenK (hb.lenK ?_))
  rw [List.length_map, List.length_map]
  refine bcn (fun hne => ⟨?_, rfl⟩) (fun he => ha.lenK ?_)
  · rw [decide_eq_false (fun e => hne (by rw [e]))]
  have hl : la.length = lb.length := by omega
  rw [List.length_map]
  refine ⟨fun n s => s = σ ∧ EqR la lb n, fun n _ => la.length - n.toNat, ⟨rfl, .start _ _⟩, ?_⟩
  rintro n s ⟨rfl, hr⟩
  refine bcd (fun hlt => ?_) (fun hge => ⟨?_, rfl⟩)
  · obtain ⟨j, x, y, rfl, hx, hy, hn, hy2⟩ := hr.step hl rfl hs hlt
    refine ha.load (map_get hx) c_int rfl ⟨x, rfl, hb.load (map_get hy) c_int rfl ⟨y, rfl, bcn (fun e => ⟨?_, rfl⟩) (fun e => andl rfl (hy2 e))⟩⟩
    rw [decide_eq_false (hn e)]
  · rw [decide_eq_true (hr.done hl rfl hge)]
theorem ref13_Same_ok {a0 a1 a2 a3 a4 a5 b0 b1 b2 b3 b4 b5 : D} {k k' : Co} (ha : CoAt σ a0 a1 a2 a3 a4 a5 k) (hb : CoAt σ b0 b1 b2 b3 b4 b5 k') :
    Pure Tryz.prog n_ref13_Same [coA a0 a1 a2 a3 a4 a5 k.Dirty, coA b0 b1 b2 b3 b4 b5 k'.Dirty] σ (.a (bA (decide (k = k')))) := by
  have no : ∀ p : Prop, ¬ p → (k = k' → p) → (RV.a (bA false) = RV.a (bA (decide (k = k'))) ∧ σ = σ) := fun p h1 h2 => ⟨by rw [decide_eq_false (fun e => h1 (h2 e))], rfl⟩
  have s1 := ha.routes.size
  have s2 := ha.points.size
  have s3 := ha.xs.size
  have s4 := ha.lines.size
  rw [List.length_map] at s1 s2 s3 s4
  refine W_ref13_Same a0 a1 a2 a3 a4 a5 k.Dirty b0 b1 b2 b3 b4 b5 k'.Dirty σ _ ?_
  intro R hR
  refine (ref01_SameInts_ok ha.own hb.own).use ⟨_, rfl, bcnot (fun e => no _ (of_decide_eq_false e) (fun e => by rw [e])) (fun e1 => (ref01_SameInts_ok ha.resets hb.resets).use ⟨_, rfl, bcnot (fun e => no _ (of_decide_eq_false e) (fun e => by rw [e])) (fun e2 => bcnot (fun e => no (k.Dirty = k'.Dirty) (by simpa using e) (fun e => by rw [e])) (fun e3 => ?_))⟩)⟩
  refine ha.routes.lenK (hb.routes.lenK (bcn (fun e => no (k.Routes.length = k'.Routes.length) (by simp only [List.length_map] at e; omega) (fun e => by rw [e])) (fun e4 => ?_)))
  refine ha.points.lenK (hb.points.lenK (bcn (fun e => no (k.Points.length = k'.Points.length) (by simp only [List.length_map] at e; omega) (fun e => by rw [e])) (fun e5 => ?_)))
  refine ha.xs.lenK (hb.xs.lenK (bcn (fun e => no (k.Xs.length = k'.Xs.length) (by simp only [List.length_map] at e; omega) (fun e => by rw [e])) (fun e6 => ?_)))
  refine ha.lines.lenK (hb.lines.lenK (bcn (fun e => no (k.Lines.length = k'.Lines.length) (by simp only [List.length_map] at e; omega) (fun e => by rw [e])) (fun e7 => ?_)))
  have e1 := of_decide_eq_true e1
  have e2 := of_decide_eq_true e2
  have e3 : k.Dirty = k'.Dirty := by simpa using e3
  simp only [List.length_map] at e4 e5 e6 e7
  have e4 : k.Routes.length = k'.Routes.length := by omega
  have e5 : k.Points.length = k'.Points.length := by omega
  have e6 : k.Xs.length = k'.Xs.length := by omega
  have e7 : k.Lines.length = k'.Lines.length := by omega
  refine hR σ (ha.routes.lenK ?_)
  rw [List.length_map]
  refine ⟨fun n s => s = σ ∧ EqR k.Routes k'.Routes n, fun n _ => k.Routes.length - n.toNat, ⟨rfl, .start _ _⟩, ?_⟩
  rintro n s ⟨rfl, hr⟩
  refine bcd (fun hlt => ?_) (fun hge => ?_)
  · obtain ⟨j, x, y, rfl, hx, hy, hn, hy2⟩ := hr.step e4 rfl s1 hlt
    refine ha.routes.load (map_get hx) c_RouteState rfl ⟨_, _, _, _, rfl, hb.routes.load (map_get hy) c_RouteState rfl ⟨_, _, _, _, rfl, bcnot (fun e => no (x = y) (fun h => by subst h; simp at e) (fun h => Classical.not_not.1 fun g => hn g (by rw [h]))) (fun e => andl rfl (hy2 ?_))⟩⟩
    cases x; cases y; simp at e; simp [e]
  have e8 := hr.done e4 rfl hge
  refine ha.points.lenK ?_
  rw [List.length_map]
  refine ⟨fun n s' => s' = s ∧ EqR k.Points k'.Points n, fun n _ => k.Points.length - n.toNat, ⟨rfl, .start _ _⟩, ?_⟩
  rintro n s ⟨rfl, hr⟩
  refine bcd (fun hlt => ?_) (fun hge => ?_)
  · obtain ⟨j, x, y, rfl, hx, hy, hn, hy2⟩ := hr.step e5 rfl s2 hlt
    refine ha.points.load (map_get hx) c_Mover rfl ⟨_, _, rfl, hb.points.load (map_get hy) c_Mover rfl ⟨_, _, rfl, bcnot (fun e => no (x = y) (fun h => by subst h; simp at e) (fun h => Classical.not_not.1 fun g => hn g (by rw [h]))) (fun e => andl rfl (hy2 ?_))⟩⟩
    cases x; cases y; simp at e; simp [e]
  have e9 := hr.done e5 rfl hge
  refine ha.xs.lenK ?_
  rw [List.length_map]
  refine ⟨fun n s' => s' = s ∧ EqR k.Xs k'.Xs n, fun n _ => k.Xs.length - n.toNat, ⟨rfl, .start _ _⟩, ?_⟩
  rintro n s ⟨rfl, hr⟩
  refine bcd (fun hlt => ?_) (fun hge => ?_)
  · obtain ⟨j, x, y, rfl, hx, hy, hn, hy2⟩ := hr.step e6 rfl s3 hlt
    refine ha.xs.load (map_get hx) c_Mover rfl ⟨_, _, rfl, hb.xs.load (map_get hy) c_Mover rfl ⟨_, _, rfl, bcnot (fun e => no (x = y) (fun h => by subst h; simp at e) (fun h => Classical.not_not.1 fun g => hn g (by rw [h]))) (fun e => andl rfl (hy2 ?_))⟩⟩
    cases x; cases y; simp at e; simp [e]
  have e10 := hr.done e6 rfl hge
  refine ha.lines.lenK ?_
  rw [List.length_map]
  refine ⟨fun n s' => s' = s ∧ EqR k.Lines k'.Lines n, fun n _ => k.Lines.length - n.toNat, ⟨rfl, .start _ _⟩, ?_⟩
  rintro n s ⟨rfl, hr⟩
  refine bcd (fun hlt => ?_) (fun hge => ⟨?_, rfl⟩)
  · obtain ⟨j, x, y, rfl, hx, hy, hn, hy2⟩ := hr.step e7 rfl s4 hlt
    refine ha.lines.load (map_get hx) c_LineState rfl ⟨_, _, _, _, _, _, _, _, rfl, hb.lines.load (map_get hy) c_LineState rfl ⟨_, _, _, _, _, _, _, _, rfl, bcnot (fun e => no (x = y) (fun h => by subst h; simp at e) (fun h => Classical.not_not.1 fun g => hn g (by rw [h]))) (fun e => andl rfl (hy2 ?_))⟩⟩
    cases x; cases y; simp at e; simp [e]
  have e11 := hr.done e7 rfl hge
  have : k = k' := by
    cases k; cases k'
    simp only at e1 e2 e3 e8 e9 e10 e11
    simp only [e1, e2, e3, e8, e9, e10, e11]
  rw [decide_eq_true this]
end Go.Proofs.YtpanpagcgckeoaaGreat
end
section
set_option linter.unusedVariables false
set_option linter.unusedSimpArgs false
namespace Go.Fw
theorem dec_lt {j n : Nat} (h : j < n) : n - ((j + 1 : Nat) : Int).toNat < n - ((j : Nat) : Int).toNat := by omega
def inL (l : List Int) (n : Int) : Bool := decide (n ∈ l)
def kindI (c : Cf) (s : Int) : Int := ((geti c.Secs s).map Sec.Kind).getD (-1)
def atB (sec e but : Int) : List Sg → Nat → Bool
  | [], _ => false
  | x :: r, j => (decide (x.Sec = sec) && decide (x.End_ = e) && decide ((j : Int) ≠ but)) || atB sec e but r (j + 1)
theorem atB_iff (sec e but : Int) : ∀ (l : List Sg) (j : Nat), atB sec e but l j = true ↔ ∃ (i : Nat) (x : Sg), l[i]? = some x ∧ x = ⟨sec, e⟩ ∧ ((j + i : Nat) : Int) ≠ but
  | [], j => by simp [atB]
  | x :: r, j => by
    simp only [atB, Bool.or_eq_true, Bool.and_eq_true, decide_eq_true_eq, atB_iff sec e but r (j + 1)]
    constructor
    · rintro (⟨⟨h1, h2⟩, h3⟩ | ⟨i, y, h1, h2, h3⟩)
      · exact ⟨0, x, rfl, by cases x; simp at h1 h2; simp [h1, h2], h3⟩
      · exact ⟨i + 1, y, by simpa using h1, h2, by rw [show j + (i + 1) = j + 1 + i by omega]; exact h3⟩
    · rintro ⟨i, y, h1, h2, h3⟩
      cases i with
      | zero =>
        simp at h1; subst h1 h2
        exact .inl ⟨⟨rfl, rfl⟩, h3⟩
      | succ i => exact .inr ⟨i, y, by simpa using h1, h2, by rw [show j + 1 + i = j + (i + 1) by omega]; exact h3⟩
theorem atB_self {l : List Sg} (hn : l.Nodup) {i : Nat} {x : Sg} (hi : l[i]? = some x) : atB x.Sec x.End_ i l 0 = false := by
  cases hb : atB x.Sec x.End_ i l 0 with
  | false => rfl
  | true =>
    obtain ⟨j, y, h1, h2, h3⟩ := (atB_iff _ _ _ l 0).1 hb
    have e : y = x := by cases x; exact h2
    subst e
    exfalso; apply h3
    obtain ⟨q1, q2⟩ := List.getElem?_eq_some_iff.1 hi
    obtain ⟨p1, p2⟩ := List.getElem?_eq_some_iff.1 h1
    have := (List.getElem_inj (h₀ := q1) (h₁ := p1) hn).1 (by rw [q2, p2])
    omega
theorem sgrun_iff (js : List Jt) : ∀ (l seen : List Sg), sgrun js l seen = true ↔ (∀ x ∈ l, (nxt js x.Sec x.End_).isSome = true) ∧ l.Nodup ∧ ∀ x ∈ l, x ∉ seen
  | [], seen => by simp [sgrun]
  | x :: r, seen => by
    rw [sgrun]
    by_cases h : (nxt js x.Sec x.End_).isSome = true ∧ x ∉ seen
    · rw [if_pos h, sgrun_iff js r (x :: seen)]
      constructor
      · rintro ⟨h1, h2, h3⟩
        refine ⟨fun y hy => ?_, ?_, fun y hy => ?_⟩
        · rcases List.mem_cons.1 hy with rfl | hy
          · exact h.1
          · exact h1 y hy
        · exact List.nodup_cons.2 ⟨fun hx => h3 x hx (by simp), h2⟩
        · rcases List.mem_cons.1 hy with rfl | hy
          · exact h.2
          · exact fun hs => h3 y hy (by simp [hs])
      · rintro ⟨h1, h2, h3⟩
        obtain ⟨h4, h5⟩ := List.nodup_cons.1 h2
        refine ⟨fun y hy => h1 y (by simp [hy]), h5, fun y hy hs => ?_⟩
        rcases List.mem_cons.1 hs with rfl | hs
        · exact h4 hy
        · exact h3 y (by simp [hy]) hs
    · rw [if_neg h]
      refine ⟨fun e => by simp at e, fun ⟨h1, h2, h3⟩ => absurd ⟨h1 x (by simp), h3 x (by simp)⟩ h⟩
theorem sigs_iff (c : Cf) : (∀ (i : Nat) (x : Sg), c.Sigs[i]? = some x → (nxt c.Jts x.Sec x.End_).isSome = true ∧ atB x.Sec x.End_ i c.Sigs 0 = false) ↔ sgrun c.Jts c.Sigs [] = true := by
  rw [sgrun_iff]
  constructor
  · intro h
    refine ⟨fun x hx => ?_, ?_, fun x _ hx => by simp at hx⟩
    · obtain ⟨i, hi⟩ := List.mem_iff_getElem?.1 hx
      exact (h i x hi).1
    · rw [List.nodup_iff_pairwise_ne, List.pairwise_iff_getElem]
      intro i j hi hj hij e
      have h2 := (h i _ (List.getElem?_eq_getElem hi)).2
      have : atB c.Sigs[i].Sec c.Sigs[i].End_ i c.Sigs 0 = true := (atB_iff _ _ _ _ _).2 ⟨j, c.Sigs[j], List.getElem?_eq_getElem hj, by rw [← e], by omega⟩
      rw [h2] at this; cases this
  · rintro ⟨h1, h2, _⟩ i x hi
    exact ⟨h1 x (List.mem_of_getElem? hi), atB_self h2 hi⟩
theorem xrun_iff (secs : List Sec) : ∀ (l seen : List Int), xrun secs l seen = true ↔ (∀ x ∈ l, ∃ s, geti secs x = some s ∧ s.Line = 0) ∧ l.Nodup ∧ ∀ x ∈ l, x ∉ seen
  | [], seen => by simp [xrun]
  | x :: r, seen => by
    rw [xrun]
    cases hg : geti secs x with
    | none =>
      refine ⟨fun e => by simp at e, fun ⟨h1, _⟩ => ?_⟩
      obtain ⟨s, h, _⟩ := h1 x (by simp)
      rw [hg] at h; cases h
    | some s =>
      simp only
      by_cases h : s.Line = 0 ∧ x ∉ seen
      · rw [if_pos h, xrun_iff secs r (x :: seen)]
        constructor
        · rintro ⟨h1, h2, h3⟩
          refine ⟨fun y hy => ?_, ?_, fun y hy => ?_⟩
          · rcases List.mem_cons.1 hy with rfl | hy
            · exact ⟨s, hg, h.1⟩
            · exact h1 y hy
          · exact List.nodup_cons.2 ⟨fun hx => h3 x hx (by simp), h2⟩
          · rcases List.mem_cons.1 hy with rfl | hy
            · exact h.2
            · exact fun hs => h3 y hy (by simp [hs])
        · rintro ⟨h1, h2, h3⟩
          obtain ⟨h4, h5⟩ := List.nodup_cons.1 h2
          refine ⟨fun y hy => h1 y (by simp [hy]), h5, fun y hy hs => ?_⟩
          rcases List.mem_cons.1 hs with rfl | hs
          · exact h4 hy
          · exact h3 y (by simp [hy]) hs
      · rw [if_neg h]
        refine ⟨fun e => by simp at e, fun ⟨h1, h2, h3⟩ => ?_⟩
        obtain ⟨s', q1, q2⟩ := h1 x (by simp)
        rw [hg] at q1; cases q1
        exact absurd ⟨q2, h3 x (by simp)⟩ h
theorem nxt_mem {js : List Jt} {s e : Int} {p : Int × Int} (h : nxt js s e = some p) : ∃ j ∈ js, (j.B = p.1 ∧ j.BEnd = p.2) ∨ (j.A = p.1 ∧ j.AEnd = p.2) := by
  induction js with
  | nil => cases h
  | cons j r ih =>
    rw [nxt] at h
    split at h
    · cases h; exact ⟨j, by simp, .inl ⟨rfl, rfl⟩⟩
    split at h
    · cases h; exact ⟨j, by simp, .inr ⟨rfl, rfl⟩⟩
    · obtain ⟨k, h1, h2⟩ := ih h
      exact ⟨k, by simp [h1], h2⟩
theorem nxt_sec {c : Cf} (ht : topoOk c.Secs c.Jts = true) {s e q f : Int} (h : nxt c.Jts s e = some (q, f)) : ∃ y, geti c.Secs q = some y := by
  obtain ⟨j, hj, h1⟩ := nxt_mem h
  obtain ⟨_, _, h3⟩ := (topoOk_iff _ _).1 ht
  obtain ⟨a, b, _⟩ := h3 j hj
  have : 0 ≤ q ∧ q < c.Secs.length := by rcases h1 with ⟨e1, _⟩ | ⟨e1, _⟩ <;> simp only at e1 <;> omega
  obtain ⟨y, hy⟩ := get_of_lt (l := c.Secs) (j := q.toNat) (by omega)
  exact ⟨y, by unfold geti; rw [if_neg (by omega), hy]⟩
theorem kindI_some {c : Cf} {s : Int} {y : Sec} (h : geti c.Secs s = some y) : kindI c s = y.Kind := by unfold kindI; rw [h]; rfl
theorem kindI_none {c : Cf} {s : Int} (h : geti c.Secs s = none) : kindI c s = -1 := by unfold kindI; rw [h]; rfl
theorem hasSec_in (path : List St) (q : Int) : inL (path.map St.Sec) q = hasSec path q := by
  unfold inL hasSec
  induction path with
  | nil => rfl
  | cons x r ih =>
    rw [List.any_cons, ← ih, List.map_cons]
    by_cases h : x.Sec = q
    · simp [h]
    · simp [h, Ne.symm h]
theorem kind_ok {c : Cf} (ht : topoOk c.Secs c.Jts = true) {x : Int} {y : Sec} (h : geti c.Secs x = some y) : 0 ≤ y.Kind ∧ y.Kind ≤ 2 := by
  obtain ⟨_, h2, _⟩ := (topoOk_iff _ _).1 ht
  have := (h2 _ _ (geti_some h).2.2).1
  unfold nends at this
  split at this
  · omega
  split at this
  · omega
  split at this
  · omega
  · exact absurd rfl this
theorem sgs_nodup {c : Cf} (h : c.sigsOk = true) : c.Sigs.Nodup := by
  rw [Cf.sigsOk, Bool.and_eq_true, sgrun_iff] at h
  exact h.1.2.1
theorem atB_eq {c : Cf} (h : c.sigsOk = true) (sec e but : Int) : atB sec e but c.Sigs 0 = ((c.Sigs.any fun x => decide (⟨sec, e⟩ = x)) && !decide (geti c.Sigs but = some ⟨sec, e⟩)) := by
  have hn := sgs_nodup h
  rw [Bool.eq_iff_iff, atB_iff]
  simp only [Bool.and_eq_true, List.any_eq_true, decide_eq_true_eq, Bool.not_eq_true', decide_eq_false_iff_not, Nat.zero_add]
  constructor
  · rintro ⟨i, x, h1, rfl, h3⟩
    refine ⟨⟨_, List.mem_of_getElem? h1, rfl⟩, fun hg => h3 ?_⟩
    have hg := geti_some hg
    obtain ⟨q1, q2⟩ := List.getElem?_eq_some_iff.1 h1
    obtain ⟨p1, p2⟩ := List.getElem?_eq_some_iff.1 hg.2.2
    have := (List.getElem_inj (h₀ := q1) (h₁ := p1) hn).1 (by rw [q2, p2])
    omega
  · rintro ⟨⟨x, hx, rfl⟩, h2⟩
    obtain ⟨i, hi⟩ := List.mem_iff_getElem?.1 hx
    refine ⟨i, _, hi, rfl, fun e => h2 ?_⟩
    unfold geti
    rw [if_neg (by omega), ← e, Int.toNat_natCast]; exact hi
theorem geti_ex {α : Type} {l : List α} {i : Int} (h0 : ¬ i < 0) (h1 : ¬ i ≥ (l.length : Int)) : ∃ x, geti l i = some x := by
  obtain ⟨x, hx⟩ := get_of_lt (l := l) (j := i.toNat) (by omega)
  exact ⟨x, by unfold geti; rw [if_neg h0]; exact hx⟩
end Go.Fw
namespace Go.Fw
theorem nd_any (out : List Nd) (q : Int) : inL (out.map Nd.Sec) q = out.any fun n => n.Sec == q := by
  unfold inL
  induction out with
  | nil => rfl
  | cons x r ih =>
    rw [List.any_cons, ← ih, List.map_cons]
    by_cases h : x.Sec = q
    · simp [h]
    · simp [h, Ne.symm h]
end Go.Fw
end
section
set_option linter.unusedVariables false
set_option linter.unusedSimpArgs false
namespace Go.Proofs.YtpanpagcgckeoaaGreat
open Go.Fw Go.Proofs Go.RowKit
variable {σ : Store}
theorem ref06_in_ok {d : D} {l : List Int} (n : Int) (h : At Tryz.prog σ t_int d (l.map Go.Fw.encI)) : Pure Tryz.prog n_ref06_in [.one d, iA n] σ (.a (bA (inL l n))) := by
  have hs := h.size
  rw [List.length_map] at hs
  refine W_ref06_in d n σ _ (h.lenK ⟨fun m s => s = σ ∧ Rng l (fun r => inL r n = inL l n) m, fun m _ => l.length - m.toNat, ⟨rfl, .start rfl⟩, ?_⟩)
  rintro m s ⟨rfl, hr⟩
  refine bcd (fun hlt => ?_) (fun hge => ⟨?_, rfl⟩)
  · obtain ⟨j, x, rfl, hx, hj, hF, nx⟩ := hr.step (by simp) hs hlt
    refine h.load (map_get hx) c_int rfl ⟨x, rfl, bce (fun e => ⟨?_, rfl⟩) (fun e => andl rfl (nx (fun r => inL r n = inL l n) ?_))⟩
    · rw [← hF, inL, e, decide_eq_true (by simp)]
    · rw [← hF, inL, inL]; exact decide_eq_decide.2 (by simp [Ne.symm e])
  · rw [← hr.done (by simp) hge]; rfl
theorem ref06_Sections_ok {d : D} {path : List St} (h : ∀ s, At Tryz.prog s t_Step d (path.map St.enc)) (hb : 24 * path.length ≤ 140737488355328) :
    DCalls Tryz.prog n_ref06_Sections [.one d] σ (SlPost σ t_int ((path.map St.Sec).map Go.Fw.encI)) := by
  have hs := (h σ).size
  rw [List.length_map] at hs
  refine (W_ref06_Sections d σ _ ?_).ret (Q := fun r s => ∃ r' σ', Ret Tryz.prog σ s r σ' r' ∧ SlPost σ t_int ((path.map St.Sec).map Go.Fw.encI) r' σ') (fun r s h => h)
  refine (h σ).lenK ⟨fun d n s => ∃ j : Nat, n = j ∧ j ≤ path.length ∧ Own Tryz.prog σ s t_int d (((path.take j).map St.Sec).map Go.Fw.encI), fun _ n _ => path.length - n.toNat, ⟨0, rfl, by omega, .nil _ (.refl _)⟩, ?_⟩
  rintro d1 _ s ⟨j, rfl, hj, ho⟩
  rw [List.length_map]
  refine bcd (fun hlt => ?_) (fun hge => ?_)
  · obtain ⟨x, hx⟩ := get_of_lt (l := path) (j := j) (by omega)
    refine (h s).load (map_get hx) c_Step rfl ⟨x.Sec, x.In, x.Out, rfl, newObj_intro fun id s2 hid _ he hs2 => ?_⟩
    have hl : (((path.take j).map St.Sec).map Go.Fw.encI).length = j := by simp; omega
    refine (ho.ext' he).append (At.fresh hs2 (by simp) rfl) (by simp; omega) (by simp; omega) fun d4 s5 ho5 _ _ => ?_
    rw [w64_succ (by omega)]
    refine ⟨⟨j + 1, rfl, by omega, ?_⟩, by show path.length - ((j + 1 : Nat) : Int).toNat < path.length - ((j : Nat) : Int).toNat; omega⟩
    have e : path.take (j + 1) = path.take j ++ [x] := by rw [List.take_add_one, hx]; rfl
    rw [e, List.map_append, List.map_append]; exact ho5
  · have e : j = path.length := by omega
    rw [e, List.take_length] at ho
    exact own_fin ho (flatI _)
section
variable {c0 c1 c2 c3 c4 : D} {c : Cf}
theorem ref06_kind_ok (h : CfAt σ c0 c1 c2 c3 c4 c) (s : Int) : Pure Tryz.prog n_ref06_kind [cfA c0 c1 c2 c3 c4 c, iA s] σ (.a (iA (kindI c s))) := by
  refine W_ref06_kind _ _ _ _ _ _ _ _ _ s σ _ (bcd (fun h1 => ⟨by rw [kindI_none (geti_neg h1)], rfl⟩) (fun h1 => h.secs.lenK (bcd (fun h2 => ⟨by rw [List.length_map] at h2; rw [kindI_none (geti_ge h2)], rfl⟩) (fun h2 => ?_))))
  rw [List.length_map] at h2
  obtain ⟨x, hx⟩ := get_of_lt (l := c.Secs) (j := s.toNat) (by omega)
  refine h.secs.load (map_get hx) c_Section (by omega) ⟨x.Kind, rfl, ?_, rfl⟩
  rw [kindI_some (y := x) (by unfold geti; rw [if_neg h1, hx])]
theorem ref06_Approach_ok (h : CfAt σ c0 c1 c2 c3 c4 c) (i : Int) : Pure Tryz.prog n_ref06_Approach [cfA c0 c1 c2 c3 c4 c, iA i] σ (.a (iA (c.Approach i))) := by
  obtain ⟨rows, hr, hl⟩ := rts_len h
  refine W_ref06_Approach _ _ _ _ _ _ _ _ _ i σ _ (bcd (fun h1 => ⟨by rw [Cf.Approach, geti_neg h1]; rfl, rfl⟩) (fun h1 => hr.lenK (bcd (fun h2 => ⟨by rw [hl] at h2; rw [Cf.Approach, geti_ge h2]; rfl, rfl⟩) (fun h2 => ?_))))
  rw [hl] at h2
  obtain ⟨x, hx⟩ := get_of_lt (l := c.Rts) (j := i.toNat) (by omega)
  have hg : geti c.Rts i = some x := by unfold geti; rw [if_neg h1, hx]
  have hA : c.Approach i = c.approach x := by rw [Cf.Approach, hg]; rfl
  rw [hA]
  obtain ⟨rows', hr', _, d1, d2, d3, hrow, _⟩ := rts_get h hx
  refine hr'.load hrow c_Route (by omega) ⟨_, rfl, bcd (fun h3 => ⟨by rw [Cf.approach, geti_neg h3]; rfl, rfl⟩) (fun h3 => hr'.load hrow c_Route (by omega) ⟨_, rfl, h.sigs.lenK (bcd (fun h4 => ⟨?_, rfl⟩) (fun h4 => hr'.load hrow c_Route (by omega) ⟨_, rfl, ?_⟩))⟩)⟩
  · rw [List.length_map] at h4; rw [Cf.approach, geti_ge h4]; rfl
  · rw [List.length_map] at h4
    obtain ⟨y, hy⟩ := get_of_lt (l := c.Sigs) (j := x.Entry.toNat) (by omega)
    refine h.sigs.load (map_get hy) c_Signal (by omega) ⟨y.Sec, rfl, ?_, rfl⟩
    rw [Cf.approach, show geti c.Sigs x.Entry = some y by unfold geti; rw [if_neg h3, hy]]; rfl
theorem ref06_at_ok (h : CfAt σ c0 c1 c2 c3 c4 c) (sec e but : Int) : Pure Tryz.prog n_ref06_at [cfA c0 c1 c2 c3 c4 c, iA sec, iA e, iA but] σ (.a (bA (atB sec e but c.Sigs 0))) := by
  have hs := h.sigs.size
  rw [List.length_map] at hs
  refine W_ref06_at _ _ _ _ _ _ _ _ _ sec e but σ _ (h.sigs.lenK ⟨fun m s => s = σ ∧ Rng c.Sigs (fun r => atB sec e but r m.toNat = atB sec e but c.Sigs 0) m, fun m _ => c.Sigs.length - m.toNat, ⟨rfl, .start rfl⟩, ?_⟩)
  rintro m s ⟨rfl, hr⟩
  refine bcd (fun hlt => ?_) (fun hge => ⟨?_, rfl⟩)
  · obtain ⟨j, x, rfl, hx, hj, hF, nx⟩ := hr.step (by simp) hs hlt
    rw [atB, Int.toNat_natCast] at hF
    have hw : (w64 ((j : Int) + 1)).toNat = j + 1 := by rw [w64_succ (by omega)]; omega
    have go : (decide (x.Sec = sec) && decide (x.End_ = e) && decide ((j : Int) ≠ but)) = false → (s = s ∧ Rng c.Sigs (fun r => atB sec e but r (w64 ((j : Int) + 1)).toNat = atB sec e but c.Sigs 0) (w64 ((j : Int) + 1))) ∧ c.Sigs.length - (w64 ((j : Int) + 1)).toNat < c.Sigs.length - (j : Int).toNat := by
      intro hn
      rw [hn, Bool.false_or] at hF
      exact andl rfl (nx (fun r => atB sec e but r (w64 ((j : Int) + 1)).toNat = atB sec e but c.Sigs 0) (by rw [hw]; exact hF))
    refine h.sigs.load (map_get hx) c_Signal rfl ⟨x.Sec, x.End_, rfl, bce (fun h1 => bce (fun h2 => bcn (fun h3 => ⟨?_, rfl⟩) (fun h3 => go (by simp [h3]))) (fun h2 => go (by simp [h2]))) (fun h1 => go (by simp [h1]))⟩
    rw [← hF, decide_eq_true h1, decide_eq_true h2, decide_eq_true h3]; rfl
  · rw [← hr.done (by simp) hge]; rfl
theorem ref06_signals_ok (h : CfAt σ c0 c1 c2 c3 c4 c) : Pure Tryz.prog n_ref06_signals [cfA c0 c1 c2 c3 c4 c] σ (.a (bA c.sigsOk)) := by
  have hs := h.sigs.size
  rw [List.length_map] at hs
  have no : ∀ (i : Nat) (x : Sg), c.Sigs[i]? = some x → ¬ ((nxt c.Jts x.Sec x.End_).isSome = true ∧ atB x.Sec x.End_ i c.Sigs 0 = false) → c.sigsOk = false := fun i x hi hn => by
    unfold Cf.sigsOk
    cases hb : sgrun c.Jts c.Sigs [] with
    | false => rfl
    | true => exact absurd ((sigs_iff c).2 hb i x hi) hn
  refine W_ref06_signals _ _ _ _ _ _ _ _ _ σ _ (h.sigs.lenK ⟨fun m s => s = σ ∧ ∃ j : Nat, m = j ∧ j ≤ c.Sigs.length ∧ ∀ (i : Nat) (x : Sg), i < j → c.Sigs[i]? = some x → (nxt c.Jts x.Sec x.End_).isSome = true ∧ atB x.Sec x.End_ i c.Sigs 0 = false, fun m _ => c.Sigs.length - m.toNat, ⟨rfl, 0, rfl, by omega, fun i x hi => by omega⟩, ?_⟩)
  rintro _ s ⟨rfl, j, rfl, hj, hall⟩
  rw [List.length_map]
  refine bcd (fun hlt => ?_) (fun hge => h.sigs.lenK ⟨?_, rfl⟩)
  · have hlt : j < c.Sigs.length := by omega
    obtain ⟨x, hx⟩ := get_of_lt (l := c.Sigs) (j := j) (by omega)
    refine h.sigs.load (map_get hx) c_Signal rfl ⟨x.Sec, x.End_, rfl, (ref05_Next_ok x.Sec x.End_ h.jts).use (opt2_ex _ (bcnot (fun e => ⟨by rw [no j x hx (fun g => by rw [g.1] at e; cases e)], rfl⟩) (fun e => (ref06_at_ok h x.Sec x.End_ j).use ⟨_, rfl, bc (fun e2 => ⟨by rw [no j x hx (fun g => by rw [g.2] at e2; cases e2)], rfl⟩) (fun e2 => ?_)⟩)))⟩
    rw [w64_succ (by omega)]
    refine ⟨⟨rfl, j + 1, rfl, by omega, fun i y hi hy => ?_⟩, dec_lt hlt⟩
    by_cases hij : i = j
    · subst hij; rw [hx] at hy; cases hy; exact ⟨e, e2⟩
    · exact hall i y (by omega) hy
  · rw [List.length_map]
    have : sgrun c.Jts c.Sigs [] = true := (sigs_iff c).1 fun i x hi => hall i x (by have := (List.getElem?_eq_some_iff.1 hi).1; omega) hi
    rw [Cf.sigsOk, this, Bool.true_and]
    congr 3
    exact decide_eq_decide.2 (by omega)
theorem ref06_crossings_ok (h : CfAt σ c0 c1 c2 c3 c4 c) (ht : topoOk c.Secs c.Jts = true) : Pure Tryz.prog n_ref06_crossings [cfA c0 c1 c2 c3 c4 c] σ (.a (bA c.xsOk)) := by
  have hs := h.xs.size
  rw [List.length_map] at hs
  have key : c.xsOk = true → ∀ (i : Nat) (x : Int), c.Xs[i]? = some x → (∃ s, geti c.Secs x = some s ∧ s.Line = 0) ∧ x ∉ c.Xs.take i := fun hb i x hi => by
    rw [Cf.xsOk, Bool.and_eq_true, xrun_iff] at hb
    obtain ⟨⟨h1, h2, _⟩, _⟩ := hb
    refine ⟨h1 x (List.mem_of_getElem? hi), fun hm => ?_⟩
    obtain ⟨j, hj⟩ := List.mem_iff_getElem?.1 hm
    rw [List.getElem?_take] at hj
    split at hj
    · rename_i hji
      obtain ⟨q1, q2⟩ := List.getElem?_eq_some_iff.1 hi
      obtain ⟨p1, p2⟩ := List.getElem?_eq_some_iff.1 hj
      have := (List.getElem_inj (h₀ := q1) (h₁ := p1) h2).1 (by rw [q2, p2])
      omega
    · cases hj
  have no : ∀ (i : Nat) (x : Int), c.Xs[i]? = some x → ¬ ((∃ s, geti c.Secs x = some s ∧ s.Line = 0) ∧ x ∉ c.Xs.take i) → c.xsOk = false := fun i x hi hn => by
    cases hb : c.xsOk with
    | false => rfl
    | true => exact absurd (key hb i x hi) hn
  refine W_ref06_crossings _ _ _ _ _ _ _ _ _ σ _ (h.xs.lenK ⟨fun m s => s = σ ∧ ∃ j : Nat, m = j ∧ j ≤ c.Xs.length ∧ ∀ (i : Nat) (x : Int), i < j → c.Xs[i]? = some x → (∃ s, geti c.Secs x = some s ∧ s.Line = 0) ∧ x ∉ c.Xs.take i, fun m _ => c.Xs.length - m.toNat, ⟨rfl, 0, rfl, by omega, fun i x hi => by omega⟩, ?_⟩)
  rintro _ s ⟨rfl, j, rfl, hj, hall⟩
  rw [List.length_map]
  refine bcd (fun hlt => ?_) (fun hge => h.xs.lenK ⟨?_, rfl⟩)
  · have hlt : j < c.Xs.length := by omega
    obtain ⟨x, hx⟩ := get_of_lt (l := c.Xs) (j := j) (by omega)
    refine h.xs.load (map_get hx) c_int rfl ⟨x, rfl, (ref06_kind_ok h x).use ⟨_, rfl, ?_⟩⟩
    cases hg : geti c.Secs x with
    | none =>
      rw [kindI_none hg]
      exact bcd (fun _ => ⟨by rw [no j x hx (fun g => by obtain ⟨⟨s, q, _⟩, _⟩ := g; rw [hg] at q; cases q)], rfl⟩) (fun e => absurd (by decide) e)
    | some y =>
      rw [kindI_some hg]
      have hgi := geti_some hg
      have hget : c.Secs[x.toNat]? = some y := hgi.2.2
      refine bcd (fun e => absurd (kind_ok ht hg).1 (by omega)) (fun _ => h.secs.load (map_get hget) c_Section (by omega) ⟨y.Line, rfl, bcn (fun e => ⟨by rw [no j x hx (fun g => by obtain ⟨⟨s, q, q2⟩, _⟩ := g; rw [hg] at q; cases q; exact e q2)], rfl⟩) (fun e => h.xs.sliceK (lo := 0) (hi := j) c_int rfl rfl (by omega) (by rw [List.length_map]; omega) ?_)⟩)
      have hsub := h.xs.sub (lo := 0) (hi := j) (by omega) (by rw [List.length_map]; omega)
      rw [List.drop_zero, Nat.sub_zero, ← List.map_take] at hsub
      refine (ref06_in_ok x hsub).use ⟨_, rfl, bc (fun e2 => ⟨by rw [no j x hx (fun g => g.2 (of_decide_eq_true e2))], rfl⟩) (fun e2 => ?_)⟩
      rw [w64_succ (by omega)]
      refine ⟨⟨rfl, j + 1, rfl, by omega, fun i y' hi hy => ?_⟩, dec_lt hlt⟩
      by_cases hij : i = j
      · subst hij; rw [hx] at hy; cases hy; exact ⟨⟨y, hg, e⟩, of_decide_eq_false e2⟩
      · exact hall i y' (by omega) hy
  · rw [List.length_map]
    have : xrun c.Secs c.Xs [] = true := by
      rw [xrun_iff]
      refine ⟨fun x hx => ?_, ?_, fun x _ hx => by simp at hx⟩
      · obtain ⟨i, hi⟩ := List.mem_iff_getElem?.1 hx
        exact (hall i x (by have := (List.getElem?_eq_some_iff.1 hi).1; omega) hi).1
      · rw [List.nodup_iff_pairwise_ne, List.pairwise_iff_getElem]
        intro i j' hi hj' hij e
        have := (hall j' _ (by omega) (List.getElem?_eq_getElem hj')).2
        apply this
        rw [List.mem_take_iff_getElem]
        exact ⟨i, by omega, e⟩
    rw [Cf.xsOk, this, Bool.true_and]
    congr 3
    exact decide_eq_decide.2 (by omega)
end
end Go.Proofs.YtpanpagcgckeoaaGreat
end
section
set_option linter.unusedVariables false
set_option linter.unusedSimpArgs false
namespace Go.Fw
variable {P : Program} {σ σ' : Store}
theorem Own.stay {σ0 : Store} {el : TypeId} {e d : D} {qs : List (List D)} (g : Own P σ0 σ el e qs) (hs : ∀ i, σ i ≠ .free → idOf d ≠ some i → σ' i = σ i) (ha : Apart e d) (he : Ext σ0 σ') : Own P σ0 σ' el e qs :=
  ⟨g.at_.same fun i a n h => hs i (by
    have := g.at_.rows; subst h
    obtain ⟨t, rows, h1, _⟩ := this
    rw [h1]; intro e; cases e) (ha i (by subst h; rfl)), he, g.new, g.nsl, g.nz⟩
theorem Own.append2 {σ0 : Store} {el el' : TypeId} {d e x : D} {rs qs ns : List (List D)} {bytes : Nat} {K : D → Store → Prop} (h : Own P σ0 σ el d rs) (g : Own P σ0 σ el' e qs) (ha : Apart e d) (hx : At P σ el x ns)
    (hb : bytes * (rs.length + ns.length) ≤ 140737488355328) (hsz : rs.length + ns.length < 2 ^ 60) (hk : ∀ d' σ', Own P σ0 σ' el d' (rs ++ ns) → Own P σ0 σ' el' e qs → Apart e d' → K d' σ') : appendTo P σ el bytes d x K :=
  h.append hx hb hsz fun d' s' ho h1 h2 => hk d' s' ho (g.stay (d := d) (fun i hi hd => h1 i hi fun a b hab => hd (by rw [hab]; rfl)) ha ho.ext) fun i hi hd => by
    have hn := g.at_.rows
    cases e with
    | osl i' a n =>
      have e1 : i' = i := by simpa [idOf] using hi
      subst e1
      obtain ⟨t, rows, h3, _⟩ := hn
      cases d' with
      | osl j a' n' =>
        have e2 : j = i' := by simpa [idOf] using hd
        subst e2
        rcases h2 j a' n' rfl with q | ⟨a2, b2, q⟩
        · rw [h3] at q; cases q
        · exact ha j rfl (by rw [q]; rfl)
      | _ => simp [idOf] at hd
    | _ => simp [idOf] at hi
theorem Apart.nil (d : D) : Apart .nils d := fun i h => by cases h
end Go.Fw
namespace Go.Fw
variable {P : Program} {σ σ' : Store}
theorem at_lit {s : Store} {el : TypeId} {es : Nat} {rows : List (List D)} (hes : P.cellsOf el = es) (hsz : rows.length < 2 ^ 60) : At P s el (.sl es rows) rows :=
  ⟨⟨rfl, .inr hes.symm⟩, hsz, fun es rows e => by injection e with e1 e2; rw [← e1, hes]⟩
end Go.Fw
namespace Go.Fw
variable {P : Program} {σ σ' : Store}
end Go.Fw
namespace Go.Fw
variable {P : Program} {σ σ' : Store}
end Go.Fw
namespace Go.Fw
variable {P : Program} {σ σ' : Store}
theorem Own.sub {σ0 : Store} {el : TypeId} {d : D} {rs : List (List D)} {lo hi : Nat} (h : Own P σ0 σ el d rs) (h1 : lo ≤ hi) (h2 : hi ≤ rs.length) : Own P σ0 σ el (dsub d lo hi) ((rs.drop lo).take (hi - lo)) := by
  have hr := h.at_.rows
  have hn := h.new
  have hl := h.nsl
  have hz := h.nz
  refine ⟨h.at_.sub h1 h2, h.ext, ?_, ?_, ?_⟩ <;> cases d <;> simp only [dsub, Rows] at * <;> first | (intro id i n e; cases e; exact hn _ _ _ rfl) | (intro id i n e; cases e; done) | exact hl | (intro e; cases e; done) | exact hr.elim | exact hz
end Go.Fw
end
section
set_option linter.unusedVariables false
set_option linter.unusedSimpArgs false
namespace Go.Proofs.YtpanpagcgckeoaaGreat
open Go.Fw Go.Proofs Go.RowKit
variable {σ : Store}
theorem ref06_sameInts_ok {a b : D} {la lb : List Int} (ha : At Tryz.prog σ t_int a (la.map Go.Fw.encI)) (hb : At Tryz.prog σ t_int b (lb.map Go.Fw.encI)) : Pure Tryz.prog n_ref06_sameInts [.one a, .one b] σ (.a (bA (decide (la = lb)))) := by
  have hs := ha.size
  rw [List.length_map] at hs
  refine W_ref06_sameInts a b σ _ (ha.lenK (hb.lenK ?_))
  rw [List.length_map, List.length_map]
  refine bcn (fun hne => ⟨?_, rfl⟩) (fun he => ha.lenK ?_)
  · rw [decide_eq_false (fun e => hne (by rw [e]))]
  have hl : la.length = lb.length := by omega
  rw [List.length_map]
  refine ⟨fun n s => s = σ ∧ EqR la lb n, fun n _ => la.length - n.toNat, ⟨rfl, .start _ _⟩, ?_⟩
  rintro n s ⟨rfl, hr⟩
  refine bcd (fun hlt => ?_) (fun hge => ⟨?_, rfl⟩)
  · obtain ⟨j, x, y, rfl, hx, hy, hn, hy2⟩ := hr.step hl rfl hs hlt
    refine ha.load (map_get hx) c_int rfl ⟨x, rfl, hb.load (map_get hy) c_int rfl ⟨y, rfl, bcn (fun e => ⟨?_, rfl⟩) (fun e => andl rfl (hy2 e))⟩⟩
    rw [decide_eq_false (hn e)]
  · rw [decide_eq_true (hr.done hl rfl hge)]
theorem ref06_SameNeeds_ok {a b : D} {la lb : List Nd} (ha : At Tryz.prog σ t_Need a (la.map Nd.enc)) (hb : At Tryz.prog σ t_Need b (lb.map Nd.enc)) : Pure Tryz.prog n_ref06_SameNeeds [.one a, .one b] σ (.a (bA (decide (la = lb)))) := by
  have hs := ha.size
  rw [List.length_map] at hs
  refine W_ref06_SameNeeds a b σ _ (ha.lenK (hb.lenK ?_))
  rw [List.length_map, List.length_map]
  refine bcn (fun hne => ⟨?_, rfl⟩) (fun he => ha.lenK ?_)
  · rw [decide_eq_false (fun e => hne (by rw [e]))]
  have hl : la.length = lb.length := by omega
  rw [List.length_map]
  refine ⟨fun n s => s = σ ∧ EqR la lb n, fun n _ => la.length - n.toNat, ⟨rfl, .start _ _⟩, ?_⟩
  rintro n s ⟨rfl, hr⟩
  refine bcd (fun hlt => ?_) (fun hge => ⟨?_, rfl⟩)
  · obtain ⟨j, x, y, rfl, hx, hy, hn, hy2⟩ := hr.step hl rfl hs hlt
    refine ha.load (map_get hx) c_Need rfl ⟨x.Sec, x.Pos, rfl, hb.load (map_get hy) c_Need rfl ⟨y.Sec, y.Pos, rfl, bcnot (fun e => ⟨?_, rfl⟩) (fun e => andl rfl (hy2 ?_))⟩⟩
    · rw [decide_eq_false (hn fun g => by rw [g] at e; simp at e)]
    · simp at e; cases x; cases y; simp at e; simp [e]
  · rw [decide_eq_true (hr.done hl rfl hge)]
section
variable {c0 c1 c2 c3 c4 : D} {c : Cf} (h : ∀ s, CfAt s c0 c1 c2 c3 c4 c)
include h
theorem ref06_path_ok (ht : topoOk c.Secs c.Jts = true) (hsg : c.sigsOk = true) (r : Rt) {d1 d2 d3 : D} (hp : ∀ s, At Tryz.prog s t_Step d1 (r.Path.map St.enc)) :
    Pure Tryz.prog n_ref06_path [cfA c0 c1 c2 c3 c4 c, rtA d1 d2 d3 r] σ (.a (bA (c.path r))) := by
  have hl := (hp σ).size
  rw [List.length_map] at hl
  refine .of (W_ref06_path _ _ _ _ _ _ _ _ _ _ _ d1 d2 d3 _ σ _ ?_) (flat_b _)
  intro R hR
  have no : c.path r = false → (RV.a (bA false) = .a (bA (c.path r)) ∧ Ext σ σ) := fun e => ⟨by rw [e], .refl _⟩
  refine bcd (fun e => no (by rw [Cf.path, geti_neg e])) (fun e0 => (h σ).sigs.lenK ?_)
  rw [List.length_map]
  refine bcd (fun e => no (by rw [Cf.path, geti_ge e])) (fun e1 => ?_)
  obtain ⟨a, hg⟩ := geti_ex e0 e1
  have hpath : c.path r = ((decide (r.Exit = -1) || (geti c.Sigs r.Exit).isSome) && decide (1 ≤ r.Path.length ∧ r.Path.length ≤ 8) && prunA c r (geti c.Sigs r.Exit) r.Path a [a.Sec]) := by rw [Cf.path, hg]
  refine bcd (fun e => no (by rw [hpath, geti_neg (by omega), decide_eq_false (by omega)]; rfl)) (fun e2 => (h σ).sigs.lenK ?_)
  rw [List.length_map]
  refine bcd (fun e => no (by rw [hpath, geti_ge e, decide_eq_false (by omega)]; rfl)) (fun e3 => (hp σ).lenK ?_)
  rw [List.length_map]
  refine bcd (fun e => no (by rw [hpath, decide_eq_false (p := 1 ≤ r.Path.length ∧ _) (by omega), Bool.and_false, Bool.false_and])) (fun e4 => (hp σ).lenK ?_)
  rw [List.length_map]
  refine bcd (fun e => no (by rw [hpath, decide_eq_false (p := 1 ≤ r.Path.length ∧ _) (by omega), Bool.and_false, Bool.false_and])) (fun e5 => hR σ ?_)
  have hex1 : (decide (r.Exit = -1) || (geti c.Sigs r.Exit).isSome) = true := by
    by_cases e : r.Exit = -1
    · rw [decide_eq_true e]; rfl
    · obtain ⟨x, hx⟩ := geti_ex (l := c.Sigs) (i := r.Exit) (by omega) e3
      rw [hx]; simp
  rw [hex1, decide_eq_true (by omega), Bool.true_and, Bool.true_and] at hpath
  have hgs := geti_some hg
  refine (h σ).sigs.load (map_get hgs.2.2) c_Signal (by omega) ⟨a.Sec, a.End_, rfl, newObj_intro fun id s1 hid _ he1 hs1 => (hp s1).lenK ?_⟩
  rw [List.length_map]
  refine ⟨fun m e d n s => ∃ seen : List Int, Own Tryz.prog σ s t_int d (seen.reverse.map Go.Fw.encI) ∧ (seen.length : Int) ≤ n + 1 ∧ Rng r.Path (fun q => prunA c r (geti c.Sigs r.Exit) q ⟨m, e⟩ seen = c.path r) n, fun _ _ _ n _ => r.Path.length - n.toNat,
    ⟨[a.Sec], .at_new hid he1 hs1 (by simp) rfl, by simp, .start hpath.symm⟩, ?_⟩
  rintro m e d n s ⟨seen, ho, hsl, hr⟩
  refine bcd (fun hlt => ?_) (fun hge => ?_)
  · obtain ⟨j, x, rfl, hx, hj, hF, nx⟩ := hr.step rfl hl hlt
    intro R1 hR1
    refine (hp s).load (map_get hx) c_Step rfl ⟨x.Sec, x.In, x.Out, rfl, (ref05_Next_ok m e (h s).jts).use (opt2_ex _ ?_)⟩
    rw [prunA] at hF
    have hes := ho.ext
    have bad : pstep c r (geti c.Sigs r.Exit) ⟨m, e⟩ x (r.Path.drop (j + 1)).isEmpty seen = false → (RV.a (.one (.bool false)) = .a (bA (c.path r)) ∧ Ext σ s) := fun hb => by
      rw [hb] at hF
      exact ⟨by rw [← hF]; rfl, hes⟩
    have good : pstep c r (geti c.Sigs r.Exit) ⟨m, e⟩ x (r.Path.drop (j + 1)).isEmpty seen = true → ∀ s' d', Own Tryz.prog σ s' t_int d' ((x.Sec :: seen).reverse.map Go.Fw.encI) → R1 x.Sec x.Out d' s' := fun hb s' d' ho' => by
      rw [hb, Bool.true_and] at hF
      have hn := nx (fun q => prunA c r (geti c.Sigs r.Exit) q ⟨x.Sec, x.Out⟩ (x.Sec :: seen) = c.path r) hF
      exact hR1 _ _ _ _ ⟨⟨x.Sec :: seen, ho', by rw [w64_succ (by omega), List.length_cons]; omega, hn.1⟩, hn.2⟩
    intro R2 hR2
    rw [pstep] at bad good
    cases hn : nxt c.Jts m e with
    | none =>
      rw [hn] at bad
      exact bcnot (fun _ => bad rfl) (fun e => by cases e)
    | some p =>
      obtain ⟨q, i⟩ := p
      rw [hn] at bad good hR2
      obtain ⟨y, hy⟩ := nxt_sec ht hn
      simp only [hy, Option.getD_some] at bad good hR2 ⊢
      refine bcnot (fun e => by cases e) (fun _ => bcn (fun k => bad (by simp [k])) (fun k1 => bcn (fun k => bad (by simp [k])) (fun k2 => (ref06_in_ok q ho.at_).use ⟨_, rfl, bc (fun k => bad ?_) (fun k3 => ⟨trivial, hR2 s ?_⟩)⟩)))
      · have : q ∈ seen := by simpa [inL] using k
        simp [this]
      have hq : q ∉ seen := by simpa [inL] using k3
      refine (ref06_kind_ok (h s) q).use ⟨_, rfl, (ref05_Pos_ok _ _ _).use (opt1_ex _ ?_)⟩
      rw [kindI_some hy]
      intro R3 hR3
      have main : ∀ but, decide (geti c.Sigs but = some ⟨x.Sec, x.Out⟩) = ((r.Path.drop (j + 1)).isEmpty && decide (geti c.Sigs r.Exit = some ⟨x.Sec, x.Out⟩)) → R3 but s := fun but hbut => hR3 but s (by
        intro R4 hR4
        refine bcnot (fun k => bad (by rw [k]; simp)) (fun k4 => (ref06_at_ok (h s) x.Sec x.Out but).use ⟨_, rfl, ?_⟩)
        rw [atB_eq hsg, hbut]
        have hfin : (!(r.Shunt && decide (y.Line ≠ 0))) = true → ((c.Sigs.any fun z => decide (⟨x.Sec, x.Out⟩ = z)) && !((r.Path.drop (j + 1)).isEmpty && decide (geti c.Sigs r.Exit = some ⟨x.Sec, x.Out⟩))) = false → R4 s := fun g1 g2 => hR4 s (newObj_intro fun id1 s2 hid1 _ he2 hs2 => (ho.ext' he2).append (At.fresh hs2 (by simp) rfl) (by simp; omega) (by simp; omega) fun d4 s5 ho5 _ _ => good (by
          rw [k4, g1, decide_eq_true k1, decide_eq_true k2, decide_eq_true hq]
          generalize (c.Sigs.any fun z => decide (⟨x.Sec, x.Out⟩ = z)) = u at g2
          generalize ((r.Path.drop (j + 1)).isEmpty && decide (geti c.Sigs r.Exit = some ⟨x.Sec, x.Out⟩)) = w at g2
          cases u <;> cases w <;> first | rfl | cases g2) _ _ (by rw [List.reverse_cons, List.map_append, ← k1]; exact ho5))
        refine bc (fun k => bad ?_) (fun k5 => bc (fun k6 => (h s).secs.load (map_get (geti_some hy).2.2) c_Section (by have := geti_some hy; omega) ⟨y.Line, rfl, bcn (fun k7 => bad (by rw [k6]; simp [k7])) (fun k7 => ⟨trivial, hfin (by rw [k6]; simp [k7]) k5⟩)⟩) (fun k6 => ⟨trivial, hfin (by rw [k6]; rfl) k5⟩))
        · generalize (c.Sigs.any fun z => decide (⟨x.Sec, x.Out⟩ = z)) = u at k
          generalize ((r.Path.drop (j + 1)).isEmpty && decide (geti c.Sigs r.Exit = some ⟨x.Sec, x.Out⟩)) = w at k
          cases u <;> cases w <;> first | (simp; done) | cases k)
      refine (hp s).lenK ?_
      rw [List.length_map, w64_id (n := (r.Path.length : Int) - 1) (by omega) (by omega)]
      refine bce (fun q1 => ⟨trivial, main _ ?_⟩) (fun q1 => ⟨trivial, main _ ?_⟩)
      · rw [drop_end (by omega)]; simp
      · have hemp : (r.Path.drop (j + 1)).isEmpty = false := by
          cases hd : r.Path.drop (j + 1) with
          | nil => rw [List.drop_eq_nil_iff] at hd; omega
          | cons y l => rfl
        rw [hemp, geti_neg (by omega)]; simp
  · have hF : (match (generalizing := false) geti c.Sigs r.Exit with | some x => decide ((⟨m, e⟩ : Sg) = x) | none => !(nxt c.Jts m e).isSome) = c.path r := hr.done rfl hge
    refine bcd (fun k1 => ?_) (fun k1 => (ref05_Next_ok m e (h s).jts).use (opt2_ex _ ⟨?_, ho.ext⟩))
    · obtain ⟨y, hy⟩ := geti_ex (l := c.Sigs) (i := r.Exit) (by omega) e3
      rw [hy] at hF
      refine (h s).sigs.load (map_get (geti_some hy).2.2) c_Signal (by omega) ⟨y.Sec, y.End_, rfl, ?_, ho.ext⟩
      rw [← hF]
      congr 3; rw [Bool.eq_iff_iff]; cases y; simp; exact ⟨fun ⟨a, b⟩ => ⟨a.symm, b.symm⟩, fun ⟨a, b⟩ => ⟨a.symm, b.symm⟩⟩
    · rw [geti_neg (by omega)] at hF
      rw [← hF]
theorem ref06_Flank_ok (a : Int) {pd : D} {path : List St} (hp : ∀ s, At Tryz.prog s t_Step pd (path.map St.enc)) (hpl : path.length ≤ 2 ^ 20) :
    DCalls Tryz.prog n_ref06_Flank [cfA c0 c1 c2 c3 c4 c, iA a, .one pd] σ (SlPost σ t_Need ((c.flank a path).map Nd.enc)) := by
  refine (W_ref06_Flank _ _ _ _ _ _ _ _ _ a pd σ _ ?_).ret (Q := fun r s => ∃ r' σ', Ret Tryz.prog σ s r σ' r' ∧ SlPost σ t_Need ((c.flank a path).map Nd.enc) r' σ') (fun r s h => h)
  refine (hp σ).lenK ⟨fun d d1 n s => ∃ out : List Nd, Own Tryz.prog σ s t_Need d (out.map Nd.enc) ∧ Own Tryz.prog σ s t_int d1 ((out.map Nd.Sec).map Go.Fw.encI) ∧ Apart d d1 ∧ (out.length : Int) ≤ 4 * n ∧ Rng path (fun r => flankRun c a path r out = c.flank a path) n,
    fun _ _ n _ => path.length - n.toNat, ⟨[], .nil _ (.refl _), .nil _ (.refl _), .nil _, by simp, .start rfl⟩, ?_⟩
  rintro d d1 n s ⟨out, ho, ho1, hap, hol, hr⟩
  rw [List.length_map]
  refine bcd (fun hlt => ?_) (fun hge => ?_)
  · obtain ⟨j, x, rfl, hx, hj, hF, nx⟩ := hr.step rfl (by omega) hlt
    refine (hp s).load (map_get hx) c_Step rfl ⟨x.Sec, x.In, x.Out, rfl, (ref06_kind_ok (h s) _).use ⟨_, rfl, ?_⟩⟩
    have hF' : flankRun c a path (path.drop (j + 1)) (flankEnds c a path x (nends (kindI c x.Sec)).toNat 0 out) = c.flank a path := by
      rw [← hF, flankRun]
      cases hg : geti c.Secs x.Sec with
      | none => rw [kindI_none hg]; rfl
      | some y => rw [kindI_some hg]
    generalize kindI c x.Sec = k at hF'
    have hne := nends_le k
    refine ⟨fun d d1 m s' => ∃ out' : List Nd, Own Tryz.prog σ s' t_Need d (out'.map Nd.enc) ∧ Own Tryz.prog σ s' t_int d1 ((out'.map Nd.Sec).map Go.Fw.encI) ∧ Apart d d1 ∧ 0 ≤ m ∧ m ≤ nends k ∧ (out'.length : Int) ≤ 4 * j + m ∧ flankEnds c a path x (nends k - m).toNat m out' = flankEnds c a path x (nends k).toNat 0 out,
      fun _ _ m _ => (nends k - m).toNat, ⟨out, ho, ho1, hap, by omega, hne.1, by omega, by rw [Int.sub_zero]⟩, ?_⟩
    rintro d2 d3 m s' ⟨out', ho', ho1', hap', hm0, hm1, hol', hE⟩
    refine (ref05_Ends_ok _).use ⟨_, rfl, bcd (fun hlt' => ?_) (fun hge' => ?_)⟩
    · have hw : w64 (m + 1) = m + 1 := w64_id (by omega) (by omega)
      have hk : (nends k - m).toNat = (nends k - (m + 1)).toNat + 1 := by omega
      rw [hk, flankEnds] at hE
      intro R hR
      have leaf : ∀ (out2 : List Nd) (d4 d5 : D) (s2 : Store), flankStep c a path x out' m = out2 → Own Tryz.prog σ s2 t_Need d4 (out2.map Nd.enc) → Own Tryz.prog σ s2 t_int d5 ((out2.map Nd.Sec).map Go.Fw.encI) → Apart d4 d5 → R d4 d5 s2 := by
        intro out2 d4 d5 s2 h1 h2 h3 h4
        have hlen := (flankStep_len c a path x out' m).2
        refine hR _ _ _ ⟨rfl, ?_⟩
        rw [hw]
        refine ⟨⟨out2, h2, h3, h4, by omega, by omega, by rw [← h1]; omega, by rw [← h1]; exact hE⟩, by show (nends k - (m + 1)).toNat < (nends k - m).toNat; omega⟩
      intro R1 hR1
      refine bce (fun h1 => ⟨by trivial, leaf out' _ _ s' (by rw [flankStep, if_pos (.inl h1)]) ho' ho1' hap'⟩) (fun h1 => bce (fun h2 => ⟨by trivial, leaf out' _ _ s' (by rw [flankStep, if_pos (.inr h2)]) ho' ho1' hap'⟩) (fun h2 => ⟨by trivial, hR1 s' ?_⟩))
      have hst : flankStep c a path x out' m = match nxt c.Jts x.Sec m with
        | none => out'
        | some (q, f) => match geti c.Secs q with
          | none => out'
          | some y => if y.Kind = 1 ∧ (1 ≤ f ∧ f ≤ 2) ∧ q ≠ a ∧ hasSec path q = false ∧ (out'.any fun n => n.Sec == q) = false then out' ++ [⟨q, 3 - f⟩] else out' := by
        rw [flankStep, if_neg (by rintro (e | e); exact h1 e; exact h2 e)] <;> rfl
      refine (ref05_Next_ok x.Sec m (h s').jts).use (opt2_ex _ ?_)
      intro R2 hR2
      cases hn : nxt c.Jts x.Sec m with
      | none =>
        rw [hn] at hst
        exact bcnot (fun _ => ⟨by trivial, leaf out' _ _ s' hst ho' ho1' hap'⟩) (fun e => by cases e)
      | some p =>
        obtain ⟨q, f⟩ := p
        rw [hn] at hst hR2
        simp only [Option.getD_some] at hst hR2 ⊢
        refine bcnot (fun e => by cases e) (fun _ => (ref06_kind_ok (h s') q).use ⟨_, rfl, ?_⟩)
        refine bcn (fun k1 => ⟨by trivial, leaf out' _ _ s' ?_ ho' ho1' hap'⟩) (fun k1 => ?_)
        · cases hg : geti c.Secs q with
          | none => rw [hg] at hst; exact hst
          | some y => rw [hg] at hst; rw [kindI_some hg] at k1; rw [hst]; exact if_neg fun g => k1 g.1
        obtain ⟨y, hg⟩ : ∃ y, geti c.Secs q = some y := by
          cases hg : geti c.Secs q with
          | none => rw [kindI_none hg] at k1; cases k1
          | some y => exact ⟨y, rfl⟩
        rw [kindI_some hg] at k1
        rw [hg] at hst
        simp only at hst
        have no : ¬ ((1 ≤ f ∧ f ≤ 2) ∧ q ≠ a ∧ hasSec path q = false ∧ (out'.any fun n => n.Sec == q) = false) → flankStep c a path x out' m = out' := fun hn => by rw [hst, if_neg fun g => hn g.2]
        have main : (1 ≤ f ∧ f ≤ 2) → DCalls Tryz.prog n_ref06_Sections [.one pd] s' fun r4 s4 => ∃ d4, r4 = .a (.one d4) ∧ DCalls Tryz.prog n_ref06_in [.one d4, iA q] s4 fun r5 s5 => ∃ b1, r5 = .a (bA b1) ∧ bcase b1 (True ∧ R d2 d3 s5) (bcase (q == a) (True ∧ R d2 d3 s5) (DCalls Tryz.prog n_ref06_in [.one d3, iA q] s5 fun r6 s6 => ∃ b2, r6 = .a (bA b2) ∧ bcase b2 (True ∧ R d2 d3 s6) (True ∧ R2 s6))) := by
          intro hf
          refine (ref06_Sections_ok hp (by omega)).mono ?_
          rintro r4 s4 ⟨rfl, d4, rfl, hd4⟩
          refine ⟨d4, rfl, (ref06_in_ok q (hd4 _)).use ⟨_, rfl, ?_⟩⟩
          rw [hasSec_in]
          refine bc (fun k2 => ⟨by trivial, leaf out' _ _ _ (no fun g => by rw [g.2.2.1] at k2; cases k2) ho' ho1' hap'⟩) (fun k2 => bce (fun k3 => ⟨by trivial, leaf out' _ _ _ (no fun g => g.2.1 k3) ho' ho1' hap'⟩) (fun k3 => (ref06_in_ok q ho1'.at_).use ⟨_, rfl, ?_⟩))
          rw [nd_any]
          refine bc (fun k4 => ⟨by trivial, leaf out' _ _ _ (no fun g => by rw [g.2.2.2] at k4; cases k4) ho' ho1' hap'⟩) (fun k4 => ⟨by trivial, hR2 _ ?_⟩)
          refine newObj_intro fun id s5 hid _ he5 hs5 => ?_
          refine (ho1'.ext' he5).append2 (ho'.ext' he5) hap' (At.fresh hs5 (by simp) rfl) (by simp; omega) (by simp; omega) fun d5 s6 ho6 ho6' hap6 => ?_
          refine newObj_intro fun id7 s7 hid7 _ he7 hs7 => ?_
          have hw2 : w64 (3 - f) = 3 - f := w64_id (by omega) (by omega)
          refine (ho6'.ext' he7).append2 (ho6.ext' he7) hap6.symm (At.fresh hs7 (by simp) rfl) (by simp; omega) (by simp; omega) fun d8 s8 ho8 ho8' hap8 => ⟨by trivial, leaf (out' ++ [⟨q, 3 - f⟩]) _ _ _ (by rw [hst, if_pos ⟨k1, hf, k3, k2, k4⟩]) ?_ ?_ hap8.symm⟩
          · rw [hw2] at ho8; rw [List.map_append]; exact ho8
          · rw [List.map_append, List.map_append]; exact ho8'
        refine bcn (fun k2 => bcn (fun k3 => ⟨by trivial, leaf out' _ _ s' (no fun g => by omega) ho' ho1' hap'⟩) (fun k3 => main (by omega))) (fun k2 => main (by omega))
    · have hz : (nends k - m).toNat = 0 := by omega
      rw [hz, flankEnds] at hE
      rw [← hE] at hF'
      have hn := nx (fun r => flankRun c a path r out' = c.flank a path) hF'
      exact ⟨⟨out', ho', ho1', hap', by rw [w64_succ (by omega)]; omega, hn.1⟩, hn.2⟩
  · have hF := hr.done rfl hge
    rw [flankRun] at hF
    rw [← hF]
    exact own_fin ho (flatNd _)
theorem ref06_Overlap_ok (r : Rt) {d1 d2 d3 : D} (hp : ∀ s, At Tryz.prog s t_Step d1 (r.Path.map St.enc)) (hpl : r.Path.length ≤ 2 ^ 20) :
    DCalls Tryz.prog n_ref06_Overlap [cfA c0 c1 c2 c3 c4 c, rtA d1 d2 d3 r] σ (SlPost σ t_int ((c.overlap r).map Go.Fw.encI)) := by
  refine (W_ref06_Overlap _ _ _ _ _ _ _ _ _ _ _ d1 d2 d3 _ σ _ ?_).ret (Q := fun r' s => ∃ r'' σ', Ret Tryz.prog σ s r' σ' r'' ∧ SlPost σ t_int ((c.overlap r).map Go.Fw.encI) r'' σ') (fun r s h => h)
  intro R hR
  have nil : c.overlap r = [] → ∃ r'' σ', Ret Tryz.prog σ σ (.a (.one .nils)) σ' r'' ∧ SlPost σ t_int ((c.overlap r).map Go.Fw.encI) r'' σ' := fun e => by
    rw [e]; exact own_fin (.nil _ (.refl _)) (flatI _)
  refine bc (fun h1 => nil (by rw [Cf.overlap, if_pos h1])) (fun h1 => ?_)
  have hov : c.overlap r = match geti c.Sigs r.Exit with
    | none => []
    | some x => match nxt c.Jts x.Sec x.End_ with
      | none => []
      | some (q, _) => match geti c.Secs q with
        | none => []
        | some y => if y.Line = 0 ∧ hasSec r.Path q = false ∧ q ≠ c.approach r then [q] else [] := by
    rw [Cf.overlap, if_neg (by rw [h1]; simp)] <;> rfl
  refine bcd (fun e => nil (by rw [hov, geti_neg e])) (fun e0 => (h σ).sigs.lenK ?_)
  rw [List.length_map]
  refine bcd (fun e => nil (by rw [hov, geti_ge e])) (fun e1 => hR σ ?_)
  obtain ⟨x, hg⟩ := geti_ex e0 e1
  rw [hg] at hov
  simp only at hov
  refine (h σ).sigs.load (map_get (geti_some hg).2.2) c_Signal (by omega) ⟨x.Sec, x.End_, rfl, (ref05_Next_ok _ _ (h σ).jts).use (opt2_ex _ ?_)⟩
  intro R1 hR1
  have main : R1 (c.approach r) σ := by
    refine hR1 _ σ ?_
    cases hn : nxt c.Jts x.Sec x.End_ with
    | none => rw [hn] at hov; exact bcnot (fun _ => nil hov) (fun e => by cases e)
    | some p =>
      obtain ⟨q, f⟩ := p
      rw [hn] at hov
      simp only [Option.getD_some] at hov ⊢
      refine bcnot (fun e => by cases e) (fun _ => bcd (fun e => nil (by rw [hov, geti_neg e])) (fun e2 => (h σ).secs.lenK ?_))
      rw [List.length_map]
      refine bcd (fun e => nil (by rw [hov, geti_ge e])) (fun e3 => (ref06_Sections_ok hp (by omega)).mono ?_)
      obtain ⟨y, hy⟩ := geti_ex e2 e3
      rw [hy] at hov
      simp only at hov
      have no : ¬ (y.Line = 0 ∧ hasSec r.Path q = false ∧ q ≠ c.approach r) → c.overlap r = [] := fun hn => by rw [hov, if_neg hn]
      rintro r4 s4 ⟨rfl, d4, rfl, hd4⟩
      refine ⟨d4, rfl, (ref06_in_ok q (hd4 _)).use ⟨_, rfl, ?_⟩⟩
      rw [hasSec_in]
      refine bc (fun k2 => nil (no fun g => by rw [g.2.1] at k2; cases k2)) (fun k2 => bce (fun k3 => nil (no fun g => g.2.2 k3)) (fun k3 => ?_))
      refine (h s4).secs.load (map_get (geti_some hy).2.2) c_Section (by omega) ⟨y.Line, rfl, bcn (fun k4 => nil (no fun g => k4 g.1)) (fun k4 => ?_)⟩
      refine newObj_intro fun id s5 hid _ he5 hs5 => ?_
      rw [hov, if_pos ⟨k4, k2, k3⟩]
      exact own_fin (.at_new hid he5 hs5 (by simp) rfl) (flatI _)
  refine bcd (fun k0 => (h σ).sigs.lenK ?_) (fun k0 => ?_)
  · rw [List.length_map]
    refine bcd (fun k1 => ?_) (fun k1 => ?_)
    · obtain ⟨z, hz⟩ := geti_ex (l := c.Sigs) (i := r.Entry) (by omega) (by omega)
      refine (h σ).sigs.load (map_get (geti_some hz).2.2) c_Signal (by omega) ⟨z.Sec, rfl, ?_⟩
      rw [Cf.approach, hz] at main; exact main
    · rw [Cf.approach, geti_ge (by omega)] at main; exact main
  · rw [Cf.approach, geti_neg (by omega)] at main; exact main
theorem ref06_Check_ok : Pure Tryz.prog n_ref06_Check [cfA c0 c1 c2 c3 c4 c] σ (.a (iA c.check)) := by
  refine W_ref06_Check _ _ _ _ _ _ _ _ _ σ _ ((ref05_Check_ok (h σ).secs (h σ).jts).use ⟨_, rfl, ?_⟩)
  have e6 : (if topoOk c.Secs c.Jts = true then (0 : Int) else 6) ≠ 0 ↔ topoOk c.Secs c.Jts = false := by
    cases topoOk c.Secs c.Jts <;> simp
  refine bcn (fun k1 => ⟨by rw [Cf.check, if_pos (e6.1 k1)], rfl⟩) (fun k1 => (ref06_signals_ok (h σ)).use ⟨_, rfl, bcnot (fun k2 => ⟨?_, rfl⟩) (fun k2 => ?_)⟩)
  all_goals have k1' : ¬ topoOk c.Secs c.Jts = false := fun e => e6.2 e k1
  · rw [Cf.check, if_neg k1', if_pos k2]
  have ht : topoOk c.Secs c.Jts = true := by simpa using k1'
  refine (ref06_crossings_ok (h σ) ht).use ⟨_, rfl, bcnot (fun k3 => ⟨?_, rfl⟩) (fun k3 => ?_)⟩
  · rw [Cf.check, if_neg k1', if_neg (by rw [k2]; simp), if_pos k3]
  have hck : c.check = if c.Rts.length > 12 then 9 else if c.routes c.Rts ≠ 0 then c.routes c.Rts else if c.timing = true then 0 else 12 := by
    rw [Cf.check, if_neg k1', if_neg (by rw [k2]; simp), if_neg (by rw [k3]; simp)]
  obtain ⟨rows, hat, hlen, hrow⟩ := rts_froz fun s => (h s).rts
  have hl := (hat σ).size
  refine (hat σ).lenK (bcd (fun k4 => ⟨by rw [hck, if_pos (by omega)], rfl⟩) (fun k4 => (hat σ).lenK ?_))
  rw [if_neg (by omega)] at hck
  refine ⟨fun n s => s = σ ∧ Rng c.Rts (fun l => c.routes l = c.routes c.Rts) n, fun n _ => c.Rts.length - n.toNat, ⟨rfl, .start rfl⟩, ?_⟩
  rintro n τ ⟨rfl, hr⟩
  refine bcd (fun hlt => ?_) (fun hge => ?_)
  · obtain ⟨j, x, rfl, hx, hj, hF, nx⟩ := hr.step hlen (by omega) hlt
    obtain ⟨row, hrw⟩ := get_of_lt (l := rows) (j := j) (by omega)
    obtain ⟨d1, d2, d3, rfl, q1, q2, q3⟩ := hrow j row x hrw hx
    rw [Cf.routes] at hF
    have err : ∀ e, e ≠ 0 → c.route x = e → (RV.a (iA e) = .a (iA c.check) ∧ τ = τ) := fun e he hc => by
      rw [hc, if_pos he] at hF
      rw [hck, ← hF, if_pos he]; exact ⟨rfl, rfl⟩
    refine (hat τ).load hrw c_Route rfl ⟨_, _, d1, d2, d3, _, rfl, (ref06_path_ok h ht k2 x q1).use ⟨_, rfl, bcnot (fun k5 => err 9 (by decide) (by rw [Cf.route, if_pos k5])) (fun k5 => ?_)⟩⟩
    have hpl : x.Path.length ≤ 8 := by
      unfold Cf.path at k5
      split at k5
      · cases k5
      · simp at k5; exact k5.1.2.2
    refine (ref06_Approach_ok (h τ) j).use ⟨_, rfl, ?_⟩
    rw [show c.Approach j = c.approach x by rw [Cf.Approach, show geti c.Rts j = some x by unfold geti; rw [if_neg (by omega), Int.toNat_natCast]; exact hx]; rfl]
    refine (ref06_Flank_ok h _ q1 (by omega)).mono ?_
    rintro r1 s1 ⟨rfl, d, rfl, hd⟩
    refine ⟨d, rfl, (ref06_SameNeeds_ok (q2 _) (hd _)).use ⟨_, rfl, bcnot (fun k6 => err 10 (by decide) ?_) (fun k6 => (ref06_Overlap_ok h x q1 (by omega)).mono ?_)⟩⟩
    · rw [Cf.route, if_neg (by rw [k5]; simp), if_pos (of_decide_eq_false k6)]
    rintro r2 s2 ⟨rfl, d', rfl, hd'⟩
    have e2 := of_decide_eq_true k6
    refine ⟨d', rfl, (ref06_sameInts_ok (q3 _) (hd' _)).use ⟨_, rfl, bcnot (fun k7 => err 11 (by decide) ?_) (fun k7 => ?_)⟩⟩
    · rw [Cf.route, if_neg (by rw [k5]; simp), if_neg (fun hn => hn e2), if_pos (of_decide_eq_false k7)]
    · have h0 : c.route x = 0 := by rw [Cf.route, if_neg (by rw [k5]; simp), if_neg (fun hn => hn e2), if_neg (fun hn => hn (of_decide_eq_true k7))]
      rw [if_neg (by simp [h0])] at hF
      exact andl rfl (nx _ hF)
  · have hF : 0 = c.routes c.Rts := hr.done hlen hge
    rw [← hF, if_neg (by simp)] at hck
    have bad : ¬ (((1 ≤ c.Age ∧ c.Age ≤ 8) ∧ (0 ≤ c.Brake ∧ c.Brake ≤ 8)) ∧ (c.Age + c.Brake + 1 ≤ c.Hold ∧ c.Hold ≤ 40) ∧ (1 ≤ c.Budget ∧ c.Budget ≤ 1000000)) → (RV.a (iA 12) = .a (iA c.check) ∧ τ = τ) := fun hn => by
      rw [hck, if_neg (fun e => hn (by simpa [Cf.timing, and_assoc] using e))]; exact ⟨rfl, rfl⟩
    refine bcd (fun e => bad fun g => by omega) (fun t1 => bcd (fun e => bad fun g => by omega) (fun t2 => bcd (fun e => bad fun g => by omega) (fun t3 => bcd (fun e => bad fun g => by omega) (fun t4 => ?_))))
    rw [w64_id (n := c.Age + c.Brake) (by omega) (by omega), w64_id (n := c.Age + c.Brake + 1) (by omega) (by omega)]
    refine bcd (fun e => bad fun g => by omega) (fun t5 => bcd (fun e => bad fun g => by omega) (fun t6 => bcd (fun e => bad fun g => by omega) (fun t7 => bcd (fun e => bad fun g => by omega) (fun t8 => ⟨?_, rfl⟩))))
    rw [hck, if_pos]
    simp only [Cf.timing, Bool.and_eq_true, decide_eq_true_eq]
    omega
end
end Go.Proofs.YtpanpagcgckeoaaGreat
end
section
set_option linter.unusedVariables false
set_option linter.unusedSimpArgs false
namespace Go.Proofs.YtpanpagcgckeoaaGreat
open Go.Fw Go.Proofs Go.RowKit
variable {σ : Store}
section
variable {σ0 : Store} {d0 d1 d2 d3 d4 d5 : D} {k : Co}
theorem ext_other {s s' : Store} {i : Nat} (he : Ext σ0 s) (hf : σ0 i = .free) (hs : ∀ j, j ≠ i → s' j = s j) : Ext σ0 s' := fun j hj => by
  rw [hs j (fun e => hj (by rw [e]; exact hf))]; exact he j hj
end
end Go.Proofs.YtpanpagcgckeoaaGreat
end
section
set_option linter.unusedVariables false
set_option linter.unusedSimpArgs false
namespace Go.Proofs.YtpanpagcgckeoaaGreat
open Go.Fw Go.Proofs Go.RowKit
variable {σ σ0 : Store} {d0 d1 d2 d3 d4 d5 : D} {k : Co}
theorem copy_ok {t : TypeId} {bytes : Nat} {d : D} {rows : List (List D)} {K : D → Store → Prop} (h : At Tryz.prog σ t d rows) (hb : bytes * rows.length ≤ 140737488355328)
    (hK : ∀ d' s, Own Tryz.prog σ s t d' rows → K d' s) : Fw.newObj σ (.live t []) fun id σ' => appendTo Tryz.prog σ' t bytes (.osl id 0 0) d K := by
  refine newObj_intro fun id s hid _ he hs => ?_
  have ho : Own Tryz.prog σ s t (.osl id 0 0) [] := .at_new hid he hs (by simp) rfl
  exact ho.append (h.ext he) (by simpa using hb) (by have := h.size; simpa using this) fun d' s' ho' _ _ => hK _ _ (by simpa using ho')
structure CoIn (σ0 σ : Store) (id : Nat) (t : TypeId) (pre post : List D) (d0 d1 d2 d3 d4 d5 : D) (k : Co) : Prop where
  new : σ0 id = .free
  row : σ id = .live t [pre ++ ([d0, d1, d2, d3, d4, d5, .bool k.Dirty] ++ post)]
  co : CoOwn σ0 σ d0 d1 d2 d3 d4 d5 k
  ids : ∀ d ∈ [d0, d1, d2, d3, d4, d5], idOf d ≠ some id
theorem CoIn.ext {id t pre post} (h : CoIn σ0 σ id t pre post d0 d1 d2 d3 d4 d5 k) : Ext σ0 σ := h.co.own.ext
theorem CoIn.at {id t pre post} (h : CoIn σ0 σ id t pre post d0 d1 d2 d3 d4 d5 k) : CoAt σ d0 d1 d2 d3 d4 d5 k := h.co.at
theorem CoIn.dirty {id t pre post} (h : CoIn σ0 σ id t pre post d0 d1 d2 d3 d4 d5 k) {b : Bool} {off : Nat} (ho : off = pre.length + 6) {K : Store → Prop}
    (hK : ∀ s', CoIn σ0 s' id t pre post d0 d1 d2 d3 d4 d5 { k with Dirty := b } → (∀ i, i ≠ id → s' i = σ i) → K s') : storeEl [.bool b] σ (.osl id 0 1) 0 off K := by
  refine cell_store h.row (by subst ho; simp; omega) fun s' hs hs' => hK s' ?_ hs'
  have al : ∀ {d : D} {el : TypeId} {rs : List (List D)}, d ∈ [d0, d1, d2, d3, d4, d5] → Own Tryz.prog σ0 σ el d rs → Own Tryz.prog σ0 s' el d rs := fun hd g => own_other g h.new (h.ids _ hd) hs'
  refine ⟨h.new, ?_, ⟨al (by simp) h.co.own, al (by simp) h.co.routes, al (by simp) h.co.points, al (by simp) h.co.xs, al (by simp) h.co.lines, al (by simp) h.co.resets, h.co.apart⟩, h.ids⟩
  rw [hs]
  have e : patch (pre ++ ([d0, d1, d2, d3, d4, d5, .bool k.Dirty] ++ post)) off [.bool b] = pre ++ ([d0, d1, d2, d3, d4, d5, .bool b] ++ post) := by
    subst ho
    unfold patch
    rw [List.take_length_add_append, List.length_singleton, Nat.add_assoc, List.drop_length_add_append]
    rw [List.append_assoc, List.append_assoc]; rfl
  rw [e]
theorem CoOwn.putO (h : CoOwn σ0 σ d0 d1 d2 d3 d4 d5 k) {j n off : Nat} {x y : Int} {ys : List D} (hj : k.Own[j]? = some x) (hn : n = j) (ho : off + ys.length ≤ 1) (hp : patch (Go.Fw.encI x) off ys = Go.Fw.encI y) {K : Store → Prop}
    (hK : ∀ s', CoOwn σ0 s' d0 d1 d2 d3 d4 d5 { k with Own := k.Own.set j y } → (∀ i, idOf d0 ≠ some i → s' i = σ i) → K s') : storeEl ys σ d0 n off K := by
  refine h.own.at_.store h.own.nsl (map_get hj) hn ho fun s' i hi hat hs hne => hK s' ?_ fun i' hi' => hs i' fun e => hi' (by rw [e]; exact hi)
  have hf := own_id h.own hi
  have ap : ∀ {m : Nat} {d : D}, [d0, d1, d2, d3, d4, d5][m]? = some d → m ≠ 0 → idOf d ≠ some i := fun hm hne0 => pw h.apart (i := 0) rfl hm (Ne.symm hne0) i hi
  refine ⟨⟨?_, ext_other h.own.ext hf hs, h.own.new, h.own.nsl, h.own.nz⟩, own_other h.routes hf (ap (m := 1) rfl (by omega)) hs, own_other h.points hf (ap (m := 2) rfl (by omega)) hs, own_other h.xs hf (ap (m := 3) rfl (by omega)) hs, own_other h.lines hf (ap (m := 4) rfl (by omega)) hs, own_other h.resets hf (ap (m := 5) rfl (by omega)) hs, h.apart⟩
  rw [hp, map_set (Go.Fw.encI) k.Own j y] at hat; exact hat
theorem CoIn.putO {id t pre post} (h : CoIn σ0 σ id t pre post d0 d1 d2 d3 d4 d5 k) {j n off : Nat} {x y : Int} {ys : List D} (hj : k.Own[j]? = some x) (hn : n = j) (ho : off + ys.length ≤ 1) (hp : patch (Go.Fw.encI x) off ys = Go.Fw.encI y) {K : Store → Prop}
    (hK : ∀ s', CoIn σ0 s' id t pre post d0 d1 d2 d3 d4 d5 { k with Own := k.Own.set j y } → (∀ i, idOf d0 ≠ some i → s' i = σ i) → K s') : storeEl ys σ d0 n off K :=
  h.co.putO hj hn ho hp fun s' h' hs => hK s' ⟨h.new, (hs id (h.ids _ (by simp))).trans h.row, h', h.ids⟩ hs
theorem CoOwn.putR (h : CoOwn σ0 σ d0 d1 d2 d3 d4 d5 k) {j n off : Nat} {x y : Rs} {ys : List D} (hj : k.Routes[j]? = some x) (hn : n = j) (ho : off + ys.length ≤ 4) (hp : patch (Rs.enc x) off ys = Rs.enc y) {K : Store → Prop}
    (hK : ∀ s', CoOwn σ0 s' d0 d1 d2 d3 d4 d5 { k with Routes := k.Routes.set j y } → (∀ i, idOf d1 ≠ some i → s' i = σ i) → K s') : storeEl ys σ d1 n off K := by
  refine h.routes.at_.store h.routes.nsl (map_get hj) hn ho fun s' i hi hat hs hne => hK s' ?_ fun i' hi' => hs i' fun e => hi' (by rw [e]; exact hi)
  have hf := own_id h.routes hi
  have ap : ∀ {m : Nat} {d : D}, [d0, d1, d2, d3, d4, d5][m]? = some d → m ≠ 1 → idOf d ≠ some i := fun hm hne0 => pw h.apart (i := 1) rfl hm (Ne.symm hne0) i hi
  refine ⟨own_other h.own hf (ap (m := 0) rfl (by omega)) hs, ⟨?_, ext_other h.routes.ext hf hs, h.routes.new, h.routes.nsl, h.routes.nz⟩, own_other h.points hf (ap (m := 2) rfl (by omega)) hs, own_other h.xs hf (ap (m := 3) rfl (by omega)) hs, own_other h.lines hf (ap (m := 4) rfl (by omega)) hs, own_other h.resets hf (ap (m := 5) rfl (by omega)) hs, h.apart⟩
  rw [hp, map_set (Rs.enc) k.Routes j y] at hat; exact hat
theorem CoIn.putR {id t pre post} (h : CoIn σ0 σ id t pre post d0 d1 d2 d3 d4 d5 k) {j n off : Nat} {x y : Rs} {ys : List D} (hj : k.Routes[j]? = some x) (hn : n = j) (ho : off + ys.length ≤ 4) (hp : patch (Rs.enc x) off ys = Rs.enc y) {K : Store → Prop}
    (hK : ∀ s', CoIn σ0 s' id t pre post d0 d1 d2 d3 d4 d5 { k with Routes := k.Routes.set j y } → (∀ i, idOf d1 ≠ some i → s' i = σ i) → K s') : storeEl ys σ d1 n off K :=
  h.co.putR hj hn ho hp fun s' h' hs => hK s' ⟨h.new, (hs id (h.ids _ (by simp))).trans h.row, h', h.ids⟩ hs
theorem CoOwn.putP (h : CoOwn σ0 σ d0 d1 d2 d3 d4 d5 k) {j n off : Nat} {x y : Mv} {ys : List D} (hj : k.Points[j]? = some x) (hn : n = j) (ho : off + ys.length ≤ 2) (hp : patch (Mv.enc x) off ys = Mv.enc y) {K : Store → Prop}
    (hK : ∀ s', CoOwn σ0 s' d0 d1 d2 d3 d4 d5 { k with Points := k.Points.set j y } → (∀ i, idOf d2 ≠ some i → s' i = σ i) → K s') : storeEl ys σ d2 n off K := by
  refine h.points.at_.store h.points.nsl (map_get hj) hn ho fun s' i hi hat hs hne => hK s' ?_ fun i' hi' => hs i' fun e => hi' (by rw [e]; exact hi)
  have hf := own_id h.points hi
  have ap : ∀ {m : Nat} {d : D}, [d0, d1, d2, d3, d4, d5][m]? = some d → m ≠ 2 → idOf d ≠ some i := fun hm hne0 => pw h.apart (i := 2) rfl hm (Ne.symm hne0) i hi
  refine ⟨own_other h.own hf (ap (m := 0) rfl (by omega)) hs, own_other h.routes hf (ap (m := 1) rfl (by omega)) hs, ⟨?_, ext_other h.points.ext hf hs, h.points.new, h.points.nsl, h.points.nz⟩, own_other h.xs hf (ap (m := 3) rfl (by omega)) hs, own_other h.lines hf (ap (m := 4) rfl (by omega)) hs, own_other h.resets hf (ap (m := 5) rfl (by omega)) hs, h.apart⟩
  rw [hp, map_set (Mv.enc) k.Points j y] at hat; exact hat
theorem CoIn.putP {id t pre post} (h : CoIn σ0 σ id t pre post d0 d1 d2 d3 d4 d5 k) {j n off : Nat} {x y : Mv} {ys : List D} (hj : k.Points[j]? = some x) (hn : n = j) (ho : off + ys.length ≤ 2) (hp : patch (Mv.enc x) off ys = Mv.enc y) {K : Store → Prop}
    (hK : ∀ s', CoIn σ0 s' id t pre post d0 d1 d2 d3 d4 d5 { k with Points := k.Points.set j y } → (∀ i, idOf d2 ≠ some i → s' i = σ i) → K s') : storeEl ys σ d2 n off K :=
  h.co.putP hj hn ho hp fun s' h' hs => hK s' ⟨h.new, (hs id (h.ids _ (by simp))).trans h.row, h', h.ids⟩ hs
theorem CoOwn.putX (h : CoOwn σ0 σ d0 d1 d2 d3 d4 d5 k) {j n off : Nat} {x y : Mv} {ys : List D} (hj : k.Xs[j]? = some x) (hn : n = j) (ho : off + ys.length ≤ 2) (hp : patch (Mv.enc x) off ys = Mv.enc y) {K : Store → Prop}
    (hK : ∀ s', CoOwn σ0 s' d0 d1 d2 d3 d4 d5 { k with Xs := k.Xs.set j y } → (∀ i, idOf d3 ≠ some i → s' i = σ i) → K s') : storeEl ys σ d3 n off K := by
  refine h.xs.at_.store h.xs.nsl (map_get hj) hn ho fun s' i hi hat hs hne => hK s' ?_ fun i' hi' => hs i' fun e => hi' (by rw [e]; exact hi)
  have hf := own_id h.xs hi
  have ap : ∀ {m : Nat} {d : D}, [d0, d1, d2, d3, d4, d5][m]? = some d → m ≠ 3 → idOf d ≠ some i := fun hm hne0 => pw h.apart (i := 3) rfl hm (Ne.symm hne0) i hi
  refine ⟨own_other h.own hf (ap (m := 0) rfl (by omega)) hs, own_other h.routes hf (ap (m := 1) rfl (by omega)) hs, own_other h.points hf (ap (m := 2) rfl (by omega)) hs, ⟨?_, ext_other h.xs.ext hf hs, h.xs.new, h.xs.nsl, h.xs.nz⟩, own_other h.lines hf (ap (m := 4) rfl (by omega)) hs, own_other h.resets hf (ap (m := 5) rfl (by omega)) hs, h.apart⟩
  rw [hp, map_set (Mv.enc) k.Xs j y] at hat; exact hat
theorem CoIn.putX {id t pre post} (h : CoIn σ0 σ id t pre post d0 d1 d2 d3 d4 d5 k) {j n off : Nat} {x y : Mv} {ys : List D} (hj : k.Xs[j]? = some x) (hn : n = j) (ho : off + ys.length ≤ 2) (hp : patch (Mv.enc x) off ys = Mv.enc y) {K : Store → Prop}
    (hK : ∀ s', CoIn σ0 s' id t pre post d0 d1 d2 d3 d4 d5 { k with Xs := k.Xs.set j y } → (∀ i, idOf d3 ≠ some i → s' i = σ i) → K s') : storeEl ys σ d3 n off K :=
  h.co.putX hj hn ho hp fun s' h' hs => hK s' ⟨h.new, (hs id (h.ids _ (by simp))).trans h.row, h', h.ids⟩ hs
theorem CoOwn.putL (h : CoOwn σ0 σ d0 d1 d2 d3 d4 d5 k) {j n off : Nat} {x y : Ls} {ys : List D} (hj : k.Lines[j]? = some x) (hn : n = j) (ho : off + ys.length ≤ 8) (hp : patch (Ls.enc x) off ys = Ls.enc y) {K : Store → Prop}
    (hK : ∀ s', CoOwn σ0 s' d0 d1 d2 d3 d4 d5 { k with Lines := k.Lines.set j y } → (∀ i, idOf d4 ≠ some i → s' i = σ i) → K s') : storeEl ys σ d4 n off K := by
  refine h.lines.at_.store h.lines.nsl (map_get hj) hn ho fun s' i hi hat hs hne => hK s' ?_ fun i' hi' => hs i' fun e => hi' (by rw [e]; exact hi)
  have hf := own_id h.lines hi
  have ap : ∀ {m : Nat} {d : D}, [d0, d1, d2, d3, d4, d5][m]? = some d → m ≠ 4 → idOf d ≠ some i := fun hm hne0 => pw h.apart (i := 4) rfl hm (Ne.symm hne0) i hi
  refine ⟨own_other h.own hf (ap (m := 0) rfl (by omega)) hs, own_other h.routes hf (ap (m := 1) rfl (by omega)) hs, own_other h.points hf (ap (m := 2) rfl (by omega)) hs, own_other h.xs hf (ap (m := 3) rfl (by omega)) hs, ⟨?_, ext_other h.lines.ext hf hs, h.lines.new, h.lines.nsl, h.lines.nz⟩, own_other h.resets hf (ap (m := 5) rfl (by omega)) hs, h.apart⟩
  rw [hp, map_set (Ls.enc) k.Lines j y] at hat; exact hat
theorem CoIn.putL {id t pre post} (h : CoIn σ0 σ id t pre post d0 d1 d2 d3 d4 d5 k) {j n off : Nat} {x y : Ls} {ys : List D} (hj : k.Lines[j]? = some x) (hn : n = j) (ho : off + ys.length ≤ 8) (hp : patch (Ls.enc x) off ys = Ls.enc y) {K : Store → Prop}
    (hK : ∀ s', CoIn σ0 s' id t pre post d0 d1 d2 d3 d4 d5 { k with Lines := k.Lines.set j y } → (∀ i, idOf d4 ≠ some i → s' i = σ i) → K s') : storeEl ys σ d4 n off K :=
  h.co.putL hj hn ho hp fun s' h' hs => hK s' ⟨h.new, (hs id (h.ids _ (by simp))).trans h.row, h', h.ids⟩ hs
end Go.Proofs.YtpanpagcgckeoaaGreat
end
section
set_option linter.unusedVariables false
set_option linter.unusedSimpArgs false
namespace Go.Fw
section
variable {occ : List Lk} {now : Int} {was may : Bool} {x : Ls} {o : Int} {s : Nat} {lk : Lk}
end
structure SameBut (k k' : Co) (l s : Nat) : Prop where
  routes : k'.Routes = k.Routes
  lines : ∀ m, m ≠ l → k'.Lines[m]? = k.Lines[m]?
  own : ∀ t, t ≠ s → k'.Own[t]? = k.Own[t]?
end Go.Fw
end
section
set_option linter.unusedVariables false
set_option linter.unusedSimpArgs false
namespace Go.Fw
def apprS (c : Cf) (l : List Int) : List Rs → Nat → Bool
  | [], _ => false
  | r :: rs, j => (decide (r.State ≠ 0) && inL l (c.Approach j)) || apprS c l rs (j + 1)
end Go.Fw
end
section
set_option linter.unusedVariables false
set_option linter.unusedSimpArgs false
namespace Go.Proofs.YtpanpagcgckeoaaGreat
open Go.Fw Go.Proofs Go.RowKit
variable {σ : Store}
theorem ref13_Time_ok (n : Int) : Pure Tryz.prog n_ref13_Time [iA n] σ (.a (bA (tm 0 n))) :=
  W_ref13_Time n σ _ (bcd (fun h => ⟨by rw [tm]; congr 3; exact decide_eq_decide.2 (by omega), rfl⟩) (fun h => ⟨by rw [tm, decide_eq_false (by omega)], rfl⟩))
theorem ref13_Fits_ok {c0 c1 c2 c3 c4 : D} {c : Cf} (h : ∀ s, CfAt s c0 c1 c2 c3 c4 c) {k0 k1 k2 k3 k4 k5 : D} {k : Co} (hk : CoAt σ k0 k1 k2 k3 k4 k5 k) (b : Bool) :
    Pure Tryz.prog n_ref13_Fits [cfA c0 c1 c2 c3 c4 c, coA k0 k1 k2 k3 k4 k5 b] σ (.a (bA (k.fits c))) := by
  have l0 := hk.own.size
  have l1 := hk.routes.size
  have l2 := hk.points.size
  have l3 := hk.xs.size
  have l4 := hk.lines.size
  have l5 := hk.resets.size
  simp only [List.length_map] at l0 l1 l2 l3 l4 l5
  refine .of (W_ref13_Fits _ _ _ _ _ _ _ _ _ k0 k1 k2 k3 k4 k5 b σ _ ((h σ).secs.lenK ?_)) (flat_b _)
  intro R hR
  refine (ref06_Check_ok h).use ⟨_, rfl, ?_⟩
  obtain ⟨rows, hat, hlen, hrow⟩ := rts_froz fun s => (h s).rts
  have hl := (hat σ).size
  have bad : k.lens c = false → ∀ s, Ext σ s → (RV.a (.one (.bool false)) = .a (bA (k.fits c)) ∧ Ext σ s) := fun hb s he => ⟨by simp [Co.fits, hb], he⟩
  have nl : ¬ (k.Own.length = c.Secs.length ∧ k.Points.length = c.Secs.length ∧ k.Resets.length = c.Secs.length ∧ k.Routes.length = c.Rts.length ∧ k.Xs.length = c.Xs.length ∧ k.Lines.length = 4) → k.lens c = false := fun hn => by
    rw [Co.lens, decide_eq_false hn]
  refine bcn (fun hc => ⟨by simp [Co.fits, hc], .refl _⟩) (fun hc => ?_)
  simp only [List.length_map]
  refine hk.own.lenK (bcn (fun e => bad (nl fun g => by simp only [List.length_map] at e; omega) _ (.refl _)) (fun e0 => ?_))
  refine hk.points.lenK (bcn (fun e => bad (nl fun g => by simp only [List.length_map] at e; omega) _ (.refl _)) (fun e1 => ?_))
  refine hk.resets.lenK (bcn (fun e => bad (nl fun g => by simp only [List.length_map] at e; omega) _ (.refl _)) (fun e2 => ?_))
  refine hk.routes.lenK ((hat σ).lenK (bcn (fun e => bad (nl fun g => by simp only [List.length_map] at e; omega) _ (.refl _)) (fun e3 => ?_)))
  refine hk.xs.lenK ((h σ).xs.lenK (bcn (fun e => bad (nl fun g => by simp only [List.length_map] at e; omega) _ (.refl _)) (fun e4 => ?_)))
  refine hk.lines.lenK (bcn (fun e => bad (nl fun g => by simp only [List.length_map] at e; omega) _ (.refl _)) (fun e5 => hR σ ?_))
  simp only [List.length_map] at e0 e1 e2 e3 e4 e5
  have hL : k.lens c = true := decide_eq_true ⟨by omega, by omega, by omega, by omega, by omega, by omega⟩
  have hfit : k.fits c = k.parts c := by simp [Co.fits, hc, hL]
  rw [hfit]
  obtain ⟨_, s1, s2, s3, _, _⟩ := check_small hc
  clear bad nl hfit hL hR
  unfold Co.parts
  -- owners
  refine hk.own.lenK ⟨fun n s => s = σ ∧ Rng k.Own (fun r => (r.all fun o => decide (-2 ≤ o ∧ o ≤ (c.Rts.length : Int))) = k.Own.all fun o => decide (-2 ≤ o ∧ o ≤ (c.Rts.length : Int))) n, fun n _ => k.Own.length - n.toNat, ⟨rfl, .start rfl⟩, ?_⟩
  rintro n τ ⟨rfl, hr⟩
  refine bcd (fun hlt => ?_) (fun hge => ?_)
  · obtain ⟨j, x, rfl, hx, hj, hF, nx⟩ := hr.step (by simp) l0 hlt
    rw [List.all_cons] at hF
    have no : ¬ (-2 ≤ x ∧ x ≤ (c.Rts.length : Int)) → (RV.a (.one (.bool false)) = .a (bA ((k.Own.all fun o => decide (-2 ≤ o ∧ o ≤ (c.Rts.length : Int))) && ((k.Routes.zip c.Rts).all Rs.fits && ((k.Points ++ k.Xs).all Mv.fits && (k.Lines.all Ls.fits && k.Resets.all (tm 1)))))) ∧ Ext τ τ) := fun hn => by
      rw [decide_eq_false hn] at hF
      exact ⟨by rw [← hF]; rfl, .refl _⟩
    refine hk.own.load (map_get hx) c_int rfl ⟨x, rfl, bcd (fun e => no (by omega)) (fun g1 => (hat τ).lenK (bcd (fun e => no (by omega)) (fun g2 => ?_)))⟩
    rw [decide_eq_true ⟨by omega, by omega⟩, Bool.true_and] at hF
    exact andl rfl (nx _ hF)
  have hF0 := hr.done (by simp) hge
  rw [← hF0]
  show (∃ len2 : Nat, _)
  simp only [List.all_nil, Bool.true_and]
  clear hF0 hr hge
  -- routes
  have lz : (k.Routes.zip c.Rts).length = k.Routes.length := by rw [List.length_zip]; omega
  refine hk.routes.lenK ⟨fun n s => s = τ ∧ Rng (k.Routes.zip c.Rts) (fun r => r.all Rs.fits = (k.Routes.zip c.Rts).all Rs.fits) n, fun n _ => (k.Routes.zip c.Rts).length - n.toNat, ⟨rfl, .start rfl⟩, ?_⟩
  rintro n s ⟨rfl, hr⟩
  refine bcd (fun hlt => ?_) (fun hge => ?_)
  · obtain ⟨j, x, rfl, hx, hj, hF, nx⟩ := hr.step (by rw [List.length_map, lz]) (by omega) hlt
    obtain ⟨g1, g2⟩ := List.getElem?_zip_eq_some.1 hx
    rw [List.all_cons] at hF
    have bad : Rs.fits x = false → (RV.a (.one (.bool false)) = .a (bA ((k.Routes.zip c.Rts).all Rs.fits && ((k.Points ++ k.Xs).all Mv.fits && (k.Lines.all Ls.fits && k.Resets.all (tm 1))))) ∧ Ext s s) := fun hb => by
      rw [hb, Bool.false_and] at hF
      exact ⟨by rw [← hF]; rfl, .refl _⟩
    have hfx : Rs.fits x = (decide (0 ≤ x.1.State ∧ x.1.State ≤ 5) && decide (0 ≤ x.1.Next ∧ x.1.Next ≤ x.2.Path.length) && (tm 0 x.1.Since && tm 0 x.1.Mark)) := rfl
    refine hk.routes.load (map_get g1) c_RouteState rfl ⟨x.1.State, x.1.Since, x.1.Next, x.1.Mark, rfl, bcd (fun e => bad (by rw [hfx, decide_eq_false (p := 0 ≤ x.1.State ∧ _) (by omega)]; rfl)) (fun t1 => bcd (fun e => bad (by rw [hfx, decide_eq_false (p := 0 ≤ x.1.State ∧ _) (by omega)]; rfl)) (fun t2 => bcd (fun e => bad (by rw [hfx, decide_eq_false (p := 0 ≤ x.1.Next ∧ _) (by omega)]; simp)) (fun t3 => ?_)))⟩
    obtain ⟨row, hrw⟩ := get_of_lt (l := rows) (j := j) (by rw [lz] at hj; omega)
    obtain ⟨d1, d2, d3, rfl, q1, q2, q3⟩ := hrow j row x.2 hrw g2
    refine (hat s).load hrw c_Route rfl ⟨d1, rfl, (q1 s).lenK ?_⟩
    rw [List.length_map]
    refine bcd (fun e => bad (by rw [hfx, decide_eq_false (p := 0 ≤ x.1.Next ∧ _) (by omega)]; simp)) (fun t4 => (ref13_Time_ok _).use ⟨_, rfl, bcnot (fun e => bad (by rw [hfx, e]; simp)) (fun t5 => (ref13_Time_ok _).use ⟨_, rfl, bcnot (fun e => bad (by rw [hfx, e]; simp)) (fun t6 => ?_)⟩)⟩)
    rw [hfx, decide_eq_true ⟨by omega, by omega⟩, decide_eq_true ⟨by omega, by omega⟩, t5, t6] at hF
    exact andl rfl (nx (fun r => r.all Rs.fits = (k.Routes.zip c.Rts).all Rs.fits) hF)
  have hF0 := hr.done (by rw [List.length_map, lz]) hge
  rw [← hF0]
  simp only [List.all_nil, Bool.true_and]
  clear hF0 hr hge
  -- movers
  refine copy_ok hk.points (by rw [List.length_map]; omega) fun d sa oa => (oa.append (hk.xs.ext oa.ext) (by simp only [List.length_map]; omega) (by simp only [List.length_map]; omega) fun d1 s3 ho _ _ => ?_)
  rw [← List.map_append] at ho
  have he3 := ho.ext
  have lm : (k.Points ++ k.Xs).length < 2 ^ 60 := by rw [List.length_append]; omega
  refine ho.at_.lenK ⟨fun n s' => s' = s3 ∧ Rng (k.Points ++ k.Xs) (fun r => r.all Mv.fits = (k.Points ++ k.Xs).all Mv.fits) n, fun n _ => (k.Points ++ k.Xs).length - n.toNat, ⟨rfl, .start rfl⟩, ?_⟩
  rintro n s4 ⟨rfl, hr⟩
  refine bcd (fun hlt => ?_) (fun hge => ?_)
  · obtain ⟨j, x, rfl, hx, hj, hF, nx⟩ := hr.step (by simp) lm hlt
    rw [List.all_cons] at hF
    have no : x.fits = false → (RV.a (.one (.bool false)) = .a (bA ((k.Points ++ k.Xs).all Mv.fits && (k.Lines.all Ls.fits && k.Resets.all (tm 1)))) ∧ Ext s s4) := fun hn => by
      rw [hn] at hF
      exact ⟨by rw [← hF]; rfl, he3⟩
    have go : x.fits = true → _ := fun hn => by
      rw [hn, Bool.true_and] at hF
      exact andl (rfl : s4 = s4) (nx (fun r => r.all Mv.fits = (k.Points ++ k.Xs).all Mv.fits) hF)
    have hfx : x.fits = (decide (0 ≤ x.Cmd ∧ x.Cmd ≤ 2) && decide (-1 ≤ x.Other ∧ x.Other ≤ 4294967295)) := rfl
    refine ho.at_.load (map_get hx) c_Mover rfl ⟨x.Cmd, x.Other, rfl, bcd (fun e => no (by rw [hfx, decide_eq_false (by omega)]; rfl)) (fun t1 => bcd (fun e => no (by rw [hfx, decide_eq_false (by omega)]; rfl)) (fun t2 => ?_))⟩
    refine bcn (fun t3 => (ref13_Time_ok _).use ⟨_, rfl, bcnot (fun e => no ?_) (fun e => go ?_)⟩) (fun t3 => go (by rw [hfx, decide_eq_true ⟨by omega, by omega⟩, decide_eq_true ⟨by omega, by omega⟩]; rfl))
    · have := of_decide_eq_false e
      rw [hfx, decide_eq_false (p := -1 ≤ x.Other ∧ _) (by omega), Bool.and_false]
    · have := of_decide_eq_true e
      rw [hfx, decide_eq_true ⟨by omega, by omega⟩, decide_eq_true ⟨by omega, by omega⟩]; rfl
  have hF0 := hr.done (by simp) hge
  rw [← hF0]
  simp only [List.all_nil, Bool.true_and]
  clear hF0 hr hge
  -- resets
  refine (hk.resets.ext he3).lenK ⟨fun n s' => s' = s4 ∧ Rng k.Resets (fun r => r.all (tm 1) = k.Resets.all (tm 1)) n, fun n _ => k.Resets.length - n.toNat, ⟨rfl, .start rfl⟩, ?_⟩
  rintro n s5 ⟨rfl, hr⟩
  refine bcd (fun hlt => ?_) (fun hge => ?_)
  · obtain ⟨j, x, rfl, hx, hj, hF, nx⟩ := hr.step (by simp) l5 hlt
    rw [List.all_cons] at hF
    have no : ¬ (0 ≤ x ∧ x ≤ 4294967295 + 1) → (RV.a (.one (.bool false)) = .a (bA (k.Lines.all Ls.fits && k.Resets.all (tm 1))) ∧ Ext s s5) := fun hn => by
      rw [tm, decide_eq_false hn] at hF
      exact ⟨by rw [← hF, Bool.false_and, Bool.and_false], he3⟩
    refine (hk.resets.ext he3).load (map_get hx) c_int rfl ⟨x, rfl, bcd (fun e => no (by omega)) (fun g1 => bcd (fun e => no (by omega)) (fun g2 => ?_))⟩
    rw [tm, decide_eq_true ⟨by omega, by omega⟩, Bool.true_and] at hF
    exact andl rfl (nx _ hF)
  have hF0 := hr.done (by simp) hge
  rw [← hF0]
  simp only [List.all_nil, Bool.and_true]
  clear hF0 hr hge
  -- lines
  refine (hk.lines.ext he3).lenK ⟨fun n s' => s' = s5 ∧ Rng k.Lines (fun r => r.all Ls.fits = k.Lines.all Ls.fits) n, fun n _ => k.Lines.length - n.toNat, ⟨rfl, .start rfl⟩, ?_⟩
  rintro n s6 ⟨rfl, hr⟩
  refine bcd (fun hlt => ?_) (fun hge => ?_)
  · obtain ⟨j, x, rfl, hx, hj, hF, nx⟩ := hr.step (by simp) l4 hlt
    rw [List.all_cons] at hF
    have no : x.fits = false → (RV.a (.one (.bool false)) = .a (bA (k.Lines.all Ls.fits)) ∧ Ext s s6) := fun hn => by
      rw [hn] at hF
      exact ⟨by rw [← hF]; rfl, he3⟩
    have hfx : x.fits = ((tm 0 x.Ask && (tm 0 x.Done && (tm 0 x.Grant && (tm 0 x.Told && (tm 0 x.PAsk && (tm 0 x.PDone && tm 0 x.PGrant)))))) && tm 1 x.Since) := rfl
    refine (hk.lines.ext he3).load (map_get hx) c_LineState rfl ⟨x.Ask, x.Done, x.Grant, x.Told, x.PAsk, x.PDone, x.PGrant, x.Since, rfl, ?_⟩
    refine (ref13_Time_ok _).use ⟨_, rfl, bcnot (fun e => no (by rw [hfx, e]; rfl)) (fun t1 => ?_)⟩
    refine (ref13_Time_ok _).use ⟨_, rfl, bcnot (fun e => no (by rw [hfx, t1, e]; rfl)) (fun t2 => ?_)⟩
    refine (ref13_Time_ok _).use ⟨_, rfl, bcnot (fun e => no (by rw [hfx, t1, t2, e]; rfl)) (fun t3 => ?_)⟩
    refine (ref13_Time_ok _).use ⟨_, rfl, bcnot (fun e => no (by rw [hfx, t1, t2, t3, e]; rfl)) (fun t4 => ?_)⟩
    refine (ref13_Time_ok _).use ⟨_, rfl, bcnot (fun e => no (by rw [hfx, t1, t2, t3, t4, e]; rfl)) (fun t5 => ?_)⟩
    refine (ref13_Time_ok _).use ⟨_, rfl, bcnot (fun e => no (by rw [hfx, t1, t2, t3, t4, t5, e]; rfl)) (fun t6 => ?_)⟩
    refine (ref13_Time_ok _).use ⟨_, rfl, bcnot (fun e => no (by rw [hfx, t1, t2, t3, t4, t5, t6, e]; rfl)) (fun t7 => ?_)⟩
    refine bcd (fun e => no (by rw [hfx, tm, tm, tm, tm, tm, tm, tm, tm, decide_eq_false (p := 0 ≤ x.Since ∧ _) (by omega), Bool.and_false])) (fun t8 => bcd (fun e => no (by rw [hfx, tm, tm, tm, tm, tm, tm, tm, tm, decide_eq_false (p := 0 ≤ x.Since ∧ _) (by omega), Bool.and_false])) (fun t9 => ?_))
    have hs : tm 1 x.Since = true := decide_eq_true ⟨by omega, by omega⟩
    rw [hfx, t1, t2, t3, t4, t5, t6, t7, hs] at hF
    exact andl rfl (nx (fun r => r.all Ls.fits = k.Lines.all Ls.fits) hF)
  have hF0 := hr.done (by simp) hge
  rw [← hF0]
  exact ⟨rfl, he3⟩
end Go.Proofs.YtpanpagcgckeoaaGreat
end
section
set_option linter.unusedVariables false
set_option linter.unusedSimpArgs false
namespace Go.Fw
structure StOk (c : Cf) (r : Rt) (s : St) : Prop where
  sec : ∃ y, geti c.Secs s.Sec = some y ∧ (wpos (wayL y.Kind) s.In s.Out).isSome = true ∧ (r.Shunt = true → y.Line = 0)
theorem prunA_facts {c : Cf} (ht : topoOk c.Secs c.Jts = true) (r : Rt) (ex : Option Sg) : ∀ (l : List St) (a : Sg) (seen : List Int), prunA c r ex l a seen = true →
    (∀ s ∈ l, StOk c r s ∧ s.Sec ∉ seen) ∧ (l.map St.Sec).Nodup
  | [], a, seen, _ => ⟨fun s hs => by simp at hs, by simp⟩
  | s :: rest, a, seen, h => by
    rw [prunA, Bool.and_eq_true] at h
    obtain ⟨h1, h2⟩ := h
    obtain ⟨q1, q2⟩ := prunA_facts ht r ex rest _ _ h2
    unfold pstep at h1
    cases hn : nxt c.Jts a.Sec a.End_ with
    | none => rw [hn] at h1; cases h1
    | some p =>
      obtain ⟨q, i⟩ := p
      rw [hn] at h1
      obtain ⟨y, hy⟩ := nxt_sec ht hn
      simp only [hy, Option.getD_some, Bool.and_eq_true, decide_eq_true_eq, Bool.not_eq_true'] at h1
      obtain ⟨⟨⟨⟨⟨rfl, e2⟩, e3⟩, e4⟩, e5⟩, e6⟩ := h1
      refine ⟨fun x hx => ?_, ?_⟩
      · rcases List.mem_cons.1 hx with rfl | hx
        · refine ⟨⟨y, hy, e3, fun hs => ?_⟩, e4⟩
          rw [hs, Bool.true_and, decide_eq_false_iff_not] at e6
          exact Decidable.not_not.1 e6
        · obtain ⟨w1, w2⟩ := q1 x hx
          exact ⟨w1, fun hm => w2 (List.mem_cons_of_mem _ hm)⟩
      · rw [List.map_cons, List.nodup_cons]
        refine ⟨fun hm => ?_, q2⟩
        obtain ⟨x, hx, e⟩ := List.mem_map.1 hm
        exact (q1 x hx).2 (by rw [e]; simp)
structure RtOk (c : Cf) (r : Rt) : Prop where
  entry : ∃ a, geti c.Sigs r.Entry = some a
  exit_ : r.Exit = -1 ∨ ∃ x, geti c.Sigs r.Exit = some x
  len : 1 ≤ r.Path.length ∧ r.Path.length ≤ 8
  step : ∀ s ∈ r.Path, StOk c r s ∧ s.Sec ≠ c.approach r
  dup : (r.Path.map St.Sec).Nodup
  flank : r.Flank = c.flank (c.approach r) r.Path
  over : r.Overlap = c.overlap r
theorem routes_zero {c : Cf} : ∀ {l : List Rt}, c.routes l = 0 → ∀ r ∈ l, c.route r = 0
  | [], _, r, hr => by simp at hr
  | x :: l, h, r, hr => by
    rw [Cf.routes] at h
    split at h
    · rename_i hne; exact absurd h hne
    · rename_i he
      rcases List.mem_cons.1 hr with rfl | hr
      · simpa using he
      · exact routes_zero h r hr
theorem check_parts {c : Cf} (h : c.check = 0) : topoOk c.Secs c.Jts = true ∧ c.sigsOk = true ∧ c.xsOk = true ∧ c.Rts.length ≤ 12 ∧ c.routes c.Rts = 0 ∧ c.timing = true := by
  unfold Cf.check at h
  split at h
  · cases h
  split at h
  · cases h
  split at h
  · cases h
  split at h
  · cases h
  split at h
  · rename_i hne; exact absurd h hne
  split at h
  · rename_i h1 h2 h3 h4 h5 h6
    exact ⟨by simpa using h1, by simpa using h2, by simpa using h3, by omega, by simpa using h5, h6⟩
  · cases h
theorem path_ok {c : Cf} (ht : topoOk c.Secs c.Jts = true) {r : Rt} (h : c.route r = 0) : RtOk c r := by
  unfold Cf.route at h
  split at h
  · cases h
  split at h
  · cases h
  split at h
  · cases h
  rename_i h1 h2 h3
  have h1 : c.path r = true := by simpa using h1
  unfold Cf.path at h1
  cases hg : geti c.Sigs r.Entry with
  | none => rw [hg] at h1; cases h1
  | some a =>
    rw [hg] at h1
    simp only [Bool.and_eq_true, Bool.or_eq_true, decide_eq_true_eq] at h1
    obtain ⟨⟨e1, e2⟩, e3⟩ := h1
    obtain ⟨q1, q2⟩ := prunA_facts ht r _ _ _ _ e3
    have ha : c.approach r = a.Sec := by rw [Cf.approach, hg]; rfl
    refine ⟨⟨a, hg⟩, e1.imp id Option.isSome_iff_exists.1, e2, fun s hs => ⟨(q1 s hs).1, fun e => (q1 s hs).2 (by rw [e, ha]; simp)⟩, q2, Decidable.not_not.1 h2, Decidable.not_not.1 h3⟩
theorem check_rt {c : Cf} (h : c.check = 0) {r : Rt} (hr : r ∈ c.Rts) : RtOk c r := by
  obtain ⟨h1, _, _, _, h5, _⟩ := check_parts h
  exact path_ok h1 (routes_zero h5 r hr)
structure NdOk (c : Cf) (a : Int) (path : List St) (n : Nd) : Prop where
  sec : ∃ y, geti c.Secs n.Sec = some y ∧ y.Kind = 1
  pos : 1 ≤ n.Pos ∧ n.Pos ≤ 2
  app : n.Sec ≠ a
  path : hasSec path n.Sec = false
def FlOk (c : Cf) (a : Int) (path : List St) (out : List Nd) : Prop := (∀ n ∈ out, NdOk c a path n) ∧ (out.map Nd.Sec).Nodup
theorem flankStep_ok {c : Cf} {a : Int} {p : List St} {s : St} {out : List Nd} {e : Int} (h : FlOk c a p out) : FlOk c a p (flankStep c a p s out e) := by
  unfold flankStep
  split
  · exact h
  · split
    · exact h
    · split
      · exact h
      · rename_i y hy
        split
        · rename_i hc
          obtain ⟨c1, c2, c3, c4, c5⟩ := hc
          refine ⟨fun n hn => ?_, ?_⟩
          · rcases List.mem_append.1 hn with hn | hn
            · exact h.1 n hn
            · rw [List.mem_singleton] at hn; subst hn
              exact ⟨⟨y, hy, c1⟩, by simp only; omega, c3, c4⟩
          · rw [List.map_append, List.nodup_append]
            refine ⟨h.2, by simp, fun x hx z hz => ?_⟩
            simp only [List.map_cons, List.map_nil, List.mem_singleton] at hz
            subst hz
            intro e
            obtain ⟨n, hn, e2⟩ := List.mem_map.1 hx
            rw [List.any_eq_false] at c5
            exact c5 n hn (by rw [e2, e]; simp)
        · exact h
theorem flankEnds_ok {c : Cf} {a : Int} {p : List St} {s : St} : ∀ (n : Nat) (e : Int) (out : List Nd), FlOk c a p out → FlOk c a p (flankEnds c a p s n e out)
  | 0, _, _, h => h
  | n + 1, e, out, h => by rw [flankEnds]; exact flankEnds_ok n _ _ (flankStep_ok h)
theorem flankRun_ok {c : Cf} {a : Int} {p : List St} : ∀ (l : List St) (out : List Nd), FlOk c a p out → FlOk c a p (flankRun c a p l out)
  | [], _, h => h
  | s :: r, out, h => by
    rw [flankRun]
    refine flankRun_ok r _ ?_
    split
    · exact h
    · exact flankEnds_ok _ _ _ h
theorem flank_ok (c : Cf) (a : Int) (p : List St) : FlOk c a p (c.flank a p) := flankRun_ok p [] ⟨fun n h => by simp at h, by simp⟩
theorem flank_len (c : Cf) (a : Int) (p : List St) : (c.flank a p).length ≤ 4 * p.length := by
  have := (flankRun_len c a p p []).2
  simpa [Cf.flank] using this
theorem over_ok {c : Cf} {r : Rt} {q : Int} (h : q ∈ c.overlap r) : (∃ y, geti c.Secs q = some y ∧ y.Line = 0) ∧ hasSec r.Path q = false ∧ q ≠ c.approach r := by
  unfold Cf.overlap at h
  split at h
  · simp at h
  split at h
  · simp at h
  split at h
  · simp at h
  split at h
  · simp at h
  rename_i y hy
  split at h
  · rename_i hc
    rw [List.mem_singleton] at h; subst h
    exact ⟨⟨y, hy, hc.1⟩, hc.2.1, hc.2.2⟩
  · simp at h
theorem over_len (c : Cf) (r : Rt) : (c.overlap r).length ≤ 1 := by
  unfold Cf.overlap
  split
  · simp
  split
  · simp
  split
  · simp
  split
  · simp
  split <;> simp
theorem RtOk.fl {c : Cf} {r : Rt} (h : RtOk c r) : FlOk c (c.approach r) r.Path r.Flank := by rw [h.flank]; exact flank_ok _ _ _
theorem RtOk.flen {c : Cf} {r : Rt} (h : RtOk c r) : r.Flank.length ≤ 32 := by
  rw [h.flank]; have := flank_len c (c.approach r) r.Path; have := h.len; omega
theorem RtOk.olen {c : Cf} {r : Rt} (h : RtOk c r) : r.Overlap.length ≤ 1 := by rw [h.over]; exact over_len _ _
theorem RtOk.ov {c : Cf} {r : Rt} (h : RtOk c r) {q : Int} (hq : q ∈ r.Overlap) : (∃ y, geti c.Secs q = some y ∧ y.Line = 0) ∧ hasSec r.Path q = false ∧ q ≠ c.approach r := by rw [h.over] at hq; exact over_ok hq
theorem check_xs {c : Cf} (h : c.check = 0) : (∀ x ∈ c.Xs, ∃ s, geti c.Secs x = some s ∧ s.Line = 0) ∧ c.Xs.Nodup ∧ c.Xs.length ≤ 4 := by
  obtain ⟨_, _, h3, _⟩ := check_parts h
  rw [Cf.xsOk, Bool.and_eq_true, xrun_iff] at h3
  exact ⟨h3.1.1, h3.1.2.1, of_decide_eq_true h3.2⟩
theorem geti_nat {α : Type} {l : List α} {j : Nat} : geti l (j : Int) = l[j]? := by unfold geti; rw [if_neg (by omega), Int.toNat_natCast]
end Go.Fw
namespace Go.Fw
end Go.Fw
end
section
set_option linter.unusedVariables false
set_option linter.unusedSimpArgs false
namespace Go.Fw
def zRt : Rt := ⟨0, 0, [], [], [], false⟩
def Cf.rt (c : Cf) (i : Int) : Rt := (geti c.Rts i).getD zRt
def needOf (c : Cf) (s : St) : Option Nd :=
  match geti c.Secs s.Sec with
  | none => none
  | some y => match wpos (wayL y.Kind) s.In s.Out with
    | none => none
    | some p => if p = 0 then none else some ⟨s.Sec, p⟩
def Cf.needs (c : Cf) (r : Rt) : List Nd := r.Path.filterMap (needOf c) ++ r.Flank
def Cf.Needs (c : Cf) (i : Int) : List Nd := c.needs (c.rt i)
def crossL (path : List St) : List Int → Nat → List Int
  | [], _ => []
  | x :: r, j => if hasSec path x = true then (j : Int) :: crossL path r (j + 1) else crossL path r (j + 1)
def Cf.Cross (c : Cf) (i : Int) : List Int := crossL (c.rt i).Path c.Xs 0
theorem rt_some {c : Cf} {i : Int} {r : Rt} (h : geti c.Rts i = some r) : c.rt i = r := by unfold Cf.rt; rw [h]; rfl
theorem rt_none {c : Cf} {i : Int} (h : geti c.Rts i = none) : c.rt i = zRt := by unfold Cf.rt; rw [h]; rfl
theorem crossL_len (path : List St) : ∀ (l : List Int) (j : Nat), (crossL path l j).length ≤ l.length
  | [], _ => by simp [crossL]
  | x :: r, j => by
    rw [crossL]; have := crossL_len path r (j + 1)
    split <;> simp <;> omega
theorem crossL_mem (path : List St) : ∀ (l : List Int) (j : Nat) (n : Int), n ∈ crossL path l j → ∃ (i : Nat) (x : Int), n = ((j + i : Nat) : Int) ∧ l[i]? = some x ∧ hasSec path x = true
  | [], j, n, h => by simp [crossL] at h
  | x :: r, j, n, h => by
    have go : n ∈ crossL path r (j + 1) → ∃ (i : Nat) (y : Int), n = ((j + i : Nat) : Int) ∧ (x :: r)[i]? = some y ∧ hasSec path y = true := fun h => by
      obtain ⟨i, y, h1, h2, h3⟩ := crossL_mem path r (j + 1) n h
      exact ⟨i + 1, y, by omega, by simpa using h2, h3⟩
    rw [crossL] at h
    split at h
    · rename_i hx
      rcases List.mem_cons.1 h with rfl | h
      · exact ⟨0, x, by simp, rfl, hx⟩
      · exact go h
    · exact go h
theorem needs_len (c : Cf) (r : Rt) : (c.needs r).length ≤ r.Path.length + r.Flank.length := by
  unfold Cf.needs
  rw [List.length_append]
  have := List.length_filterMap_le (needOf c) r.Path
  omega
theorem needs_sec {c : Cf} {r : Rt} (h : RtOk c r) {n : Nd} (hn : n ∈ c.needs r) : (∃ y, geti c.Secs n.Sec = some y) ∧ 1 ≤ n.Pos ∧ n.Pos ≤ 2 := by
  unfold Cf.needs at hn
  rcases List.mem_append.1 hn with hn | hn
  · obtain ⟨s, hs, e⟩ := List.mem_filterMap.1 hn
    obtain ⟨⟨y, hy, _⟩⟩ := (h.step s hs).1
    unfold needOf at e
    rw [hy] at e
    simp only at e
    cases hp : wpos (wayL y.Kind) s.In s.Out with
    | none => rw [hp] at e; cases e
    | some p =>
      rw [hp] at e
      simp only at e
      split at e
      · cases e
      · rename_i hp0
        injection e with e; subst e
        refine ⟨⟨y, hy⟩, ?_⟩
        have key : ∀ (l : List (Int × Int × Int)), (∀ w ∈ l, w.2.2 = 0 ∨ w.2.2 = 1 ∨ w.2.2 = 2) → ∀ p, wpos l s.In s.Out = some p → p = 0 ∨ p = 1 ∨ p = 2 := by
          intro l
          induction l with
          | nil => intro _ p h; cases h
          | cons w r ih =>
            intro hw p h
            rw [wpos] at h
            split at h
            · injection h with h; rw [← h]; exact hw w (by simp)
            · exact ih (fun w hw' => hw w (by simp [hw'])) p h
        have hw : ∀ w ∈ wayL y.Kind, w.2.2 = 0 ∨ w.2.2 = 1 ∨ w.2.2 = 2 := by
          unfold wayL
          split
          · simp
          split
          · simp
          split
          · simp
          · simp
        have := key _ hw p hp
        simp only
        omega
  · have := h.fl.1 n hn
    obtain ⟨y, hy, _⟩ := this.sec
    exact ⟨⟨y, hy⟩, this.pos⟩
end Go.Fw
end
section
set_option linter.unusedVariables false
set_option linter.unusedSimpArgs false
namespace Go.Proofs.YtpanpagcgckeoaaGreat
open Go.Fw Go.Proofs Go.RowKit
variable {σ : Store}
section
variable {c0 c1 c2 c3 c4 : D} {c : Cf} (h : ∀ s, CfAt s c0 c1 c2 c3 c4 c)
include h
theorem rt_frz {i : Nat} {x : Rt} (hx : c.Rts[i]? = some x) : ∃ rows d1 d2 d3, (∀ s, At Tryz.prog s t_Route c4 rows) ∧ rows.length = c.Rts.length ∧ rows[i]? = some [iD x.Entry, iD x.Exit, d1, d2, d3, .bool x.Shunt] ∧
    (∀ s, At Tryz.prog s t_Step d1 (x.Path.map St.enc)) ∧ (∀ s, At Tryz.prog s t_Need d2 (x.Flank.map Nd.enc)) ∧ (∀ s, At Tryz.prog s t_int d3 (x.Overlap.map Go.Fw.encI)) := by
  obtain ⟨rows, hat, hlen, hrow⟩ := rts_froz fun s => (h s).rts
  obtain ⟨row, hrw⟩ := get_of_lt (l := rows) (j := i) (by have := (List.getElem?_eq_some_iff.1 hx).1; omega)
  obtain ⟨d1, d2, d3, rfl, q1, q2, q3⟩ := hrow i row x hrw hx
  exact ⟨rows, d1, d2, d3, hat, hlen, hrw, q1, q2, q3⟩
theorem mover_route_ok (i : Int) : DCalls Tryz.prog n_mover_route [cfA c0 c1 c2 c3 c4 c, iA i] σ fun r s => s = σ ∧ ∃ d1 d2 d3, r = .tup [rtA d1 d2 d3 (c.rt i), bA (geti c.Rts i).isSome] ∧
    (∀ s, At Tryz.prog s t_Step d1 ((c.rt i).Path.map St.enc)) ∧ (∀ s, At Tryz.prog s t_Need d2 ((c.rt i).Flank.map Nd.enc)) ∧ (∀ s, At Tryz.prog s t_int d3 ((c.rt i).Overlap.map Go.Fw.encI)) := by
  have no : geti c.Rts i = none → (σ = σ ∧ ∃ d1 d2 d3, RV.tup [.agg [iD 0, iD 0, .nils, .nils, .nils, .bool false], bA false] = .tup [rtA d1 d2 d3 (c.rt i), bA (geti c.Rts i).isSome] ∧
    (∀ s, At Tryz.prog s t_Step d1 ((c.rt i).Path.map St.enc)) ∧ (∀ s, At Tryz.prog s t_Need d2 ((c.rt i).Flank.map Nd.enc)) ∧ (∀ s, At Tryz.prog s t_int d3 ((c.rt i).Overlap.map Go.Fw.encI))) := fun e => by
    rw [rt_none e, e]
    exact ⟨rfl, _, _, _, rfl, fun _ => .nil, fun _ => .nil, fun _ => .nil⟩
  obtain ⟨rows, hat, hlen⟩ := rts_len (h σ)
  refine W_mover_route _ _ _ _ _ _ _ _ _ i σ _ (bcd (fun e => no (geti_neg e)) (fun e0 => hat.lenK (bcd (fun e => no (geti_ge (by omega))) (fun e1 => ?_))))
  obtain ⟨x, hx⟩ := geti_ex (l := c.Rts) (i := i) e0 (by omega)
  obtain ⟨rows, d1, d2, d3, hat, hlen, hrow, q1, q2, q3⟩ := rt_frz h (geti_some hx).2.2
  refine (hat σ).load hrow c_Route (by omega) ⟨_, _, _, _, _, _, rfl, ?_⟩
  rw [rt_some hx, hx]
  exact ⟨rfl, _, _, _, rfl, q1, q2, q3⟩
theorem mover_Needs_ok (i : Int) (h1 : (c.rt i).Path.length ≤ 2 ^ 20) (h2 : (c.rt i).Flank.length ≤ 2 ^ 20) :
    DCalls Tryz.prog n_mover_Needs [cfA c0 c1 c2 c3 c4 c, iA i] σ (SlPost σ t_Need ((c.Needs i).map Nd.enc)) := by
  refine (W_mover_Needs _ _ _ _ _ _ _ _ _ i σ _ ?_).ret (Q := fun r s => ∃ r' σ', Ret Tryz.prog σ s r σ' r' ∧ SlPost σ t_Need ((c.Needs i).map Nd.enc) r' σ') (fun r s h => h)
  refine (mover_route_ok h i).mono ?_
  rintro r s ⟨rfl, d1, d2, d3, rfl, q1, q2, q3⟩
  rw [Cf.Needs]
  generalize c.rt i = x at *
  refine ⟨_, _, _, _, _, _, _, rfl, (q1 s).lenK ⟨fun d n s' => ∃ out : List Nd, Own Tryz.prog s s' t_Need d (out.map Nd.enc) ∧ (out.length : Int) ≤ n ∧ Rng x.Path (fun r => out ++ r.filterMap (needOf c) = x.Path.filterMap (needOf c)) n,
    fun _ n _ => x.Path.length - n.toNat, ⟨[], .nil _ (.refl _), by simp, .start rfl⟩, ?_⟩⟩
  rintro d n s' ⟨out, ho, hol, hr⟩
  rw [List.length_map]
  refine bcd (fun hlt => ?_) (fun hge => ?_)
  · obtain ⟨j, y, rfl, hy, hj, hF, nx⟩ := hr.step rfl (by omega) hlt
    rw [List.filterMap_cons] at hF
    have skip : needOf c y = none → ∀ s2, Ext s' s2 → (∃ out : List Nd, Own Tryz.prog s s2 t_Need d (out.map Nd.enc) ∧ (out.length : Int) ≤ w64 ((j : Int) + 1) ∧ Rng x.Path (fun r => out ++ r.filterMap (needOf c) = x.Path.filterMap (needOf c)) (w64 ((j : Int) + 1))) ∧
        x.Path.length - (w64 ((j : Int) + 1)).toNat < x.Path.length - (j : Int).toNat := fun hn s2 he => by
      rw [hn] at hF
      have := nx (fun r => out ++ r.filterMap (needOf c) = x.Path.filterMap (needOf c)) hF
      exact ⟨⟨out, ho.ext' he, by rw [w64_succ (by omega)]; omega, this.1⟩, this.2⟩
    refine (q1 s').load (map_get hy) c_Step rfl ⟨y.Sec, y.In, y.Out, rfl, bcd (fun e => ⟨rfl, skip (by unfold needOf; rw [geti_neg e]) _ (.refl _)⟩) (fun e0 => (h s').secs.lenK ?_)⟩
    rw [List.length_map]
    refine bcd (fun e => ⟨rfl, skip (by unfold needOf; rw [geti_ge e]) _ (.refl _)⟩) (fun e1 => ?_)
    obtain ⟨z, hz⟩ := geti_ex e0 e1
    have hneed : needOf c y = match wpos (wayL z.Kind) y.In y.Out with | none => none | some p => if p = 0 then none else some ⟨y.Sec, p⟩ := by unfold needOf; rw [hz] <;> rfl
    refine (h s').secs.load (map_get (geti_some hz).2.2) c_Section (by omega) ⟨z.Kind, rfl, (topo_Pos_ok _ _ _).use (opt1_ex _ ?_)⟩
    cases hp : wpos (wayL z.Kind) y.In y.Out with
    | none => rw [hp] at hneed; exact bc (fun e => by cases e) (fun _ => ⟨rfl, skip hneed _ (.refl _)⟩)
    | some p =>
      rw [hp] at hneed
      refine bc (fun _ => bcn (fun e => ?_) (fun e => ⟨rfl, skip (by rw [hneed]; exact if_pos e) _ (.refl _)⟩)) (fun e => by cases e)
      have hsome : needOf c y = some ⟨y.Sec, p⟩ := by rw [hneed]; exact if_neg e
      rw [hsome] at hF
      refine newObj_intro fun id s2 hid _ he hs2 => (ho.ext' he).append (At.fresh hs2 (by simp) rfl) (by simp; omega) (by simp; omega) fun d4 s5 ho5 _ _ => ⟨rfl, ?_⟩
      have := nx (fun r => (out ++ [⟨y.Sec, p⟩]) ++ r.filterMap (needOf c) = x.Path.filterMap (needOf c)) (by rw [List.append_assoc]; exact hF)
      exact ⟨⟨out ++ [⟨y.Sec, p⟩], by rw [List.map_append]; exact ho5, by rw [w64_succ (by omega), List.length_append, List.length_singleton]; omega, this.1⟩, this.2⟩
  · have hF := hr.done rfl hge
    have hn : n ≤ x.Path.length := by obtain ⟨j, rfl, hj, _⟩ := hr; omega
    rw [List.filterMap_nil, List.append_nil] at hF
    subst hF
    refine ho.append (q2 s') (by simp only [List.length_map]; omega) (by simp only [List.length_map]; omega) fun d4 s5 ho5 _ _ => ?_
    rw [← List.map_append] at ho5
    exact own_fin ho5 (flatNd _)
theorem mover_Crossings_ok (i : Int) (h1 : c.Xs.length ≤ 2 ^ 20) :
    DCalls Tryz.prog n_mover_Crossings [cfA c0 c1 c2 c3 c4 c, iA i] σ (SlPost σ t_int ((c.Cross i).map Go.Fw.encI)) := by
  refine (W_mover_Crossings _ _ _ _ _ _ _ _ _ i σ _ ?_).ret (Q := fun r s => ∃ r' σ', Ret Tryz.prog σ s r σ' r' ∧ SlPost σ t_int ((c.Cross i).map Go.Fw.encI) r' σ') (fun r s h => h)
  refine (mover_route_ok h i).mono ?_
  rintro r s ⟨rfl, d1, d2, d3, rfl, q1, q2, q3⟩
  rw [Cf.Cross]
  generalize c.rt i = x at *
  refine ⟨_, _, _, _, _, _, _, rfl, (h s).xs.lenK ⟨fun d n s' => ∃ out : List Int, Own Tryz.prog s s' t_int d (out.map Go.Fw.encI) ∧ (out.length : Int) ≤ n ∧ Rng c.Xs (fun r => out ++ crossL x.Path r n.toNat = crossL x.Path c.Xs 0) n,
    fun _ n _ => c.Xs.length - n.toNat, ⟨[], .nil _ (.refl _), by simp, .start rfl⟩, ?_⟩⟩
  rintro d n s' ⟨out, ho, hol, hr⟩
  rw [List.length_map]
  refine bcd (fun hlt => ?_) (fun hge => ?_)
  · obtain ⟨j, y, rfl, hy, hj, hF, nx⟩ := hr.step rfl (by omega) hlt
    have hw : w64 ((j : Int) + 1) = ((j + 1 : Nat) : Int) := w64_succ (by omega)
    have go : ∀ out2 d2 s2, out2 ++ crossL x.Path (c.Xs.drop (j + 1)) (j + 1) = crossL x.Path c.Xs 0 → Own Tryz.prog s s2 t_int d2 (out2.map Go.Fw.encI) → out2.length ≤ j + 1 → (∃ out : List Int, Own Tryz.prog s s2 t_int d2 (out.map Go.Fw.encI) ∧ (out.length : Int) ≤ w64 ((j : Int) + 1) ∧ Rng c.Xs (fun r => out ++ crossL x.Path r (w64 ((j : Int) + 1)).toNat = crossL x.Path c.Xs 0) (w64 ((j : Int) + 1))) ∧
        c.Xs.length - (w64 ((j : Int) + 1)).toNat < c.Xs.length - (j : Int).toNat := fun out2 d2 s2 he ho2 hl => by
      have := nx (fun r => out2 ++ crossL x.Path r (w64 ((j : Int) + 1)).toNat = crossL x.Path c.Xs 0) (by rw [hw, Int.toNat_natCast]; exact he)
      exact ⟨⟨out2, ho2, by rw [hw]; omega, this.1⟩, this.2⟩
    rw [Int.toNat_natCast, crossL] at hF
    refine (h s').xs.load (map_get hy) c_int rfl ⟨y, rfl, newObj_intro fun id s2 hid _ he hs2 => box_store hs2 fun s3 hs3 hs3' => ?_⟩
    have he3 : Ext s' s3 := fun i hi => by
      rw [hs3' i (fun e => hi (by rw [e]; exact hid))]; exact he i hi
    have ho3 := ho.ext' he3
    refine (ContainsFunc_Step_ok (p := fun x => x.Sec == y) (q1 s3) (cap_fn hs3 fun x _ => W_mover_Crossings_1 x.Sec x.In x.Out _ s3 _ ⟨_, _, _, rfl, _, box_row hs3, y, rfl, rfl, rfl⟩)).use ⟨_, rfl, ?_⟩
    refine bc (fun e => ?_) (fun e => ⟨rfl, go out _ _ (by rw [if_neg (fun g => by have : hasSec x.Path y = false := e; rw [this] at g; cases g)] at hF; exact hF) ho3 (by omega)⟩)
    rw [if_pos (show hasSec x.Path y = true from e)] at hF
    refine newObj_intro fun id1 s4 hid1 _ he4 hs4 => (ho3.ext' he4).append (At.fresh hs4 (by simp) rfl) (by simp; omega) (by simp; omega) fun d4 s5 ho5 _ _ => ⟨rfl, go (out ++ [(j : Int)]) _ _ (by rw [List.append_assoc]; exact hF) (by rw [List.map_append]; exact ho5) (by simp; omega)⟩
  · have hF := hr.done rfl hge
    rw [crossL, List.append_nil] at hF
    subst hF
    exact own_fin ho (flatI _)
end
end Go.Proofs.YtpanpagcgckeoaaGreat
end
section
set_option linter.unusedVariables false
set_option linter.unusedSimpArgs false
namespace Go.Fw
structure Br where
  Kind : Int
  Route : Int
  Sec : Int
  deriving DecidableEq
def Br.enc (b : Br) : List D := [iD b.Kind, iD b.Route, iD b.Sec]
end Go.Fw
end
section
set_option linter.unusedVariables false
set_option linter.unusedSimpArgs false
namespace Go.Proofs.YtpanpagcgckeoaaGreat
open Go.Fw Go.Proofs Go.RowKit
variable {σ : Store}
theorem Contains_int_ok {d : D} {l : List Int} (v : Int) (h : At Tryz.prog σ t_int d (l.map Go.Fw.encI)) : Pure Tryz.prog n_slices_Contains_int [.one d, iA v] σ (.a (bA (inL l v))) := by
  refine W_slices_Contains_int d v σ _ ((slices_Index_int_ok v h).use ⟨_, rfl, ?_, rfl⟩)
  have key : ∀ (l : List Int) (j : Nat), decide (idxOf l v j ≥ 0) = inL l v := by
    intro l
    induction l with
    | nil => intro j; simp [idxOf, inL]
    | cons x r ih =>
      intro j
      rw [idxOf]
      by_cases hx : v = x
      · rw [if_pos hx]; simp [inL, hx]
      · rw [if_neg hx, ih, inL, inL]; simp [hx]
  rw [key]
section
variable {c0 c1 c2 c3 c4 : D} {c : Cf} {k0 k1 k2 k3 k4 k5 : D} {k : Co} {σ0 : Store} {b : Bool} {id : Nat} {d : D} {out : List Br}
variable (hc : ∀ s, CfAt s c0 c1 c2 c3 c4 c) (hk : CoAt σ0 k0 k1 k2 k3 k4 k5 k) (hfit : k.fits c = true)
include hc hk hfit
end
end Go.Proofs.YtpanpagcgckeoaaGreat
end
section
set_option linter.unusedVariables false
set_option linter.unusedSimpArgs false
namespace Go.Fw
open Go.Shelf Go.Sort Go.Proofs
variable {P : Program} {ρ : Ren} {σ : Store}
def intRow (z : Int) : List D := [.int .i64 z]
def sorted (l : List Int) : List Int := l.mergeSort fun x y => decide (x ≤ y)
theorem ints_over {k : Nat → Prop} {β : Bk} {W : World} (hS : SRel P k β W σ) {id i0 : Nat} {t : TypeId} {rows : List (List D)} {ys : List Int} {bi : BI} (ht : P.cellsOf t = 1) (hl : σ id = .live t rows) (hb : β id = some bi)
    (hfit : i0 + ys.length ≤ rows.length) (n : Nat) (os : Array Obj) :
    SRel P k β (grow (putRow (Value.int .i64) (Sort.ahead W n) bi.blk (i0 * bi.es) ys.toArray) os) (σ.set id (.live t (rows.take i0 ++ ys.map intRow ++ rows.drop (i0 + ys.length)))) ∧
    Ghost k β σ W k β (σ.set id (.live t (rows.take i0 ++ ys.map intRow ++ rows.drop (i0 + ys.length)))) ∧
    Frm β σ W (grow (putRow (Value.int .i64) (Sort.ahead W n) bi.blk (i0 * bi.es) ys.toArray) os) := by
  obtain ⟨arr, g1, g2, g3, g4, g5, g6, g7⟩ := hS.obj id bi t rows hb hl
  have hes : bi.es = 1 := by rw [← g3, ht]
  have hsz2 : i0 + ys.length ≤ arr.size := by rw [hes] at g4; omega
  have hov := hS.over hb hl g1 (ns := ys.map intRow) (vx := ys.map (Value.int .i64)) i0 (by omega) (by omega) (by simp [hes])
    (by
      have e : ∀ l : List Int, ((l.map intRow).flatten) = l.map (D.int .i64) := by
        intro l; induction l with
        | nil => rfl
        | cons x r ih => simp only [List.map_cons, List.flatten_cons, ih]; rfl
      rw [e]
      refine ⟨by simp, fun i v d hv hd => ?_⟩
      rw [List.getElem?_map] at hv hd
      cases hx : ys[i]? with
      | none => rw [hx] at hv; cases hv
      | some x => rw [hx] at hv hd; cases hv; cases hd; exact .int _ _)
    (by
      intro i r hr
      rw [List.getElem?_map] at hr
      cases hx : ys[i]? with
      | none => rw [hx] at hr; cases hr
      | some x => rw [hx] at hr; cases hr; rw [hes]; rfl)
    (by simp only [hes, List.length_map]; omega)
  have hrl : (ys.map intRow).length = ys.length := by rw [List.length_map]
  rw [hrl] at hov
  have hG : Grow (W.setRow bi.blk (arr.toList.take (i0 * bi.es) ++ ys.map (Value.int .i64) ++ arr.toList.drop (i0 * bi.es + (ys.map (Value.int .i64)).length)).toArray)
      (grow (putRow (Value.int .i64) (Sort.ahead W n) bi.blk (i0 * bi.es) ys.toArray) os) := by
    refine ⟨rfl, rfl, rfl, by rw [setRow_size]; simp, fun b hb => ?_⟩
    rw [setRow_size] at hb
    rw [heap_grow_old _ _ (by simpa using hb)]
    by_cases he : b = bi.blk
    · subst he
      rw [setRow_heap _ _ _ _ _ _ g1]
      simp only [putRow, mapBlock, heap_ahead, Array.getElem?_modify, if_true, g1, Option.map_some, onCells]
      congr 2
      apply Array.ext_getElem?
      intro m
      simp only [putCells, Array.getElem?_mapIdx, List.getElem?_toArray, hes, Nat.mul_one, List.length_map, List.size_toArray]
      by_cases c1 : m < i0
      · rw [List.getElem?_append_left (by simp; omega), List.getElem?_append_left (by simp; omega), List.getElem?_take, if_pos c1, Array.getElem?_toList, Array.getElem?_eq_getElem (by omega), Option.map_some, if_neg (by omega)]
      · by_cases c2 : m < i0 + ys.length
        · rw [List.getElem?_append_left (by simp; omega), List.getElem?_append_right (by simp; omega), Array.getElem?_eq_getElem (by omega), Option.map_some, if_pos ⟨by omega, by omega⟩]
          have hl1 : (arr.toList.take i0).length = i0 := by simp; omega
          have hk : m - i0 < ys.length := by omega
          rw [hl1, List.getElem?_map, List.getElem?_eq_getElem hk]
          simp [hk]
        · rw [List.getElem?_append_right (by simp; omega), List.getElem?_drop, Array.getElem?_toList]
          have hl1 : i0 + ys.length + (m - (arr.toList.take i0 ++ ys.map (Value.int .i64)).length) = m := by simp; omega
          rw [hl1]
          cases arr[m]? with
          | none => rfl
          | some y => rw [Option.map_some, if_neg (by omega)]
    · rw [setRow_get _ _ _ _ he]
      simp only [putRow, mapBlock, heap_ahead, Array.getElem?_modify]
      rw [if_neg (fun e => he e.symm)]
  have hne : σ id ≠ .dead := by rw [hl]; intro e; cases e
  refine ⟨hov.grow hG, ⟨fun _ h => h, fun _ h => .inl h, fun _ _ h => h, fun _ _ h => .inl h, fun i hi => ?_⟩, ?_⟩
  · rw [Store.set_ne _ _ (by intro e; subst e; exact hne hi)]; exact hi
  · refine ⟨hG.os, hG.tape, hG.output, by have := hG.size; rwa [setRow_size] at this, fun b hb' hn => ?_⟩
    rw [hG.block b (by rw [setRow_size]; exact hb'), setRow_get _ _ _ _ (fun e => hn id bi hb hne e.symm)]
theorem ints_hold {k : Nat → Prop} {β : Bk} {W : World} (hS : SRel P k β W σ) {id i0 : Nat} {t : TypeId} {rows : List (List D)} {zs : List Int} {bi : BI} (ht : P.cellsOf t = 1) (hl : σ id = .live t rows) (hb : β id = some bi)
    (hrows : (rows.drop i0).take zs.length = zs.map intRow) : Holds (Value.int .i64) W bi.blk (i0 * bi.es) zs.toArray := by
  obtain ⟨arr, g1, g2, g3, g4, g5, g6, g7⟩ := hS.obj id bi t rows hb hl
  have hes : bi.es = 1 := by rw [← g3, ht]
  have hget : ∀ j, j < zs.length → arr[i0 + j]? = some (Value.int .i64 (zs.getD j 0)) := by
    intro j hj
    have h1 : ((rows.drop i0).take zs.length)[j]? = some (intRow (zs.getD j 0)) := by rw [hrows]; simp [hj]
    rw [List.getElem?_take_of_lt hj, List.getElem?_drop] at h1
    obtain ⟨u, hu, hVu⟩ := g7 _ _ 0 (.int .i64 (zs.getD j 0)) h1 rfl
    rw [hes, Nat.mul_one, Nat.add_zero] at hu
    rw [hu]; cases hVu; rfl
  intro j hj
  have hj : j < zs.length := by simpa using hj
  refine ⟨?_, by simp [World.frozen?, g1]⟩
  have := hget j hj
  simp only [World.cell?, g1, hes, Nat.mul_one, Option.isSome_none, Bool.false_eq_true, if_false]
  rw [this]
  simp [hj]
theorem one_arg {k : Nat → Prop} {β : Bk} {W : World} {x : A} {vs : Array Value} (hvs : vs.size = [x].length) (hargs : ∀ (i : Nat) v y, vs[i]? = some v → [x][i]? = some y → VA k β W v y) : ∃ v, vs = #[v] ∧ VA k β W v x := by
  have hvs : vs.size = 1 := hvs
  obtain ⟨l⟩ := vs
  match l, hvs with
  | [v], _ => exact ⟨v, rfl, hargs 0 v x rfl rfl⟩
theorem sort_DCalls (Ly : Lays.n189 P ρ) {id i0 : Nat} {t : TypeId} {rows : List (List D)} {zs : List Int} (ht : P.cellsOf t = 1) (hl : σ id = .live t rows)
    (hfit : i0 + zs.length ≤ rows.length) (hrows : (rows.drop i0).take zs.length = zs.map intRow) (h0 : 0 < zs.length) (hsz : zs.length < 4611686018427387904) :
    DCalls P (ρ.f 189) [.one (.osl id i0 zs.length)] σ fun r σ' => r = .tup [] ∧ σ' = σ.set id (.live t (rows.take i0 ++ (sorted zs).map intRow ++ rows.drop (i0 + zs.length))) := by
  refine ⟨by unfold callOk; rw [Ly.f189]; rfl, fun k β W vs hS hvs hargs => ?_⟩
  obtain ⟨v, rfl, hV⟩ := one_arg hvs hargs
  have hV : V k β W v (.osl id i0 zs.length) := hV
  cases hV with
  | osl _ _ _ cap a bi hb ha hc hs =>
    have ha := ha (by omega)
    subst ha
    refine (calls_of_every_depth fun D => Go.Proofs.AnyS.slices_Sort_int_in Ly D bi.blk (i0 * bi.es) cap zs W (ints_hold hS ht hl hb hrows) (hS.blt id bi hb) hsz).mono ?_
    rintro e W' ⟨rfl, n, os, rfl⟩
    have hlen : (sorted zs).length = zs.length := by simp [sorted]
    obtain ⟨h1, h2, h3⟩ := ints_over hS (i0 := i0) (ys := sorted zs) ht hl hb (by omega) n os
    rw [hlen] at h1 h2
    exact ⟨.tuple #[], .tup [], _, k, β, rfl, ⟨rfl, rfl⟩, ⟨#[], rfl, rfl, fun i u x hu => by simp at hu⟩, h1, h2, h3⟩
theorem compact_DCalls (Ly : Lays2.n20 P ρ) {id i0 : Nat} {t : TypeId} {rows : List (List D)} {zs : List Int} (ht : P.cellsOf t = 1) (hl : σ id = .live t rows)
    (hfit : i0 + zs.length ≤ rows.length) (hrows : (rows.drop i0).take zs.length = zs.map intRow) (h0 : 0 < zs.length) (hsz : zs.length < 4611686018427387904) :
    DCalls P (ρ.f 20) [.one (.osl id i0 zs.length)] σ fun r σ' => r = .a (.one (.osl id i0 (Lib.compact zs).length)) ∧
      σ' = σ.set id (.live t (rows.take i0 ++ (Lib.compact zs ++ List.replicate (zs.length - (Lib.compact zs).length) 0).map intRow ++ rows.drop (i0 + zs.length))) := by
  refine ⟨by unfold callOk; rw [Ly.f20]; rfl, fun k β W vs hS hvs hargs => ?_⟩
  obtain ⟨v, rfl, hV⟩ := one_arg hvs hargs
  have hV : V k β W v (.osl id i0 zs.length) := hV
  cases hV with
  | osl _ _ _ cap a bi hb ha hc hs =>
    have ha := ha (by omega)
    subst ha
    refine (Go.Proofs.Any.slices_Compact_int Ly bi.blk (i0 * bi.es) cap zs W (ints_hold hS ht hl hb hrows) (by omega) hc).mono ?_
    rintro e W' ⟨rfl, n, rfl⟩
    have hle : (Lib.compact zs).length ≤ zs.length := by
      unfold Lib.compact Lib.compactUpTo
      rw [List.length_map]
      exact Nat.le_trans (List.length_filter_le _ _) (by simp)
    have hlen : (Lib.compact zs ++ List.replicate (zs.length - (Lib.compact zs).length) 0).length = zs.length := by simp; omega
    obtain ⟨h1, h2, h3⟩ := ints_over hS (i0 := i0) (ys := Lib.compact zs ++ List.replicate (zs.length - (Lib.compact zs).length) 0) ht hl hb (by omega) n #[]
    rw [hlen] at h1 h2
    rw [grow_empty] at h1 h3
    exact ⟨_, .a (.one (.osl id i0 (Lib.compact zs).length)), _, k, β, rfl, ⟨rfl, rfl⟩, .osl id i0 _ cap _ bi hb (fun _ => rfl) (by omega) hs, h1, h2, h3⟩
theorem sorted_perm (l : List Int) : (sorted l).Perm l := List.mergeSort_perm _ _
theorem sorted_pair (l : List Int) : (sorted l).Pairwise (· ≤ ·) := by
  have := List.pairwise_mergeSort (le := fun x y : Int => decide (x ≤ y)) (by intro a b c; simp; omega) (by intro a b; simp; omega) l
  exact this.imp fun h => by simpa using h
theorem compact_mem {zs : List Int} {z : Int} : z ∈ Lib.compact zs ↔ z ∈ zs := by
  unfold Lib.compact Lib.compactUpTo
  rw [List.mem_map]
  constructor
  · rintro ⟨j, hj, rfl⟩
    have hj := List.mem_range.1 (List.mem_filter.1 hj).1
    simp [hj]
  · intro hz
    obtain ⟨j, hj, e⟩ := List.getElem_of_mem hz
    have key : ∀ j, (hj : j < zs.length) → zs[j] = z → ∃ a, a ∈ List.filter (Lib.keeps zs.toArray) (List.range zs.length) ∧ zs.toArray[a]! = z := by
      intro j
      induction j with
      | zero => exact fun hj e => ⟨0, List.mem_filter.2 ⟨List.mem_range.2 hj, by simp [Lib.keeps]⟩, by simp [hj, e]⟩
      | succ j ih =>
        intro hj e
        by_cases h : zs[j]'(by omega) = z
        · exact ih (by omega) h
        · refine ⟨j + 1, List.mem_filter.2 ⟨List.mem_range.2 hj, Lib.keeps_pos ?_⟩, by simp [hj, e]⟩
          simp only [Nat.add_sub_cancel]
          have : j < zs.length := by omega
          simp only [List.getElem!_toArray, hj, this, getElem!_pos, e]
          exact fun h' => h h'.symm
    exact key j hj e
theorem compact_strict {zs : List Int} (h : zs.Pairwise (· ≤ ·)) : (Lib.compact zs).Pairwise (· < ·) := by
  unfold Lib.compact Lib.compactUpTo
  rw [List.pairwise_map]
  have hr : (List.filter (Lib.keeps zs.toArray) (List.range zs.length)).Pairwise (· < ·) := List.Pairwise.filter _ List.pairwise_lt_range
  refine hr.imp_of_mem ?_
  intro i j hi hj hij
  obtain ⟨h1, _⟩ := List.mem_filter.1 hi
  obtain ⟨h2, h3⟩ := List.mem_filter.1 hj
  have h1 := List.mem_range.1 h1
  have h2 := List.mem_range.1 h2
  have hm : j - 1 < zs.length := by omega
  have hne : zs[j]'h2 ≠ zs[j - 1]'hm := by
    intro e
    have : Lib.keeps zs.toArray j = false := Lib.keeps_neg (by omega) (by simp only [List.getElem!_toArray, h2, hm, getElem!_pos, e])
    rw [h3] at this; cases this
  have hle1 : zs[j - 1]'hm ≤ zs[j]'h2 := List.pairwise_iff_getElem.1 h _ _ _ _ (by omega)
  have hle2 : zs[i]'h1 ≤ zs[j - 1]'hm := by
    by_cases e : i = j - 1
    · subst e; exact Int.le_refl _
    · exact List.pairwise_iff_getElem.1 h _ _ _ _ (by omega)
  simp only [List.getElem!_toArray, h1, h2, getElem!_pos]
  omega
end Go.Fw
end
section
set_option linter.unusedVariables false
set_option linter.unusedSimpArgs false
namespace Go.Fw
def cpt : List Int → List Int
  | [] => []
  | x :: r => match cpt r with
    | [] => [x]
    | y :: q => if x = y then y :: q else x :: y :: q
theorem mem_cpt : ∀ (l : List Int) (z : Int), z ∈ cpt l ↔ z ∈ l
  | [], z => by simp [cpt]
  | x :: r, z => by
    have ih := mem_cpt r z
    rw [cpt]
    split
    · rename_i h; rw [h] at ih; simp at ih; simp [ih]
    · rename_i y q h
      rw [h] at ih
      split
      · rename_i e; rw [ih, List.mem_cons]; exact ⟨.inr, fun hz => hz.elim (fun e' => by rw [← ih, e', e]; simp) id⟩
      · rw [List.mem_cons, ih, List.mem_cons]
theorem cpt_pair : ∀ {l : List Int}, l.Pairwise (· ≤ ·) → (cpt l).Pairwise (· < ·)
  | [], _ => by simp [cpt]
  | x :: r, h => by
    rw [List.pairwise_cons] at h
    have ih := cpt_pair h.2
    rw [cpt]
    split
    · simp
    · rename_i y q hq
      rw [hq] at ih
      split
      · exact ih
      · rename_i hne
        rw [List.pairwise_cons]
        refine ⟨fun z hz => ?_, ih⟩
        have h1 : y ∈ r := (mem_cpt r y).1 (by rw [hq]; simp)
        have h2 := h.1 y h1
        rcases List.mem_cons.1 hz with rfl | hz
        · omega
        · have := (List.pairwise_cons.1 ih).1 z hz; omega
theorem strict_ext : ∀ {a b : List Int}, a.Pairwise (· < ·) → b.Pairwise (· < ·) → (∀ z, z ∈ a ↔ z ∈ b) → a = b
  | [], [], _, _, _ => rfl
  | [], y :: b, _, _, h => absurd ((h y).2 (by simp)) (by simp)
  | x :: a, [], _, _, h => absurd ((h x).1 (by simp)) (by simp)
  | x :: a, y :: b, ha, hb, h => by
    rw [List.pairwise_cons] at ha hb
    have e : x = y := by
      have h1 := (h x).1 (by simp)
      have h2 := (h y).2 (by simp)
      rcases List.mem_cons.1 h1 with h1 | h1
      · exact h1
      · rcases List.mem_cons.1 h2 with h2 | h2
        · exact h2.symm
        · have := hb.1 x h1; have := ha.1 y h2; omega
    subst e
    congr 1
    refine strict_ext ha.2 hb.2 fun z => ⟨fun hz => ?_, fun hz => ?_⟩
    · rcases List.mem_cons.1 ((h z).1 (by simp [hz])) with e | hz'
      · subst e; have := ha.1 z hz; omega
      · exact hz'
    · rcases List.mem_cons.1 ((h z).2 (by simp [hz])) with e | hz'
      · subst e; have := hb.1 z hz; omega
      · exact hz'
theorem compact_cpt {l : List Int} (h : l.Pairwise (· ≤ ·)) : Lib.compact l = cpt l := strict_ext (compact_strict h) (cpt_pair h) fun z => by rw [compact_mem, mem_cpt]
def Cf.lockR (r : Rt) : List Int := cpt (sorted (r.Overlap ++ r.Path.map St.Sec ++ r.Flank.map Nd.Sec))
def Cf.lockL (c : Cf) (i : Int) : List Int := match geti c.Rts i with
  | some r => Cf.lockR r
  | none => []
theorem mem_lockR {r : Rt} {z : Int} : z ∈ Cf.lockR r ↔ z ∈ r.Overlap ∨ z ∈ r.Path.map St.Sec ∨ z ∈ r.Flank.map Nd.Sec := by
  rw [Cf.lockR, mem_cpt, (sorted_perm _).mem_iff]; simp [or_assoc]
theorem lockR_pair (r : Rt) : (Cf.lockR r).Pairwise (· < ·) := cpt_pair (sorted_pair _)
theorem lockR_sec {c : Cf} {r : Rt} (h : RtOk c r) {z : Int} (hz : z ∈ Cf.lockR r) : ∃ y, geti c.Secs z = some y := by
  rcases mem_lockR.1 hz with hz | hz | hz
  · obtain ⟨y, hy, _⟩ := (h.ov hz).1; exact ⟨y, hy⟩
  · obtain ⟨s, hs, rfl⟩ := List.mem_map.1 hz
    obtain ⟨y, hy, _⟩ := (h.step s hs).1.sec; exact ⟨y, hy⟩
  · obtain ⟨n, hn, rfl⟩ := List.mem_map.1 hz
    obtain ⟨y, hy, _⟩ := (h.fl.1 n hn).sec; exact ⟨y, hy⟩
def insAt (out : List Int) (s : Int) : Nat → Nat
  | 0 => 0
  | n + 1 => match out[n]? with
    | some x => if s < x then insAt out s n else n + 1
    | none => n + 1
def insS (out : List Int) (s : Int) : List Int :=
  if s ∈ out then out else out.take (insAt out s out.length) ++ [s] ++ out.drop (insAt out s out.length)
theorem insAt_gt (out : List Int) (s : Int) : ∀ n, n ≤ out.length → ∀ i x, insAt out s n ≤ i → i < n → out[i]? = some x → s < x
  | 0, _, i, x, _, h, _ => by omega
  | n + 1, hn, i, x, h1, h2, h3 => by
    rw [insAt] at h1
    split at h1
    · rename_i y hy
      split at h1
      · rename_i hlt
        by_cases e : i = n
        · subst e; rw [hy] at h3; cases h3; exact hlt
        · exact insAt_gt out s n (by omega) i x h1 (by omega) h3
      · omega
    · omega
theorem insAt_le_of {out : List Int} {s : Int} (hp : out.Pairwise (· < ·)) : ∀ n, n ≤ out.length → ∀ i x, i < insAt out s n → out[i]? = some x → x ≤ s
  | 0, _, i, x, h, _ => by rw [insAt] at h; omega
  | n + 1, hn, i, x, h1, h3 => by
    rw [insAt] at h1
    split at h1
    · rename_i y hy
      split at h1
      · exact insAt_le_of hp n (by omega) i x h1 h3
      · rename_i hge
        by_cases e : i = n
        · subst e; rw [hy] at h3; cases h3; omega
        · have hlt : i < n := by omega
          obtain ⟨h4, h5⟩ := List.getElem?_eq_some_iff.1 h3
          obtain ⟨h6, h7⟩ := List.getElem?_eq_some_iff.1 hy
          have := List.pairwise_iff_getElem.1 hp i n h4 h6 hlt
          rw [h5, h7] at this; omega
    · rename_i hnone; rw [List.getElem?_eq_none_iff] at hnone; omega
theorem insS_pair {out : List Int} {s : Int} (hp : out.Pairwise (· < ·)) : (insS out s).Pairwise (· < ·) := by
  unfold insS
  split
  · exact hp
  · rename_i hs
    have hsplit := List.take_append_drop (insAt out s out.length) out
    have h1 : ∀ x ∈ out.take (insAt out s out.length), x < s := by
      intro x hx
      obtain ⟨i, hi, e⟩ := List.getElem_of_mem hx
      have h2 : out[i]? = some x := by rw [List.getElem_take] at e; rw [← e]; exact List.getElem?_eq_getElem _
      have h3 := insAt_le_of (s := s) hp out.length (Nat.le_refl _) i x (by rw [List.length_take] at hi; omega) h2
      have : x ≠ s := fun e => hs (e ▸ List.mem_of_getElem? h2)
      omega
    have h2 : ∀ x ∈ out.drop (insAt out s out.length), s < x := by
      intro x hx
      obtain ⟨i, hi, e⟩ := List.getElem_of_mem hx
      have h2 : out[insAt out s out.length + i]? = some x := by rw [List.getElem_drop] at e; rw [← e]; exact List.getElem?_eq_getElem _
      exact insAt_gt out s out.length (Nat.le_refl _) _ x (by omega) (by rw [List.length_drop] at hi; omega) h2
    rw [← hsplit, List.pairwise_append] at hp
    rw [List.append_assoc, List.pairwise_append]
    refine ⟨hp.1, ?_, fun a ha b hb => ?_⟩
    · rw [List.singleton_append, List.pairwise_cons]; exact ⟨h2, hp.2.1⟩
    · rcases List.mem_cons.1 hb with rfl | hb
      · exact h1 a ha
      · exact hp.2.2 a ha b hb
theorem mem_insS {out : List Int} {s z : Int} : z ∈ insS out s ↔ z ∈ out ∨ z = s := by
  unfold insS
  split
  · rename_i hs; exact ⟨.inl, fun h => h.elim id fun e => e ▸ hs⟩
  · have : z ∈ out ↔ z ∈ out.take (insAt out s out.length) ∨ z ∈ out.drop (insAt out s out.length) := by
      rw [← List.mem_append, List.take_append_drop]
    rw [this, List.append_assoc, List.mem_append, List.mem_append, List.mem_singleton]
    constructor
    · rintro (h | h | h) <;> simp [h]
    · rintro ((h | h) | h) <;> simp [h]
theorem insL_facts : ∀ (l out : List Int), out.Pairwise (· < ·) → (l.foldl insS out).Pairwise (· < ·) ∧ ∀ z, z ∈ l.foldl insS out ↔ z ∈ out ∨ z ∈ l
  | [], out, h => ⟨h, fun z => by simp⟩
  | s :: r, out, h => by
    obtain ⟨q1, q2⟩ := insL_facts r (insS out s) (insS_pair h)
    refine ⟨q1, fun z => ?_⟩
    rw [List.foldl_cons, q2, mem_insS, List.mem_cons, or_assoc]
theorem insL_lockR (r : Rt) : (r.Path.map St.Sec ++ r.Flank.map Nd.Sec ++ r.Overlap).foldl insS [] = Cf.lockR r := by
  obtain ⟨q1, q2⟩ := insL_facts (r.Path.map St.Sec ++ r.Flank.map Nd.Sec ++ r.Overlap) [] (by simp)
  refine strict_ext q1 (lockR_pair r) fun z => ?_
  rw [q2, mem_lockR]
  simp only [List.mem_append, List.not_mem_nil, false_or]
  constructor
  · rintro ((h | h) | h) <;> simp [h]
  · rintro (h | h | h) <;> simp [h]
theorem cpt_len : ∀ l : List Int, (cpt l).length ≤ l.length
  | [] => Nat.le_refl _
  | x :: r => by
    have ih := cpt_len r
    rw [cpt]
    split
    · simp
    · rename_i y q h
      rw [h] at ih
      split
      · simp at ih ⊢; omega
      · simp at ih ⊢; omega
def cmdM (m : Mv) (now cmd : Int) : Mv := if m.Cmd ≠ cmd then ⟨cmd, now⟩ else m
def Co.inh (c : Cf) (k : Co) (r s : Int) : Bool :=
  let o := (geti k.Own s).getD 0 - 1
  decide (0 ≤ o ∧ o ≠ r) && (decide ((c.rt o).Exit = (c.rt r).Entry) && inL (c.rt o).Overlap s)
def Co.blocked (c : Cf) (k : Co) (r : Int) (l : List Int) : Bool := l.any fun s => decide ((geti k.Own s).getD 0 ≠ 0) && !k.inh c r s
def Co.may (c : Cf) (k : Co) (r : Int) (l : List Int) : Int :=
  if apprS c l k.Routes 0 = true then 23 else if k.blocked c r l = true then 22 else 0
def lineF (c : Cf) : List St → Int
  | [] => 0
  | s :: r => let n := ((geti c.Secs s.Sec).getD ⟨0, 0, 0⟩).Line; if n > 0 then n else lineF c r
def ptsC (now : Int) (l : List Nd) (w : List Mv) : List Mv := l.foldl (fun w n => w.set n.Sec.toNat (cmdM ((geti w n.Sec).getD ⟨0, 0⟩) now n.Pos)) w
def xsC (now : Int) (l : List Int) (w : List Mv) : List Mv := l.foldl (fun w i => w.set i.toNat (cmdM ((geti w i).getD ⟨0, 0⟩) now 1)) w
def askC (n : Int) (w : List Ls) : List Ls := if n > 0 then w.set n.toNat { (geti w n).getD zLs with Ask := ((geti w n).getD zLs).Ask + 1 } else w
def Co.lockC (c : Cf) (k : Co) (now r : Int) : Co :=
  { k with Own := (c.lockL r).foldl (fun w s => w.set s.toNat ((r + 1))) k.Own, Routes := k.Routes.set r.toNat ⟨1, 0, 0, 0⟩, Points := ptsC now (c.Needs r) k.Points, Xs := xsC now (c.Cross r) k.Xs,
           Lines := askC (lineF c (c.rt r).Path) k.Lines, Dirty := true }
def Co.reqE (c : Cf) (k : Co) (r : Int) : Int :=
  match geti k.Routes r with
  | none => 20
  | some x => if x.State ≠ 0 then 28 else if k.may c r (c.lockL r) ≠ 0 then k.may c r (c.lockL r)
    else if lineF c (c.rt r).Path > 0 ∧ ((geti k.Lines (lineF c (c.rt r).Path)).getD zLs).Ask ≥ 4294967295 then 5 else 0
def Co.gate (c : Cf) (k : Co) (now : Int) (e : Int) : Int := if k.fits c = false then 21 else if tm 0 now = false then 32 else e
def Co.done (k : Co) (e : Int) (y : Co) : Co × Int := (if e = 0 then y else k, e)
def Co.requestC (c : Cf) (k : Co) (now r : Int) : Co × Int := k.done (k.gate c now (k.reqE c r)) (k.lockC c now r)
end Go.Fw
end
section
set_option linter.unusedVariables false
set_option linter.unusedSimpArgs false
namespace Go.Fw
theorem zip_all {α β : Type} {f : α × β → Bool} : ∀ {a : List α} {b : List β}, (a.zip b).all f = true ↔ ∀ (i : Nat) x y, a[i]? = some x → b[i]? = some y → f (x, y) = true
  | [], b => by simp
  | x :: a, [] => by simp
  | x :: a, y :: b => by
    rw [List.zip_cons_cons, List.all_cons, Bool.and_eq_true, zip_all (a := a) (b := b)]
    constructor
    · rintro ⟨h1, h2⟩ i p q hp hq
      cases i with
      | zero => cases hp; cases hq; exact h1
      | succ i => exact h2 i p q (by simpa using hp) (by simpa using hq)
    · intro h
      exact ⟨h 0 x y rfl rfl, fun i p q hp hq => h (i + 1) p q (by simpa using hp) (by simpa using hq)⟩
structure FitIs (c : Cf) (k : Co) : Prop where
  chk : c.check = 0
  lOwn : k.Own.length = c.Secs.length
  lPts : k.Points.length = c.Secs.length
  lRes : k.Resets.length = c.Secs.length
  lRts : k.Routes.length = c.Rts.length
  lXs : k.Xs.length = c.Xs.length
  lLn : k.Lines.length = 4
  own : ∀ o ∈ k.Own, -2 ≤ o ∧ o ≤ c.Rts.length
  rts : ∀ (i : Nat) x r, k.Routes[i]? = some x → c.Rts[i]? = some r → Rs.fits (x, r) = true
  pts : ∀ m ∈ k.Points, Mv.fits m = true
  xs : ∀ m ∈ k.Xs, Mv.fits m = true
  lns : ∀ l ∈ k.Lines, Ls.fits l = true
  res : ∀ z ∈ k.Resets, tm 1 z = true
theorem fits_iff {c : Cf} {k : Co} : k.fits c = true ↔ FitIs c k := by
  simp only [Co.fits, Co.lens, Co.parts, Bool.and_eq_true, decide_eq_true_eq, zip_all, List.all_eq_true, List.mem_append]
  constructor
  · rintro ⟨h1, ⟨a1, a2, a3, a4, a5, a6⟩, b1, b2, b3, b4, b5⟩
    exact ⟨h1, a1, a2, a3, a4, a5, a6, b1, zip_all.1 (List.all_eq_true.2 b2), fun m h => b3 m (.inl h), fun m h => b3 m (.inr h), b4, b5⟩
  · intro h
    exact ⟨h.chk, ⟨h.lOwn, h.lPts, h.lRes, h.lRts, h.lXs, h.lLn⟩, h.own, List.all_eq_true.1 (zip_all.2 h.rts), fun m hm => hm.elim (h.pts m) (h.xs m), h.lns, h.res⟩
theorem geti_mem {α : Type} {l : List α} {i : Int} {x : α} (h : geti l i = some x) : x ∈ l := List.mem_of_getElem? (geti_some h).2.2
theorem geti_d {α : Type} {l : List α} {i : Int} {p : α → Prop} {z : α} (hz : p z) (h : ∀ x ∈ l, p x) : p ((geti l i).getD z) := by
  cases hg : geti l i with
  | none => exact hz
  | some x => exact h x (geti_mem hg)
theorem ptsC_len (now : Int) : ∀ (l : List Nd) (w : List Mv), (ptsC now l w).length = w.length
  | [], w => rfl
  | n :: l, w => by unfold ptsC; rw [List.foldl_cons]; exact (ptsC_len now l _).trans (by simp)
theorem xsC_len (now : Int) : ∀ (l : List Int) (w : List Mv), (xsC now l w).length = w.length
  | [], w => rfl
  | n :: l, w => by unfold xsC; rw [List.foldl_cons]; exact (xsC_len now l _).trans (by simp)
theorem ownC_len (o : Int) : ∀ (l w : List Int), (l.foldl (fun w s => w.set s.toNat o) w).length = w.length
  | [], w => rfl
  | s :: l, w => by rw [List.foldl_cons, ownC_len o l]; simp
theorem line_ok {c : Cf} (h : c.check = 0) (l : List St) : 0 ≤ lineF c l ∧ lineF c l ≤ 3 := by
  induction l with
  | nil => exact ⟨Int.le_refl _, by unfold lineF; omega⟩
  | cons s r ih =>
    rw [lineF]
    have hs : 0 ≤ ((geti c.Secs s.Sec).getD ⟨0, 0, 0⟩).Line ∧ ((geti c.Secs s.Sec).getD ⟨0, 0, 0⟩).Line ≤ 3 := by
      refine geti_d (p := fun y : Sec => 0 ≤ y.Line ∧ y.Line ≤ 3) (by decide) fun y hy => ?_
      obtain ⟨i, hi, e⟩ := List.getElem_of_mem hy
      exact topo_line (check_parts h).1 (i := i) (by rw [List.getElem?_eq_getElem hi, e])
    split
    · exact hs
    · exact ih
theorem rt_of {c : Cf} {k : Co} (hf : FitIs c k) {r : Int} {x : Rs} (hx : geti k.Routes r = some x) : ∃ y, geti c.Rts r = some y ∧ y ∈ c.Rts := by
  obtain ⟨h1, h2, h3⟩ := geti_some hx
  have := (List.getElem?_eq_some_iff.1 h3).1
  obtain ⟨y, hy⟩ := geti_ex (l := c.Rts) (i := r) (by omega) (by have := hf.lRts; omega)
  exact ⟨y, hy, geti_mem hy⟩
theorem new_fits {c : Cf} {now : Int} (h : c.check = 0) (hn : tm 0 now = true) : (newCo c now).fits c = true := by
  rw [fits_iff]
  simp only [tm, decide_eq_true_eq] at hn
  refine ⟨h, by simp [newCo], by simp [newCo], by simp [newCo], by simp [newCo], by simp [newCo], by simp [newCo], fun o ho => ?_, fun i x r hx hr => ?_, fun m hm => ?_, fun m hm => ?_, fun l hl => ?_, fun z hz => ?_⟩
  · obtain ⟨_, rfl⟩ := List.mem_replicate.1 ho; omega
  · obtain ⟨_, rfl⟩ := List.mem_replicate.1 (List.mem_of_getElem? hx)
    have : (0 : Int) ≤ r.Path.length := by omega
    simp only [Rs.fits, tm, Bool.and_eq_true, decide_eq_true_eq]; omega
  · obtain ⟨s, hs, rfl⟩ := List.mem_map.1 hm
    simp only [Mv.fits, Bool.and_eq_true, decide_eq_true_eq]; split <;> omega
  · obtain ⟨_, rfl⟩ := List.mem_replicate.1 hm
    simp only [Mv.fits, Bool.and_eq_true, decide_eq_true_eq]; omega
  · obtain ⟨_, rfl⟩ := List.mem_replicate.1 hl; rfl
  · obtain ⟨_, rfl⟩ := List.mem_replicate.1 hz; rfl
end Go.Fw
end
section
namespace Go.Proofs.YtpanpagcgckeoaaGreat
open Go.Shelf Go.Proofs
def sortLays_ren : Go.Shelf.Ren := ⟨fun | 189 => 93 | 125 => 117 | 257 => 116 | 128 => 134 | 129 => 135 | 294 => 125 | 295 => 126 | 296 => 127 | 297 => 128 | 298 => 129 | 299 => 130 | 216 => 131 | 300 => 132 | 301 => 133 | 328 => 136 | 329 => 137 | 330 => 138 | 331 => 139 | 332 => 140 | 215 => 141 | 343 => 142 | n => n, fun | 28 => 25 | 3 => 3 | 46 => 115 | 0 => 0 | 51 => 158 | 53 => 161 | 4 => 4 | 183 => 204 | 182 => 203 | 131 => 173 | 5 => 5 | 9 => 9 | 218 => 211 | 222 => 215 | 228 => 217 | 229 => 218 | n => n, fun | n => n⟩
theorem sortLays : Go.Proofs.Lays.n189 Tryz.prog sortLays_ren := {
  mixed := by kernel_rfl
  f125 := Tryz.func117.trans (congrArg some (by kernel_rfl))
  f128 := Tryz.func134.trans (congrArg some (by kernel_rfl))
  f129 := Tryz.func135.trans (congrArg some (by kernel_rfl))
  f189 := Tryz.func93.trans (congrArg some (by kernel_rfl))
  f215 := Tryz.func141.trans (congrArg some (by kernel_rfl))
  f216 := Tryz.func131.trans (congrArg some (by kernel_rfl))
  f257 := Tryz.func116.trans (congrArg some (by kernel_rfl))
  f294 := Tryz.func125.trans (congrArg some (by kernel_rfl))
  f295 := Tryz.func126.trans (congrArg some (by kernel_rfl))
  f296 := Tryz.func127.trans (congrArg some (by kernel_rfl))
  f297 := Tryz.func128.trans (congrArg some (by kernel_rfl))
  f298 := Tryz.func129.trans (congrArg some (by kernel_rfl))
  f299 := Tryz.func130.trans (congrArg some (by kernel_rfl))
  f300 := Tryz.func132.trans (congrArg some (by kernel_rfl))
  f301 := Tryz.func133.trans (congrArg some (by kernel_rfl))
  f328 := Tryz.func136.trans (congrArg some (by kernel_rfl))
  f329 := Tryz.func137.trans (congrArg some (by kernel_rfl))
  f330 := Tryz.func138.trans (congrArg some (by kernel_rfl))
  f331 := Tryz.func139.trans (congrArg some (by kernel_rfl))
  f332 := Tryz.func140.trans (congrArg some (by kernel_rfl))
  f343 := Tryz.func142.trans (congrArg some (by kernel_rfl))
  t0 := Tryz.underlying0
  a0 := Tryz.isAgg0
  z0 := Tryz.sizeOf0
  v0 := Tryz.zeroValue0
  t3 := Tryz.underlying3
  a3 := Tryz.isAgg3
  z3 := Tryz.sizeOf3
  v3 := Tryz.zeroValue3
  t4 := Tryz.underlying4
  a4 := Tryz.isAgg4
  z4 := Tryz.sizeOf4
  v4 := Tryz.zeroValue4
  t5 := Tryz.underlying5
  a5 := Tryz.isAgg5
  z5 := Tryz.sizeOf5
  v5 := Tryz.zeroValue5
  t9 := Tryz.underlying9
  a9 := Tryz.isAgg9
  z9 := Tryz.sizeOf9
  v9 := Tryz.zeroValue9
  t28 := Tryz.underlying25
  a28 := Tryz.isAgg25
  z28 := Tryz.sizeOf25
  v28 := Tryz.zeroValue25
  t46 := Tryz.underlying115
  a46 := Tryz.isAgg115
  z46 := Tryz.sizeOf115
  v46 := Tryz.zeroValue115
  t51 := Tryz.underlying158
  a51 := Tryz.isAgg158
  z51 := Tryz.sizeOf158
  v51 := Tryz.zeroValue158
  t53 := Tryz.underlying161
  a53 := Tryz.isAgg161
  z53 := Tryz.sizeOf161
  v53 := Tryz.zeroValue161
  t131 := Tryz.underlying173
  a131 := Tryz.isAgg173
  z131 := Tryz.sizeOf173
  v131 := Tryz.zeroValue173
  t182 := Tryz.underlying203
  a182 := Tryz.isAgg203
  z182 := Tryz.sizeOf203
  v182 := Tryz.zeroValue203
  t183 := Tryz.underlying204
  a183 := Tryz.isAgg204
  z183 := Tryz.sizeOf204
  v183 := Tryz.zeroValue204
  t218 := Tryz.underlying211
  a218 := Tryz.isAgg211
  z218 := Tryz.sizeOf211
  v218 := Tryz.zeroValue211
  t222 := Tryz.underlying215
  a222 := Tryz.isAgg215
  z222 := Tryz.sizeOf215
  v222 := Tryz.zeroValue215
  t228 := Tryz.underlying217
  a228 := Tryz.isAgg217
  z228 := Tryz.sizeOf217
  v228 := Tryz.zeroValue217
  t229 := Tryz.underlying218
  a229 := Tryz.isAgg218
  z229 := Tryz.sizeOf218
  v229 := Tryz.zeroValue218 }
end Go.Proofs.YtpanpagcgckeoaaGreat
end
section
namespace Go.Proofs.YtpanpagcgckeoaaGreat
open Go.Shelf Go.Proofs
def compactLays_ren : Go.Shelf.Ren := ⟨fun | 20 => 94 | n => n, fun | 22 => 25 | 3 => 3 | 4 => 4 | 0 => 0 | n => n, fun | n => n⟩
theorem compactLays : Go.Proofs.Lays2.n20 Tryz.prog compactLays_ren := {
  mixed := by kernel_rfl
  f20 := Tryz.func94.trans (congrArg some (by kernel_rfl))
  t0 := Tryz.underlying0
  a0 := Tryz.isAgg0
  z0 := Tryz.sizeOf0
  v0 := Tryz.zeroValue0
  t3 := Tryz.underlying3
  a3 := Tryz.isAgg3
  z3 := Tryz.sizeOf3
  v3 := Tryz.zeroValue3
  t4 := Tryz.underlying4
  a4 := Tryz.isAgg4
  z4 := Tryz.sizeOf4
  v4 := Tryz.zeroValue4
  t22 := Tryz.underlying25
  a22 := Tryz.isAgg25
  z22 := Tryz.sizeOf25
  v22 := Tryz.zeroValue25
  i3 := by kernel_rfl }
end Go.Proofs.YtpanpagcgckeoaaGreat
end
section
set_option linter.unusedVariables false
set_option linter.unusedSimpArgs false
namespace Go.Proofs.YtpanpagcgckeoaaGreat
open Go.Fw Go.Proofs Go.RowKit
variable {σ σ0 : Store}
theorem own_over {s : Store} {d : D} {l ys : List Int} (h : Own Tryz.prog σ0 s t_int d (l.map Go.Fw.encI)) (h0 : l ≠ []) (hl : ys.length = l.length) :
    ∃ id i0 t rows, d = .osl id i0 l.length ∧ s id = .live t rows ∧ Tryz.prog.cellsOf t = 1 ∧ i0 + l.length ≤ rows.length ∧ (rows.drop i0).take l.length = l.map intRow ∧ σ0 id = .free ∧
      Own Tryz.prog σ0 (s.set id (.live t (rows.take i0 ++ ys.map intRow ++ rows.drop (i0 + l.length)))) t_int d (ys.map Go.Fw.encI) := by
  have hr := h.at_.rows
  have hsz := h.at_.size
  rw [List.length_map] at hsz
  have hnz := h.nz
  have hns := h.nsl
  have hnew := h.new
  have hlen := h.at_.lenI
  rw [List.length_map] at hlen
  cases d <;> simp only [Go.Fw.Rows] at hr <;> try exact hr.elim
  · exact absurd (List.map_eq_nil_iff.1 hr) h0
  · exact absurd rfl hnz
  · exact absurd trivial hns
  · rename_i id i0 len
    obtain ⟨t, rows, a1, a2, a3, a4⟩ := hr
    have e : l.length = len := hlen
    subst e
    have ht : Tryz.prog.cellsOf t = 1 := by rw [a2]; exact c_int
    have hn := hnew _ _ _ rfl
    refine ⟨id, i0, t, rows, rfl, a1, ht, a3, a4.symm, hn, ⟨⟨⟨t, _, Store.set_same _ _ _, a2, ?_, ?_⟩, ?_, fun es rows e => by cases e⟩, ?_, hnew, fun h => h, by intro e; cases e⟩⟩
    · simp; omega
    · have hi0 : (rows.take i0).length = i0 := by simp; omega
      rw [List.append_assoc, List.drop_append_of_le_length (by omega), List.drop_of_length_le (by omega), List.nil_append, List.take_append_of_le_length (by simp; omega), List.take_of_length_le (by simp; omega)]
      rfl
    · rw [List.length_map]; omega
    · intro i hi
      rw [Store.set_ne _ _ (by intro e; subst e; exact hi hn)]
      exact h.ext i hi
theorem Sort_int_ok {s : Store} {d : D} {l : List Int} (h : Own Tryz.prog σ0 s t_int d (l.map Go.Fw.encI)) (h0 : l ≠ []) :
    DCalls Tryz.prog n_slices_Sort_int [.one d] s fun r s' => r = .tup [] ∧ Own Tryz.prog σ0 s' t_int d ((sorted l).map Go.Fw.encI) := by
  have hsz := h.at_.size
  rw [List.length_map] at hsz
  obtain ⟨id, i0, t, rows, rfl, a1, ht, a3, a4, hn, ho⟩ := own_over (ys := sorted l) h h0 (by simp [sorted])
  refine (sort_DCalls sortLays ht a1 a3 a4 (List.length_pos_iff.2 h0) (by omega)).mono ?_
  rintro r s' ⟨rfl, rfl⟩
  exact ⟨rfl, ho⟩
theorem Compact_int_ok {s : Store} {d : D} {l : List Int} (h : Own Tryz.prog σ0 s t_int d (l.map Go.Fw.encI)) (h0 : l ≠ []) (hp : l.Pairwise (· ≤ ·)) :
    DCalls Tryz.prog n_slices_Compact_int [.one d] s fun r s' => ∃ d', r = .a (.one d') ∧ Own Tryz.prog σ0 s' t_int d' ((cpt l).map Go.Fw.encI) := by
  have hsz := h.at_.size
  rw [List.length_map] at hsz
  have hc := compact_cpt hp
  have hle := cpt_len l
  obtain ⟨id, i0, t, rows, rfl, a1, ht, a3, a4, hn, ho⟩ := own_over (ys := Lib.compact l ++ List.replicate (l.length - (Lib.compact l).length) 0) h h0 (by rw [hc]; simp; omega)
  refine (compact_DCalls compactLays ht a1 a3 a4 (List.length_pos_iff.2 h0) (by omega)).mono ?_
  rintro r s' ⟨rfl, rfl⟩
  have := ho.sub (lo := 0) (hi := (cpt l).length) (by omega) (by rw [hc]; simp)
  rw [hc] at this ⊢
  refine ⟨_, rfl, ?_⟩
  have e : ((((cpt l ++ List.replicate (l.length - (cpt l).length) 0).map Go.Fw.encI).drop 0).take ((cpt l).length - 0)) = (cpt l).map Go.Fw.encI := by
    rw [List.drop_zero, Nat.sub_zero, List.map_append, List.take_append_of_le_length (by simp), List.take_of_length_le (by simp)]
  rw [e] at this
  exact this
def RtsNz : D → Prop
  | .sl _ rows => ∀ row ∈ rows, row[4]? ≠ some .zsl
  | _ => True
theorem nz_over {c4 : D} {rows : List (List D)} (hz : RtsNz c4) (hat : ∀ s, At Tryz.prog s t_Route c4 rows) {i : Nat} {row : List D} (hr : rows[i]? = some row) : row[4]? ≠ some .zsl := by
  have hx := (hat (fun _ => .free)).rows
  cases c4 <;> simp only [Go.Fw.Rows] at hx <;> try exact hx.elim
  · subst hx; simp at hr
  · subst hx; simp at hr
  · obtain ⟨rfl, _⟩ := hx; exact hz _ (List.mem_of_getElem? hr)
  · obtain ⟨t, rows', h1, _⟩ := hx; cases h1
section
variable {c0 c1 c2 c3 c4 : D} {c : Cf} (h : ∀ s, CfAt s c0 c1 c2 c3 c4 c) (hok : c.check = 0) (hz : RtsNz c4)
include h hok hz
theorem conf_Locks_ok (i : Int) : DCalls Tryz.prog n_conf_Locks [cfA c0 c1 c2 c3 c4 c, iA i] σ (SlPost σ t_int ((c.lockL i).map Go.Fw.encI)) := by
  refine (W_conf_Locks _ _ _ _ _ _ _ _ _ i σ _ ?_).ret (Q := fun r s => ∃ r' σ', Ret Tryz.prog σ s r σ' r' ∧ SlPost σ t_int ((c.lockL i).map Go.Fw.encI) r' σ') (fun r s h => h)
  intro R hR
  have nil : geti c.Rts i = none → ∃ r' σ', Ret Tryz.prog σ σ (.a (.one .nils)) σ' r' ∧ SlPost σ t_int ((c.lockL i).map Go.Fw.encI) r' σ' := fun e => by
    have : c.lockL i = [] := by unfold Cf.lockL; rw [e]
    rw [this]; exact own_fin (.nil _ (.refl _)) (flatI _)
  obtain ⟨rows, hat, hlen⟩ := rts_len (h σ)
  refine bcd (fun e => nil (geti_neg e)) (fun e0 => hat.lenK (bcd (fun e => nil (geti_ge (by omega))) (fun e1 => hR σ ?_)))
  obtain ⟨x, hx⟩ := geti_ex (l := c.Rts) (i := i) e0 (by omega)
  clear hR nil hat
  have hr := check_rt hok (geti_mem hx)
  have hll : c.lockL i = Cf.lockR x := by unfold Cf.lockL; rw [hx]
  rw [hll]
  obtain ⟨rows, d1, d2, d3, hat, hlen, hrow, q1, q2, q3⟩ := rt_frz h (geti_some hx).2.2
  have w1 := hr.len
  have w2 := hr.flen
  have w3 := hr.olen
  refine (hat σ).load hrow c_Route (by omega) ⟨_, _, _, _, _, _, rfl, (Clone_int_ok (q3 σ) ?_ (by rw [List.length_map]; omega)).mono ?_⟩
  · exact fun e => nz_over hz hat hrow (by rw [e]; rfl)
  rintro r s ⟨d, rfl, ho⟩
  refine ⟨d, rfl, (q1 σ).lenK ⟨fun d n s' => ∃ j : Nat, n = j ∧ j ≤ x.Path.length ∧ Own Tryz.prog σ s' t_int d ((x.Overlap ++ (x.Path.take j).map St.Sec).map Go.Fw.encI), fun _ n _ => x.Path.length - n.toNat, ⟨0, rfl, by omega, by simpa using ho⟩, ?_⟩⟩
  rintro d n s' ⟨j, rfl, hj, ho⟩
  rw [List.length_map]
  refine bcd (fun hlt => ?_) (fun hge => ?_)
  · obtain ⟨y, hy⟩ := get_of_lt (l := x.Path) (j := j) (by omega)
    refine (q1 s').load (map_get hy) c_Step rfl ⟨y.Sec, y.In, y.Out, rfl, newObj_intro fun id s2 hid _ he hs2 => ?_⟩
    refine (ho.ext' he).append (At.fresh hs2 (by simp) rfl) (by simp; omega) (by simp; omega) fun d4 s5 ho5 _ _ => ?_
    rw [w64_succ (by omega)]
    refine ⟨rfl, ⟨j + 1, rfl, by omega, ?_⟩, dec_lt (by omega)⟩
    have e : x.Overlap ++ (x.Path.take (j + 1)).map St.Sec = (x.Overlap ++ (x.Path.take j).map St.Sec) ++ [y.Sec] := by rw [List.take_add_one, hy]; simp
    rw [e, List.map_append]; exact ho5
  have e : j = x.Path.length := by omega
  rw [e, List.take_length] at ho
  refine (q2 s').lenK ⟨fun d n s' => ∃ j : Nat, n = j ∧ j ≤ x.Flank.length ∧ Own Tryz.prog σ s' t_int d ((x.Overlap ++ x.Path.map St.Sec ++ (x.Flank.take j).map Nd.Sec).map Go.Fw.encI), fun _ n _ => x.Flank.length - n.toNat, ⟨0, rfl, by omega, by simpa using ho⟩, ?_⟩
  rintro d n s' ⟨j, rfl, hj, ho⟩
  rw [List.length_map]
  refine bcd (fun hlt => ?_) (fun hge => ?_)
  · obtain ⟨y, hy⟩ := get_of_lt (l := x.Flank) (j := j) (by omega)
    refine (q2 s').load (map_get hy) c_Need rfl ⟨y.Sec, y.Pos, rfl, newObj_intro fun id s2 hid _ he hs2 => ?_⟩
    refine (ho.ext' he).append (At.fresh hs2 (by simp) rfl) (by simp; omega) (by simp; omega) fun d4 s5 ho5 _ _ => ?_
    rw [w64_succ (by omega)]
    refine ⟨⟨j + 1, rfl, by omega, ?_⟩, dec_lt (by omega)⟩
    have e : x.Overlap ++ x.Path.map St.Sec ++ (x.Flank.take (j + 1)).map Nd.Sec = (x.Overlap ++ x.Path.map St.Sec ++ (x.Flank.take j).map Nd.Sec) ++ [y.Sec] := by rw [List.take_add_one, hy]; simp
    rw [e, List.map_append]; exact ho5
  have e : j = x.Flank.length := by omega
  rw [e, List.take_length] at ho
  have hne : x.Overlap ++ x.Path.map St.Sec ++ x.Flank.map Nd.Sec ≠ [] := by
    intro e
    have := congrArg List.length e
    simp only [List.length_append, List.length_map, List.length_nil] at this; omega
  refine (Sort_int_ok ho hne).mono ?_
  rintro r s2 ⟨rfl, ho⟩
  refine ⟨rfl, (Compact_int_ok ho (fun e => hne (by
    have := congrArg List.length e
    simp only [sorted, List.length_mergeSort] at this
    exact List.length_eq_zero_iff.1 this)) (sorted_pair _)).mono ?_⟩
  rintro r s3 ⟨d', rfl, ho⟩
  exact ⟨d', rfl, own_fin ho (flatI _)⟩
end
end Go.Proofs.YtpanpagcgckeoaaGreat
end
section
set_option linter.unusedVariables false
set_option linter.unusedSimpArgs false
namespace Go.Proofs.YtpanpagcgckeoaaGreat
open Go.Fw Go.Proofs Go.RowKit
variable {σ σ0 : Store}
def cfC (c0 c1 c2 c3 c4 : D) (c : Cf) : List D := [c0, c1, c2, c3, c4, iD c.Age, iD c.Brake, iD c.Hold, iD c.Budget]
theorem CoOwn.from {σ1 s : Store} {d0 d1 d2 d3 d4 d5 : D} {k : Co} (he : Ext σ σ1) (h : CoOwn σ1 s d0 d1 d2 d3 d4 d5 k) : CoOwn σ s d0 d1 d2 d3 d4 d5 k :=
  ⟨h.own.from he, h.routes.from he, h.points.from he, h.xs.from he, h.lines.from he, h.resets.from he, h.apart⟩
theorem CoAt.ext' {s : Store} {d0 d1 d2 d3 d4 d5 : D} {k : Co} (h : CoAt σ d0 d1 d2 d3 d4 d5 k) (he : Ext σ s) : CoAt s d0 d1 d2 d3 d4 d5 k :=
  ⟨h.own.ext he, h.routes.ext he, h.points.ext he, h.xs.ext he, h.lines.ext he, h.resets.ext he⟩
theorem locks_open_ok {c0 c1 c2 c3 c4 : D} {c : Cf} (hc : ∀ s, CfAt s c0 c1 c2 c3 c4 c) {k0 k1 k2 k3 k4 k5 : D} {k : Co} (h : CoAt σ k0 k1 k2 k3 k4 k5 k) (hf : CoFit k0 k1 k2 k3 k4 k5 k) :
    DCalls Tryz.prog n_locks_open [cfA c0 c1 c2 c3 c4 c, coA k0 k1 k2 k3 k4 k5 k.Dirty] σ fun r s =>
      ∃ id d0 d1 d2 d3 d4 d5, r = .tup [.one (.el (.osl id 0 1) 0 0), bA (k.fits c)] ∧ CoIn σ s id t_locks_desk (cfC c0 c1 c2 c3 c4 c) [] d0 d1 d2 d3 d4 d5 k := by
  refine W_locks_open _ _ _ _ _ _ _ _ _ k0 k1 k2 k3 k4 k5 k.Dirty σ _ (newObj_intro fun id a0 hid _ e0 q0 => ?_)
  have nid : ∀ {s0 s : Store} {el : TypeId} {d : D} {rs : List (List D)}, Own Tryz.prog s0 s el d rs → s0 id ≠ .free → idOf d ≠ some id := by
    intro s0 s el d rs ho hne he
    cases d with
    | osl i a n =>
      have : i = id := by simpa [idOf] using he
      subst this
      exact hne (ho.new _ _ _ rfl)
    | _ => simp [idOf] at he
  have n0 : a0 id ≠ .free := by rw [q0]; intro e; cases e
  refine (Clone_int_ok (h.own.ext e0) hf.n0 (by rw [List.length_map]; exact hf.b0)).mono ?_
  rintro r b0 ⟨d0, rfl, o0⟩
  refine ⟨d0, rfl, cell_store ((o0.ext id n0).trans q0) (by simp [patch]) fun a1 q1 f0 => ?_⟩
  have i0 := nid o0 n0
  have p0 := own_other (o0.from e0) hid i0 f0
  have e1 := p0.ext
  have n1 : a1 id ≠ .free := by rw [q1]; intro e; cases e
  refine (Clone_RouteState_ok (h.routes.ext e1) hf.n1 (by rw [List.length_map]; exact hf.b1)).mono ?_
  rintro r b1 ⟨d1, rfl, o1⟩
  refine ⟨d1, rfl, cell_store ((o1.ext id n1).trans q1) (by simp [patch]) fun a2 q2 f1 => ?_⟩
  have i1 := nid o1 n1
  have ap01 := o1.apart p0.at_
  have p0 := own_other (p0.ext' o1.ext) hid i0 f1
  have p1 := own_other (o1.from e1) hid i1 f1
  have e2 := p1.ext
  have n2 : a2 id ≠ .free := by rw [q2]; intro e; cases e
  refine (Clone_Mover_ok (h.points.ext e2) hf.n2 (by rw [List.length_map]; exact hf.b2)).mono ?_
  rintro r b2 ⟨d2, rfl, o2⟩
  refine ⟨d2, rfl, cell_store ((o2.ext id n2).trans q2) (by simp [patch]) fun a3 q3 f2 => ?_⟩
  have i2 := nid o2 n2
  have ap02 := o2.apart p0.at_
  have ap12 := o2.apart p1.at_
  have p0 := own_other (p0.ext' o2.ext) hid i0 f2
  have p1 := own_other (p1.ext' o2.ext) hid i1 f2
  have p2 := own_other (o2.from e2) hid i2 f2
  have e3 := p2.ext
  have n3 : a3 id ≠ .free := by rw [q3]; intro e; cases e
  refine (Clone_Mover_ok (h.xs.ext e3) hf.n3 (by rw [List.length_map]; exact hf.b3)).mono ?_
  rintro r b3 ⟨d3, rfl, o3⟩
  refine ⟨d3, rfl, cell_store ((o3.ext id n3).trans q3) (by simp [patch]) fun a4 q4 f3 => ?_⟩
  have i3 := nid o3 n3
  have ap03 := o3.apart p0.at_
  have ap13 := o3.apart p1.at_
  have ap23 := o3.apart p2.at_
  have p0 := own_other (p0.ext' o3.ext) hid i0 f3
  have p1 := own_other (p1.ext' o3.ext) hid i1 f3
  have p2 := own_other (p2.ext' o3.ext) hid i2 f3
  have p3 := own_other (o3.from e3) hid i3 f3
  have e4 := p3.ext
  have n4 : a4 id ≠ .free := by rw [q4]; intro e; cases e
  refine (Clone_LineState_ok (h.lines.ext e4) hf.n4 (by rw [List.length_map]; exact hf.b4)).mono ?_
  rintro r b4 ⟨d4, rfl, o4⟩
  refine ⟨d4, rfl, cell_store ((o4.ext id n4).trans q4) (by simp [patch]) fun a5 q5 f4 => ?_⟩
  have i4 := nid o4 n4
  have ap04 := o4.apart p0.at_
  have ap14 := o4.apart p1.at_
  have ap24 := o4.apart p2.at_
  have ap34 := o4.apart p3.at_
  have p0 := own_other (p0.ext' o4.ext) hid i0 f4
  have p1 := own_other (p1.ext' o4.ext) hid i1 f4
  have p2 := own_other (p2.ext' o4.ext) hid i2 f4
  have p3 := own_other (p3.ext' o4.ext) hid i3 f4
  have p4 := own_other (o4.from e4) hid i4 f4
  have e5 := p4.ext
  have n5 : a5 id ≠ .free := by rw [q5]; intro e; cases e
  refine (Clone_int_ok (h.resets.ext e5) hf.n5 (by rw [List.length_map]; exact hf.b5)).mono ?_
  rintro r b5 ⟨d5, rfl, o5⟩
  refine ⟨d5, rfl, cell_store ((o5.ext id n5).trans q5) (by simp [patch]) fun a6 q6 f5 => ?_⟩
  have i5 := nid o5 n5
  have ap05 := o5.apart p0.at_
  have ap15 := o5.apart p1.at_
  have ap25 := o5.apart p2.at_
  have ap35 := o5.apart p3.at_
  have ap45 := o5.apart p4.at_
  have p0 := own_other (p0.ext' o5.ext) hid i0 f5
  have p1 := own_other (p1.ext' o5.ext) hid i1 f5
  have p2 := own_other (p2.ext' o5.ext) hid i2 f5
  have p3 := own_other (p3.ext' o5.ext) hid i3 f5
  have p4 := own_other (p4.ext' o5.ext) hid i4 f5
  have p5 := own_other (o5.from e5) hid i5 f5
  have e6 := p5.ext
  have n6 : a6 id ≠ .free := by rw [q6]; intro e; cases e
  refine (locks_Fits_ok hc (h.ext' e6)).use ⟨_, rfl, id, d0, d1, d2, d3, d4, d5, rfl, hid, q6, ⟨p0, p1, p2, p3, p4, p5, ?_⟩, ?_⟩
  · simp only [List.pairwise_cons, List.mem_cons, List.not_mem_nil, or_false, forall_eq_or_imp, forall_eq, List.Pairwise.nil, and_true, false_imp_iff, implies_true]
    exact ⟨⟨ap01, ap02, ap03, ap04, ap05⟩, ⟨ap12, ap13, ap14, ap15⟩, ⟨ap23, ap24, ap25⟩, ⟨ap34, ap35⟩, ap45⟩
  · intro d hd
    simp only [List.mem_cons, List.not_mem_nil, or_false] at hd
    rcases hd with rfl | rfl | rfl | rfl | rfl | rfl <;> assumption
end Go.Proofs.YtpanpagcgckeoaaGreat
end
section
set_option linter.unusedVariables false
set_option linter.unusedSimpArgs false
namespace Go.Proofs.YtpanpagcgckeoaaGreat
open Go.Fw Go.Proofs Go.RowKit
variable {σ σ0 : Store}
section
variable {c0 c1 c2 c3 c4 : D} {c : Cf} (hc : ∀ s, CfAt s c0 c1 c2 c3 c4 c)
def Does (σ0 : Store) (c0 c1 c2 c3 c4 : D) (c : Cf) (k : Co) (f : FuncId) (bs : List A) (E : Int) (Y : Co) (s : Store) : Prop :=
  ∀ id d0 d1 d2 d3 d4 d5 s1, Ext s s1 → CoIn σ0 s1 id t_locks_desk (cfC c0 c1 c2 c3 c4 c) [] d0 d1 d2 d3 d4 d5 k →
    DCalls Tryz.prog f ([] ++ [.one (.el (.osl id 0 1) 0 0)] ++ bs) s1 fun r s' => r = .a (iA E) ∧ Ext σ0 s' ∧ (E = 0 → CoIn σ0 s' id t_locks_desk (cfC c0 c1 c2 c3 c4 c) [] d0 d1 d2 d3 d4 d5 Y)
include hc
theorem locks_change_ok {k0 k1 k2 k3 k4 k5 : D} {k Y : Co} {E : Int} {f : FuncId} {b : List (Bool × List D)} {bs : List A} (h : CoAt σ k0 k1 k2 k3 k4 k5 k) (hf : CoFit k0 k1 k2 k3 k4 k5 k) (now : Int) (hb : capAs b = some bs)
    (hd : k.fits c = true → tm 0 now = true → Does σ c0 c1 c2 c3 c4 c k f bs E Y σ) :
    DCalls Tryz.prog n_locks_change [cfA c0 c1 c2 c3 c4 c, coA k0 k1 k2 k3 k4 k5 k.Dirty, iA now, .one (.fn f [] b)] σ (CoPost σ (k.done (k.gate c now E) Y)) := by
  refine W_locks_change _ _ _ _ _ _ _ _ _ k0 k1 k2 k3 k4 k5 k.Dirty now _ σ _ ((locks_open_ok hc h hf).mono ?_)
  rintro r s1 ⟨id, d0, d1, d2, d3, d4, d5, rfl, hI⟩
  refine ⟨_, _, rfl, ?_⟩
  intro R hR
  have bad : ∀ (e : Int) s, Ext σ s → e ≠ 0 → k.gate c now E = e → R e s := fun e s he hne hg => by
    refine hR e s ?_
    rw [show (e != 0) = true by simpa using hne]
    refine (locks_open_ok hc (h.ext' he) hf).mono ?_
    rintro r s2 ⟨id, d0, d1, d2, d3, d4, d5, rfl, hI2⟩
    refine ⟨_, _, rfl, trivial, _, _, _, rfl, _, box_row hI2.row, d0, d1, d2, d3, d4, d5, k.Dirty, rfl, ?_⟩
    rw [Co.done, hg, if_neg hne]
    exact ⟨d0, d1, d2, d3, d4, d5, rfl, hI2.co.from he⟩
  refine bcnot (fun e1 => ⟨rfl, bad 21 s1 hI.ext (by decide) (by rw [Co.gate, if_pos e1])⟩) (fun e1 => ?_)
  have hg1 : k.gate c now E = if tm 0 now = false then 32 else E := by rw [Co.gate, if_neg (by rw [e1]; decide)]
  refine newObj_intro fun id2 s2 hid2 _ he2 hs2 => ?_
  have hat : At Tryz.prog s2 t_int (.osl id2 0 1) ([now].map Go.Fw.encI) := At.fresh hs2 (by simp) rfl
  refine (locks_times_ok 0 (by omega) hat).use ⟨_, rfl, ?_⟩
  have ht : ([now].all fun n => decide (0 ≤ n ∧ n ≤ 4294967295 + 0)) = tm 0 now := by simp [tm]
  rw [ht]
  refine bcnot (fun e2 => ⟨rfl, bad 32 s2 (hI.ext.trans he2) (by decide) (by rw [hg1, if_pos e2])⟩) (fun e2 => ?_)
  rw [if_neg (by rw [e2]; decide)] at hg1
  have hI2 : CoIn σ s2 id t_locks_desk (cfC c0 c1 c2 c3 c4 c) [] d0 d1 d2 d3 d4 d5 k :=
    ⟨hI.new, (he2 id (by rw [hI.row]; intro e; cases e)).trans hI.row, ⟨hI.co.own.ext' he2, hI.co.routes.ext' he2, hI.co.points.ext' he2, hI.co.xs.ext' he2, hI.co.lines.ext' he2, hI.co.resets.ext' he2, hI.co.apart⟩, hI.ids⟩
  refine ⟨f, [], b, [], bs, rfl, rfl, hb, (hd e1 e2 id d0 d1 d2 d3 d4 d5 s2 (hI.ext.trans he2) hI2).mono ?_⟩
  rintro r s3 ⟨rfl, he3, hy⟩
  refine ⟨E, rfl, rfl, ?_⟩
  by_cases hE : E = 0
  · subst hE
    have hI3 := hy rfl
    refine hR 0 s3 ?_
    refine ⟨trivial, _, _, _, rfl, _, box_row hI3.row, d0, d1, d2, d3, d4, d5, Y.Dirty, rfl, ?_⟩
    rw [Co.done, hg1, if_pos rfl]
    exact ⟨d0, d1, d2, d3, d4, d5, rfl, hI3.co⟩
  · exact bad E s3 he3 hE hg1
omit hc
variable {id : Nat} {t : TypeId} {d0 d1 d2 d3 d4 d5 : D} {k : Co}
theorem desk_state_ok (hI : CoIn σ0 σ id t (cfC c0 c1 c2 c3 c4 c) [] d0 d1 d2 d3 d4 d5 k) (r : Int) :
    Pure Tryz.prog n_locks_desk_state [.one (.el (.osl id 0 1) 0 0), iA r] σ (match geti k.Routes r with | none => .tup [.one .nilp, iA 20] | some _ => .tup [.one (.el d1 r.toNat 0), iA 0]) := by
  have hs := hI.at.routes.size
  rw [List.length_map] at hs
  refine W_locks_desk_state _ r σ _ ⟨trivial, _, _, _, rfl, _, box_row hI.row, d1, rfl, hI.at.routes.lenK ((locks_between_ok _ _ _).use ⟨_, rfl, ?_⟩)⟩
  rw [List.length_map, w64_id (by omega) (by omega)]
  refine bcnot (fun e => ?_) (fun e => ?_)
  · have e := of_decide_eq_false e
    have : geti k.Routes r = none := by
      by_cases h0 : r < 0
      · exact geti_neg h0
      · exact geti_ge (by omega)
    rw [this]; exact ⟨rfl, rfl⟩
  · have e := of_decide_eq_true e
    obtain ⟨x, hx⟩ := geti_ex (l := k.Routes) (i := r) (by omega) (by omega)
    rw [hx]
    refine ⟨trivial, _, _, _, rfl, _, box_row hI.row, d1, rfl, hI.at.routes.idxK c_RouteState (Int.toNat_of_nonneg e.1).symm (by rw [List.length_map]; omega) ⟨rfl, rfl⟩⟩
include hc
theorem desk_inherits_ok (hI : CoIn σ0 σ id t (cfC c0 c1 c2 c3 c4 c) [] d0 d1 d2 d3 d4 d5 k) {r s o : Int} (ho : geti k.Own s = some o) (hlo : -2 ≤ o ∧ o ≤ c.Rts.length) (hr : 0 ≤ r ∧ r < c.Rts.length) :
    Pure Tryz.prog n_locks_desk_inherits [.one (.el (.osl id 0 1) 0 0), iA r, iA s] σ (.a (bA (k.inh c r s))) := by
  obtain ⟨g1, g2, g3⟩ := geti_some ho
  have w : w64 (o - 1) = o - 1 := w64_id (by omega) (by have := (rts_len (hc σ)); obtain ⟨rows, ha, hl⟩ := this; have := ha.size; omega)
  have hi : k.inh c r s = (decide (0 ≤ o - 1 ∧ o - 1 ≠ r) && (decide ((c.rt (o - 1)).Exit = (c.rt r).Entry) && inL (c.rt (o - 1)).Overlap s)) := by
    unfold Co.inh; rw [ho]; rfl
  have no : ¬ (0 ≤ o - 1 ∧ o - 1 ≠ r) → k.inh c r s = false := fun e => by rw [hi, decide_eq_false e]; rfl
  refine W_locks_desk_inherits _ r s σ _ ⟨trivial, _, _, _, rfl, _, box_row hI.row, d0, rfl, hI.at.own.load (map_get g3) c_int (Int.toNat_of_nonneg g1).symm ⟨o, rfl, ?_⟩⟩
  rw [w]
  refine bcd (fun e => by rw [no (by omega)]; exact ⟨rfl, rfl⟩) (fun e1 => bce (fun e => by rw [no (by omega)]; exact ⟨rfl, rfl⟩) (fun e2 => ?_))
  obtain ⟨q, hq⟩ := geti_ex (l := c.Rts) (i := o - 1) e1 (by omega)
  obtain ⟨x, hx⟩ := geti_ex (l := c.Rts) (i := r) (by omega) (by omega)
  obtain ⟨rows, q1, q2, q3, hat, hlen, hrow, f1, f2, f3⟩ := rt_frz hc (geti_some hq).2.2
  obtain ⟨rows', x1, x2, x3, hat', hlen', hrow', _, _, _⟩ := rt_frz hc (geti_some hx).2.2
  rw [hi, decide_eq_true (by omega), rt_some hq, rt_some hx, Bool.true_and]
  refine ⟨trivial, _, _, _, rfl, _, box_row hI.row, c4, rfl, (hat σ).load hrow c_Route (by omega) ⟨_, _, _, _, _, _, rfl, trivial, _, _, _, rfl, _, box_row hI.row, c4, rfl, (hat' σ).load hrow' c_Route (by omega) ⟨x.Entry, rfl, bce (fun e => ?_) (fun e => ?_)⟩⟩⟩
  · exact (Contains_int_ok s (f3 σ)).use ⟨_, rfl, by rw [decide_eq_true e]; exact ⟨rfl, rfl⟩⟩
  · rw [decide_eq_false e]; exact ⟨rfl, rfl⟩
theorem desk_may_ok' (hI : CoIn σ0 σ id t (cfC c0 c1 c2 c3 c4 c) [] d0 d1 d2 d3 d4 d5 k) {r : Int} {ds : D} {l : List Int} (hl : At Tryz.prog σ t_int ds (l.map Go.Fw.encI)) (hr : 0 ≤ r ∧ r < c.Rts.length)
    (hin : ∀ s ∈ l, ∃ o, geti k.Own s = some o) (hlo : ∀ o ∈ k.Own, -2 ≤ o ∧ o ≤ c.Rts.length) :
    Pure Tryz.prog n_locks_desk_may [.one (.el (.osl id 0 1) 0 0), iA r, .one ds] σ (.a (iA (k.may c r l))) := by
  have hs := hI.at.routes.size
  rw [List.length_map] at hs
  have hls := hl.size
  rw [List.length_map] at hls
  refine W_locks_desk_may _ r _ σ _ ⟨trivial, _, _, _, rfl, _, box_row hI.row, d1, rfl, hI.at.routes.lenK ⟨fun n s => s = σ ∧ Rng k.Routes (fun q => apprS c l q n.toNat = apprS c l k.Routes 0) n, fun n _ => k.Routes.length - n.toNat, ⟨rfl, .start rfl⟩, ?_⟩⟩
  rintro n s ⟨rfl, hq⟩
  rw [List.length_map]
  refine bcd (fun hlt => ?_) (fun hge => ?_)
  · obtain ⟨j, x, rfl, hx, hj, hF, nx⟩ := hq.step rfl (by omega) hlt
    rw [apprS, Int.toNat_natCast] at hF
    have next : (decide (x.State ≠ 0) && inL l (c.Approach j)) = false → (s = s ∧ Rng k.Routes (fun q => apprS c l q (w64 ((j : Int) + 1)).toNat = apprS c l k.Routes 0) (w64 ((j : Int) + 1))) ∧ k.Routes.length - (w64 ((j : Int) + 1)).toNat < k.Routes.length - (j : Int).toNat := fun e => by
      rw [e, Bool.false_or] at hF
      exact andl rfl (nx _ (by rw [w64_succ (by omega), Int.toNat_natCast]; exact hF))
    refine hI.at.routes.load (map_get hx) c_RouteState rfl ⟨x.State, x.Since, x.Next, x.Mark, rfl, bcn (fun e => ?_) (fun e => next (by rw [decide_eq_false (by simpa using e)]; rfl))⟩
    refine ⟨trivial, _, _, _, rfl, _, box_row hI.row, c0, c1, c2, c3, c4, _, _, _, _, rfl, (conf_Approach_ok (hc s) j).use ⟨_, rfl, (Contains_int_ok _ hl).use ⟨_, rfl, bc (fun e2 => ?_) (fun e2 => next (by rw [e2, Bool.and_false]))⟩⟩⟩
    have : apprS c l k.Routes 0 = true := by rw [← hF, e2, decide_eq_true e]; rfl
    rw [Co.may, if_pos this]; exact ⟨rfl, rfl⟩
  · have hF := hq.done rfl hge
    have hap : apprS c l k.Routes 0 = false := by rw [← hF]; rfl
    have hm : k.may c r l = if k.blocked c r l = true then 22 else 0 := by rw [Co.may, if_neg (by rw [hap]; decide)]
    rw [hm]
    refine hl.lenK ⟨fun n s' => s' = s ∧ Rng l (fun q => k.blocked c r q = k.blocked c r l) n, fun n _ => l.length - n.toNat, ⟨rfl, .start rfl⟩, ?_⟩
    rintro n s' ⟨rfl, hq⟩
    rw [List.length_map]
    refine bcd (fun hlt => ?_) (fun hge => ?_)
    · obtain ⟨j, v, rfl, hv, hj, hF, nx⟩ := hq.step rfl (by omega) hlt
      obtain ⟨o, ho⟩ := hin v (List.mem_of_getElem? hv)
      obtain ⟨g1, g2, g3⟩ := geti_some ho
      have hF : ((decide ((geti k.Own v).getD 0 ≠ 0) && !k.inh c r v) || k.blocked c r (l.drop (j + 1))) = k.blocked c r l := hF
      rw [ho, Option.getD_some] at hF
      refine hl.load (map_get hv) c_int rfl ⟨v, rfl, trivial, _, _, _, rfl, _, box_row hI.row, d0, rfl, hI.at.own.load (map_get g3) c_int (Int.toNat_of_nonneg g1).symm ⟨o, rfl, bcn (fun e => ?_) (fun e => ?_)⟩⟩
      · refine (desk_inherits_ok hc hI ho (hlo o (geti_mem ho)) hr).use ⟨_, rfl, bcnot (fun e2 => ?_) (fun e2 => ?_)⟩
        · rw [e2, decide_eq_true e] at hF
          rw [if_pos (by rw [← hF]; rfl)]; exact ⟨rfl, rfl⟩
        · rw [e2, Bool.not_true, Bool.and_false, Bool.false_or] at hF
          exact andl rfl (nx _ hF)
      · rw [decide_eq_false (by simpa using e), Bool.false_and, Bool.false_or] at hF
        exact andl rfl (nx _ hF)
    · have hF := hq.done rfl hge
      rw [if_neg (by rw [← hF]; show ¬ (false = true); decide)]; exact ⟨rfl, rfl⟩
end
end Go.Proofs.YtpanpagcgckeoaaGreat
end
section
set_option linter.unusedVariables false
set_option linter.unusedSimpArgs false
namespace Go.Proofs.YtpanpagcgckeoaaGreat
open Go.Fw Go.Proofs Go.RowKit
variable {σ σ0 : Store}
def cmdPre (xs : List A) (s : Store) : Prop := ∃ (m : Mv) (now cmd : Int), xs = [.agg m.enc, iA now, iA cmd]
def cmdPost (xs : List A) (s : Store) (r : RV) (s' : Store) : Prop := ∃ (m : Mv) (now cmd : Int), xs = [.agg m.enc, iA now, iA cmd] ∧ r = .a (.agg (cmdM m now cmd).enc) ∧ s' = s
theorem mover_Command_ok (m : Mv) (now cmd : Int) : Pure Tryz.prog n_mover_Command [.agg m.enc, iA now, iA cmd] σ (.a (.agg (cmdM m now cmd).enc)) :=
  W_mover_Command m.Cmd m.Other now cmd σ _ (bcn (fun e => ⟨by rw [cmdM, if_pos e]; rfl, rfl⟩) (fun e => ⟨by rw [cmdM, if_neg (by simpa using e)]; rfl, rfl⟩))
theorem cmd_spec : SpecOk Tryz.prog n_mover_Command cmdPre cmdPost := by
  refine ⟨?_, ?_, ?_, ?_, ?_⟩
  · rintro xs s ⟨m, now, cmd, rfl⟩
    exact (mover_Command_ok m now cmd).use ⟨m, now, cmd, rfl, rfl, rfl⟩
  · rintro xs s ⟨m, now, cmd, rfl⟩ hf
    exact ⟨_, s, ⟨m, now, cmd, rfl, rfl, rfl⟩, hf⟩
  · rintro xs s r s' ⟨m, now, cmd, rfl, rfl, rfl⟩ hf
    exact hf
  · rintro xs s id so hid hso ⟨m, now, cmd, rfl⟩
    refine ⟨⟨m, now, cmd, rfl⟩, ?_⟩
    rintro r s' ⟨m, now, cmd, e, rfl, rfl⟩
    exact ⟨s, ⟨m, now, cmd, e, rfl, rfl⟩, hid, rfl⟩
  · rintro xs s r s' _ ⟨m, now, cmd, rfl, rfl, rfl⟩ i _
    rfl
theorem cmd_post {m : Mv} {now cmd : Int} {s s' : Store} {r : RV} (h : cmdPost [.agg m.enc, iA now, iA cmd] s r s') : r = .a (.agg (cmdM m now cmd).enc) ∧ s' = s := by
  obtain ⟨m', now', cmd', e, h1, h2⟩ := h
  injection e with e1 e2
  injection e2 with e2 e3
  injection e3 with e3 _
  injection e1 with e1
  injection e2 with e2
  injection e3 with e3
  injection e2 with _ e2
  injection e3 with _ e3
  subst e2 e3
  have : m = m' := by
    cases m; cases m'
    simp [Mv.enc, iD] at e1
    simp [e1]
  subst this
  exact ⟨h1, h2⟩
section
variable {c0 c1 c2 c3 c4 : D} {c : Cf} (hc : ∀ s, CfAt s c0 c1 c2 c3 c4 c) {id : Nat} {t : TypeId} {d0 d1 d2 d3 d4 d5 : D} {k : Co}
include hc
theorem desk_line_ok' (hI : CoIn σ0 σ id t (cfC c0 c1 c2 c3 c4 c) [] d0 d1 d2 d3 d4 d5 k) (hok : c.check = 0) (hl4 : k.Lines.length = 4) {r : Int} {x : Rt} (hx : geti c.Rts r = some x) :
    Pure Tryz.prog n_locks_desk_line [.one (.el (.osl id 0 1) 0 0), iA r] σ (.a (.one (if lineF c x.Path > 0 then .el d4 (lineF c x.Path).toNat 0 else .nilp))) := by
  have hr := check_rt hok (geti_mem hx)
  obtain ⟨rows, q1, q2, q3, hat, hlen, hrow, f1, f2, f3⟩ := rt_frz hc (geti_some hx).2.2
  have hg := geti_some hx
  have w1 := hr.len
  refine W_locks_desk_line _ r σ _ ⟨trivial, _, _, _, rfl, _, box_row hI.row, c4, rfl, (hat σ).load hrow c_Route (by omega) ⟨q1, rfl, (f1 σ).lenK ⟨fun n s => s = σ ∧ Rng x.Path (fun q => lineF c q = lineF c x.Path) n, fun n _ => x.Path.length - n.toNat, ⟨rfl, .start rfl⟩, ?_⟩⟩⟩
  rintro n s ⟨rfl, hq⟩
  rw [List.length_map]
  refine bcd (fun hlt => ?_) (fun hge => ?_)
  · obtain ⟨j, y, rfl, hy, hj, hF, nx⟩ := hq.step rfl (by omega) hlt
    obtain ⟨z, hz, _⟩ := (hr.step y (List.mem_of_getElem? hy)).1.sec
    have hgz := geti_some hz
    rw [lineF, hz, Option.getD_some] at hF
    refine (f1 s).load (map_get hy) c_Step rfl ⟨y.Sec, y.In, y.Out, rfl, trivial, _, _, _, rfl, _, box_row hI.row, c0, rfl, (hc s).secs.load (map_get hgz.2.2) c_Section (Int.toNat_of_nonneg hgz.1).symm ⟨z.Line, rfl, bcd (fun e => ?_) (fun e => ?_)⟩⟩
    · rw [if_pos e] at hF
      rw [← hF, if_pos e]
      have hz3 := topo_line (check_parts hok).1 hgz.2.2
      exact ⟨trivial, _, _, _, rfl, _, box_row hI.row, d4, rfl, hI.at.lines.idxK c_LineState (Int.toNat_of_nonneg (by omega)).symm (by rw [List.length_map]; omega) ⟨rfl, rfl⟩⟩
    · rw [if_neg e] at hF
      exact andl rfl (nx _ hF)
  · have hF := hq.done rfl hge
    rw [← hF]; exact ⟨rfl, rfl⟩
theorem desk_request_ok (hI : CoIn σ0 σ id t (cfC c0 c1 c2 c3 c4 c) [] d0 d1 d2 d3 d4 d5 k) (hz : RtsNz c4) (hfit : k.fits c = true) (now r : Int) :
    DCalls Tryz.prog n_locks_desk_request [.one (.el (.osl id 0 1) 0 0), iA now, iA r] σ fun q s' => q = .a (iA (k.reqE c r)) ∧ Ext σ0 s' ∧ (k.reqE c r = 0 → CoIn σ0 s' id t (cfC c0 c1 c2 c3 c4 c) [] d0 d1 d2 d3 d4 d5 (k.lockC c now r)) := by
  have hfi := fits_iff.1 hfit
  have hok := hfi.chk
  have err : ∀ e : Int, k.reqE c r = e → e ≠ 0 → (RV.a (iA e) = RV.a (iA (k.reqE c r)) ∧ Ext σ0 σ ∧ (k.reqE c r = 0 → CoIn σ0 σ id t (cfC c0 c1 c2 c3 c4 c) [] d0 d1 d2 d3 d4 d5 (k.lockC c now r))) := fun e h1 h2 =>
    ⟨by rw [h1], hI.ext, fun h3 => absurd (h1.symm.trans h3) h2⟩
  refine W_locks_desk_request _ now r σ _ ((desk_state_ok hI r).use ?_)
  cases hgr : geti k.Routes r with
  | none => exact ⟨_, _, rfl, err 20 (by rw [Co.reqE, hgr]) (by decide)⟩
  | some x =>
    have hgx := geti_some hgr
    have hsz := hI.at.routes.size
    rw [List.length_map] at hsz
    have hxl := (List.getElem?_eq_some_iff.1 hgx.2.2).1
    have hE : k.reqE c r = if x.State ≠ 0 then 28 else if k.may c r (c.lockL r) ≠ 0 then k.may c r (c.lockL r) else if lineF c (c.rt r).Path > 0 ∧ ((geti k.Lines (lineF c (c.rt r).Path)).getD zLs).Ask ≥ 4294967295 then 5 else 0 := by
      rw [Co.reqE, hgr]
    obtain ⟨y, hy, hym⟩ := rt_of hfi hgr
    have hrok := check_rt hok hym
    have hyl := (List.getElem?_eq_some_iff.1 (geti_some hy).2.2).1
    have hcl : c.Rts.length = k.Routes.length := hfi.lRts.symm
    have hll : c.lockL r = Cf.lockR y := by unfold Cf.lockL; rw [hy]
    have hsec : ∀ s ∈ c.lockL r, ∃ z, geti c.Secs s = some z := fun s hs => lockR_sec hrok (by rw [← hll]; exact hs)
    refine ⟨_, _, rfl, ?_⟩
    show bcase ((0 : Int) != 0) _ _
    rw [show ((0 : Int) != 0) = false from by decide]
    refine ⟨trivial, _, _, _, rfl, _, hI.at.routes.row (map_get hgx.2.2), x.State, rfl, bcn (fun e => err 28 (by rw [hE, if_pos e]) (by decide)) (fun e1 => ?_)⟩
    rw [if_neg (by simpa using e1)] at hE
    refine ⟨trivial, _, _, _, rfl, _, box_row hI.row, c0, c1, c2, c3, c4, _, _, _, _, rfl, (conf_Locks_ok hc hok hz r).mono ?_⟩
    rintro q s ⟨rfl, d7, rfl, h7⟩
    have hin : ∀ v ∈ c.lockL r, ∃ o, geti k.Own v = some o := fun v hv => by
      obtain ⟨z, hz⟩ := hsec v hv
      have hg := geti_some hz
      have := (List.getElem?_eq_some_iff.1 hg.2.2).1
      exact geti_ex (by omega) (by have := hfi.lOwn; omega)
    refine ⟨d7, rfl, (desk_may_ok' hc hI (h7 s) (by omega) hin hfi.own).use ⟨_, rfl, bcn (fun e => err _ (by rw [hE, if_pos e]) e) (fun e2 => ?_)⟩⟩
    rw [if_neg (by simpa using e2), rt_some hy] at hE
    intro R hR
    have body : (lineF c y.Path > 0 → ((geti k.Lines (lineF c y.Path)).getD zLs).Ask < 4294967295) → ∀ s3, CoIn σ0 s3 id t (cfC c0 c1 c2 c3 c4 c) [] d0 d1 d2 d3 d4 d5 { k with Lines := askC (lineF c y.Path) k.Lines } → R s3 := by
      intro hask s3 hI3
      have hE0 : k.reqE c r = 0 := by rw [hE, if_neg (by intro h; have := hask h.1; omega)]
      refine hR s3 ?_
      have hz7 := (h7 s3).size
      rw [List.length_map] at hz7
      refine (h7 s3).lenK ⟨fun n s => ∃ j : Nat, n = j ∧ j ≤ (c.lockL r).length ∧ CoIn σ0 s id t (cfC c0 c1 c2 c3 c4 c) [] d0 d1 d2 d3 d4 d5 { k with Lines := askC (lineF c y.Path) k.Lines, Own := ((c.lockL r).take j).foldl (fun w s => w.set s.toNat (r + 1)) k.Own },
        fun n _ => (c.lockL r).length - n.toNat, ⟨0, rfl, by omega, by simpa using hI3⟩, ?_⟩
      rintro n s4 ⟨j, rfl, hj, hI4⟩
      rw [List.length_map]
      refine bcd (fun hlt => ?_) (fun hge => ?_)
      · obtain ⟨v, hv⟩ := get_of_lt (l := c.lockL r) (j := j) (by omega)
        obtain ⟨o, ho⟩ := hin v (List.mem_of_getElem? hv)
        have hgo := geti_some ho
        have hvl := (List.getElem?_eq_some_iff.1 hgo.2.2).1
        have hlo := ownC_len (r + 1) ((c.lockL r).take j) k.Own
        obtain ⟨o', ho'⟩ := get_of_lt (l := ((c.lockL r).take j).foldl (fun w s => w.set s.toNat (r + 1)) k.Own) (j := v.toNat) (by omega)
        refine (h7 s4).load (map_get hv) c_int rfl ⟨v, rfl, trivial, _, _, _, rfl, _, box_row hI4.row, d0, rfl, hI4.at.own.idxK c_int (Int.toNat_of_nonneg hgo.1).symm (by simp only [List.length_map]; omega) ?_⟩
        rw [w64_id (n := r + 1) (by omega) (by omega)]
        refine hI4.putO (k := { k with Lines := askC (lineF c y.Path) k.Lines, Own := ((c.lockL r).take j).foldl (fun w s => w.set s.toNat (r + 1)) k.Own }) (y := r + 1) ho' rfl (by simp) rfl fun s5 hI5 _ => ?_
        rw [w64_succ (by omega)]
        refine ⟨⟨j + 1, rfl, by omega, ?_⟩, dec_lt (by omega)⟩
        rw [List.take_add_one, hv, List.foldl_append]
        exact hI5
      have e : j = (c.lockL r).length := by omega
      rw [e, List.take_length] at hI4
      have hxr := hgx.2.2
      refine ⟨trivial, _, _, _, rfl, hI4.putR (k := { k with Lines := askC (lineF c y.Path) k.Lines, Own := (c.lockL r).foldl (fun w s => w.set s.toNat (r + 1)) k.Own }) (y := ⟨1, 0, 0, 0⟩) hxr rfl (by simp) rfl fun s5 hI5 _ => ?_⟩
      have hyn : (c.rt r).Path.length ≤ 2 ^ 20 := by rw [rt_some hy]; have := hrok.len; omega
      have hyf : (c.rt r).Flank.length ≤ 2 ^ 20 := by rw [rt_some hy]; have := hrok.flen; omega
      refine ⟨trivial, _, _, _, rfl, _, box_row hI5.row, c0, c1, c2, c3, c4, _, _, _, _, rfl, (mover_Needs_ok hc r hyn hyf).mono ?_⟩
      rintro q s6 ⟨rfl, d13, rfl, h13⟩
      have hnl : (c.Needs r).length ≤ 41 := by
        rw [Cf.Needs, rt_some hy]
        have := needs_len c y
        have := hrok.len; have := hrok.flen; omega
      refine ⟨d13, rfl, (h13 s6).lenK ⟨fun n s => ∃ j : Nat, n = j ∧ j ≤ (c.Needs r).length ∧ CoIn σ0 s id t (cfC c0 c1 c2 c3 c4 c) [] d0 d1 d2 d3 d4 d5 { k with Lines := askC (lineF c y.Path) k.Lines, Own := (c.lockL r).foldl (fun w s => w.set s.toNat (r + 1)) k.Own, Routes := k.Routes.set r.toNat ⟨1, 0, 0, 0⟩, Points := ptsC now ((c.Needs r).take j) k.Points },
        fun n _ => (c.Needs r).length - n.toNat, ⟨0, rfl, by omega, hI5⟩, ?_⟩⟩
      rintro n s7 ⟨j, rfl, hj, hI7⟩
      rw [List.length_map]
      refine bcd (fun hlt => ?_) (fun hge => ?_)
      · obtain ⟨nd, hnd⟩ := get_of_lt (l := c.Needs r) (j := j) (by omega)
        have hnm := List.mem_of_getElem? hnd
        obtain ⟨⟨z, hz⟩, _⟩ := needs_sec hrok (by rw [Cf.Needs, rt_some hy] at hnm; exact hnm)
        have hgz := geti_some hz
        have hzl := (List.getElem?_eq_some_iff.1 hgz.2.2).1
        have hpl := ptsC_len now ((c.Needs r).take j) k.Points
        have hpl2 := hfi.lPts
        obtain ⟨m, hm⟩ := get_of_lt (l := ptsC now ((c.Needs r).take j) k.Points) (j := nd.Sec.toNat) (by omega)
        have hgm : geti (ptsC now ((c.Needs r).take j) k.Points) nd.Sec = some m := by unfold geti; rw [if_neg (by omega), hm]
        refine (h13 s7).load (map_get hnd) c_Need rfl ⟨nd.Sec, nd.Pos, rfl, cmdPre, cmdPost, cmd_spec, trivial, _, _, _, rfl, _, box_row hI7.row, d2, rfl, trivial, _, _, _, rfl, _, box_row hI7.row, d2, rfl,
          hI7.at.points.load (map_get hm) c_Mover (Int.toNat_of_nonneg hgz.1).symm ⟨m.Cmd, m.Other, rfl, ⟨m, now, nd.Pos, rfl⟩, ?_⟩⟩
        intro q s8 hq
        obtain ⟨rfl, rfl⟩ := cmd_post (m := m) hq
        refine ⟨_, _, rfl, hI7.at.points.idxK c_Mover (Int.toNat_of_nonneg hgz.1).symm (by simp only [List.length_map]; omega) ?_⟩
        refine hI7.putP (k := { k with Lines := askC (lineF c y.Path) k.Lines, Own := (c.lockL r).foldl (fun w s => w.set s.toNat (r + 1)) k.Own, Routes := k.Routes.set r.toNat ⟨1, 0, 0, 0⟩, Points := ptsC now ((c.Needs r).take j) k.Points }) (y := cmdM m now nd.Pos) hm rfl (by simp) rfl fun s9 hI9 _ => ?_
        rw [w64_succ (by omega)]
        refine ⟨⟨j + 1, rfl, by omega, ?_⟩, dec_lt (by omega)⟩
        have e : ptsC now ((c.Needs r).take (j + 1)) k.Points = (ptsC now ((c.Needs r).take j) k.Points).set nd.Sec.toNat (cmdM m now nd.Pos) := by
          rw [List.take_add_one, hnd, ptsC, List.foldl_append]
          show (ptsC now ((c.Needs r).take j) k.Points).set nd.Sec.toNat (cmdM ((geti (ptsC now ((c.Needs r).take j) k.Points) nd.Sec).getD ⟨0, 0⟩) now nd.Pos) = _
          rw [hgm]; rfl
        rw [e]; exact hI9
      have e : j = (c.Needs r).length := by omega
      rw [e, List.take_length] at hI7
      have hxs := (check_xs hok).2.2
      refine ⟨trivial, _, _, _, rfl, _, box_row hI7.row, c0, c1, c2, c3, c4, _, _, _, _, rfl, (mover_Crossings_ok hc r (by omega)).mono ?_⟩
      rintro q s8 ⟨rfl, d19, rfl, h19⟩
      have hcl2 : (c.Cross r).length ≤ c.Xs.length := crossL_len _ _ _
      refine ⟨d19, rfl, (h19 s8).lenK ⟨fun n s => ∃ j : Nat, n = j ∧ j ≤ (c.Cross r).length ∧ CoIn σ0 s id t (cfC c0 c1 c2 c3 c4 c) [] d0 d1 d2 d3 d4 d5 { k with Lines := askC (lineF c y.Path) k.Lines, Own := (c.lockL r).foldl (fun w s => w.set s.toNat (r + 1)) k.Own, Routes := k.Routes.set r.toNat ⟨1, 0, 0, 0⟩, Points := ptsC now (c.Needs r) k.Points, Xs := xsC now ((c.Cross r).take j) k.Xs },
        fun n _ => (c.Cross r).length - n.toNat, ⟨0, rfl, by omega, hI7⟩, ?_⟩⟩
      rintro n s9 ⟨j, rfl, hj, hI9⟩
      rw [List.length_map]
      refine bcd (fun hlt => ?_) (fun hge => ?_)
      · obtain ⟨v, hv⟩ := get_of_lt (l := c.Cross r) (j := j) (by omega)
        obtain ⟨i, xx, e3, hxx, _⟩ := crossL_mem _ _ _ _ (List.mem_of_getElem? hv)
        rw [Nat.zero_add] at e3
        subst e3
        have hil := (List.getElem?_eq_some_iff.1 hxx).1
        have hpl := xsC_len now ((c.Cross r).take j) k.Xs
        have hpl2 := hfi.lXs
        obtain ⟨m, hm⟩ := get_of_lt (l := xsC now ((c.Cross r).take j) k.Xs) (j := i) (by omega)
        have hgm : geti (xsC now ((c.Cross r).take j) k.Xs) (i : Int) = some m := by rw [geti_nat, hm]
        refine (h19 s9).load (map_get hv) c_int rfl ⟨(i : Int), rfl, cmdPre, cmdPost, cmd_spec, trivial, _, _, _, rfl, _, box_row hI9.row, d3, rfl, trivial, _, _, _, rfl, _, box_row hI9.row, d3, rfl,
          hI9.at.xs.load (map_get hm) c_Mover rfl ⟨m.Cmd, m.Other, rfl, ⟨m, now, 1, rfl⟩, ?_⟩⟩
        intro q s10 hq
        obtain ⟨rfl, rfl⟩ := cmd_post (m := m) hq
        refine ⟨_, _, rfl, hI9.at.xs.idxK c_Mover rfl (by simp only [List.length_map]; omega) ?_⟩
        refine hI9.putX (k := { k with Lines := askC (lineF c y.Path) k.Lines, Own := (c.lockL r).foldl (fun w s => w.set s.toNat (r + 1)) k.Own, Routes := k.Routes.set r.toNat ⟨1, 0, 0, 0⟩, Points := ptsC now (c.Needs r) k.Points, Xs := xsC now ((c.Cross r).take j) k.Xs }) (y := cmdM m now 1) hm (by rw [Int.toNat_natCast]) (by simp) rfl fun s11 hI11 _ => ?_
        rw [w64_succ (by omega)]
        refine ⟨⟨j + 1, rfl, by omega, ?_⟩, dec_lt (by omega)⟩
        have e : xsC now ((c.Cross r).take (j + 1)) k.Xs = (xsC now ((c.Cross r).take j) k.Xs).set i (cmdM m now 1) := by
          rw [List.take_add_one, hv, xsC, List.foldl_append]
          show (xsC now ((c.Cross r).take j) k.Xs).set ((i : Int)).toNat (cmdM ((geti (xsC now ((c.Cross r).take j) k.Xs) (i : Int)).getD ⟨0, 0⟩) now 1) = _
          rw [hgm]; rfl
        rw [e]; exact hI11
      have e : j = (c.Cross r).length := by omega
      rw [e, List.take_length] at hI9
      refine ⟨trivial, _, _, _, rfl, hI9.dirty (b := true) rfl fun s10 hI10 _ => ⟨by rw [hE0], hI10.ext, fun _ => ?_⟩⟩
      have : k.lockC c now r = { k with Lines := askC (lineF c y.Path) k.Lines, Own := (c.lockL r).foldl (fun w s => w.set s.toNat (r + 1)) k.Own, Routes := k.Routes.set r.toNat ⟨1, 0, 0, 0⟩, Points := ptsC now (c.Needs r) k.Points, Xs := xsC now (c.Cross r) k.Xs, Dirty := true } := by
        rw [Co.lockC, rt_some hy]
      rw [this]; exact hI10
    refine (desk_line_ok' hc hI hok hfi.lLn hy).use ⟨_, rfl, ?_⟩
    by_cases hl : lineF c y.Path > 0
    · rw [if_pos hl]
      have hl3 := (line_ok hok y.Path).2
      obtain ⟨u, hu⟩ := get_of_lt (l := k.Lines) (j := (lineF c y.Path).toNat) (by have := hfi.lLn; omega)
      have hgu : geti k.Lines (lineF c y.Path) = some u := by unfold geti; rw [if_neg (by omega), hu]
      refine ⟨false, rfl, ?_⟩
      show bcase (false != true) _ _
      rw [show (false != true) = true from by decide]
      refine ⟨trivial, _, _, _, rfl, _, hI.at.lines.row (map_get hu), u.Ask, rfl, bcd (fun e => err 5 (by rw [hE, if_pos ⟨hl, by rw [hgu]; exact e⟩]) (by decide)) (fun e3 => ?_)⟩
      refine ⟨trivial, _, _, _, rfl, _, hI.at.lines.row (map_get hu), u.Ask, rfl, trivial, _, _, _, rfl, ?_⟩
      have hua := (hfi.lns u (List.mem_of_getElem? hu))
      simp only [Ls.fits, tm, Bool.and_eq_true, decide_eq_true_eq] at hua
      rw [w64_id (n := u.Ask + 1) (by omega) (by omega)]
      refine hI.putL (y := { u with Ask := u.Ask + 1 }) hu rfl (by simp) rfl fun s4 hI4 _ => body (fun _ => by rw [hgu]; show u.Ask < 4294967295; omega) s4 ?_
      have : askC (lineF c y.Path) k.Lines = k.Lines.set (lineF c y.Path).toNat { u with Ask := u.Ask + 1 } := by rw [askC, if_pos hl, hgu]; rfl
      rw [this]; exact hI4
    · rw [if_neg hl]
      refine ⟨true, rfl, ?_⟩
      show bcase (true != true) _ _
      rw [show (true != true) = false from by decide]
      refine body (fun h => absurd h hl) s ?_
      have : askC (lineF c y.Path) k.Lines = k.Lines := by rw [askC, if_neg hl]
      rw [this]; exact hI
end
end Go.Proofs.YtpanpagcgckeoaaGreat
end
section
set_option linter.unusedVariables false
set_option linter.unusedSimpArgs false
namespace Go.Proofs.YtpanpagcgckeoaaGreat
open Go.Fw Go.Proofs Go.RowKit
variable {σ σ0 : Store}
theorem live_ext {s s' : Store} {id : Nat} {t : TypeId} {rows : List (List D)} (h : s id = .live t rows) (he : Ext s s') : s' id = .live t rows := (he id (by rw [h]; intro e; cases e)).trans h
theorem CoPost.from {σ1 s : Store} {p : Co × Int} {r : RV} (he : Ext σ σ1) (h : CoPost σ1 p r s) : CoPost σ p r s := by
  obtain ⟨d0, d1, d2, d3, d4, d5, e, ho⟩ := h
  exact ⟨d0, d1, d2, d3, d4, d5, e, ho.from he⟩
theorem CoPost.pass {s : Store} {p : Co × Int} {r : RV} {Q : RV → Store → Prop} (h : CoPost σ p r s) (hq : Q r s) :
    ∃ d d1 d2 d3 d4 d5 : D, ∃ b : Bool, ∃ n1 : Int, r = .tup [.agg [d, d1, d2, d3, d4, d5, .bool b], .one (.int .i64 n1)] ∧ Q (.tup [.agg [d, d1, d2, d3, d4, d5, .bool b], .one (.int .i64 n1)]) s := by
  obtain ⟨d0, d1, d2, d3, d4, d5, e, ho⟩ := h
  refine ⟨d0, d1, d2, d3, d4, d5, p.1.Dirty, p.2, e, ?_⟩
  rw [← e]; exact hq
section
variable {c0 c1 c2 c3 c4 k0 k1 k2 k3 k4 k5 : D} {c : Cf} (hc : ∀ s, CfAt s c0 c1 c2 c3 c4 c) {k : Co} (h : CoAt σ k0 k1 k2 k3 k4 k5 k) (hf : CoFit k0 k1 k2 k3 k4 k5 k)
include hc h hf
theorem locks_Request_ok (hz : RtsNz c4) (now r : Int) : DCalls Tryz.prog n_locks_Request [cfA c0 c1 c2 c3 c4 c, coA k0 k1 k2 k3 k4 k5 k.Dirty, iA now, iA r] σ (CoPost σ (k.requestC c now r)) := by
  refine W_locks_Request _ _ _ _ _ _ _ _ _ k0 k1 k2 k3 k4 k5 k.Dirty now r σ _ (newObj_intro fun id s1 hid _ e1 q1 => newObj_intro fun id1 s2 hid1 _ e2 q2 => ?_)
  have q12 := live_ext q1 e2
  refine ⟨_, box_row q12, now, rfl, (locks_change_ok hc (h.ext' (e1.trans e2)) hf now (bs := [.one (.el (.osl id 0 1) 0 0), .one (.el (.osl id1 0 1) 0 0)]) (E := k.reqE c r) (Y := k.lockC c now r) rfl ?_).mono fun q s3 hp => hp.pass (hp.from (e1.trans e2))⟩
  intro hfit ht id' d0 d1 d2 d3 d4 d5 s3 he hI
  refine W_locks_Request_1 _ _ _ s3 _ ⟨_, _, _, rfl, _, box_row (live_ext q12 he), now, rfl, _, _, _, rfl, _, box_row (live_ext q2 he), r, rfl, (desk_request_ok hc hI hz hfit now r).mono ?_⟩
  rintro q s4 ⟨rfl, w1, w2⟩
  exact ⟨_, rfl, rfl, w1, w2⟩
end
end Go.Proofs.YtpanpagcgckeoaaGreat
end
section
set_option linter.unusedVariables false
set_option linter.unusedSimpArgs false
namespace Go.Fw
def ofL (l : List UInt8) : ByteArray := ⟨l.toArray⟩
def encU (b : UInt8) : List D := [.int .u8 b.toNat]
theorem bytesD_ofL (l : List UInt8) : bytesD (ofL l) = l.map encU := rfl
theorem ofL_toL (s : ByteArray) : ofL s.data.toList = s := by cases s; rfl
theorem size_ofL (l : List UInt8) : (ofL l).size = l.length := by
  show l.toArray.size = _
  simp
theorem ofL_data (l : List UInt8) : (ofL l).data.toList = l := rfl
theorem extract_ofL (l : List UInt8) (a b : Nat) : (ofL l).extract a b = ofL ((l.take b).drop a) := by
  apply ByteArray.ext
  simp [ofL, List.drop_take]
theorem toList_loop (bs : ByteArray) : ∀ (m i : Nat) (r : List UInt8), bs.size - i = m → ByteArray.toList.loop bs i r = r.reverse ++ bs.data.toList.drop i := by
  intro m
  induction m with
  | zero =>
    intro i r h
    have h' : ¬ i < bs.size := by omega
    rw [ByteArray.toList.loop, if_neg h', List.drop_eq_nil_of_le (by show bs.size ≤ i; omega), List.append_nil]
  | succ m ih =>
    intro i r h
    have h' : i < bs.size := by omega
    have h'' : i < bs.data.toList.length := h'
    rw [ByteArray.toList.loop, if_pos h', ih (i + 1) _ (by omega), List.drop_eq_getElem_cons h'']
    have e : bs.get! i = bs.data.toList[i] := by
      show bs.data[i]! = _
      rw [getElem!_pos bs.data i h']
      rfl
    rw [e]; simp
theorem toList_data (bs : ByteArray) : bs.toList = bs.data.toList := by
  rw [ByteArray.toList, toList_loop bs _ 0 [] rfl]; simp
def byteAt (n : Int) (s : Nat) : UInt8 := UInt8.ofNat ((n.fdiv (2 ^ s)) % 256).toNat
theorem byteAt_enc (n : Int) (s : Nat) : encU (byteAt n s) = [.int .u8 (IntKind.wrap .u8 (n.fdiv (2 ^ s)))] := by
  have e : IntKind.wrap .u8 (n.fdiv (2 ^ s)) = (n.fdiv (2 ^ s)) % 256 := rfl
  rw [e]
  unfold encU byteAt
  generalize n.fdiv (2 ^ s) = x
  have h1 : 0 ≤ x % 256 := Int.emod_nonneg _ (by omega)
  have h2 : x % 256 < 256 := Int.emod_lt_of_pos _ (by omega)
  obtain ⟨m, hm⟩ := Int.eq_ofNat_of_zero_le h1
  rw [hm] at h2 ⊢
  rw [Int.toNat_natCast, UInt8.toNat_ofNat', Nat.mod_eq_of_lt (by show m < 256; omega)]
def be : Nat → Int → List UInt8
  | 0, _ => []
  | k + 1, n => byteAt n (8 * k) :: be k n
theorem be_len (k : Nat) (n : Int) : (be k n).length = k := by
  induction k with
  | zero => rfl
  | succ k ih => rw [be, List.length_cons, ih]
def rdL (l : List UInt8) (x : Int) : Int := l.foldl (fun x c => x * 256 + (c.toNat : Int)) x
def rd (l : List UInt8) : Int := rdL l 0
theorem byteAt_nat {n : Nat} {s : Nat} : ((byteAt (n : Int) s).toNat : Int) = ((n / 2 ^ s % 256 : Nat) : Int) := by
  unfold byteAt
  have e : (n : Int).fdiv (2 ^ s) = ((n / 2 ^ s : Nat) : Int) := by
    rw [Int.fdiv_eq_ediv_of_nonneg _ (by exact Int.pow_nonneg (by omega))]
    simp
  rw [e]
  have h2 : n / 2 ^ s % 256 < 256 := Nat.mod_lt _ (by omega)
  have e2 : (((n / 2 ^ s : Nat) : Int) % 256).toNat = n / 2 ^ s % 256 := by omega
  rw [e2, UInt8.toNat_ofNat', Nat.mod_eq_of_lt (by show _ < 256; exact h2)]
theorem rdL_be : ∀ (k : Nat) (n : Nat) (x : Int), rdL (be k (n : Int)) x = x * 256 ^ k + ((n % 256 ^ k : Nat) : Int) := by
  intro k
  induction k with
  | zero => intro n x; simp [be, rdL, Nat.mod_one]
  | succ k ih =>
    intro n x
    rw [be, rdL, List.foldl_cons]
    have := ih n (x * 256 + ((byteAt (n : Int) (8 * k)).toNat : Int))
    rw [rdL] at this
    rw [this, byteAt_nat]
    have e : (2 : Nat) ^ (8 * k) = 256 ^ k := by rw [Nat.pow_mul]
    rw [e]
    have e2 : n % 256 ^ (k + 1) = n % 256 ^ k + 256 ^ k * (n / 256 ^ k % 256) := by rw [Nat.pow_succ, Nat.mod_mul]
    rw [e2, Int.pow_succ, Int.add_mul]
    simp only [Int.natCast_add, Int.natCast_mul, Int.natCast_pow]
    have e3 : x * 256 * 256 ^ k = x * (256 ^ k * 256) := by rw [Int.mul_assoc, Int.mul_comm 256]
    have e4 : ((n / 256 ^ k % 256 : Nat) : Int) * 256 ^ k = 256 ^ k * ((n / 256 ^ k % 256 : Nat) : Int) := Int.mul_comm _ _
    rw [e3, e4]
    simp only [Int.add_assoc]
    have : ∀ a b c : Int, a + (b + c) = a + (c + b) := fun a b c => by omega
    exact this _ _ _
theorem rd_be {k : Nat} {n : Int} (h0 : 0 ≤ n) (h1 : n < 256 ^ k) : rd (be k n) = n := by
  obtain ⟨m, rfl⟩ := Int.eq_ofNat_of_zero_le h0
  rw [rd, rdL_be, Int.zero_mul, Int.zero_add]
  have : m < 256 ^ k := by
    have e : ((256 ^ k : Nat) : Int) = (256 : Int) ^ k := by simp
    omega
  rw [Nat.mod_eq_of_lt this]
theorem rdL_lt : ∀ (l : List UInt8) (x : Int), 0 ≤ x → 0 ≤ rdL l x ∧ rdL l x < (x + 1) * 256 ^ l.length := by
  intro l
  induction l with
  | nil => intro x h; simp [rdL]; omega
  | cons c l ih =>
    intro x h
    have hc : (c.toNat : Int) < 256 := by have := c.toNat_lt; omega
    have := ih (x * 256 + c.toNat) (by omega)
    rw [rdL] at this ⊢
    rw [List.foldl_cons]
    refine ⟨this.1, Int.lt_of_lt_of_le this.2 ?_⟩
    rw [List.length_cons, Int.pow_succ]
    have e : (x + 1) * (256 ^ l.length * 256) = ((x + 1) * 256) * 256 ^ l.length := by rw [Int.mul_assoc, Int.mul_comm (256 ^ l.length)]
    rw [e]
    exact Int.mul_le_mul_of_nonneg_right (by omega) (Int.pow_nonneg (by omega))
theorem rdL_append (a b : List UInt8) (x : Int) : rdL (a ++ b) x = rdL b (rdL a x) := by unfold rdL; rw [List.foldl_append]
theorem or_byte {x c : Int} (hx0 : 0 ≤ x) (hx : x < 2 ^ 48) (hc0 : 0 ≤ c) (hc : c < 256) : w64 (BitVec.toNat ((BitVec.ofInt 64 (w64 (x * (2 ^ 8)))) ||| (BitVec.ofInt 64 (w64 c))) : Int) = x * 256 + c := by
  obtain ⟨m, rfl⟩ := Int.eq_ofNat_of_zero_le hx0
  obtain ⟨b, rfl⟩ := Int.eq_ofNat_of_zero_le hc0
  rw [w64_id (n := (m : Int) * 2 ^ 8) (by omega) (by omega), w64_id (n := (b : Int)) (by omega) (by omega)]
  have e : (m : Int) * 2 ^ 8 = ((m * 256 : Nat) : Int) := by simp
  rw [e, BitVec.ofInt_natCast, BitVec.ofInt_natCast, BitVec.toNat_or, BitVec.toNat_ofNat, BitVec.toNat_ofNat, Nat.mod_eq_of_lt (by omega), Nat.mod_eq_of_lt (by omega)]
  have := Nat.shiftLeft_add_eq_or_of_lt (a := m) (b := b) (i := 8) (by omega)
  rw [Nat.shiftLeft_eq] at this
  have h256 : (2 : Nat) ^ 8 = 256 := rfl
  rw [h256] at this
  rw [← this, w64_id (by omega) (by omega)]
  simp
structure Wr where
  e : Int
  out : List UInt8
  lim : Int
def Wr.note (w : Wr) (x : Int) : Wr := if w.e = 0 then { w with e := x } else w
def Wr.put (w : Wr) (b : List UInt8) : Wr :=
  let v := if (b.length : Int) > w.lim - w.out.length then w.note 2 else w
  if v.e = 0 then { v with out := v.out ++ b } else v
def Wr.num (w : Wr) (k : Nat) (n : Int) : Wr := (if n < 0 ∨ n.fdiv (2 ^ (8 * k)) ≠ 0 then w.note 32 else w).put (be k n)
theorem Wr.note_out (w : Wr) (x : Int) : (w.note x).out = w.out ∧ (w.note x).lim = w.lim := by unfold Wr.note; split <;> exact ⟨rfl, rfl⟩
theorem Wr.put_out (w : Wr) (b : List UInt8) : (w.put b).out.length ≤ w.out.length + b.length ∧ (w.put b).lim = w.lim := by
  unfold Wr.put
  have h : ∀ v : Wr, v.out = w.out ∧ v.lim = w.lim → (if v.e = 0 then { v with out := v.out ++ b } else v : Wr).out.length ≤ w.out.length + b.length ∧ (if v.e = 0 then { v with out := v.out ++ b } else v : Wr).lim = w.lim := by
    intro v hv
    split
    · exact ⟨by simp [hv.1], hv.2⟩
    · exact ⟨by rw [hv.1]; omega, hv.2⟩
  apply h
  split
  · exact w.note_out 2
  · exact ⟨rfl, rfl⟩
theorem Wr.num_out (w : Wr) (k : Nat) (n : Int) : (w.num k n).out.length ≤ w.out.length + k ∧ (w.num k n).lim = w.lim := by
  unfold Wr.num
  have h := Wr.put_out (if n < 0 ∨ n.fdiv (2 ^ (8 * k)) ≠ 0 then w.note 32 else w) (be k n)
  rw [be_len] at h
  have e : (if n < 0 ∨ n.fdiv (2 ^ (8 * k)) ≠ 0 then w.note 32 else w).out = w.out ∧ (if n < 0 ∨ n.fdiv (2 ^ (8 * k)) ≠ 0 then w.note 32 else w).lim = w.lim := by
    split
    · exact w.note_out 32
    · exact ⟨rfl, rfl⟩
  rw [e.1, e.2] at h
  exact h
theorem Wr.num_fit {w : Wr} {k : Nat} {n : Int} (he : w.e = 0) (h0 : 0 ≤ n) (h1 : n < 256 ^ k) (hl : (w.out.length : Int) + k ≤ w.lim) : w.num k n = ⟨0, w.out ++ be k n, w.lim⟩ := by
  have hd : n.fdiv (2 ^ (8 * k)) = 0 := by
    obtain ⟨m, rfl⟩ := Int.eq_ofNat_of_zero_le h0
    rw [Int.fdiv_eq_ediv_of_nonneg _ (Int.pow_nonneg (by omega)), Int.pow_mul]
    exact Int.ediv_eq_zero_of_lt (by omega) h1
  unfold Wr.num
  rw [if_neg (by rintro (h | h); · omega
                 · exact h hd)]
  simp only [Wr.put, be_len]
  rw [if_neg (show ¬ ((k : Int) > w.lim - w.out.length) by omega)]
  simp only [he, if_true]
structure Rd where
  e : Int
  l : List UInt8
def Rd.short (r : Rd) (n : Nat) : Rd := if r.l.length < n then (if r.e = 0 then { r with e := 1 } else r) else r
def Rd.num (r : Rd) (n : Nat) : Int × Rd := if (r.short n).e = 0 then (rd ((r.short n).l.take n), ⟨0, (r.short n).l.drop n⟩) else (0, r.short n)
theorem Rd.short_l (r : Rd) (n : Nat) : (r.short n).l = r.l := by unfold Rd.short; split <;> (try split) <;> rfl
theorem Rd.num_be {k : Nat} {n : Int} (h0 : 0 ≤ n) (h1 : n < 256 ^ k) (l : List UInt8) : (⟨0, be k n ++ l⟩ : Rd).num k = (n, ⟨0, l⟩) := by
  have hs : (⟨0, be k n ++ l⟩ : Rd).short k = ⟨0, be k n ++ l⟩ := by
    unfold Rd.short
    rw [if_neg (by simp [be_len])]
  unfold Rd.num
  rw [hs]
  simp only [if_true]
  rw [List.take_left' (be_len k n), List.drop_left' (be_len k n), rd_be h0 h1]
end Go.Fw
end
