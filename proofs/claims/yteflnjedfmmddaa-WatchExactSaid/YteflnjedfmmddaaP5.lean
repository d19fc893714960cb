/-
  Proofs that the statement of this claim leans on: part 5.
-/
import Derived.Test.YteflnjedfmmddaaP4
section
set_option linter.unusedVariables false
set_option linter.unusedSimpArgs false
namespace Go.Fw
variable {P : Program} {σ σ' : Store}
theorem Own.stay {σ0 : Store} {el : TypeId} {e d : D} {qs : List (List D)} (g : Own P σ0 σ el e qs) (hs : ∀ i, σ i ≠ .free → idOf d ≠ some i → σ' i = σ i) (ha : Apart e d) (he : Ext σ0 σ') : Own P σ0 σ' el e qs :=
  ⟨g.at_.same fun i a n h => hs i (by
    have := g.at_.rows; subst h
    obtain ⟨t, rows, h1, _⟩ := this
    rw [h1]; intro e; cases e) (ha i (by subst h; rfl)), he, g.new, g.nsl, g.nz⟩
/-- One list grows beside another one. -/
theorem Own.append2 {σ0 : Store} {el el' : TypeId} {d e x : D} {rs qs ns : List (List D)} {bytes : Nat} {K : D → Store → Prop} (h : Own P σ0 σ el d rs) (g : Own P σ0 σ el' e qs) (ha : Apart e d) (hx : At P σ el x ns)
    (hb : bytes * (rs.length + ns.length) ≤ 140737488355328) (hsz : rs.length + ns.length < 2 ^ 60) (hk : ∀ d' σ', Own P σ0 σ' el d' (rs ++ ns) → Own P σ0 σ' el' e qs → Apart e d' → K d' σ') : appendTo P σ el bytes d x K :=
  h.append hx hb hsz fun d' s' ho h1 h2 => hk d' s' ho (g.stay (d := d) (fun i hi hd => h1 i hi fun a b hab => hd (by rw [hab]; rfl)) ha ho.ext) fun i hi hd => by
    have hn := g.at_.rows
    cases e with
    | osl i' a n =>
      have e1 : i' = i := by simpa [idOf] using hi
      subst e1
      obtain ⟨t, rows, h3, _⟩ := hn
      cases d' with
      | osl j a' n' =>
        have e2 : j = i' := by simpa [idOf] using hd
        subst e2
        rcases h2 j a' n' rfl with q | ⟨a2, b2, q⟩
        · rw [h3] at q; cases q
        · exact ha j rfl (by rw [q]; rfl)
      | _ => simp [idOf] at hd
    | _ => simp [idOf] at hi
theorem Apart.nil (d : D) : Apart .nils d := fun i h => by cases h
end Go.Fw
namespace Go.Fw
variable {P : Program} {σ σ' : Store}
/-- Plain data that a literal is. -/
theorem at_lit {s : Store} {el : TypeId} {es : Nat} {rows : List (List D)} (hes : P.cellsOf el = es) (hsz : rows.length < 2 ^ 60) : At P s el (.sl es rows) rows :=
  ⟨⟨rfl, .inr hes.symm⟩, hsz, fun es rows e => by injection e with e1 e2; rw [← e1, hes]⟩
theorem own_id' {σ0 s : Store} {el : TypeId} {d : D} {rs : List (List D)} {i : Nat} (h : Own P σ0 s el d rs) (hi : idOf d = some i) : σ0 i = .free := by
  cases d with
  | osl id a n =>
    have : id = i := by simpa [idOf] using hi
    subst this
    exact h.new _ _ _ rfl
  | _ => simp [idOf] at hi
/-- All of a list of the call's own is written. -/
theorem spoil_loop {σ0 : Store} {el : TypeId} {es : Nat} {d : D} {rs : List (List D)} {xs : List D} {T : Prop} (hT : T) (h : Own P σ0 σ el d rs) (hes : P.cellsOf el = es) (hxl : xs.length ≤ es) (hrow : ∀ row ∈ rs, row.length = es) {X : Store → Prop}
    (hX : ∀ s rs', Own P σ0 s el d rs' → (∀ i, idOf d ≠ some i → s i = σ i) → X s) :
    ∃ len : Nat, Len d len ∧ ∃ I : Int → Store → Prop, ∃ μ : Int → Store → Nat, I 0 σ ∧ ∀ n : Int, ∀ s8 : Store, I n s8 → bcase (decide (n < (len : Int))) (∃ len1 : Nat, Idx P s8 d es len1 ∧ (0 : Int) ≤ n ∧ n < (len1 : Int) ∧ storeEl xs s8 d (Int.toNat n) 0 (fun s9 => T ∧ I (w64 (n + 1)) s9 ∧ μ (w64 (n + 1)) s9 < μ n s8)) (X s8) := by
  have hs := h.at_.size
  refine h.at_.lenK ⟨fun n s => ∃ (j : Nat) (rs' : List (List D)), n = j ∧ j ≤ rs.length ∧ Own P σ0 s el d rs' ∧ rs'.length = rs.length ∧ (∀ row ∈ rs', row.length = es) ∧ ∀ i, idOf d ≠ some i → s i = σ i, fun n _ => rs.length - n.toNat, ⟨0, rs, rfl, by omega, h, rfl, hrow, fun _ _ => rfl⟩, ?_⟩
  rintro _ s ⟨j, rs', rfl, hj, ho, hl, hr, hk⟩
  refine bcd (fun hlt => ?_) (fun _ => hX s rs' ho hk)
  have hlt : j < rs.length := by omega
  obtain ⟨row, hrw⟩ := get_of_lt (l := rs') (j := j) (by omega)
  have hrl := hr row (List.mem_of_getElem? hrw)
  refine ho.at_.idxK (j := j) hes rfl (by omega) (ho.at_.store ho.nsl hrw (by omega) (by omega) fun s' id hid hat hs' hne => ⟨hT, ?_⟩)
  rw [w64_succ (by omega)]
  refine ⟨⟨j + 1, _, rfl, by omega, ⟨hat, fun i hi => ?_, ho.new, ho.nsl, ho.nz⟩, by rw [List.length_set]; exact hl, fun r hr' => ?_, fun i hi => ?_⟩, by show rs.length - ((j + 1 : Nat) : Int).toNat < rs.length - ((j : Nat) : Int).toNat; omega⟩
  · have hne' : i ≠ id := fun e => hi (by rw [e]; exact own_id' ho hid)
    rw [hs' i hne']; exact ho.ext i hi
  · rcases List.mem_or_eq_of_mem_set hr' with h1 | rfl
    · exact hr r h1
    · unfold patch; simp; omega
  · rw [hs' i (fun e => hi (by rw [e]; exact hid))]; exact hk i hi
end Go.Fw
end
section
set_option linter.unusedVariables false
set_option linter.unusedSimpArgs false
namespace Go.Proofs.Yteflnjedfmmddaa
open Go.Fw Go.Proofs Go.RowKit
variable {σ : Store}
theorem ref06_sameInts_ok {a b : D} {la lb : List Int} (ha : At Try.prog σ t_int a (la.map encI)) (hb : At Try.prog σ t_int b (lb.map encI)) : Pure Try.prog n_ref06_sameInts [.one a, .one b] σ (.a (bA (decide (la = lb)))) := by
  have hs := ha.size
  rw [List.length_map] at hs
  refine W_ref06_sameInts a b σ _ (ha.lenK (hb.lenK ?_))
  rw [List.length_map, List.length_map]
  refine bcn (fun hne => ⟨?_, rfl⟩) (fun he => ha.lenK ?_)
  · rw [decide_eq_false (fun e => hne (by rw [e]))]
  have hl : la.length = lb.length := by omega
  rw [List.length_map]
  refine ⟨fun n s => s = σ ∧ EqR la lb n, fun n _ => la.length - n.toNat, ⟨rfl, .start _ _⟩, ?_⟩
  rintro n s ⟨rfl, hr⟩
  refine bcd (fun hlt => ?_) (fun hge => ⟨?_, rfl⟩)
  · obtain ⟨j, x, y, rfl, hx, hy, hn, hy2⟩ := hr.step hl rfl hs hlt
    refine ha.load (map_get hx) c_int rfl ⟨x, rfl, hb.load (map_get hy) c_int rfl ⟨y, rfl, bcn (fun e => ⟨?_, rfl⟩) (fun e => andl rfl (hy2 e))⟩⟩
    rw [decide_eq_false (hn e)]
  · rw [decide_eq_true (hr.done hl rfl hge)]
theorem ref06_SameNeeds_ok {a b : D} {la lb : List Nd} (ha : At Try.prog σ t_Need a (la.map Nd.enc)) (hb : At Try.prog σ t_Need b (lb.map Nd.enc)) : Pure Try.prog n_ref06_SameNeeds [.one a, .one b] σ (.a (bA (decide (la = lb)))) := by
  have hs := ha.size
  rw [List.length_map] at hs
  refine W_ref06_SameNeeds a b σ _ (ha.lenK (hb.lenK ?_))
  rw [List.length_map, List.length_map]
  refine bcn (fun hne => ⟨?_, rfl⟩) (fun he => ha.lenK ?_)
  · rw [decide_eq_false (fun e => hne (by rw [e]))]
  have hl : la.length = lb.length := by omega
  rw [List.length_map]
  refine ⟨fun n s => s = σ ∧ EqR la lb n, fun n _ => la.length - n.toNat, ⟨rfl, .start _ _⟩, ?_⟩
  rintro n s ⟨rfl, hr⟩
  refine bcd (fun hlt => ?_) (fun hge => ⟨?_, rfl⟩)
  · obtain ⟨j, x, y, rfl, hx, hy, hn, hy2⟩ := hr.step hl rfl hs hlt
    refine ha.load (map_get hx) c_Need rfl ⟨x.Sec, x.Pos, rfl, hb.load (map_get hy) c_Need rfl ⟨y.Sec, y.Pos, rfl, bcnot (fun e => ⟨?_, rfl⟩) (fun e => andl rfl (hy2 ?_))⟩⟩
    · rw [decide_eq_false (hn fun g => by rw [g] at e; simp at e)]
    · simp at e; cases x; cases y; simp at e; simp [e]
  · rw [decide_eq_true (hr.done hl rfl hge)]
section
variable {c0 c1 c2 c3 c4 : D} {c : Cf} (h : ∀ s, CfAt s c0 c1 c2 c3 c4 c)
include h
theorem ref06_path_ok (ht : topoOk c.Secs c.Jts = true) (hsg : c.sigsOk = true) (r : Rt) {d1 d2 d3 : D} (hp : ∀ s, At Try.prog s t_Step d1 (r.Path.map St.enc)) :
    Pure Try.prog n_ref06_path [cfA c0 c1 c2 c3 c4 c, rtA d1 d2 d3 r] σ (.a (bA (c.path r))) := by
  have hl := (hp σ).size
  rw [List.length_map] at hl
  refine .of (W_ref06_path _ _ _ _ _ _ _ _ _ _ _ d1 d2 d3 _ σ _ ?_) (flat_b _)
  intro R hR
  have no : c.path r = false → (RV.a (bA false) = .a (bA (c.path r)) ∧ Ext σ σ) := fun e => ⟨by rw [e], .refl _⟩
  refine bcd (fun e => no (by rw [Cf.path, geti_neg e])) (fun e0 => (h σ).sigs.lenK ?_)
  rw [List.length_map]
  refine bcd (fun e => no (by rw [Cf.path, geti_ge e])) (fun e1 => ?_)
  obtain ⟨a, hg⟩ := geti_ex e0 e1
  have hpath : c.path r = ((decide (r.Exit = -1) || (geti c.Sigs r.Exit).isSome) && decide (1 ≤ r.Path.length ∧ r.Path.length ≤ 8) && prunA c r (geti c.Sigs r.Exit) r.Path a [a.Sec]) := by rw [Cf.path, hg]
  refine bcd (fun e => no (by rw [hpath, geti_neg (by omega), decide_eq_false (by omega)]; rfl)) (fun e2 => (h σ).sigs.lenK ?_)
  rw [List.length_map]
  refine bcd (fun e => no (by rw [hpath, geti_ge e, decide_eq_false (by omega)]; rfl)) (fun e3 => (hp σ).lenK ?_)
  rw [List.length_map]
  refine bcd (fun e => no (by rw [hpath, decide_eq_false (p := 1 ≤ r.Path.length ∧ _) (by omega), Bool.and_false, Bool.false_and])) (fun e4 => (hp σ).lenK ?_)
  rw [List.length_map]
  refine bcd (fun e => no (by rw [hpath, decide_eq_false (p := 1 ≤ r.Path.length ∧ _) (by omega), Bool.and_false, Bool.false_and])) (fun e5 => hR σ ?_)
  have hex1 : (decide (r.Exit = -1) || (geti c.Sigs r.Exit).isSome) = true := by
    by_cases e : r.Exit = -1
    · rw [decide_eq_true e]; rfl
    · obtain ⟨x, hx⟩ := geti_ex (l := c.Sigs) (i := r.Exit) (by omega) e3
      rw [hx]; simp
  rw [hex1, decide_eq_true (by omega), Bool.true_and, Bool.true_and] at hpath
  have hgs := geti_some hg
  refine (h σ).sigs.load (map_get hgs.2.2) c_Signal (by omega) ⟨a.Sec, a.End_, rfl, newObj_intro fun id s1 hid _ he1 hs1 => (hp s1).lenK ?_⟩
  rw [List.length_map]
  refine ⟨fun m e d n s => ∃ seen : List Int, Own Try.prog σ s t_int d (seen.reverse.map encI) ∧ (seen.length : Int) ≤ n + 1 ∧ Rng r.Path (fun q => prunA c r (geti c.Sigs r.Exit) q ⟨m, e⟩ seen = c.path r) n, fun _ _ _ n _ => r.Path.length - n.toNat,
    ⟨[a.Sec], .at_new hid he1 hs1 (by simp) rfl, by simp, .start hpath.symm⟩, ?_⟩
  rintro m e d n s ⟨seen, ho, hsl, hr⟩
  refine bcd (fun hlt => ?_) (fun hge => ?_)
  · obtain ⟨j, x, rfl, hx, hj, hF, nx⟩ := hr.step rfl hl hlt
    intro R1 hR1
    refine (hp s).load (map_get hx) c_Step rfl ⟨x.Sec, x.In, x.Out, rfl, (ref05_Next_ok m e (h s).jts).use (opt2_ex _ ?_)⟩
    rw [prunA] at hF
    have hes := ho.ext
    have bad : pstep c r (geti c.Sigs r.Exit) ⟨m, e⟩ x (r.Path.drop (j + 1)).isEmpty seen = false → (RV.a (.one (.bool false)) = .a (bA (c.path r)) ∧ Ext σ s) := fun hb => by
      rw [hb] at hF
      exact ⟨by rw [← hF]; rfl, hes⟩
    have good : pstep c r (geti c.Sigs r.Exit) ⟨m, e⟩ x (r.Path.drop (j + 1)).isEmpty seen = true → ∀ s' d', Own Try.prog σ s' t_int d' ((x.Sec :: seen).reverse.map encI) → R1 x.Sec x.Out d' s' := fun hb s' d' ho' => by
      rw [hb, Bool.true_and] at hF
      have hn := nx (fun q => prunA c r (geti c.Sigs r.Exit) q ⟨x.Sec, x.Out⟩ (x.Sec :: seen) = c.path r) hF
      exact hR1 _ _ _ _ ⟨⟨x.Sec :: seen, ho', by rw [w64_succ (by omega), List.length_cons]; omega, hn.1⟩, hn.2⟩
    intro R2 hR2
    rw [pstep] at bad good
    cases hn : nxt c.Jts m e with
    | none =>
      rw [hn] at bad
      exact bcnot (fun _ => bad rfl) (fun e => by cases e)
    | some p =>
      obtain ⟨q, i⟩ := p
      rw [hn] at bad good hR2
      obtain ⟨y, hy⟩ := nxt_sec ht hn
      simp only [hy, Option.getD_some] at bad good hR2 ⊢
      refine bcnot (fun e => by cases e) (fun _ => bcn (fun k => bad (by simp [k])) (fun k1 => bcn (fun k => bad (by simp [k])) (fun k2 => (ref06_in_ok q ho.at_).use ⟨_, rfl, bc (fun k => bad ?_) (fun k3 => ⟨trivial, hR2 s ?_⟩)⟩)))
      · have : q ∈ seen := by simpa [inL] using k
        simp [this]
      have hq : q ∉ seen := by simpa [inL] using k3
      refine (ref06_kind_ok (h s) q).use ⟨_, rfl, (ref05_Pos_ok _ _ _).use (opt1_ex _ ?_)⟩
      rw [kindI_some hy]
      intro R3 hR3
      have main : ∀ but, decide (geti c.Sigs but = some ⟨x.Sec, x.Out⟩) = ((r.Path.drop (j + 1)).isEmpty && decide (geti c.Sigs r.Exit = some ⟨x.Sec, x.Out⟩)) → R3 but s := fun but hbut => hR3 but s (by
        intro R4 hR4
        refine bcnot (fun k => bad (by rw [k]; simp)) (fun k4 => (ref06_at_ok (h s) x.Sec x.Out but).use ⟨_, rfl, ?_⟩)
        rw [atB_eq hsg, hbut]
        have hfin : (!(r.Shunt && decide (y.Line ≠ 0))) = true → ((c.Sigs.any fun z => decide (⟨x.Sec, x.Out⟩ = z)) && !((r.Path.drop (j + 1)).isEmpty && decide (geti c.Sigs r.Exit = some ⟨x.Sec, x.Out⟩))) = false → R4 s := fun g1 g2 => hR4 s (newObj_intro fun id1 s2 hid1 _ he2 hs2 => (ho.ext' he2).append (At.fresh hs2 (by simp) rfl) (by simp; omega) (by simp; omega) fun d4 s5 ho5 _ _ => good (by
          rw [k4, g1, decide_eq_true k1, decide_eq_true k2, decide_eq_true hq]
          generalize (c.Sigs.any fun z => decide (⟨x.Sec, x.Out⟩ = z)) = u at g2
          generalize ((r.Path.drop (j + 1)).isEmpty && decide (geti c.Sigs r.Exit = some ⟨x.Sec, x.Out⟩)) = w at g2
          cases u <;> cases w <;> first | rfl | cases g2) _ _ (by rw [List.reverse_cons, List.map_append, ← k1]; exact ho5))
        refine bc (fun k => bad ?_) (fun k5 => bc (fun k6 => (h s).secs.load (map_get (geti_some hy).2.2) c_Section (by have := geti_some hy; omega) ⟨y.Line, rfl, bcn (fun k7 => bad (by rw [k6]; simp [k7])) (fun k7 => ⟨trivial, hfin (by rw [k6]; simp [k7]) k5⟩)⟩) (fun k6 => ⟨trivial, hfin (by rw [k6]; rfl) k5⟩))
        · generalize (c.Sigs.any fun z => decide (⟨x.Sec, x.Out⟩ = z)) = u at k
          generalize ((r.Path.drop (j + 1)).isEmpty && decide (geti c.Sigs r.Exit = some ⟨x.Sec, x.Out⟩)) = w at k
          cases u <;> cases w <;> first | (simp; done) | cases k)
      refine (hp s).lenK ?_
      rw [List.length_map, w64_id (n := (r.Path.length : Int) - 1) (by omega) (by omega)]
      refine bce (fun q1 => ⟨trivial, main _ ?_⟩) (fun q1 => ⟨trivial, main _ ?_⟩)
      · rw [drop_end (by omega)]; simp
      · have hemp : (r.Path.drop (j + 1)).isEmpty = false := by
          cases hd : r.Path.drop (j + 1) with
          | nil => rw [List.drop_eq_nil_iff] at hd; omega
          | cons y l => rfl
        rw [hemp, geti_neg (by omega)]; simp
  · have hF : (match (generalizing := false) geti c.Sigs r.Exit with | some x => decide ((⟨m, e⟩ : Sg) = x) | none => !(nxt c.Jts m e).isSome) = c.path r := hr.done rfl hge
    refine bcd (fun k1 => ?_) (fun k1 => (ref05_Next_ok m e (h s).jts).use (opt2_ex _ ⟨?_, ho.ext⟩))
    · obtain ⟨y, hy⟩ := geti_ex (l := c.Sigs) (i := r.Exit) (by omega) e3
      rw [hy] at hF
      refine (h s).sigs.load (map_get (geti_some hy).2.2) c_Signal (by omega) ⟨y.Sec, y.End_, rfl, ?_, ho.ext⟩
      rw [← hF]
      congr 3; rw [Bool.eq_iff_iff]; cases y; simp; exact ⟨fun ⟨a, b⟩ => ⟨a.symm, b.symm⟩, fun ⟨a, b⟩ => ⟨a.symm, b.symm⟩⟩
    · rw [geti_neg (by omega)] at hF
      rw [← hF]
theorem ref06_Flank_ok (a : Int) {pd : D} {path : List St} (hp : ∀ s, At Try.prog s t_Step pd (path.map St.enc)) (hpl : path.length ≤ 2 ^ 20) :
    DCalls Try.prog n_ref06_Flank [cfA c0 c1 c2 c3 c4 c, iA a, .one pd] σ (SlPost σ t_Need ((c.flank a path).map Nd.enc)) := by
  refine (W_ref06_Flank _ _ _ _ _ _ _ _ _ a pd σ _ ?_).ret (Q := fun r s => ∃ r' σ', Ret Try.prog σ s r σ' r' ∧ SlPost σ t_Need ((c.flank a path).map Nd.enc) r' σ') (fun r s h => h)
  refine (hp σ).lenK ⟨fun d d1 n s => ∃ out : List Nd, Own Try.prog σ s t_Need d (out.map Nd.enc) ∧ Own Try.prog σ s t_int d1 ((out.map Nd.Sec).map encI) ∧ Apart d d1 ∧ (out.length : Int) ≤ 4 * n ∧ Rng path (fun r => flankRun c a path r out = c.flank a path) n,
    fun _ _ n _ => path.length - n.toNat, ⟨[], .nil _ (.refl _), .nil _ (.refl _), .nil _, by simp, .start rfl⟩, ?_⟩
  rintro d d1 n s ⟨out, ho, ho1, hap, hol, hr⟩
  rw [List.length_map]
  refine bcd (fun hlt => ?_) (fun hge => ?_)
  · obtain ⟨j, x, rfl, hx, hj, hF, nx⟩ := hr.step rfl (by omega) hlt
    refine (hp s).load (map_get hx) c_Step rfl ⟨x.Sec, x.In, x.Out, rfl, (ref06_kind_ok (h s) _).use ⟨_, rfl, ?_⟩⟩
    have hF' : flankRun c a path (path.drop (j + 1)) (flankEnds c a path x (nends (kindI c x.Sec)).toNat 0 out) = c.flank a path := by
      rw [← hF, flankRun]
      cases hg : geti c.Secs x.Sec with
      | none => rw [kindI_none hg]; rfl
      | some y => rw [kindI_some hg]
    generalize kindI c x.Sec = k at hF'
    have hne := nends_le k
    refine ⟨fun d d1 m s' => ∃ out' : List Nd, Own Try.prog σ s' t_Need d (out'.map Nd.enc) ∧ Own Try.prog σ s' t_int d1 ((out'.map Nd.Sec).map encI) ∧ Apart d d1 ∧ 0 ≤ m ∧ m ≤ nends k ∧ (out'.length : Int) ≤ 4 * j + m ∧ flankEnds c a path x (nends k - m).toNat m out' = flankEnds c a path x (nends k).toNat 0 out,
      fun _ _ m _ => (nends k - m).toNat, ⟨out, ho, ho1, hap, by omega, hne.1, by omega, by rw [Int.sub_zero]⟩, ?_⟩
    rintro d2 d3 m s' ⟨out', ho', ho1', hap', hm0, hm1, hol', hE⟩
    refine (ref05_Ends_ok _).use ⟨_, rfl, bcd (fun hlt' => ?_) (fun hge' => ?_)⟩
    · have hw : w64 (m + 1) = m + 1 := w64_id (by omega) (by omega)
      have hk : (nends k - m).toNat = (nends k - (m + 1)).toNat + 1 := by omega
      rw [hk, flankEnds] at hE
      intro R hR
      have leaf : ∀ (out2 : List Nd) (d4 d5 : D) (s2 : Store), flankStep c a path x out' m = out2 → Own Try.prog σ s2 t_Need d4 (out2.map Nd.enc) → Own Try.prog σ s2 t_int d5 ((out2.map Nd.Sec).map encI) → Apart d4 d5 → R d4 d5 s2 := by
        intro out2 d4 d5 s2 h1 h2 h3 h4
        have hlen := (flankStep_len c a path x out' m).2
        refine hR _ _ _ ⟨rfl, ?_⟩
        rw [hw]
        refine ⟨⟨out2, h2, h3, h4, by omega, by omega, by rw [← h1]; omega, by rw [← h1]; exact hE⟩, by show (nends k - (m + 1)).toNat < (nends k - m).toNat; omega⟩
      intro R1 hR1
      refine bce (fun h1 => ⟨by trivial, leaf out' _ _ s' (by rw [flankStep, if_pos (.inl h1)]) ho' ho1' hap'⟩) (fun h1 => bce (fun h2 => ⟨by trivial, leaf out' _ _ s' (by rw [flankStep, if_pos (.inr h2)]) ho' ho1' hap'⟩) (fun h2 => ⟨by trivial, hR1 s' ?_⟩))
      have hst : flankStep c a path x out' m = match nxt c.Jts x.Sec m with
        | none => out'
        | some (q, f) => match geti c.Secs q with
          | none => out'
          | some y => if y.Kind = 1 ∧ (1 ≤ f ∧ f ≤ 2) ∧ q ≠ a ∧ hasSec path q = false ∧ (out'.any fun n => n.Sec == q) = false then out' ++ [⟨q, 3 - f⟩] else out' := by
        rw [flankStep, if_neg (by rintro (e | e); exact h1 e; exact h2 e)] <;> rfl
      refine (ref05_Next_ok x.Sec m (h s').jts).use (opt2_ex _ ?_)
      intro R2 hR2
      cases hn : nxt c.Jts x.Sec m with
      | none =>
        rw [hn] at hst
        exact bcnot (fun _ => ⟨by trivial, leaf out' _ _ s' hst ho' ho1' hap'⟩) (fun e => by cases e)
      | some p =>
        obtain ⟨q, f⟩ := p
        rw [hn] at hst hR2
        simp only [Option.getD_some] at hst hR2 ⊢
        refine bcnot (fun e => by cases e) (fun _ => (ref06_kind_ok (h s') q).use ⟨_, rfl, ?_⟩)
        refine bcn (fun k1 => ⟨by trivial, leaf out' _ _ s' ?_ ho' ho1' hap'⟩) (fun k1 => ?_)
        · cases hg : geti c.Secs q with
          | none => rw [hg] at hst; exact hst
          | some y => rw [hg] at hst; rw [kindI_some hg] at k1; rw [hst]; exact if_neg fun g => k1 g.1
        obtain ⟨y, hg⟩ : ∃ y, geti c.Secs q = some y := by
          cases hg : geti c.Secs q with
          | none => rw [kindI_none hg] at k1; cases k1
          | some y => exact ⟨y, rfl⟩
        rw [kindI_some hg] at k1
        rw [hg] at hst
        simp only at hst
        have no : ¬ ((1 ≤ f ∧ f ≤ 2) ∧ q ≠ a ∧ hasSec path q = false ∧ (out'.any fun n => n.Sec == q) = false) → flankStep c a path x out' m = out' := fun hn => by rw [hst, if_neg fun g => hn g.2]
        have main : (1 ≤ f ∧ f ≤ 2) → DCalls Try.prog n_ref06_Sections [.one pd] s' fun r4 s4 => ∃ d4, r4 = .a (.one d4) ∧ DCalls Try.prog n_ref06_in [.one d4, iA q] s4 fun r5 s5 => ∃ b1, r5 = .a (bA b1) ∧ bcase b1 (True ∧ R d2 d3 s5) (bcase (q == a) (True ∧ R d2 d3 s5) (DCalls Try.prog n_ref06_in [.one d3, iA q] s5 fun r6 s6 => ∃ b2, r6 = .a (bA b2) ∧ bcase b2 (True ∧ R d2 d3 s6) (True ∧ R2 s6))) := by
          intro hf
          refine (ref06_Sections_ok hp (by omega)).mono ?_
          rintro r4 s4 ⟨rfl, d4, rfl, hd4⟩
          refine ⟨d4, rfl, (ref06_in_ok q (hd4 _)).use ⟨_, rfl, ?_⟩⟩
          rw [hasSec_in]
          refine bc (fun k2 => ⟨by trivial, leaf out' _ _ _ (no fun g => by rw [g.2.2.1] at k2; cases k2) ho' ho1' hap'⟩) (fun k2 => bce (fun k3 => ⟨by trivial, leaf out' _ _ _ (no fun g => g.2.1 k3) ho' ho1' hap'⟩) (fun k3 => (ref06_in_ok q ho1'.at_).use ⟨_, rfl, ?_⟩))
          rw [nd_any]
          refine bc (fun k4 => ⟨by trivial, leaf out' _ _ _ (no fun g => by rw [g.2.2.2] at k4; cases k4) ho' ho1' hap'⟩) (fun k4 => ⟨by trivial, hR2 _ ?_⟩)
          refine newObj_intro fun id s5 hid _ he5 hs5 => ?_
          refine (ho1'.ext' he5).append2 (ho'.ext' he5) hap' (At.fresh hs5 (by simp) rfl) (by simp; omega) (by simp; omega) fun d5 s6 ho6 ho6' hap6 => ?_
          refine newObj_intro fun id7 s7 hid7 _ he7 hs7 => ?_
          have hw2 : w64 (3 - f) = 3 - f := w64_id (by omega) (by omega)
          refine (ho6'.ext' he7).append2 (ho6.ext' he7) hap6.symm (At.fresh hs7 (by simp) rfl) (by simp; omega) (by simp; omega) fun d8 s8 ho8 ho8' hap8 => ⟨by trivial, leaf (out' ++ [⟨q, 3 - f⟩]) _ _ _ (by rw [hst, if_pos ⟨k1, hf, k3, k2, k4⟩]) ?_ ?_ hap8.symm⟩
          · rw [hw2] at ho8; rw [List.map_append]; exact ho8
          · rw [List.map_append, List.map_append]; exact ho8'
        refine bcn (fun k2 => bcn (fun k3 => ⟨by trivial, leaf out' _ _ s' (no fun g => by omega) ho' ho1' hap'⟩) (fun k3 => main (by omega))) (fun k2 => main (by omega))
    · have hz : (nends k - m).toNat = 0 := by omega
      rw [hz, flankEnds] at hE
      rw [← hE] at hF'
      have hn := nx (fun r => flankRun c a path r out' = c.flank a path) hF'
      exact ⟨⟨out', ho', ho1', hap', by rw [w64_succ (by omega)]; omega, hn.1⟩, hn.2⟩
  · have hF := hr.done rfl hge
    rw [flankRun] at hF
    rw [← hF]
    exact own_fin ho (flatNd _)
theorem ref06_Overlap_ok (r : Rt) {d1 d2 d3 : D} (hp : ∀ s, At Try.prog s t_Step d1 (r.Path.map St.enc)) (hpl : r.Path.length ≤ 2 ^ 20) :
    DCalls Try.prog n_ref06_Overlap [cfA c0 c1 c2 c3 c4 c, rtA d1 d2 d3 r] σ (SlPost σ t_int ((c.overlap r).map encI)) := by
  refine (W_ref06_Overlap _ _ _ _ _ _ _ _ _ _ _ d1 d2 d3 _ σ _ ?_).ret (Q := fun r' s => ∃ r'' σ', Ret Try.prog σ s r' σ' r'' ∧ SlPost σ t_int ((c.overlap r).map encI) r'' σ') (fun r s h => h)
  intro R hR
  have nil : c.overlap r = [] → ∃ r'' σ', Ret Try.prog σ σ (.a (.one .nils)) σ' r'' ∧ SlPost σ t_int ((c.overlap r).map encI) r'' σ' := fun e => by
    rw [e]; exact own_fin (.nil _ (.refl _)) (flatI _)
  refine bc (fun h1 => nil (by rw [Cf.overlap, if_pos h1])) (fun h1 => ?_)
  have hov : c.overlap r = match geti c.Sigs r.Exit with
    | none => []
    | some x => match nxt c.Jts x.Sec x.End_ with
      | none => []
      | some (q, _) => match geti c.Secs q with
        | none => []
        | some y => if y.Line = 0 ∧ hasSec r.Path q = false ∧ q ≠ c.approach r then [q] else [] := by
    rw [Cf.overlap, if_neg (by rw [h1]; simp)] <;> rfl
  refine bcd (fun e => nil (by rw [hov, geti_neg e])) (fun e0 => (h σ).sigs.lenK ?_)
  rw [List.length_map]
  refine bcd (fun e => nil (by rw [hov, geti_ge e])) (fun e1 => hR σ ?_)
  obtain ⟨x, hg⟩ := geti_ex e0 e1
  rw [hg] at hov
  simp only at hov
  refine (h σ).sigs.load (map_get (geti_some hg).2.2) c_Signal (by omega) ⟨x.Sec, x.End_, rfl, (ref05_Next_ok _ _ (h σ).jts).use (opt2_ex _ ?_)⟩
  intro R1 hR1
  have main : R1 (c.approach r) σ := by
    refine hR1 _ σ ?_
    cases hn : nxt c.Jts x.Sec x.End_ with
    | none => rw [hn] at hov; exact bcnot (fun _ => nil hov) (fun e => by cases e)
    | some p =>
      obtain ⟨q, f⟩ := p
      rw [hn] at hov
      simp only [Option.getD_some] at hov ⊢
      refine bcnot (fun e => by cases e) (fun _ => bcd (fun e => nil (by rw [hov, geti_neg e])) (fun e2 => (h σ).secs.lenK ?_))
      rw [List.length_map]
      refine bcd (fun e => nil (by rw [hov, geti_ge e])) (fun e3 => (ref06_Sections_ok hp (by omega)).mono ?_)
      obtain ⟨y, hy⟩ := geti_ex e2 e3
      rw [hy] at hov
      simp only at hov
      have no : ¬ (y.Line = 0 ∧ hasSec r.Path q = false ∧ q ≠ c.approach r) → c.overlap r = [] := fun hn => by rw [hov, if_neg hn]
      rintro r4 s4 ⟨rfl, d4, rfl, hd4⟩
      refine ⟨d4, rfl, (ref06_in_ok q (hd4 _)).use ⟨_, rfl, ?_⟩⟩
      rw [hasSec_in]
      refine bc (fun k2 => nil (no fun g => by rw [g.2.1] at k2; cases k2)) (fun k2 => bce (fun k3 => nil (no fun g => g.2.2 k3)) (fun k3 => ?_))
      refine (h s4).secs.load (map_get (geti_some hy).2.2) c_Section (by omega) ⟨y.Line, rfl, bcn (fun k4 => nil (no fun g => k4 g.1)) (fun k4 => ?_)⟩
      refine newObj_intro fun id s5 hid _ he5 hs5 => ?_
      rw [hov, if_pos ⟨k4, k2, k3⟩]
      exact own_fin (.at_new hid he5 hs5 (by simp) rfl) (flatI _)
  refine bcd (fun k0 => (h σ).sigs.lenK ?_) (fun k0 => ?_)
  · rw [List.length_map]
    refine bcd (fun k1 => ?_) (fun k1 => ?_)
    · obtain ⟨z, hz⟩ := geti_ex (l := c.Sigs) (i := r.Entry) (by omega) (by omega)
      refine (h σ).sigs.load (map_get (geti_some hz).2.2) c_Signal (by omega) ⟨z.Sec, rfl, ?_⟩
      rw [Cf.approach, hz] at main; exact main
    · rw [Cf.approach, geti_ge (by omega)] at main; exact main
  · rw [Cf.approach, geti_neg (by omega)] at main; exact main
theorem ref06_Check_ok : Pure Try.prog n_ref06_Check [cfA c0 c1 c2 c3 c4 c] σ (.a (iA c.check)) := by
  refine W_ref06_Check _ _ _ _ _ _ _ _ _ σ _ ((ref05_Check_ok (h σ).secs (h σ).jts).use ⟨_, rfl, ?_⟩)
  have e6 : (if topoOk c.Secs c.Jts = true then (0 : Int) else 6) ≠ 0 ↔ topoOk c.Secs c.Jts = false := by
    cases topoOk c.Secs c.Jts <;> simp
  refine bcn (fun k1 => ⟨by rw [Cf.check, if_pos (e6.1 k1)], rfl⟩) (fun k1 => (ref06_signals_ok (h σ)).use ⟨_, rfl, bcnot (fun k2 => ⟨?_, rfl⟩) (fun k2 => ?_)⟩)
  all_goals have k1' : ¬ topoOk c.Secs c.Jts = false := fun e => e6.2 e k1
  · rw [Cf.check, if_neg k1', if_pos k2]
  have ht : topoOk c.Secs c.Jts = true := by simpa using k1'
  refine (ref06_crossings_ok (h σ) ht).use ⟨_, rfl, bcnot (fun k3 => ⟨?_, rfl⟩) (fun k3 => ?_)⟩
  · rw [Cf.check, if_neg k1', if_neg (by rw [k2]; simp), if_pos k3]
  have hck : c.check = if c.Rts.length > 12 then 9 else if c.routes c.Rts ≠ 0 then c.routes c.Rts else if c.timing = true then 0 else 12 := by
    rw [Cf.check, if_neg k1', if_neg (by rw [k2]; simp), if_neg (by rw [k3]; simp)]
  obtain ⟨rows, hat, hlen, hrow⟩ := rts_froz fun s => (h s).rts
  have hl := (hat σ).size
  refine (hat σ).lenK (bcd (fun k4 => ⟨by rw [hck, if_pos (by omega)], rfl⟩) (fun k4 => (hat σ).lenK ?_))
  rw [if_neg (by omega)] at hck
  refine ⟨fun n s => s = σ ∧ Rng c.Rts (fun l => c.routes l = c.routes c.Rts) n, fun n _ => c.Rts.length - n.toNat, ⟨rfl, .start rfl⟩, ?_⟩
  rintro n τ ⟨rfl, hr⟩
  refine bcd (fun hlt => ?_) (fun hge => ?_)
  · obtain ⟨j, x, rfl, hx, hj, hF, nx⟩ := hr.step hlen (by omega) hlt
    obtain ⟨row, hrw⟩ := get_of_lt (l := rows) (j := j) (by omega)
    obtain ⟨d1, d2, d3, rfl, q1, q2, q3⟩ := hrow j row x hrw hx
    rw [Cf.routes] at hF
    have err : ∀ e, e ≠ 0 → c.route x = e → (RV.a (iA e) = .a (iA c.check) ∧ τ = τ) := fun e he hc => by
      rw [hc, if_pos he] at hF
      rw [hck, ← hF, if_pos he]; exact ⟨rfl, rfl⟩
    refine (hat τ).load hrw c_Route rfl ⟨_, _, d1, d2, d3, _, rfl, (ref06_path_ok h ht k2 x q1).use ⟨_, rfl, bcnot (fun k5 => err 9 (by decide) (by rw [Cf.route, if_pos k5])) (fun k5 => ?_)⟩⟩
    have hpl : x.Path.length ≤ 8 := by
      unfold Cf.path at k5
      split at k5
      · cases k5
      · simp at k5; exact k5.1.2.2
    refine (ref06_Approach_ok (h τ) j).use ⟨_, rfl, ?_⟩
    rw [show c.Approach j = c.approach x by rw [Cf.Approach, show geti c.Rts j = some x by unfold geti; rw [if_neg (by omega), Int.toNat_natCast]; exact hx]; rfl]
    refine (ref06_Flank_ok h _ q1 (by omega)).mono ?_
    rintro r1 s1 ⟨rfl, d, rfl, hd⟩
    refine ⟨d, rfl, (ref06_SameNeeds_ok (q2 _) (hd _)).use ⟨_, rfl, bcnot (fun k6 => err 10 (by decide) ?_) (fun k6 => (ref06_Overlap_ok h x q1 (by omega)).mono ?_)⟩⟩
    · rw [Cf.route, if_neg (by rw [k5]; simp), if_pos (of_decide_eq_false k6)]
    rintro r2 s2 ⟨rfl, d', rfl, hd'⟩
    have e2 := of_decide_eq_true k6
    refine ⟨d', rfl, (ref06_sameInts_ok (q3 _) (hd' _)).use ⟨_, rfl, bcnot (fun k7 => err 11 (by decide) ?_) (fun k7 => ?_)⟩⟩
    · rw [Cf.route, if_neg (by rw [k5]; simp), if_neg (fun hn => hn e2), if_pos (of_decide_eq_false k7)]
    · have h0 : c.route x = 0 := by rw [Cf.route, if_neg (by rw [k5]; simp), if_neg (fun hn => hn e2), if_neg (fun hn => hn (of_decide_eq_true k7))]
      rw [if_neg (by simp [h0])] at hF
      exact andl rfl (nx _ hF)
  · have hF : 0 = c.routes c.Rts := hr.done hlen hge
    rw [← hF, if_neg (by simp)] at hck
    have bad : ¬ (((1 ≤ c.Age ∧ c.Age ≤ 8) ∧ (0 ≤ c.Brake ∧ c.Brake ≤ 8)) ∧ (c.Age + c.Brake + 1 ≤ c.Hold ∧ c.Hold ≤ 40) ∧ (1 ≤ c.Budget ∧ c.Budget ≤ 1000000)) → (RV.a (iA 12) = .a (iA c.check) ∧ τ = τ) := fun hn => by
      rw [hck, if_neg (fun e => hn (by simpa [Cf.timing, and_assoc] using e))]; exact ⟨rfl, rfl⟩
    refine bcd (fun e => bad fun g => by omega) (fun t1 => bcd (fun e => bad fun g => by omega) (fun t2 => bcd (fun e => bad fun g => by omega) (fun t3 => bcd (fun e => bad fun g => by omega) (fun t4 => ?_))))
    rw [w64_id (n := c.Age + c.Brake) (by omega) (by omega), w64_id (n := c.Age + c.Brake + 1) (by omega) (by omega)]
    refine bcd (fun e => bad fun g => by omega) (fun t5 => bcd (fun e => bad fun g => by omega) (fun t6 => bcd (fun e => bad fun g => by omega) (fun t7 => bcd (fun e => bad fun g => by omega) (fun t8 => ⟨?_, rfl⟩))))
    rw [hck, if_pos]
    simp only [Cf.timing, Bool.and_eq_true, decide_eq_true_eq]
    omega
end
end Go.Proofs.Yteflnjedfmmddaa
end
section
set_option linter.unusedVariables false
set_option linter.unusedSimpArgs false
namespace Go.Proofs.Yteflnjedfmmddaa
open Go.Fw Go.Proofs Go.RowKit
variable {σ : Store}
section
variable {σ0 : Store} {d0 d1 d2 d3 d4 d5 : D} {k : Co}
theorem ext_other {s s' : Store} {i : Nat} (he : Ext σ0 s) (hf : σ0 i = .free) (hs : ∀ j, j ≠ i → s' j = s j) : Ext σ0 s' := fun j hj => by
  rw [hs j (fun e => hj (by rw [e]; exact hf))]; exact he j hj
end
end Go.Proofs.Yteflnjedfmmddaa
end
section
set_option linter.unusedVariables false
set_option linter.unusedSimpArgs false
namespace Go.Proofs.Yteflnjedfmmddaa
open Go.Fw Go.Proofs Go.RowKit
variable {σ σ0 : Store} {d0 d1 d2 d3 d4 d5 : D} {k : Co}
/-- A new list with another one's elements. -/
theorem copy_ok {t : TypeId} {bytes : Nat} {d : D} {rows : List (List D)} {K : D → Store → Prop} (h : At Try.prog σ t d rows) (hb : bytes * rows.length ≤ 140737488355328)
    (hK : ∀ d' s, Own Try.prog σ s t d' rows → K d' s) : Fw.newObj σ (.live t []) fun id σ' => appendTo Try.prog σ' t bytes (.osl id 0 0) d K := by
  refine newObj_intro fun id s hid _ he hs => ?_
  have ho : Own Try.prog σ s t (.osl id 0 0) [] := .at_new hid he hs (by simp) rfl
  exact ho.append (h.ext he) (by simpa using hb) (by have := h.size; simpa using this) fun d' s' ho' _ _ => hK _ _ (by simpa using ho')
/-- A state that lies in an object, with lists of its own. -/
structure CoIn (σ0 σ : Store) (id : Nat) (t : TypeId) (pre post : List D) (d0 d1 d2 d3 d4 d5 : D) (k : Co) : Prop where
  new : σ0 id = .free
  row : σ id = .live t [pre ++ ([d0, d1, d2, d3, d4, d5, .bool k.Dirty] ++ post)]
  co : CoOwn σ0 σ d0 d1 d2 d3 d4 d5 k
  ids : ∀ d ∈ [d0, d1, d2, d3, d4, d5], idOf d ≠ some id
theorem CoIn.ext {id t pre post} (h : CoIn σ0 σ id t pre post d0 d1 d2 d3 d4 d5 k) : Ext σ0 σ := h.co.own.ext
theorem CoIn.at {id t pre post} (h : CoIn σ0 σ id t pre post d0 d1 d2 d3 d4 d5 k) : CoAt σ d0 d1 d2 d3 d4 d5 k := h.co.at
theorem CoOwn.putO (h : CoOwn σ0 σ d0 d1 d2 d3 d4 d5 k) {j n off : Nat} {x y : Int} {ys : List D} (hj : k.Own[j]? = some x) (hn : n = j) (ho : off + ys.length ≤ 1) (hp : patch (encI x) off ys = encI y) {K : Store → Prop}
    (hK : ∀ s', CoOwn σ0 s' d0 d1 d2 d3 d4 d5 { k with Own := k.Own.set j y } → (∀ i, idOf d0 ≠ some i → s' i = σ i) → K s') : storeEl ys σ d0 n off K := by
  refine h.own.at_.store h.own.nsl (map_get hj) hn ho fun s' i hi hat hs hne => hK s' ?_ fun i' hi' => hs i' fun e => hi' (by rw [e]; exact hi)
  have hf := own_id h.own hi
  have ap : ∀ {m : Nat} {d : D}, [d0, d1, d2, d3, d4, d5][m]? = some d → m ≠ 0 → idOf d ≠ some i := fun hm hne0 => pw h.apart (i := 0) rfl hm (Ne.symm hne0) i hi
  refine ⟨⟨?_, ext_other h.own.ext hf hs, h.own.new, h.own.nsl, h.own.nz⟩, own_other h.routes hf (ap (m := 1) rfl (by omega)) hs, own_other h.points hf (ap (m := 2) rfl (by omega)) hs, own_other h.xs hf (ap (m := 3) rfl (by omega)) hs, own_other h.lines hf (ap (m := 4) rfl (by omega)) hs, own_other h.resets hf (ap (m := 5) rfl (by omega)) hs, h.apart⟩
  rw [hp, map_set (encI) k.Own j y] at hat; exact hat
theorem CoIn.putO {id t pre post} (h : CoIn σ0 σ id t pre post d0 d1 d2 d3 d4 d5 k) {j n off : Nat} {x y : Int} {ys : List D} (hj : k.Own[j]? = some x) (hn : n = j) (ho : off + ys.length ≤ 1) (hp : patch (encI x) off ys = encI y) {K : Store → Prop}
    (hK : ∀ s', CoIn σ0 s' id t pre post d0 d1 d2 d3 d4 d5 { k with Own := k.Own.set j y } → (∀ i, idOf d0 ≠ some i → s' i = σ i) → K s') : storeEl ys σ d0 n off K :=
  h.co.putO hj hn ho hp fun s' h' hs => hK s' ⟨h.new, (hs id (h.ids _ (by simp))).trans h.row, h', h.ids⟩ hs
theorem CoOwn.putL (h : CoOwn σ0 σ d0 d1 d2 d3 d4 d5 k) {j n off : Nat} {x y : Ls} {ys : List D} (hj : k.Lines[j]? = some x) (hn : n = j) (ho : off + ys.length ≤ 8) (hp : patch (Ls.enc x) off ys = Ls.enc y) {K : Store → Prop}
    (hK : ∀ s', CoOwn σ0 s' d0 d1 d2 d3 d4 d5 { k with Lines := k.Lines.set j y } → (∀ i, idOf d4 ≠ some i → s' i = σ i) → K s') : storeEl ys σ d4 n off K := by
  refine h.lines.at_.store h.lines.nsl (map_get hj) hn ho fun s' i hi hat hs hne => hK s' ?_ fun i' hi' => hs i' fun e => hi' (by rw [e]; exact hi)
  have hf := own_id h.lines hi
  have ap : ∀ {m : Nat} {d : D}, [d0, d1, d2, d3, d4, d5][m]? = some d → m ≠ 4 → idOf d ≠ some i := fun hm hne0 => pw h.apart (i := 4) rfl hm (Ne.symm hne0) i hi
  refine ⟨own_other h.own hf (ap (m := 0) rfl (by omega)) hs, own_other h.routes hf (ap (m := 1) rfl (by omega)) hs, own_other h.points hf (ap (m := 2) rfl (by omega)) hs, own_other h.xs hf (ap (m := 3) rfl (by omega)) hs, ⟨?_, ext_other h.lines.ext hf hs, h.lines.new, h.lines.nsl, h.lines.nz⟩, own_other h.resets hf (ap (m := 5) rfl (by omega)) hs, h.apart⟩
  rw [hp, map_set (Ls.enc) k.Lines j y] at hat; exact hat
theorem CoIn.putL {id t pre post} (h : CoIn σ0 σ id t pre post d0 d1 d2 d3 d4 d5 k) {j n off : Nat} {x y : Ls} {ys : List D} (hj : k.Lines[j]? = some x) (hn : n = j) (ho : off + ys.length ≤ 8) (hp : patch (Ls.enc x) off ys = Ls.enc y) {K : Store → Prop}
    (hK : ∀ s', CoIn σ0 s' id t pre post d0 d1 d2 d3 d4 d5 { k with Lines := k.Lines.set j y } → (∀ i, idOf d4 ≠ some i → s' i = σ i) → K s') : storeEl ys σ d4 n off K :=
  h.co.putL hj hn ho hp fun s' h' hs => hK s' ⟨h.new, (hs id (h.ids _ (by simp))).trans h.row, h', h.ids⟩ hs
end Go.Proofs.Yteflnjedfmmddaa
end
section
set_option linter.unusedVariables false
set_option linter.unusedSimpArgs false
namespace Go.Fw
section
variable {occ : List Lk} {now : Int} {was may : Bool} {x : Ls} {o : Int} {s : Nat} {lk : Lk}
end
structure SameBut (k k' : Co) (l s : Nat) : Prop where
  routes : k'.Routes = k.Routes
  lines : ∀ m, m ≠ l → k'.Lines[m]? = k.Lines[m]?
  own : ∀ t, t ≠ s → k'.Own[t]? = k.Own[t]?
end Go.Fw
end
section
set_option linter.unusedVariables false
set_option linter.unusedSimpArgs false
namespace Go.Proofs.Yteflnjedfmmddaa
open Go.Fw Go.Proofs Go.RowKit
variable {σ : Store}
theorem ref13_Time_ok (n : Int) : Pure Try.prog n_ref13_Time [iA n] σ (.a (bA (tm 0 n))) :=
  W_ref13_Time n σ _ (bcd (fun h => ⟨by rw [tm]; congr 3; exact decide_eq_decide.2 (by omega), rfl⟩) (fun h => ⟨by rw [tm, decide_eq_false (by omega)], rfl⟩))
theorem ref13_Copied_ok {k0 k1 k2 k3 k4 k5 : D} {k : Co} (hk : CoAt σ k0 k1 k2 k3 k4 k5 k) (b0 : 8 * k.Own.length ≤ 140737488355328) (b1 : 32 * k.Routes.length ≤ 140737488355328) (b2 : 16 * k.Points.length ≤ 140737488355328)
    (b3 : 16 * k.Xs.length ≤ 140737488355328) (b4 : 64 * k.Lines.length ≤ 140737488355328) (b5 : 8 * k.Resets.length ≤ 140737488355328) :
    DCalls Try.prog n_ref13_Copied [coA k0 k1 k2 k3 k4 k5 k.Dirty] σ fun r s => ∃ d0 d1 d2 d3 d4 d5, r = .a (coA d0 d1 d2 d3 d4 d5 k.Dirty) ∧ CoOwn σ s d0 d1 d2 d3 d4 d5 k := by
  refine W_ref13_Copied k0 k1 k2 k3 k4 k5 k.Dirty σ _ ?_
  refine copy_ok hk.own (by simpa using b0) fun d0 s0 o0 => ?_
  have e0 := o0.ext
  refine copy_ok (hk.routes.ext e0) (by simpa using b1) fun d1 s1 o1 => ?_
  have e1 := e0.trans o1.ext
  refine copy_ok (hk.points.ext e1) (by simpa using b2) fun d2 s2 o2 => ?_
  have e2 := e1.trans o2.ext
  refine copy_ok (hk.xs.ext e2) (by simpa using b3) fun d3 s3 o3 => ?_
  have e3 := e2.trans o3.ext
  refine copy_ok (hk.lines.ext e3) (by simpa using b4) fun d4 s4 o4 => ?_
  have e4 := e3.trans o4.ext
  refine copy_ok (hk.resets.ext e4) (by simpa using b5) fun d5 s5 o5 => ?_
  have x1 := o0.ext' o1.ext
  have x2 := x1.ext' o2.ext
  have x3 := x2.ext' o3.ext
  have x4 := x3.ext' o4.ext
  have y1 := o1.from e0
  have y2 := y1.ext' o2.ext
  have y3 := y2.ext' o3.ext
  have y4 := y3.ext' o4.ext
  have z2 := o2.from e1
  have z3 := z2.ext' o3.ext
  have z4 := z3.ext' o4.ext
  have u3 := o3.from e2
  have u4 := u3.ext' o4.ext
  have w4 := o4.from e3
  refine ⟨d0, d1, d2, d3, d4, d5, rfl, x4.ext' o5.ext, y4.ext' o5.ext, z4.ext' o5.ext, u4.ext' o5.ext, w4.ext' o5.ext, o5.from e4, ?_⟩
  simp only [List.pairwise_cons, List.mem_cons, List.not_mem_nil, or_false, forall_eq_or_imp, forall_eq, List.Pairwise.nil, and_true, false_imp_iff, implies_true]
  exact ⟨⟨o1.apart o0.at_, o2.apart x1.at_, o3.apart x2.at_, o4.apart x3.at_, o5.apart x4.at_⟩, ⟨o2.apart y1.at_, o3.apart y2.at_, o4.apart y3.at_, o5.apart y4.at_⟩, ⟨o3.apart z2.at_, o4.apart z3.at_, o5.apart z4.at_⟩, ⟨o4.apart u3.at_, o5.apart u4.at_⟩, o5.apart w4.at_⟩
theorem ref13_Fits_ok {c0 c1 c2 c3 c4 : D} {c : Cf} (h : ∀ s, CfAt s c0 c1 c2 c3 c4 c) {k0 k1 k2 k3 k4 k5 : D} {k : Co} (hk : CoAt σ k0 k1 k2 k3 k4 k5 k) (b : Bool) :
    Pure Try.prog n_ref13_Fits [cfA c0 c1 c2 c3 c4 c, coA k0 k1 k2 k3 k4 k5 b] σ (.a (bA (k.fits c))) := by
  have l0 := hk.own.size
  have l1 := hk.routes.size
  have l2 := hk.points.size
  have l3 := hk.xs.size
  have l4 := hk.lines.size
  have l5 := hk.resets.size
  simp only [List.length_map] at l0 l1 l2 l3 l4 l5
  refine .of (W_ref13_Fits _ _ _ _ _ _ _ _ _ k0 k1 k2 k3 k4 k5 b σ _ ((h σ).secs.lenK ?_)) (flat_b _)
  intro R hR
  refine (ref06_Check_ok h).use ⟨_, rfl, ?_⟩
  obtain ⟨rows, hat, hlen, hrow⟩ := rts_froz fun s => (h s).rts
  have hl := (hat σ).size
  have bad : k.lens c = false → ∀ s, Ext σ s → (RV.a (.one (.bool false)) = .a (bA (k.fits c)) ∧ Ext σ s) := fun hb s he => ⟨by simp [Co.fits, hb], he⟩
  have nl : ¬ (k.Own.length = c.Secs.length ∧ k.Points.length = c.Secs.length ∧ k.Resets.length = c.Secs.length ∧ k.Routes.length = c.Rts.length ∧ k.Xs.length = c.Xs.length ∧ k.Lines.length = 4) → k.lens c = false := fun hn => by
    rw [Co.lens, decide_eq_false hn]
  refine bcn (fun hc => ⟨by simp [Co.fits, hc], .refl _⟩) (fun hc => ?_)
  simp only [List.length_map]
  refine hk.own.lenK (bcn (fun e => bad (nl fun g => by simp only [List.length_map] at e; omega) _ (.refl _)) (fun e0 => ?_))
  refine hk.points.lenK (bcn (fun e => bad (nl fun g => by simp only [List.length_map] at e; omega) _ (.refl _)) (fun e1 => ?_))
  refine hk.resets.lenK (bcn (fun e => bad (nl fun g => by simp only [List.length_map] at e; omega) _ (.refl _)) (fun e2 => ?_))
  refine hk.routes.lenK ((hat σ).lenK (bcn (fun e => bad (nl fun g => by simp only [List.length_map] at e; omega) _ (.refl _)) (fun e3 => ?_)))
  refine hk.xs.lenK ((h σ).xs.lenK (bcn (fun e => bad (nl fun g => by simp only [List.length_map] at e; omega) _ (.refl _)) (fun e4 => ?_)))
  refine hk.lines.lenK (bcn (fun e => bad (nl fun g => by simp only [List.length_map] at e; omega) _ (.refl _)) (fun e5 => hR σ ?_))
  simp only [List.length_map] at e0 e1 e2 e3 e4 e5
  have hL : k.lens c = true := decide_eq_true ⟨by omega, by omega, by omega, by omega, by omega, by omega⟩
  have hfit : k.fits c = k.parts c := by simp [Co.fits, hc, hL]
  rw [hfit]
  obtain ⟨_, s1, s2, s3, _, _⟩ := check_small hc
  clear bad nl hfit hL hR
  unfold Co.parts
  -- owners
  refine hk.own.lenK ⟨fun n s => s = σ ∧ Rng k.Own (fun r => (r.all fun o => decide (-2 ≤ o ∧ o ≤ (c.Rts.length : Int))) = k.Own.all fun o => decide (-2 ≤ o ∧ o ≤ (c.Rts.length : Int))) n, fun n _ => k.Own.length - n.toNat, ⟨rfl, .start rfl⟩, ?_⟩
  rintro n τ ⟨rfl, hr⟩
  refine bcd (fun hlt => ?_) (fun hge => ?_)
  · obtain ⟨j, x, rfl, hx, hj, hF, nx⟩ := hr.step (by simp) l0 hlt
    rw [List.all_cons] at hF
    have no : ¬ (-2 ≤ x ∧ x ≤ (c.Rts.length : Int)) → (RV.a (.one (.bool false)) = .a (bA ((k.Own.all fun o => decide (-2 ≤ o ∧ o ≤ (c.Rts.length : Int))) && ((k.Routes.zip c.Rts).all Rs.fits && ((k.Points ++ k.Xs).all Mv.fits && (k.Lines.all Ls.fits && k.Resets.all (tm 1)))))) ∧ Ext τ τ) := fun hn => by
      rw [decide_eq_false hn] at hF
      exact ⟨by rw [← hF]; rfl, .refl _⟩
    refine hk.own.load (map_get hx) c_int rfl ⟨x, rfl, bcd (fun e => no (by omega)) (fun g1 => (hat τ).lenK (bcd (fun e => no (by omega)) (fun g2 => ?_)))⟩
    rw [decide_eq_true ⟨by omega, by omega⟩, Bool.true_and] at hF
    exact andl rfl (nx _ hF)
  have hF0 := hr.done (by simp) hge
  rw [← hF0]
  show (∃ len2 : Nat, _)
  simp only [List.all_nil, Bool.true_and]
  clear hF0 hr hge
  -- routes
  have lz : (k.Routes.zip c.Rts).length = k.Routes.length := by rw [List.length_zip]; omega
  refine hk.routes.lenK ⟨fun n s => s = τ ∧ Rng (k.Routes.zip c.Rts) (fun r => r.all Rs.fits = (k.Routes.zip c.Rts).all Rs.fits) n, fun n _ => (k.Routes.zip c.Rts).length - n.toNat, ⟨rfl, .start rfl⟩, ?_⟩
  rintro n s ⟨rfl, hr⟩
  refine bcd (fun hlt => ?_) (fun hge => ?_)
  · obtain ⟨j, x, rfl, hx, hj, hF, nx⟩ := hr.step (by rw [List.length_map, lz]) (by omega) hlt
    obtain ⟨g1, g2⟩ := List.getElem?_zip_eq_some.1 hx
    rw [List.all_cons] at hF
    have bad : Rs.fits x = false → (RV.a (.one (.bool false)) = .a (bA ((k.Routes.zip c.Rts).all Rs.fits && ((k.Points ++ k.Xs).all Mv.fits && (k.Lines.all Ls.fits && k.Resets.all (tm 1))))) ∧ Ext s s) := fun hb => by
      rw [hb, Bool.false_and] at hF
      exact ⟨by rw [← hF]; rfl, .refl _⟩
    have hfx : Rs.fits x = (decide (0 ≤ x.1.State ∧ x.1.State ≤ 5) && decide (0 ≤ x.1.Next ∧ x.1.Next ≤ x.2.Path.length) && (tm 0 x.1.Since && tm 0 x.1.Mark)) := rfl
    refine hk.routes.load (map_get g1) c_RouteState rfl ⟨x.1.State, x.1.Since, x.1.Next, x.1.Mark, rfl, bcd (fun e => bad (by rw [hfx, decide_eq_false (p := 0 ≤ x.1.State ∧ _) (by omega)]; rfl)) (fun t1 => bcd (fun e => bad (by rw [hfx, decide_eq_false (p := 0 ≤ x.1.State ∧ _) (by omega)]; rfl)) (fun t2 => bcd (fun e => bad (by rw [hfx, decide_eq_false (p := 0 ≤ x.1.Next ∧ _) (by omega)]; simp)) (fun t3 => ?_)))⟩
    obtain ⟨row, hrw⟩ := get_of_lt (l := rows) (j := j) (by rw [lz] at hj; omega)
    obtain ⟨d1, d2, d3, rfl, q1, q2, q3⟩ := hrow j row x.2 hrw g2
    refine (hat s).load hrw c_Route rfl ⟨d1, rfl, (q1 s).lenK ?_⟩
    rw [List.length_map]
    refine bcd (fun e => bad (by rw [hfx, decide_eq_false (p := 0 ≤ x.1.Next ∧ _) (by omega)]; simp)) (fun t4 => (ref13_Time_ok _).use ⟨_, rfl, bcnot (fun e => bad (by rw [hfx, e]; simp)) (fun t5 => (ref13_Time_ok _).use ⟨_, rfl, bcnot (fun e => bad (by rw [hfx, e]; simp)) (fun t6 => ?_)⟩)⟩)
    rw [hfx, decide_eq_true ⟨by omega, by omega⟩, decide_eq_true ⟨by omega, by omega⟩, t5, t6] at hF
    exact andl rfl (nx (fun r => r.all Rs.fits = (k.Routes.zip c.Rts).all Rs.fits) hF)
  have hF0 := hr.done (by rw [List.length_map, lz]) hge
  rw [← hF0]
  simp only [List.all_nil, Bool.true_and]
  clear hF0 hr hge
  -- movers
  refine copy_ok hk.points (by rw [List.length_map]; omega) fun d sa oa => (oa.append (hk.xs.ext oa.ext) (by simp only [List.length_map]; omega) (by simp only [List.length_map]; omega) fun d1 s3 ho _ _ => ?_)
  rw [← List.map_append] at ho
  have he3 := ho.ext
  have lm : (k.Points ++ k.Xs).length < 2 ^ 60 := by rw [List.length_append]; omega
  refine ho.at_.lenK ⟨fun n s' => s' = s3 ∧ Rng (k.Points ++ k.Xs) (fun r => r.all Mv.fits = (k.Points ++ k.Xs).all Mv.fits) n, fun n _ => (k.Points ++ k.Xs).length - n.toNat, ⟨rfl, .start rfl⟩, ?_⟩
  rintro n s4 ⟨rfl, hr⟩
  refine bcd (fun hlt => ?_) (fun hge => ?_)
  · obtain ⟨j, x, rfl, hx, hj, hF, nx⟩ := hr.step (by simp) lm hlt
    rw [List.all_cons] at hF
    have no : x.fits = false → (RV.a (.one (.bool false)) = .a (bA ((k.Points ++ k.Xs).all Mv.fits && (k.Lines.all Ls.fits && k.Resets.all (tm 1)))) ∧ Ext s s4) := fun hn => by
      rw [hn] at hF
      exact ⟨by rw [← hF]; rfl, he3⟩
    have go : x.fits = true → _ := fun hn => by
      rw [hn, Bool.true_and] at hF
      exact andl (rfl : s4 = s4) (nx (fun r => r.all Mv.fits = (k.Points ++ k.Xs).all Mv.fits) hF)
    have hfx : x.fits = (decide (0 ≤ x.Cmd ∧ x.Cmd ≤ 2) && decide (-1 ≤ x.Other ∧ x.Other ≤ 4294967295)) := rfl
    refine ho.at_.load (map_get hx) c_Mover rfl ⟨x.Cmd, x.Other, rfl, bcd (fun e => no (by rw [hfx, decide_eq_false (by omega)]; rfl)) (fun t1 => bcd (fun e => no (by rw [hfx, decide_eq_false (by omega)]; rfl)) (fun t2 => ?_))⟩
    refine bcn (fun t3 => (ref13_Time_ok _).use ⟨_, rfl, bcnot (fun e => no ?_) (fun e => go ?_)⟩) (fun t3 => go (by rw [hfx, decide_eq_true ⟨by omega, by omega⟩, decide_eq_true ⟨by omega, by omega⟩]; rfl))
    · have := of_decide_eq_false e
      rw [hfx, decide_eq_false (p := -1 ≤ x.Other ∧ _) (by omega), Bool.and_false]
    · have := of_decide_eq_true e
      rw [hfx, decide_eq_true ⟨by omega, by omega⟩, decide_eq_true ⟨by omega, by omega⟩]; rfl
  have hF0 := hr.done (by simp) hge
  rw [← hF0]
  simp only [List.all_nil, Bool.true_and]
  clear hF0 hr hge
  -- resets
  refine (hk.resets.ext he3).lenK ⟨fun n s' => s' = s4 ∧ Rng k.Resets (fun r => r.all (tm 1) = k.Resets.all (tm 1)) n, fun n _ => k.Resets.length - n.toNat, ⟨rfl, .start rfl⟩, ?_⟩
  rintro n s5 ⟨rfl, hr⟩
  refine bcd (fun hlt => ?_) (fun hge => ?_)
  · obtain ⟨j, x, rfl, hx, hj, hF, nx⟩ := hr.step (by simp) l5 hlt
    rw [List.all_cons] at hF
    have no : ¬ (0 ≤ x ∧ x ≤ 4294967295 + 1) → (RV.a (.one (.bool false)) = .a (bA (k.Lines.all Ls.fits && k.Resets.all (tm 1))) ∧ Ext s s5) := fun hn => by
      rw [tm, decide_eq_false hn] at hF
      exact ⟨by rw [← hF, Bool.false_and, Bool.and_false], he3⟩
    refine (hk.resets.ext he3).load (map_get hx) c_int rfl ⟨x, rfl, bcd (fun e => no (by omega)) (fun g1 => bcd (fun e => no (by omega)) (fun g2 => ?_))⟩
    rw [tm, decide_eq_true ⟨by omega, by omega⟩, Bool.true_and] at hF
    exact andl rfl (nx _ hF)
  have hF0 := hr.done (by simp) hge
  rw [← hF0]
  simp only [List.all_nil, Bool.and_true]
  clear hF0 hr hge
  -- lines
  refine (hk.lines.ext he3).lenK ⟨fun n s' => s' = s5 ∧ Rng k.Lines (fun r => r.all Ls.fits = k.Lines.all Ls.fits) n, fun n _ => k.Lines.length - n.toNat, ⟨rfl, .start rfl⟩, ?_⟩
  rintro n s6 ⟨rfl, hr⟩
  refine bcd (fun hlt => ?_) (fun hge => ?_)
  · obtain ⟨j, x, rfl, hx, hj, hF, nx⟩ := hr.step (by simp) l4 hlt
    rw [List.all_cons] at hF
    have no : x.fits = false → (RV.a (.one (.bool false)) = .a (bA (k.Lines.all Ls.fits)) ∧ Ext s s6) := fun hn => by
      rw [hn] at hF
      exact ⟨by rw [← hF]; rfl, he3⟩
    have hfx : x.fits = ((tm 0 x.Ask && (tm 0 x.Done && (tm 0 x.Grant && (tm 0 x.Told && (tm 0 x.PAsk && (tm 0 x.PDone && tm 0 x.PGrant)))))) && tm 1 x.Since) := rfl
    refine (hk.lines.ext he3).load (map_get hx) c_LineState rfl ⟨x.Ask, x.Done, x.Grant, x.Told, x.PAsk, x.PDone, x.PGrant, x.Since, rfl, ?_⟩
    refine (ref13_Time_ok _).use ⟨_, rfl, bcnot (fun e => no (by rw [hfx, e]; rfl)) (fun t1 => ?_)⟩
    refine (ref13_Time_ok _).use ⟨_, rfl, bcnot (fun e => no (by rw [hfx, t1, e]; rfl)) (fun t2 => ?_)⟩
    refine (ref13_Time_ok _).use ⟨_, rfl, bcnot (fun e => no (by rw [hfx, t1, t2, e]; rfl)) (fun t3 => ?_)⟩
    refine (ref13_Time_ok _).use ⟨_, rfl, bcnot (fun e => no (by rw [hfx, t1, t2, t3, e]; rfl)) (fun t4 => ?_)⟩
    refine (ref13_Time_ok _).use ⟨_, rfl, bcnot (fun e => no (by rw [hfx, t1, t2, t3, t4, e]; rfl)) (fun t5 => ?_)⟩
    refine (ref13_Time_ok _).use ⟨_, rfl, bcnot (fun e => no (by rw [hfx, t1, t2, t3, t4, t5, e]; rfl)) (fun t6 => ?_)⟩
    refine (ref13_Time_ok _).use ⟨_, rfl, bcnot (fun e => no (by rw [hfx, t1, t2, t3, t4, t5, t6, e]; rfl)) (fun t7 => ?_)⟩
    refine bcd (fun e => no (by rw [hfx, tm, tm, tm, tm, tm, tm, tm, tm, decide_eq_false (p := 0 ≤ x.Since ∧ _) (by omega), Bool.and_false])) (fun t8 => bcd (fun e => no (by rw [hfx, tm, tm, tm, tm, tm, tm, tm, tm, decide_eq_false (p := 0 ≤ x.Since ∧ _) (by omega), Bool.and_false])) (fun t9 => ?_))
    have hs : tm 1 x.Since = true := decide_eq_true ⟨by omega, by omega⟩
    rw [hfx, t1, t2, t3, t4, t5, t6, t7, hs] at hF
    exact andl rfl (nx (fun r => r.all Ls.fits = k.Lines.all Ls.fits) hF)
  have hF0 := hr.done (by simp) hge
  rw [← hF0]
  exact ⟨rfl, he3⟩
end Go.Proofs.Yteflnjedfmmddaa
end
section
set_option linter.unusedVariables false
set_option linter.unusedSimpArgs false
namespace Go.Fw
/-- A step of a right path. -/
structure StOk (c : Cf) (r : Rt) (s : St) : Prop where
  sec : ∃ y, geti c.Secs s.Sec = some y ∧ (wpos (wayL y.Kind) s.In s.Out).isSome = true ∧ (r.Shunt = true → y.Line = 0)
theorem prunA_facts {c : Cf} (ht : topoOk c.Secs c.Jts = true) (r : Rt) (ex : Option Sg) : ∀ (l : List St) (a : Sg) (seen : List Int), prunA c r ex l a seen = true →
    (∀ s ∈ l, StOk c r s ∧ s.Sec ∉ seen) ∧ (l.map St.Sec).Nodup
  | [], a, seen, _ => ⟨fun s hs => by simp at hs, by simp⟩
  | s :: rest, a, seen, h => by
    rw [prunA, Bool.and_eq_true] at h
    obtain ⟨h1, h2⟩ := h
    obtain ⟨q1, q2⟩ := prunA_facts ht r ex rest _ _ h2
    unfold pstep at h1
    cases hn : nxt c.Jts a.Sec a.End_ with
    | none => rw [hn] at h1; cases h1
    | some p =>
      obtain ⟨q, i⟩ := p
      rw [hn] at h1
      obtain ⟨y, hy⟩ := nxt_sec ht hn
      simp only [hy, Option.getD_some, Bool.and_eq_true, decide_eq_true_eq, Bool.not_eq_true'] at h1
      obtain ⟨⟨⟨⟨⟨rfl, e2⟩, e3⟩, e4⟩, e5⟩, e6⟩ := h1
      refine ⟨fun x hx => ?_, ?_⟩
      · rcases List.mem_cons.1 hx with rfl | hx
        · refine ⟨⟨y, hy, e3, fun hs => ?_⟩, e4⟩
          rw [hs, Bool.true_and, decide_eq_false_iff_not] at e6
          exact Decidable.not_not.1 e6
        · obtain ⟨w1, w2⟩ := q1 x hx
          exact ⟨w1, fun hm => w2 (List.mem_cons_of_mem _ hm)⟩
      · rw [List.map_cons, List.nodup_cons]
        refine ⟨fun hm => ?_, q2⟩
        obtain ⟨x, hx, e⟩ := List.mem_map.1 hm
        exact (q1 x hx).2 (by rw [e]; simp)
/-- A right route. -/
structure RtOk (c : Cf) (r : Rt) : Prop where
  entry : ∃ a, geti c.Sigs r.Entry = some a
  exit_ : r.Exit = -1 ∨ ∃ x, geti c.Sigs r.Exit = some x
  len : 1 ≤ r.Path.length ∧ r.Path.length ≤ 8
  step : ∀ s ∈ r.Path, StOk c r s ∧ s.Sec ≠ c.approach r
  dup : (r.Path.map St.Sec).Nodup
  flank : r.Flank = c.flank (c.approach r) r.Path
  over : r.Overlap = c.overlap r
theorem routes_zero {c : Cf} : ∀ {l : List Rt}, c.routes l = 0 → ∀ r ∈ l, c.route r = 0
  | [], _, r, hr => by simp at hr
  | x :: l, h, r, hr => by
    rw [Cf.routes] at h
    split at h
    · rename_i hne; exact absurd h hne
    · rename_i he
      rcases List.mem_cons.1 hr with rfl | hr
      · simpa using he
      · exact routes_zero h r hr
theorem check_parts {c : Cf} (h : c.check = 0) : topoOk c.Secs c.Jts = true ∧ c.sigsOk = true ∧ c.xsOk = true ∧ c.Rts.length ≤ 12 ∧ c.routes c.Rts = 0 ∧ c.timing = true := by
  unfold Cf.check at h
  split at h
  · cases h
  split at h
  · cases h
  split at h
  · cases h
  split at h
  · cases h
  split at h
  · rename_i hne; exact absurd h hne
  split at h
  · rename_i h1 h2 h3 h4 h5 h6
    exact ⟨by simpa using h1, by simpa using h2, by simpa using h3, by omega, by simpa using h5, h6⟩
  · cases h
theorem path_ok {c : Cf} (ht : topoOk c.Secs c.Jts = true) {r : Rt} (h : c.route r = 0) : RtOk c r := by
  unfold Cf.route at h
  split at h
  · cases h
  split at h
  · cases h
  split at h
  · cases h
  rename_i h1 h2 h3
  have h1 : c.path r = true := by simpa using h1
  unfold Cf.path at h1
  cases hg : geti c.Sigs r.Entry with
  | none => rw [hg] at h1; cases h1
  | some a =>
    rw [hg] at h1
    simp only [Bool.and_eq_true, Bool.or_eq_true, decide_eq_true_eq] at h1
    obtain ⟨⟨e1, e2⟩, e3⟩ := h1
    obtain ⟨q1, q2⟩ := prunA_facts ht r _ _ _ _ e3
    have ha : c.approach r = a.Sec := by rw [Cf.approach, hg]; rfl
    refine ⟨⟨a, hg⟩, e1.imp id Option.isSome_iff_exists.1, e2, fun s hs => ⟨(q1 s hs).1, fun e => (q1 s hs).2 (by rw [e, ha]; simp)⟩, q2, Decidable.not_not.1 h2, Decidable.not_not.1 h3⟩
theorem check_rt {c : Cf} (h : c.check = 0) {r : Rt} (hr : r ∈ c.Rts) : RtOk c r := by
  obtain ⟨h1, _, _, _, h5, _⟩ := check_parts h
  exact path_ok h1 (routes_zero h5 r hr)
/-- A right flank's section. -/
structure NdOk (c : Cf) (a : Int) (path : List St) (n : Nd) : Prop where
  sec : ∃ y, geti c.Secs n.Sec = some y ∧ y.Kind = 1
  pos : 1 ≤ n.Pos ∧ n.Pos ≤ 2
  app : n.Sec ≠ a
  path : hasSec path n.Sec = false
def FlOk (c : Cf) (a : Int) (path : List St) (out : List Nd) : Prop := (∀ n ∈ out, NdOk c a path n) ∧ (out.map Nd.Sec).Nodup
theorem flankStep_ok {c : Cf} {a : Int} {p : List St} {s : St} {out : List Nd} {e : Int} (h : FlOk c a p out) : FlOk c a p (flankStep c a p s out e) := by
  unfold flankStep
  split
  · exact h
  · split
    · exact h
    · split
      · exact h
      · rename_i y hy
        split
        · rename_i hc
          obtain ⟨c1, c2, c3, c4, c5⟩ := hc
          refine ⟨fun n hn => ?_, ?_⟩
          · rcases List.mem_append.1 hn with hn | hn
            · exact h.1 n hn
            · rw [List.mem_singleton] at hn; subst hn
              exact ⟨⟨y, hy, c1⟩, by simp only; omega, c3, c4⟩
          · rw [List.map_append, List.nodup_append]
            refine ⟨h.2, by simp, fun x hx z hz => ?_⟩
            simp only [List.map_cons, List.map_nil, List.mem_singleton] at hz
            subst hz
            intro e
            obtain ⟨n, hn, e2⟩ := List.mem_map.1 hx
            rw [List.any_eq_false] at c5
            exact c5 n hn (by rw [e2, e]; simp)
        · exact h
theorem flankEnds_ok {c : Cf} {a : Int} {p : List St} {s : St} : ∀ (n : Nat) (e : Int) (out : List Nd), FlOk c a p out → FlOk c a p (flankEnds c a p s n e out)
  | 0, _, _, h => h
  | n + 1, e, out, h => by rw [flankEnds]; exact flankEnds_ok n _ _ (flankStep_ok h)
theorem flankRun_ok {c : Cf} {a : Int} {p : List St} : ∀ (l : List St) (out : List Nd), FlOk c a p out → FlOk c a p (flankRun c a p l out)
  | [], _, h => h
  | s :: r, out, h => by
    rw [flankRun]
    refine flankRun_ok r _ ?_
    split
    · exact h
    · exact flankEnds_ok _ _ _ h
theorem flank_ok (c : Cf) (a : Int) (p : List St) : FlOk c a p (c.flank a p) := flankRun_ok p [] ⟨fun n h => by simp at h, by simp⟩
theorem flank_len (c : Cf) (a : Int) (p : List St) : (c.flank a p).length ≤ 4 * p.length := by
  have := (flankRun_len c a p p []).2
  simpa [Cf.flank] using this
theorem RtOk.fl {c : Cf} {r : Rt} (h : RtOk c r) : FlOk c (c.approach r) r.Path r.Flank := by rw [h.flank]; exact flank_ok _ _ _
theorem RtOk.flen {c : Cf} {r : Rt} (h : RtOk c r) : r.Flank.length ≤ 32 := by
  rw [h.flank]; have := flank_len c (c.approach r) r.Path; have := h.len; omega
theorem check_xs {c : Cf} (h : c.check = 0) : (∀ x ∈ c.Xs, ∃ s, geti c.Secs x = some s ∧ s.Line = 0) ∧ c.Xs.Nodup ∧ c.Xs.length ≤ 4 := by
  obtain ⟨_, _, h3, _⟩ := check_parts h
  rw [Cf.xsOk, Bool.and_eq_true, xrun_iff] at h3
  exact ⟨h3.1.1, h3.1.2.1, of_decide_eq_true h3.2⟩
theorem geti_nat {α : Type} {l : List α} {j : Nat} : geti l (j : Int) = l[j]? := by unfold geti; rw [if_neg (by omega), Int.toNat_natCast]
theorem fits_check {c : Cf} {k : Co} (h : k.fits c = true) : c.check = 0 := by
  rw [Co.fits, Bool.and_eq_true] at h; exact of_decide_eq_true h.1
end Go.Fw
end
section
set_option linter.unusedVariables false
set_option linter.unusedSimpArgs false
namespace Go.Fw
def zRt : Rt := ⟨0, 0, [], [], [], false⟩
def Cf.rt (c : Cf) (i : Int) : Rt := (geti c.Rts i).getD zRt
def needOf (c : Cf) (s : St) : Option Nd :=
  match geti c.Secs s.Sec with
  | none => none
  | some y => match wpos (wayL y.Kind) s.In s.Out with
    | none => none
    | some p => if p = 0 then none else some ⟨s.Sec, p⟩
def Cf.needs (c : Cf) (r : Rt) : List Nd := r.Path.filterMap (needOf c) ++ r.Flank
def Cf.Needs (c : Cf) (i : Int) : List Nd := c.needs (c.rt i)
/-- The crossings on a path, counted from j on. -/
def crossL (path : List St) : List Int → Nat → List Int
  | [], _ => []
  | x :: r, j => if hasSec path x = true then (j : Int) :: crossL path r (j + 1) else crossL path r (j + 1)
def Cf.Cross (c : Cf) (i : Int) : List Int := crossL (c.rt i).Path c.Xs 0
theorem rt_some {c : Cf} {i : Int} {r : Rt} (h : geti c.Rts i = some r) : c.rt i = r := by unfold Cf.rt; rw [h]; rfl
theorem rt_none {c : Cf} {i : Int} (h : geti c.Rts i = none) : c.rt i = zRt := by unfold Cf.rt; rw [h]; rfl
theorem needs_nil {c : Cf} {i : Int} (h : geti c.Rts i = none) : c.Needs i = [] := by unfold Cf.Needs; rw [rt_none h]; rfl
theorem cross_nil {c : Cf} {i : Int} (h : geti c.Rts i = none) : c.Cross i = [] := by
  unfold Cf.Cross; rw [rt_none h]
  generalize (0 : Nat) = j
  induction c.Xs generalizing j with
  | nil => rfl
  | cons x r ih => rw [crossL, if_neg (by simp [hasSec, zRt])]; exact ih _
theorem crossL_len (path : List St) : ∀ (l : List Int) (j : Nat), (crossL path l j).length ≤ l.length
  | [], _ => by simp [crossL]
  | x :: r, j => by
    rw [crossL]; have := crossL_len path r (j + 1)
    split <;> simp <;> omega
/-- A crossing of a path is one of the station's. -/
theorem crossL_mem (path : List St) : ∀ (l : List Int) (j : Nat) (n : Int), n ∈ crossL path l j → ∃ (i : Nat) (x : Int), n = ((j + i : Nat) : Int) ∧ l[i]? = some x ∧ hasSec path x = true
  | [], j, n, h => by simp [crossL] at h
  | x :: r, j, n, h => by
    have go : n ∈ crossL path r (j + 1) → ∃ (i : Nat) (y : Int), n = ((j + i : Nat) : Int) ∧ (x :: r)[i]? = some y ∧ hasSec path y = true := fun h => by
      obtain ⟨i, y, h1, h2, h3⟩ := crossL_mem path r (j + 1) n h
      exact ⟨i + 1, y, by omega, by simpa using h2, h3⟩
    rw [crossL] at h
    split at h
    · rename_i hx
      rcases List.mem_cons.1 h with rfl | h
      · exact ⟨0, x, by simp, rfl, hx⟩
      · exact go h
    · exact go h
theorem needs_len (c : Cf) (r : Rt) : (c.needs r).length ≤ r.Path.length + r.Flank.length := by
  unfold Cf.needs
  rw [List.length_append]
  have := List.length_filterMap_le (needOf c) r.Path
  omega
/-- What a right route needs lies in the station. -/
theorem needs_sec {c : Cf} {r : Rt} (h : RtOk c r) {n : Nd} (hn : n ∈ c.needs r) : (∃ y, geti c.Secs n.Sec = some y) ∧ 1 ≤ n.Pos ∧ n.Pos ≤ 2 := by
  unfold Cf.needs at hn
  rcases List.mem_append.1 hn with hn | hn
  · obtain ⟨s, hs, e⟩ := List.mem_filterMap.1 hn
    obtain ⟨⟨y, hy, _⟩⟩ := (h.step s hs).1
    unfold needOf at e
    rw [hy] at e
    simp only at e
    cases hp : wpos (wayL y.Kind) s.In s.Out with
    | none => rw [hp] at e; cases e
    | some p =>
      rw [hp] at e
      simp only at e
      split at e
      · cases e
      · rename_i hp0
        injection e with e; subst e
        refine ⟨⟨y, hy⟩, ?_⟩
        have key : ∀ (l : List (Int × Int × Int)), (∀ w ∈ l, w.2.2 = 0 ∨ w.2.2 = 1 ∨ w.2.2 = 2) → ∀ p, wpos l s.In s.Out = some p → p = 0 ∨ p = 1 ∨ p = 2 := by
          intro l
          induction l with
          | nil => intro _ p h; cases h
          | cons w r ih =>
            intro hw p h
            rw [wpos] at h
            split at h
            · injection h with h; rw [← h]; exact hw w (by simp)
            · exact ih (fun w hw' => hw w (by simp [hw'])) p h
        have hw : ∀ w ∈ wayL y.Kind, w.2.2 = 0 ∨ w.2.2 = 1 ∨ w.2.2 = 2 := by
          unfold wayL
          split
          · simp
          split
          · simp
          split
          · simp
          · simp
        have := key _ hw p hp
        simp only
        omega
  · have := h.fl.1 n hn
    obtain ⟨y, hy, _⟩ := this.sec
    exact ⟨⟨y, hy⟩, this.pos⟩
end Go.Fw
end
section
set_option linter.unusedVariables false
set_option linter.unusedSimpArgs false
namespace Go.Proofs.Yteflnjedfmmddaa
open Go.Fw Go.Proofs Go.RowKit
variable {σ : Store}
section
variable {c0 c1 c2 c3 c4 : D} {c : Cf} (h : ∀ s, CfAt s c0 c1 c2 c3 c4 c)
include h
/-- A route's lists, that lie nowhere in the store. -/
theorem rt_frz {i : Nat} {x : Rt} (hx : c.Rts[i]? = some x) : ∃ rows d1 d2 d3, (∀ s, At Try.prog s t_Route c4 rows) ∧ rows.length = c.Rts.length ∧ rows[i]? = some [iD x.Entry, iD x.Exit, d1, d2, d3, .bool x.Shunt] ∧
    (∀ s, At Try.prog s t_Step d1 (x.Path.map St.enc)) ∧ (∀ s, At Try.prog s t_Need d2 (x.Flank.map Nd.enc)) ∧ (∀ s, At Try.prog s t_int d3 (x.Overlap.map encI)) := by
  obtain ⟨rows, hat, hlen, hrow⟩ := rts_froz fun s => (h s).rts
  obtain ⟨row, hrw⟩ := get_of_lt (l := rows) (j := i) (by have := (List.getElem?_eq_some_iff.1 hx).1; omega)
  obtain ⟨d1, d2, d3, rfl, q1, q2, q3⟩ := hrow i row x hrw hx
  exact ⟨rows, d1, d2, d3, hat, hlen, hrw, q1, q2, q3⟩
theorem mover_route_ok (i : Int) : DCalls Try.prog n_mover_route [cfA c0 c1 c2 c3 c4 c, iA i] σ fun r s => s = σ ∧ ∃ d1 d2 d3, r = .tup [rtA d1 d2 d3 (c.rt i), bA (geti c.Rts i).isSome] ∧
    (∀ s, At Try.prog s t_Step d1 ((c.rt i).Path.map St.enc)) ∧ (∀ s, At Try.prog s t_Need d2 ((c.rt i).Flank.map Nd.enc)) ∧ (∀ s, At Try.prog s t_int d3 ((c.rt i).Overlap.map encI)) := by
  have no : geti c.Rts i = none → (σ = σ ∧ ∃ d1 d2 d3, RV.tup [.agg [iD 0, iD 0, .nils, .nils, .nils, .bool false], bA false] = .tup [rtA d1 d2 d3 (c.rt i), bA (geti c.Rts i).isSome] ∧
    (∀ s, At Try.prog s t_Step d1 ((c.rt i).Path.map St.enc)) ∧ (∀ s, At Try.prog s t_Need d2 ((c.rt i).Flank.map Nd.enc)) ∧ (∀ s, At Try.prog s t_int d3 ((c.rt i).Overlap.map encI))) := fun e => by
    rw [rt_none e, e]
    exact ⟨rfl, _, _, _, rfl, fun _ => .nil, fun _ => .nil, fun _ => .nil⟩
  obtain ⟨rows, hat, hlen⟩ := rts_len (h σ)
  refine W_mover_route _ _ _ _ _ _ _ _ _ i σ _ (bcd (fun e => no (geti_neg e)) (fun e0 => hat.lenK (bcd (fun e => no (geti_ge (by omega))) (fun e1 => ?_))))
  obtain ⟨x, hx⟩ := geti_ex (l := c.Rts) (i := i) e0 (by omega)
  obtain ⟨rows, d1, d2, d3, hat, hlen, hrow, q1, q2, q3⟩ := rt_frz h (geti_some hx).2.2
  refine (hat σ).load hrow c_Route (by omega) ⟨_, _, _, _, _, _, rfl, ?_⟩
  rw [rt_some hx, hx]
  exact ⟨rfl, _, _, _, rfl, q1, q2, q3⟩
theorem mover_Needs_ok (i : Int) (h1 : (c.rt i).Path.length ≤ 2 ^ 20) (h2 : (c.rt i).Flank.length ≤ 2 ^ 20) :
    DCalls Try.prog n_mover_Needs [cfA c0 c1 c2 c3 c4 c, iA i] σ (SlPost σ t_Need ((c.Needs i).map Nd.enc)) := by
  refine (W_mover_Needs _ _ _ _ _ _ _ _ _ i σ _ ?_).ret (Q := fun r s => ∃ r' σ', Ret Try.prog σ s r σ' r' ∧ SlPost σ t_Need ((c.Needs i).map Nd.enc) r' σ') (fun r s h => h)
  refine (mover_route_ok h i).mono ?_
  rintro r s ⟨rfl, d1, d2, d3, rfl, q1, q2, q3⟩
  rw [Cf.Needs]
  generalize c.rt i = x at *
  refine ⟨_, _, _, _, _, _, _, rfl, (q1 s).lenK ⟨fun d n s' => ∃ out : List Nd, Own Try.prog s s' t_Need d (out.map Nd.enc) ∧ (out.length : Int) ≤ n ∧ Rng x.Path (fun r => out ++ r.filterMap (needOf c) = x.Path.filterMap (needOf c)) n,
    fun _ n _ => x.Path.length - n.toNat, ⟨[], .nil _ (.refl _), by simp, .start rfl⟩, ?_⟩⟩
  rintro d n s' ⟨out, ho, hol, hr⟩
  rw [List.length_map]
  refine bcd (fun hlt => ?_) (fun hge => ?_)
  · obtain ⟨j, y, rfl, hy, hj, hF, nx⟩ := hr.step rfl (by omega) hlt
    rw [List.filterMap_cons] at hF
    have skip : needOf c y = none → ∀ s2, Ext s' s2 → (∃ out : List Nd, Own Try.prog s s2 t_Need d (out.map Nd.enc) ∧ (out.length : Int) ≤ w64 ((j : Int) + 1) ∧ Rng x.Path (fun r => out ++ r.filterMap (needOf c) = x.Path.filterMap (needOf c)) (w64 ((j : Int) + 1))) ∧
        x.Path.length - (w64 ((j : Int) + 1)).toNat < x.Path.length - (j : Int).toNat := fun hn s2 he => by
      rw [hn] at hF
      have := nx (fun r => out ++ r.filterMap (needOf c) = x.Path.filterMap (needOf c)) hF
      exact ⟨⟨out, ho.ext' he, by rw [w64_succ (by omega)]; omega, this.1⟩, this.2⟩
    refine (q1 s').load (map_get hy) c_Step rfl ⟨y.Sec, y.In, y.Out, rfl, bcd (fun e => ⟨rfl, skip (by unfold needOf; rw [geti_neg e]) _ (.refl _)⟩) (fun e0 => (h s').secs.lenK ?_)⟩
    rw [List.length_map]
    refine bcd (fun e => ⟨rfl, skip (by unfold needOf; rw [geti_ge e]) _ (.refl _)⟩) (fun e1 => ?_)
    obtain ⟨z, hz⟩ := geti_ex e0 e1
    have hneed : needOf c y = match wpos (wayL z.Kind) y.In y.Out with | none => none | some p => if p = 0 then none else some ⟨y.Sec, p⟩ := by unfold needOf; rw [hz] <;> rfl
    refine (h s').secs.load (map_get (geti_some hz).2.2) c_Section (by omega) ⟨z.Kind, rfl, (topo_Pos_ok _ _ _).use (opt1_ex _ ?_)⟩
    cases hp : wpos (wayL z.Kind) y.In y.Out with
    | none => rw [hp] at hneed; exact bc (fun e => by cases e) (fun _ => ⟨rfl, skip hneed _ (.refl _)⟩)
    | some p =>
      rw [hp] at hneed
      refine bc (fun _ => bcn (fun e => ?_) (fun e => ⟨rfl, skip (by rw [hneed]; exact if_pos e) _ (.refl _)⟩)) (fun e => by cases e)
      have hsome : needOf c y = some ⟨y.Sec, p⟩ := by rw [hneed]; exact if_neg e
      rw [hsome] at hF
      refine newObj_intro fun id s2 hid _ he hs2 => (ho.ext' he).append (At.fresh hs2 (by simp) rfl) (by simp; omega) (by simp; omega) fun d4 s5 ho5 _ _ => ⟨rfl, ?_⟩
      have := nx (fun r => (out ++ [⟨y.Sec, p⟩]) ++ r.filterMap (needOf c) = x.Path.filterMap (needOf c)) (by rw [List.append_assoc]; exact hF)
      exact ⟨⟨out ++ [⟨y.Sec, p⟩], by rw [List.map_append]; exact ho5, by rw [w64_succ (by omega), List.length_append, List.length_singleton]; omega, this.1⟩, this.2⟩
  · have hF := hr.done rfl hge
    have hn : n ≤ x.Path.length := by obtain ⟨j, rfl, hj, _⟩ := hr; omega
    rw [List.filterMap_nil, List.append_nil] at hF
    subst hF
    refine ho.append (q2 s') (by simp only [List.length_map]; omega) (by simp only [List.length_map]; omega) fun d4 s5 ho5 _ _ => ?_
    rw [← List.map_append] at ho5
    exact own_fin ho5 (flatNd _)
theorem mover_Crossings_ok (i : Int) (h1 : c.Xs.length ≤ 2 ^ 20) :
    DCalls Try.prog n_mover_Crossings [cfA c0 c1 c2 c3 c4 c, iA i] σ (SlPost σ t_int ((c.Cross i).map encI)) := by
  refine (W_mover_Crossings _ _ _ _ _ _ _ _ _ i σ _ ?_).ret (Q := fun r s => ∃ r' σ', Ret Try.prog σ s r σ' r' ∧ SlPost σ t_int ((c.Cross i).map encI) r' σ') (fun r s h => h)
  refine (mover_route_ok h i).mono ?_
  rintro r s ⟨rfl, d1, d2, d3, rfl, q1, q2, q3⟩
  rw [Cf.Cross]
  generalize c.rt i = x at *
  refine ⟨_, _, _, _, _, _, _, rfl, (h s).xs.lenK ⟨fun d n s' => ∃ out : List Int, Own Try.prog s s' t_int d (out.map encI) ∧ (out.length : Int) ≤ n ∧ Rng c.Xs (fun r => out ++ crossL x.Path r n.toNat = crossL x.Path c.Xs 0) n,
    fun _ n _ => c.Xs.length - n.toNat, ⟨[], .nil _ (.refl _), by simp, .start rfl⟩, ?_⟩⟩
  rintro d n s' ⟨out, ho, hol, hr⟩
  rw [List.length_map]
  refine bcd (fun hlt => ?_) (fun hge => ?_)
  · obtain ⟨j, y, rfl, hy, hj, hF, nx⟩ := hr.step rfl (by omega) hlt
    have hw : w64 ((j : Int) + 1) = ((j + 1 : Nat) : Int) := w64_succ (by omega)
    have go : ∀ out2 d2 s2, out2 ++ crossL x.Path (c.Xs.drop (j + 1)) (j + 1) = crossL x.Path c.Xs 0 → Own Try.prog s s2 t_int d2 (out2.map encI) → out2.length ≤ j + 1 → (∃ out : List Int, Own Try.prog s s2 t_int d2 (out.map encI) ∧ (out.length : Int) ≤ w64 ((j : Int) + 1) ∧ Rng c.Xs (fun r => out ++ crossL x.Path r (w64 ((j : Int) + 1)).toNat = crossL x.Path c.Xs 0) (w64 ((j : Int) + 1))) ∧
        c.Xs.length - (w64 ((j : Int) + 1)).toNat < c.Xs.length - (j : Int).toNat := fun out2 d2 s2 he ho2 hl => by
      have := nx (fun r => out2 ++ crossL x.Path r (w64 ((j : Int) + 1)).toNat = crossL x.Path c.Xs 0) (by rw [hw, Int.toNat_natCast]; exact he)
      exact ⟨⟨out2, ho2, by rw [hw]; omega, this.1⟩, this.2⟩
    rw [Int.toNat_natCast, crossL] at hF
    refine (h s').xs.load (map_get hy) c_int rfl ⟨y, rfl, newObj_intro fun id s2 hid _ he hs2 => box_store hs2 fun s3 hs3 hs3' => ?_⟩
    have he3 : Ext s' s3 := fun i hi => by
      rw [hs3' i (fun e => hi (by rw [e]; exact hid))]; exact he i hi
    have ho3 := ho.ext' he3
    refine (ContainsFunc_Step_ok (p := fun x => x.Sec == y) (q1 s3) (cap_fn hs3 fun x _ => W_mover_Crossings_1 x.Sec x.In x.Out _ s3 _ ⟨_, _, _, rfl, _, box_row hs3, y, rfl, rfl, rfl⟩)).use ⟨_, rfl, ?_⟩
    refine bc (fun e => ?_) (fun e => ⟨rfl, go out _ _ (by rw [if_neg (fun g => by have : hasSec x.Path y = false := e; rw [this] at g; cases g)] at hF; exact hF) ho3 (by omega)⟩)
    rw [if_pos (show hasSec x.Path y = true from e)] at hF
    refine newObj_intro fun id1 s4 hid1 _ he4 hs4 => (ho3.ext' he4).append (At.fresh hs4 (by simp) rfl) (by simp; omega) (by simp; omega) fun d4 s5 ho5 _ _ => ⟨rfl, go (out ++ [(j : Int)]) _ _ (by rw [List.append_assoc]; exact hF) (by rw [List.map_append]; exact ho5) (by simp; omega)⟩
  · have hF := hr.done rfl hge
    rw [crossL, List.append_nil] at hF
    subst hF
    exact own_fin ho (flatI _)
theorem ref12_Needs_ok (i : Int) (h1 : (c.rt i).Path.length ≤ 2 ^ 20) (h2 : (c.rt i).Flank.length ≤ 2 ^ 20) :
    DCalls Try.prog n_ref12_Needs [cfA c0 c1 c2 c3 c4 c, iA i] σ (SlPost σ t_Need ((c.Needs i).map Nd.enc)) := by
  refine (W_ref12_Needs _ _ _ _ _ _ _ _ _ i σ _ ?_).ret (Q := fun r s => ∃ r' σ', Ret Try.prog σ s r σ' r' ∧ SlPost σ t_Need ((c.Needs i).map Nd.enc) r' σ') (fun r s h => h)
  intro R hR
  have nil : geti c.Rts i = none → ∃ r' σ', Ret Try.prog σ σ (.a (.one .nils)) σ' r' ∧ SlPost σ t_Need ((c.Needs i).map Nd.enc) r' σ' := fun e => by
    rw [needs_nil e]; exact own_fin (.nil _ (.refl _)) (flatNd _)
  obtain ⟨rows, hat, hlen⟩ := rts_len (h σ)
  refine bcd (fun e => nil (geti_neg e)) (fun e0 => hat.lenK (bcd (fun e => nil (geti_ge (by omega))) (fun e1 => hR σ ?_)))
  obtain ⟨x, hx⟩ := geti_ex (l := c.Rts) (i := i) e0 (by omega)
  clear hR nil hat
  rw [Cf.Needs]
  rw [rt_some hx] at *
  obtain ⟨rows, d1, d2, d3, hat, hlen, hrow, q1, q2, q3⟩ := rt_frz h (geti_some hx).2.2
  refine (hat σ).load hrow c_Route (by omega) ⟨d1, rfl, (q1 σ).lenK ⟨fun d n s' => ∃ out : List Nd, Own Try.prog σ s' t_Need d (out.map Nd.enc) ∧ (out.length : Int) ≤ n ∧ Rng x.Path (fun r => out ++ r.filterMap (needOf c) = x.Path.filterMap (needOf c)) n,
    fun _ n _ => x.Path.length - n.toNat, ⟨[], .nil _ (.refl _), by simp, .start rfl⟩, ?_⟩⟩
  rintro d n s' ⟨out, ho, hol, hr⟩
  rw [List.length_map]
  refine bcd (fun hlt => ?_) (fun hge => ?_)
  · obtain ⟨j, y, rfl, hy, hj, hF, nx⟩ := hr.step rfl (by omega) hlt
    rw [List.filterMap_cons] at hF
    have skip : needOf c y = none → ∀ s2, Ext s' s2 → (∃ out : List Nd, Own Try.prog σ s2 t_Need d (out.map Nd.enc) ∧ (out.length : Int) ≤ w64 ((j : Int) + 1) ∧ Rng x.Path (fun r => out ++ r.filterMap (needOf c) = x.Path.filterMap (needOf c)) (w64 ((j : Int) + 1))) ∧
        x.Path.length - (w64 ((j : Int) + 1)).toNat < x.Path.length - (j : Int).toNat := fun hn s2 he => by
      rw [hn] at hF
      have := nx (fun r => out ++ r.filterMap (needOf c) = x.Path.filterMap (needOf c)) hF
      exact ⟨⟨out, ho.ext' he, by rw [w64_succ (by omega)]; omega, this.1⟩, this.2⟩
    refine (q1 s').load (map_get hy) c_Step rfl ⟨y.Sec, y.In, y.Out, rfl, bcd (fun e => skip (by unfold needOf; rw [geti_neg e]) _ (.refl _)) (fun e0 => (h s').secs.lenK ?_)⟩
    rw [List.length_map]
    refine bcd (fun e => skip (by unfold needOf; rw [geti_ge e]) _ (.refl _)) (fun e1 => ?_)
    obtain ⟨z, hz⟩ := geti_ex e0 e1
    have hneed : needOf c y = match wpos (wayL z.Kind) y.In y.Out with | none => none | some p => if p = 0 then none else some ⟨y.Sec, p⟩ := by unfold needOf; rw [hz] <;> rfl
    refine (h s').secs.load (map_get (geti_some hz).2.2) c_Section (by omega) ⟨z.Kind, rfl, (ref05_Pos_ok _ _ _).use (opt1_ex _ ?_)⟩
    cases hp : wpos (wayL z.Kind) y.In y.Out with
    | none => rw [hp] at hneed; exact bc (fun e => by cases e) (fun _ => skip hneed _ (.refl _))
    | some p =>
      rw [hp] at hneed
      refine bc (fun _ => bcn (fun e => ?_) (fun e => skip (by rw [hneed]; exact if_pos e) _ (.refl _))) (fun e => by cases e)
      have hsome : needOf c y = some ⟨y.Sec, p⟩ := by rw [hneed]; exact if_neg e
      rw [hsome] at hF
      refine newObj_intro fun id s2 hid _ he hs2 => (ho.ext' he).append (At.fresh hs2 (by simp) rfl) (by simp; omega) (by simp; omega) fun d4 s5 ho5 _ _ => ?_
      have := nx (fun r => (out ++ [⟨y.Sec, p⟩]) ++ r.filterMap (needOf c) = x.Path.filterMap (needOf c)) (by rw [List.append_assoc]; exact hF)
      exact ⟨⟨out ++ [⟨y.Sec, p⟩], by rw [List.map_append]; exact ho5, by rw [w64_succ (by omega), List.length_append, List.length_singleton]; omega, this.1⟩, this.2⟩
  · have hF := hr.done rfl hge
    have hn : n ≤ x.Path.length := by obtain ⟨j, rfl, hj, _⟩ := hr; omega
    rw [List.filterMap_nil, List.append_nil] at hF
    subst hF
    refine (hat s').load hrow c_Route (by omega) ⟨d2, rfl, ho.append (q2 s') (by simp only [List.length_map]; omega) (by simp only [List.length_map]; omega) fun d4 s5 ho5 _ _ => ?_⟩
    rw [← List.map_append] at ho5
    exact own_fin ho5 (flatNd _)
theorem ref12_Crossings_ok (i : Int) (h1 : c.Xs.length ≤ 2 ^ 20) :
    DCalls Try.prog n_ref12_Crossings [cfA c0 c1 c2 c3 c4 c, iA i] σ (SlPost σ t_int ((c.Cross i).map encI)) := by
  refine (W_ref12_Crossings _ _ _ _ _ _ _ _ _ i σ _ ?_).ret (Q := fun r s => ∃ r' σ', Ret Try.prog σ s r σ' r' ∧ SlPost σ t_int ((c.Cross i).map encI) r' σ') (fun r s h => h)
  intro R hR
  have nil : geti c.Rts i = none → ∃ r' σ', Ret Try.prog σ σ (.a (.one .nils)) σ' r' ∧ SlPost σ t_int ((c.Cross i).map encI) r' σ' := fun e => by
    rw [cross_nil e]; exact own_fin (.nil _ (.refl _)) (flatI _)
  obtain ⟨rows, hat, hlen⟩ := rts_len (h σ)
  refine bcd (fun e => nil (geti_neg e)) (fun e0 => hat.lenK (bcd (fun e => nil (geti_ge (by omega))) (fun e1 => hR σ ?_)))
  obtain ⟨x, hx⟩ := geti_ex (l := c.Rts) (i := i) e0 (by omega)
  clear hR nil hat
  rw [Cf.Cross, rt_some hx]
  obtain ⟨rows, d1, d2, d3, hat, hlen, hrow, q1, q2, q3⟩ := rt_frz h (geti_some hx).2.2
  have hps := (q1 σ).size
  rw [List.length_map] at hps
  refine (h σ).xs.lenK ⟨fun d n s' => ∃ out : List Int, Own Try.prog σ s' t_int d (out.map encI) ∧ (out.length : Int) ≤ n ∧ Rng c.Xs (fun r => out ++ crossL x.Path r n.toNat = crossL x.Path c.Xs 0) n,
    fun _ n _ => c.Xs.length - n.toNat, ⟨[], .nil _ (.refl _), by simp, .start rfl⟩, ?_⟩
  rintro d n s' ⟨out, ho, hol, hr⟩
  rw [List.length_map]
  refine bcd (fun hlt => ?_) (fun hge => ?_)
  · obtain ⟨j, y, rfl, hy, hj, hF, nx⟩ := hr.step rfl (by omega) hlt
    have hw : w64 ((j : Int) + 1) = ((j + 1 : Nat) : Int) := w64_succ (by omega)
    have go : ∀ out2 d2 s2, out2 ++ crossL x.Path (c.Xs.drop (j + 1)) (j + 1) = crossL x.Path c.Xs 0 → Own Try.prog σ s2 t_int d2 (out2.map encI) → out2.length ≤ j + 1 → (∃ out : List Int, Own Try.prog σ s2 t_int d2 (out.map encI) ∧ (out.length : Int) ≤ w64 ((j : Int) + 1) ∧ Rng c.Xs (fun r => out ++ crossL x.Path r (w64 ((j : Int) + 1)).toNat = crossL x.Path c.Xs 0) (w64 ((j : Int) + 1))) ∧
        c.Xs.length - (w64 ((j : Int) + 1)).toNat < c.Xs.length - (j : Int).toNat := fun out2 d2 s2 he ho2 hl => by
      have := nx (fun r => out2 ++ crossL x.Path r (w64 ((j : Int) + 1)).toNat = crossL x.Path c.Xs 0) (by rw [hw, Int.toNat_natCast]; exact he)
      exact ⟨⟨out2, ho2, by rw [hw]; omega, this.1⟩, this.2⟩
    rw [Int.toNat_natCast, crossL] at hF
    refine (h s').xs.load (map_get hy) c_int rfl ⟨y, rfl, (hat s').load hrow c_Route (by omega) ⟨d1, rfl, (q1 s').lenK ⟨fun d2 n2 s2 => d2 = d ∧ s2 = s' ∧ Rng x.Path (fun r => hasSec r y = hasSec x.Path y) n2, fun _ n2 _ => x.Path.length - n2.toNat, ⟨rfl, rfl, .start rfl⟩, ?_⟩⟩⟩
    rintro _ n2 _ ⟨rfl, rfl, hr2⟩
    rw [List.length_map]
    refine bcd (fun hlt2 => ?_) (fun hge2 => ?_)
    · obtain ⟨j2, z, rfl, hz, hj2, hF2, nx2⟩ := hr2.step rfl hps hlt2
      unfold hasSec at hF2
      rw [List.any_cons] at hF2
      refine (q1 _).load (map_get hz) c_Step rfl ⟨z.Sec, z.In, z.Out, rfl, bce (fun e => ?_) (fun e => andll rfl rfl (nx2 (fun r => hasSec r y = hasSec x.Path y) ?_))⟩
      · have hs : hasSec x.Path y = true := by unfold hasSec; rw [← hF2, e]; simp
        rw [if_pos hs] at hF
        exact newObj_intro fun id1 s4 hid1 _ he4 hs4 => (ho.ext' he4).append (At.fresh hs4 (by simp) rfl) (by simp; omega) (by simp; omega) fun d4 s5 ho5 _ _ => go (out ++ [(j : Int)]) _ _ (by rw [List.append_assoc]; exact hF) (by rw [List.map_append]; exact ho5) (by simp; omega)
      · rw [show (z.Sec == y) = false by simpa using e, Bool.false_or] at hF2; exact hF2
    · have hs : false = hasSec x.Path y := hr2.done rfl hge2
      rw [if_neg (by rw [← hs]; simp)] at hF
      exact go out _ _ hF ho (by omega)
  · have hF := hr.done rfl hge
    rw [crossL, List.append_nil] at hF
    subst hF
    exact own_fin ho (flatI _)
end
end Go.Proofs.Yteflnjedfmmddaa
end
section
set_option linter.unusedVariables false
set_option linter.unusedSimpArgs false
namespace Go.Fw
structure Br where
  Kind : Int
  Route : Int
  Sec : Int
  deriving DecidableEq
def Br.enc (b : Br) : List D := [iD b.Kind, iD b.Route, iD b.Sec]
def opt (b : Bool) (x : Br) : List Br := if b = true then [x] else []
def ownAt (k : Co) (s : Int) : Int := (geti k.Own s).getD 0
def stAt (k : Co) (i : Int) : Int := ((geti k.Routes i).map Rs.State).getD 0
def nextAt (k : Co) (i : Int) : Int := ((geti k.Routes i).map Rs.Next).getD 0
def cmdAt (l : List Mv) (i : Int) : Int := ((geti l i).map Mv.Cmd).getD 0
def xAt (c : Cf) (i : Int) : Int := (geti c.Xs i).getD 0
def runsB (st : Int) : Bool := inL [1, 2, 3] st
/-- From where on a route must own its path. -/
def fromOf (k : Co) (r len : Nat) : Nat := if runsB (stAt k r) = true then 0 else if inL [4, 5] (stAt k r) = true then (nextAt k r).toNat else len
def ownP (k : Co) (r : Nat) : List St → List Br
  | [] => []
  | s :: l => opt (ownAt k s.Sec != (r : Int) + 1) ⟨2, r, s.Sec⟩ ++ ownP k r l
def ownsAll (k : Co) : List Rt → Nat → List Br
  | [], _ => []
  | x :: l, r => ownP k r (x.Path.drop (fromOf k r x.Path.length)) ++ ownsAll k l (r + 1)
def idles (k : Co) : List Int → Nat → List Br
  | [], _ => []
  | o :: l, s => opt (decide (o > 0) && inL [0] (stAt k (o - 1))) ⟨3, o - 1, s⟩ ++ idles k l (s + 1)
def needB (k : Co) (r : Nat) : List Nd → List Br
  | [] => []
  | n :: l => opt ((ownAt k n.Sec == (r : Int) + 1) && (cmdAt k.Points n.Sec != n.Pos)) ⟨4, r, n.Sec⟩ ++ needB k r l
def pointsAll (c : Cf) (k : Co) : List Rt → Nat → List Br
  | [], _ => []
  | x :: l, r => (if runsB (stAt k r) = true then needB k r (c.needs x) else []) ++ pointsAll c k l (r + 1)
def gateB (c : Cf) (k : Co) (r : Nat) : List Int → List Br
  | [] => []
  | i :: l => opt ((ownAt k (xAt c i) == (r : Int) + 1) && (cmdAt k.Xs i != 1)) ⟨5, r, xAt c i⟩ ++ gateB c k r l
def gatesAll (c : Cf) (k : Co) : List Rt → Nat → List Br
  | [], _ => []
  | x :: l, r => (if inL [0] (stAt k r) = true then [] else gateB c k r (crossL x.Path c.Xs 0)) ++ gatesAll c k l (r + 1)
def lineB (c : Cf) (k : Co) (line : Nat) : List Br :=
  let s := c.lineSec line
  let l := (k.Lines[line]?).getD zLs
  opt (decide (0 ≤ s) && (decide (l.Done > l.Ask) || (decide (l.Told > l.Grant) || ((ownAt k s == -2) && (l.Ask != l.Done))))) ⟨6, -1, s⟩
def linesAll (c : Cf) (k : Co) : Nat → List Br
  | 0 => []
  | j + 1 => linesAll c k j ++ lineB c k (j + 1)
def Co.judge (c : Cf) (k : Co) : List Br :=
  if k.fits c = true then ownsAll k c.Rts 0 ++ idles k k.Own 0 ++ pointsAll c k c.Rts 0 ++ gatesAll c k c.Rts 0 ++ linesAll c k 3 else [⟨1, -1, -1⟩]
/-- Sections that went from one owner to another one. -/
def worseL : List (Int × Int) → Nat → List Int
  | [], _ => []
  | p :: l, j => if p.1 ≠ p.2 ∧ p.1 ≠ 0 ∧ p.2 ≠ 0 then (j : Int) :: worseL l (j + 1) else worseL l (j + 1)
def Co.worse (c : Cf) (k n : Co) : List Int := if k.fits c = true ∧ n.fits c = true then worseL (k.Own.zip n.Own) 0 else []
theorem opt_len (b : Bool) (x : Br) : (opt b x).length ≤ 1 := by unfold opt; split <;> simp
theorem ownP_len (k : Co) (r : Nat) : ∀ l : List St, (ownP k r l).length ≤ l.length
  | [] => by simp [ownP]
  | s :: l => by rw [ownP, List.length_append, List.length_cons]; have := opt_len (ownAt k s.Sec != (r : Int) + 1) ⟨2, r, s.Sec⟩; have := ownP_len k r l; omega
theorem ownsAll_len (k : Co) : ∀ (l : List Rt) (r : Nat), (∀ x ∈ l, x.Path.length ≤ 8) → (ownsAll k l r).length ≤ 8 * l.length
  | [], _, _ => by simp [ownsAll]
  | x :: l, r, h => by
    rw [ownsAll, List.length_append, List.length_cons]
    have h1 := ownP_len k r (x.Path.drop (fromOf k r x.Path.length))
    have h2 := ownsAll_len k l (r + 1) (fun y hy => h y (by simp [hy]))
    have h3 := h x (by simp)
    rw [List.length_drop] at h1; omega
theorem idles_len (k : Co) : ∀ (l : List Int) (s : Nat), (idles k l s).length ≤ l.length
  | [], _ => by simp [idles]
  | o :: l, s => by rw [idles, List.length_append, List.length_cons]; have := opt_len (decide (o > 0) && inL [0] (stAt k (o - 1))) ⟨3, o - 1, s⟩; have := idles_len k l (s + 1); omega
theorem needB_len (k : Co) (r : Nat) : ∀ l : List Nd, (needB k r l).length ≤ l.length
  | [] => by simp [needB]
  | n :: l => by rw [needB, List.length_append, List.length_cons]; have := opt_len ((ownAt k n.Sec == (r : Int) + 1) && (cmdAt k.Points n.Sec != n.Pos)) ⟨4, r, n.Sec⟩; have := needB_len k r l; omega
theorem pointsAll_len (c : Cf) (k : Co) : ∀ (l : List Rt) (r : Nat), (∀ x ∈ l, (c.needs x).length ≤ 40) → (pointsAll c k l r).length ≤ 40 * l.length
  | [], _, _ => by simp [pointsAll]
  | x :: l, r, h => by
    rw [pointsAll, List.length_append, List.length_cons]
    have h2 := pointsAll_len c k l (r + 1) (fun y hy => h y (by simp [hy]))
    have h3 := h x (by simp)
    have h4 := needB_len k r (c.needs x)
    split <;> simp <;> omega
theorem gateB_len (c : Cf) (k : Co) (r : Nat) : ∀ l : List Int, (gateB c k r l).length ≤ l.length
  | [] => by simp [gateB]
  | i :: l => by rw [gateB, List.length_append, List.length_cons]; have := opt_len ((ownAt k (xAt c i) == (r : Int) + 1) && (cmdAt k.Xs i != 1)) ⟨5, r, xAt c i⟩; have := gateB_len c k r l; omega
theorem gatesAll_len (c : Cf) (k : Co) : ∀ (l : List Rt) (r : Nat), c.Xs.length ≤ 4 → (gatesAll c k l r).length ≤ 4 * l.length
  | [], _, _ => by simp [gatesAll]
  | x :: l, r, h => by
    rw [gatesAll, List.length_append, List.length_cons]
    have h2 := gatesAll_len c k l (r + 1) h
    have h4 := gateB_len c k r (crossL x.Path c.Xs 0)
    have h5 := crossL_len x.Path c.Xs 0
    split <;> simp <;> omega
theorem linesAll_len (c : Cf) (k : Co) : ∀ j : Nat, (linesAll c k j).length ≤ j
  | 0 => by simp [linesAll]
  | j + 1 => by rw [linesAll, List.length_append]; have := linesAll_len c k j; have : (lineB c k (j + 1)).length ≤ 1 := opt_len _ _; omega
theorem stAt_get {k : Co} {i : Int} {j : Nat} {x : Rs} (hi : i = j) (h : k.Routes[j]? = some x) : stAt k i = x.State ∧ nextAt k i = x.Next := by
  unfold stAt nextAt; subst hi; rw [geti_nat, h]; exact ⟨rfl, rfl⟩
theorem ownAt_get {k : Co} {i : Int} {j : Nat} {x : Int} (hi : i = j) (h : k.Own[j]? = some x) : ownAt k i = x := by unfold ownAt; subst hi; rw [geti_nat, h]; rfl
theorem cmdAt_get {l : List Mv} {i : Int} {j : Nat} {x : Mv} (hi : i = j) (h : l[j]? = some x) : cmdAt l i = x.Cmd := by unfold cmdAt; subst hi; rw [geti_nat, h]; rfl
theorem xAt_get {c : Cf} {i : Int} {j : Nat} {x : Int} (hi : i = j) (h : c.Xs[j]? = some x) : xAt c i = x := by unfold xAt; subst hi; rw [geti_nat, h]; rfl
/-- A counter that lies in a cell: what is left up to four. -/
def ctr (d : D) (s : Store) : Nat :=
  match d with
  | .el (.osl i _ _) _ _ => match s i with
    | .live _ ((.int _ n :: _) :: _) => (4 - n).toNat
    | _ => 0
  | _ => 0
theorem ctr_at {s : Store} {i : Nat} {t : TypeId} {j : Nat} (h : s i = .live t [[iD j]]) : ctr (.el (.osl i 0 1) 0 0) s = 4 - j := by
  unfold ctr; simp only [h]; omega
end Go.Fw
end
section
set_option linter.unusedVariables false
set_option linter.unusedSimpArgs false
namespace Go.Proofs.Yteflnjedfmmddaa
open Go.Fw Go.Proofs Go.RowKit
variable {σ : Store}
theorem Contains_int_ok {d : D} {l : List Int} (v : Int) (h : At Try.prog σ t_int d (l.map encI)) : Pure Try.prog n_slices_Contains_int [.one d, iA v] σ (.a (bA (inL l v))) := by
  refine W_slices_Contains_int d v σ _ ((slices_Index_int_ok v h).use ⟨_, rfl, ?_, rfl⟩)
  have key : ∀ (l : List Int) (j : Nat), decide (idxOf l v j ≥ 0) = inL l v := by
    intro l
    induction l with
    | nil => intro j; simp [idxOf, inL]
    | cons x r ih =>
      intro j
      rw [idxOf]
      by_cases hx : v = x
      · rw [if_pos hx]; simp [inL, hx]
      · rw [if_neg hx, ih, inL, inL]; simp [hx]
  rw [key]
theorem rest_len {α : Type} {a b t : List α} {n : Nat} (h : a ++ b = t) (ht : t.length ≤ n) : a.length ≤ n := by
  have := congrArg List.length h
  rw [List.length_append] at this; omega
section
variable {c0 c1 c2 c3 c4 : D} {c : Cf} {k0 k1 k2 k3 k4 k5 : D} {k : Co} {σ0 : Store} {b : Bool} {id : Nat} {d : D} {out : List Br}
/-- A judge: a state, its station, what was found. -/
structure JAt (σ0 σ : Store) (id : Nat) (k0 k1 k2 k3 k4 k5 : D) (b : Bool) (c0 c1 c2 c3 c4 : D) (c : Cf) (d : D) (out : List Br) : Prop where
  new : σ0 id = .free
  row : σ id = .live t_watch_judge [[k0, k1, k2, k3, k4, k5, .bool b, c0, c1, c2, c3, c4, iD c.Age, iD c.Brake, iD c.Hold, iD c.Budget, d]]
  own : Own Try.prog σ0 σ t_Breach d (out.map Br.enc)
  ido : idOf d ≠ some id
theorem JAt.ext' {σ' : Store} (h : JAt σ0 σ id k0 k1 k2 k3 k4 k5 b c0 c1 c2 c3 c4 c d out) (he : Ext σ σ') : JAt σ0 σ' id k0 k1 k2 k3 k4 k5 b c0 c1 c2 c3 c4 c d out :=
  ⟨h.new, (he id (by rw [h.row]; intro e; cases e)).trans h.row, h.own.ext' he, h.ido⟩
theorem judge_note_ok (h : JAt σ0 σ id k0 k1 k2 k3 k4 k5 b c0 c1 c2 c3 c4 c d out) (hl : out.length ≤ 2 ^ 30) (w : Bool) (x y z : Int) :
    DCalls Try.prog n_watch_judge_note [.one (dp id), bA w, iA x, iA y, iA z] σ fun r s => r = .tup [] ∧ ∃ d', JAt σ0 s id k0 k1 k2 k3 k4 k5 b c0 c1 c2 c3 c4 c d' (out ++ opt w ⟨x, y, z⟩) ∧
      (∀ i, σ i ≠ .free → i ≠ id → idOf d ≠ some i → s i = σ i) ∧ ∀ i, idOf d' = some i → σ i = .free ∨ idOf d = some i := by
  refine W_watch_judge_note (dp id) w x y z σ _ (bc (fun e => ?_) (fun e => ⟨rfl, d, by rw [opt, e]; simpa using h, fun _ _ _ _ => rfl, fun _ h => .inr h⟩))
  refine ⟨trivial, _, _, _, rfl, _, box_row h.row, d, rfl, newObj_intro fun id2 s2 hid2 _ he2 hs2 => ?_⟩
  have h2 := h.ext' he2
  refine h2.own.append (At.fresh hs2 (by simp) rfl) (by simp; omega) (by simp; omega) fun d4 s5 ho5 hk hd4 => ?_
  have hr5 : s5 id = .live t_watch_judge [[k0, k1, k2, k3, k4, k5, .bool b, c0, c1, c2, c3, c4, iD c.Age, iD c.Brake, iD c.Hold, iD c.Budget, d]] :=
    (hk id (by rw [h2.row]; intro e; cases e) fun a b e => h2.ido (by rw [e]; rfl)).trans h2.row
  have hid4 : idOf d4 ≠ some id := fun e => by
    cases d4 with
    | osl i a n =>
      have e1 : i = id := by simpa [idOf] using e
      subst e1
      rcases hd4 i a n rfl with q | ⟨a2, b2, q⟩
      · rw [h2.row] at q; cases q
      · exact h2.ido (by rw [q]; rfl)
    | _ => simp [idOf] at e
  refine ⟨trivial, _, _, _, rfl, cell_store hr5 (by simp) fun s6 hs6 hs6' => ⟨rfl, d4, ⟨h.new, hs6, ?_, hid4⟩, fun i hi hne hd => ?_, fun i hi => ?_⟩⟩
  · have := own_other ho5 h.new hid4 hs6'
    rw [opt, if_pos e, List.map_append]; exact this
  · rw [hs6' i hne, hk i (by rw [he2 i hi]; exact hi) fun a b e => hd (by rw [e]; rfl), he2 i hi]
  · cases d4 with
    | osl i' a n =>
      have e1 : i' = i := by simpa [idOf] using hi
      subst e1
      rcases hd4 i' a n rfl with q | ⟨a2, b2, q⟩
      · left
        by_cases hf : σ i' = .free
        · exact hf
        · have := he2 i' hf; rw [q] at this; exact this.symm
      · right; rw [q]; rfl
    | _ => simp [idOf] at hi
theorem judge_in_ok {e : D} {l : List Int} {r : Nat} {x : Rs} (h : JAt σ0 σ id k0 k1 k2 k3 k4 k5 b c0 c1 c2 c3 c4 c d out) (hk : CoAt σ k0 k1 k2 k3 k4 k5 k) (hx : k.Routes[r]? = some x) (hl : At Try.prog σ t_int e (l.map encI)) :
    Pure Try.prog n_watch_judge_in [.one (dp id), iA r, .one e] σ (.a (bA (inL l (stAt k r)))) := by
  rw [(stAt_get rfl hx).1]
  exact W_watch_judge_in (dp id) r e σ _ ⟨trivial, _, _, _, rfl, _, box_row h.row, k1, rfl, hk.routes.load (map_get hx) c_RouteState rfl ⟨x.State, rfl, (Contains_int_ok _ hl).use ⟨_, rfl, rfl, rfl⟩⟩⟩
theorem judge_running_ok {r : Nat} {x : Rs} (h : JAt σ0 σ id k0 k1 k2 k3 k4 k5 b c0 c1 c2 c3 c4 c d out) (hk : CoAt σ k0 k1 k2 k3 k4 k5 k) (hx : k.Routes[r]? = some x) :
    Pure Try.prog n_watch_judge_running [.one (dp id), iA r] σ (.a (bA (runsB (stAt k r)))) := by
  refine .of (W_watch_judge_running (dp id) r σ _ (newObj_intro fun id2 s2 hid2 _ he2 hs2 => ?_)) (flat_b _)
  exact (judge_in_ok (l := [1, 2, 3]) (h.ext' he2) (hk.ext he2) hx (At.fresh hs2 (by simp) rfl)).use ⟨_, rfl, rfl, he2⟩
variable (hc : ∀ s, CfAt s c0 c1 c2 c3 c4 c) (hk : CoAt σ0 k0 k1 k2 k3 k4 k5 k) (hfit : k.fits c = true)
include hc hk hfit
theorem judge_owners_ok (h : JAt σ0 σ id k0 k1 k2 k3 k4 k5 b c0 c1 c2 c3 c4 c d out) (hl : (out ++ (ownsAll k c.Rts 0 ++ idles k k.Own 0)).length ≤ 2 ^ 30) :
    DCalls Try.prog n_watch_judge_owners [.one (dp id)] σ fun r s => r = .tup [] ∧ ∃ d', JAt σ0 s id k0 k1 k2 k3 k4 k5 b c0 c1 c2 c3 c4 c d' (out ++ (ownsAll k c.Rts 0 ++ idles k k.Own 0)) := by
  obtain ⟨lo, lp, lr, lt, lx, ll⟩ := fits_lens hfit
  have hck := fits_check hfit
  obtain ⟨_, s1, s2, s3, _, _⟩ := check_small hck
  obtain ⟨rows, hat, hlen, hrow⟩ := rts_froz fun s => (hc s).rts
  refine W_watch_judge_owners (dp id) σ _ ⟨trivial, _, _, _, rfl, _, box_row h.row, c4, rfl, (hat σ).lenK ⟨fun n s => ∃ d' out', JAt σ0 s id k0 k1 k2 k3 k4 k5 b c0 c1 c2 c3 c4 c d' out' ∧ Rng c.Rts (fun l => out' ++ (ownsAll k l n.toNat ++ idles k k.Own 0) = out ++ (ownsAll k c.Rts 0 ++ idles k k.Own 0)) n,
    fun n _ => c.Rts.length - n.toNat, ⟨d, out, h, .start rfl⟩, ?_⟩⟩
  rintro n s ⟨d1, out1, h1, hr⟩
  refine bcd (fun hlt => ?_) (fun hge => ?_)
  · obtain ⟨j, x, rfl, hx, hj, hF, nx⟩ := hr.step hlen (by omega) hlt
    have hw : w64 ((j : Int) + 1) = ((j + 1 : Nat) : Int) := w64_succ (by omega)
    have hxo := check_rt hck (List.mem_of_getElem? hx)
    obtain ⟨row, hrw⟩ := get_of_lt (l := rows) (j := j) (by omega)
    obtain ⟨e1, e2, e3, rfl, q1, q2, q3⟩ := hrow j row x hrw hx
    obtain ⟨rs, hrs⟩ := get_of_lt (l := k.Routes) (j := j) (by omega)
    have hst := stAt_get (i := j) rfl hrs
    rw [Int.toNat_natCast, ownsAll] at hF
    refine (hat s).load hrw c_Route rfl ⟨_, _, e1, e2, e3, _, rfl, (q1 s).lenK ?_⟩
    rw [List.length_map]
    intro R hR
    -- the path, from a place on
    have body : ∀ (fr : Nat) (s' : Store) (R1 : Store → Prop), fr = fromOf k j x.Path.length → JAt σ0 s' id k0 k1 k2 k3 k4 k5 b c0 c1 c2 c3 c4 c d1 out1 →
        ∃ len3 : Nat, IdxN Try.prog s' e1 3 len3 ∧ (0 : Int) ≤ (fr : Int) ∧ (fr : Int) ≤ (len3 : Int) ∧ ∃ len4 : Nat, Len (dsub e1 (Int.toNat fr) len3) len4 ∧ ∃ I1 : Int → Store → Prop, ∃ μ1 : Int → Store → Nat, I1 0 s' ∧ ∀ n5 : Int, ∀ s3 : Store, I1 n5 s3 →
          bcase (decide (n5 < (len4 : Int))) (∃ len5 : Nat, Idx Try.prog s3 (dsub e1 (Int.toNat fr) len3) 3 len5 ∧ (0 : Int) ≤ n5 ∧ n5 < (len5 : Int) ∧ ∃ row2 : List D, Row s3 (dsub e1 (Int.toNat fr) len3) (Int.toNat n5) row2 ∧ ∃ n6 n7 n8 : Int, List.take 3 row2 = [iD n6, iD n7, iD n8] ∧ NotNil (dp id) ∧
            ∃ s1 : D, ∃ i1 off1 : Nat, dp id = .el s1 i1 off1 ∧ ∃ row3 : List D, Row s3 s1 i1 row3 ∧ ∃ d4 : D, List.take 1 (List.drop ((off1 + 0) + 0) row3) = [d4] ∧ ∃ len6 : Nat, Idx Try.prog s3 d4 1 len6 ∧ (0 : Int) ≤ n6 ∧ n6 < (len6 : Int) ∧ ∃ row4 : List D, Row s3 d4 (Int.toNat n6) row4 ∧ ∃ n9 : Int, List.take 1 row4 = [iD n9] ∧
            DCalls Try.prog n_watch_judge_note [.one (dp id), bA (n9 != w64 ((j : Int) + 1)), iA 2, iA j, iA n6] s3 fun r s4 => r = .tup [] ∧ I1 (w64 (n5 + 1)) s4 ∧ μ1 (w64 (n5 + 1)) s4 < μ1 n5 s3)
          ((fun (n : Int) (s : Store) => ∃ d' out', JAt σ0 s id k0 k1 k2 k3 k4 k5 b c0 c1 c2 c3 c4 c d' out' ∧ Rng c.Rts (fun l => out' ++ (ownsAll k l n.toNat ++ idles k k.Own 0) = out ++ (ownsAll k c.Rts 0 ++ idles k k.Own 0)) n) (w64 ((j : Int) + 1)) s3 ∧ c.Rts.length - (w64 ((j : Int) + 1)).toNat < c.Rts.length - (j : Int).toNat) := by
      intro fr s' R1 hfr h'
      have hfl : fr ≤ x.Path.length := by
        subst hfr; unfold fromOf
        split
        · omega
        · split
          · rw [hst.2]
            have := hfit
            simp only [Co.fits, Co.parts, Bool.and_eq_true] at this
            have hz := List.all_eq_true.1 this.2.2.2.1 (rs, x) (List.mem_of_getElem? (i := j) (by rw [List.getElem?_zip_eq_some]; exact ⟨hrs, hx⟩))
            simp only [Rs.fits, Bool.and_eq_true, decide_eq_true_eq] at hz
            omega
          · omega
      rw [← hfr] at hF
      have hps := (q1 s').size
      rw [List.length_map] at hps
      refine (q1 s').sliceFromK c_Step rfl (by rw [List.length_map]; exact hfl) ?_
      have hsub := fun s => (q1 s).sub (lo := fr) (hi := x.Path.length) hfl (by simp)
      rw [List.length_map]
      have es : ∀ s, At Try.prog s t_Step (dsub e1 fr x.Path.length) ((x.Path.drop fr).map St.enc) := fun s => by
        have := hsub s
        rw [List.take_of_length_le (by simp), ← List.map_drop] at this
        exact this
      rw [Int.toNat_natCast]
      have hdl : (x.Path.drop fr).length < 2 ^ 60 := by rw [List.length_drop]; omega
      refine (es s').lenK ⟨fun m s => ∃ d' out', JAt σ0 s id k0 k1 k2 k3 k4 k5 b c0 c1 c2 c3 c4 c d' out' ∧ Rng (x.Path.drop fr) (fun l => out' ++ (ownP k j l ++ (ownsAll k (c.Rts.drop (j + 1)) (j + 1) ++ idles k k.Own 0)) = out ++ (ownsAll k c.Rts 0 ++ idles k k.Own 0)) m,
        fun m _ => (x.Path.drop fr).length - m.toNat, ⟨d1, out1, h', .start (by rw [List.append_assoc] at hF; exact hF)⟩, ?_⟩
      rintro m s3 ⟨d2, out2, h2, hr2⟩
      refine bcd (fun hlt2 => ?_) (fun hge2 => ?_)
      · obtain ⟨j2, y, rfl, hy, hj2, hF2, nx2⟩ := hr2.step (by simp) hdl hlt2
        have hys := (hxo.step y (List.mem_of_mem_drop (List.mem_of_getElem? hy))).1
        obtain ⟨z, hz, _⟩ := hys.sec
        have hzg := geti_some hz
        obtain ⟨o, ho⟩ := get_of_lt (l := k.Own) (j := y.Sec.toNat) (by omega)
        rw [ownP, List.append_assoc] at hF2
        have hol := rest_len hF2 hl
        have hoa := ownAt_get (i := y.Sec) (j := y.Sec.toNat) (by omega) ho
        refine (es s3).load (map_get hy) c_Step rfl ⟨y.Sec, y.In, y.Out, rfl, trivial, _, _, _, rfl, _, box_row h2.row, k0, rfl, (hk.ext h2.own.ext).own.load (map_get ho) c_int (by omega) ⟨o, rfl, (judge_note_ok h2 hol _ _ _ _).mono ?_⟩⟩
        rintro r s4 ⟨rfl, d3, h3, _⟩
        have := nx2 (fun l => (out2 ++ opt (o != w64 ((j : Int) + 1)) ⟨2, j, y.Sec⟩) ++ (ownP k j l ++ (ownsAll k (c.Rts.drop (j + 1)) (j + 1) ++ idles k k.Own 0)) = out ++ (ownsAll k c.Rts 0 ++ idles k k.Own 0)) (by
          rw [List.append_assoc, hw]
          rw [hoa] at hF2
          exact hF2)
        exact ⟨rfl, ⟨d3, _, h3, this.1⟩, this.2⟩
      · have hF2 := hr2.done (by simp) hge2
        rw [ownP, List.nil_append] at hF2
        have := nx (fun l => out2 ++ (ownsAll k l (w64 ((j : Int) + 1)).toNat ++ idles k k.Own 0) = out ++ (ownsAll k c.Rts 0 ++ idles k k.Own 0)) (by rw [hw, Int.toNat_natCast]; exact hF2)
        exact ⟨⟨d2, out2, h2, this.1⟩, this.2⟩
    have main : ∀ (n3 : Int) (s' : Store), (inL [4, 5] (stAt k j) = false → n3 = (fromOf k j x.Path.length : Int)) → JAt σ0 s' id k0 k1 k2 k3 k4 k5 b c0 c1 c2 c3 c4 c d1 out1 → (inL [4, 5] (stAt k j) = true → runsB (stAt k j) = false) → R n3 s' := by
      intro n3 s' hn3 h' hex
      refine hR n3 s' ?_
      intro R1 hR1
      have hfits2 := hfit
      simp only [Co.fits, Co.parts, Bool.and_eq_true] at hfits2
      have hz := List.all_eq_true.1 hfits2.2.2.2.1 (rs, x) (List.mem_of_getElem? (i := j) (by rw [List.getElem?_zip_eq_some]; exact ⟨hrs, hx⟩))
      simp only [Rs.fits, Bool.and_eq_true, decide_eq_true_eq] at hz
      refine newObj_intro fun id2 s2 hid2 _ he2 hs2 => (judge_in_ok (l := [4, 5]) (h'.ext' he2) ((hk.ext h'.own.ext).ext he2) hrs (At.fresh hs2 (by simp) rfl)).use ⟨_, rfl, bc (fun e => ?_) (fun e => ⟨rfl, ?_⟩)⟩
      · refine ⟨trivial, _, _, _, rfl, _, box_row (h'.ext' he2).row, k1, rfl, ((hk.ext h'.own.ext).ext he2).routes.load (map_get hrs) c_RouteState rfl ⟨rs.Next, rfl, rfl, ?_⟩⟩
        obtain ⟨fr, hfr⟩ : ∃ fr : Nat, rs.Next = fr := ⟨rs.Next.toNat, by omega⟩
        rw [hfr]
        exact hR1 _ _ (body fr s2 (fun _ => True) (by unfold fromOf; rw [if_neg (by rw [hex e]; simp), if_pos e, hst.2, hfr, Int.toNat_natCast]) (h'.ext' he2))
      · have := hn3 e
        subst this
        exact hR1 _ _ (body _ s2 (fun _ => True) rfl (h'.ext' he2))
    have dis : inL [4, 5] (stAt k j) = true → runsB (stAt k j) = false := fun e => by
      simp [inL] at e
      rcases e with e | e <;> rw [e] <;> rfl
    refine (judge_running_ok h1 (hk.ext h1.own.ext) hrs).use ⟨_, rfl, bc (fun e => ⟨rfl, main 0 s (fun _ => by unfold fromOf; rw [if_pos e]; rfl) h1 dis⟩) (fun e => ⟨rfl, main _ s (fun e2 => by unfold fromOf; rw [if_neg (by rw [e]; simp), if_neg (by rw [e2]; simp)]) h1 dis⟩)⟩
  · have hF := hr.done hlen hge
    rw [ownsAll, List.nil_append] at hF
    refine ⟨trivial, _, _, _, rfl, _, box_row h1.row, k0, rfl, (hk.ext h1.own.ext).own.lenK ⟨fun n s => ∃ d' out', JAt σ0 s id k0 k1 k2 k3 k4 k5 b c0 c1 c2 c3 c4 c d' out' ∧ Rng k.Own (fun l => out' ++ idles k l n.toNat = out ++ (ownsAll k c.Rts 0 ++ idles k k.Own 0)) n,
      fun n _ => k.Own.length - n.toNat, ⟨d1, out1, h1, .start hF⟩, ?_⟩⟩
    rintro m s3 ⟨d2, out2, h2, hr2⟩
    refine bcd (fun hlt2 => ?_) (fun hge2 => ?_)
    · obtain ⟨j2, o, rfl, ho, hj2, hF2, nx2⟩ := hr2.step (by simp) (by omega) hlt2
      have hw : w64 ((j2 : Int) + 1) = ((j2 + 1 : Nat) : Int) := w64_succ (by omega)
      have hfits2 := hfit
      simp only [Co.fits, Co.parts, Bool.and_eq_true] at hfits2
      have hz := of_decide_eq_true (List.all_eq_true.1 hfits2.2.2.1 o (List.mem_of_getElem? ho))
      rw [Int.toNat_natCast, idles] at hF2
      have hol := rest_len hF2 hl
      have go : ∀ d3 s4, JAt σ0 s4 id k0 k1 k2 k3 k4 k5 b c0 c1 c2 c3 c4 c d3 (out2 ++ opt (decide (o > 0) && inL [0] (stAt k (o - 1))) ⟨3, o - 1, j2⟩) →
          (∃ d' out', JAt σ0 s4 id k0 k1 k2 k3 k4 k5 b c0 c1 c2 c3 c4 c d' out' ∧ Rng k.Own (fun l => out' ++ idles k l (w64 ((j2 : Int) + 1)).toNat = out ++ (ownsAll k c.Rts 0 ++ idles k k.Own 0)) (w64 ((j2 : Int) + 1))) ∧ k.Own.length - (w64 ((j2 : Int) + 1)).toNat < k.Own.length - (j2 : Int).toNat := fun d3 s4 h3 => by
        have := nx2 (fun l => (out2 ++ opt (decide (o > 0) && inL [0] (stAt k (o - 1))) ⟨3, o - 1, j2⟩) ++ idles k l (w64 ((j2 : Int) + 1)).toNat = out ++ (ownsAll k c.Rts 0 ++ idles k k.Own 0)) (by
          rw [List.append_assoc, hw, Int.toNat_natCast]; exact hF2)
        exact ⟨⟨d3, _, h3, this.1⟩, this.2⟩
      have hm : w64 (o - 1) = o - 1 := w64_id (by omega) (by omega)
      refine (hk.ext h2.own.ext).own.load (map_get ho) c_int rfl ⟨o, rfl, bcd (fun e => ?_) (fun e => ?_)⟩
      · obtain ⟨jr, hjr⟩ : ∃ jr : Nat, o - 1 = jr := ⟨(o - 1).toNat, by omega⟩
        obtain ⟨rs, hrs⟩ := get_of_lt (l := k.Routes) (j := jr) (by omega)
        rw [hm]
        refine newObj_intro fun id2 s2 hid2 _ he2 hs2 => ?_
        rw [hjr] at go ⊢
        refine (judge_in_ok (l := [0]) (h2.ext' he2) ((hk.ext h2.own.ext).ext he2) hrs (At.fresh hs2 (by simp) rfl)).use ⟨_, rfl, (judge_note_ok (h2.ext' he2) hol _ _ _ _).mono ?_⟩
        rintro r s4 ⟨rfl, d3, h3, _⟩
        rw [decide_eq_true e, Bool.true_and] at go
        exact ⟨rfl, go d3 s4 h3⟩
      · rw [hm]
        refine (judge_note_ok h2 hol _ _ _ _).mono ?_
        rintro r s4 ⟨rfl, d3, h3, _⟩
        rw [decide_eq_false e, Bool.false_and] at go
        exact ⟨rfl, go d3 s4 h3⟩
    · have hF2 := hr2.done (by simp) hge2
      rw [idles, List.append_nil] at hF2
      exact ⟨rfl, d2, hF2 ▸ h2⟩
theorem judge_points_ok (h : JAt σ0 σ id k0 k1 k2 k3 k4 k5 b c0 c1 c2 c3 c4 c d out) (hl : (out ++ pointsAll c k c.Rts 0).length ≤ 2 ^ 30) :
    DCalls Try.prog n_watch_judge_points [.one (dp id)] σ fun r s => r = .tup [] ∧ ∃ d', JAt σ0 s id k0 k1 k2 k3 k4 k5 b c0 c1 c2 c3 c4 c d' (out ++ pointsAll c k c.Rts 0) := by
  obtain ⟨lo, lp, lr, lt, lx, ll⟩ := fits_lens hfit
  have hck := fits_check hfit
  obtain ⟨_, s1, s2, s3, _, _⟩ := check_small hck
  obtain ⟨rows, hat, hlen, hrow⟩ := rts_froz fun s => (hc s).rts
  refine W_watch_judge_points (dp id) σ _ ⟨trivial, _, _, _, rfl, _, box_row h.row, c4, rfl, (hat σ).lenK ⟨fun n s => ∃ d' out', JAt σ0 s id k0 k1 k2 k3 k4 k5 b c0 c1 c2 c3 c4 c d' out' ∧ Rng c.Rts (fun l => out' ++ pointsAll c k l n.toNat = out ++ pointsAll c k c.Rts 0) n,
    fun n _ => c.Rts.length - n.toNat, ⟨d, out, h, .start rfl⟩, ?_⟩⟩
  rintro n s ⟨d1, out1, h1, hr⟩
  refine bcd (fun hlt => ?_) (fun hge => ?_)
  · obtain ⟨j, x, rfl, hx, hj, hF, nx⟩ := hr.step hlen (by omega) hlt
    have hw : w64 ((j : Int) + 1) = ((j + 1 : Nat) : Int) := w64_succ (by omega)
    have hxo := check_rt hck (List.mem_of_getElem? hx)
    obtain ⟨rs, hrs⟩ := get_of_lt (l := k.Routes) (j := j) (by omega)
    rw [Int.toNat_natCast, pointsAll] at hF
    have fin : ∀ d2 out2 s2, JAt σ0 s2 id k0 k1 k2 k3 k4 k5 b c0 c1 c2 c3 c4 c d2 out2 → out2 ++ pointsAll c k (c.Rts.drop (j + 1)) (j + 1) = out ++ pointsAll c k c.Rts 0 →
        (∃ d' out', JAt σ0 s2 id k0 k1 k2 k3 k4 k5 b c0 c1 c2 c3 c4 c d' out' ∧ Rng c.Rts (fun l => out' ++ pointsAll c k l (w64 ((j : Int) + 1)).toNat = out ++ pointsAll c k c.Rts 0) (w64 ((j : Int) + 1))) ∧ c.Rts.length - (w64 ((j : Int) + 1)).toNat < c.Rts.length - (j : Int).toNat := fun d2 out2 s2 h2 he => by
      have := nx (fun l => out2 ++ pointsAll c k l (w64 ((j : Int) + 1)).toNat = out ++ pointsAll c k c.Rts 0) (by rw [hw, Int.toNat_natCast]; exact he)
      exact ⟨⟨d2, out2, h2, this.1⟩, this.2⟩
    refine (judge_running_ok h1 (hk.ext h1.own.ext) hrs).use ⟨_, rfl, bcnot (fun e => fin _ _ _ h1 (by rw [if_neg (by rw [e]; simp)] at hF; exact hF)) (fun e => ?_)⟩
    rw [if_pos e] at hF
    have hrt : c.rt j = x := rt_some (by rw [geti_nat]; exact hx)
    refine ⟨trivial, _, _, _, rfl, _, box_row h1.row, c0, c1, c2, c3, c4, _, _, _, _, rfl, (mover_Needs_ok hc j (by rw [hrt]; have := hxo.len; omega) (by rw [hrt]; have := hxo.flen; omega)).mono ?_⟩
    rintro r s2 ⟨rfl, e1, rfl, q1⟩
    rw [Cf.Needs, hrt] at q1
    have hnl : (c.needs x).length ≤ 40 := by have := needs_len c x; have := hxo.len; have := hxo.flen; omega
    refine ⟨e1, rfl, (q1 s2).lenK ⟨fun m s => ∃ d' out', JAt σ0 s id k0 k1 k2 k3 k4 k5 b c0 c1 c2 c3 c4 c d' out' ∧ Rng (c.needs x) (fun l => out' ++ (needB k j l ++ pointsAll c k (c.Rts.drop (j + 1)) (j + 1)) = out ++ pointsAll c k c.Rts 0) m,
      fun m _ => (c.needs x).length - m.toNat, ⟨d1, out1, h1, .start hF⟩, ?_⟩⟩
    rintro m s3 ⟨d2, out2, h2, hr2⟩
    rw [List.length_map]
    refine bcd (fun hlt2 => ?_) (fun hge2 => ?_)
    · obtain ⟨j2, y, rfl, hy, hj2, hF2, nx2⟩ := hr2.step rfl (by omega) hlt2
      obtain ⟨⟨z, hz⟩, _⟩ := needs_sec hxo (List.mem_of_getElem? hy)
      have hzg := geti_some hz
      obtain ⟨o, ho⟩ := get_of_lt (l := k.Own) (j := y.Sec.toNat) (by omega)
      obtain ⟨mv, hmv⟩ := get_of_lt (l := k.Points) (j := y.Sec.toNat) (by omega)
      rw [needB, List.append_assoc] at hF2
      have hol := rest_len hF2 hl
      rw [ownAt_get (i := y.Sec) (j := y.Sec.toNat) (by omega) ho, cmdAt_get (i := y.Sec) (j := y.Sec.toNat) (by omega) hmv] at hF2
      have go : ∀ w d3 s4, w = ((o == (j : Int) + 1) && (mv.Cmd != y.Pos)) → JAt σ0 s4 id k0 k1 k2 k3 k4 k5 b c0 c1 c2 c3 c4 c d3 (out2 ++ opt w ⟨4, j, y.Sec⟩) →
          (∃ d' out', JAt σ0 s4 id k0 k1 k2 k3 k4 k5 b c0 c1 c2 c3 c4 c d' out' ∧ Rng (c.needs x) (fun l => out' ++ (needB k j l ++ pointsAll c k (c.Rts.drop (j + 1)) (j + 1)) = out ++ pointsAll c k c.Rts 0) (w64 ((j2 : Int) + 1))) ∧ (c.needs x).length - (w64 ((j2 : Int) + 1)).toNat < (c.needs x).length - (j2 : Int).toNat := fun w d3 s4 hw h3 => by
        subst hw
        have := nx2 (fun l => (out2 ++ opt ((o == (j : Int) + 1) && (mv.Cmd != y.Pos)) ⟨4, j, y.Sec⟩) ++ (needB k j l ++ pointsAll c k (c.Rts.drop (j + 1)) (j + 1)) = out ++ pointsAll c k c.Rts 0) (by
          rw [List.append_assoc]; exact hF2)
        exact ⟨⟨d3, _, h3, this.1⟩, this.2⟩
      have hk2 := hk.ext h2.own.ext
      refine (q1 s3).load (map_get hy) c_Need rfl ⟨y.Sec, y.Pos, rfl, trivial, _, _, _, rfl, _, box_row h2.row, k0, rfl, hk2.own.load (map_get ho) c_int (by omega) ⟨o, rfl, ?_⟩⟩
      rw [hw]
      refine bce (fun e => ⟨trivial, _, _, _, rfl, _, box_row h2.row, k2, rfl, hk2.points.load (map_get hmv) c_Mover (by omega) ⟨mv.Cmd, rfl, (judge_note_ok h2 hol _ _ _ _).mono ?_⟩⟩) (fun e => (judge_note_ok h2 hol _ _ _ _).mono ?_)
      · rintro r s4 ⟨rfl, d3, h3, _⟩
        exact ⟨rfl, go _ d3 s4 (by rw [show (o == (j : Int) + 1) = true by simpa using e, Bool.true_and]) h3⟩
      · rintro r s4 ⟨rfl, d3, h3, _⟩
        exact ⟨rfl, go _ d3 s4 (by rw [show (o == (j : Int) + 1) = false by simpa using e, Bool.false_and]) h3⟩
    · have hF2 := hr2.done rfl hge2
      rw [needB, List.nil_append] at hF2
      exact fin _ _ _ h2 hF2
  · have hF := hr.done hlen hge
    rw [pointsAll, List.append_nil] at hF
    exact ⟨rfl, d1, hF ▸ h1⟩
theorem judge_gates_ok (h : JAt σ0 σ id k0 k1 k2 k3 k4 k5 b c0 c1 c2 c3 c4 c d out) (hl : (out ++ gatesAll c k c.Rts 0).length ≤ 2 ^ 30) :
    DCalls Try.prog n_watch_judge_gates [.one (dp id)] σ fun r s => r = .tup [] ∧ ∃ d', JAt σ0 s id k0 k1 k2 k3 k4 k5 b c0 c1 c2 c3 c4 c d' (out ++ gatesAll c k c.Rts 0) := by
  obtain ⟨lo, lp, lr, lt, lx, ll⟩ := fits_lens hfit
  have hck := fits_check hfit
  obtain ⟨_, s1, s2, s3, _, _⟩ := check_small hck
  obtain ⟨rows, hat, hlen, hrow⟩ := rts_froz fun s => (hc s).rts
  have hxs := check_xs hck
  refine W_watch_judge_gates (dp id) σ _ ⟨trivial, _, _, _, rfl, _, box_row h.row, c4, rfl, (hat σ).lenK ⟨fun n s => ∃ d' out', JAt σ0 s id k0 k1 k2 k3 k4 k5 b c0 c1 c2 c3 c4 c d' out' ∧ Rng c.Rts (fun l => out' ++ gatesAll c k l n.toNat = out ++ gatesAll c k c.Rts 0) n,
    fun n _ => c.Rts.length - n.toNat, ⟨d, out, h, .start rfl⟩, ?_⟩⟩
  rintro n s ⟨d1, out1, h1, hr⟩
  refine bcd (fun hlt => ?_) (fun hge => ?_)
  · obtain ⟨j, x, rfl, hx, hj, hF, nx⟩ := hr.step hlen (by omega) hlt
    have hw : w64 ((j : Int) + 1) = ((j + 1 : Nat) : Int) := w64_succ (by omega)
    obtain ⟨rs, hrs⟩ := get_of_lt (l := k.Routes) (j := j) (by omega)
    rw [Int.toNat_natCast, gatesAll] at hF
    have fin : ∀ d2 out2 s2, JAt σ0 s2 id k0 k1 k2 k3 k4 k5 b c0 c1 c2 c3 c4 c d2 out2 → out2 ++ gatesAll c k (c.Rts.drop (j + 1)) (j + 1) = out ++ gatesAll c k c.Rts 0 →
        (∃ d' out', JAt σ0 s2 id k0 k1 k2 k3 k4 k5 b c0 c1 c2 c3 c4 c d' out' ∧ Rng c.Rts (fun l => out' ++ gatesAll c k l (w64 ((j : Int) + 1)).toNat = out ++ gatesAll c k c.Rts 0) (w64 ((j : Int) + 1))) ∧ c.Rts.length - (w64 ((j : Int) + 1)).toNat < c.Rts.length - (j : Int).toNat := fun d2 out2 s2 h2 he => by
      have := nx (fun l => out2 ++ gatesAll c k l (w64 ((j : Int) + 1)).toNat = out ++ gatesAll c k c.Rts 0) (by rw [hw, Int.toNat_natCast]; exact he)
      exact ⟨⟨d2, out2, h2, this.1⟩, this.2⟩
    refine newObj_intro fun id2 s2 hid2 _ he2 hs2 => (judge_in_ok (l := [0]) (h1.ext' he2) ((hk.ext h1.own.ext).ext he2) hrs (At.fresh hs2 (by simp) rfl)).use ⟨_, rfl, bc (fun e => fin _ _ _ (h1.ext' he2) (by rw [if_pos e] at hF; exact hF)) (fun e => ?_)⟩
    rw [if_neg (by rw [e]; simp)] at hF
    have h1' := h1.ext' he2
    have hrt : c.rt j = x := rt_some (by rw [geti_nat]; exact hx)
    refine ⟨trivial, _, _, _, rfl, _, box_row h1'.row, c0, c1, c2, c3, c4, _, _, _, _, rfl, (mover_Crossings_ok hc j (by omega)).mono ?_⟩
    rintro r s2 ⟨rfl, e1, rfl, q1⟩
    rw [Cf.Cross, hrt] at q1
    have hnl := crossL_len x.Path c.Xs 0
    have hmem := crossL_mem x.Path c.Xs 0
    generalize crossL x.Path c.Xs 0 = cr at *
    refine ⟨e1, rfl, (q1 s2).lenK ⟨fun m s => ∃ d' out', JAt σ0 s id k0 k1 k2 k3 k4 k5 b c0 c1 c2 c3 c4 c d' out' ∧ Rng cr (fun l => out' ++ (gateB c k j l ++ gatesAll c k (c.Rts.drop (j + 1)) (j + 1)) = out ++ gatesAll c k c.Rts 0) m,
      fun m _ => cr.length - m.toNat, ⟨d1, out1, h1', .start hF⟩, ?_⟩⟩
    rintro m s3 ⟨d2, out2, h2, hr2⟩
    rw [List.length_map]
    refine bcd (fun hlt2 => ?_) (fun hge2 => ?_)
    · obtain ⟨j2, y, rfl, hy, hj2, hF2, nx2⟩ := hr2.step rfl (by omega) hlt2
      obtain ⟨jx, sx, rfl, hsx, _⟩ := hmem y (List.mem_of_getElem? hy)
      rw [Nat.zero_add] at *
      obtain ⟨z, hz, _⟩ := hxs.1 sx (List.mem_of_getElem? hsx)
      have hzg := geti_some hz
      have hjx := (List.getElem?_eq_some_iff.1 hsx).1
      obtain ⟨o, ho⟩ := get_of_lt (l := k.Own) (j := sx.toNat) (by omega)
      obtain ⟨mv, hmv⟩ := get_of_lt (l := k.Xs) (j := jx) (by omega)
      rw [gateB, List.append_assoc] at hF2
      have hol := rest_len hF2 hl
      rw [xAt_get (i := jx) rfl hsx, ownAt_get (i := sx) (j := sx.toNat) (by omega) ho, cmdAt_get (i := jx) rfl hmv] at hF2
      have go : ∀ w d3 s4, w = ((o == (j : Int) + 1) && (mv.Cmd != 1)) → JAt σ0 s4 id k0 k1 k2 k3 k4 k5 b c0 c1 c2 c3 c4 c d3 (out2 ++ opt w ⟨5, j, sx⟩) →
          (∃ d' out', JAt σ0 s4 id k0 k1 k2 k3 k4 k5 b c0 c1 c2 c3 c4 c d' out' ∧ Rng cr (fun l => out' ++ (gateB c k j l ++ gatesAll c k (c.Rts.drop (j + 1)) (j + 1)) = out ++ gatesAll c k c.Rts 0) (w64 ((j2 : Int) + 1))) ∧ cr.length - (w64 ((j2 : Int) + 1)).toNat < cr.length - (j2 : Int).toNat := fun w d3 s4 hw h3 => by
        subst hw
        have := nx2 (fun l => (out2 ++ opt ((o == (j : Int) + 1) && (mv.Cmd != 1)) ⟨5, j, sx⟩) ++ (gateB c k j l ++ gatesAll c k (c.Rts.drop (j + 1)) (j + 1)) = out ++ gatesAll c k c.Rts 0) (by
          rw [List.append_assoc]; exact hF2)
        exact ⟨⟨d3, _, h3, this.1⟩, this.2⟩
      have hk2 := hk.ext h2.own.ext
      refine (q1 s3).load (map_get hy) c_int rfl ⟨jx, rfl, trivial, _, _, _, rfl, _, box_row h2.row, c3, rfl, (hc s3).xs.load (map_get hsx) c_int rfl ⟨sx, rfl, trivial, _, _, _, rfl, _, box_row h2.row, k0, rfl, hk2.own.load (map_get ho) c_int (by omega) ⟨o, rfl, ?_⟩⟩⟩
      rw [hw]
      refine bce (fun e => ⟨trivial, _, _, _, rfl, _, box_row h2.row, k3, rfl, hk2.xs.load (map_get hmv) c_Mover rfl ⟨mv.Cmd, rfl, (judge_note_ok h2 hol _ _ _ _).mono ?_⟩⟩) (fun e => (judge_note_ok h2 hol _ _ _ _).mono ?_)
      · rintro r s4 ⟨rfl, d3, h3, _⟩
        exact ⟨rfl, go _ d3 s4 (by rw [show (o == (j : Int) + 1) = true by simpa using e, Bool.true_and]) h3⟩
      · rintro r s4 ⟨rfl, d3, h3, _⟩
        exact ⟨rfl, go _ d3 s4 (by rw [show (o == (j : Int) + 1) = false by simpa using e, Bool.false_and]) h3⟩
    · have hF2 := hr2.done rfl hge2
      rw [gateB, List.nil_append] at hF2
      exact fin _ _ _ h2 hF2
  · have hF := hr.done hlen hge
    rw [gatesAll, List.append_nil] at hF
    exact ⟨rfl, d1, hF ▸ h1⟩
end
end Go.Proofs.Yteflnjedfmmddaa
end
section
set_option linter.unusedVariables false
set_option linter.unusedSimpArgs false
namespace Go.Proofs.Yteflnjedfmmddaa
open Go.Fw Go.Proofs Go.RowKit
variable {σ : Store}
section
variable {c0 c1 c2 c3 c4 : D} {c : Cf} {k0 k1 k2 k3 k4 k5 : D} {k : Co} {σ0 : Store} {b : Bool} {id : Nat} {d : D} {out : List Br}
  (hc : ∀ s, CfAt s c0 c1 c2 c3 c4 c)
include hc
theorem judge_lines_ok (hk : CoAt σ0 k0 k1 k2 k3 k4 k5 k) (hfit : k.fits c = true) (h : JAt σ0 σ id k0 k1 k2 k3 k4 k5 b c0 c1 c2 c3 c4 c d out) (hl : out.length ≤ 2 ^ 20) :
    DCalls Try.prog n_watch_judge_lines [.one (dp id)] σ fun r s => r = .tup [] ∧ ∃ d', JAt σ0 s id k0 k1 k2 k3 k4 k5 b c0 c1 c2 c3 c4 c d' (out ++ linesAll c k 3) := by
  obtain ⟨lo, lp, lr, lt, lx, ll⟩ := fits_lens hfit
  have hid := h.row
  refine W_watch_judge_lines (dp id) σ _ (newObj_intro fun ia sa hia _ hea hsa => box_store hsa fun sb hsb hsb' => ?_)
  have heb : Ext σ sb := fun i hi => by rw [hsb' i (fun e => hi (by rw [e]; exact hia))]; exact hea i hi
  have hne : ia ≠ id := fun e => by rw [e, hid] at hia; cases hia
  have hda : idOf d ≠ some ia := fun e => by
    cases d with
    | osl i a n =>
      have e1 : i = ia := by simpa [idOf] using e
      subst e1
      obtain ⟨t, rows, g1, _⟩ := h.own.at_.rows
      rw [hia] at g1; cases g1
    | _ => simp [idOf] at e
  refine ⟨fun d s => ∃ (ic j : Nat) (d' : D), d = dp ic ∧ 1 ≤ j ∧ j ≤ 4 ∧ s ic = .live t_int [[iD j]] ∧ ic ≠ id ∧ idOf d' ≠ some ic ∧ JAt σ0 s id k0 k1 k2 k3 k4 k5 b c0 c1 c2 c3 c4 c d' (out ++ linesAll c k (j - 1)), ctr,
    ⟨ia, 1, d, rfl, by omega, by omega, hsb, hne, hda, by simpa [linesAll] using h.ext' heb⟩, ?_⟩
  rintro _ s ⟨ic, j, d1, rfl, hj1, hj4, hic, hne, hd1, h1⟩
  refine ⟨_, _, _, rfl, _, box_row hic, j, rfl, bcd (fun hlt => ?_) (fun hge => ⟨rfl, d1, by rw [show j - 1 = 3 by omega] at h1; exact h1⟩)⟩
  obtain ⟨j', rfl⟩ : ∃ j' : Nat, j = j' + 1 := ⟨j - 1, by omega⟩
  rw [Nat.add_sub_cancel] at h1
  have hol : (out ++ linesAll c k j').length ≤ 2 ^ 30 := by rw [List.length_append]; have := linesAll_len c k j'; omega
  -- the next line
  have next : ∀ (s3 : Store) (d3 : D), JAt σ0 s3 id k0 k1 k2 k3 k4 k5 b c0 c1 c2 c3 c4 c d3 (out ++ linesAll c k (j' + 1)) → s3 ic = .live t_int [[iD ((j' + 1 : Nat) : Int)]] →
      ∃ s2 : D, ∃ i2 off2 : Nat, dp ic = .el s2 i2 off2 ∧ ∃ row2 : List D, Row s3 s2 i2 row2 ∧ ∃ n2 : Int, List.take 1 (List.drop off2 row2) = [iD n2] ∧ Fw.newObj s3 (.live t_int [[iD 0]]) fun id1 σ4 => storeEl [iD n2] σ4 (.osl id1 0 1) 0 0 fun σ5 => ∃ row3 : List D, Row σ5 (.osl id1 0 1) 0 row3 ∧ ∃ n3 : Int, List.take 1 row3 = [iD n3] ∧ storeEl [iD (w64 (n3 + 1))] σ5 (.osl id1 0 1) 0 0 fun σ6 =>
        (∃ (ic j : Nat) (d' : D), D.el (.osl id1 0 1) 0 0 = dp ic ∧ 1 ≤ j ∧ j ≤ 4 ∧ σ6 ic = .live t_int [[iD j]] ∧ ic ≠ id ∧ idOf d' ≠ some ic ∧ JAt σ0 σ6 id k0 k1 k2 k3 k4 k5 b c0 c1 c2 c3 c4 c d' (out ++ linesAll c k (j - 1))) ∧ ctr (.el (.osl id1 0 1) 0 0) σ6 < ctr (dp ic) s := by
    intro s3 d3 h3 hc3
    refine ⟨_, _, _, rfl, _, box_row hc3, _, rfl, newObj_intro fun i4 s4 hi4 _ he4 hs4 => box_store hs4 fun s5 hs5 hs5' => ⟨_, box_row hs5, _, rfl, box_store hs5 fun s6 hs6 hs6' => ?_⟩⟩
    have he6 : Ext s3 s6 := fun i hi => by
      have hne : i ≠ i4 := fun e => hi (by rw [e]; exact hi4)
      rw [hs6' i hne, hs5' i hne]; exact he4 i hi
    rw [w64_id (n := ((j' + 1 : Nat) : Int) + 1) (by omega) (by omega)] at hs6
    have hs6 : s6 i4 = .live t_int [[iD ((j' + 2 : Nat) : Int)]] := by rw [hs6]; congr 3
    refine ⟨⟨i4, j' + 2, d3, rfl, by omega, by omega, hs6, fun e => ?_, fun e => ?_, h3.ext' he6⟩, ?_⟩
    · rw [e, h3.row] at hi4; cases hi4
    · cases d3 with
      | osl i a n =>
        have e1 : i = i4 := by simpa [idOf] using e
        subst e1
        obtain ⟨t, rows, g1, _⟩ := h3.own.at_.rows
        rw [hi4] at g1; cases g1
      | _ => simp [idOf] at e
    · rw [ctr_at hs6, ctr_at hic]; omega
  -- a note, and the next line
  have note : ∀ (w : Bool) (si : Int), opt w ⟨6, -1, si⟩ = lineB c k (j' + 1) → DCalls Try.prog n_watch_judge_note [.one (dp id), bA w, iA 6, iA (-1), iA si] s fun r s3 => r = .tup [] ∧
      ∃ s2 : D, ∃ i2 off2 : Nat, dp ic = .el s2 i2 off2 ∧ ∃ row2 : List D, Row s3 s2 i2 row2 ∧ ∃ n2 : Int, List.take 1 (List.drop off2 row2) = [iD n2] ∧ Fw.newObj s3 (.live t_int [[iD 0]]) fun id1 σ4 => storeEl [iD n2] σ4 (.osl id1 0 1) 0 0 fun σ5 => ∃ row3 : List D, Row σ5 (.osl id1 0 1) 0 row3 ∧ ∃ n3 : Int, List.take 1 row3 = [iD n3] ∧ storeEl [iD (w64 (n3 + 1))] σ5 (.osl id1 0 1) 0 0 fun σ6 =>
        (∃ (ic j : Nat) (d' : D), D.el (.osl id1 0 1) 0 0 = dp ic ∧ 1 ≤ j ∧ j ≤ 4 ∧ σ6 ic = .live t_int [[iD j]] ∧ ic ≠ id ∧ idOf d' ≠ some ic ∧ JAt σ0 σ6 id k0 k1 k2 k3 k4 k5 b c0 c1 c2 c3 c4 c d' (out ++ linesAll c k (j - 1))) ∧ ctr (.el (.osl id1 0 1) 0 0) σ6 < ctr (dp ic) s := by
    intro w si hw
    refine (judge_note_ok h1 hol w 6 (-1) si).mono ?_
    rintro r s4 ⟨rfl, d3, h3, hf, _⟩
    rw [hw, List.append_assoc] at h3
    exact ⟨rfl, next s4 d3 h3 ((hf ic (by rw [hic]; intro e; cases e) hne hd1).trans hic)⟩
  have hls : c.lineSec ((j' + 1 : Nat) : Int) = fidx (fun x : Sec => x.Line == ((j' + 1 : Nat) : Int)) c.Secs 0 := if_neg (by omega)
  have hlb : ∀ x : Ls, k.Lines[j' + 1]? = some x → lineB c k (j' + 1) = opt (decide (0 ≤ c.lineSec ((j' + 1 : Nat) : Int)) && (decide (x.Done > x.Ask) || (decide (x.Told > x.Grant) || ((ownAt k (c.lineSec ((j' + 1 : Nat) : Int)) == -2) && (x.Ask != x.Done))))) ⟨6, -1, c.lineSec ((j' + 1 : Nat) : Int)⟩ := fun x hx => by
    unfold lineB; simp only [hx, Option.getD_some]
  have hk1 := hk.ext h1.own.ext
  refine ⟨trivial, _, _, _, rfl, _, box_row h1.row, c0, rfl, (IndexFunc_Section_ok (p := fun x => x.Line == ((j' + 1 : Nat) : Int)) (hc s).secs (cap_fn hic fun x _ => W_watch_judge_lines_1 x.Kind x.OC x.Line _ s _ ⟨_, _, _, rfl, _, box_row hic, _, rfl, rfl, rfl⟩)).use ⟨_, rfl, ?_⟩⟩
  rw [← hls]
  obtain ⟨x, hx⟩ := get_of_lt (l := k.Lines) (j := j' + 1) (by omega)
  have hlb := hlb x hx
  have hsb := lineSec_bound c ((j' + 1 : Nat) : Int)
  generalize c.lineSec ((j' + 1 : Nat) : Int) = sec at hlb hsb ⊢
  refine bcd (fun e => next s d1 (by rw [linesAll, hlb, decide_eq_false (by omega), Bool.false_and]; simpa [opt] using h1) hic) (fun e => ?_)
  rw [decide_eq_true (by omega), Bool.true_and] at hlb
  refine ⟨trivial, _, _, _, rfl, _, box_row h1.row, k4, rfl, _, _, _, rfl, _, box_row hic, _, rfl, hk1.lines.load (map_get hx) c_LineState rfl ⟨x.Ask, x.Done, x.Grant, x.Told, x.PAsk, x.PDone, x.PGrant, x.Since, rfl, ?_⟩⟩
  refine bcd (fun t1 => note true sec (by rw [hlb, decide_eq_true t1]; rfl)) (fun t1 => bcd (fun t2 => note true sec (by rw [hlb, decide_eq_true t2, Bool.true_or, Bool.or_true])) (fun t2 => ?_))
  rw [decide_eq_false t1, decide_eq_false t2, Bool.false_or, Bool.false_or] at hlb
  obtain ⟨o, ho⟩ := get_of_lt (l := k.Own) (j := sec.toNat) (by omega)
  rw [ownAt_get (i := sec) (j := sec.toNat) (by omega) ho] at hlb
  refine ⟨trivial, _, _, _, rfl, _, box_row h1.row, k0, rfl, hk1.own.load (map_get ho) c_int (by omega) ⟨o, rfl, bce (fun t3 => note _ sec (by rw [hlb, show (o == -2) = true by simpa using t3, Bool.true_and])) (fun t3 => note _ sec (by rw [hlb, show (o == -2) = false by simpa using t3, Bool.false_and]))⟩⟩
theorem watch_Judge_ok (hk : CoAt σ k0 k1 k2 k3 k4 k5 k) (hb : b = k.Dirty) :
    DCalls Try.prog n_watch_Judge [cfA c0 c1 c2 c3 c4 c, coA k0 k1 k2 k3 k4 k5 b] σ fun r s => ∃ d, r = .a (.one d) ∧ Own Try.prog σ s t_Breach d ((k.judge c).map Br.enc) := by
  subst hb
  refine W_watch_Judge _ _ _ _ _ _ _ _ _ k0 k1 k2 k3 k4 k5 k.Dirty σ _ (newObj_intro fun id s1 hid _ he1 hs1 => ?_)
  have h1 : JAt σ s1 id k0 k1 k2 k3 k4 k5 k.Dirty c0 c1 c2 c3 c4 c .nils [] := ⟨hid, hs1, .nil _ he1, fun e => by cases e⟩
  refine (locks_Fits_ok hc (hk.ext he1)).use ⟨_, rfl, bcnot (fun e => ?_) (fun hfit => ?_)⟩
  · refine (judge_note_ok h1 (by simp) true 1 (-1) (-1)).mono ?_
    rintro r s2 ⟨rfl, d2, h2, _⟩
    refine ⟨rfl, _, box_row h2.row, d2, rfl, d2, rfl, ?_⟩
    rw [Co.judge, if_neg (by rw [e]; simp)]; exact h2.own
  have hck := fits_check hfit
  obtain ⟨lo, lp, lr, lt, lx, ll⟩ := fits_lens hfit
  obtain ⟨_, z1, z2, z3, _, _⟩ := check_small hck
  have b1 := ownsAll_len k c.Rts 0 (fun x hx => (check_rt hck hx).len.2)
  have b2 := idles_len k k.Own 0
  have b3 := pointsAll_len c k c.Rts 0 (fun x hx => by have := check_rt hck hx; have := needs_len c x; have := (check_rt hck hx).len; have := (check_rt hck hx).flen; omega)
  have b4 := gatesAll_len c k c.Rts 0 z3
  have hJ : k.judge c = ((ownsAll k c.Rts 0 ++ idles k k.Own 0) ++ pointsAll c k c.Rts 0) ++ gatesAll c k c.Rts 0 ++ linesAll c k 3 := by rw [Co.judge, if_pos hfit]
  refine newObj_intro fun id2 s2 hid2 _ he2 hs2 => ?_
  have h2 := h1.ext' he2
  have hne2 : id2 ≠ id := fun e => by rw [e, hs1] at hid2; cases hid2
  -- the store without the judge
  obtain ⟨τ, hτ⟩ : ∃ τ, τ = s2.set id .free := ⟨_, rfl⟩
  have t0 : τ id = .free := by rw [hτ, Store.set_same]
  have t1 : ∀ i, i ≠ id → τ i = s2 i := fun i hi => by rw [hτ, Store.set_ne _ _ hi]
  have e0 : Ext σ τ := fun i hi => by
    rw [t1 i (fun e => hi (by rw [e]; exact hid)), he2 i (by rw [he1 i hi]; exact hi), he1 i hi]
  have e1 : Ext τ s2 := fun i hi => (t1 i (fun e => hi (by rw [e]; exact t0))).symm
  have hk' := hk.ext e0
  have hJ2 : JAt τ s2 id k0 k1 k2 k3 k4 k5 k.Dirty c0 c1 c2 c3 c4 c .nils [] := ⟨t0, h2.row, .nil _ e1, fun e => by cases e⟩
  have hfn : ∀ s, Ext τ s → s id2 = s2 id2 := fun s he => by rw [he id2 (by rw [t1 id2 hne2, hs2]; intro e; cases e), t1 id2 hne2]
  -- the four parts, one by one
  generalize hp : ([ownsAll k c.Rts 0 ++ idles k k.Own 0, pointsAll c k c.Rts 0, gatesAll c k c.Rts 0, linesAll c k 3] : List (List Br)) = parts
  have hpf : parts.flatten = k.judge c := by rw [hJ, ← hp]; simp
  refine (At.fresh hs2 (by simp) rfl : At Try.prog s2 _ (.osl id2 0 4) _).lenK ?_
  refine ⟨fun n s => ∃ (j : Nat) (d' : D), n = j ∧ j ≤ 4 ∧ JAt τ s id k0 k1 k2 k3 k4 k5 k.Dirty c0 c1 c2 c3 c4 c d' (parts.take j).flatten, fun n _ => 4 - n.toNat, ⟨0, .nils, rfl, by omega, hJ2⟩, ?_⟩
  rintro _ s ⟨j, d1, rfl, hj4, h3⟩
  refine bcd (fun hlt => ?_) (fun hge => ?_)
  · have hlt : j < 4 := by simp at hlt; omega
    have hat := At.fresh (P := Try.prog) ((hfn s h3.own.ext).trans hs2) (by simp) (n := 4) rfl
    have step : ∀ (r : RV) (s4 : Store) (p : List Br), parts[j]? = some p → (r = .tup [] ∧ ∃ d', JAt τ s4 id k0 k1 k2 k3 k4 k5 k.Dirty c0 c1 c2 c3 c4 c d' ((parts.take j).flatten ++ p)) →
        r = .tup [] ∧ (∃ (j' : Nat) (d' : D), w64 ((j : Int) + 1) = j' ∧ j' ≤ 4 ∧ JAt τ s4 id k0 k1 k2 k3 k4 k5 k.Dirty c0 c1 c2 c3 c4 c d' (parts.take j').flatten) ∧ 4 - (w64 ((j : Int) + 1)).toNat < 4 - (j : Int).toNat := by
      rintro r s4 p hpj ⟨rfl, d', h4⟩
      rw [w64_succ (by omega)]
      refine ⟨rfl, ⟨j + 1, d', rfl, by omega, ?_⟩, by omega⟩
      rw [List.take_add_one, hpj]
      simpa using h4
    have hlen : (parts.flatten).length ≤ 2 ^ 20 := by
      rw [hpf, hJ]
      simp only [List.length_append] at *
      have := linesAll_len c k 3
      omega
    have : j = 0 ∨ j = 1 ∨ j = 2 ∨ j = 3 := by omega
    rcases this with rfl | rfl | rfl | rfl
    · refine hat.load (j := 0) rfl (by kernel_rfl) rfl ⟨_, rfl, n_watch_judge_owners, _, _, [.one (dp id)], [], rfl, rfl, rfl, (judge_owners_ok hc hk' hfit h3 ?_).mono fun r s4 h4 => step r s4 _ (by rw [← hp]; rfl) h4⟩
      rw [hpf, hJ] at hlen; simp only [List.length_append, List.take_zero, List.flatten_nil, List.length_nil] at hlen ⊢; omega
    · refine hat.load (j := 1) rfl (by kernel_rfl) rfl ⟨_, rfl, n_watch_judge_points, _, _, [.one (dp id)], [], rfl, rfl, rfl, (judge_points_ok hc hk' hfit h3 ?_).mono fun r s4 h4 => step r s4 _ (by rw [← hp]; rfl) h4⟩
      rw [hpf, hJ] at hlen; rw [← hp]; simp only [List.length_append, List.take_succ_cons, List.take_zero, List.flatten_cons, List.flatten_nil, List.length_nil] at hlen ⊢; omega
    · refine hat.load (j := 2) rfl (by kernel_rfl) rfl ⟨_, rfl, n_watch_judge_gates, _, _, [.one (dp id)], [], rfl, rfl, rfl, (judge_gates_ok hc hk' hfit h3 ?_).mono fun r s4 h4 => step r s4 _ (by rw [← hp]; rfl) h4⟩
      rw [hpf, hJ] at hlen; rw [← hp]; simp only [List.length_append, List.take_succ_cons, List.take_zero, List.flatten_cons, List.flatten_nil, List.length_nil] at hlen ⊢; omega
    · refine hat.load (j := 3) rfl (by kernel_rfl) rfl ⟨_, rfl, n_watch_judge_lines, _, _, [.one (dp id)], [], rfl, rfl, rfl, (judge_lines_ok hc hk' hfit h3 ?_).mono fun r s4 h4 => step r s4 _ (by rw [← hp]; rfl) h4⟩
      rw [hpf, hJ] at hlen; rw [← hp]; simp only [List.length_append, List.take_succ_cons, List.take_zero, List.flatten_cons, List.flatten_nil, List.length_nil] at hlen ⊢; omega
  · have hj : j = 4 := by simp at hge; omega
    subst hj
    refine ⟨_, box_row h3.row, d1, rfl, d1, rfl, ?_⟩
    rw [← hpf]
    have := h3.own.from e0
    rw [show parts.take 4 = parts by rw [← hp]; rfl] at this
    exact this
theorem watch_Worse_ok {m0 m1 m2 m3 m4 m5 : D} {m : Co} (hk : CoAt σ k0 k1 k2 k3 k4 k5 k) (hm : CoAt σ m0 m1 m2 m3 m4 m5 m) :
    DCalls Try.prog n_watch_Worse [cfA c0 c1 c2 c3 c4 c, coA k0 k1 k2 k3 k4 k5 k.Dirty, coA m0 m1 m2 m3 m4 m5 m.Dirty] σ fun r s => ∃ d, r = .a (.one d) ∧ Own Try.prog σ s t_int d ((k.worse c m).map encI) := by
  refine W_watch_Worse _ _ _ _ _ _ _ _ _ k0 k1 k2 k3 k4 k5 k.Dirty m0 m1 m2 m3 m4 m5 m.Dirty σ _ ?_
  intro R hR
  have nil : ¬ (k.fits c = true ∧ m.fits c = true) → ∃ d, RV.a (.one .nils) = .a (.one d) ∧ Own Try.prog σ σ t_int d ((k.worse c m).map encI) := fun e => ⟨_, rfl, by rw [Co.worse, if_neg e]; exact .nil _ (.refl _)⟩
  refine (locks_Fits_ok hc hk).use ⟨_, rfl, bcnot (fun e => nil (by rw [e]; simp)) (fun e1 => (locks_Fits_ok hc hm).use ⟨_, rfl, bcnot (fun e => nil (by rw [e]; simp)) (fun e2 => hR σ ?_)⟩)⟩
  rw [Co.worse, if_pos ⟨e1, e2⟩]
  have f1 := fits_lens e1
  have f2 := fits_lens e2
  have hsm := (check_small (fits_check e1)).2.1
  have lz : (k.Own.zip m.Own).length = k.Own.length := by rw [List.length_zip]; omega
  refine hk.own.lenK ⟨fun d n s => ∃ out : List Int, Own Try.prog σ s t_int d (out.map encI) ∧ (out.length : Int) ≤ n ∧ Rng (k.Own.zip m.Own) (fun r => out ++ worseL r n.toNat = worseL (k.Own.zip m.Own) 0) n, fun _ n _ => (k.Own.zip m.Own).length - n.toNat,
    ⟨[], .nil _ (.refl _), by simp, .start rfl⟩, ?_⟩
  rintro d n s ⟨out, ho, hol, hr⟩
  refine bcd (fun hlt => ?_) (fun hge => ?_)
  · obtain ⟨j, x, rfl, hx, hj, hF, nx⟩ := hr.step (by rw [List.length_map, lz]) (by omega) hlt
    obtain ⟨g1, g2⟩ := List.getElem?_zip_eq_some.1 hx
    have hw : w64 ((j : Int) + 1) = ((j + 1 : Nat) : Int) := w64_succ (by omega)
    rw [Int.toNat_natCast, worseL] at hF
    have go : ∀ out2 d2 s2, out2 ++ worseL ((k.Own.zip m.Own).drop (j + 1)) (j + 1) = worseL (k.Own.zip m.Own) 0 → Own Try.prog σ s2 t_int d2 (out2.map encI) → out2.length ≤ j + 1 → (∃ out : List Int, Own Try.prog σ s2 t_int d2 (out.map encI) ∧ (out.length : Int) ≤ w64 ((j : Int) + 1) ∧ Rng (k.Own.zip m.Own) (fun r => out ++ worseL r (w64 ((j : Int) + 1)).toNat = worseL (k.Own.zip m.Own) 0) (w64 ((j : Int) + 1))) ∧
        (k.Own.zip m.Own).length - (w64 ((j : Int) + 1)).toNat < (k.Own.zip m.Own).length - (j : Int).toNat := fun out2 d2 s2 he ho2 hl => by
      have := nx (fun r => out2 ++ worseL r (w64 ((j : Int) + 1)).toNat = worseL (k.Own.zip m.Own) 0) (by rw [hw, Int.toNat_natCast]; exact he)
      exact ⟨⟨out2, ho2, by rw [hw]; omega, this.1⟩, this.2⟩
    have no : ¬ (x.1 ≠ x.2 ∧ x.1 ≠ 0 ∧ x.2 ≠ 0) → _ := fun hn => go out d s (by rw [if_neg hn] at hF; exact hF) ho (by omega)
    refine (hk.ext ho.ext).own.load (map_get g1) c_int rfl ⟨x.1, rfl, (hm.ext ho.ext).own.load (map_get g2) c_int rfl ⟨x.2, rfl, bcn (fun t1 => bcn (fun t2 => (hm.ext ho.ext).own.load (map_get g2) c_int rfl ⟨x.2, rfl, bcn (fun t3 => ?_) (fun t => no (fun g => g.2.2 t))⟩) (fun t => no (fun g => g.2.1 t))) (fun t => no (fun g => g.1 t))⟩⟩
    rw [if_pos ⟨t1, t2, t3⟩] at hF
    exact newObj_intro fun id1 s4 hid1 _ he4 hs4 => (ho.ext' he4).append (At.fresh hs4 (by simp) rfl) (by simp; omega) (by simp; omega) fun d4 s5 ho5 _ _ => go (out ++ [(j : Int)]) _ _ (by rw [List.append_assoc]; exact hF) (by rw [List.map_append]; exact ho5) (by simp; omega)
  · have hF := hr.done (by rw [List.length_map, lz]) hge
    rw [worseL, List.append_nil] at hF
    exact ⟨d, rfl, hF ▸ ho⟩
end
end Go.Proofs.Yteflnjedfmmddaa
end
section
set_option linter.unusedVariables false
set_option linter.unusedSimpArgs false
namespace Go.Proofs.Yteflnjedfmmddaa
open Go.Fw Go.Proofs Go.RowKit
variable {σ : Store}
theorem flatBr (l : List Br) : ∀ row ∈ l.map Br.enc, ∀ x ∈ row, Flat x :=
  flat_ints Br.enc (fun r d hd => by simp [Br.enc] at hd; rcases hd with rfl | rfl | rfl <;> exact .int _ _) l
theorem ref22_runs_ok (n : Int) : Pure Try.prog n_ref22_runs [iA n] σ (.a (bA (runsB n))) :=
  W_ref22_runs n σ _ (bce (fun e => ⟨by subst e; rfl, rfl⟩) (fun e1 => bce (fun e => ⟨by subst e; rfl, rfl⟩) (fun e2 => ⟨by
    congr 3
    rw [Bool.eq_iff_iff]
    simp only [runsB, inL, List.mem_cons, List.not_mem_nil, or_false, decide_eq_true_eq, beq_iff_eq]
    omega, rfl⟩)))
/-- The reference's path, place by place. -/
def ownR (k : Co) (r : Nat) (must : Nat → Bool) : List St → Nat → List Br
  | [], _ => []
  | s :: l, j => opt (must j && (ownAt k s.Sec != (r : Int) + 1)) ⟨2, r, s.Sec⟩ ++ ownR k r must l (j + 1)
section
variable {c0 c1 c2 c3 c4 : D} {c : Cf} {k0 k1 k2 k3 k4 k5 : D} {k : Co} {b : Bool}
  (hc : ∀ s, CfAt s c0 c1 c2 c3 c4 c) (hk : ∀ s, CoAt s k0 k1 k2 k3 k4 k5 k) (hfit : k.fits c = true)
include hc hk hfit
theorem ref22_owns_ok {r : Nat} {x : Rt} (hx : c.Rts[r]? = some x) :
    DCalls Try.prog n_ref22_owns [cfA c0 c1 c2 c3 c4 c, coA k0 k1 k2 k3 k4 k5 b, iA r] σ (SlPost σ t_Breach ((ownP k r (x.Path.drop (fromOf k r x.Path.length))).map Br.enc)) := by
  obtain ⟨lo, lp, lr, lt, lx, ll⟩ := fits_lens hfit
  have hck := fits_check hfit
  obtain ⟨_, s1, s2, s3, _, _⟩ := check_small hck
  have hxo := check_rt hck (List.mem_of_getElem? hx)
  obtain ⟨rows, d1, d2, d3, hat, hlen, hrow, q1, q2, q3⟩ := rt_frz hc hx
  have hrl := (List.getElem?_eq_some_iff.1 hx).1
  obtain ⟨rs, hrs⟩ := get_of_lt (l := k.Routes) (j := r) (by omega)
  have hst := stAt_get (i := r) rfl hrs
  have hfits2 := hfit
  simp only [Co.fits, Co.parts, Bool.and_eq_true] at hfits2
  have hz := List.all_eq_true.1 hfits2.2.2.2.1 (rs, x) (List.mem_of_getElem? (i := r) (by rw [List.getElem?_zip_eq_some]; exact ⟨hrs, hx⟩))
  simp only [Rs.fits, Bool.and_eq_true, decide_eq_true_eq] at hz
  have hlen8 := hxo.len
  obtain ⟨must, hmd⟩ : ∃ must : Nat → Bool, must = fun (j : Nat) => runsB rs.State || (inL [4, 5] rs.State && decide ((j : Int) ≥ rs.Next)) := ⟨_, rfl⟩
  have hcut : ∀ j, j < x.Path.length → must j = decide (fromOf k r x.Path.length ≤ j) := fun j hj => by
    rw [hmd]; simp only; unfold fromOf
    rw [hst.1, hst.2]
    cases hr : runsB rs.State with
    | true => simp
    | false =>
      cases h45 : inL [4, 5] rs.State with
      | true => simp <;> omega
      | false => simp; try omega
  -- beyond the path's end it says nothing
  have key : ∀ (l : List St) (j : Nat), j + l.length = x.Path.length → ownR k r must l j = ownP k r (l.drop (fromOf k r x.Path.length - j)) := by
    intro l
    induction l with
    | nil => intro j _; simp [ownR, ownP]
    | cons s l ih =>
      intro j hj
      rw [List.length_cons] at hj
      rw [ownR, ih (j + 1) (by omega), hcut j (by omega)]
      by_cases h : fromOf k r x.Path.length ≤ j
      · rw [decide_eq_true h, Bool.true_and, show fromOf k r x.Path.length - j = 0 by omega, show fromOf k r x.Path.length - (j + 1) = 0 by omega, List.drop_zero, List.drop_zero, ownP]
      · rw [decide_eq_false h, Bool.false_and, show fromOf k r x.Path.length - j = (fromOf k r x.Path.length - (j + 1)) + 1 by omega, List.drop_succ_cons]; rfl
  have k0' := key x.Path 0 (by omega)
  rw [Nat.sub_zero] at k0'
  rw [← k0']
  refine (W_ref22_owns _ _ _ _ _ _ _ _ _ k0 k1 k2 k3 k4 k5 b r σ _ ?_).ret (Q := fun r' s => ∃ r'' σ', Ret Try.prog σ s r' σ' r'' ∧ SlPost σ t_Breach ((ownR k r must x.Path 0).map Br.enc) r'' σ') (fun r s h => h)
  refine (hk σ).routes.load (map_get hrs) c_RouteState rfl ⟨rs.State, rs.Since, rs.Next, rs.Mark, rfl, (hat σ).load hrow c_Route rfl ⟨d1, rfl, (q1 σ).lenK ⟨fun d n s => ∃ out : List Br, Own Try.prog σ s t_Breach d (out.map Br.enc) ∧ (out.length : Int) ≤ n ∧ Rng x.Path (fun l => out ++ ownR k r must l n.toNat = ownR k r must x.Path 0) n,
    fun _ n _ => x.Path.length - n.toNat, ⟨[], .nil _ (.refl _), by simp, .start rfl⟩, ?_⟩⟩⟩
  rintro d n s ⟨out, ho, hol, hr⟩
  rw [List.length_map]
  refine bcd (fun hlt => ?_) (fun hge => ?_)
  · obtain ⟨j, y, rfl, hy, hj, hF, nx⟩ := hr.step rfl (by omega) hlt
    have hw : w64 ((j : Int) + 1) = ((j + 1 : Nat) : Int) := w64_succ (by omega)
    obtain ⟨z, hzs, _⟩ := (hxo.step y (List.mem_of_getElem? hy)).1.sec
    have hzg := geti_some hzs
    obtain ⟨o, hog⟩ := get_of_lt (l := k.Own) (j := y.Sec.toNat) (by omega)
    rw [Int.toNat_natCast, ownR, ownAt_get (i := y.Sec) (j := y.Sec.toNat) (by omega) hog] at hF
    have go : ∀ out2 d2 s2, out2 ++ ownR k r must (x.Path.drop (j + 1)) (j + 1) = ownR k r must x.Path 0 → Own Try.prog σ s2 t_Breach d2 (out2.map Br.enc) → out2.length ≤ j + 1 → (∃ out : List Br, Own Try.prog σ s2 t_Breach d2 (out.map Br.enc) ∧ (out.length : Int) ≤ w64 ((j : Int) + 1) ∧ Rng x.Path (fun l => out ++ ownR k r must l (w64 ((j : Int) + 1)).toNat = ownR k r must x.Path 0) (w64 ((j : Int) + 1))) ∧
        x.Path.length - (w64 ((j : Int) + 1)).toNat < x.Path.length - (j : Int).toNat := fun out2 d2 s2 he ho2 hl => by
      have := nx (fun l => out2 ++ ownR k r must l (w64 ((j : Int) + 1)).toNat = ownR k r must x.Path 0) (by rw [hw, Int.toNat_natCast]; exact he)
      exact ⟨⟨out2, ho2, by rw [hw]; omega, this.1⟩, this.2⟩
    refine (q1 s).load (map_get hy) c_Step rfl ⟨y.Sec, y.In, y.Out, rfl, ?_⟩
    intro R hR
    have hwr : w64 ((r : Int) + 1) = (r : Int) + 1 := w64_id (by omega) (by omega)
    have main : R (must j) s := by
      refine hR _ s (bc (fun e => ?_) (fun e => ⟨rfl, go out _ _ (by rw [e] at hF; exact hF) ho (by omega)⟩))
      rw [e, Bool.true_and] at hF
      refine (hk s).own.load (map_get hog) c_int (by omega) ⟨o, rfl, ?_⟩
      rw [hwr]
      refine bcn (fun e2 => ?_) (fun e2 => ⟨rfl, go out _ _ (by rw [show (o != (r : Int) + 1) = false by simpa using e2] at hF; exact hF) ho (by omega)⟩)
      rw [show (o != (r : Int) + 1) = true by simpa using e2] at hF
      exact newObj_intro fun id1 s4 hid1 _ he4 hs4 => (ho.ext' he4).append (At.fresh hs4 (by simp) rfl) (by simp; omega) (by simp; omega) fun d4 s5 ho5 _ _ => ⟨rfl, go (out ++ [⟨2, r, y.Sec⟩]) _ _ (by rw [List.append_assoc]; exact hF) (by rw [List.map_append]; exact ho5) (by simp; omega)⟩
    rw [hmd] at main
    simp only at main
    refine (ref22_runs_ok _).use ⟨_, rfl, bc (fun e => ⟨rfl, by rw [e, Bool.true_or] at main; exact main⟩) (fun e => ?_)⟩
    rw [e, Bool.false_or] at main
    refine bce (fun e4 => ⟨rfl, by rw [e4] at main; exact main⟩) (fun e4 => bce (fun e5 => ⟨rfl, by rw [e5] at main; exact main⟩) (fun e5 => ⟨rfl, ?_⟩))
    rw [show inL [4, 5] rs.State = false by simp [inL, e4, e5], Bool.false_and] at main; exact main
  · have hF := hr.done rfl hge
    rw [ownR, List.append_nil] at hF
    rw [← hF]
    exact own_fin ho (flatBr _)
theorem ref22_points_ok {r : Nat} {x : Rt} (hx : c.Rts[r]? = some x) :
    DCalls Try.prog n_ref22_points [cfA c0 c1 c2 c3 c4 c, coA k0 k1 k2 k3 k4 k5 b, iA r] σ (SlPost σ t_Breach ((if runsB (stAt k r) = true then needB k r (c.needs x) else []).map Br.enc)) := by
  obtain ⟨lo, lp, lr, lt, lx, ll⟩ := fits_lens hfit
  have hck := fits_check hfit
  obtain ⟨_, s1, s2, s3, _, _⟩ := check_small hck
  have hxo := check_rt hck (List.mem_of_getElem? hx)
  have hrl := (List.getElem?_eq_some_iff.1 hx).1
  obtain ⟨rs, hrs⟩ := get_of_lt (l := k.Routes) (j := r) (by omega)
  rw [(stAt_get (i := r) rfl hrs).1]
  refine (W_ref22_points _ _ _ _ _ _ _ _ _ k0 k1 k2 k3 k4 k5 b r σ _ ?_).ret (Q := fun r' s => ∃ r'' σ', Ret Try.prog σ s r' σ' r'' ∧ SlPost σ t_Breach ((if runsB rs.State = true then needB k r (c.needs x) else []).map Br.enc) r'' σ') (fun r s h => h)
  refine (hk σ).routes.load (map_get hrs) c_RouteState rfl ⟨rs.State, rfl, (ref22_runs_ok _).use ⟨_, rfl, bcnot (fun e => ?_) (fun e => ?_)⟩⟩
  · rw [if_neg (by rw [e]; simp)]; exact own_fin (.nil _ (.refl _)) (flatBr _)
  rw [if_pos e]
  have hrt : c.rt r = x := rt_some (by rw [geti_nat]; exact hx)
  refine (ref12_Needs_ok hc r (by rw [hrt]; have := hxo.len; omega) (by rw [hrt]; have := hxo.flen; omega)).mono ?_
  rintro r1 s ⟨rfl, e1, rfl, q1⟩
  rw [Cf.Needs, hrt] at q1
  have hnl : (c.needs x).length ≤ 40 := by have := needs_len c x; have := hxo.len; have := hxo.flen; omega
  have hwr : w64 ((r : Int) + 1) = (r : Int) + 1 := w64_id (by omega) (by omega)
  refine ⟨e1, rfl, (q1 s).lenK ⟨fun d n s' => ∃ out : List Br, Own Try.prog s s' t_Breach d (out.map Br.enc) ∧ (out.length : Int) ≤ n ∧ Rng (c.needs x) (fun l => out ++ needB k r l = needB k r (c.needs x)) n,
    fun _ n _ => (c.needs x).length - n.toNat, ⟨[], .nil _ (.refl _), by simp, .start rfl⟩, ?_⟩⟩
  rintro d n s' ⟨out, ho, hol, hr⟩
  rw [List.length_map, hwr]
  refine bcd (fun hlt => ?_) (fun hge => ?_)
  · obtain ⟨j, y, rfl, hy, hj, hF, nx⟩ := hr.step rfl (by omega) hlt
    obtain ⟨⟨z, hz⟩, _⟩ := needs_sec hxo (List.mem_of_getElem? hy)
    have hzg := geti_some hz
    obtain ⟨o, hog⟩ := get_of_lt (l := k.Own) (j := y.Sec.toNat) (by omega)
    obtain ⟨mv, hmv⟩ := get_of_lt (l := k.Points) (j := y.Sec.toNat) (by omega)
    rw [needB, ownAt_get (i := y.Sec) (j := y.Sec.toNat) (by omega) hog, cmdAt_get (i := y.Sec) (j := y.Sec.toNat) (by omega) hmv] at hF
    have go : ∀ out2 d2 s2, out2 ++ needB k r ((c.needs x).drop (j + 1)) = needB k r (c.needs x) → Own Try.prog s s2 t_Breach d2 (out2.map Br.enc) → out2.length ≤ j + 1 → (∃ out : List Br, Own Try.prog s s2 t_Breach d2 (out.map Br.enc) ∧ (out.length : Int) ≤ w64 ((j : Int) + 1) ∧ Rng (c.needs x) (fun l => out ++ needB k r l = needB k r (c.needs x)) (w64 ((j : Int) + 1))) ∧
        (c.needs x).length - (w64 ((j : Int) + 1)).toNat < (c.needs x).length - (j : Int).toNat := fun out2 d2 s2 he ho2 hl => by
      have := nx (fun l => out2 ++ needB k r l = needB k r (c.needs x)) he
      exact ⟨⟨out2, ho2, by rw [w64_succ (by omega)]; omega, this.1⟩, this.2⟩
    refine (q1 s').load (map_get hy) c_Need rfl ⟨y.Sec, y.Pos, rfl, (hk s').own.load (map_get hog) c_int (by omega) ⟨o, rfl, bce (fun e2 => (hk s').points.load (map_get hmv) c_Mover (by omega) ⟨mv.Cmd, rfl, bcn (fun e3 => ?_) (fun e3 => go out _ _ ?_ ho (by omega))⟩) (fun e2 => go out _ _ ?_ ho (by omega))⟩⟩
    · rw [show (o == (r : Int) + 1) = true by simpa using e2, show (mv.Cmd != y.Pos) = true by simpa using e3] at hF
      exact newObj_intro fun id1 s4 hid1 _ he4 hs4 => (ho.ext' he4).append (At.fresh hs4 (by simp) rfl) (by simp; omega) (by simp; omega) fun d4 s5 ho5 _ _ => go (out ++ [⟨4, r, y.Sec⟩]) _ _ (by rw [List.append_assoc]; exact hF) (by rw [List.map_append]; exact ho5) (by simp; omega)
    · rw [show (mv.Cmd != y.Pos) = false by simpa using e3, Bool.and_false] at hF; exact hF
    · rw [show (o == (r : Int) + 1) = false by simpa using e2, Bool.false_and] at hF; exact hF
  · have hF := hr.done rfl hge
    rw [needB, List.append_nil] at hF
    rw [← hF]
    exact own_fin ho (flatBr _)
theorem ref22_gates_ok {r : Nat} {x : Rt} (hx : c.Rts[r]? = some x) :
    DCalls Try.prog n_ref22_gates [cfA c0 c1 c2 c3 c4 c, coA k0 k1 k2 k3 k4 k5 b, iA r] σ (SlPost σ t_Breach ((if inL [0] (stAt k r) = true then [] else gateB c k r (crossL x.Path c.Xs 0)).map Br.enc)) := by
  obtain ⟨lo, lp, lr, lt, lx, ll⟩ := fits_lens hfit
  have hck := fits_check hfit
  obtain ⟨_, s1, s2, s3, _, _⟩ := check_small hck
  have hxs := check_xs hck
  have hrl := (List.getElem?_eq_some_iff.1 hx).1
  obtain ⟨rs, hrs⟩ := get_of_lt (l := k.Routes) (j := r) (by omega)
  rw [(stAt_get (i := r) rfl hrs).1]
  refine (W_ref22_gates _ _ _ _ _ _ _ _ _ k0 k1 k2 k3 k4 k5 b r σ _ ?_).ret (Q := fun r' s => ∃ r'' σ', Ret Try.prog σ s r' σ' r'' ∧ SlPost σ t_Breach ((if inL [0] rs.State = true then [] else gateB c k r (crossL x.Path c.Xs 0)).map Br.enc) r'' σ') (fun r s h => h)
  refine (hk σ).routes.load (map_get hrs) c_RouteState rfl ⟨rs.State, rfl, bce (fun e => ?_) (fun e => ?_)⟩
  · rw [if_pos (by simp [inL, e])]; exact own_fin (.nil _ (.refl _)) (flatBr _)
  rw [if_neg (by simp [inL, e])]
  have hrt : c.rt r = x := rt_some (by rw [geti_nat]; exact hx)
  refine (ref12_Crossings_ok hc r (by omega)).mono ?_
  rintro r1 s ⟨rfl, e1, rfl, q1⟩
  rw [Cf.Cross, hrt] at q1
  have hnl := crossL_len x.Path c.Xs 0
  have hmem := crossL_mem x.Path c.Xs 0
  generalize crossL x.Path c.Xs 0 = cr at *
  have hwr : w64 ((r : Int) + 1) = (r : Int) + 1 := w64_id (by omega) (by omega)
  refine ⟨e1, rfl, (q1 s).lenK ⟨fun d n s' => ∃ out : List Br, Own Try.prog s s' t_Breach d (out.map Br.enc) ∧ (out.length : Int) ≤ n ∧ Rng cr (fun l => out ++ gateB c k r l = gateB c k r cr) n,
    fun _ n _ => cr.length - n.toNat, ⟨[], .nil _ (.refl _), by simp, .start rfl⟩, ?_⟩⟩
  rintro d n s' ⟨out, ho, hol, hr⟩
  rw [List.length_map, hwr]
  refine bcd (fun hlt => ?_) (fun hge => ?_)
  · obtain ⟨j, y, rfl, hy, hj, hF, nx⟩ := hr.step rfl (by omega) hlt
    obtain ⟨jx, sx, rfl, hsx, _⟩ := hmem y (List.mem_of_getElem? hy)
    rw [Nat.zero_add] at *
    obtain ⟨z, hz, _⟩ := hxs.1 sx (List.mem_of_getElem? hsx)
    have hzg := geti_some hz
    have hjx := (List.getElem?_eq_some_iff.1 hsx).1
    obtain ⟨o, hog⟩ := get_of_lt (l := k.Own) (j := sx.toNat) (by omega)
    obtain ⟨mv, hmv⟩ := get_of_lt (l := k.Xs) (j := jx) (by omega)
    rw [gateB, xAt_get (i := jx) rfl hsx, ownAt_get (i := sx) (j := sx.toNat) (by omega) hog, cmdAt_get (i := jx) rfl hmv] at hF
    have go : ∀ out2 d2 s2, out2 ++ gateB c k r (cr.drop (j + 1)) = gateB c k r cr → Own Try.prog s s2 t_Breach d2 (out2.map Br.enc) → out2.length ≤ j + 1 → (∃ out : List Br, Own Try.prog s s2 t_Breach d2 (out.map Br.enc) ∧ (out.length : Int) ≤ w64 ((j : Int) + 1) ∧ Rng cr (fun l => out ++ gateB c k r l = gateB c k r cr) (w64 ((j : Int) + 1))) ∧
        cr.length - (w64 ((j : Int) + 1)).toNat < cr.length - (j : Int).toNat := fun out2 d2 s2 he ho2 hl => by
      have := nx (fun l => out2 ++ gateB c k r l = gateB c k r cr) he
      exact ⟨⟨out2, ho2, by rw [w64_succ (by omega)]; omega, this.1⟩, this.2⟩
    refine (q1 s').load (map_get hy) c_int rfl ⟨jx, rfl, (hc s').xs.load (map_get hsx) c_int rfl ⟨sx, rfl, (hk s').own.load (map_get hog) c_int (by omega) ⟨o, rfl, bce (fun e2 => (hk s').xs.load (map_get hmv) c_Mover rfl ⟨mv.Cmd, rfl, bcn (fun e3 => ?_) (fun e3 => go out _ _ ?_ ho (by omega))⟩) (fun e2 => go out _ _ ?_ ho (by omega))⟩⟩⟩
    · rw [show (o == (r : Int) + 1) = true by simpa using e2, show (mv.Cmd != 1) = true by simpa using e3] at hF
      exact newObj_intro fun id1 s4 hid1 _ he4 hs4 => (ho.ext' he4).append (At.fresh hs4 (by simp) rfl) (by simp; omega) (by simp; omega) fun d4 s5 ho5 _ _ => go (out ++ [⟨5, r, sx⟩]) _ _ (by rw [List.append_assoc]; exact hF) (by rw [List.map_append]; exact ho5) (by simp; omega)
    · rw [show (mv.Cmd != 1) = false by simpa using e3, Bool.and_false] at hF; exact hF
    · rw [show (o == (r : Int) + 1) = false by simpa using e2, Bool.false_and] at hF; exact hF
  · have hF := hr.done rfl hge
    rw [gateB, List.append_nil] at hF
    rw [← hF]
    exact own_fin ho (flatBr _)
end
theorem ref22_Same_ok {a b : D} {la lb : List Br} (ha : At Try.prog σ t_Breach a (la.map Br.enc)) (hb : At Try.prog σ t_Breach b (lb.map Br.enc)) : Pure Try.prog n_ref22_Same [.one a, .one b] σ (.a (bA (decide (la = lb)))) := by
  have hs := ha.size
  rw [List.length_map] at hs
  refine W_ref22_Same a b σ _ (ha.lenK (hb.lenK ?_))
  rw [List.length_map, List.length_map]
  refine bcn (fun hne => ⟨?_, rfl⟩) (fun he => ha.lenK ?_)
  · rw [decide_eq_false (fun e => hne (by rw [e]))]
  have hl : la.length = lb.length := by omega
  rw [List.length_map]
  refine ⟨fun n s => s = σ ∧ EqR la lb n, fun n _ => la.length - n.toNat, ⟨rfl, .start _ _⟩, ?_⟩
  rintro n s ⟨rfl, hr⟩
  refine bcd (fun hlt => ?_) (fun hge => ⟨?_, rfl⟩)
  · obtain ⟨j, x, y, rfl, hx, hy, hn, hy2⟩ := hr.step hl rfl hs hlt
    refine ha.load (map_get hx) c_Breach rfl ⟨x.Kind, x.Route, x.Sec, rfl, hb.load (map_get hy) c_Breach rfl ⟨y.Kind, y.Route, y.Sec, rfl, bcnot (fun e => ⟨?_, rfl⟩) (fun e => andl rfl (hy2 ?_))⟩⟩
    · rw [decide_eq_false (hn fun g => by rw [g] at e; simp at e)]
    · simp at e; cases x; cases y; simp at e; simp [e]
  · rw [decide_eq_true (hr.done hl rfl hge)]
section
variable {c0 c1 c2 c3 c4 : D} {c : Cf} {k0 k1 k2 k3 k4 k5 : D} {k : Co}
  (hc : ∀ s, CfAt s c0 c1 c2 c3 c4 c) (hk : ∀ s, CoAt s k0 k1 k2 k3 k4 k5 k)
include hc hk
theorem ref22_Judge_ok (b : Bool) : DCalls Try.prog n_ref22_Judge [cfA c0 c1 c2 c3 c4 c, coA k0 k1 k2 k3 k4 k5 b] σ (SlPost σ t_Breach ((k.judge c).map Br.enc)) := by
  refine (W_ref22_Judge _ _ _ _ _ _ _ _ _ k0 k1 k2 k3 k4 k5 b σ _ ?_).ret (Q := fun r' s => ∃ r'' σ', Ret Try.prog σ s r' σ' r'' ∧ SlPost σ t_Breach ((k.judge c).map Br.enc) r'' σ') (fun r s h => h)
  refine (ref13_Fits_ok hc (hk σ) b).use ⟨_, rfl, bcnot (fun e => ?_) (fun hfit => ?_)⟩
  · refine newObj_intro fun id s hid _ he hs => ?_
    rw [Co.judge, if_neg (by rw [e]; simp)]
    exact own_fin (.at_new hid he hs (by simp) rfl) (flatBr _)
  have hck := fits_check hfit
  obtain ⟨lo, lp, lr, lt, lx, ll⟩ := fits_lens hfit
  obtain ⟨_, z1, z2, z3, _, _⟩ := check_small hck
  have b1 := ownsAll_len k c.Rts 0 (fun x hx => (check_rt hck hx).len.2)
  have b2 := idles_len k k.Own 0
  have b3 := pointsAll_len c k c.Rts 0 (fun x hx => by have := check_rt hck hx; have := needs_len c x; have := (check_rt hck hx).len; have := (check_rt hck hx).flen; omega)
  have b4 := gatesAll_len c k c.Rts 0 z3
  have b5 := linesAll_len c k 3
  have hJ : k.judge c = ownsAll k c.Rts 0 ++ idles k k.Own 0 ++ pointsAll c k c.Rts 0 ++ gatesAll c k c.Rts 0 ++ linesAll c k 3 := by rw [Co.judge, if_pos hfit]
  have hJl : (k.judge c).length ≤ 2 ^ 20 := by rw [hJ]; simp only [List.length_append]; omega
  obtain ⟨rows, hat, hlen⟩ := rts_len (hc σ)
  have hr4 : Len c4 c.Rts.length := by rw [← hlen]; exact hat.lenI
  -- routes' own sections
  refine ⟨_, hr4, fun d n s => ∃ out : List Br, Own Try.prog σ s t_Breach d (out.map Br.enc) ∧ Rng c.Rts (fun l => out ++ ownsAll k l n.toNat = ownsAll k c.Rts 0) n, fun _ n _ => c.Rts.length - n.toNat, ⟨[], .nil _ (.refl _), .start rfl⟩, ?_⟩
  rintro d n s ⟨out, ho, hr⟩
  refine bcd (fun hlt => ?_) (fun hge => ?_)
  · obtain ⟨j, x, rfl, hx, hj, hF, nx⟩ := hr.step rfl (by omega) hlt
    have hw : w64 ((j : Int) + 1) = ((j + 1 : Nat) : Int) := w64_succ (by omega)
    rw [Int.toNat_natCast, ownsAll] at hF
    refine (ref22_owns_ok hc hk hfit hx).mono ?_
    rintro r1 s1 ⟨rfl, e1, rfl, q1⟩
    have hl1 := rest_len hF (n := 1000) (by omega)
    have hl2 : (out ++ ownP k j (x.Path.drop (fromOf k j x.Path.length))).length ≤ 1000 := rest_len ((List.append_assoc _ _ _).trans hF) (by omega)
    rw [List.length_append] at hl2
    refine ⟨e1, rfl, ho.append (q1 _) (by simp only [List.length_map]; omega) (by simp only [List.length_map]; omega) fun d2 s2 ho2 _ _ => ?_⟩
    have := nx (fun l => (out ++ ownP k j (x.Path.drop (fromOf k j x.Path.length))) ++ ownsAll k l (w64 ((j : Int) + 1)).toNat = ownsAll k c.Rts 0) (by rw [hw, Int.toNat_natCast, List.append_assoc]; exact hF)
    exact ⟨⟨_, by rw [List.map_append]; exact ho2, this.1⟩, this.2⟩
  have hF := hr.done rfl hge
  rw [ownsAll, List.append_nil] at hF
  subst hF
  clear hge hr
  -- owners without a route
  refine (hk s).own.lenK ⟨fun d n s => ∃ out : List Br, Own Try.prog σ s t_Breach d (out.map Br.enc) ∧ Rng k.Own (fun l => out ++ idles k l n.toNat = ownsAll k c.Rts 0 ++ idles k k.Own 0) n, fun _ n _ => k.Own.length - n.toNat, ⟨_, ho, .start rfl⟩, ?_⟩
  rintro d n s ⟨out, ho, hr⟩
  rw [List.length_map]
  refine bcd (fun hlt => ?_) (fun hge => ?_)
  · obtain ⟨j, o, rfl, hog, hj, hF, nx⟩ := hr.step rfl (by omega) hlt
    have hw : w64 ((j : Int) + 1) = ((j + 1 : Nat) : Int) := w64_succ (by omega)
    rw [Int.toNat_natCast, idles] at hF
    have hl1 := rest_len hF (n := 1000) (by simp only [List.length_append]; omega)
    have hfits2 := hfit
    simp only [Co.fits, Co.parts, Bool.and_eq_true] at hfits2
    have hz := of_decide_eq_true (List.all_eq_true.1 hfits2.2.2.1 o (List.mem_of_getElem? hog))
    have go : ∀ out2 d2 s2, out2 ++ idles k (k.Own.drop (j + 1)) (j + 1) = ownsAll k c.Rts 0 ++ idles k k.Own 0 → Own Try.prog σ s2 t_Breach d2 (out2.map Br.enc) → (∃ out : List Br, Own Try.prog σ s2 t_Breach d2 (out.map Br.enc) ∧ Rng k.Own (fun l => out ++ idles k l (w64 ((j : Int) + 1)).toNat = ownsAll k c.Rts 0 ++ idles k k.Own 0) (w64 ((j : Int) + 1))) ∧
        k.Own.length - (w64 ((j : Int) + 1)).toNat < k.Own.length - (j : Int).toNat := fun out2 d2 s2 he ho2 => by
      have := nx (fun l => out2 ++ idles k l (w64 ((j : Int) + 1)).toNat = ownsAll k c.Rts 0 ++ idles k k.Own 0) (by rw [hw, Int.toNat_natCast]; exact he)
      exact ⟨⟨out2, ho2, this.1⟩, this.2⟩
    have hm : w64 (o - 1) = o - 1 := w64_id (by omega) (by omega)
    refine (hk s).own.load (map_get hog) c_int rfl ⟨o, rfl, bcd (fun e => ?_) (fun e => go out _ _ (by rw [decide_eq_false e, Bool.false_and] at hF; exact hF) ho)⟩
    rw [hm]
    obtain ⟨jr, hjr⟩ : ∃ jr : Nat, o - 1 = jr := ⟨(o - 1).toNat, by omega⟩
    obtain ⟨rs, hrs⟩ := get_of_lt (l := k.Routes) (j := jr) (by omega)
    rw [decide_eq_true e, Bool.true_and, (stAt_get hjr hrs).1] at hF
    refine (hk s).routes.load (map_get hrs) c_RouteState hjr ⟨rs.State, rfl, bce (fun e2 => ?_) (fun e2 => go out _ _ (by rw [show inL [0] rs.State = false by simp [inL, e2]] at hF; exact hF) ho)⟩
    rw [show inL [0] rs.State = true by simp [inL, e2]] at hF
    exact newObj_intro fun id1 s4 hid1 _ he4 hs4 => (ho.ext' he4).append (At.fresh hs4 (by simp) rfl) (by simp; omega) (by simp; omega) fun d4 s5 ho5 _ _ => go (out ++ [⟨3, o - 1, j⟩]) _ _ (by rw [List.append_assoc]; exact hF) (by rw [List.map_append]; exact ho5)
  have hF := hr.done rfl hge
  rw [idles, List.append_nil] at hF
  subst hF
  clear hge hr
  -- points
  refine ⟨_, hr4, fun d n s => ∃ out : List Br, Own Try.prog σ s t_Breach d (out.map Br.enc) ∧ Rng c.Rts (fun l => out ++ pointsAll c k l n.toNat = ownsAll k c.Rts 0 ++ idles k k.Own 0 ++ pointsAll c k c.Rts 0) n, fun _ n _ => c.Rts.length - n.toNat, ⟨_, ho, .start rfl⟩, ?_⟩
  rintro d n s ⟨out, ho, hr⟩
  refine bcd (fun hlt => ?_) (fun hge => ?_)
  · obtain ⟨j, x, rfl, hx, hj, hF, nx⟩ := hr.step rfl (by omega) hlt
    have hw : w64 ((j : Int) + 1) = ((j + 1 : Nat) : Int) := w64_succ (by omega)
    rw [Int.toNat_natCast, pointsAll] at hF
    refine (ref22_points_ok hc hk hfit hx).mono ?_
    rintro r1 s1 ⟨rfl, e1, rfl, q1⟩
    generalize hp : (if runsB (stAt k j) = true then needB k j (c.needs x) else []) = p at hF q1
    have hl2 : (out ++ p).length ≤ 2000 := rest_len ((List.append_assoc _ _ _).trans hF) (by simp only [List.length_append]; omega)
    rw [List.length_append] at hl2
    refine ⟨e1, rfl, ho.append (q1 _) (by simp only [List.length_map]; omega) (by simp only [List.length_map]; omega) fun d2 s2 ho2 _ _ => ?_⟩
    have := nx (fun l => (out ++ p) ++ pointsAll c k l (w64 ((j : Int) + 1)).toNat = ownsAll k c.Rts 0 ++ idles k k.Own 0 ++ pointsAll c k c.Rts 0) (by rw [hw, Int.toNat_natCast, List.append_assoc]; exact hF)
    exact ⟨⟨_, by rw [List.map_append]; exact ho2, this.1⟩, this.2⟩
  have hF := hr.done rfl hge
  rw [pointsAll, List.append_nil] at hF
  subst hF
  clear hge hr
  -- gates
  refine ⟨_, hr4, fun d n s => ∃ out : List Br, Own Try.prog σ s t_Breach d (out.map Br.enc) ∧ Rng c.Rts (fun l => out ++ gatesAll c k l n.toNat = ownsAll k c.Rts 0 ++ idles k k.Own 0 ++ pointsAll c k c.Rts 0 ++ gatesAll c k c.Rts 0) n, fun _ n _ => c.Rts.length - n.toNat, ⟨_, ho, .start rfl⟩, ?_⟩
  rintro d n s ⟨out, ho, hr⟩
  refine bcd (fun hlt => ?_) (fun hge => ?_)
  · obtain ⟨j, x, rfl, hx, hj, hF, nx⟩ := hr.step rfl (by omega) hlt
    have hw : w64 ((j : Int) + 1) = ((j + 1 : Nat) : Int) := w64_succ (by omega)
    rw [Int.toNat_natCast, gatesAll] at hF
    refine (ref22_gates_ok hc hk hfit hx).mono ?_
    rintro r1 s1 ⟨rfl, e1, rfl, q1⟩
    generalize hp : (if inL [0] (stAt k j) = true then [] else gateB c k j (crossL x.Path c.Xs 0)) = p at hF q1
    have hl2 : (out ++ p).length ≤ 2000 := rest_len ((List.append_assoc _ _ _).trans hF) (by simp only [List.length_append]; omega)
    rw [List.length_append] at hl2
    refine ⟨e1, rfl, ho.append (q1 _) (by simp only [List.length_map]; omega) (by simp only [List.length_map]; omega) fun d2 s2 ho2 _ _ => ?_⟩
    have := nx (fun l => (out ++ p) ++ gatesAll c k l (w64 ((j : Int) + 1)).toNat = ownsAll k c.Rts 0 ++ idles k k.Own 0 ++ pointsAll c k c.Rts 0 ++ gatesAll c k c.Rts 0) (by rw [hw, Int.toNat_natCast, List.append_assoc]; exact hF)
    exact ⟨⟨_, by rw [List.map_append]; exact ho2, this.1⟩, this.2⟩
  have hF := hr.done rfl hge
  rw [gatesAll, List.append_nil] at hF
  clear hge hr
  -- lines
  refine ⟨fun d n s => ∃ (j : Nat), n = j ∧ 1 ≤ j ∧ j ≤ 4 ∧ Own Try.prog σ s t_Breach d ((out ++ linesAll c k (j - 1)).map Br.enc), fun _ n _ => 4 - n.toNat, ⟨1, rfl, by omega, by omega, by simpa [linesAll] using ho⟩, ?_⟩
  have hol : out.length ≤ 2000 := by rw [hF]; simp only [List.length_append]; omega
  rintro d _ s ⟨j, rfl, hj1, hj4, ho⟩
  refine bcd (fun hlt => ?_) (fun hge => ?_)
  · obtain ⟨j', rfl⟩ : ∃ j' : Nat, j = j' + 1 := ⟨j - 1, by omega⟩
    rw [Nat.add_sub_cancel] at ho
    have hw : w64 (((j' + 1 : Nat) : Int) + 1) = ((j' + 2 : Nat) : Int) := by rw [w64_id (by omega) (by omega)]; omega
    have hll := linesAll_len c k j'
    obtain ⟨x, hx⟩ := get_of_lt (l := k.Lines) (j := j' + 1) (by omega)
    have hlb : lineB c k (j' + 1) = opt (decide (0 ≤ c.lineSec ((j' + 1 : Nat) : Int)) && (decide (x.Done > x.Ask) || (decide (x.Told > x.Grant) || ((ownAt k (c.lineSec ((j' + 1 : Nat) : Int)) == -2) && (x.Ask != x.Done))))) ⟨6, -1, c.lineSec ((j' + 1 : Nat) : Int)⟩ := by
      unfold lineB; simp only [hx, Option.getD_some]
    have hsb := lineSec_bound c ((j' + 1 : Nat) : Int)
    rw [hw]
    refine (ref15_Section_ok (hc s) _).use ⟨_, rfl, (hk s).lines.load (map_get hx) c_LineState rfl ⟨x.Ask, x.Done, x.Grant, x.Told, x.PAsk, x.PDone, x.PGrant, x.Since, rfl, ?_⟩⟩
    generalize c.lineSec ((j' + 1 : Nat) : Int) = sec at hlb hsb ⊢
    intro R hR
    have hmu : 4 - ((j' + 2 : Nat) : Int).toNat < 4 - ((j' + 1 : Nat) : Int).toNat := by omega
    have main : ∀ w, opt w ⟨6, -1, sec⟩ = lineB c k (j' + 1) → R w s := fun w hwb => hR w s (by
      refine bc (fun e => ?_) (fun e => ⟨⟨j' + 2, rfl, by omega, by omega, ?_⟩, hmu⟩)
      · rw [e] at hwb
        refine newObj_intro fun id1 s4 hid1 _ he4 hs4 => (ho.ext' he4).append (At.fresh hs4 (by simp) rfl) (by simp; omega) (by simp; omega) fun d4 s5 ho5 _ _ => ⟨⟨j' + 2, rfl, by omega, by omega, ?_⟩, hmu⟩
        have e3 : out ++ linesAll c k (j' + 2 - 1) = (out ++ linesAll c k j') ++ [⟨6, -1, sec⟩] := by
          rw [show j' + 2 - 1 = j' + 1 by omega, linesAll, ← hwb, List.append_assoc]; rfl
        rw [e3, List.map_append]; exact ho5
      · rw [e] at hwb
        have e3 : out ++ linesAll c k (j' + 2 - 1) = out ++ linesAll c k j' := by
          rw [show j' + 2 - 1 = j' + 1 by omega, linesAll, ← hwb]; simp [opt]
        rw [e3]; exact ho)
    refine bcd (fun e => ?_) (fun e => main false (by rw [hlb, decide_eq_false (by omega), Bool.false_and]))
    rw [decide_eq_true (by omega), Bool.true_and] at hlb
    refine bcd (fun t1 => main true (by rw [hlb, decide_eq_true t1]; rfl)) (fun t1 => bcd (fun t2 => main true (by rw [hlb, decide_eq_true t2, Bool.true_or, Bool.or_true])) (fun t2 => ?_))
    rw [decide_eq_false t1, decide_eq_false t2, Bool.false_or, Bool.false_or] at hlb
    obtain ⟨o, hog⟩ := get_of_lt (l := k.Own) (j := sec.toNat) (by omega)
    rw [ownAt_get (i := sec) (j := sec.toNat) (by omega) hog] at hlb
    exact (hk s).own.load (map_get hog) c_int (by omega) ⟨o, rfl, bce (fun t3 => main _ (by rw [hlb, show (o == -2) = true by simpa using t3, Bool.true_and])) (fun t3 => main _ (by rw [hlb, show (o == -2) = false by simpa using t3, Bool.false_and]))⟩
  · have hj : j = 4 := by omega
    subst hj
    rw [hJ, ← hF]
    exact own_fin ho (flatBr _)
theorem ref22_Worse_ok {m0 m1 m2 m3 m4 m5 : D} {m : Co} (hm : ∀ s, CoAt s m0 m1 m2 m3 m4 m5 m) (b b' : Bool) :
    DCalls Try.prog n_ref22_Worse [cfA c0 c1 c2 c3 c4 c, coA k0 k1 k2 k3 k4 k5 b, coA m0 m1 m2 m3 m4 m5 b'] σ (SlPost σ t_int ((k.worse c m).map encI)) := by
  refine (W_ref22_Worse _ _ _ _ _ _ _ _ _ k0 k1 k2 k3 k4 k5 b m0 m1 m2 m3 m4 m5 b' σ _ ?_).ret (Q := fun r' s => ∃ r'' σ', Ret Try.prog σ s r' σ' r'' ∧ SlPost σ t_int ((k.worse c m).map encI) r'' σ') (fun r s h => h)
  intro R hR
  have nil : ¬ (k.fits c = true ∧ m.fits c = true) → ∃ r'' σ', Ret Try.prog σ σ (.a (.one .nils)) σ' r'' ∧ SlPost σ t_int ((k.worse c m).map encI) r'' σ' := fun e => by rw [Co.worse, if_neg e]; exact own_fin (.nil _ (.refl _)) (flatI _)
  refine (ref13_Fits_ok hc (hk σ) b).use ⟨_, rfl, bcnot (fun e => nil (by rw [e]; simp)) (fun e1 => (ref13_Fits_ok hc (hm σ) b').use ⟨_, rfl, bcnot (fun e => nil (by rw [e]; simp)) (fun e2 => hR σ ?_)⟩)⟩
  rw [Co.worse, if_pos ⟨e1, e2⟩]
  have f1 := fits_lens e1
  have f2 := fits_lens e2
  have hsm := (check_small (fits_check e1)).2.1
  have lz : (k.Own.zip m.Own).length = k.Own.length := by rw [List.length_zip]; omega
  refine (hk σ).own.lenK ⟨fun d n s => ∃ out : List Int, Own Try.prog σ s t_int d (out.map encI) ∧ (out.length : Int) ≤ n ∧ Rng (k.Own.zip m.Own) (fun r => out ++ worseL r n.toNat = worseL (k.Own.zip m.Own) 0) n, fun _ n _ => (k.Own.zip m.Own).length - n.toNat,
    ⟨[], .nil _ (.refl _), by simp, .start rfl⟩, ?_⟩
  rintro d n s ⟨out, ho, hol, hr⟩
  refine bcd (fun hlt => ?_) (fun hge => ?_)
  · obtain ⟨j, x, rfl, hx, hj, hF, nx⟩ := hr.step (by rw [List.length_map, lz]) (by omega) hlt
    obtain ⟨g1, g2⟩ := List.getElem?_zip_eq_some.1 hx
    have hw : w64 ((j : Int) + 1) = ((j + 1 : Nat) : Int) := w64_succ (by omega)
    rw [Int.toNat_natCast, worseL] at hF
    have go : ∀ out2 d2 s2, out2 ++ worseL ((k.Own.zip m.Own).drop (j + 1)) (j + 1) = worseL (k.Own.zip m.Own) 0 → Own Try.prog σ s2 t_int d2 (out2.map encI) → out2.length ≤ j + 1 → (∃ out : List Int, Own Try.prog σ s2 t_int d2 (out.map encI) ∧ (out.length : Int) ≤ w64 ((j : Int) + 1) ∧ Rng (k.Own.zip m.Own) (fun r => out ++ worseL r (w64 ((j : Int) + 1)).toNat = worseL (k.Own.zip m.Own) 0) (w64 ((j : Int) + 1))) ∧
        (k.Own.zip m.Own).length - (w64 ((j : Int) + 1)).toNat < (k.Own.zip m.Own).length - (j : Int).toNat := fun out2 d2 s2 he ho2 hl => by
      have := nx (fun r => out2 ++ worseL r (w64 ((j : Int) + 1)).toNat = worseL (k.Own.zip m.Own) 0) (by rw [hw, Int.toNat_natCast]; exact he)
      exact ⟨⟨out2, ho2, by rw [hw]; omega, this.1⟩, this.2⟩
    have no : ¬ (x.1 ≠ x.2 ∧ x.1 ≠ 0 ∧ x.2 ≠ 0) → _ := fun hn => go out d s (by rw [if_neg hn] at hF; exact hF) ho (by omega)
    refine (hk s).own.load (map_get g1) c_int rfl ⟨x.1, rfl, (hm s).own.load (map_get g2) c_int rfl ⟨x.2, rfl, bcn (fun t1 => (hk s).own.load (map_get g1) c_int rfl ⟨x.1, rfl, bcn (fun t2 => (hm s).own.load (map_get g2) c_int rfl ⟨x.2, rfl, bcn (fun t3 => ?_) (fun t => no (fun g => g.2.2 t))⟩) (fun t => no (fun g => g.2.1 t))⟩) (fun t => no (fun g => g.1 t))⟩⟩
    rw [if_pos ⟨t1, t2, t3⟩] at hF
    exact newObj_intro fun id1 s4 hid1 _ he4 hs4 => (ho.ext' he4).append (At.fresh hs4 (by simp) rfl) (by simp; omega) (by simp; omega) fun d4 s5 ho5 _ _ => go (out ++ [(j : Int)]) _ _ (by rw [List.append_assoc]; exact hF) (by rw [List.map_append]; exact ho5) (by simp; omega)
  · have hF := hr.done (by rw [List.length_map, lz]) hge
    rw [worseL, List.append_nil] at hF
    rw [← hF]
    exact own_fin ho (flatI _)
end
end Go.Proofs.Yteflnjedfmmddaa
end
section
set_option linter.unusedVariables false
set_option linter.unusedSimpArgs false
namespace Go.Proofs.Yteflnjedfmmddaa
open Go.Fw Go.Proofs Go.RowKit
variable {σ : Store}
/-- A state is handed back whose lists lie nowhere in the store. -/
def CoZ (σ : Store) (k : Co) (r : RV) (s : Store) : Prop := s = σ ∧ ∃ d0 d1 d2 d3 d4 d5, r = .a (coA d0 d1 d2 d3 d4 d5 k.Dirty) ∧ CoFz d0 d1 d2 d3 d4 d5 k
end Go.Proofs.Yteflnjedfmmddaa
end
section
set_option linter.unusedVariables false
set_option linter.unusedSimpArgs false
namespace Go.Proofs.Yteflnjedfmmddaa
open Go.Fw Go.Proofs Go.RowKit
variable {σ : Store}
def LawTrue (f : FuncId) (xs : List A) : Prop := DCalls Try.prog f xs noS fun r _ => r = .a (.one (.bool true))
end Go.Proofs.Yteflnjedfmmddaa
end
section
set_option linter.unusedVariables false
set_option linter.unusedSimpArgs false
namespace Go.Proofs.Yteflnjedfmmddaa
open Go.Fw Go.Proofs Go.RowKit
variable {σ : Store}
/-- A state of the end: who owns the line's section, the line. -/
def endK (o : Int) (x : Ls) (b : Bool) : Co := ⟨[o, 0], [⟨0, 0, 0, 0⟩], [⟨0, 0⟩, ⟨0, 0⟩], [], [zLs, x, zLs, zLs], [0, 0], b⟩
/-- The end's line, a cycle later. -/
def endStep (occ stamp now : Int) (o : Int) (x : Ls) (b : Bool) : Co :=
  let m := decide (x.PAsk > (if x.PDone > x.Grant then x.PDone else x.Grant)) && decide (x.Ask = x.Done)
  let k' : Co := if o = -2 then
      if x.PDone < x.Grant then endK o { x with Since := 0 } b
      else if x.Since = 0 then endK o { x with Since := w64 (now + 1) } b
      else if occ = 0 ∧ x.Since ≤ stamp then endK 0 { x with Since := 0 } true
      else endK o x b
    else if o = 0 ∧ m = true then endK (-2) { x with Grant := x.PAsk, Since := 0 } true
    else endK o x b
  if b = true then k' else { k' with Lines := k'.Lines.set 1 { (k'.Lines[1]?).getD zLs with Told := x.Grant } }
end Go.Proofs.Yteflnjedfmmddaa
end
section
set_option linter.unusedVariables false
set_option linter.unusedSimpArgs false
namespace Go.Proofs.Yteflnjedfmmddaa
open Go.Fw Go.Proofs Go.RowKit
variable {σ : Store}
/-- A copy that is handed back as plain data. -/
theorem ref13_Copied_z {k0 k1 k2 k3 k4 k5 : D} {k : Co} (hk : CoAt σ k0 k1 k2 k3 k4 k5 k) (b0 : 8 * k.Own.length ≤ 140737488355328) (b1 : 32 * k.Routes.length ≤ 140737488355328) (b2 : 16 * k.Points.length ≤ 140737488355328)
    (b3 : 16 * k.Xs.length ≤ 140737488355328) (b4 : 64 * k.Lines.length ≤ 140737488355328) (b5 : 8 * k.Resets.length ≤ 140737488355328) : DCalls Try.prog n_ref13_Copied [coA k0 k1 k2 k3 k4 k5 k.Dirty] σ (CoZ σ k) := by
  refine (ref13_Copied_ok hk b0 b1 b2 b3 b4 b5).ret ?_
  rintro r s ⟨d0, d1, d2, d3, d4, d5, rfl, hco⟩
  obtain ⟨e0, e1, e2, e3, e4, e5, hfz, hz⟩ := co_frz hco
  exact ⟨.a (coA e0 e1 e2 e3 e4 e5 k.Dirty), σ, .pure hco.own.ext hfz, rfl, _, _, _, _, _, _, rfl, hz⟩
theorem CoFz.fits {d0 d1 d2 d3 d4 d5 k0 k1 k2 k3 k4 k5 : D} {k : Co} (h : CoFz d0 d1 d2 d3 d4 d5 k) (hf : CoFit k0 k1 k2 k3 k4 k5 k) : CoFit d0 d1 d2 d3 d4 d5 k :=
  ⟨h.n0, h.n1, h.n2, h.n3, h.n4, h.n5, hf.b0, hf.b1, hf.b2, hf.b3, hf.b4, hf.b5⟩
theorem CoOwn.ext' {σ0 s s' : Store} {d0 d1 d2 d3 d4 d5 : D} {k : Co} (h : CoOwn σ0 s d0 d1 d2 d3 d4 d5 k) (he : Ext s s') : CoOwn σ0 s' d0 d1 d2 d3 d4 d5 k :=
  ⟨h.own.ext' he, h.routes.ext' he, h.points.ext' he, h.xs.ext' he, h.lines.ext' he, h.resets.ext' he, h.apart⟩
end Go.Proofs.Yteflnjedfmmddaa
end
section
set_option linter.unusedVariables false
set_option linter.unusedSimpArgs false
namespace Go.Proofs.Yteflnjedfmmddaa
open Go.Fw Go.Proofs Go.RowKit
variable {σ : Store}
/-- A station of two sections and one route, as the laws of several layers write it. -/
def litC : Cf := ⟨[⟨0, 0, 0⟩, ⟨0, 0, 0⟩], [⟨0, 1, 1, 0⟩], [⟨0, 1⟩], [], [⟨0, -1, [⟨1, 0, 1⟩], [], [], false⟩], 2, 1, 4, 1000⟩
theorem lit_at (s : Store) : CfAt s (.sl 3 [[iD 0, iD 0, iD 0], [iD 0, iD 0, iD 0]]) (.sl 4 [[iD 0, iD 1, iD 1, iD 0]]) (.sl 2 [[iD 0, iD 1]]) .nils (.sl 6 [[iD 0, iD (-1), .sl 3 [[iD 1, iD 0, iD 1]], .nils, .nils, .bool false]]) litC :=
  ⟨at_lit c_Section (by simp), at_lit c_Joint (by simp), at_lit c_Signal (by simp), .nil, ⟨_, at_lit c_Route (by simp), rfl, fun i row r h1 h2 => by
    have hi : i = 0 := by have := (List.getElem?_eq_some_iff.1 h1).1; simp at this; exact this
    subst hi
    simp at h1; subst h1
    simp [litC] at h2; subst h2
    exact ⟨_, _, _, rfl, at_lit c_Step (by simp), .nil, .nil⟩⟩⟩
theorem watch_Judge_z {c0 c1 c2 c3 c4 : D} {c : Cf} {k0 k1 k2 k3 k4 k5 : D} {k : Co} (hc : ∀ s, CfAt s c0 c1 c2 c3 c4 c) (hk : CoAt σ k0 k1 k2 k3 k4 k5 k) :
    DCalls Try.prog n_watch_Judge [cfA c0 c1 c2 c3 c4 c, coA k0 k1 k2 k3 k4 k5 k.Dirty] σ (SlPost σ t_Breach ((k.judge c).map Br.enc)) := by
  refine (watch_Judge_ok hc hk rfl).ret ?_
  rintro r s ⟨d, rfl, ho⟩
  exact own_fin ho (flatBr _)
theorem watch_Worse_z {c0 c1 c2 c3 c4 : D} {c : Cf} {k0 k1 k2 k3 k4 k5 m0 m1 m2 m3 m4 m5 : D} {k m : Co} (hc : ∀ s, CfAt s c0 c1 c2 c3 c4 c) (hk : CoAt σ k0 k1 k2 k3 k4 k5 k) (hm : CoAt σ m0 m1 m2 m3 m4 m5 m) :
    DCalls Try.prog n_watch_Worse [cfA c0 c1 c2 c3 c4 c, coA k0 k1 k2 k3 k4 k5 k.Dirty, coA m0 m1 m2 m3 m4 m5 m.Dirty] σ (SlPost σ t_int ((k.worse c m).map encI)) := by
  refine (watch_Worse_ok hc hk hm).ret ?_
  rintro r s ⟨d, rfl, ho⟩
  exact own_fin ho (flatI _)
theorem lives22_a : Co.judge litC (newCo litC 0) = [] := by decide +kernel
theorem lives22_b : Co.judge litC { newCo litC 0 with Own := [-1, 1] } = [⟨3, 0, 1⟩] := by decide +kernel
theorem law22_lives_ok : Pure Try.prog n_law22_lives [] σ (.a (bA true)) := by
  refine .of (W_law22_lives σ _ ((locks_New_ok lit_at 0 (by decide) (by decide) (by decide)).mono ?_)) (flat_b _)
  rintro r s ⟨k0, k1, k2, k3, k4, k5, rfl, hk⟩
  refine ⟨_, _, _, _, _, _, _, rfl, hk.own.at_.lenK (bcn (fun e => absurd rfl e) (fun _ => (watch_Judge_z lit_at hk.at).mono ?_))⟩
  rintro r s1 ⟨rfl, d, rfl, hd⟩
  rw [lives22_a] at hd
  refine ⟨_, rfl, (hd s1).lenK (bcn (fun e => absurd rfl e) (fun _ => hk.own.at_.idxK (j := 1) c_int rfl (by decide) (hk.putO (j := 1) (x := -1) (y := 1) rfl rfl (by simp) rfl fun s2 hk2 _ => ?_)))⟩
  refine (watch_Judge_z (k := { newCo litC 0 with Own := [-1, 1] }) lit_at hk2.at).mono ?_
  rintro r s3 ⟨rfl, d2, rfl, hd2⟩
  rw [lives22_b] at hd2
  refine ⟨_, rfl, (ref22_Same_ok (lb := [⟨3, 0, 1⟩]) (hd2 _) (at_lit c_Breach (by simp))).use ⟨_, rfl, ?_, hk2.own.ext⟩⟩
  rw [decide_eq_true rfl]
theorem law22_WatchExact_ok {xs : List A} (h : TyAs Try.prog [t_Config, t_Core, t_Core] xs) : LawTrue n_law22_WatchExact xs := by
  obtain ⟨a0, xs, rfl, h0, hr0⟩ := tys_cons h
  obtain ⟨a1, xs, rfl, h1, hr1⟩ := tys_cons hr0
  obtain ⟨a2, xs, rfl, h2, hr2⟩ := tys_cons hr1
  obtain rfl := tys_nil hr2
  obtain ⟨cs, _, rfl, p0⟩ := tya_agg h0 (by kernel_rfl)
  obtain ⟨c0, c1, c2, c3, c4, c, rfl, hc, hci⟩ := ty_Config p0
  obtain ⟨cs, _, rfl, p1⟩ := tya_agg h1 (by kernel_rfl)
  obtain ⟨k0, k1, k2, k3, k4, k5, k, rfl, hk, hf, hki⟩ := ty_Core p1
  obtain ⟨cs, _, rfl, p2⟩ := tya_agg h2 (by kernel_rfl)
  obtain ⟨m0, m1, m2, m3, m4, m5, m, rfl, hm, hmf, hmi⟩ := ty_Core p2
  clear h h0 h1 h2 hr0 hr1 hr2 p0 p1 p2
  refine W_law22_WatchExact _ _ _ _ _ _ _ _ _ k0 k1 k2 k3 k4 k5 k.Dirty m0 m1 m2 m3 m4 m5 m.Dirty noS _ (law22_lives_ok.use ⟨true, rfl, bcnot (fun e => by cases e) (fun _ => (ref13_Copied_z (hk.at_ noS) hf.b0 hf.b1 hf.b2 hf.b3 hf.b4 hf.b5).mono ?_)⟩)
  rintro r s ⟨rfl, d0, d1, d2, d3, d4, d5, rfl, hd⟩
  refine ⟨_, _, _, _, _, _, _, rfl, (watch_Judge_ok hc (hd.at_ _) rfl).mono ?_⟩
  rintro r s1 ⟨a, rfl, ha⟩
  refine ⟨_, rfl, (watch_Judge_z hc (hd.at_ _)).mono ?_⟩
  rintro r s2 ⟨rfl, bd, rfl, hb⟩
  refine ⟨_, rfl, (ref22_Judge_ok hc hk.at_ _).mono ?_⟩
  rintro r s2 ⟨rfl, w, rfl, hw⟩
  refine ⟨_, rfl, (watch_Worse_ok hc (hd.at_ _) (hm.at_ _)).mono ?_⟩
  rintro r s3 ⟨x, rfl, hx⟩
  refine ⟨_, rfl, (watch_Worse_z hc (hd.at_ _) (hm.at_ _)).mono ?_⟩
  rintro r s4 ⟨rfl, y, rfl, hy⟩
  have e0 : ∀ s, Ext noS s := fun s i hi => absurd rfl hi
  have ha4 := ha.ext' hx.ext
  have hx4 := hx.from (e0 _)
  have hap : Apart x a := (hx.apart ha.at_).symm
  refine ⟨_, rfl, spoil_loop (by rfl) ha4 c_Breach (by simp) (fun row hr => ?_) fun s5 rs5 ho5 hk5 => spoil_loop (by rfl) (hx4.stay (d := a) (fun i _ hi => hk5 i hi) hap (e0 _)) c_int (by simp) (fun row hr => ?_) fun s6 rs6 ho6 hk6 => ?_⟩
  · obtain ⟨b, _, rfl⟩ := List.mem_map.1 hr; rfl
  · obtain ⟨b, _, rfl⟩ := List.mem_map.1 hr; rfl
  refine (ref22_Same_ok (hb _) (hw _)).use ⟨_, rfl, bc (fun _ => (ref22_Worse_ok hc hk.at_ hm.at_ _ _).mono ?_) (fun e => absurd rfl (of_decide_eq_false e))⟩
  rintro r s7 ⟨rfl, z, rfl, hz⟩
  refine ⟨_, rfl, (ref01_SameInts_ok (hy _) (hz _)).use ⟨_, rfl, bc (fun _ => (ref13_Same_ok (hd.at_ _) (hk.at_ _)).use ⟨_, rfl, ?_⟩) (fun e => absurd rfl (of_decide_eq_false e))⟩⟩
  rw [decide_eq_true rfl]
end Go.Proofs.Yteflnjedfmmddaa
end
