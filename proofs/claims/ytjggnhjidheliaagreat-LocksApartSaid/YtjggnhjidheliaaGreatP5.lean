/-
  Proofs that the statement of this claim leans on: part 5.
-/
import Derived.Test.YtjggnhjidheliaaGreatP4
section
set_option linter.unusedVariables false
set_option linter.unusedSimpArgs false
namespace Go.Proofs.YtjggnhjidheliaaGreat
open Go.Fw Go.Proofs Go.RowKit
variable {σ : Store}
theorem ref06_sameInts_ok {a b : D} {la lb : List Int} (ha : At Tryz.prog σ t_int a (la.map Go.Fw.encI)) (hb : At Tryz.prog σ t_int b (lb.map Go.Fw.encI)) : Pure Tryz.prog n_ref06_sameInts [.one a, .one b] σ (.a (bA (decide (la = lb)))) := by
  have hs := ha.size
  rw [List.length_map] at hs
  refine W_ref06_sameInts a b σ _ (ha.lenK (hb.lenK ?_))
  rw [List.length_map, List.length_map]
  refine bcn (fun hne => ⟨?_, rfl⟩) (fun he => ha.lenK ?_)
  · rw [decide_eq_false (fun e => hne (by rw [e]))]
  have hl : la.length = lb.length := by omega
  rw [List.length_map]
  refine ⟨fun n s => s = σ ∧ EqR la lb n, fun n _ => la.length - n.toNat, ⟨rfl, .start _ _⟩, ?_⟩
  rintro n s ⟨rfl, hr⟩
  refine bcd (fun hlt => ?_) (fun hge => ⟨?_, rfl⟩)
  · obtain ⟨j, x, y, rfl, hx, hy, hn, hy2⟩ := hr.step hl rfl hs hlt
    refine ha.load (map_get hx) c_int rfl ⟨x, rfl, hb.load (map_get hy) c_int rfl ⟨y, rfl, bcn (fun e => ⟨?_, rfl⟩) (fun e => andl rfl (hy2 e))⟩⟩
    rw [decide_eq_false (hn e)]
  · rw [decide_eq_true (hr.done hl rfl hge)]
theorem ref06_SameNeeds_ok {a b : D} {la lb : List Nd} (ha : At Tryz.prog σ t_Need a (la.map Nd.enc)) (hb : At Tryz.prog σ t_Need b (lb.map Nd.enc)) : Pure Tryz.prog n_ref06_SameNeeds [.one a, .one b] σ (.a (bA (decide (la = lb)))) := by
  have hs := ha.size
  rw [List.length_map] at hs
  refine W_ref06_SameNeeds a b σ _ (ha.lenK (hb.lenK ?_))
  rw [List.length_map, List.length_map]
  refine bcn (fun hne => ⟨?_, rfl⟩) (fun he => ha.lenK ?_)
  · rw [decide_eq_false (fun e => hne (by rw [e]))]
  have hl : la.length = lb.length := by omega
  rw [List.length_map]
  refine ⟨fun n s => s = σ ∧ EqR la lb n, fun n _ => la.length - n.toNat, ⟨rfl, .start _ _⟩, ?_⟩
  rintro n s ⟨rfl, hr⟩
  refine bcd (fun hlt => ?_) (fun hge => ⟨?_, rfl⟩)
  · obtain ⟨j, x, y, rfl, hx, hy, hn, hy2⟩ := hr.step hl rfl hs hlt
    refine ha.load (map_get hx) c_Need rfl ⟨x.Sec, x.Pos, rfl, hb.load (map_get hy) c_Need rfl ⟨y.Sec, y.Pos, rfl, bcnot (fun e => ⟨?_, rfl⟩) (fun e => andl rfl (hy2 ?_))⟩⟩
    · rw [decide_eq_false (hn fun g => by rw [g] at e; simp at e)]
    · simp at e; cases x; cases y; simp at e; simp [e]
  · rw [decide_eq_true (hr.done hl rfl hge)]
section
variable {c0 c1 c2 c3 c4 : D} {c : Cf} (h : ∀ s, CfAt s c0 c1 c2 c3 c4 c)
include h
theorem ref06_path_ok (ht : topoOk c.Secs c.Jts = true) (hsg : c.sigsOk = true) (r : Rt) {d1 d2 d3 : D} (hp : ∀ s, At Tryz.prog s t_Step d1 (r.Path.map St.enc)) :
    Pure Tryz.prog n_ref06_path [cfA c0 c1 c2 c3 c4 c, rtA d1 d2 d3 r] σ (.a (bA (c.path r))) := by
  have hl := (hp σ).size
  rw [List.length_map] at hl
  refine .of (W_ref06_path _ _ _ _ _ _ _ _ _ _ _ d1 d2 d3 _ σ _ ?_) (flat_b _)
  intro R hR
  have no : c.path r = false → (RV.a (bA false) = .a (bA (c.path r)) ∧ Ext σ σ) := fun e => ⟨by rw [e], .refl _⟩
  refine bcd (fun e => no (by rw [Cf.path, geti_neg e])) (fun e0 => (h σ).sigs.lenK ?_)
  rw [List.length_map]
  refine bcd (fun e => no (by rw [Cf.path, geti_ge e])) (fun e1 => ?_)
  obtain ⟨a, hg⟩ := geti_ex e0 e1
  have hpath : c.path r = ((decide (r.Exit = -1) || (geti c.Sigs r.Exit).isSome) && decide (1 ≤ r.Path.length ∧ r.Path.length ≤ 8) && prunA c r (geti c.Sigs r.Exit) r.Path a [a.Sec]) := by rw [Cf.path, hg]
  refine bcd (fun e => no (by rw [hpath, geti_neg (by omega), decide_eq_false (by omega)]; rfl)) (fun e2 => (h σ).sigs.lenK ?_)
  rw [List.length_map]
  refine bcd (fun e => no (by rw [hpath, geti_ge e, decide_eq_false (by omega)]; rfl)) (fun e3 => (hp σ).lenK ?_)
  rw [List.length_map]
  refine bcd (fun e => no (by rw [hpath, decide_eq_false (p := 1 ≤ r.Path.length ∧ _) (by omega), Bool.and_false, Bool.false_and])) (fun e4 => (hp σ).lenK ?_)
  rw [List.length_map]
  refine bcd (fun e => no (by rw [hpath, decide_eq_false (p := 1 ≤ r.Path.length ∧ _) (by omega), Bool.and_false, Bool.false_and])) (fun e5 => hR σ ?_)
  have hex1 : (decide (r.Exit = -1) || (geti c.Sigs r.Exit).isSome) = true := by
    by_cases e : r.Exit = -1
    · rw [decide_eq_true e]; rfl
    · obtain ⟨x, hx⟩ := geti_ex (l := c.Sigs) (i := r.Exit) (by omega) e3
      rw [hx]; simp
  rw [hex1, decide_eq_true (by omega), Bool.true_and, Bool.true_and] at hpath
  have hgs := geti_some hg
  refine (h σ).sigs.load (map_get hgs.2.2) c_Signal (by omega) ⟨a.Sec, a.End_, rfl, newObj_intro fun id s1 hid _ he1 hs1 => (hp s1).lenK ?_⟩
  rw [List.length_map]
  refine ⟨fun m e d n s => ∃ seen : List Int, Own Tryz.prog σ s t_int d (seen.reverse.map Go.Fw.encI) ∧ (seen.length : Int) ≤ n + 1 ∧ Rng r.Path (fun q => prunA c r (geti c.Sigs r.Exit) q ⟨m, e⟩ seen = c.path r) n, fun _ _ _ n _ => r.Path.length - n.toNat,
    ⟨[a.Sec], .at_new hid he1 hs1 (by simp) rfl, by simp, .start hpath.symm⟩, ?_⟩
  rintro m e d n s ⟨seen, ho, hsl, hr⟩
  refine bcd (fun hlt => ?_) (fun hge => ?_)
  · obtain ⟨j, x, rfl, hx, hj, hF, nx⟩ := hr.step rfl hl hlt
    intro R1 hR1
    refine (hp s).load (map_get hx) c_Step rfl ⟨x.Sec, x.In, x.Out, rfl, (ref05_Next_ok m e (h s).jts).use (opt2_ex _ ?_)⟩
    rw [prunA] at hF
    have hes := ho.ext
    have bad : pstep c r (geti c.Sigs r.Exit) ⟨m, e⟩ x (r.Path.drop (j + 1)).isEmpty seen = false → (RV.a (.one (.bool false)) = .a (bA (c.path r)) ∧ Ext σ s) := fun hb => by
      rw [hb] at hF
      exact ⟨by rw [← hF]; rfl, hes⟩
    have good : pstep c r (geti c.Sigs r.Exit) ⟨m, e⟩ x (r.Path.drop (j + 1)).isEmpty seen = true → ∀ s' d', Own Tryz.prog σ s' t_int d' ((x.Sec :: seen).reverse.map Go.Fw.encI) → R1 x.Sec x.Out d' s' := fun hb s' d' ho' => by
      rw [hb, Bool.true_and] at hF
      have hn := nx (fun q => prunA c r (geti c.Sigs r.Exit) q ⟨x.Sec, x.Out⟩ (x.Sec :: seen) = c.path r) hF
      exact hR1 _ _ _ _ ⟨⟨x.Sec :: seen, ho', by rw [w64_succ (by omega), List.length_cons]; omega, hn.1⟩, hn.2⟩
    intro R2 hR2
    rw [pstep] at bad good
    cases hn : nxt c.Jts m e with
    | none =>
      rw [hn] at bad
      exact bcnot (fun _ => bad rfl) (fun e => by cases e)
    | some p =>
      obtain ⟨q, i⟩ := p
      rw [hn] at bad good hR2
      obtain ⟨y, hy⟩ := nxt_sec ht hn
      simp only [hy, Option.getD_some] at bad good hR2 ⊢
      refine bcnot (fun e => by cases e) (fun _ => bcn (fun k => bad (by simp [k])) (fun k1 => bcn (fun k => bad (by simp [k])) (fun k2 => (ref06_in_ok q ho.at_).use ⟨_, rfl, bc (fun k => bad ?_) (fun k3 => ⟨trivial, hR2 s ?_⟩)⟩)))
      · have : q ∈ seen := by simpa [inL] using k
        simp [this]
      have hq : q ∉ seen := by simpa [inL] using k3
      refine (ref06_kind_ok (h s) q).use ⟨_, rfl, (ref05_Pos_ok _ _ _).use (opt1_ex _ ?_)⟩
      rw [kindI_some hy]
      intro R3 hR3
      have main : ∀ but, decide (geti c.Sigs but = some ⟨x.Sec, x.Out⟩) = ((r.Path.drop (j + 1)).isEmpty && decide (geti c.Sigs r.Exit = some ⟨x.Sec, x.Out⟩)) → R3 but s := fun but hbut => hR3 but s (by
        intro R4 hR4
        refine bcnot (fun k => bad (by rw [k]; simp)) (fun k4 => (ref06_at_ok (h s) x.Sec x.Out but).use ⟨_, rfl, ?_⟩)
        rw [atB_eq hsg, hbut]
        have hfin : (!(r.Shunt && decide (y.Line ≠ 0))) = true → ((c.Sigs.any fun z => decide (⟨x.Sec, x.Out⟩ = z)) && !((r.Path.drop (j + 1)).isEmpty && decide (geti c.Sigs r.Exit = some ⟨x.Sec, x.Out⟩))) = false → R4 s := fun g1 g2 => hR4 s (newObj_intro fun id1 s2 hid1 _ he2 hs2 => (ho.ext' he2).append (At.fresh hs2 (by simp) rfl) (by simp; omega) (by simp; omega) fun d4 s5 ho5 _ _ => good (by
          rw [k4, g1, decide_eq_true k1, decide_eq_true k2, decide_eq_true hq]
          generalize (c.Sigs.any fun z => decide (⟨x.Sec, x.Out⟩ = z)) = u at g2
          generalize ((r.Path.drop (j + 1)).isEmpty && decide (geti c.Sigs r.Exit = some ⟨x.Sec, x.Out⟩)) = w at g2
          cases u <;> cases w <;> first | rfl | cases g2) _ _ (by rw [List.reverse_cons, List.map_append, ← k1]; exact ho5))
        refine bc (fun k => bad ?_) (fun k5 => bc (fun k6 => (h s).secs.load (map_get (geti_some hy).2.2) c_Section (by have := geti_some hy; omega) ⟨y.Line, rfl, bcn (fun k7 => bad (by rw [k6]; simp [k7])) (fun k7 => ⟨trivial, hfin (by rw [k6]; simp [k7]) k5⟩)⟩) (fun k6 => ⟨trivial, hfin (by rw [k6]; rfl) k5⟩))
        · generalize (c.Sigs.any fun z => decide (⟨x.Sec, x.Out⟩ = z)) = u at k
          generalize ((r.Path.drop (j + 1)).isEmpty && decide (geti c.Sigs r.Exit = some ⟨x.Sec, x.Out⟩)) = w at k
          cases u <;> cases w <;> first | (simp; done) | cases k)
      refine (hp s).lenK ?_
      rw [List.length_map, w64_id (n := (r.Path.length : Int) - 1) (by omega) (by omega)]
      refine bce (fun q1 => ⟨trivial, main _ ?_⟩) (fun q1 => ⟨trivial, main _ ?_⟩)
      · rw [drop_end (by omega)]; simp
      · have hemp : (r.Path.drop (j + 1)).isEmpty = false := by
          cases hd : r.Path.drop (j + 1) with
          | nil => rw [List.drop_eq_nil_iff] at hd; omega
          | cons y l => rfl
        rw [hemp, geti_neg (by omega)]; simp
  · have hF : (match (generalizing := false) geti c.Sigs r.Exit with | some x => decide ((⟨m, e⟩ : Sg) = x) | none => !(nxt c.Jts m e).isSome) = c.path r := hr.done rfl hge
    refine bcd (fun k1 => ?_) (fun k1 => (ref05_Next_ok m e (h s).jts).use (opt2_ex _ ⟨?_, ho.ext⟩))
    · obtain ⟨y, hy⟩ := geti_ex (l := c.Sigs) (i := r.Exit) (by omega) e3
      rw [hy] at hF
      refine (h s).sigs.load (map_get (geti_some hy).2.2) c_Signal (by omega) ⟨y.Sec, y.End_, rfl, ?_, ho.ext⟩
      rw [← hF]
      congr 3; rw [Bool.eq_iff_iff]; cases y; simp; exact ⟨fun ⟨a, b⟩ => ⟨a.symm, b.symm⟩, fun ⟨a, b⟩ => ⟨a.symm, b.symm⟩⟩
    · rw [geti_neg (by omega)] at hF
      rw [← hF]
theorem ref06_Flank_ok (a : Int) {pd : D} {path : List St} (hp : ∀ s, At Tryz.prog s t_Step pd (path.map St.enc)) (hpl : path.length ≤ 2 ^ 20) :
    DCalls Tryz.prog n_ref06_Flank [cfA c0 c1 c2 c3 c4 c, iA a, .one pd] σ (SlPost σ t_Need ((c.flank a path).map Nd.enc)) := by
  refine (W_ref06_Flank _ _ _ _ _ _ _ _ _ a pd σ _ ?_).ret (Q := fun r s => ∃ r' σ', Ret Tryz.prog σ s r σ' r' ∧ SlPost σ t_Need ((c.flank a path).map Nd.enc) r' σ') (fun r s h => h)
  refine (hp σ).lenK ⟨fun d d1 n s => ∃ out : List Nd, Own Tryz.prog σ s t_Need d (out.map Nd.enc) ∧ Own Tryz.prog σ s t_int d1 ((out.map Nd.Sec).map Go.Fw.encI) ∧ Apart d d1 ∧ (out.length : Int) ≤ 4 * n ∧ Rng path (fun r => flankRun c a path r out = c.flank a path) n,
    fun _ _ n _ => path.length - n.toNat, ⟨[], .nil _ (.refl _), .nil _ (.refl _), .nil _, by simp, .start rfl⟩, ?_⟩
  rintro d d1 n s ⟨out, ho, ho1, hap, hol, hr⟩
  rw [List.length_map]
  refine bcd (fun hlt => ?_) (fun hge => ?_)
  · obtain ⟨j, x, rfl, hx, hj, hF, nx⟩ := hr.step rfl (by omega) hlt
    refine (hp s).load (map_get hx) c_Step rfl ⟨x.Sec, x.In, x.Out, rfl, (ref06_kind_ok (h s) _).use ⟨_, rfl, ?_⟩⟩
    have hF' : flankRun c a path (path.drop (j + 1)) (flankEnds c a path x (nends (kindI c x.Sec)).toNat 0 out) = c.flank a path := by
      rw [← hF, flankRun]
      cases hg : geti c.Secs x.Sec with
      | none => rw [kindI_none hg]; rfl
      | some y => rw [kindI_some hg]
    generalize kindI c x.Sec = k at hF'
    have hne := nends_le k
    refine ⟨fun d d1 m s' => ∃ out' : List Nd, Own Tryz.prog σ s' t_Need d (out'.map Nd.enc) ∧ Own Tryz.prog σ s' t_int d1 ((out'.map Nd.Sec).map Go.Fw.encI) ∧ Apart d d1 ∧ 0 ≤ m ∧ m ≤ nends k ∧ (out'.length : Int) ≤ 4 * j + m ∧ flankEnds c a path x (nends k - m).toNat m out' = flankEnds c a path x (nends k).toNat 0 out,
      fun _ _ m _ => (nends k - m).toNat, ⟨out, ho, ho1, hap, by omega, hne.1, by omega, by rw [Int.sub_zero]⟩, ?_⟩
    rintro d2 d3 m s' ⟨out', ho', ho1', hap', hm0, hm1, hol', hE⟩
    refine (ref05_Ends_ok _).use ⟨_, rfl, bcd (fun hlt' => ?_) (fun hge' => ?_)⟩
    · have hw : w64 (m + 1) = m + 1 := w64_id (by omega) (by omega)
      have hk : (nends k - m).toNat = (nends k - (m + 1)).toNat + 1 := by omega
      rw [hk, flankEnds] at hE
      intro R hR
      have leaf : ∀ (out2 : List Nd) (d4 d5 : D) (s2 : Store), flankStep c a path x out' m = out2 → Own Tryz.prog σ s2 t_Need d4 (out2.map Nd.enc) → Own Tryz.prog σ s2 t_int d5 ((out2.map Nd.Sec).map Go.Fw.encI) → Apart d4 d5 → R d4 d5 s2 := by
        intro out2 d4 d5 s2 h1 h2 h3 h4
        have hlen := (flankStep_len c a path x out' m).2
        refine hR _ _ _ ⟨rfl, ?_⟩
        rw [hw]
        refine ⟨⟨out2, h2, h3, h4, by omega, by omega, by rw [← h1]; omega, by rw [← h1]; exact hE⟩, by show (nends k - (m + 1)).toNat < (nends k - m).toNat; omega⟩
      intro R1 hR1
      refine bce (fun h1 => ⟨by trivial, leaf out' _ _ s' (by rw [flankStep, if_pos (.inl h1)]) ho' ho1' hap'⟩) (fun h1 => bce (fun h2 => ⟨by trivial, leaf out' _ _ s' (by rw [flankStep, if_pos (.inr h2)]) ho' ho1' hap'⟩) (fun h2 => ⟨by trivial, hR1 s' ?_⟩))
      have hst : flankStep c a path x out' m = match nxt c.Jts x.Sec m with
        | none => out'
        | some (q, f) => match geti c.Secs q with
          | none => out'
          | some y => if y.Kind = 1 ∧ (1 ≤ f ∧ f ≤ 2) ∧ q ≠ a ∧ hasSec path q = false ∧ (out'.any fun n => n.Sec == q) = false then out' ++ [⟨q, 3 - f⟩] else out' := by
        rw [flankStep, if_neg (by rintro (e | e); exact h1 e; exact h2 e)] <;> rfl
      refine (ref05_Next_ok x.Sec m (h s').jts).use (opt2_ex _ ?_)
      intro R2 hR2
      cases hn : nxt c.Jts x.Sec m with
      | none =>
        rw [hn] at hst
        exact bcnot (fun _ => ⟨by trivial, leaf out' _ _ s' hst ho' ho1' hap'⟩) (fun e => by cases e)
      | some p =>
        obtain ⟨q, f⟩ := p
        rw [hn] at hst hR2
        simp only [Option.getD_some] at hst hR2 ⊢
        refine bcnot (fun e => by cases e) (fun _ => (ref06_kind_ok (h s') q).use ⟨_, rfl, ?_⟩)
        refine bcn (fun k1 => ⟨by trivial, leaf out' _ _ s' ?_ ho' ho1' hap'⟩) (fun k1 => ?_)
        · cases hg : geti c.Secs q with
          | none => rw [hg] at hst; exact hst
          | some y => rw [hg] at hst; rw [kindI_some hg] at k1; rw [hst]; exact if_neg fun g => k1 g.1
        obtain ⟨y, hg⟩ : ∃ y, geti c.Secs q = some y := by
          cases hg : geti c.Secs q with
          | none => rw [kindI_none hg] at k1; cases k1
          | some y => exact ⟨y, rfl⟩
        rw [kindI_some hg] at k1
        rw [hg] at hst
        simp only at hst
        have no : ¬ ((1 ≤ f ∧ f ≤ 2) ∧ q ≠ a ∧ hasSec path q = false ∧ (out'.any fun n => n.Sec == q) = false) → flankStep c a path x out' m = out' := fun hn => by rw [hst, if_neg fun g => hn g.2]
        have main : (1 ≤ f ∧ f ≤ 2) → DCalls Tryz.prog n_ref06_Sections [.one pd] s' fun r4 s4 => ∃ d4, r4 = .a (.one d4) ∧ DCalls Tryz.prog n_ref06_in [.one d4, iA q] s4 fun r5 s5 => ∃ b1, r5 = .a (bA b1) ∧ bcase b1 (True ∧ R d2 d3 s5) (bcase (q == a) (True ∧ R d2 d3 s5) (DCalls Tryz.prog n_ref06_in [.one d3, iA q] s5 fun r6 s6 => ∃ b2, r6 = .a (bA b2) ∧ bcase b2 (True ∧ R d2 d3 s6) (True ∧ R2 s6))) := by
          intro hf
          refine (ref06_Sections_ok hp (by omega)).mono ?_
          rintro r4 s4 ⟨rfl, d4, rfl, hd4⟩
          refine ⟨d4, rfl, (ref06_in_ok q (hd4 _)).use ⟨_, rfl, ?_⟩⟩
          rw [hasSec_in]
          refine bc (fun k2 => ⟨by trivial, leaf out' _ _ _ (no fun g => by rw [g.2.2.1] at k2; cases k2) ho' ho1' hap'⟩) (fun k2 => bce (fun k3 => ⟨by trivial, leaf out' _ _ _ (no fun g => g.2.1 k3) ho' ho1' hap'⟩) (fun k3 => (ref06_in_ok q ho1'.at_).use ⟨_, rfl, ?_⟩))
          rw [nd_any]
          refine bc (fun k4 => ⟨by trivial, leaf out' _ _ _ (no fun g => by rw [g.2.2.2] at k4; cases k4) ho' ho1' hap'⟩) (fun k4 => ⟨by trivial, hR2 _ ?_⟩)
          refine newObj_intro fun id s5 hid _ he5 hs5 => ?_
          refine (ho1'.ext' he5).append2 (ho'.ext' he5) hap' (At.fresh hs5 (by simp) rfl) (by simp; omega) (by simp; omega) fun d5 s6 ho6 ho6' hap6 => ?_
          refine newObj_intro fun id7 s7 hid7 _ he7 hs7 => ?_
          have hw2 : w64 (3 - f) = 3 - f := w64_id (by omega) (by omega)
          refine (ho6'.ext' he7).append2 (ho6.ext' he7) hap6.symm (At.fresh hs7 (by simp) rfl) (by simp; omega) (by simp; omega) fun d8 s8 ho8 ho8' hap8 => ⟨by trivial, leaf (out' ++ [⟨q, 3 - f⟩]) _ _ _ (by rw [hst, if_pos ⟨k1, hf, k3, k2, k4⟩]) ?_ ?_ hap8.symm⟩
          · rw [hw2] at ho8; rw [List.map_append]; exact ho8
          · rw [List.map_append, List.map_append]; exact ho8'
        refine bcn (fun k2 => bcn (fun k3 => ⟨by trivial, leaf out' _ _ s' (no fun g => by omega) ho' ho1' hap'⟩) (fun k3 => main (by omega))) (fun k2 => main (by omega))
    · have hz : (nends k - m).toNat = 0 := by omega
      rw [hz, flankEnds] at hE
      rw [← hE] at hF'
      have hn := nx (fun r => flankRun c a path r out' = c.flank a path) hF'
      exact ⟨⟨out', ho', ho1', hap', by rw [w64_succ (by omega)]; omega, hn.1⟩, hn.2⟩
  · have hF := hr.done rfl hge
    rw [flankRun] at hF
    rw [← hF]
    exact own_fin ho (flatNd _)
theorem ref06_Overlap_ok (r : Rt) {d1 d2 d3 : D} (hp : ∀ s, At Tryz.prog s t_Step d1 (r.Path.map St.enc)) (hpl : r.Path.length ≤ 2 ^ 20) :
    DCalls Tryz.prog n_ref06_Overlap [cfA c0 c1 c2 c3 c4 c, rtA d1 d2 d3 r] σ (SlPost σ t_int ((c.overlap r).map Go.Fw.encI)) := by
  refine (W_ref06_Overlap _ _ _ _ _ _ _ _ _ _ _ d1 d2 d3 _ σ _ ?_).ret (Q := fun r' s => ∃ r'' σ', Ret Tryz.prog σ s r' σ' r'' ∧ SlPost σ t_int ((c.overlap r).map Go.Fw.encI) r'' σ') (fun r s h => h)
  intro R hR
  have nil : c.overlap r = [] → ∃ r'' σ', Ret Tryz.prog σ σ (.a (.one .nils)) σ' r'' ∧ SlPost σ t_int ((c.overlap r).map Go.Fw.encI) r'' σ' := fun e => by
    rw [e]; exact own_fin (.nil _ (.refl _)) (flatI _)
  refine bc (fun h1 => nil (by rw [Cf.overlap, if_pos h1])) (fun h1 => ?_)
  have hov : c.overlap r = match geti c.Sigs r.Exit with
    | none => []
    | some x => match nxt c.Jts x.Sec x.End_ with
      | none => []
      | some (q, _) => match geti c.Secs q with
        | none => []
        | some y => if y.Line = 0 ∧ hasSec r.Path q = false ∧ q ≠ c.approach r then [q] else [] := by
    rw [Cf.overlap, if_neg (by rw [h1]; simp)] <;> rfl
  refine bcd (fun e => nil (by rw [hov, geti_neg e])) (fun e0 => (h σ).sigs.lenK ?_)
  rw [List.length_map]
  refine bcd (fun e => nil (by rw [hov, geti_ge e])) (fun e1 => hR σ ?_)
  obtain ⟨x, hg⟩ := geti_ex e0 e1
  rw [hg] at hov
  simp only at hov
  refine (h σ).sigs.load (map_get (geti_some hg).2.2) c_Signal (by omega) ⟨x.Sec, x.End_, rfl, (ref05_Next_ok _ _ (h σ).jts).use (opt2_ex _ ?_)⟩
  intro R1 hR1
  have main : R1 (c.approach r) σ := by
    refine hR1 _ σ ?_
    cases hn : nxt c.Jts x.Sec x.End_ with
    | none => rw [hn] at hov; exact bcnot (fun _ => nil hov) (fun e => by cases e)
    | some p =>
      obtain ⟨q, f⟩ := p
      rw [hn] at hov
      simp only [Option.getD_some] at hov ⊢
      refine bcnot (fun e => by cases e) (fun _ => bcd (fun e => nil (by rw [hov, geti_neg e])) (fun e2 => (h σ).secs.lenK ?_))
      rw [List.length_map]
      refine bcd (fun e => nil (by rw [hov, geti_ge e])) (fun e3 => (ref06_Sections_ok hp (by omega)).mono ?_)
      obtain ⟨y, hy⟩ := geti_ex e2 e3
      rw [hy] at hov
      simp only at hov
      have no : ¬ (y.Line = 0 ∧ hasSec r.Path q = false ∧ q ≠ c.approach r) → c.overlap r = [] := fun hn => by rw [hov, if_neg hn]
      rintro r4 s4 ⟨rfl, d4, rfl, hd4⟩
      refine ⟨d4, rfl, (ref06_in_ok q (hd4 _)).use ⟨_, rfl, ?_⟩⟩
      rw [hasSec_in]
      refine bc (fun k2 => nil (no fun g => by rw [g.2.1] at k2; cases k2)) (fun k2 => bce (fun k3 => nil (no fun g => g.2.2 k3)) (fun k3 => ?_))
      refine (h s4).secs.load (map_get (geti_some hy).2.2) c_Section (by omega) ⟨y.Line, rfl, bcn (fun k4 => nil (no fun g => k4 g.1)) (fun k4 => ?_)⟩
      refine newObj_intro fun id s5 hid _ he5 hs5 => ?_
      rw [hov, if_pos ⟨k4, k2, k3⟩]
      exact own_fin (.at_new hid he5 hs5 (by simp) rfl) (flatI _)
  refine bcd (fun k0 => (h σ).sigs.lenK ?_) (fun k0 => ?_)
  · rw [List.length_map]
    refine bcd (fun k1 => ?_) (fun k1 => ?_)
    · obtain ⟨z, hz⟩ := geti_ex (l := c.Sigs) (i := r.Entry) (by omega) (by omega)
      refine (h σ).sigs.load (map_get (geti_some hz).2.2) c_Signal (by omega) ⟨z.Sec, rfl, ?_⟩
      rw [Cf.approach, hz] at main; exact main
    · rw [Cf.approach, geti_ge (by omega)] at main; exact main
  · rw [Cf.approach, geti_neg (by omega)] at main; exact main
theorem ref06_Check_ok : Pure Tryz.prog n_ref06_Check [cfA c0 c1 c2 c3 c4 c] σ (.a (iA c.check)) := by
  refine W_ref06_Check _ _ _ _ _ _ _ _ _ σ _ ((ref05_Check_ok (h σ).secs (h σ).jts).use ⟨_, rfl, ?_⟩)
  have e6 : (if topoOk c.Secs c.Jts = true then (0 : Int) else 6) ≠ 0 ↔ topoOk c.Secs c.Jts = false := by
    cases topoOk c.Secs c.Jts <;> simp
  refine bcn (fun k1 => ⟨by rw [Cf.check, if_pos (e6.1 k1)], rfl⟩) (fun k1 => (ref06_signals_ok (h σ)).use ⟨_, rfl, bcnot (fun k2 => ⟨?_, rfl⟩) (fun k2 => ?_)⟩)
  all_goals have k1' : ¬ topoOk c.Secs c.Jts = false := fun e => e6.2 e k1
  · rw [Cf.check, if_neg k1', if_pos k2]
  have ht : topoOk c.Secs c.Jts = true := by simpa using k1'
  refine (ref06_crossings_ok (h σ) ht).use ⟨_, rfl, bcnot (fun k3 => ⟨?_, rfl⟩) (fun k3 => ?_)⟩
  · rw [Cf.check, if_neg k1', if_neg (by rw [k2]; simp), if_pos k3]
  have hck : c.check = if c.Rts.length > 12 then 9 else if c.routes c.Rts ≠ 0 then c.routes c.Rts else if c.timing = true then 0 else 12 := by
    rw [Cf.check, if_neg k1', if_neg (by rw [k2]; simp), if_neg (by rw [k3]; simp)]
  obtain ⟨rows, hat, hlen, hrow⟩ := rts_froz fun s => (h s).rts
  have hl := (hat σ).size
  refine (hat σ).lenK (bcd (fun k4 => ⟨by rw [hck, if_pos (by omega)], rfl⟩) (fun k4 => (hat σ).lenK ?_))
  rw [if_neg (by omega)] at hck
  refine ⟨fun n s => s = σ ∧ Rng c.Rts (fun l => c.routes l = c.routes c.Rts) n, fun n _ => c.Rts.length - n.toNat, ⟨rfl, .start rfl⟩, ?_⟩
  rintro n τ ⟨rfl, hr⟩
  refine bcd (fun hlt => ?_) (fun hge => ?_)
  · obtain ⟨j, x, rfl, hx, hj, hF, nx⟩ := hr.step hlen (by omega) hlt
    obtain ⟨row, hrw⟩ := get_of_lt (l := rows) (j := j) (by omega)
    obtain ⟨d1, d2, d3, rfl, q1, q2, q3⟩ := hrow j row x hrw hx
    rw [Cf.routes] at hF
    have err : ∀ e, e ≠ 0 → c.route x = e → (RV.a (iA e) = .a (iA c.check) ∧ τ = τ) := fun e he hc => by
      rw [hc, if_pos he] at hF
      rw [hck, ← hF, if_pos he]; exact ⟨rfl, rfl⟩
    refine (hat τ).load hrw c_Route rfl ⟨_, _, d1, d2, d3, _, rfl, (ref06_path_ok h ht k2 x q1).use ⟨_, rfl, bcnot (fun k5 => err 9 (by decide) (by rw [Cf.route, if_pos k5])) (fun k5 => ?_)⟩⟩
    have hpl : x.Path.length ≤ 8 := by
      unfold Cf.path at k5
      split at k5
      · cases k5
      · simp at k5; exact k5.1.2.2
    refine (ref06_Approach_ok (h τ) j).use ⟨_, rfl, ?_⟩
    rw [show c.Approach j = c.approach x by rw [Cf.Approach, show geti c.Rts j = some x by unfold geti; rw [if_neg (by omega), Int.toNat_natCast]; exact hx]; rfl]
    refine (ref06_Flank_ok h _ q1 (by omega)).mono ?_
    rintro r1 s1 ⟨rfl, d, rfl, hd⟩
    refine ⟨d, rfl, (ref06_SameNeeds_ok (q2 _) (hd _)).use ⟨_, rfl, bcnot (fun k6 => err 10 (by decide) ?_) (fun k6 => (ref06_Overlap_ok h x q1 (by omega)).mono ?_)⟩⟩
    · rw [Cf.route, if_neg (by rw [k5]; simp), if_pos (of_decide_eq_false k6)]
    rintro r2 s2 ⟨rfl, d', rfl, hd'⟩
    have e2 := of_decide_eq_true k6
    refine ⟨d', rfl, (ref06_sameInts_ok (q3 _) (hd' _)).use ⟨_, rfl, bcnot (fun k7 => err 11 (by decide) ?_) (fun k7 => ?_)⟩⟩
    · rw [Cf.route, if_neg (by rw [k5]; simp), if_neg (fun hn => hn e2), if_pos (of_decide_eq_false k7)]
    · have h0 : c.route x = 0 := by rw [Cf.route, if_neg (by rw [k5]; simp), if_neg (fun hn => hn e2), if_neg (fun hn => hn (of_decide_eq_true k7))]
      rw [if_neg (by simp [h0])] at hF
      exact andl rfl (nx _ hF)
  · have hF : 0 = c.routes c.Rts := hr.done hlen hge
    rw [← hF, if_neg (by simp)] at hck
    have bad : ¬ (((1 ≤ c.Age ∧ c.Age ≤ 8) ∧ (0 ≤ c.Brake ∧ c.Brake ≤ 8)) ∧ (c.Age + c.Brake + 1 ≤ c.Hold ∧ c.Hold ≤ 40) ∧ (1 ≤ c.Budget ∧ c.Budget ≤ 1000000)) → (RV.a (iA 12) = .a (iA c.check) ∧ τ = τ) := fun hn => by
      rw [hck, if_neg (fun e => hn (by simpa [Cf.timing, and_assoc] using e))]; exact ⟨rfl, rfl⟩
    refine bcd (fun e => bad fun g => by omega) (fun t1 => bcd (fun e => bad fun g => by omega) (fun t2 => bcd (fun e => bad fun g => by omega) (fun t3 => bcd (fun e => bad fun g => by omega) (fun t4 => ?_))))
    rw [w64_id (n := c.Age + c.Brake) (by omega) (by omega), w64_id (n := c.Age + c.Brake + 1) (by omega) (by omega)]
    refine bcd (fun e => bad fun g => by omega) (fun t5 => bcd (fun e => bad fun g => by omega) (fun t6 => bcd (fun e => bad fun g => by omega) (fun t7 => bcd (fun e => bad fun g => by omega) (fun t8 => ⟨?_, rfl⟩))))
    rw [hck, if_pos]
    simp only [Cf.timing, Bool.and_eq_true, decide_eq_true_eq]
    omega
end
end Go.Proofs.YtjggnhjidheliaaGreat
end
section
set_option linter.unusedVariables false
set_option linter.unusedSimpArgs false
namespace Go.Proofs.YtjggnhjidheliaaGreat
open Go.Fw Go.Proofs Go.RowKit
variable {σ : Store}
section
variable {σ0 : Store} {d0 d1 d2 d3 d4 d5 : D} {k : Co}
theorem ext_other {s s' : Store} {i : Nat} (he : Ext σ0 s) (hf : σ0 i = .free) (hs : ∀ j, j ≠ i → s' j = s j) : Ext σ0 s' := fun j hj => by
  rw [hs j (fun e => hj (by rw [e]; exact hf))]; exact he j hj
end
end Go.Proofs.YtjggnhjidheliaaGreat
end
section
set_option linter.unusedVariables false
set_option linter.unusedSimpArgs false
namespace Go.Proofs.YtjggnhjidheliaaGreat
open Go.Fw Go.Proofs Go.RowKit
variable {σ σ0 : Store} {d0 d1 d2 d3 d4 d5 : D} {k : Co}
/-- A new list with another one's elements. -/
theorem copy_ok {t : TypeId} {bytes : Nat} {d : D} {rows : List (List D)} {K : D → Store → Prop} (h : At Tryz.prog σ t d rows) (hb : bytes * rows.length ≤ 140737488355328)
    (hK : ∀ d' s, Own Tryz.prog σ s t d' rows → K d' s) : Fw.newObj σ (.live t []) fun id σ' => appendTo Tryz.prog σ' t bytes (.osl id 0 0) d K := by
  refine newObj_intro fun id s hid _ he hs => ?_
  have ho : Own Tryz.prog σ s t (.osl id 0 0) [] := .at_new hid he hs (by simp) rfl
  exact ho.append (h.ext he) (by simpa using hb) (by have := h.size; simpa using this) fun d' s' ho' _ _ => hK _ _ (by simpa using ho')
/-- A state that lies in an object, with lists of its own. -/
structure CoIn (σ0 σ : Store) (id : Nat) (t : TypeId) (pre post : List D) (d0 d1 d2 d3 d4 d5 : D) (k : Co) : Prop where
  new : σ0 id = .free
  row : σ id = .live t [pre ++ ([d0, d1, d2, d3, d4, d5, .bool k.Dirty] ++ post)]
  co : CoOwn σ0 σ d0 d1 d2 d3 d4 d5 k
  ids : ∀ d ∈ [d0, d1, d2, d3, d4, d5], idOf d ≠ some id
theorem CoIn.ext {id t pre post} (h : CoIn σ0 σ id t pre post d0 d1 d2 d3 d4 d5 k) : Ext σ0 σ := h.co.own.ext
theorem CoIn.at {id t pre post} (h : CoIn σ0 σ id t pre post d0 d1 d2 d3 d4 d5 k) : CoAt σ d0 d1 d2 d3 d4 d5 k := h.co.at
theorem CoIn.dirty {id t pre post} (h : CoIn σ0 σ id t pre post d0 d1 d2 d3 d4 d5 k) {b : Bool} {off : Nat} (ho : off = pre.length + 6) {K : Store → Prop}
    (hK : ∀ s', CoIn σ0 s' id t pre post d0 d1 d2 d3 d4 d5 { k with Dirty := b } → (∀ i, i ≠ id → s' i = σ i) → K s') : storeEl [.bool b] σ (.osl id 0 1) 0 off K := by
  refine cell_store h.row (by subst ho; simp; omega) fun s' hs hs' => hK s' ?_ hs'
  have al : ∀ {d : D} {el : TypeId} {rs : List (List D)}, d ∈ [d0, d1, d2, d3, d4, d5] → Own Tryz.prog σ0 σ el d rs → Own Tryz.prog σ0 s' el d rs := fun hd g => own_other g h.new (h.ids _ hd) hs'
  refine ⟨h.new, ?_, ⟨al (by simp) h.co.own, al (by simp) h.co.routes, al (by simp) h.co.points, al (by simp) h.co.xs, al (by simp) h.co.lines, al (by simp) h.co.resets, h.co.apart⟩, h.ids⟩
  rw [hs]
  have e : patch (pre ++ ([d0, d1, d2, d3, d4, d5, .bool k.Dirty] ++ post)) off [.bool b] = pre ++ ([d0, d1, d2, d3, d4, d5, .bool b] ++ post) := by
    subst ho
    unfold patch
    rw [List.take_length_add_append, List.length_singleton, Nat.add_assoc, List.drop_length_add_append]
    rw [List.append_assoc, List.append_assoc]; rfl
  rw [e]
theorem CoOwn.putO (h : CoOwn σ0 σ d0 d1 d2 d3 d4 d5 k) {j n off : Nat} {x y : Int} {ys : List D} (hj : k.Own[j]? = some x) (hn : n = j) (ho : off + ys.length ≤ 1) (hp : patch (Go.Fw.encI x) off ys = Go.Fw.encI y) {K : Store → Prop}
    (hK : ∀ s', CoOwn σ0 s' d0 d1 d2 d3 d4 d5 { k with Own := k.Own.set j y } → (∀ i, idOf d0 ≠ some i → s' i = σ i) → K s') : storeEl ys σ d0 n off K := by
  refine h.own.at_.store h.own.nsl (map_get hj) hn ho fun s' i hi hat hs hne => hK s' ?_ fun i' hi' => hs i' fun e => hi' (by rw [e]; exact hi)
  have hf := own_id h.own hi
  have ap : ∀ {m : Nat} {d : D}, [d0, d1, d2, d3, d4, d5][m]? = some d → m ≠ 0 → idOf d ≠ some i := fun hm hne0 => pw h.apart (i := 0) rfl hm (Ne.symm hne0) i hi
  refine ⟨⟨?_, ext_other h.own.ext hf hs, h.own.new, h.own.nsl, h.own.nz⟩, own_other h.routes hf (ap (m := 1) rfl (by omega)) hs, own_other h.points hf (ap (m := 2) rfl (by omega)) hs, own_other h.xs hf (ap (m := 3) rfl (by omega)) hs, own_other h.lines hf (ap (m := 4) rfl (by omega)) hs, own_other h.resets hf (ap (m := 5) rfl (by omega)) hs, h.apart⟩
  rw [hp, map_set (Go.Fw.encI) k.Own j y] at hat; exact hat
theorem CoIn.putO {id t pre post} (h : CoIn σ0 σ id t pre post d0 d1 d2 d3 d4 d5 k) {j n off : Nat} {x y : Int} {ys : List D} (hj : k.Own[j]? = some x) (hn : n = j) (ho : off + ys.length ≤ 1) (hp : patch (Go.Fw.encI x) off ys = Go.Fw.encI y) {K : Store → Prop}
    (hK : ∀ s', CoIn σ0 s' id t pre post d0 d1 d2 d3 d4 d5 { k with Own := k.Own.set j y } → (∀ i, idOf d0 ≠ some i → s' i = σ i) → K s') : storeEl ys σ d0 n off K :=
  h.co.putO hj hn ho hp fun s' h' hs => hK s' ⟨h.new, (hs id (h.ids _ (by simp))).trans h.row, h', h.ids⟩ hs
theorem CoOwn.putR (h : CoOwn σ0 σ d0 d1 d2 d3 d4 d5 k) {j n off : Nat} {x y : Rs} {ys : List D} (hj : k.Routes[j]? = some x) (hn : n = j) (ho : off + ys.length ≤ 4) (hp : patch (Rs.enc x) off ys = Rs.enc y) {K : Store → Prop}
    (hK : ∀ s', CoOwn σ0 s' d0 d1 d2 d3 d4 d5 { k with Routes := k.Routes.set j y } → (∀ i, idOf d1 ≠ some i → s' i = σ i) → K s') : storeEl ys σ d1 n off K := by
  refine h.routes.at_.store h.routes.nsl (map_get hj) hn ho fun s' i hi hat hs hne => hK s' ?_ fun i' hi' => hs i' fun e => hi' (by rw [e]; exact hi)
  have hf := own_id h.routes hi
  have ap : ∀ {m : Nat} {d : D}, [d0, d1, d2, d3, d4, d5][m]? = some d → m ≠ 1 → idOf d ≠ some i := fun hm hne0 => pw h.apart (i := 1) rfl hm (Ne.symm hne0) i hi
  refine ⟨own_other h.own hf (ap (m := 0) rfl (by omega)) hs, ⟨?_, ext_other h.routes.ext hf hs, h.routes.new, h.routes.nsl, h.routes.nz⟩, own_other h.points hf (ap (m := 2) rfl (by omega)) hs, own_other h.xs hf (ap (m := 3) rfl (by omega)) hs, own_other h.lines hf (ap (m := 4) rfl (by omega)) hs, own_other h.resets hf (ap (m := 5) rfl (by omega)) hs, h.apart⟩
  rw [hp, map_set (Rs.enc) k.Routes j y] at hat; exact hat
theorem CoIn.putR {id t pre post} (h : CoIn σ0 σ id t pre post d0 d1 d2 d3 d4 d5 k) {j n off : Nat} {x y : Rs} {ys : List D} (hj : k.Routes[j]? = some x) (hn : n = j) (ho : off + ys.length ≤ 4) (hp : patch (Rs.enc x) off ys = Rs.enc y) {K : Store → Prop}
    (hK : ∀ s', CoIn σ0 s' id t pre post d0 d1 d2 d3 d4 d5 { k with Routes := k.Routes.set j y } → (∀ i, idOf d1 ≠ some i → s' i = σ i) → K s') : storeEl ys σ d1 n off K :=
  h.co.putR hj hn ho hp fun s' h' hs => hK s' ⟨h.new, (hs id (h.ids _ (by simp))).trans h.row, h', h.ids⟩ hs
theorem CoOwn.putP (h : CoOwn σ0 σ d0 d1 d2 d3 d4 d5 k) {j n off : Nat} {x y : Mv} {ys : List D} (hj : k.Points[j]? = some x) (hn : n = j) (ho : off + ys.length ≤ 2) (hp : patch (Mv.enc x) off ys = Mv.enc y) {K : Store → Prop}
    (hK : ∀ s', CoOwn σ0 s' d0 d1 d2 d3 d4 d5 { k with Points := k.Points.set j y } → (∀ i, idOf d2 ≠ some i → s' i = σ i) → K s') : storeEl ys σ d2 n off K := by
  refine h.points.at_.store h.points.nsl (map_get hj) hn ho fun s' i hi hat hs hne => hK s' ?_ fun i' hi' => hs i' fun e => hi' (by rw [e]; exact hi)
  have hf := own_id h.points hi
  have ap : ∀ {m : Nat} {d : D}, [d0, d1, d2, d3, d4, d5][m]? = some d → m ≠ 2 → idOf d ≠ some i := fun hm hne0 => pw h.apart (i := 2) rfl hm (Ne.symm hne0) i hi
  refine ⟨own_other h.own hf (ap (m := 0) rfl (by omega)) hs, own_other h.routes hf (ap (m := 1) rfl (by omega)) hs, ⟨?_, ext_other h.points.ext hf hs, h.points.new, h.points.nsl, h.points.nz⟩, own_other h.xs hf (ap (m := 3) rfl (by omega)) hs, own_other h.lines hf (ap (m := 4) rfl (by omega)) hs, own_other h.resets hf (ap (m := 5) rfl (by omega)) hs, h.apart⟩
  rw [hp, map_set (Mv.enc) k.Points j y] at hat; exact hat
theorem CoIn.putP {id t pre post} (h : CoIn σ0 σ id t pre post d0 d1 d2 d3 d4 d5 k) {j n off : Nat} {x y : Mv} {ys : List D} (hj : k.Points[j]? = some x) (hn : n = j) (ho : off + ys.length ≤ 2) (hp : patch (Mv.enc x) off ys = Mv.enc y) {K : Store → Prop}
    (hK : ∀ s', CoIn σ0 s' id t pre post d0 d1 d2 d3 d4 d5 { k with Points := k.Points.set j y } → (∀ i, idOf d2 ≠ some i → s' i = σ i) → K s') : storeEl ys σ d2 n off K :=
  h.co.putP hj hn ho hp fun s' h' hs => hK s' ⟨h.new, (hs id (h.ids _ (by simp))).trans h.row, h', h.ids⟩ hs
theorem CoOwn.putX (h : CoOwn σ0 σ d0 d1 d2 d3 d4 d5 k) {j n off : Nat} {x y : Mv} {ys : List D} (hj : k.Xs[j]? = some x) (hn : n = j) (ho : off + ys.length ≤ 2) (hp : patch (Mv.enc x) off ys = Mv.enc y) {K : Store → Prop}
    (hK : ∀ s', CoOwn σ0 s' d0 d1 d2 d3 d4 d5 { k with Xs := k.Xs.set j y } → (∀ i, idOf d3 ≠ some i → s' i = σ i) → K s') : storeEl ys σ d3 n off K := by
  refine h.xs.at_.store h.xs.nsl (map_get hj) hn ho fun s' i hi hat hs hne => hK s' ?_ fun i' hi' => hs i' fun e => hi' (by rw [e]; exact hi)
  have hf := own_id h.xs hi
  have ap : ∀ {m : Nat} {d : D}, [d0, d1, d2, d3, d4, d5][m]? = some d → m ≠ 3 → idOf d ≠ some i := fun hm hne0 => pw h.apart (i := 3) rfl hm (Ne.symm hne0) i hi
  refine ⟨own_other h.own hf (ap (m := 0) rfl (by omega)) hs, own_other h.routes hf (ap (m := 1) rfl (by omega)) hs, own_other h.points hf (ap (m := 2) rfl (by omega)) hs, ⟨?_, ext_other h.xs.ext hf hs, h.xs.new, h.xs.nsl, h.xs.nz⟩, own_other h.lines hf (ap (m := 4) rfl (by omega)) hs, own_other h.resets hf (ap (m := 5) rfl (by omega)) hs, h.apart⟩
  rw [hp, map_set (Mv.enc) k.Xs j y] at hat; exact hat
theorem CoIn.putX {id t pre post} (h : CoIn σ0 σ id t pre post d0 d1 d2 d3 d4 d5 k) {j n off : Nat} {x y : Mv} {ys : List D} (hj : k.Xs[j]? = some x) (hn : n = j) (ho : off + ys.length ≤ 2) (hp : patch (Mv.enc x) off ys = Mv.enc y) {K : Store → Prop}
    (hK : ∀ s', CoIn σ0 s' id t pre post d0 d1 d2 d3 d4 d5 { k with Xs := k.Xs.set j y } → (∀ i, idOf d3 ≠ some i → s' i = σ i) → K s') : storeEl ys σ d3 n off K :=
  h.co.putX hj hn ho hp fun s' h' hs => hK s' ⟨h.new, (hs id (h.ids _ (by simp))).trans h.row, h', h.ids⟩ hs
theorem CoOwn.putL (h : CoOwn σ0 σ d0 d1 d2 d3 d4 d5 k) {j n off : Nat} {x y : Ls} {ys : List D} (hj : k.Lines[j]? = some x) (hn : n = j) (ho : off + ys.length ≤ 8) (hp : patch (Ls.enc x) off ys = Ls.enc y) {K : Store → Prop}
    (hK : ∀ s', CoOwn σ0 s' d0 d1 d2 d3 d4 d5 { k with Lines := k.Lines.set j y } → (∀ i, idOf d4 ≠ some i → s' i = σ i) → K s') : storeEl ys σ d4 n off K := by
  refine h.lines.at_.store h.lines.nsl (map_get hj) hn ho fun s' i hi hat hs hne => hK s' ?_ fun i' hi' => hs i' fun e => hi' (by rw [e]; exact hi)
  have hf := own_id h.lines hi
  have ap : ∀ {m : Nat} {d : D}, [d0, d1, d2, d3, d4, d5][m]? = some d → m ≠ 4 → idOf d ≠ some i := fun hm hne0 => pw h.apart (i := 4) rfl hm (Ne.symm hne0) i hi
  refine ⟨own_other h.own hf (ap (m := 0) rfl (by omega)) hs, own_other h.routes hf (ap (m := 1) rfl (by omega)) hs, own_other h.points hf (ap (m := 2) rfl (by omega)) hs, own_other h.xs hf (ap (m := 3) rfl (by omega)) hs, ⟨?_, ext_other h.lines.ext hf hs, h.lines.new, h.lines.nsl, h.lines.nz⟩, own_other h.resets hf (ap (m := 5) rfl (by omega)) hs, h.apart⟩
  rw [hp, map_set (Ls.enc) k.Lines j y] at hat; exact hat
theorem CoIn.putL {id t pre post} (h : CoIn σ0 σ id t pre post d0 d1 d2 d3 d4 d5 k) {j n off : Nat} {x y : Ls} {ys : List D} (hj : k.Lines[j]? = some x) (hn : n = j) (ho : off + ys.length ≤ 8) (hp : patch (Ls.enc x) off ys = Ls.enc y) {K : Store → Prop}
    (hK : ∀ s', CoIn σ0 s' id t pre post d0 d1 d2 d3 d4 d5 { k with Lines := k.Lines.set j y } → (∀ i, idOf d4 ≠ some i → s' i = σ i) → K s') : storeEl ys σ d4 n off K :=
  h.co.putL hj hn ho hp fun s' h' hs => hK s' ⟨h.new, (hs id (h.ids _ (by simp))).trans h.row, h', h.ids⟩ hs
end Go.Proofs.YtjggnhjidheliaaGreat
end
section
set_option linter.unusedVariables false
set_option linter.unusedSimpArgs false
namespace Go.Fw
section
variable {occ : List Lk} {now : Int} {was may : Bool} {x : Ls} {o : Int} {s : Nat} {lk : Lk}
end
structure SameBut (k k' : Co) (l s : Nat) : Prop where
  routes : k'.Routes = k.Routes
  lines : ∀ m, m ≠ l → k'.Lines[m]? = k.Lines[m]?
  own : ∀ t, t ≠ s → k'.Own[t]? = k.Own[t]?
end Go.Fw
end
section
set_option linter.unusedVariables false
set_option linter.unusedSimpArgs false
namespace Go.Fw
/-- Is a route that isn't idle approached over one of the sections? counted from j on. -/
def apprS (c : Cf) (l : List Int) : List Rs → Nat → Bool
  | [], _ => false
  | r :: rs, j => (decide (r.State ≠ 0) && inL l (c.Approach j)) || apprS c l rs (j + 1)
end Go.Fw
end
section
set_option linter.unusedVariables false
set_option linter.unusedSimpArgs false
namespace Go.Fw
/-- A step of a right path. -/
structure StOk (c : Cf) (r : Rt) (s : St) : Prop where
  sec : ∃ y, geti c.Secs s.Sec = some y ∧ (wpos (wayL y.Kind) s.In s.Out).isSome = true ∧ (r.Shunt = true → y.Line = 0)
theorem prunA_facts {c : Cf} (ht : topoOk c.Secs c.Jts = true) (r : Rt) (ex : Option Sg) : ∀ (l : List St) (a : Sg) (seen : List Int), prunA c r ex l a seen = true →
    (∀ s ∈ l, StOk c r s ∧ s.Sec ∉ seen) ∧ (l.map St.Sec).Nodup
  | [], a, seen, _ => ⟨fun s hs => by simp at hs, by simp⟩
  | s :: rest, a, seen, h => by
    rw [prunA, Bool.and_eq_true] at h
    obtain ⟨h1, h2⟩ := h
    obtain ⟨q1, q2⟩ := prunA_facts ht r ex rest _ _ h2
    unfold pstep at h1
    cases hn : nxt c.Jts a.Sec a.End_ with
    | none => rw [hn] at h1; cases h1
    | some p =>
      obtain ⟨q, i⟩ := p
      rw [hn] at h1
      obtain ⟨y, hy⟩ := nxt_sec ht hn
      simp only [hy, Option.getD_some, Bool.and_eq_true, decide_eq_true_eq, Bool.not_eq_true'] at h1
      obtain ⟨⟨⟨⟨⟨rfl, e2⟩, e3⟩, e4⟩, e5⟩, e6⟩ := h1
      refine ⟨fun x hx => ?_, ?_⟩
      · rcases List.mem_cons.1 hx with rfl | hx
        · refine ⟨⟨y, hy, e3, fun hs => ?_⟩, e4⟩
          rw [hs, Bool.true_and, decide_eq_false_iff_not] at e6
          exact Decidable.not_not.1 e6
        · obtain ⟨w1, w2⟩ := q1 x hx
          exact ⟨w1, fun hm => w2 (List.mem_cons_of_mem _ hm)⟩
      · rw [List.map_cons, List.nodup_cons]
        refine ⟨fun hm => ?_, q2⟩
        obtain ⟨x, hx, e⟩ := List.mem_map.1 hm
        exact (q1 x hx).2 (by rw [e]; simp)
/-- A right route. -/
structure RtOk (c : Cf) (r : Rt) : Prop where
  entry : ∃ a, geti c.Sigs r.Entry = some a
  exit_ : r.Exit = -1 ∨ ∃ x, geti c.Sigs r.Exit = some x
  len : 1 ≤ r.Path.length ∧ r.Path.length ≤ 8
  step : ∀ s ∈ r.Path, StOk c r s ∧ s.Sec ≠ c.approach r
  dup : (r.Path.map St.Sec).Nodup
  flank : r.Flank = c.flank (c.approach r) r.Path
  over : r.Overlap = c.overlap r
theorem routes_zero {c : Cf} : ∀ {l : List Rt}, c.routes l = 0 → ∀ r ∈ l, c.route r = 0
  | [], _, r, hr => by simp at hr
  | x :: l, h, r, hr => by
    rw [Cf.routes] at h
    split at h
    · rename_i hne; exact absurd h hne
    · rename_i he
      rcases List.mem_cons.1 hr with rfl | hr
      · simpa using he
      · exact routes_zero h r hr
theorem check_parts {c : Cf} (h : c.check = 0) : topoOk c.Secs c.Jts = true ∧ c.sigsOk = true ∧ c.xsOk = true ∧ c.Rts.length ≤ 12 ∧ c.routes c.Rts = 0 ∧ c.timing = true := by
  unfold Cf.check at h
  split at h
  · cases h
  split at h
  · cases h
  split at h
  · cases h
  split at h
  · cases h
  split at h
  · rename_i hne; exact absurd h hne
  split at h
  · rename_i h1 h2 h3 h4 h5 h6
    exact ⟨by simpa using h1, by simpa using h2, by simpa using h3, by omega, by simpa using h5, h6⟩
  · cases h
theorem path_ok {c : Cf} (ht : topoOk c.Secs c.Jts = true) {r : Rt} (h : c.route r = 0) : RtOk c r := by
  unfold Cf.route at h
  split at h
  · cases h
  split at h
  · cases h
  split at h
  · cases h
  rename_i h1 h2 h3
  have h1 : c.path r = true := by simpa using h1
  unfold Cf.path at h1
  cases hg : geti c.Sigs r.Entry with
  | none => rw [hg] at h1; cases h1
  | some a =>
    rw [hg] at h1
    simp only [Bool.and_eq_true, Bool.or_eq_true, decide_eq_true_eq] at h1
    obtain ⟨⟨e1, e2⟩, e3⟩ := h1
    obtain ⟨q1, q2⟩ := prunA_facts ht r _ _ _ _ e3
    have ha : c.approach r = a.Sec := by rw [Cf.approach, hg]; rfl
    refine ⟨⟨a, hg⟩, e1.imp id Option.isSome_iff_exists.1, e2, fun s hs => ⟨(q1 s hs).1, fun e => (q1 s hs).2 (by rw [e, ha]; simp)⟩, q2, Decidable.not_not.1 h2, Decidable.not_not.1 h3⟩
theorem check_rt {c : Cf} (h : c.check = 0) {r : Rt} (hr : r ∈ c.Rts) : RtOk c r := by
  obtain ⟨h1, _, _, _, h5, _⟩ := check_parts h
  exact path_ok h1 (routes_zero h5 r hr)
/-- A right flank's section. -/
structure NdOk (c : Cf) (a : Int) (path : List St) (n : Nd) : Prop where
  sec : ∃ y, geti c.Secs n.Sec = some y ∧ y.Kind = 1
  pos : 1 ≤ n.Pos ∧ n.Pos ≤ 2
  app : n.Sec ≠ a
  path : hasSec path n.Sec = false
def FlOk (c : Cf) (a : Int) (path : List St) (out : List Nd) : Prop := (∀ n ∈ out, NdOk c a path n) ∧ (out.map Nd.Sec).Nodup
theorem flankStep_ok {c : Cf} {a : Int} {p : List St} {s : St} {out : List Nd} {e : Int} (h : FlOk c a p out) : FlOk c a p (flankStep c a p s out e) := by
  unfold flankStep
  split
  · exact h
  · split
    · exact h
    · split
      · exact h
      · rename_i y hy
        split
        · rename_i hc
          obtain ⟨c1, c2, c3, c4, c5⟩ := hc
          refine ⟨fun n hn => ?_, ?_⟩
          · rcases List.mem_append.1 hn with hn | hn
            · exact h.1 n hn
            · rw [List.mem_singleton] at hn; subst hn
              exact ⟨⟨y, hy, c1⟩, by simp only; omega, c3, c4⟩
          · rw [List.map_append, List.nodup_append]
            refine ⟨h.2, by simp, fun x hx z hz => ?_⟩
            simp only [List.map_cons, List.map_nil, List.mem_singleton] at hz
            subst hz
            intro e
            obtain ⟨n, hn, e2⟩ := List.mem_map.1 hx
            rw [List.any_eq_false] at c5
            exact c5 n hn (by rw [e2, e]; simp)
        · exact h
theorem flankEnds_ok {c : Cf} {a : Int} {p : List St} {s : St} : ∀ (n : Nat) (e : Int) (out : List Nd), FlOk c a p out → FlOk c a p (flankEnds c a p s n e out)
  | 0, _, _, h => h
  | n + 1, e, out, h => by rw [flankEnds]; exact flankEnds_ok n _ _ (flankStep_ok h)
theorem flankRun_ok {c : Cf} {a : Int} {p : List St} : ∀ (l : List St) (out : List Nd), FlOk c a p out → FlOk c a p (flankRun c a p l out)
  | [], _, h => h
  | s :: r, out, h => by
    rw [flankRun]
    refine flankRun_ok r _ ?_
    split
    · exact h
    · exact flankEnds_ok _ _ _ h
theorem flank_ok (c : Cf) (a : Int) (p : List St) : FlOk c a p (c.flank a p) := flankRun_ok p [] ⟨fun n h => by simp at h, by simp⟩
theorem flank_len (c : Cf) (a : Int) (p : List St) : (c.flank a p).length ≤ 4 * p.length := by
  have := (flankRun_len c a p p []).2
  simpa [Cf.flank] using this
theorem over_ok {c : Cf} {r : Rt} {q : Int} (h : q ∈ c.overlap r) : (∃ y, geti c.Secs q = some y ∧ y.Line = 0) ∧ hasSec r.Path q = false ∧ q ≠ c.approach r := by
  unfold Cf.overlap at h
  split at h
  · simp at h
  split at h
  · simp at h
  split at h
  · simp at h
  split at h
  · simp at h
  rename_i y hy
  split at h
  · rename_i hc
    rw [List.mem_singleton] at h; subst h
    exact ⟨⟨y, hy, hc.1⟩, hc.2.1, hc.2.2⟩
  · simp at h
theorem over_len (c : Cf) (r : Rt) : (c.overlap r).length ≤ 1 := by
  unfold Cf.overlap
  split
  · simp
  split
  · simp
  split
  · simp
  split
  · simp
  split <;> simp
theorem RtOk.fl {c : Cf} {r : Rt} (h : RtOk c r) : FlOk c (c.approach r) r.Path r.Flank := by rw [h.flank]; exact flank_ok _ _ _
theorem RtOk.flen {c : Cf} {r : Rt} (h : RtOk c r) : r.Flank.length ≤ 32 := by
  rw [h.flank]; have := flank_len c (c.approach r) r.Path; have := h.len; omega
theorem RtOk.olen {c : Cf} {r : Rt} (h : RtOk c r) : r.Overlap.length ≤ 1 := by rw [h.over]; exact over_len _ _
theorem RtOk.ov {c : Cf} {r : Rt} (h : RtOk c r) {q : Int} (hq : q ∈ r.Overlap) : (∃ y, geti c.Secs q = some y ∧ y.Line = 0) ∧ hasSec r.Path q = false ∧ q ≠ c.approach r := by rw [h.over] at hq; exact over_ok hq
theorem check_xs {c : Cf} (h : c.check = 0) : (∀ x ∈ c.Xs, ∃ s, geti c.Secs x = some s ∧ s.Line = 0) ∧ c.Xs.Nodup ∧ c.Xs.length ≤ 4 := by
  obtain ⟨_, _, h3, _⟩ := check_parts h
  rw [Cf.xsOk, Bool.and_eq_true, xrun_iff] at h3
  exact ⟨h3.1.1, h3.1.2.1, of_decide_eq_true h3.2⟩
theorem geti_nat {α : Type} {l : List α} {j : Nat} : geti l (j : Int) = l[j]? := by unfold geti; rw [if_neg (by omega), Int.toNat_natCast]
end Go.Fw
namespace Go.Fw
end Go.Fw
end
section
set_option linter.unusedVariables false
set_option linter.unusedSimpArgs false
namespace Go.Fw
def zRt : Rt := ⟨0, 0, [], [], [], false⟩
def Cf.rt (c : Cf) (i : Int) : Rt := (geti c.Rts i).getD zRt
def needOf (c : Cf) (s : St) : Option Nd :=
  match geti c.Secs s.Sec with
  | none => none
  | some y => match wpos (wayL y.Kind) s.In s.Out with
    | none => none
    | some p => if p = 0 then none else some ⟨s.Sec, p⟩
def Cf.needs (c : Cf) (r : Rt) : List Nd := r.Path.filterMap (needOf c) ++ r.Flank
def Cf.Needs (c : Cf) (i : Int) : List Nd := c.needs (c.rt i)
/-- The crossings on a path, counted from j on. -/
def crossL (path : List St) : List Int → Nat → List Int
  | [], _ => []
  | x :: r, j => if hasSec path x = true then (j : Int) :: crossL path r (j + 1) else crossL path r (j + 1)
def Cf.Cross (c : Cf) (i : Int) : List Int := crossL (c.rt i).Path c.Xs 0
theorem rt_some {c : Cf} {i : Int} {r : Rt} (h : geti c.Rts i = some r) : c.rt i = r := by unfold Cf.rt; rw [h]; rfl
theorem rt_none {c : Cf} {i : Int} (h : geti c.Rts i = none) : c.rt i = zRt := by unfold Cf.rt; rw [h]; rfl
theorem crossL_len (path : List St) : ∀ (l : List Int) (j : Nat), (crossL path l j).length ≤ l.length
  | [], _ => by simp [crossL]
  | x :: r, j => by
    rw [crossL]; have := crossL_len path r (j + 1)
    split <;> simp <;> omega
/-- A crossing of a path is one of the station's. -/
theorem crossL_mem (path : List St) : ∀ (l : List Int) (j : Nat) (n : Int), n ∈ crossL path l j → ∃ (i : Nat) (x : Int), n = ((j + i : Nat) : Int) ∧ l[i]? = some x ∧ hasSec path x = true
  | [], j, n, h => by simp [crossL] at h
  | x :: r, j, n, h => by
    have go : n ∈ crossL path r (j + 1) → ∃ (i : Nat) (y : Int), n = ((j + i : Nat) : Int) ∧ (x :: r)[i]? = some y ∧ hasSec path y = true := fun h => by
      obtain ⟨i, y, h1, h2, h3⟩ := crossL_mem path r (j + 1) n h
      exact ⟨i + 1, y, by omega, by simpa using h2, h3⟩
    rw [crossL] at h
    split at h
    · rename_i hx
      rcases List.mem_cons.1 h with rfl | h
      · exact ⟨0, x, by simp, rfl, hx⟩
      · exact go h
    · exact go h
theorem needs_len (c : Cf) (r : Rt) : (c.needs r).length ≤ r.Path.length + r.Flank.length := by
  unfold Cf.needs
  rw [List.length_append]
  have := List.length_filterMap_le (needOf c) r.Path
  omega
/-- What a right route needs lies in the station. -/
theorem needs_sec {c : Cf} {r : Rt} (h : RtOk c r) {n : Nd} (hn : n ∈ c.needs r) : (∃ y, geti c.Secs n.Sec = some y) ∧ 1 ≤ n.Pos ∧ n.Pos ≤ 2 := by
  unfold Cf.needs at hn
  rcases List.mem_append.1 hn with hn | hn
  · obtain ⟨s, hs, e⟩ := List.mem_filterMap.1 hn
    obtain ⟨⟨y, hy, _⟩⟩ := (h.step s hs).1
    unfold needOf at e
    rw [hy] at e
    simp only at e
    cases hp : wpos (wayL y.Kind) s.In s.Out with
    | none => rw [hp] at e; cases e
    | some p =>
      rw [hp] at e
      simp only at e
      split at e
      · cases e
      · rename_i hp0
        injection e with e; subst e
        refine ⟨⟨y, hy⟩, ?_⟩
        have key : ∀ (l : List (Int × Int × Int)), (∀ w ∈ l, w.2.2 = 0 ∨ w.2.2 = 1 ∨ w.2.2 = 2) → ∀ p, wpos l s.In s.Out = some p → p = 0 ∨ p = 1 ∨ p = 2 := by
          intro l
          induction l with
          | nil => intro _ p h; cases h
          | cons w r ih =>
            intro hw p h
            rw [wpos] at h
            split at h
            · injection h with h; rw [← h]; exact hw w (by simp)
            · exact ih (fun w hw' => hw w (by simp [hw'])) p h
        have hw : ∀ w ∈ wayL y.Kind, w.2.2 = 0 ∨ w.2.2 = 1 ∨ w.2.2 = 2 := by
          unfold wayL
          split
          · simp
          split
          · simp
          split
          · simp
          · simp
        have := key _ hw p hp
        simp only
        omega
  · have := h.fl.1 n hn
    obtain ⟨y, hy, _⟩ := this.sec
    exact ⟨⟨y, hy⟩, this.pos⟩
end Go.Fw
end
section
set_option linter.unusedVariables false
set_option linter.unusedSimpArgs false
namespace Go.Proofs.YtjggnhjidheliaaGreat
open Go.Fw Go.Proofs Go.RowKit
variable {σ : Store}
section
variable {c0 c1 c2 c3 c4 : D} {c : Cf} (h : ∀ s, CfAt s c0 c1 c2 c3 c4 c)
include h
/-- A route's lists, that lie nowhere in the store. -/
theorem rt_frz {i : Nat} {x : Rt} (hx : c.Rts[i]? = some x) : ∃ rows d1 d2 d3, (∀ s, At Tryz.prog s t_Route c4 rows) ∧ rows.length = c.Rts.length ∧ rows[i]? = some [iD x.Entry, iD x.Exit, d1, d2, d3, .bool x.Shunt] ∧
    (∀ s, At Tryz.prog s t_Step d1 (x.Path.map St.enc)) ∧ (∀ s, At Tryz.prog s t_Need d2 (x.Flank.map Nd.enc)) ∧ (∀ s, At Tryz.prog s t_int d3 (x.Overlap.map Go.Fw.encI)) := by
  obtain ⟨rows, hat, hlen, hrow⟩ := rts_froz fun s => (h s).rts
  obtain ⟨row, hrw⟩ := get_of_lt (l := rows) (j := i) (by have := (List.getElem?_eq_some_iff.1 hx).1; omega)
  obtain ⟨d1, d2, d3, rfl, q1, q2, q3⟩ := hrow i row x hrw hx
  exact ⟨rows, d1, d2, d3, hat, hlen, hrw, q1, q2, q3⟩
theorem mover_route_ok (i : Int) : DCalls Tryz.prog n_mover_route [cfA c0 c1 c2 c3 c4 c, iA i] σ fun r s => s = σ ∧ ∃ d1 d2 d3, r = .tup [rtA d1 d2 d3 (c.rt i), bA (geti c.Rts i).isSome] ∧
    (∀ s, At Tryz.prog s t_Step d1 ((c.rt i).Path.map St.enc)) ∧ (∀ s, At Tryz.prog s t_Need d2 ((c.rt i).Flank.map Nd.enc)) ∧ (∀ s, At Tryz.prog s t_int d3 ((c.rt i).Overlap.map Go.Fw.encI)) := by
  have no : geti c.Rts i = none → (σ = σ ∧ ∃ d1 d2 d3, RV.tup [.agg [iD 0, iD 0, .nils, .nils, .nils, .bool false], bA false] = .tup [rtA d1 d2 d3 (c.rt i), bA (geti c.Rts i).isSome] ∧
    (∀ s, At Tryz.prog s t_Step d1 ((c.rt i).Path.map St.enc)) ∧ (∀ s, At Tryz.prog s t_Need d2 ((c.rt i).Flank.map Nd.enc)) ∧ (∀ s, At Tryz.prog s t_int d3 ((c.rt i).Overlap.map Go.Fw.encI))) := fun e => by
    rw [rt_none e, e]
    exact ⟨rfl, _, _, _, rfl, fun _ => .nil, fun _ => .nil, fun _ => .nil⟩
  obtain ⟨rows, hat, hlen⟩ := rts_len (h σ)
  refine W_mover_route _ _ _ _ _ _ _ _ _ i σ _ (bcd (fun e => no (geti_neg e)) (fun e0 => hat.lenK (bcd (fun e => no (geti_ge (by omega))) (fun e1 => ?_))))
  obtain ⟨x, hx⟩ := geti_ex (l := c.Rts) (i := i) e0 (by omega)
  obtain ⟨rows, d1, d2, d3, hat, hlen, hrow, q1, q2, q3⟩ := rt_frz h (geti_some hx).2.2
  refine (hat σ).load hrow c_Route (by omega) ⟨_, _, _, _, _, _, rfl, ?_⟩
  rw [rt_some hx, hx]
  exact ⟨rfl, _, _, _, rfl, q1, q2, q3⟩
theorem mover_Needs_ok (i : Int) (h1 : (c.rt i).Path.length ≤ 2 ^ 20) (h2 : (c.rt i).Flank.length ≤ 2 ^ 20) :
    DCalls Tryz.prog n_mover_Needs [cfA c0 c1 c2 c3 c4 c, iA i] σ (SlPost σ t_Need ((c.Needs i).map Nd.enc)) := by
  refine (W_mover_Needs _ _ _ _ _ _ _ _ _ i σ _ ?_).ret (Q := fun r s => ∃ r' σ', Ret Tryz.prog σ s r σ' r' ∧ SlPost σ t_Need ((c.Needs i).map Nd.enc) r' σ') (fun r s h => h)
  refine (mover_route_ok h i).mono ?_
  rintro r s ⟨rfl, d1, d2, d3, rfl, q1, q2, q3⟩
  rw [Cf.Needs]
  generalize c.rt i = x at *
  refine ⟨_, _, _, _, _, _, _, rfl, (q1 s).lenK ⟨fun d n s' => ∃ out : List Nd, Own Tryz.prog s s' t_Need d (out.map Nd.enc) ∧ (out.length : Int) ≤ n ∧ Rng x.Path (fun r => out ++ r.filterMap (needOf c) = x.Path.filterMap (needOf c)) n,
    fun _ n _ => x.Path.length - n.toNat, ⟨[], .nil _ (.refl _), by simp, .start rfl⟩, ?_⟩⟩
  rintro d n s' ⟨out, ho, hol, hr⟩
  rw [List.length_map]
  refine bcd (fun hlt => ?_) (fun hge => ?_)
  · obtain ⟨j, y, rfl, hy, hj, hF, nx⟩ := hr.step rfl (by omega) hlt
    rw [List.filterMap_cons] at hF
    have skip : needOf c y = none → ∀ s2, Ext s' s2 → (∃ out : List Nd, Own Tryz.prog s s2 t_Need d (out.map Nd.enc) ∧ (out.length : Int) ≤ w64 ((j : Int) + 1) ∧ Rng x.Path (fun r => out ++ r.filterMap (needOf c) = x.Path.filterMap (needOf c)) (w64 ((j : Int) + 1))) ∧
        x.Path.length - (w64 ((j : Int) + 1)).toNat < x.Path.length - (j : Int).toNat := fun hn s2 he => by
      rw [hn] at hF
      have := nx (fun r => out ++ r.filterMap (needOf c) = x.Path.filterMap (needOf c)) hF
      exact ⟨⟨out, ho.ext' he, by rw [w64_succ (by omega)]; omega, this.1⟩, this.2⟩
    refine (q1 s').load (map_get hy) c_Step rfl ⟨y.Sec, y.In, y.Out, rfl, bcd (fun e => ⟨rfl, skip (by unfold needOf; rw [geti_neg e]) _ (.refl _)⟩) (fun e0 => (h s').secs.lenK ?_)⟩
    rw [List.length_map]
    refine bcd (fun e => ⟨rfl, skip (by unfold needOf; rw [geti_ge e]) _ (.refl _)⟩) (fun e1 => ?_)
    obtain ⟨z, hz⟩ := geti_ex e0 e1
    have hneed : needOf c y = match wpos (wayL z.Kind) y.In y.Out with | none => none | some p => if p = 0 then none else some ⟨y.Sec, p⟩ := by unfold needOf; rw [hz] <;> rfl
    refine (h s').secs.load (map_get (geti_some hz).2.2) c_Section (by omega) ⟨z.Kind, rfl, (topo_Pos_ok _ _ _).use (opt1_ex _ ?_)⟩
    cases hp : wpos (wayL z.Kind) y.In y.Out with
    | none => rw [hp] at hneed; exact bc (fun e => by cases e) (fun _ => ⟨rfl, skip hneed _ (.refl _)⟩)
    | some p =>
      rw [hp] at hneed
      refine bc (fun _ => bcn (fun e => ?_) (fun e => ⟨rfl, skip (by rw [hneed]; exact if_pos e) _ (.refl _)⟩)) (fun e => by cases e)
      have hsome : needOf c y = some ⟨y.Sec, p⟩ := by rw [hneed]; exact if_neg e
      rw [hsome] at hF
      refine newObj_intro fun id s2 hid _ he hs2 => (ho.ext' he).append (At.fresh hs2 (by simp) rfl) (by simp; omega) (by simp; omega) fun d4 s5 ho5 _ _ => ⟨rfl, ?_⟩
      have := nx (fun r => (out ++ [⟨y.Sec, p⟩]) ++ r.filterMap (needOf c) = x.Path.filterMap (needOf c)) (by rw [List.append_assoc]; exact hF)
      exact ⟨⟨out ++ [⟨y.Sec, p⟩], by rw [List.map_append]; exact ho5, by rw [w64_succ (by omega), List.length_append, List.length_singleton]; omega, this.1⟩, this.2⟩
  · have hF := hr.done rfl hge
    have hn : n ≤ x.Path.length := by obtain ⟨j, rfl, hj, _⟩ := hr; omega
    rw [List.filterMap_nil, List.append_nil] at hF
    subst hF
    refine ho.append (q2 s') (by simp only [List.length_map]; omega) (by simp only [List.length_map]; omega) fun d4 s5 ho5 _ _ => ?_
    rw [← List.map_append] at ho5
    exact own_fin ho5 (flatNd _)
theorem mover_Crossings_ok (i : Int) (h1 : c.Xs.length ≤ 2 ^ 20) :
    DCalls Tryz.prog n_mover_Crossings [cfA c0 c1 c2 c3 c4 c, iA i] σ (SlPost σ t_int ((c.Cross i).map Go.Fw.encI)) := by
  refine (W_mover_Crossings _ _ _ _ _ _ _ _ _ i σ _ ?_).ret (Q := fun r s => ∃ r' σ', Ret Tryz.prog σ s r σ' r' ∧ SlPost σ t_int ((c.Cross i).map Go.Fw.encI) r' σ') (fun r s h => h)
  refine (mover_route_ok h i).mono ?_
  rintro r s ⟨rfl, d1, d2, d3, rfl, q1, q2, q3⟩
  rw [Cf.Cross]
  generalize c.rt i = x at *
  refine ⟨_, _, _, _, _, _, _, rfl, (h s).xs.lenK ⟨fun d n s' => ∃ out : List Int, Own Tryz.prog s s' t_int d (out.map Go.Fw.encI) ∧ (out.length : Int) ≤ n ∧ Rng c.Xs (fun r => out ++ crossL x.Path r n.toNat = crossL x.Path c.Xs 0) n,
    fun _ n _ => c.Xs.length - n.toNat, ⟨[], .nil _ (.refl _), by simp, .start rfl⟩, ?_⟩⟩
  rintro d n s' ⟨out, ho, hol, hr⟩
  rw [List.length_map]
  refine bcd (fun hlt => ?_) (fun hge => ?_)
  · obtain ⟨j, y, rfl, hy, hj, hF, nx⟩ := hr.step rfl (by omega) hlt
    have hw : w64 ((j : Int) + 1) = ((j + 1 : Nat) : Int) := w64_succ (by omega)
    have go : ∀ out2 d2 s2, out2 ++ crossL x.Path (c.Xs.drop (j + 1)) (j + 1) = crossL x.Path c.Xs 0 → Own Tryz.prog s s2 t_int d2 (out2.map Go.Fw.encI) → out2.length ≤ j + 1 → (∃ out : List Int, Own Tryz.prog s s2 t_int d2 (out.map Go.Fw.encI) ∧ (out.length : Int) ≤ w64 ((j : Int) + 1) ∧ Rng c.Xs (fun r => out ++ crossL x.Path r (w64 ((j : Int) + 1)).toNat = crossL x.Path c.Xs 0) (w64 ((j : Int) + 1))) ∧
        c.Xs.length - (w64 ((j : Int) + 1)).toNat < c.Xs.length - (j : Int).toNat := fun out2 d2 s2 he ho2 hl => by
      have := nx (fun r => out2 ++ crossL x.Path r (w64 ((j : Int) + 1)).toNat = crossL x.Path c.Xs 0) (by rw [hw, Int.toNat_natCast]; exact he)
      exact ⟨⟨out2, ho2, by rw [hw]; omega, this.1⟩, this.2⟩
    rw [Int.toNat_natCast, crossL] at hF
    refine (h s').xs.load (map_get hy) c_int rfl ⟨y, rfl, newObj_intro fun id s2 hid _ he hs2 => box_store hs2 fun s3 hs3 hs3' => ?_⟩
    have he3 : Ext s' s3 := fun i hi => by
      rw [hs3' i (fun e => hi (by rw [e]; exact hid))]; exact he i hi
    have ho3 := ho.ext' he3
    refine (ContainsFunc_Step_ok (p := fun x => x.Sec == y) (q1 s3) (cap_fn hs3 fun x _ => W_mover_Crossings_1 x.Sec x.In x.Out _ s3 _ ⟨_, _, _, rfl, _, box_row hs3, y, rfl, rfl, rfl⟩)).use ⟨_, rfl, ?_⟩
    refine bc (fun e => ?_) (fun e => ⟨rfl, go out _ _ (by rw [if_neg (fun g => by have : hasSec x.Path y = false := e; rw [this] at g; cases g)] at hF; exact hF) ho3 (by omega)⟩)
    rw [if_pos (show hasSec x.Path y = true from e)] at hF
    refine newObj_intro fun id1 s4 hid1 _ he4 hs4 => (ho3.ext' he4).append (At.fresh hs4 (by simp) rfl) (by simp; omega) (by simp; omega) fun d4 s5 ho5 _ _ => ⟨rfl, go (out ++ [(j : Int)]) _ _ (by rw [List.append_assoc]; exact hF) (by rw [List.map_append]; exact ho5) (by simp; omega)⟩
  · have hF := hr.done rfl hge
    rw [crossL, List.append_nil] at hF
    subst hF
    exact own_fin ho (flatI _)
end
end Go.Proofs.YtjggnhjidheliaaGreat
end
section
set_option linter.unusedVariables false
set_option linter.unusedSimpArgs false
namespace Go.Fw
structure Br where
  Kind : Int
  Route : Int
  Sec : Int
  deriving DecidableEq
def Br.enc (b : Br) : List D := [iD b.Kind, iD b.Route, iD b.Sec]
end Go.Fw
end
section
set_option linter.unusedVariables false
set_option linter.unusedSimpArgs false
namespace Go.Proofs.YtjggnhjidheliaaGreat
open Go.Fw Go.Proofs Go.RowKit
variable {σ : Store}
theorem Contains_int_ok {d : D} {l : List Int} (v : Int) (h : At Tryz.prog σ t_int d (l.map Go.Fw.encI)) : Pure Tryz.prog n_slices_Contains_int [.one d, iA v] σ (.a (bA (inL l v))) := by
  refine W_slices_Contains_int d v σ _ ((slices_Index_int_ok v h).use ⟨_, rfl, ?_, rfl⟩)
  have key : ∀ (l : List Int) (j : Nat), decide (idxOf l v j ≥ 0) = inL l v := by
    intro l
    induction l with
    | nil => intro j; simp [idxOf, inL]
    | cons x r ih =>
      intro j
      rw [idxOf]
      by_cases hx : v = x
      · rw [if_pos hx]; simp [inL, hx]
      · rw [if_neg hx, ih, inL, inL]; simp [hx]
  rw [key]
section
variable {c0 c1 c2 c3 c4 : D} {c : Cf} {k0 k1 k2 k3 k4 k5 : D} {k : Co} {σ0 : Store} {b : Bool} {id : Nat} {d : D} {out : List Br}
variable (hc : ∀ s, CfAt s c0 c1 c2 c3 c4 c) (hk : CoAt σ0 k0 k1 k2 k3 k4 k5 k) (hfit : k.fits c = true)
include hc hk hfit
end
end Go.Proofs.YtjggnhjidheliaaGreat
end
section
set_option linter.unusedVariables false
set_option linter.unusedSimpArgs false
namespace Go.Fw
open Go.Shelf Go.Sort Go.Proofs
variable {P : Program} {ρ : Ren} {σ : Store}
def intRow (z : Int) : List D := [.int .i64 z]
/-- The list, the smallest first. -/
def sorted (l : List Int) : List Int := l.mergeSort fun x y => decide (x ≤ y)
/-- A slice's integers are written anew by a call that makes new blocks beside. -/
theorem ints_over {k : Nat → Prop} {β : Bk} {W : World} (hS : SRel P k β W σ) {id i0 : Nat} {t : TypeId} {rows : List (List D)} {ys : List Int} {bi : BI} (ht : P.cellsOf t = 1) (hl : σ id = .live t rows) (hb : β id = some bi)
    (hfit : i0 + ys.length ≤ rows.length) (n : Nat) (os : Array Obj) :
    SRel P k β (grow (putRow (Value.int .i64) (Sort.ahead W n) bi.blk (i0 * bi.es) ys.toArray) os) (σ.set id (.live t (rows.take i0 ++ ys.map intRow ++ rows.drop (i0 + ys.length)))) ∧
    Ghost k β σ W k β (σ.set id (.live t (rows.take i0 ++ ys.map intRow ++ rows.drop (i0 + ys.length)))) ∧
    Frm β σ W (grow (putRow (Value.int .i64) (Sort.ahead W n) bi.blk (i0 * bi.es) ys.toArray) os) := by
  obtain ⟨arr, g1, g2, g3, g4, g5, g6, g7⟩ := hS.obj id bi t rows hb hl
  have hes : bi.es = 1 := by rw [← g3, ht]
  have hsz2 : i0 + ys.length ≤ arr.size := by rw [hes] at g4; omega
  have hov := hS.over hb hl g1 (ns := ys.map intRow) (vx := ys.map (Value.int .i64)) i0 (by omega) (by omega) (by simp [hes])
    (by
      have e : ∀ l : List Int, ((l.map intRow).flatten) = l.map (D.int .i64) := by
        intro l; induction l with
        | nil => rfl
        | cons x r ih => simp only [List.map_cons, List.flatten_cons, ih]; rfl
      rw [e]
      refine ⟨by simp, fun i v d hv hd => ?_⟩
      rw [List.getElem?_map] at hv hd
      cases hx : ys[i]? with
      | none => rw [hx] at hv; cases hv
      | some x => rw [hx] at hv hd; cases hv; cases hd; exact .int _ _)
    (by
      intro i r hr
      rw [List.getElem?_map] at hr
      cases hx : ys[i]? with
      | none => rw [hx] at hr; cases hr
      | some x => rw [hx] at hr; cases hr; rw [hes]; rfl)
    (by simp only [hes, List.length_map]; omega)
  have hrl : (ys.map intRow).length = ys.length := by rw [List.length_map]
  rw [hrl] at hov
  have hG : Grow (W.setRow bi.blk (arr.toList.take (i0 * bi.es) ++ ys.map (Value.int .i64) ++ arr.toList.drop (i0 * bi.es + (ys.map (Value.int .i64)).length)).toArray)
      (grow (putRow (Value.int .i64) (Sort.ahead W n) bi.blk (i0 * bi.es) ys.toArray) os) := by
    refine ⟨rfl, rfl, rfl, by rw [setRow_size]; simp, fun b hb => ?_⟩
    rw [setRow_size] at hb
    rw [heap_grow_old _ _ (by simpa using hb)]
    by_cases he : b = bi.blk
    · subst he
      rw [setRow_heap _ _ _ _ _ _ g1]
      simp only [putRow, mapBlock, heap_ahead, Array.getElem?_modify, if_true, g1, Option.map_some, onCells]
      congr 2
      apply Array.ext_getElem?
      intro m
      simp only [putCells, Array.getElem?_mapIdx, List.getElem?_toArray, hes, Nat.mul_one, List.length_map, List.size_toArray]
      by_cases c1 : m < i0
      · rw [List.getElem?_append_left (by simp; omega), List.getElem?_append_left (by simp; omega), List.getElem?_take, if_pos c1, Array.getElem?_toList, Array.getElem?_eq_getElem (by omega), Option.map_some, if_neg (by omega)]
      · by_cases c2 : m < i0 + ys.length
        · rw [List.getElem?_append_left (by simp; omega), List.getElem?_append_right (by simp; omega), Array.getElem?_eq_getElem (by omega), Option.map_some, if_pos ⟨by omega, by omega⟩]
          have hl1 : (arr.toList.take i0).length = i0 := by simp; omega
          have hk : m - i0 < ys.length := by omega
          rw [hl1, List.getElem?_map, List.getElem?_eq_getElem hk]
          simp [hk]
        · rw [List.getElem?_append_right (by simp; omega), List.getElem?_drop, Array.getElem?_toList]
          have hl1 : i0 + ys.length + (m - (arr.toList.take i0 ++ ys.map (Value.int .i64)).length) = m := by simp; omega
          rw [hl1]
          cases arr[m]? with
          | none => rfl
          | some y => rw [Option.map_some, if_neg (by omega)]
    · rw [setRow_get _ _ _ _ he]
      simp only [putRow, mapBlock, heap_ahead, Array.getElem?_modify]
      rw [if_neg (fun e => he e.symm)]
  have hne : σ id ≠ .dead := by rw [hl]; intro e; cases e
  refine ⟨hov.grow hG, ⟨fun _ h => h, fun _ h => .inl h, fun _ _ h => h, fun _ _ h => .inl h, fun i hi => ?_⟩, ?_⟩
  · rw [Store.set_ne _ _ (by intro e; subst e; exact hne hi)]; exact hi
  · refine ⟨hG.os, hG.tape, hG.output, by have := hG.size; rwa [setRow_size] at this, fun b hb' hn => ?_⟩
    rw [hG.block b (by rw [setRow_size]; exact hb'), setRow_get _ _ _ _ (fun e => hn id bi hb hne e.symm)]
/-- The cells of a slice of integers, as the shelf says it. -/
theorem ints_hold {k : Nat → Prop} {β : Bk} {W : World} (hS : SRel P k β W σ) {id i0 : Nat} {t : TypeId} {rows : List (List D)} {zs : List Int} {bi : BI} (ht : P.cellsOf t = 1) (hl : σ id = .live t rows) (hb : β id = some bi)
    (hrows : (rows.drop i0).take zs.length = zs.map intRow) : Holds (Value.int .i64) W bi.blk (i0 * bi.es) zs.toArray := by
  obtain ⟨arr, g1, g2, g3, g4, g5, g6, g7⟩ := hS.obj id bi t rows hb hl
  have hes : bi.es = 1 := by rw [← g3, ht]
  have hget : ∀ j, j < zs.length → arr[i0 + j]? = some (Value.int .i64 (zs.getD j 0)) := by
    intro j hj
    have h1 : ((rows.drop i0).take zs.length)[j]? = some (intRow (zs.getD j 0)) := by rw [hrows]; simp [hj]
    rw [List.getElem?_take_of_lt hj, List.getElem?_drop] at h1
    obtain ⟨u, hu, hVu⟩ := g7 _ _ 0 (.int .i64 (zs.getD j 0)) h1 rfl
    rw [hes, Nat.mul_one, Nat.add_zero] at hu
    rw [hu]; cases hVu; rfl
  intro j hj
  have hj : j < zs.length := by simpa using hj
  refine ⟨?_, by simp [World.frozen?, g1]⟩
  have := hget j hj
  simp only [World.cell?, g1, hes, Nat.mul_one, Option.isSome_none, Bool.false_eq_true, if_false]
  rw [this]
  simp [hj]
theorem one_arg {k : Nat → Prop} {β : Bk} {W : World} {x : A} {vs : Array Value} (hvs : vs.size = [x].length) (hargs : ∀ (i : Nat) v y, vs[i]? = some v → [x][i]? = some y → VA k β W v y) : ∃ v, vs = #[v] ∧ VA k β W v x := by
  have hvs : vs.size = 1 := hvs
  obtain ⟨l⟩ := vs
  match l, hvs with
  | [v], _ => exact ⟨v, rfl, hargs 0 v x rfl rfl⟩
theorem sort_DCalls (Ly : Lays.n189 P ρ) {id i0 : Nat} {t : TypeId} {rows : List (List D)} {zs : List Int} (ht : P.cellsOf t = 1) (hl : σ id = .live t rows)
    (hfit : i0 + zs.length ≤ rows.length) (hrows : (rows.drop i0).take zs.length = zs.map intRow) (h0 : 0 < zs.length) (hsz : zs.length < 4611686018427387904) :
    DCalls P (ρ.f 189) [.one (.osl id i0 zs.length)] σ fun r σ' => r = .tup [] ∧ σ' = σ.set id (.live t (rows.take i0 ++ (sorted zs).map intRow ++ rows.drop (i0 + zs.length))) := by
  refine ⟨by unfold callOk; rw [Ly.f189]; rfl, fun k β W vs hS hvs hargs => ?_⟩
  obtain ⟨v, rfl, hV⟩ := one_arg hvs hargs
  have hV : V k β W v (.osl id i0 zs.length) := hV
  cases hV with
  | osl _ _ _ cap a bi hb ha hc hs =>
    have ha := ha (by omega)
    subst ha
    refine (calls_of_every_depth fun D => Go.Proofs.AnyS.slices_Sort_int_in Ly D bi.blk (i0 * bi.es) cap zs W (ints_hold hS ht hl hb hrows) (hS.blt id bi hb) hsz).mono ?_
    rintro e W' ⟨rfl, n, os, rfl⟩
    have hlen : (sorted zs).length = zs.length := by simp [sorted]
    obtain ⟨h1, h2, h3⟩ := ints_over hS (i0 := i0) (ys := sorted zs) ht hl hb (by omega) n os
    rw [hlen] at h1 h2
    exact ⟨.tuple #[], .tup [], _, k, β, rfl, ⟨rfl, rfl⟩, ⟨#[], rfl, rfl, fun i u x hu => by simp at hu⟩, h1, h2, h3⟩
theorem compact_DCalls (Ly : Lays2.n20 P ρ) {id i0 : Nat} {t : TypeId} {rows : List (List D)} {zs : List Int} (ht : P.cellsOf t = 1) (hl : σ id = .live t rows)
    (hfit : i0 + zs.length ≤ rows.length) (hrows : (rows.drop i0).take zs.length = zs.map intRow) (h0 : 0 < zs.length) (hsz : zs.length < 4611686018427387904) :
    DCalls P (ρ.f 20) [.one (.osl id i0 zs.length)] σ fun r σ' => r = .a (.one (.osl id i0 (Lib.compact zs).length)) ∧
      σ' = σ.set id (.live t (rows.take i0 ++ (Lib.compact zs ++ List.replicate (zs.length - (Lib.compact zs).length) 0).map intRow ++ rows.drop (i0 + zs.length))) := by
  refine ⟨by unfold callOk; rw [Ly.f20]; rfl, fun k β W vs hS hvs hargs => ?_⟩
  obtain ⟨v, rfl, hV⟩ := one_arg hvs hargs
  have hV : V k β W v (.osl id i0 zs.length) := hV
  cases hV with
  | osl _ _ _ cap a bi hb ha hc hs =>
    have ha := ha (by omega)
    subst ha
    refine (Go.Proofs.Any.slices_Compact_int Ly bi.blk (i0 * bi.es) cap zs W (ints_hold hS ht hl hb hrows) (by omega) hc).mono ?_
    rintro e W' ⟨rfl, n, rfl⟩
    have hle : (Lib.compact zs).length ≤ zs.length := by
      unfold Lib.compact Lib.compactUpTo
      rw [List.length_map]
      exact Nat.le_trans (List.length_filter_le _ _) (by simp)
    have hlen : (Lib.compact zs ++ List.replicate (zs.length - (Lib.compact zs).length) 0).length = zs.length := by simp; omega
    obtain ⟨h1, h2, h3⟩ := ints_over hS (i0 := i0) (ys := Lib.compact zs ++ List.replicate (zs.length - (Lib.compact zs).length) 0) ht hl hb (by omega) n #[]
    rw [hlen] at h1 h2
    rw [grow_empty] at h1 h3
    exact ⟨_, .a (.one (.osl id i0 (Lib.compact zs).length)), _, k, β, rfl, ⟨rfl, rfl⟩, .osl id i0 _ cap _ bi hb (fun _ => rfl) (by omega) hs, h1, h2, h3⟩
/-- The sorted list is the list in another order, the smallest first. -/
theorem sorted_perm (l : List Int) : (sorted l).Perm l := List.mergeSort_perm _ _
theorem sorted_pair (l : List Int) : (sorted l).Pairwise (· ≤ ·) := by
  have := List.pairwise_mergeSort (le := fun x y : Int => decide (x ≤ y)) (by intro a b c; simp; omega) (by intro a b; simp; omega) l
  exact this.imp fun h => by simpa using h
/-- Compact of a sorted list. -/
theorem compact_mem {zs : List Int} {z : Int} : z ∈ Lib.compact zs ↔ z ∈ zs := by
  unfold Lib.compact Lib.compactUpTo
  rw [List.mem_map]
  constructor
  · rintro ⟨j, hj, rfl⟩
    have hj := List.mem_range.1 (List.mem_filter.1 hj).1
    simp [hj]
  · intro hz
    obtain ⟨j, hj, e⟩ := List.getElem_of_mem hz
    have key : ∀ j, (hj : j < zs.length) → zs[j] = z → ∃ a, a ∈ List.filter (Lib.keeps zs.toArray) (List.range zs.length) ∧ zs.toArray[a]! = z := by
      intro j
      induction j with
      | zero => exact fun hj e => ⟨0, List.mem_filter.2 ⟨List.mem_range.2 hj, by simp [Lib.keeps]⟩, by simp [hj, e]⟩
      | succ j ih =>
        intro hj e
        by_cases h : zs[j]'(by omega) = z
        · exact ih (by omega) h
        · refine ⟨j + 1, List.mem_filter.2 ⟨List.mem_range.2 hj, Lib.keeps_pos ?_⟩, by simp [hj, e]⟩
          simp only [Nat.add_sub_cancel]
          have : j < zs.length := by omega
          simp only [List.getElem!_toArray, hj, this, getElem!_pos, e]
          exact fun h' => h h'.symm
    exact key j hj e
theorem compact_strict {zs : List Int} (h : zs.Pairwise (· ≤ ·)) : (Lib.compact zs).Pairwise (· < ·) := by
  unfold Lib.compact Lib.compactUpTo
  rw [List.pairwise_map]
  have hr : (List.filter (Lib.keeps zs.toArray) (List.range zs.length)).Pairwise (· < ·) := List.Pairwise.filter _ List.pairwise_lt_range
  refine hr.imp_of_mem ?_
  intro i j hi hj hij
  obtain ⟨h1, _⟩ := List.mem_filter.1 hi
  obtain ⟨h2, h3⟩ := List.mem_filter.1 hj
  have h1 := List.mem_range.1 h1
  have h2 := List.mem_range.1 h2
  have hm : j - 1 < zs.length := by omega
  have hne : zs[j]'h2 ≠ zs[j - 1]'hm := by
    intro e
    have : Lib.keeps zs.toArray j = false := Lib.keeps_neg (by omega) (by simp only [List.getElem!_toArray, h2, hm, getElem!_pos, e])
    rw [h3] at this; cases this
  have hle1 : zs[j - 1]'hm ≤ zs[j]'h2 := List.pairwise_iff_getElem.1 h _ _ _ _ (by omega)
  have hle2 : zs[i]'h1 ≤ zs[j - 1]'hm := by
    by_cases e : i = j - 1
    · subst e; exact Int.le_refl _
    · exact List.pairwise_iff_getElem.1 h _ _ _ _ (by omega)
  simp only [List.getElem!_toArray, h1, h2, getElem!_pos]
  omega
end Go.Fw
end
section
set_option linter.unusedVariables false
set_option linter.unusedSimpArgs false
namespace Go.Fw
/-- One of each run of equal numbers. -/
def cpt : List Int → List Int
  | [] => []
  | x :: r => match cpt r with
    | [] => [x]
    | y :: q => if x = y then y :: q else x :: y :: q
theorem mem_cpt : ∀ (l : List Int) (z : Int), z ∈ cpt l ↔ z ∈ l
  | [], z => by simp [cpt]
  | x :: r, z => by
    have ih := mem_cpt r z
    rw [cpt]
    split
    · rename_i h; rw [h] at ih; simp at ih; simp [ih]
    · rename_i y q h
      rw [h] at ih
      split
      · rename_i e; rw [ih, List.mem_cons]; exact ⟨.inr, fun hz => hz.elim (fun e' => by rw [← ih, e', e]; simp) id⟩
      · rw [List.mem_cons, ih, List.mem_cons]
theorem cpt_pair : ∀ {l : List Int}, l.Pairwise (· ≤ ·) → (cpt l).Pairwise (· < ·)
  | [], _ => by simp [cpt]
  | x :: r, h => by
    rw [List.pairwise_cons] at h
    have ih := cpt_pair h.2
    rw [cpt]
    split
    · simp
    · rename_i y q hq
      rw [hq] at ih
      split
      · exact ih
      · rename_i hne
        rw [List.pairwise_cons]
        refine ⟨fun z hz => ?_, ih⟩
        have h1 : y ∈ r := (mem_cpt r y).1 (by rw [hq]; simp)
        have h2 := h.1 y h1
        rcases List.mem_cons.1 hz with rfl | hz
        · omega
        · have := (List.pairwise_cons.1 ih).1 z hz; omega
theorem strict_ext : ∀ {a b : List Int}, a.Pairwise (· < ·) → b.Pairwise (· < ·) → (∀ z, z ∈ a ↔ z ∈ b) → a = b
  | [], [], _, _, _ => rfl
  | [], y :: b, _, _, h => absurd ((h y).2 (by simp)) (by simp)
  | x :: a, [], _, _, h => absurd ((h x).1 (by simp)) (by simp)
  | x :: a, y :: b, ha, hb, h => by
    rw [List.pairwise_cons] at ha hb
    have e : x = y := by
      have h1 := (h x).1 (by simp)
      have h2 := (h y).2 (by simp)
      rcases List.mem_cons.1 h1 with h1 | h1
      · exact h1
      · rcases List.mem_cons.1 h2 with h2 | h2
        · exact h2.symm
        · have := hb.1 x h1; have := ha.1 y h2; omega
    subst e
    congr 1
    refine strict_ext ha.2 hb.2 fun z => ⟨fun hz => ?_, fun hz => ?_⟩
    · rcases List.mem_cons.1 ((h z).1 (by simp [hz])) with e | hz'
      · subst e; have := ha.1 z hz; omega
      · exact hz'
    · rcases List.mem_cons.1 ((h z).2 (by simp [hz])) with e | hz'
      · subst e; have := hb.1 z hz; omega
      · exact hz'
theorem compact_cpt {l : List Int} (h : l.Pairwise (· ≤ ·)) : Lib.compact l = cpt l := strict_ext (compact_strict h) (cpt_pair h) fun z => by rw [compact_mem, mem_cpt]
/-- The sections that a route locks. -/
def Cf.lockR (r : Rt) : List Int := cpt (sorted (r.Overlap ++ r.Path.map St.Sec ++ r.Flank.map Nd.Sec))
def Cf.lockL (c : Cf) (i : Int) : List Int := match geti c.Rts i with
  | some r => Cf.lockR r
  | none => []
theorem mem_lockR {r : Rt} {z : Int} : z ∈ Cf.lockR r ↔ z ∈ r.Overlap ∨ z ∈ r.Path.map St.Sec ∨ z ∈ r.Flank.map Nd.Sec := by
  rw [Cf.lockR, mem_cpt, (sorted_perm _).mem_iff]; simp [or_assoc]
theorem lockR_pair (r : Rt) : (Cf.lockR r).Pairwise (· < ·) := cpt_pair (sorted_pair _)
theorem lockR_sec {c : Cf} {r : Rt} (h : RtOk c r) {z : Int} (hz : z ∈ Cf.lockR r) : ∃ y, geti c.Secs z = some y := by
  rcases mem_lockR.1 hz with hz | hz | hz
  · obtain ⟨y, hy, _⟩ := (h.ov hz).1; exact ⟨y, hy⟩
  · obtain ⟨s, hs, rfl⟩ := List.mem_map.1 hz
    obtain ⟨y, hy, _⟩ := (h.step s hs).1.sec; exact ⟨y, hy⟩
  · obtain ⟨n, hn, rfl⟩ := List.mem_map.1 hz
    obtain ⟨y, hy, _⟩ := (h.fl.1 n hn).sec; exact ⟨y, hy⟩
/-- An insertion: the place, from the end. -/
def insAt (out : List Int) (s : Int) : Nat → Nat
  | 0 => 0
  | n + 1 => match out[n]? with
    | some x => if s < x then insAt out s n else n + 1
    | none => n + 1
def insS (out : List Int) (s : Int) : List Int :=
  if s ∈ out then out else out.take (insAt out s out.length) ++ [s] ++ out.drop (insAt out s out.length)
theorem insAt_gt (out : List Int) (s : Int) : ∀ n, n ≤ out.length → ∀ i x, insAt out s n ≤ i → i < n → out[i]? = some x → s < x
  | 0, _, i, x, _, h, _ => by omega
  | n + 1, hn, i, x, h1, h2, h3 => by
    rw [insAt] at h1
    split at h1
    · rename_i y hy
      split at h1
      · rename_i hlt
        by_cases e : i = n
        · subst e; rw [hy] at h3; cases h3; exact hlt
        · exact insAt_gt out s n (by omega) i x h1 (by omega) h3
      · omega
    · omega
theorem insAt_le_of {out : List Int} {s : Int} (hp : out.Pairwise (· < ·)) : ∀ n, n ≤ out.length → ∀ i x, i < insAt out s n → out[i]? = some x → x ≤ s
  | 0, _, i, x, h, _ => by rw [insAt] at h; omega
  | n + 1, hn, i, x, h1, h3 => by
    rw [insAt] at h1
    split at h1
    · rename_i y hy
      split at h1
      · exact insAt_le_of hp n (by omega) i x h1 h3
      · rename_i hge
        by_cases e : i = n
        · subst e; rw [hy] at h3; cases h3; omega
        · have hlt : i < n := by omega
          obtain ⟨h4, h5⟩ := List.getElem?_eq_some_iff.1 h3
          obtain ⟨h6, h7⟩ := List.getElem?_eq_some_iff.1 hy
          have := List.pairwise_iff_getElem.1 hp i n h4 h6 hlt
          rw [h5, h7] at this; omega
    · rename_i hnone; rw [List.getElem?_eq_none_iff] at hnone; omega
theorem insS_pair {out : List Int} {s : Int} (hp : out.Pairwise (· < ·)) : (insS out s).Pairwise (· < ·) := by
  unfold insS
  split
  · exact hp
  · rename_i hs
    have hsplit := List.take_append_drop (insAt out s out.length) out
    have h1 : ∀ x ∈ out.take (insAt out s out.length), x < s := by
      intro x hx
      obtain ⟨i, hi, e⟩ := List.getElem_of_mem hx
      have h2 : out[i]? = some x := by rw [List.getElem_take] at e; rw [← e]; exact List.getElem?_eq_getElem _
      have h3 := insAt_le_of (s := s) hp out.length (Nat.le_refl _) i x (by rw [List.length_take] at hi; omega) h2
      have : x ≠ s := fun e => hs (e ▸ List.mem_of_getElem? h2)
      omega
    have h2 : ∀ x ∈ out.drop (insAt out s out.length), s < x := by
      intro x hx
      obtain ⟨i, hi, e⟩ := List.getElem_of_mem hx
      have h2 : out[insAt out s out.length + i]? = some x := by rw [List.getElem_drop] at e; rw [← e]; exact List.getElem?_eq_getElem _
      exact insAt_gt out s out.length (Nat.le_refl _) _ x (by omega) (by rw [List.length_drop] at hi; omega) h2
    rw [← hsplit, List.pairwise_append] at hp
    rw [List.append_assoc, List.pairwise_append]
    refine ⟨hp.1, ?_, fun a ha b hb => ?_⟩
    · rw [List.singleton_append, List.pairwise_cons]; exact ⟨h2, hp.2.1⟩
    · rcases List.mem_cons.1 hb with rfl | hb
      · exact h1 a ha
      · exact hp.2.2 a ha b hb
theorem mem_insS {out : List Int} {s z : Int} : z ∈ insS out s ↔ z ∈ out ∨ z = s := by
  unfold insS
  split
  · rename_i hs; exact ⟨.inl, fun h => h.elim id fun e => e ▸ hs⟩
  · have : z ∈ out ↔ z ∈ out.take (insAt out s out.length) ∨ z ∈ out.drop (insAt out s out.length) := by
      rw [← List.mem_append, List.take_append_drop]
    rw [this, List.append_assoc, List.mem_append, List.mem_append, List.mem_singleton]
    constructor
    · rintro (h | h | h) <;> simp [h]
    · rintro ((h | h) | h) <;> simp [h]
theorem insL_facts : ∀ (l out : List Int), out.Pairwise (· < ·) → (l.foldl insS out).Pairwise (· < ·) ∧ ∀ z, z ∈ l.foldl insS out ↔ z ∈ out ∨ z ∈ l
  | [], out, h => ⟨h, fun z => by simp⟩
  | s :: r, out, h => by
    obtain ⟨q1, q2⟩ := insL_facts r (insS out s) (insS_pair h)
    refine ⟨q1, fun z => ?_⟩
    rw [List.foldl_cons, q2, mem_insS, List.mem_cons, or_assoc]
theorem insL_lockR (r : Rt) : (r.Path.map St.Sec ++ r.Flank.map Nd.Sec ++ r.Overlap).foldl insS [] = Cf.lockR r := by
  obtain ⟨q1, q2⟩ := insL_facts (r.Path.map St.Sec ++ r.Flank.map Nd.Sec ++ r.Overlap) [] (by simp)
  refine strict_ext q1 (lockR_pair r) fun z => ?_
  rw [q2, mem_lockR]
  simp only [List.mem_append, List.not_mem_nil, false_or]
  constructor
  · rintro ((h | h) | h) <;> simp [h]
  · rintro (h | h | h) <;> simp [h]
theorem cpt_len : ∀ l : List Int, (cpt l).length ≤ l.length
  | [] => Nat.le_refl _
  | x :: r => by
    have ih := cpt_len r
    rw [cpt]
    split
    · simp
    · rename_i y q h
      rw [h] at ih
      split
      · simp at ih ⊢; omega
      · simp at ih ⊢; omega
/-- A mover's command. -/
def cmdM (m : Mv) (now cmd : Int) : Mv := if m.Cmd ≠ cmd then ⟨cmd, now⟩ else m
/-- May the route inherit the section? -/
def Co.inh (c : Cf) (k : Co) (r s : Int) : Bool :=
  let o := (geti k.Own s).getD 0 - 1
  decide (0 ≤ o ∧ o ≠ r) && (decide ((c.rt o).Exit = (c.rt r).Entry) && inL (c.rt o).Overlap s)
def Co.blocked (c : Cf) (k : Co) (r : Int) (l : List Int) : Bool := l.any fun s => decide ((geti k.Own s).getD 0 ≠ 0) && !k.inh c r s
/-- May these sections be locked for the route? -/
def Co.may (c : Cf) (k : Co) (r : Int) (l : List Int) : Int :=
  if apprS c l k.Routes 0 = true then 23 else if k.blocked c r l = true then 22 else 0
/-- The line that the route goes out on; 0: none. -/
def lineF (c : Cf) : List St → Int
  | [] => 0
  | s :: r => let n := ((geti c.Secs s.Sec).getD ⟨0, 0, 0⟩).Line; if n > 0 then n else lineF c r
def ptsC (now : Int) (l : List Nd) (w : List Mv) : List Mv := l.foldl (fun w n => w.set n.Sec.toNat (cmdM ((geti w n.Sec).getD ⟨0, 0⟩) now n.Pos)) w
def xsC (now : Int) (l : List Int) (w : List Mv) : List Mv := l.foldl (fun w i => w.set i.toNat (cmdM ((geti w i).getD ⟨0, 0⟩) now 1)) w
def askC (n : Int) (w : List Ls) : List Ls := if n > 0 then w.set n.toNat { (geti w n).getD zLs with Ask := ((geti w n).getD zLs).Ask + 1 } else w
/-- A route is locked. -/
def Co.lockC (c : Cf) (k : Co) (now r : Int) : Co :=
  { k with Own := (c.lockL r).foldl (fun w s => w.set s.toNat ((r + 1))) k.Own, Routes := k.Routes.set r.toNat ⟨1, 0, 0, 0⟩, Points := ptsC now (c.Needs r) k.Points, Xs := xsC now (c.Cross r) k.Xs,
           Lines := askC (lineF c (c.rt r).Path) k.Lines, Dirty := true }
def Co.reqE (c : Cf) (k : Co) (r : Int) : Int :=
  match geti k.Routes r with
  | none => 20
  | some x => if x.State ≠ 0 then 28 else if k.may c r (c.lockL r) ≠ 0 then k.may c r (c.lockL r)
    else if lineF c (c.rt r).Path > 0 ∧ ((geti k.Lines (lineF c (c.rt r).Path)).getD zLs).Ask ≥ 4294967295 then 5 else 0
/-- What every call asks first. -/
def Co.gate (c : Cf) (k : Co) (now : Int) (e : Int) : Int := if k.fits c = false then 21 else if tm 0 now = false then 32 else e
def Co.done (k : Co) (e : Int) (y : Co) : Co × Int := (if e = 0 then y else k, e)
def Co.requestC (c : Cf) (k : Co) (now r : Int) : Co × Int := k.done (k.gate c now (k.reqE c r)) (k.lockC c now r)
end Go.Fw
end
section
set_option linter.unusedVariables false
set_option linter.unusedSimpArgs false
namespace Go.Fw
theorem zip_all {α β : Type} {f : α × β → Bool} : ∀ {a : List α} {b : List β}, (a.zip b).all f = true ↔ ∀ (i : Nat) x y, a[i]? = some x → b[i]? = some y → f (x, y) = true
  | [], b => by simp
  | x :: a, [] => by simp
  | x :: a, y :: b => by
    rw [List.zip_cons_cons, List.all_cons, Bool.and_eq_true, zip_all (a := a) (b := b)]
    constructor
    · rintro ⟨h1, h2⟩ i p q hp hq
      cases i with
      | zero => cases hp; cases hq; exact h1
      | succ i => exact h2 i p q (by simpa using hp) (by simpa using hq)
    · intro h
      exact ⟨h 0 x y rfl rfl, fun i p q hp hq => h (i + 1) p q (by simpa using hp) (by simpa using hq)⟩
structure FitIs (c : Cf) (k : Co) : Prop where
  chk : c.check = 0
  lOwn : k.Own.length = c.Secs.length
  lPts : k.Points.length = c.Secs.length
  lRes : k.Resets.length = c.Secs.length
  lRts : k.Routes.length = c.Rts.length
  lXs : k.Xs.length = c.Xs.length
  lLn : k.Lines.length = 4
  own : ∀ o ∈ k.Own, -2 ≤ o ∧ o ≤ c.Rts.length
  rts : ∀ (i : Nat) x r, k.Routes[i]? = some x → c.Rts[i]? = some r → Rs.fits (x, r) = true
  pts : ∀ m ∈ k.Points, Mv.fits m = true
  xs : ∀ m ∈ k.Xs, Mv.fits m = true
  lns : ∀ l ∈ k.Lines, Ls.fits l = true
  res : ∀ z ∈ k.Resets, tm 1 z = true
theorem fits_iff {c : Cf} {k : Co} : k.fits c = true ↔ FitIs c k := by
  simp only [Co.fits, Co.lens, Co.parts, Bool.and_eq_true, decide_eq_true_eq, zip_all, List.all_eq_true, List.mem_append]
  constructor
  · rintro ⟨h1, ⟨a1, a2, a3, a4, a5, a6⟩, b1, b2, b3, b4, b5⟩
    exact ⟨h1, a1, a2, a3, a4, a5, a6, b1, zip_all.1 (List.all_eq_true.2 b2), fun m h => b3 m (.inl h), fun m h => b3 m (.inr h), b4, b5⟩
  · intro h
    exact ⟨h.chk, ⟨h.lOwn, h.lPts, h.lRes, h.lRts, h.lXs, h.lLn⟩, h.own, List.all_eq_true.1 (zip_all.2 h.rts), fun m hm => hm.elim (h.pts m) (h.xs m), h.lns, h.res⟩
theorem geti_mem {α : Type} {l : List α} {i : Int} {x : α} (h : geti l i = some x) : x ∈ l := List.mem_of_getElem? (geti_some h).2.2
theorem geti_d {α : Type} {l : List α} {i : Int} {p : α → Prop} {z : α} (hz : p z) (h : ∀ x ∈ l, p x) : p ((geti l i).getD z) := by
  cases hg : geti l i with
  | none => exact hz
  | some x => exact h x (geti_mem hg)
theorem cmd_fits {m : Mv} {now p : Int} (hm : Mv.fits m = true) (hn : tm 0 now = true) (hp : 1 ≤ p ∧ p ≤ 2) : Mv.fits (cmdM m now p) = true := by
  unfold cmdM
  split
  · simp only [tm, decide_eq_true_eq] at hn
    simp only [Mv.fits, Bool.and_eq_true, decide_eq_true_eq]; omega
  · exact hm
theorem ptsC_len (now : Int) : ∀ (l : List Nd) (w : List Mv), (ptsC now l w).length = w.length
  | [], w => rfl
  | n :: l, w => by unfold ptsC; rw [List.foldl_cons]; exact (ptsC_len now l _).trans (by simp)
theorem ptsC_fits {now : Int} (hn : tm 0 now = true) : ∀ (l : List Nd) (w : List Mv), (∀ n ∈ l, 1 ≤ n.Pos ∧ n.Pos ≤ 2) → (∀ m ∈ w, Mv.fits m = true) → ∀ m ∈ ptsC now l w, Mv.fits m = true
  | [], w, _, h => h
  | n :: l, w, hl, h => by
    unfold ptsC; rw [List.foldl_cons]
    refine ptsC_fits hn l _ (fun x hx => hl x (by simp [hx])) fun m hm => ?_
    rcases List.mem_or_eq_of_mem_set hm with hm | rfl
    · exact h m hm
    · exact cmd_fits (geti_d (p := fun m => Mv.fits m = true) rfl h) hn (hl n (by simp))
theorem xsC_len (now : Int) : ∀ (l : List Int) (w : List Mv), (xsC now l w).length = w.length
  | [], w => rfl
  | n :: l, w => by unfold xsC; rw [List.foldl_cons]; exact (xsC_len now l _).trans (by simp)
theorem xsC_fits {now : Int} (hn : tm 0 now = true) : ∀ (l : List Int) (w : List Mv), (∀ m ∈ w, Mv.fits m = true) → ∀ m ∈ xsC now l w, Mv.fits m = true
  | [], w, h => h
  | n :: l, w, h => by
    unfold xsC; rw [List.foldl_cons]
    refine xsC_fits hn l _ fun m hm => ?_
    rcases List.mem_or_eq_of_mem_set hm with hm | rfl
    · exact h m hm
    · exact cmd_fits (geti_d (p := fun m => Mv.fits m = true) rfl h) hn (by omega)
theorem ownC_len (o : Int) : ∀ (l w : List Int), (l.foldl (fun w s => w.set s.toNat o) w).length = w.length
  | [], w => rfl
  | s :: l, w => by rw [List.foldl_cons, ownC_len o l]; simp
theorem ownC_mem {o : Int} : ∀ (l w : List Int) {z : Int}, z ∈ l.foldl (fun w s => w.set s.toNat o) w → z ∈ w ∨ z = o
  | [], w, z, h => .inl h
  | s :: l, w, z, h => by
    rw [List.foldl_cons] at h
    rcases ownC_mem l _ h with h | h
    · rcases List.mem_or_eq_of_mem_set h with h | h
      · exact .inl h
      · exact .inr h
    · exact .inr h
/-- Who owns a section behind. -/
theorem ownC_get {o : Int} : ∀ (l w : List Int) {s : Nat}, (∀ x ∈ l, 0 ≤ x) → s < w.length → (l.foldl (fun w s => w.set s.toNat o) w)[s]? = if (s : Int) ∈ l then some o else w[s]?
  | [], w, s, _, _ => by simp
  | x :: l, w, s, hl, hs => by
    rw [List.foldl_cons, ownC_get l _ (fun y hy => hl y (by simp [hy])) (by simpa using hs), List.getElem?_set]
    have hx := hl x (by simp)
    by_cases h1 : (s : Int) ∈ l
    · rw [if_pos h1, if_pos (by simp [h1])]
    · rw [if_neg h1]
      by_cases h2 : (s : Int) = x
      · rw [if_pos (show x.toNat = s by omega), if_pos (show x.toNat < w.length by omega), if_pos (show (s : Int) ∈ x :: l by simp [h2])]
      · rw [if_neg (show ¬ x.toNat = s by omega), if_neg (show ¬ (s : Int) ∈ x :: l by simp [h1, h2])]
theorem line_ok {c : Cf} (h : c.check = 0) (l : List St) : 0 ≤ lineF c l ∧ lineF c l ≤ 3 := by
  induction l with
  | nil => exact ⟨Int.le_refl _, by unfold lineF; omega⟩
  | cons s r ih =>
    rw [lineF]
    have hs : 0 ≤ ((geti c.Secs s.Sec).getD ⟨0, 0, 0⟩).Line ∧ ((geti c.Secs s.Sec).getD ⟨0, 0, 0⟩).Line ≤ 3 := by
      refine geti_d (p := fun y : Sec => 0 ≤ y.Line ∧ y.Line ≤ 3) (by decide) fun y hy => ?_
      obtain ⟨i, hi, e⟩ := List.getElem_of_mem hy
      exact topo_line (check_parts h).1 (i := i) (by rw [List.getElem?_eq_getElem hi, e])
    split
    · exact hs
    · exact ih
/-- What reqE = 0 says. -/
theorem req_zero {c : Cf} {k : Co} {r : Int} (h : k.reqE c r = 0) : (∃ x, geti k.Routes r = some x ∧ x.State = 0) ∧ apprS c (c.lockL r) k.Routes 0 = false ∧ k.blocked c r (c.lockL r) = false ∧
    (lineF c (c.rt r).Path > 0 → ((geti k.Lines (lineF c (c.rt r).Path)).getD zLs).Ask < 4294967295) := by
  unfold Co.reqE at h
  split at h
  · cases h
  · rename_i x hx
    split at h
    · cases h
    split at h
    · rename_i h2; exact absurd h h2
    rename_i h1 h2
    have h2 : k.may c r (c.lockL r) = 0 := Decidable.not_not.1 h2
    split at h
    · cases h
    rename_i h3
    unfold Co.may at h2
    split at h2
    · cases h2
    split at h2
    · cases h2
    rename_i h4 h5
    exact ⟨⟨x, hx, Decidable.not_not.1 h1⟩, by simpa using h4, by simpa using h5, fun hl => by have := fun ha => h3 ⟨hl, ha⟩; omega⟩
theorem rt_of {c : Cf} {k : Co} (hf : FitIs c k) {r : Int} {x : Rs} (hx : geti k.Routes r = some x) : ∃ y, geti c.Rts r = some y ∧ y ∈ c.Rts := by
  obtain ⟨h1, h2, h3⟩ := geti_some hx
  have := (List.getElem?_eq_some_iff.1 h3).1
  obtain ⟨y, hy⟩ := geti_ex (l := c.Rts) (i := r) (by omega) (by have := hf.lRts; omega)
  exact ⟨y, hy, geti_mem hy⟩
theorem lock_fits {c : Cf} {k : Co} {now r : Int} (h : k.fits c = true) (hn : tm 0 now = true) (he : k.reqE c r = 0) : (k.lockC c now r).fits c = true := by
  rw [fits_iff] at h ⊢
  obtain ⟨⟨x, hx, hs⟩, h2, h3, h4⟩ := req_zero he
  obtain ⟨y, hy, hm⟩ := rt_of h hx
  have hok := check_rt h.chk hm
  have hr := (geti_some hy)
  have hrl := (List.getElem?_eq_some_iff.1 hr.2.2).1
  refine ⟨h.chk, by simp only [Co.lockC, ownC_len]; exact h.lOwn, by simp only [Co.lockC, ptsC_len]; exact h.lPts, h.lRes, by simp only [Co.lockC, List.length_set]; exact h.lRts, by simp only [Co.lockC, xsC_len]; exact h.lXs, ?_, ?_, ?_, ?_, ?_, ?_, h.res⟩
  · simp only [Co.lockC, askC]; split <;> simp [h.lLn]
  · intro o ho
    simp only [Co.lockC] at ho
    rcases ownC_mem _ _ ho with ho | rfl
    · exact h.own o ho
    · omega
  · intro i z q hz hq
    simp only [Co.lockC, List.getElem?_set] at hz
    split at hz
    · split at hz
      · cases hz
        have : (0 : Int) ≤ q.Path.length := by omega
        simp only [Rs.fits, tm, Bool.and_eq_true, decide_eq_true_eq]; omega
      · cases hz
    · exact h.rts i z q hz hq
  · refine ptsC_fits hn _ _ (fun n hn' => ?_) h.pts
    rw [Cf.Needs, rt_some hy] at hn'
    exact (needs_sec hok hn').2
  · exact xsC_fits hn _ _ h.xs
  · intro l hl
    simp only [Co.lockC, askC] at hl
    split at hl
    · rename_i hg
      rcases List.mem_or_eq_of_mem_set hl with hl | rfl
      · exact h.lns l hl
      · have h5 := h4 hg
        have h6 := geti_d (i := lineF c (c.rt r).Path) (p := fun l => Ls.fits l = true) (z := zLs) rfl h.lns
        simp only [Ls.fits, tm, Bool.and_eq_true, decide_eq_true_eq] at h6 ⊢
        omega
    · exact h.lns l hl
theorem new_fits {c : Cf} {now : Int} (h : c.check = 0) (hn : tm 0 now = true) : (newCo c now).fits c = true := by
  rw [fits_iff]
  simp only [tm, decide_eq_true_eq] at hn
  refine ⟨h, by simp [newCo], by simp [newCo], by simp [newCo], by simp [newCo], by simp [newCo], by simp [newCo], fun o ho => ?_, fun i x r hx hr => ?_, fun m hm => ?_, fun m hm => ?_, fun l hl => ?_, fun z hz => ?_⟩
  · obtain ⟨_, rfl⟩ := List.mem_replicate.1 ho; omega
  · obtain ⟨_, rfl⟩ := List.mem_replicate.1 (List.mem_of_getElem? hx)
    have : (0 : Int) ≤ r.Path.length := by omega
    simp only [Rs.fits, tm, Bool.and_eq_true, decide_eq_true_eq]; omega
  · obtain ⟨s, hs, rfl⟩ := List.mem_map.1 hm
    simp only [Mv.fits, Bool.and_eq_true, decide_eq_true_eq]; split <;> omega
  · obtain ⟨_, rfl⟩ := List.mem_replicate.1 hm
    simp only [Mv.fits, Bool.and_eq_true, decide_eq_true_eq]; omega
  · obtain ⟨_, rfl⟩ := List.mem_replicate.1 hl; rfl
  · obtain ⟨_, rfl⟩ := List.mem_replicate.1 hz; rfl
end Go.Fw
end
section
namespace Go.Proofs.YtjggnhjidheliaaGreat
open Go.Shelf Go.Proofs
def sortLays_ren : Go.Shelf.Ren := ⟨fun | 189 => 154 | 125 => 183 | 257 => 182 | 128 => 202 | 129 => 203 | 294 => 193 | 295 => 194 | 296 => 195 | 297 => 196 | 298 => 197 | 299 => 198 | 216 => 199 | 300 => 200 | 301 => 201 | 328 => 207 | 329 => 208 | 330 => 209 | 331 => 210 | 332 => 211 | 215 => 212 | 343 => 213 | n => n, fun | 28 => 25 | 3 => 3 | 46 => 34 | 0 => 0 | 51 => 208 | 53 => 211 | 4 => 4 | 183 => 251 | 182 => 250 | 131 => 162 | 5 => 5 | 9 => 9 | 218 => 260 | 222 => 264 | 228 => 266 | 229 => 267 | n => n, fun | n => n⟩
theorem sortLays : Go.Proofs.Lays.n189 Tryz.prog sortLays_ren := {
  mixed := by kernel_rfl
  f125 := Tryz.func183.trans (congrArg some (by kernel_rfl))
  f128 := Tryz.func202.trans (congrArg some (by kernel_rfl))
  f129 := Tryz.func203.trans (congrArg some (by kernel_rfl))
  f189 := Tryz.func154.trans (congrArg some (by kernel_rfl))
  f215 := Tryz.func212.trans (congrArg some (by kernel_rfl))
  f216 := Tryz.func199.trans (congrArg some (by kernel_rfl))
  f257 := Tryz.func182.trans (congrArg some (by kernel_rfl))
  f294 := Tryz.func193.trans (congrArg some (by kernel_rfl))
  f295 := Tryz.func194.trans (congrArg some (by kernel_rfl))
  f296 := Tryz.func195.trans (congrArg some (by kernel_rfl))
  f297 := Tryz.func196.trans (congrArg some (by kernel_rfl))
  f298 := Tryz.func197.trans (congrArg some (by kernel_rfl))
  f299 := Tryz.func198.trans (congrArg some (by kernel_rfl))
  f300 := Tryz.func200.trans (congrArg some (by kernel_rfl))
  f301 := Tryz.func201.trans (congrArg some (by kernel_rfl))
  f328 := Tryz.func207.trans (congrArg some (by kernel_rfl))
  f329 := Tryz.func208.trans (congrArg some (by kernel_rfl))
  f330 := Tryz.func209.trans (congrArg some (by kernel_rfl))
  f331 := Tryz.func210.trans (congrArg some (by kernel_rfl))
  f332 := Tryz.func211.trans (congrArg some (by kernel_rfl))
  f343 := Tryz.func213.trans (congrArg some (by kernel_rfl))
  t0 := Tryz.underlying0
  a0 := Tryz.isAgg0
  z0 := Tryz.sizeOf0
  v0 := Tryz.zeroValue0
  t3 := Tryz.underlying3
  a3 := Tryz.isAgg3
  z3 := Tryz.sizeOf3
  v3 := Tryz.zeroValue3
  t4 := Tryz.underlying4
  a4 := Tryz.isAgg4
  z4 := Tryz.sizeOf4
  v4 := Tryz.zeroValue4
  t5 := Tryz.underlying5
  a5 := Tryz.isAgg5
  z5 := Tryz.sizeOf5
  v5 := Tryz.zeroValue5
  t9 := Tryz.underlying9
  a9 := Tryz.isAgg9
  z9 := Tryz.sizeOf9
  v9 := Tryz.zeroValue9
  t28 := Tryz.underlying25
  a28 := Tryz.isAgg25
  z28 := Tryz.sizeOf25
  v28 := Tryz.zeroValue25
  t46 := Tryz.underlying34
  a46 := Tryz.isAgg34
  z46 := Tryz.sizeOf34
  v46 := Tryz.zeroValue34
  t51 := Tryz.underlying208
  a51 := Tryz.isAgg208
  z51 := Tryz.sizeOf208
  v51 := Tryz.zeroValue208
  t53 := Tryz.underlying211
  a53 := Tryz.isAgg211
  z53 := Tryz.sizeOf211
  v53 := Tryz.zeroValue211
  t131 := Tryz.underlying162
  a131 := Tryz.isAgg162
  z131 := Tryz.sizeOf162
  v131 := Tryz.zeroValue162
  t182 := Tryz.underlying250
  a182 := Tryz.isAgg250
  z182 := Tryz.sizeOf250
  v182 := Tryz.zeroValue250
  t183 := Tryz.underlying251
  a183 := Tryz.isAgg251
  z183 := Tryz.sizeOf251
  v183 := Tryz.zeroValue251
  t218 := Tryz.underlying260
  a218 := Tryz.isAgg260
  z218 := Tryz.sizeOf260
  v218 := Tryz.zeroValue260
  t222 := Tryz.underlying264
  a222 := Tryz.isAgg264
  z222 := Tryz.sizeOf264
  v222 := Tryz.zeroValue264
  t228 := Tryz.underlying266
  a228 := Tryz.isAgg266
  z228 := Tryz.sizeOf266
  v228 := Tryz.zeroValue266
  t229 := Tryz.underlying267
  a229 := Tryz.isAgg267
  z229 := Tryz.sizeOf267
  v229 := Tryz.zeroValue267 }
end Go.Proofs.YtjggnhjidheliaaGreat
end
section
namespace Go.Proofs.YtjggnhjidheliaaGreat
open Go.Shelf Go.Proofs
def compactLays_ren : Go.Shelf.Ren := ⟨fun | 20 => 155 | n => n, fun | 22 => 25 | 3 => 3 | 4 => 4 | 0 => 0 | n => n, fun | n => n⟩
theorem compactLays : Go.Proofs.Lays2.n20 Tryz.prog compactLays_ren := {
  mixed := by kernel_rfl
  f20 := Tryz.func155.trans (congrArg some (by kernel_rfl))
  t0 := Tryz.underlying0
  a0 := Tryz.isAgg0
  z0 := Tryz.sizeOf0
  v0 := Tryz.zeroValue0
  t3 := Tryz.underlying3
  a3 := Tryz.isAgg3
  z3 := Tryz.sizeOf3
  v3 := Tryz.zeroValue3
  t4 := Tryz.underlying4
  a4 := Tryz.isAgg4
  z4 := Tryz.sizeOf4
  v4 := Tryz.zeroValue4
  t22 := Tryz.underlying25
  a22 := Tryz.isAgg25
  z22 := Tryz.sizeOf25
  v22 := Tryz.zeroValue25
  i3 := by kernel_rfl }
end Go.Proofs.YtjggnhjidheliaaGreat
end
section
set_option linter.unusedVariables false
set_option linter.unusedSimpArgs false
namespace Go.Proofs.YtjggnhjidheliaaGreat
open Go.Fw Go.Proofs Go.RowKit
variable {σ σ0 : Store}
/-- A list's own object, behind a call that writes its elements anew. -/
theorem own_over {s : Store} {d : D} {l ys : List Int} (h : Own Tryz.prog σ0 s t_int d (l.map Go.Fw.encI)) (h0 : l ≠ []) (hl : ys.length = l.length) :
    ∃ id i0 t rows, d = .osl id i0 l.length ∧ s id = .live t rows ∧ Tryz.prog.cellsOf t = 1 ∧ i0 + l.length ≤ rows.length ∧ (rows.drop i0).take l.length = l.map intRow ∧ σ0 id = .free ∧
      Own Tryz.prog σ0 (s.set id (.live t (rows.take i0 ++ ys.map intRow ++ rows.drop (i0 + l.length)))) t_int d (ys.map Go.Fw.encI) := by
  have hr := h.at_.rows
  have hsz := h.at_.size
  rw [List.length_map] at hsz
  have hnz := h.nz
  have hns := h.nsl
  have hnew := h.new
  have hlen := h.at_.lenI
  rw [List.length_map] at hlen
  cases d <;> simp only [Go.Fw.Rows] at hr <;> try exact hr.elim
  · exact absurd (List.map_eq_nil_iff.1 hr) h0
  · exact absurd rfl hnz
  · exact absurd trivial hns
  · rename_i id i0 len
    obtain ⟨t, rows, a1, a2, a3, a4⟩ := hr
    have e : l.length = len := hlen
    subst e
    have ht : Tryz.prog.cellsOf t = 1 := by rw [a2]; exact c_int
    have hn := hnew _ _ _ rfl
    refine ⟨id, i0, t, rows, rfl, a1, ht, a3, a4.symm, hn, ⟨⟨⟨t, _, Store.set_same _ _ _, a2, ?_, ?_⟩, ?_, fun es rows e => by cases e⟩, ?_, hnew, fun h => h, by intro e; cases e⟩⟩
    · simp; omega
    · have hi0 : (rows.take i0).length = i0 := by simp; omega
      rw [List.append_assoc, List.drop_append_of_le_length (by omega), List.drop_of_length_le (by omega), List.nil_append, List.take_append_of_le_length (by simp; omega), List.take_of_length_le (by simp; omega)]
      rfl
    · rw [List.length_map]; omega
    · intro i hi
      rw [Store.set_ne _ _ (by intro e; subst e; exact hi hn)]
      exact h.ext i hi
theorem Sort_int_ok {s : Store} {d : D} {l : List Int} (h : Own Tryz.prog σ0 s t_int d (l.map Go.Fw.encI)) (h0 : l ≠ []) :
    DCalls Tryz.prog n_slices_Sort_int [.one d] s fun r s' => r = .tup [] ∧ Own Tryz.prog σ0 s' t_int d ((sorted l).map Go.Fw.encI) := by
  have hsz := h.at_.size
  rw [List.length_map] at hsz
  obtain ⟨id, i0, t, rows, rfl, a1, ht, a3, a4, hn, ho⟩ := own_over (ys := sorted l) h h0 (by simp [sorted])
  refine (sort_DCalls sortLays ht a1 a3 a4 (List.length_pos_iff.2 h0) (by omega)).mono ?_
  rintro r s' ⟨rfl, rfl⟩
  exact ⟨rfl, ho⟩
theorem Compact_int_ok {s : Store} {d : D} {l : List Int} (h : Own Tryz.prog σ0 s t_int d (l.map Go.Fw.encI)) (h0 : l ≠ []) (hp : l.Pairwise (· ≤ ·)) :
    DCalls Tryz.prog n_slices_Compact_int [.one d] s fun r s' => ∃ d', r = .a (.one d') ∧ Own Tryz.prog σ0 s' t_int d' ((cpt l).map Go.Fw.encI) := by
  have hsz := h.at_.size
  rw [List.length_map] at hsz
  have hc := compact_cpt hp
  have hle := cpt_len l
  obtain ⟨id, i0, t, rows, rfl, a1, ht, a3, a4, hn, ho⟩ := own_over (ys := Lib.compact l ++ List.replicate (l.length - (Lib.compact l).length) 0) h h0 (by rw [hc]; simp; omega)
  refine (compact_DCalls compactLays ht a1 a3 a4 (List.length_pos_iff.2 h0) (by omega)).mono ?_
  rintro r s' ⟨rfl, rfl⟩
  have := ho.sub (lo := 0) (hi := (cpt l).length) (by omega) (by rw [hc]; simp)
  rw [hc] at this ⊢
  refine ⟨_, rfl, ?_⟩
  have e : ((((cpt l ++ List.replicate (l.length - (cpt l).length) 0).map Go.Fw.encI).drop 0).take ((cpt l).length - 0)) = (cpt l).map Go.Fw.encI := by
    rw [List.drop_zero, Nat.sub_zero, List.map_append, List.take_append_of_le_length (by simp), List.take_of_length_le (by simp)]
  rw [e] at this
  exact this
/-- No route's overlap is an empty slice of which nobody knows whether it is nil. -/
def RtsNz : D → Prop
  | .sl _ rows => ∀ row ∈ rows, row[4]? ≠ some .zsl
  | _ => True
theorem nz_over {c4 : D} {rows : List (List D)} (hz : RtsNz c4) (hat : ∀ s, At Tryz.prog s t_Route c4 rows) {i : Nat} {row : List D} (hr : rows[i]? = some row) : row[4]? ≠ some .zsl := by
  have hx := (hat (fun _ => .free)).rows
  cases c4 <;> simp only [Go.Fw.Rows] at hx <;> try exact hx.elim
  · subst hx; simp at hr
  · subst hx; simp at hr
  · obtain ⟨rfl, _⟩ := hx; exact hz _ (List.mem_of_getElem? hr)
  · obtain ⟨t, rows', h1, _⟩ := hx; cases h1
section
variable {c0 c1 c2 c3 c4 : D} {c : Cf} (h : ∀ s, CfAt s c0 c1 c2 c3 c4 c) (hok : c.check = 0) (hz : RtsNz c4)
include h hok hz
theorem conf_Locks_ok (i : Int) : DCalls Tryz.prog n_conf_Locks [cfA c0 c1 c2 c3 c4 c, iA i] σ (SlPost σ t_int ((c.lockL i).map Go.Fw.encI)) := by
  refine (W_conf_Locks _ _ _ _ _ _ _ _ _ i σ _ ?_).ret (Q := fun r s => ∃ r' σ', Ret Tryz.prog σ s r σ' r' ∧ SlPost σ t_int ((c.lockL i).map Go.Fw.encI) r' σ') (fun r s h => h)
  intro R hR
  have nil : geti c.Rts i = none → ∃ r' σ', Ret Tryz.prog σ σ (.a (.one .nils)) σ' r' ∧ SlPost σ t_int ((c.lockL i).map Go.Fw.encI) r' σ' := fun e => by
    have : c.lockL i = [] := by unfold Cf.lockL; rw [e]
    rw [this]; exact own_fin (.nil _ (.refl _)) (flatI _)
  obtain ⟨rows, hat, hlen⟩ := rts_len (h σ)
  refine bcd (fun e => nil (geti_neg e)) (fun e0 => hat.lenK (bcd (fun e => nil (geti_ge (by omega))) (fun e1 => hR σ ?_)))
  obtain ⟨x, hx⟩ := geti_ex (l := c.Rts) (i := i) e0 (by omega)
  clear hR nil hat
  have hr := check_rt hok (geti_mem hx)
  have hll : c.lockL i = Cf.lockR x := by unfold Cf.lockL; rw [hx]
  rw [hll]
  obtain ⟨rows, d1, d2, d3, hat, hlen, hrow, q1, q2, q3⟩ := rt_frz h (geti_some hx).2.2
  have w1 := hr.len
  have w2 := hr.flen
  have w3 := hr.olen
  refine (hat σ).load hrow c_Route (by omega) ⟨_, _, _, _, _, _, rfl, (Clone_int_ok (q3 σ) ?_ (by rw [List.length_map]; omega)).mono ?_⟩
  · exact fun e => nz_over hz hat hrow (by rw [e]; rfl)
  rintro r s ⟨d, rfl, ho⟩
  refine ⟨d, rfl, (q1 σ).lenK ⟨fun d n s' => ∃ j : Nat, n = j ∧ j ≤ x.Path.length ∧ Own Tryz.prog σ s' t_int d ((x.Overlap ++ (x.Path.take j).map St.Sec).map Go.Fw.encI), fun _ n _ => x.Path.length - n.toNat, ⟨0, rfl, by omega, by simpa using ho⟩, ?_⟩⟩
  rintro d n s' ⟨j, rfl, hj, ho⟩
  rw [List.length_map]
  refine bcd (fun hlt => ?_) (fun hge => ?_)
  · obtain ⟨y, hy⟩ := get_of_lt (l := x.Path) (j := j) (by omega)
    refine (q1 s').load (map_get hy) c_Step rfl ⟨y.Sec, y.In, y.Out, rfl, newObj_intro fun id s2 hid _ he hs2 => ?_⟩
    refine (ho.ext' he).append (At.fresh hs2 (by simp) rfl) (by simp; omega) (by simp; omega) fun d4 s5 ho5 _ _ => ?_
    rw [w64_succ (by omega)]
    refine ⟨rfl, ⟨j + 1, rfl, by omega, ?_⟩, dec_lt (by omega)⟩
    have e : x.Overlap ++ (x.Path.take (j + 1)).map St.Sec = (x.Overlap ++ (x.Path.take j).map St.Sec) ++ [y.Sec] := by rw [List.take_add_one, hy]; simp
    rw [e, List.map_append]; exact ho5
  have e : j = x.Path.length := by omega
  rw [e, List.take_length] at ho
  refine (q2 s').lenK ⟨fun d n s' => ∃ j : Nat, n = j ∧ j ≤ x.Flank.length ∧ Own Tryz.prog σ s' t_int d ((x.Overlap ++ x.Path.map St.Sec ++ (x.Flank.take j).map Nd.Sec).map Go.Fw.encI), fun _ n _ => x.Flank.length - n.toNat, ⟨0, rfl, by omega, by simpa using ho⟩, ?_⟩
  rintro d n s' ⟨j, rfl, hj, ho⟩
  rw [List.length_map]
  refine bcd (fun hlt => ?_) (fun hge => ?_)
  · obtain ⟨y, hy⟩ := get_of_lt (l := x.Flank) (j := j) (by omega)
    refine (q2 s').load (map_get hy) c_Need rfl ⟨y.Sec, y.Pos, rfl, newObj_intro fun id s2 hid _ he hs2 => ?_⟩
    refine (ho.ext' he).append (At.fresh hs2 (by simp) rfl) (by simp; omega) (by simp; omega) fun d4 s5 ho5 _ _ => ?_
    rw [w64_succ (by omega)]
    refine ⟨⟨j + 1, rfl, by omega, ?_⟩, dec_lt (by omega)⟩
    have e : x.Overlap ++ x.Path.map St.Sec ++ (x.Flank.take (j + 1)).map Nd.Sec = (x.Overlap ++ x.Path.map St.Sec ++ (x.Flank.take j).map Nd.Sec) ++ [y.Sec] := by rw [List.take_add_one, hy]; simp
    rw [e, List.map_append]; exact ho5
  have e : j = x.Flank.length := by omega
  rw [e, List.take_length] at ho
  have hne : x.Overlap ++ x.Path.map St.Sec ++ x.Flank.map Nd.Sec ≠ [] := by
    intro e
    have := congrArg List.length e
    simp only [List.length_append, List.length_map, List.length_nil] at this; omega
  refine (Sort_int_ok ho hne).mono ?_
  rintro r s2 ⟨rfl, ho⟩
  refine ⟨rfl, (Compact_int_ok ho (fun e => hne (by
    have := congrArg List.length e
    simp only [sorted, List.length_mergeSort] at this
    exact List.length_eq_zero_iff.1 this)) (sorted_pair _)).mono ?_⟩
  rintro r s3 ⟨d', rfl, ho⟩
  exact ⟨d', rfl, own_fin ho (flatI _)⟩
end
end Go.Proofs.YtjggnhjidheliaaGreat
end
section
set_option linter.unusedVariables false
set_option linter.unusedSimpArgs false
namespace Go.Proofs.YtjggnhjidheliaaGreat
open Go.Fw Go.Proofs Go.RowKit
variable {σ σ0 : Store}
/-- One number is put into a list, at a place. -/
theorem ins_ok {s6 : Store} {d5 d6 : D} {all out : List Int} {v n5 : Int} {m : Nat} {K : D → Store → Prop} (h5 : Own Tryz.prog σ s6 t_int d5 (all.map Go.Fw.encI)) (h6 : Own Tryz.prog σ s6 t_int d6 (out.map Go.Fw.encI)) (hn : n5 = m) (hm : m ≤ out.length)
    (hb : out.length ≤ 2 ^ 20) (hK : ∀ d s, Own Tryz.prog σ s t_int d5 (all.map Go.Fw.encI) → Own Tryz.prog σ s t_int d ((out.take m ++ [v] ++ out.drop m).map Go.Fw.encI) → K d s) :
    ∃ len : Nat, (IdxN Tryz.prog s6 d6 1 len) ∧ ((0 : Int) ≤ 0) ∧ ((0 : Int) ≤ n5) ∧ (n5 ≤ (len : Int)) ∧ appendTo Tryz.prog s6 t_int 8 .nils (dsub d6 0 (Int.toNat n5)) (fun (d7 : D) => fun (s7 : Store) => Fw.newObj s7 (.live t_int [[.int .i64 v]]) (fun (id : Nat) => fun (s8 : Store) => appendTo Tryz.prog s8 t_int 8 d7 (.osl id 0 1) (fun (d8 : D) => fun (s9 : Store) =>
      ∃ len7 : Nat, (IdxN Tryz.prog s9 d6 1 len7) ∧ ((0 : Int) ≤ n5) ∧ (n5 ≤ (len7 : Int)) ∧ appendTo Tryz.prog s9 t_int 8 d8 (dsub d6 (Int.toNat n5) len7) K))) := by
  subst hn
  have i6 := h6.at_.idxN c_int
  rw [List.length_map] at i6
  refine ⟨out.length, i6, by omega, by omega, by omega, ?_⟩
  rw [Int.toNat_natCast]
  have hsub := h6.at_.sub (lo := 0) (hi := m) (by omega) (by simpa using hm)
  refine (Own.nil (P := Tryz.prog) (el := t_int) (σ := s6) s6 (.refl _)).append hsub (by simp; omega) (by simp; omega) fun d7 s7 o7 _ _ => ?_
  refine newObj_intro fun id s8 hid _ he hs8 => ?_
  refine (o7.ext' he).append (At.fresh hs8 (by simp) rfl) (by simp; omega) (by simp; omega) fun d8 s9 o8 _ _ => ?_
  have h69 := h6.at_.ext o8.ext
  have i9 := h69.idxN c_int
  rw [List.length_map] at i9
  refine ⟨out.length, i9, by omega, by omega, ?_⟩
  have hsub2 := h69.sub (lo := m) (hi := out.length) hm (by simp)
  refine o8.append hsub2 (by simp; omega) (by simp; omega) fun d9 s10 o9 _ _ => hK d9 s10 (h5.ext' o9.ext) ?_
  have o := Own.from h6.ext o9
  have e : ([] ++ ((out.map Go.Fw.encI).drop 0).take (m - 0) ++ [[D.int .i64 v]]) ++ ((out.map Go.Fw.encI).drop m).take (out.length - m) = (out.take m ++ [v] ++ out.drop m).map Go.Fw.encI := by
    have a1 : ((out.map Go.Fw.encI).drop m).take (out.length - m) = (out.map Go.Fw.encI).drop m := List.take_of_length_le (by simp)
    rw [List.nil_append, List.drop_zero, Nat.sub_zero, a1, ← List.map_take, ← List.map_drop, List.map_append, List.map_append]
    rfl
  rw [e] at o; exact o
theorem ref06_Sections_own {d : D} {path : List St} (h : ∀ s, At Tryz.prog s t_Step d (path.map St.enc)) (hb : path.length ≤ 2 ^ 20) :
    DCalls Tryz.prog n_ref06_Sections [.one d] σ fun r s => ∃ d', r = .a (.one d') ∧ Own Tryz.prog σ s t_int d' ((path.map St.Sec).map Go.Fw.encI) := by
  refine W_ref06_Sections d σ _ ?_
  refine (h σ).lenK ⟨fun d n s => ∃ j : Nat, n = j ∧ j ≤ path.length ∧ Own Tryz.prog σ s t_int d (((path.take j).map St.Sec).map Go.Fw.encI), fun _ n _ => path.length - n.toNat, ⟨0, rfl, by omega, .nil _ (.refl _)⟩, ?_⟩
  rintro d1 _ s ⟨j, rfl, hj, ho⟩
  rw [List.length_map]
  refine bcd (fun hlt => ?_) (fun hge => ?_)
  · obtain ⟨x, hx⟩ := get_of_lt (l := path) (j := j) (by omega)
    refine (h s).load (map_get hx) c_Step rfl ⟨x.Sec, x.In, x.Out, rfl, newObj_intro fun id s2 hid _ he hs2 => ?_⟩
    have hl : (((path.take j).map St.Sec).map Go.Fw.encI).length = j := by simp; omega
    refine (ho.ext' he).append (At.fresh hs2 (by simp) rfl) (by simp; omega) (by simp; omega) fun d4 s5 ho5 _ _ => ?_
    rw [w64_succ (by omega)]
    refine ⟨⟨j + 1, rfl, by omega, ?_⟩, by show path.length - ((j + 1 : Nat) : Int).toNat < path.length - ((j : Nat) : Int).toNat; omega⟩
    have e : path.take (j + 1) = path.take j ++ [x] := by rw [List.take_add_one, hx]; rfl
    rw [e, List.map_append, List.map_append]; exact ho5
  · have e : j = path.length := by omega
    rw [e, List.take_length] at ho
    exact ⟨_, rfl, ho⟩
theorem insL_len : ∀ (l out : List Int), (l.foldl insS out).length ≤ out.length + l.length
  | [], out => by simp
  | s :: r, out => by
    rw [List.foldl_cons]
    have := insL_len r (insS out s)
    have h1 : (insS out s).length ≤ out.length + 1 := by
      unfold insS; split
      · omega
      · simp; omega
    simp; omega
section
variable {c0 c1 c2 c3 c4 : D} {c : Cf} (h : ∀ s, CfAt s c0 c1 c2 c3 c4 c) (hok : c.check = 0)
include h hok
theorem ref06_Locks_ok (i : Int) : DCalls Tryz.prog n_ref06_Locks [cfA c0 c1 c2 c3 c4 c, iA i] σ (SlPost σ t_int ((c.lockL i).map Go.Fw.encI)) := by
  refine (W_ref06_Locks _ _ _ _ _ _ _ _ _ i σ _ ?_).ret (Q := fun r s => ∃ r' σ', Ret Tryz.prog σ s r σ' r' ∧ SlPost σ t_int ((c.lockL i).map Go.Fw.encI) r' σ') (fun r s h => h)
  intro R hR
  have nil : geti c.Rts i = none → ∃ r' σ', Ret Tryz.prog σ σ (.a (.one .nils)) σ' r' ∧ SlPost σ t_int ((c.lockL i).map Go.Fw.encI) r' σ' := fun e => by
    have : c.lockL i = [] := by unfold Cf.lockL; rw [e]
    rw [this]; exact own_fin (.nil _ (.refl _)) (flatI _)
  obtain ⟨rows, hat, hlen⟩ := rts_len (h σ)
  refine bcd (fun e => nil (geti_neg e)) (fun e0 => hat.lenK (bcd (fun e => nil (geti_ge (by omega))) (fun e1 => hR σ ?_)))
  obtain ⟨x, hx⟩ := geti_ex (l := c.Rts) (i := i) e0 (by omega)
  clear hR nil hat
  have hr := check_rt hok (geti_mem hx)
  have hll : c.lockL i = Cf.lockR x := by unfold Cf.lockL; rw [hx]
  rw [hll, ← insL_lockR]
  obtain ⟨rows, d1, d2, d3, hat, hlen, hrow, q1, q2, q3⟩ := rt_frz h (geti_some hx).2.2
  have w1 := hr.len
  have w2 := hr.flen
  have w3 := hr.olen
  refine (hat σ).load hrow c_Route (by omega) ⟨_, _, _, _, _, _, rfl, (ref06_Sections_own q1 (by omega)).mono ?_⟩
  rintro r s ⟨d, rfl, ho⟩
  refine ⟨d, rfl, (q2 s).lenK ⟨fun d' n s' => ∃ j : Nat, n = j ∧ j ≤ x.Flank.length ∧ Own Tryz.prog σ s' t_int d' ((x.Path.map St.Sec ++ (x.Flank.take j).map Nd.Sec).map Go.Fw.encI), fun _ n _ => x.Flank.length - n.toNat, ⟨0, rfl, by omega, by simpa using ho⟩, ?_⟩⟩
  rintro d n s' ⟨j, rfl, hj, ho⟩
  rw [List.length_map]
  refine bcd (fun hlt => ?_) (fun hge => ?_)
  · obtain ⟨y, hy⟩ := get_of_lt (l := x.Flank) (j := j) (by omega)
    refine (q2 s').load (map_get hy) c_Need rfl ⟨y.Sec, y.Pos, rfl, newObj_intro fun id s2 hid _ he hs2 => ?_⟩
    refine (ho.ext' he).append (At.fresh hs2 (by simp) rfl) (by simp; omega) (by simp; omega) fun d4 s5 ho5 _ _ => ?_
    rw [w64_succ (by omega)]
    refine ⟨rfl, ⟨j + 1, rfl, by omega, ?_⟩, dec_lt (by omega)⟩
    have e : x.Path.map St.Sec ++ (x.Flank.take (j + 1)).map Nd.Sec = (x.Path.map St.Sec ++ (x.Flank.take j).map Nd.Sec) ++ [y.Sec] := by rw [List.take_add_one, hy]; simp
    rw [e, List.map_append]; exact ho5
  have e : j = x.Flank.length := by omega
  rw [e, List.take_length] at ho
  refine ho.append (q3 s') (by simp; omega) (by simp; omega) fun d5 s3 o5 _ _ => ?_
  rw [← List.map_append] at o5
  generalize hall : x.Path.map St.Sec ++ x.Flank.map Nd.Sec ++ x.Overlap = all at o5
  have hal : all.length ≤ 41 := by rw [← hall]; simp; omega
  refine o5.at_.lenK ⟨fun d6 n s => ∃ j : Nat, n = j ∧ j ≤ all.length ∧ Own Tryz.prog σ s t_int d5 (all.map Go.Fw.encI) ∧ Own Tryz.prog σ s t_int d6 (((all.take j).foldl insS []).map Go.Fw.encI), fun _ n _ => all.length - n.toNat, ⟨0, rfl, by omega, o5, .nil _ o5.ext⟩, ?_⟩
  rintro d6 n s4 ⟨j, rfl, hj, o5, o6⟩
  rw [List.length_map]
  refine bcd (fun hlt => ?_) (fun hge => ?_)
  · obtain ⟨v, hv⟩ := get_of_lt (l := all) (j := j) (by omega)
    have hlen6 := insL_len (all.take j) []
    have hstep : (all.take (j + 1)).foldl insS [] = insS ((all.take j).foldl insS []) v := by
      rw [List.take_add_one, hv, List.foldl_append]; rfl
    generalize hout : (all.take j).foldl insS [] = out at o6 hstep hlen6
    have hol : out.length ≤ 41 := by simp at hlen6; omega
    refine o5.at_.load (map_get hv) c_int rfl ⟨v, rfl, (ref06_in_ok v o6.at_).use ⟨_, rfl, bc (fun hin => ?_) (fun hin => ?_)⟩⟩
    · rw [w64_succ (by omega)]
      refine ⟨⟨j + 1, rfl, by omega, o5, ?_⟩, dec_lt (by omega)⟩
      rw [hstep, insS, if_pos (by simpa [inL] using hin)]; exact o6
    · have hni : v ∉ out := by simpa [inL] using hin
      refine o6.at_.lenK ⟨fun n s => ∃ m : Nat, n = m ∧ m ≤ out.length ∧ s = s4 ∧ insAt out v out.length = insAt out v m, fun n _ => n.toNat, ⟨out.length, by rw [List.length_map], Nat.le_refl _, rfl, rfl⟩, ?_⟩
      rintro n s ⟨m, rfl, hm, rfl, he⟩
      have fin : insAt out v m = m → ∀ d' s', Own Tryz.prog σ s' t_int d5 (all.map Go.Fw.encI) → Own Tryz.prog σ s' t_int d' ((out.take m ++ [v] ++ out.drop m).map Go.Fw.encI) →
          (∃ j' : Nat, w64 ((j : Int) + 1) = j' ∧ j' ≤ all.length ∧ Own Tryz.prog σ s' t_int d5 (all.map Go.Fw.encI) ∧ Own Tryz.prog σ s' t_int d' (((all.take j').foldl insS []).map Go.Fw.encI)) ∧ all.length - (w64 ((j : Int) + 1)).toNat < all.length - ((j : Nat) : Int).toNat := fun e d' s' a b => by
        rw [w64_succ (by omega)]
        refine ⟨⟨j + 1, rfl, by omega, a, ?_⟩, dec_lt (by omega)⟩
        rw [hstep, insS, if_neg hni, he, e]; exact b
      refine bcd (fun hpos => ?_) (fun hz => ?_)
      · obtain ⟨m, rfl⟩ : ∃ m', m = m' + 1 := ⟨m - 1, by omega⟩
        obtain ⟨y, hy⟩ := get_of_lt (l := out) (j := m) (by omega)
        have ew : w64 (((m + 1 : Nat) : Int) - 1) = m := by rw [w64_id (by omega) (by omega)]; omega
        rw [ew]
        refine o6.at_.load (map_get hy) c_int rfl ⟨y, rfl, bcd (fun hgt => ?_) (fun hle => ?_)⟩
        · refine ⟨⟨m, rfl, by omega, rfl, ?_⟩, by show ((m : Nat) : Int).toNat < ((m + 1 : Nat) : Int).toNat; omega⟩
          rw [he, insAt, hy]; exact if_pos hgt
        · exact ins_ok o5 o6 rfl hm (by omega) (fin (by rw [insAt, hy]; exact if_neg hle))
      · have hm0 : m = 0 := by omega
        subst hm0
        exact ins_ok o5 o6 rfl hm (by omega) (fin rfl)
  · have e : j = all.length := by omega
    rw [e, List.take_length] at o6
    exact own_fin o6 (flatI _)
end
end Go.Proofs.YtjggnhjidheliaaGreat
end
section
set_option linter.unusedVariables false
set_option linter.unusedSimpArgs false
namespace Go.Proofs.YtjggnhjidheliaaGreat
open Go.Fw Go.Proofs Go.RowKit
variable {σ σ0 : Store}
def cfC (c0 c1 c2 c3 c4 : D) (c : Cf) : List D := [c0, c1, c2, c3, c4, iD c.Age, iD c.Brake, iD c.Hold, iD c.Budget]
theorem CoOwn.from {σ1 s : Store} {d0 d1 d2 d3 d4 d5 : D} {k : Co} (he : Ext σ σ1) (h : CoOwn σ1 s d0 d1 d2 d3 d4 d5 k) : CoOwn σ s d0 d1 d2 d3 d4 d5 k :=
  ⟨h.own.from he, h.routes.from he, h.points.from he, h.xs.from he, h.lines.from he, h.resets.from he, h.apart⟩
theorem CoAt.ext' {s : Store} {d0 d1 d2 d3 d4 d5 : D} {k : Co} (h : CoAt σ d0 d1 d2 d3 d4 d5 k) (he : Ext σ s) : CoAt s d0 d1 d2 d3 d4 d5 k :=
  ⟨h.own.ext he, h.routes.ext he, h.points.ext he, h.xs.ext he, h.lines.ext he, h.resets.ext he⟩
theorem locks_open_ok {c0 c1 c2 c3 c4 : D} {c : Cf} (hc : ∀ s, CfAt s c0 c1 c2 c3 c4 c) {k0 k1 k2 k3 k4 k5 : D} {k : Co} (h : CoAt σ k0 k1 k2 k3 k4 k5 k) (hf : CoFit k0 k1 k2 k3 k4 k5 k) :
    DCalls Tryz.prog n_locks_open [cfA c0 c1 c2 c3 c4 c, coA k0 k1 k2 k3 k4 k5 k.Dirty] σ fun r s =>
      ∃ id d0 d1 d2 d3 d4 d5, r = .tup [.one (.el (.osl id 0 1) 0 0), bA (k.fits c)] ∧ CoIn σ s id t_locks_desk (cfC c0 c1 c2 c3 c4 c) [] d0 d1 d2 d3 d4 d5 k := by
  refine W_locks_open _ _ _ _ _ _ _ _ _ k0 k1 k2 k3 k4 k5 k.Dirty σ _ (newObj_intro fun id a0 hid _ e0 q0 => ?_)
  have nid : ∀ {s0 s : Store} {el : TypeId} {d : D} {rs : List (List D)}, Own Tryz.prog s0 s el d rs → s0 id ≠ .free → idOf d ≠ some id := by
    intro s0 s el d rs ho hne he
    cases d with
    | osl i a n =>
      have : i = id := by simpa [idOf] using he
      subst this
      exact hne (ho.new _ _ _ rfl)
    | _ => simp [idOf] at he
  have n0 : a0 id ≠ .free := by rw [q0]; intro e; cases e
  refine (Clone_int_ok (h.own.ext e0) hf.n0 (by rw [List.length_map]; exact hf.b0)).mono ?_
  rintro r b0 ⟨d0, rfl, o0⟩
  refine ⟨d0, rfl, cell_store ((o0.ext id n0).trans q0) (by simp [patch]) fun a1 q1 f0 => ?_⟩
  have i0 := nid o0 n0
  have p0 := own_other (o0.from e0) hid i0 f0
  have e1 := p0.ext
  have n1 : a1 id ≠ .free := by rw [q1]; intro e; cases e
  refine (Clone_RouteState_ok (h.routes.ext e1) hf.n1 (by rw [List.length_map]; exact hf.b1)).mono ?_
  rintro r b1 ⟨d1, rfl, o1⟩
  refine ⟨d1, rfl, cell_store ((o1.ext id n1).trans q1) (by simp [patch]) fun a2 q2 f1 => ?_⟩
  have i1 := nid o1 n1
  have ap01 := o1.apart p0.at_
  have p0 := own_other (p0.ext' o1.ext) hid i0 f1
  have p1 := own_other (o1.from e1) hid i1 f1
  have e2 := p1.ext
  have n2 : a2 id ≠ .free := by rw [q2]; intro e; cases e
  refine (Clone_Mover_ok (h.points.ext e2) hf.n2 (by rw [List.length_map]; exact hf.b2)).mono ?_
  rintro r b2 ⟨d2, rfl, o2⟩
  refine ⟨d2, rfl, cell_store ((o2.ext id n2).trans q2) (by simp [patch]) fun a3 q3 f2 => ?_⟩
  have i2 := nid o2 n2
  have ap02 := o2.apart p0.at_
  have ap12 := o2.apart p1.at_
  have p0 := own_other (p0.ext' o2.ext) hid i0 f2
  have p1 := own_other (p1.ext' o2.ext) hid i1 f2
  have p2 := own_other (o2.from e2) hid i2 f2
  have e3 := p2.ext
  have n3 : a3 id ≠ .free := by rw [q3]; intro e; cases e
  refine (Clone_Mover_ok (h.xs.ext e3) hf.n3 (by rw [List.length_map]; exact hf.b3)).mono ?_
  rintro r b3 ⟨d3, rfl, o3⟩
  refine ⟨d3, rfl, cell_store ((o3.ext id n3).trans q3) (by simp [patch]) fun a4 q4 f3 => ?_⟩
  have i3 := nid o3 n3
  have ap03 := o3.apart p0.at_
  have ap13 := o3.apart p1.at_
  have ap23 := o3.apart p2.at_
  have p0 := own_other (p0.ext' o3.ext) hid i0 f3
  have p1 := own_other (p1.ext' o3.ext) hid i1 f3
  have p2 := own_other (p2.ext' o3.ext) hid i2 f3
  have p3 := own_other (o3.from e3) hid i3 f3
  have e4 := p3.ext
  have n4 : a4 id ≠ .free := by rw [q4]; intro e; cases e
  refine (Clone_LineState_ok (h.lines.ext e4) hf.n4 (by rw [List.length_map]; exact hf.b4)).mono ?_
  rintro r b4 ⟨d4, rfl, o4⟩
  refine ⟨d4, rfl, cell_store ((o4.ext id n4).trans q4) (by simp [patch]) fun a5 q5 f4 => ?_⟩
  have i4 := nid o4 n4
  have ap04 := o4.apart p0.at_
  have ap14 := o4.apart p1.at_
  have ap24 := o4.apart p2.at_
  have ap34 := o4.apart p3.at_
  have p0 := own_other (p0.ext' o4.ext) hid i0 f4
  have p1 := own_other (p1.ext' o4.ext) hid i1 f4
  have p2 := own_other (p2.ext' o4.ext) hid i2 f4
  have p3 := own_other (p3.ext' o4.ext) hid i3 f4
  have p4 := own_other (o4.from e4) hid i4 f4
  have e5 := p4.ext
  have n5 : a5 id ≠ .free := by rw [q5]; intro e; cases e
  refine (Clone_int_ok (h.resets.ext e5) hf.n5 (by rw [List.length_map]; exact hf.b5)).mono ?_
  rintro r b5 ⟨d5, rfl, o5⟩
  refine ⟨d5, rfl, cell_store ((o5.ext id n5).trans q5) (by simp [patch]) fun a6 q6 f5 => ?_⟩
  have i5 := nid o5 n5
  have ap05 := o5.apart p0.at_
  have ap15 := o5.apart p1.at_
  have ap25 := o5.apart p2.at_
  have ap35 := o5.apart p3.at_
  have ap45 := o5.apart p4.at_
  have p0 := own_other (p0.ext' o5.ext) hid i0 f5
  have p1 := own_other (p1.ext' o5.ext) hid i1 f5
  have p2 := own_other (p2.ext' o5.ext) hid i2 f5
  have p3 := own_other (p3.ext' o5.ext) hid i3 f5
  have p4 := own_other (p4.ext' o5.ext) hid i4 f5
  have p5 := own_other (o5.from e5) hid i5 f5
  have e6 := p5.ext
  have n6 : a6 id ≠ .free := by rw [q6]; intro e; cases e
  refine (locks_Fits_ok hc (h.ext' e6)).use ⟨_, rfl, id, d0, d1, d2, d3, d4, d5, rfl, hid, q6, ⟨p0, p1, p2, p3, p4, p5, ?_⟩, ?_⟩
  · simp only [List.pairwise_cons, List.mem_cons, List.not_mem_nil, or_false, forall_eq_or_imp, forall_eq, List.Pairwise.nil, and_true, false_imp_iff, implies_true]
    exact ⟨⟨ap01, ap02, ap03, ap04, ap05⟩, ⟨ap12, ap13, ap14, ap15⟩, ⟨ap23, ap24, ap25⟩, ⟨ap34, ap35⟩, ap45⟩
  · intro d hd
    simp only [List.mem_cons, List.not_mem_nil, or_false] at hd
    rcases hd with rfl | rfl | rfl | rfl | rfl | rfl <;> assumption
end Go.Proofs.YtjggnhjidheliaaGreat
end
section
set_option linter.unusedVariables false
set_option linter.unusedSimpArgs false
namespace Go.Proofs.YtjggnhjidheliaaGreat
open Go.Fw Go.Proofs Go.RowKit
variable {σ σ0 : Store}
section
variable {c0 c1 c2 c3 c4 : D} {c : Cf} (hc : ∀ s, CfAt s c0 c1 c2 c3 c4 c)
/-- A function that does something to a desk. -/
def Does (σ0 : Store) (c0 c1 c2 c3 c4 : D) (c : Cf) (k : Co) (f : FuncId) (bs : List A) (E : Int) (Y : Co) (s : Store) : Prop :=
  ∀ id d0 d1 d2 d3 d4 d5 s1, Ext s s1 → CoIn σ0 s1 id t_locks_desk (cfC c0 c1 c2 c3 c4 c) [] d0 d1 d2 d3 d4 d5 k →
    DCalls Tryz.prog f ([] ++ [.one (.el (.osl id 0 1) 0 0)] ++ bs) s1 fun r s' => r = .a (iA E) ∧ Ext σ0 s' ∧ (E = 0 → CoIn σ0 s' id t_locks_desk (cfC c0 c1 c2 c3 c4 c) [] d0 d1 d2 d3 d4 d5 Y)
include hc
theorem locks_change_ok {k0 k1 k2 k3 k4 k5 : D} {k Y : Co} {E : Int} {f : FuncId} {b : List (Bool × List D)} {bs : List A} (h : CoAt σ k0 k1 k2 k3 k4 k5 k) (hf : CoFit k0 k1 k2 k3 k4 k5 k) (now : Int) (hb : capAs b = some bs)
    (hd : k.fits c = true → tm 0 now = true → Does σ c0 c1 c2 c3 c4 c k f bs E Y σ) :
    DCalls Tryz.prog n_locks_change [cfA c0 c1 c2 c3 c4 c, coA k0 k1 k2 k3 k4 k5 k.Dirty, iA now, .one (.fn f [] b)] σ (CoPost σ (k.done (k.gate c now E) Y)) := by
  refine W_locks_change _ _ _ _ _ _ _ _ _ k0 k1 k2 k3 k4 k5 k.Dirty now _ σ _ ((locks_open_ok hc h hf).mono ?_)
  rintro r s1 ⟨id, d0, d1, d2, d3, d4, d5, rfl, hI⟩
  refine ⟨_, _, rfl, ?_⟩
  intro R hR
  have bad : ∀ (e : Int) s, Ext σ s → e ≠ 0 → k.gate c now E = e → R e s := fun e s he hne hg => by
    refine hR e s ?_
    rw [show (e != 0) = true by simpa using hne]
    refine (locks_open_ok hc (h.ext' he) hf).mono ?_
    rintro r s2 ⟨id, d0, d1, d2, d3, d4, d5, rfl, hI2⟩
    refine ⟨_, _, rfl, trivial, _, _, _, rfl, _, box_row hI2.row, d0, d1, d2, d3, d4, d5, k.Dirty, rfl, ?_⟩
    rw [Co.done, hg, if_neg hne]
    exact ⟨d0, d1, d2, d3, d4, d5, rfl, hI2.co.from he⟩
  refine bcnot (fun e1 => ⟨rfl, bad 21 s1 hI.ext (by decide) (by rw [Co.gate, if_pos e1])⟩) (fun e1 => ?_)
  have hg1 : k.gate c now E = if tm 0 now = false then 32 else E := by rw [Co.gate, if_neg (by rw [e1]; decide)]
  refine newObj_intro fun id2 s2 hid2 _ he2 hs2 => ?_
  have hat : At Tryz.prog s2 t_int (.osl id2 0 1) ([now].map Go.Fw.encI) := At.fresh hs2 (by simp) rfl
  refine (locks_times_ok 0 (by omega) hat).use ⟨_, rfl, ?_⟩
  have ht : ([now].all fun n => decide (0 ≤ n ∧ n ≤ 4294967295 + 0)) = tm 0 now := by simp [tm]
  rw [ht]
  refine bcnot (fun e2 => ⟨rfl, bad 32 s2 (hI.ext.trans he2) (by decide) (by rw [hg1, if_pos e2])⟩) (fun e2 => ?_)
  rw [if_neg (by rw [e2]; decide)] at hg1
  have hI2 : CoIn σ s2 id t_locks_desk (cfC c0 c1 c2 c3 c4 c) [] d0 d1 d2 d3 d4 d5 k :=
    ⟨hI.new, (he2 id (by rw [hI.row]; intro e; cases e)).trans hI.row, ⟨hI.co.own.ext' he2, hI.co.routes.ext' he2, hI.co.points.ext' he2, hI.co.xs.ext' he2, hI.co.lines.ext' he2, hI.co.resets.ext' he2, hI.co.apart⟩, hI.ids⟩
  refine ⟨f, [], b, [], bs, rfl, rfl, hb, (hd e1 e2 id d0 d1 d2 d3 d4 d5 s2 (hI.ext.trans he2) hI2).mono ?_⟩
  rintro r s3 ⟨rfl, he3, hy⟩
  refine ⟨E, rfl, rfl, ?_⟩
  by_cases hE : E = 0
  · subst hE
    have hI3 := hy rfl
    refine hR 0 s3 ?_
    refine ⟨trivial, _, _, _, rfl, _, box_row hI3.row, d0, d1, d2, d3, d4, d5, Y.Dirty, rfl, ?_⟩
    rw [Co.done, hg1, if_pos rfl]
    exact ⟨d0, d1, d2, d3, d4, d5, rfl, hI3.co⟩
  · exact bad E s3 he3 hE hg1
omit hc
variable {id : Nat} {t : TypeId} {d0 d1 d2 d3 d4 d5 : D} {k : Co}
theorem desk_state_ok (hI : CoIn σ0 σ id t (cfC c0 c1 c2 c3 c4 c) [] d0 d1 d2 d3 d4 d5 k) (r : Int) :
    Pure Tryz.prog n_locks_desk_state [.one (.el (.osl id 0 1) 0 0), iA r] σ (match geti k.Routes r with | none => .tup [.one .nilp, iA 20] | some _ => .tup [.one (.el d1 r.toNat 0), iA 0]) := by
  have hs := hI.at.routes.size
  rw [List.length_map] at hs
  refine W_locks_desk_state _ r σ _ ⟨trivial, _, _, _, rfl, _, box_row hI.row, d1, rfl, hI.at.routes.lenK ((locks_between_ok _ _ _).use ⟨_, rfl, ?_⟩)⟩
  rw [List.length_map, w64_id (by omega) (by omega)]
  refine bcnot (fun e => ?_) (fun e => ?_)
  · have e := of_decide_eq_false e
    have : geti k.Routes r = none := by
      by_cases h0 : r < 0
      · exact geti_neg h0
      · exact geti_ge (by omega)
    rw [this]; exact ⟨rfl, rfl⟩
  · have e := of_decide_eq_true e
    obtain ⟨x, hx⟩ := geti_ex (l := k.Routes) (i := r) (by omega) (by omega)
    rw [hx]
    refine ⟨trivial, _, _, _, rfl, _, box_row hI.row, d1, rfl, hI.at.routes.idxK c_RouteState (Int.toNat_of_nonneg e.1).symm (by rw [List.length_map]; omega) ⟨rfl, rfl⟩⟩
include hc
theorem desk_inherits_ok (hI : CoIn σ0 σ id t (cfC c0 c1 c2 c3 c4 c) [] d0 d1 d2 d3 d4 d5 k) {r s o : Int} (ho : geti k.Own s = some o) (hlo : -2 ≤ o ∧ o ≤ c.Rts.length) (hr : 0 ≤ r ∧ r < c.Rts.length) :
    Pure Tryz.prog n_locks_desk_inherits [.one (.el (.osl id 0 1) 0 0), iA r, iA s] σ (.a (bA (k.inh c r s))) := by
  obtain ⟨g1, g2, g3⟩ := geti_some ho
  have w : w64 (o - 1) = o - 1 := w64_id (by omega) (by have := (rts_len (hc σ)); obtain ⟨rows, ha, hl⟩ := this; have := ha.size; omega)
  have hi : k.inh c r s = (decide (0 ≤ o - 1 ∧ o - 1 ≠ r) && (decide ((c.rt (o - 1)).Exit = (c.rt r).Entry) && inL (c.rt (o - 1)).Overlap s)) := by
    unfold Co.inh; rw [ho]; rfl
  have no : ¬ (0 ≤ o - 1 ∧ o - 1 ≠ r) → k.inh c r s = false := fun e => by rw [hi, decide_eq_false e]; rfl
  refine W_locks_desk_inherits _ r s σ _ ⟨trivial, _, _, _, rfl, _, box_row hI.row, d0, rfl, hI.at.own.load (map_get g3) c_int (Int.toNat_of_nonneg g1).symm ⟨o, rfl, ?_⟩⟩
  rw [w]
  refine bcd (fun e => by rw [no (by omega)]; exact ⟨rfl, rfl⟩) (fun e1 => bce (fun e => by rw [no (by omega)]; exact ⟨rfl, rfl⟩) (fun e2 => ?_))
  obtain ⟨q, hq⟩ := geti_ex (l := c.Rts) (i := o - 1) e1 (by omega)
  obtain ⟨x, hx⟩ := geti_ex (l := c.Rts) (i := r) (by omega) (by omega)
  obtain ⟨rows, q1, q2, q3, hat, hlen, hrow, f1, f2, f3⟩ := rt_frz hc (geti_some hq).2.2
  obtain ⟨rows', x1, x2, x3, hat', hlen', hrow', _, _, _⟩ := rt_frz hc (geti_some hx).2.2
  rw [hi, decide_eq_true (by omega), rt_some hq, rt_some hx, Bool.true_and]
  refine ⟨trivial, _, _, _, rfl, _, box_row hI.row, c4, rfl, (hat σ).load hrow c_Route (by omega) ⟨_, _, _, _, _, _, rfl, trivial, _, _, _, rfl, _, box_row hI.row, c4, rfl, (hat' σ).load hrow' c_Route (by omega) ⟨x.Entry, rfl, bce (fun e => ?_) (fun e => ?_)⟩⟩⟩
  · exact (Contains_int_ok s (f3 σ)).use ⟨_, rfl, by rw [decide_eq_true e]; exact ⟨rfl, rfl⟩⟩
  · rw [decide_eq_false e]; exact ⟨rfl, rfl⟩
theorem desk_may_ok' (hI : CoIn σ0 σ id t (cfC c0 c1 c2 c3 c4 c) [] d0 d1 d2 d3 d4 d5 k) {r : Int} {ds : D} {l : List Int} (hl : At Tryz.prog σ t_int ds (l.map Go.Fw.encI)) (hr : 0 ≤ r ∧ r < c.Rts.length)
    (hin : ∀ s ∈ l, ∃ o, geti k.Own s = some o) (hlo : ∀ o ∈ k.Own, -2 ≤ o ∧ o ≤ c.Rts.length) :
    Pure Tryz.prog n_locks_desk_may [.one (.el (.osl id 0 1) 0 0), iA r, .one ds] σ (.a (iA (k.may c r l))) := by
  have hs := hI.at.routes.size
  rw [List.length_map] at hs
  have hls := hl.size
  rw [List.length_map] at hls
  refine W_locks_desk_may _ r _ σ _ ⟨trivial, _, _, _, rfl, _, box_row hI.row, d1, rfl, hI.at.routes.lenK ⟨fun n s => s = σ ∧ Rng k.Routes (fun q => apprS c l q n.toNat = apprS c l k.Routes 0) n, fun n _ => k.Routes.length - n.toNat, ⟨rfl, .start rfl⟩, ?_⟩⟩
  rintro n s ⟨rfl, hq⟩
  rw [List.length_map]
  refine bcd (fun hlt => ?_) (fun hge => ?_)
  · obtain ⟨j, x, rfl, hx, hj, hF, nx⟩ := hq.step rfl (by omega) hlt
    rw [apprS, Int.toNat_natCast] at hF
    have next : (decide (x.State ≠ 0) && inL l (c.Approach j)) = false → (s = s ∧ Rng k.Routes (fun q => apprS c l q (w64 ((j : Int) + 1)).toNat = apprS c l k.Routes 0) (w64 ((j : Int) + 1))) ∧ k.Routes.length - (w64 ((j : Int) + 1)).toNat < k.Routes.length - (j : Int).toNat := fun e => by
      rw [e, Bool.false_or] at hF
      exact andl rfl (nx _ (by rw [w64_succ (by omega), Int.toNat_natCast]; exact hF))
    refine hI.at.routes.load (map_get hx) c_RouteState rfl ⟨x.State, x.Since, x.Next, x.Mark, rfl, bcn (fun e => ?_) (fun e => next (by rw [decide_eq_false (by simpa using e)]; rfl))⟩
    refine ⟨trivial, _, _, _, rfl, _, box_row hI.row, c0, c1, c2, c3, c4, _, _, _, _, rfl, (conf_Approach_ok (hc s) j).use ⟨_, rfl, (Contains_int_ok _ hl).use ⟨_, rfl, bc (fun e2 => ?_) (fun e2 => next (by rw [e2, Bool.and_false]))⟩⟩⟩
    have : apprS c l k.Routes 0 = true := by rw [← hF, e2, decide_eq_true e]; rfl
    rw [Co.may, if_pos this]; exact ⟨rfl, rfl⟩
  · have hF := hq.done rfl hge
    have hap : apprS c l k.Routes 0 = false := by rw [← hF]; rfl
    have hm : k.may c r l = if k.blocked c r l = true then 22 else 0 := by rw [Co.may, if_neg (by rw [hap]; decide)]
    rw [hm]
    refine hl.lenK ⟨fun n s' => s' = s ∧ Rng l (fun q => k.blocked c r q = k.blocked c r l) n, fun n _ => l.length - n.toNat, ⟨rfl, .start rfl⟩, ?_⟩
    rintro n s' ⟨rfl, hq⟩
    rw [List.length_map]
    refine bcd (fun hlt => ?_) (fun hge => ?_)
    · obtain ⟨j, v, rfl, hv, hj, hF, nx⟩ := hq.step rfl (by omega) hlt
      obtain ⟨o, ho⟩ := hin v (List.mem_of_getElem? hv)
      obtain ⟨g1, g2, g3⟩ := geti_some ho
      have hF : ((decide ((geti k.Own v).getD 0 ≠ 0) && !k.inh c r v) || k.blocked c r (l.drop (j + 1))) = k.blocked c r l := hF
      rw [ho, Option.getD_some] at hF
      refine hl.load (map_get hv) c_int rfl ⟨v, rfl, trivial, _, _, _, rfl, _, box_row hI.row, d0, rfl, hI.at.own.load (map_get g3) c_int (Int.toNat_of_nonneg g1).symm ⟨o, rfl, bcn (fun e => ?_) (fun e => ?_)⟩⟩
      · refine (desk_inherits_ok hc hI ho (hlo o (geti_mem ho)) hr).use ⟨_, rfl, bcnot (fun e2 => ?_) (fun e2 => ?_)⟩
        · rw [e2, decide_eq_true e] at hF
          rw [if_pos (by rw [← hF]; rfl)]; exact ⟨rfl, rfl⟩
        · rw [e2, Bool.not_true, Bool.and_false, Bool.false_or] at hF
          exact andl rfl (nx _ hF)
      · rw [decide_eq_false (by simpa using e), Bool.false_and, Bool.false_or] at hF
        exact andl rfl (nx _ hF)
    · have hF := hq.done rfl hge
      rw [if_neg (by rw [← hF]; show ¬ (false = true); decide)]; exact ⟨rfl, rfl⟩
end
end Go.Proofs.YtjggnhjidheliaaGreat
end
section
set_option linter.unusedVariables false
set_option linter.unusedSimpArgs false
namespace Go.Proofs.YtjggnhjidheliaaGreat
open Go.Fw Go.Proofs Go.RowKit
variable {σ σ0 : Store}
def cmdPre (xs : List A) (s : Store) : Prop := ∃ (m : Mv) (now cmd : Int), xs = [.agg m.enc, iA now, iA cmd]
def cmdPost (xs : List A) (s : Store) (r : RV) (s' : Store) : Prop := ∃ (m : Mv) (now cmd : Int), xs = [.agg m.enc, iA now, iA cmd] ∧ r = .a (.agg (cmdM m now cmd).enc) ∧ s' = s
theorem mover_Command_ok (m : Mv) (now cmd : Int) : Pure Tryz.prog n_mover_Command [.agg m.enc, iA now, iA cmd] σ (.a (.agg (cmdM m now cmd).enc)) :=
  W_mover_Command m.Cmd m.Other now cmd σ _ (bcn (fun e => ⟨by rw [cmdM, if_pos e]; rfl, rfl⟩) (fun e => ⟨by rw [cmdM, if_neg (by simpa using e)]; rfl, rfl⟩))
theorem cmd_spec : SpecOk Tryz.prog n_mover_Command cmdPre cmdPost := by
  refine ⟨?_, ?_, ?_, ?_, ?_⟩
  · rintro xs s ⟨m, now, cmd, rfl⟩
    exact (mover_Command_ok m now cmd).use ⟨m, now, cmd, rfl, rfl, rfl⟩
  · rintro xs s ⟨m, now, cmd, rfl⟩ hf
    exact ⟨_, s, ⟨m, now, cmd, rfl, rfl, rfl⟩, hf⟩
  · rintro xs s r s' ⟨m, now, cmd, rfl, rfl, rfl⟩ hf
    exact hf
  · rintro xs s id so hid hso ⟨m, now, cmd, rfl⟩
    refine ⟨⟨m, now, cmd, rfl⟩, ?_⟩
    rintro r s' ⟨m, now, cmd, e, rfl, rfl⟩
    exact ⟨s, ⟨m, now, cmd, e, rfl, rfl⟩, hid, rfl⟩
  · rintro xs s r s' _ ⟨m, now, cmd, rfl, rfl, rfl⟩ i _
    rfl
theorem cmd_post {m : Mv} {now cmd : Int} {s s' : Store} {r : RV} (h : cmdPost [.agg m.enc, iA now, iA cmd] s r s') : r = .a (.agg (cmdM m now cmd).enc) ∧ s' = s := by
  obtain ⟨m', now', cmd', e, h1, h2⟩ := h
  injection e with e1 e2
  injection e2 with e2 e3
  injection e3 with e3 _
  injection e1 with e1
  injection e2 with e2
  injection e3 with e3
  injection e2 with _ e2
  injection e3 with _ e3
  subst e2 e3
  have : m = m' := by
    cases m; cases m'
    simp [Mv.enc, iD] at e1
    simp [e1]
  subst this
  exact ⟨h1, h2⟩
section
variable {c0 c1 c2 c3 c4 : D} {c : Cf} (hc : ∀ s, CfAt s c0 c1 c2 c3 c4 c) {id : Nat} {t : TypeId} {d0 d1 d2 d3 d4 d5 : D} {k : Co}
include hc
theorem desk_line_ok' (hI : CoIn σ0 σ id t (cfC c0 c1 c2 c3 c4 c) [] d0 d1 d2 d3 d4 d5 k) (hok : c.check = 0) (hl4 : k.Lines.length = 4) {r : Int} {x : Rt} (hx : geti c.Rts r = some x) :
    Pure Tryz.prog n_locks_desk_line [.one (.el (.osl id 0 1) 0 0), iA r] σ (.a (.one (if lineF c x.Path > 0 then .el d4 (lineF c x.Path).toNat 0 else .nilp))) := by
  have hr := check_rt hok (geti_mem hx)
  obtain ⟨rows, q1, q2, q3, hat, hlen, hrow, f1, f2, f3⟩ := rt_frz hc (geti_some hx).2.2
  have hg := geti_some hx
  have w1 := hr.len
  refine W_locks_desk_line _ r σ _ ⟨trivial, _, _, _, rfl, _, box_row hI.row, c4, rfl, (hat σ).load hrow c_Route (by omega) ⟨q1, rfl, (f1 σ).lenK ⟨fun n s => s = σ ∧ Rng x.Path (fun q => lineF c q = lineF c x.Path) n, fun n _ => x.Path.length - n.toNat, ⟨rfl, .start rfl⟩, ?_⟩⟩⟩
  rintro n s ⟨rfl, hq⟩
  rw [List.length_map]
  refine bcd (fun hlt => ?_) (fun hge => ?_)
  · obtain ⟨j, y, rfl, hy, hj, hF, nx⟩ := hq.step rfl (by omega) hlt
    obtain ⟨z, hz, _⟩ := (hr.step y (List.mem_of_getElem? hy)).1.sec
    have hgz := geti_some hz
    rw [lineF, hz, Option.getD_some] at hF
    refine (f1 s).load (map_get hy) c_Step rfl ⟨y.Sec, y.In, y.Out, rfl, trivial, _, _, _, rfl, _, box_row hI.row, c0, rfl, (hc s).secs.load (map_get hgz.2.2) c_Section (Int.toNat_of_nonneg hgz.1).symm ⟨z.Line, rfl, bcd (fun e => ?_) (fun e => ?_)⟩⟩
    · rw [if_pos e] at hF
      rw [← hF, if_pos e]
      have hz3 := topo_line (check_parts hok).1 hgz.2.2
      exact ⟨trivial, _, _, _, rfl, _, box_row hI.row, d4, rfl, hI.at.lines.idxK c_LineState (Int.toNat_of_nonneg (by omega)).symm (by rw [List.length_map]; omega) ⟨rfl, rfl⟩⟩
    · rw [if_neg e] at hF
      exact andl rfl (nx _ hF)
  · have hF := hq.done rfl hge
    rw [← hF]; exact ⟨rfl, rfl⟩
theorem desk_request_ok (hI : CoIn σ0 σ id t (cfC c0 c1 c2 c3 c4 c) [] d0 d1 d2 d3 d4 d5 k) (hz : RtsNz c4) (hfit : k.fits c = true) (now r : Int) :
    DCalls Tryz.prog n_locks_desk_request [.one (.el (.osl id 0 1) 0 0), iA now, iA r] σ fun q s' => q = .a (iA (k.reqE c r)) ∧ Ext σ0 s' ∧ (k.reqE c r = 0 → CoIn σ0 s' id t (cfC c0 c1 c2 c3 c4 c) [] d0 d1 d2 d3 d4 d5 (k.lockC c now r)) := by
  have hfi := fits_iff.1 hfit
  have hok := hfi.chk
  have err : ∀ e : Int, k.reqE c r = e → e ≠ 0 → (RV.a (iA e) = RV.a (iA (k.reqE c r)) ∧ Ext σ0 σ ∧ (k.reqE c r = 0 → CoIn σ0 σ id t (cfC c0 c1 c2 c3 c4 c) [] d0 d1 d2 d3 d4 d5 (k.lockC c now r))) := fun e h1 h2 =>
    ⟨by rw [h1], hI.ext, fun h3 => absurd (h1.symm.trans h3) h2⟩
  refine W_locks_desk_request _ now r σ _ ((desk_state_ok hI r).use ?_)
  cases hgr : geti k.Routes r with
  | none => exact ⟨_, _, rfl, err 20 (by rw [Co.reqE, hgr]) (by decide)⟩
  | some x =>
    have hgx := geti_some hgr
    have hsz := hI.at.routes.size
    rw [List.length_map] at hsz
    have hxl := (List.getElem?_eq_some_iff.1 hgx.2.2).1
    have hE : k.reqE c r = if x.State ≠ 0 then 28 else if k.may c r (c.lockL r) ≠ 0 then k.may c r (c.lockL r) else if lineF c (c.rt r).Path > 0 ∧ ((geti k.Lines (lineF c (c.rt r).Path)).getD zLs).Ask ≥ 4294967295 then 5 else 0 := by
      rw [Co.reqE, hgr]
    obtain ⟨y, hy, hym⟩ := rt_of hfi hgr
    have hrok := check_rt hok hym
    have hyl := (List.getElem?_eq_some_iff.1 (geti_some hy).2.2).1
    have hcl : c.Rts.length = k.Routes.length := hfi.lRts.symm
    have hll : c.lockL r = Cf.lockR y := by unfold Cf.lockL; rw [hy]
    have hsec : ∀ s ∈ c.lockL r, ∃ z, geti c.Secs s = some z := fun s hs => lockR_sec hrok (by rw [← hll]; exact hs)
    refine ⟨_, _, rfl, ?_⟩
    show bcase ((0 : Int) != 0) _ _
    rw [show ((0 : Int) != 0) = false from by decide]
    refine ⟨trivial, _, _, _, rfl, _, hI.at.routes.row (map_get hgx.2.2), x.State, rfl, bcn (fun e => err 28 (by rw [hE, if_pos e]) (by decide)) (fun e1 => ?_)⟩
    rw [if_neg (by simpa using e1)] at hE
    refine ⟨trivial, _, _, _, rfl, _, box_row hI.row, c0, c1, c2, c3, c4, _, _, _, _, rfl, (conf_Locks_ok hc hok hz r).mono ?_⟩
    rintro q s ⟨rfl, d7, rfl, h7⟩
    have hin : ∀ v ∈ c.lockL r, ∃ o, geti k.Own v = some o := fun v hv => by
      obtain ⟨z, hz⟩ := hsec v hv
      have hg := geti_some hz
      have := (List.getElem?_eq_some_iff.1 hg.2.2).1
      exact geti_ex (by omega) (by have := hfi.lOwn; omega)
    refine ⟨d7, rfl, (desk_may_ok' hc hI (h7 s) (by omega) hin hfi.own).use ⟨_, rfl, bcn (fun e => err _ (by rw [hE, if_pos e]) e) (fun e2 => ?_)⟩⟩
    rw [if_neg (by simpa using e2), rt_some hy] at hE
    intro R hR
    have body : (lineF c y.Path > 0 → ((geti k.Lines (lineF c y.Path)).getD zLs).Ask < 4294967295) → ∀ s3, CoIn σ0 s3 id t (cfC c0 c1 c2 c3 c4 c) [] d0 d1 d2 d3 d4 d5 { k with Lines := askC (lineF c y.Path) k.Lines } → R s3 := by
      intro hask s3 hI3
      have hE0 : k.reqE c r = 0 := by rw [hE, if_neg (by intro h; have := hask h.1; omega)]
      refine hR s3 ?_
      have hz7 := (h7 s3).size
      rw [List.length_map] at hz7
      refine (h7 s3).lenK ⟨fun n s => ∃ j : Nat, n = j ∧ j ≤ (c.lockL r).length ∧ CoIn σ0 s id t (cfC c0 c1 c2 c3 c4 c) [] d0 d1 d2 d3 d4 d5 { k with Lines := askC (lineF c y.Path) k.Lines, Own := ((c.lockL r).take j).foldl (fun w s => w.set s.toNat (r + 1)) k.Own },
        fun n _ => (c.lockL r).length - n.toNat, ⟨0, rfl, by omega, by simpa using hI3⟩, ?_⟩
      rintro n s4 ⟨j, rfl, hj, hI4⟩
      rw [List.length_map]
      refine bcd (fun hlt => ?_) (fun hge => ?_)
      · obtain ⟨v, hv⟩ := get_of_lt (l := c.lockL r) (j := j) (by omega)
        obtain ⟨o, ho⟩ := hin v (List.mem_of_getElem? hv)
        have hgo := geti_some ho
        have hvl := (List.getElem?_eq_some_iff.1 hgo.2.2).1
        have hlo := ownC_len (r + 1) ((c.lockL r).take j) k.Own
        obtain ⟨o', ho'⟩ := get_of_lt (l := ((c.lockL r).take j).foldl (fun w s => w.set s.toNat (r + 1)) k.Own) (j := v.toNat) (by omega)
        refine (h7 s4).load (map_get hv) c_int rfl ⟨v, rfl, trivial, _, _, _, rfl, _, box_row hI4.row, d0, rfl, hI4.at.own.idxK c_int (Int.toNat_of_nonneg hgo.1).symm (by simp only [List.length_map]; omega) ?_⟩
        rw [w64_id (n := r + 1) (by omega) (by omega)]
        refine hI4.putO (k := { k with Lines := askC (lineF c y.Path) k.Lines, Own := ((c.lockL r).take j).foldl (fun w s => w.set s.toNat (r + 1)) k.Own }) (y := r + 1) ho' rfl (by simp) rfl fun s5 hI5 _ => ?_
        rw [w64_succ (by omega)]
        refine ⟨⟨j + 1, rfl, by omega, ?_⟩, dec_lt (by omega)⟩
        rw [List.take_add_one, hv, List.foldl_append]
        exact hI5
      have e : j = (c.lockL r).length := by omega
      rw [e, List.take_length] at hI4
      have hxr := hgx.2.2
      refine ⟨trivial, _, _, _, rfl, hI4.putR (k := { k with Lines := askC (lineF c y.Path) k.Lines, Own := (c.lockL r).foldl (fun w s => w.set s.toNat (r + 1)) k.Own }) (y := ⟨1, 0, 0, 0⟩) hxr rfl (by simp) rfl fun s5 hI5 _ => ?_⟩
      have hyn : (c.rt r).Path.length ≤ 2 ^ 20 := by rw [rt_some hy]; have := hrok.len; omega
      have hyf : (c.rt r).Flank.length ≤ 2 ^ 20 := by rw [rt_some hy]; have := hrok.flen; omega
      refine ⟨trivial, _, _, _, rfl, _, box_row hI5.row, c0, c1, c2, c3, c4, _, _, _, _, rfl, (mover_Needs_ok hc r hyn hyf).mono ?_⟩
      rintro q s6 ⟨rfl, d13, rfl, h13⟩
      have hnl : (c.Needs r).length ≤ 41 := by
        rw [Cf.Needs, rt_some hy]
        have := needs_len c y
        have := hrok.len; have := hrok.flen; omega
      refine ⟨d13, rfl, (h13 s6).lenK ⟨fun n s => ∃ j : Nat, n = j ∧ j ≤ (c.Needs r).length ∧ CoIn σ0 s id t (cfC c0 c1 c2 c3 c4 c) [] d0 d1 d2 d3 d4 d5 { k with Lines := askC (lineF c y.Path) k.Lines, Own := (c.lockL r).foldl (fun w s => w.set s.toNat (r + 1)) k.Own, Routes := k.Routes.set r.toNat ⟨1, 0, 0, 0⟩, Points := ptsC now ((c.Needs r).take j) k.Points },
        fun n _ => (c.Needs r).length - n.toNat, ⟨0, rfl, by omega, hI5⟩, ?_⟩⟩
      rintro n s7 ⟨j, rfl, hj, hI7⟩
      rw [List.length_map]
      refine bcd (fun hlt => ?_) (fun hge => ?_)
      · obtain ⟨nd, hnd⟩ := get_of_lt (l := c.Needs r) (j := j) (by omega)
        have hnm := List.mem_of_getElem? hnd
        obtain ⟨⟨z, hz⟩, _⟩ := needs_sec hrok (by rw [Cf.Needs, rt_some hy] at hnm; exact hnm)
        have hgz := geti_some hz
        have hzl := (List.getElem?_eq_some_iff.1 hgz.2.2).1
        have hpl := ptsC_len now ((c.Needs r).take j) k.Points
        have hpl2 := hfi.lPts
        obtain ⟨m, hm⟩ := get_of_lt (l := ptsC now ((c.Needs r).take j) k.Points) (j := nd.Sec.toNat) (by omega)
        have hgm : geti (ptsC now ((c.Needs r).take j) k.Points) nd.Sec = some m := by unfold geti; rw [if_neg (by omega), hm]
        refine (h13 s7).load (map_get hnd) c_Need rfl ⟨nd.Sec, nd.Pos, rfl, cmdPre, cmdPost, cmd_spec, trivial, _, _, _, rfl, _, box_row hI7.row, d2, rfl, trivial, _, _, _, rfl, _, box_row hI7.row, d2, rfl,
          hI7.at.points.load (map_get hm) c_Mover (Int.toNat_of_nonneg hgz.1).symm ⟨m.Cmd, m.Other, rfl, ⟨m, now, nd.Pos, rfl⟩, ?_⟩⟩
        intro q s8 hq
        obtain ⟨rfl, rfl⟩ := cmd_post (m := m) hq
        refine ⟨_, _, rfl, hI7.at.points.idxK c_Mover (Int.toNat_of_nonneg hgz.1).symm (by simp only [List.length_map]; omega) ?_⟩
        refine hI7.putP (k := { k with Lines := askC (lineF c y.Path) k.Lines, Own := (c.lockL r).foldl (fun w s => w.set s.toNat (r + 1)) k.Own, Routes := k.Routes.set r.toNat ⟨1, 0, 0, 0⟩, Points := ptsC now ((c.Needs r).take j) k.Points }) (y := cmdM m now nd.Pos) hm rfl (by simp) rfl fun s9 hI9 _ => ?_
        rw [w64_succ (by omega)]
        refine ⟨⟨j + 1, rfl, by omega, ?_⟩, dec_lt (by omega)⟩
        have e : ptsC now ((c.Needs r).take (j + 1)) k.Points = (ptsC now ((c.Needs r).take j) k.Points).set nd.Sec.toNat (cmdM m now nd.Pos) := by
          rw [List.take_add_one, hnd, ptsC, List.foldl_append]
          show (ptsC now ((c.Needs r).take j) k.Points).set nd.Sec.toNat (cmdM ((geti (ptsC now ((c.Needs r).take j) k.Points) nd.Sec).getD ⟨0, 0⟩) now nd.Pos) = _
          rw [hgm]; rfl
        rw [e]; exact hI9
      have e : j = (c.Needs r).length := by omega
      rw [e, List.take_length] at hI7
      have hxs := (check_xs hok).2.2
      refine ⟨trivial, _, _, _, rfl, _, box_row hI7.row, c0, c1, c2, c3, c4, _, _, _, _, rfl, (mover_Crossings_ok hc r (by omega)).mono ?_⟩
      rintro q s8 ⟨rfl, d19, rfl, h19⟩
      have hcl2 : (c.Cross r).length ≤ c.Xs.length := crossL_len _ _ _
      refine ⟨d19, rfl, (h19 s8).lenK ⟨fun n s => ∃ j : Nat, n = j ∧ j ≤ (c.Cross r).length ∧ CoIn σ0 s id t (cfC c0 c1 c2 c3 c4 c) [] d0 d1 d2 d3 d4 d5 { k with Lines := askC (lineF c y.Path) k.Lines, Own := (c.lockL r).foldl (fun w s => w.set s.toNat (r + 1)) k.Own, Routes := k.Routes.set r.toNat ⟨1, 0, 0, 0⟩, Points := ptsC now (c.Needs r) k.Points, Xs := xsC now ((c.Cross r).take j) k.Xs },
        fun n _ => (c.Cross r).length - n.toNat, ⟨0, rfl, by omega, hI7⟩, ?_⟩⟩
      rintro n s9 ⟨j, rfl, hj, hI9⟩
      rw [List.length_map]
      refine bcd (fun hlt => ?_) (fun hge => ?_)
      · obtain ⟨v, hv⟩ := get_of_lt (l := c.Cross r) (j := j) (by omega)
        obtain ⟨i, xx, e3, hxx, _⟩ := crossL_mem _ _ _ _ (List.mem_of_getElem? hv)
        rw [Nat.zero_add] at e3
        subst e3
        have hil := (List.getElem?_eq_some_iff.1 hxx).1
        have hpl := xsC_len now ((c.Cross r).take j) k.Xs
        have hpl2 := hfi.lXs
        obtain ⟨m, hm⟩ := get_of_lt (l := xsC now ((c.Cross r).take j) k.Xs) (j := i) (by omega)
        have hgm : geti (xsC now ((c.Cross r).take j) k.Xs) (i : Int) = some m := by rw [geti_nat, hm]
        refine (h19 s9).load (map_get hv) c_int rfl ⟨(i : Int), rfl, cmdPre, cmdPost, cmd_spec, trivial, _, _, _, rfl, _, box_row hI9.row, d3, rfl, trivial, _, _, _, rfl, _, box_row hI9.row, d3, rfl,
          hI9.at.xs.load (map_get hm) c_Mover rfl ⟨m.Cmd, m.Other, rfl, ⟨m, now, 1, rfl⟩, ?_⟩⟩
        intro q s10 hq
        obtain ⟨rfl, rfl⟩ := cmd_post (m := m) hq
        refine ⟨_, _, rfl, hI9.at.xs.idxK c_Mover rfl (by simp only [List.length_map]; omega) ?_⟩
        refine hI9.putX (k := { k with Lines := askC (lineF c y.Path) k.Lines, Own := (c.lockL r).foldl (fun w s => w.set s.toNat (r + 1)) k.Own, Routes := k.Routes.set r.toNat ⟨1, 0, 0, 0⟩, Points := ptsC now (c.Needs r) k.Points, Xs := xsC now ((c.Cross r).take j) k.Xs }) (y := cmdM m now 1) hm (by rw [Int.toNat_natCast]) (by simp) rfl fun s11 hI11 _ => ?_
        rw [w64_succ (by omega)]
        refine ⟨⟨j + 1, rfl, by omega, ?_⟩, dec_lt (by omega)⟩
        have e : xsC now ((c.Cross r).take (j + 1)) k.Xs = (xsC now ((c.Cross r).take j) k.Xs).set i (cmdM m now 1) := by
          rw [List.take_add_one, hv, xsC, List.foldl_append]
          show (xsC now ((c.Cross r).take j) k.Xs).set ((i : Int)).toNat (cmdM ((geti (xsC now ((c.Cross r).take j) k.Xs) (i : Int)).getD ⟨0, 0⟩) now 1) = _
          rw [hgm]; rfl
        rw [e]; exact hI11
      have e : j = (c.Cross r).length := by omega
      rw [e, List.take_length] at hI9
      refine ⟨trivial, _, _, _, rfl, hI9.dirty (b := true) rfl fun s10 hI10 _ => ⟨by rw [hE0], hI10.ext, fun _ => ?_⟩⟩
      have : k.lockC c now r = { k with Lines := askC (lineF c y.Path) k.Lines, Own := (c.lockL r).foldl (fun w s => w.set s.toNat (r + 1)) k.Own, Routes := k.Routes.set r.toNat ⟨1, 0, 0, 0⟩, Points := ptsC now (c.Needs r) k.Points, Xs := xsC now (c.Cross r) k.Xs, Dirty := true } := by
        rw [Co.lockC, rt_some hy]
      rw [this]; exact hI10
    refine (desk_line_ok' hc hI hok hfi.lLn hy).use ⟨_, rfl, ?_⟩
    by_cases hl : lineF c y.Path > 0
    · rw [if_pos hl]
      have hl3 := (line_ok hok y.Path).2
      obtain ⟨u, hu⟩ := get_of_lt (l := k.Lines) (j := (lineF c y.Path).toNat) (by have := hfi.lLn; omega)
      have hgu : geti k.Lines (lineF c y.Path) = some u := by unfold geti; rw [if_neg (by omega), hu]
      refine ⟨false, rfl, ?_⟩
      show bcase (false != true) _ _
      rw [show (false != true) = true from by decide]
      refine ⟨trivial, _, _, _, rfl, _, hI.at.lines.row (map_get hu), u.Ask, rfl, bcd (fun e => err 5 (by rw [hE, if_pos ⟨hl, by rw [hgu]; exact e⟩]) (by decide)) (fun e3 => ?_)⟩
      refine ⟨trivial, _, _, _, rfl, _, hI.at.lines.row (map_get hu), u.Ask, rfl, trivial, _, _, _, rfl, ?_⟩
      have hua := (hfi.lns u (List.mem_of_getElem? hu))
      simp only [Ls.fits, tm, Bool.and_eq_true, decide_eq_true_eq] at hua
      rw [w64_id (n := u.Ask + 1) (by omega) (by omega)]
      refine hI.putL (y := { u with Ask := u.Ask + 1 }) hu rfl (by simp) rfl fun s4 hI4 _ => body (fun _ => by rw [hgu]; show u.Ask < 4294967295; omega) s4 ?_
      have : askC (lineF c y.Path) k.Lines = k.Lines.set (lineF c y.Path).toNat { u with Ask := u.Ask + 1 } := by rw [askC, if_pos hl, hgu]; rfl
      rw [this]; exact hI4
    · rw [if_neg hl]
      refine ⟨true, rfl, ?_⟩
      show bcase (true != true) _ _
      rw [show (true != true) = false from by decide]
      refine body (fun h => absurd h hl) s ?_
      have : askC (lineF c y.Path) k.Lines = k.Lines := by rw [askC, if_neg hl]
      rw [this]; exact hI
end
end Go.Proofs.YtjggnhjidheliaaGreat
end
section
set_option linter.unusedVariables false
set_option linter.unusedSimpArgs false
namespace Go.Proofs.YtjggnhjidheliaaGreat
open Go.Fw Go.Proofs Go.RowKit
variable {σ σ0 : Store}
theorem live_ext {s s' : Store} {id : Nat} {t : TypeId} {rows : List (List D)} (h : s id = .live t rows) (he : Ext s s') : s' id = .live t rows := (he id (by rw [h]; intro e; cases e)).trans h
theorem CoPost.from {σ1 s : Store} {p : Co × Int} {r : RV} (he : Ext σ σ1) (h : CoPost σ1 p r s) : CoPost σ p r s := by
  obtain ⟨d0, d1, d2, d3, d4, d5, e, ho⟩ := h
  exact ⟨d0, d1, d2, d3, d4, d5, e, ho.from he⟩
theorem CoPost.pass {s : Store} {p : Co × Int} {r : RV} {Q : RV → Store → Prop} (h : CoPost σ p r s) (hq : Q r s) :
    ∃ d d1 d2 d3 d4 d5 : D, ∃ b : Bool, ∃ n1 : Int, r = .tup [.agg [d, d1, d2, d3, d4, d5, .bool b], .one (.int .i64 n1)] ∧ Q (.tup [.agg [d, d1, d2, d3, d4, d5, .bool b], .one (.int .i64 n1)]) s := by
  obtain ⟨d0, d1, d2, d3, d4, d5, e, ho⟩ := h
  refine ⟨d0, d1, d2, d3, d4, d5, p.1.Dirty, p.2, e, ?_⟩
  rw [← e]; exact hq
section
variable {c0 c1 c2 c3 c4 k0 k1 k2 k3 k4 k5 : D} {c : Cf} (hc : ∀ s, CfAt s c0 c1 c2 c3 c4 c) {k : Co} (h : CoAt σ k0 k1 k2 k3 k4 k5 k) (hf : CoFit k0 k1 k2 k3 k4 k5 k)
include hc h hf
theorem locks_Request_ok (hz : RtsNz c4) (now r : Int) : DCalls Tryz.prog n_locks_Request [cfA c0 c1 c2 c3 c4 c, coA k0 k1 k2 k3 k4 k5 k.Dirty, iA now, iA r] σ (CoPost σ (k.requestC c now r)) := by
  refine W_locks_Request _ _ _ _ _ _ _ _ _ k0 k1 k2 k3 k4 k5 k.Dirty now r σ _ (newObj_intro fun id s1 hid _ e1 q1 => newObj_intro fun id1 s2 hid1 _ e2 q2 => ?_)
  have q12 := live_ext q1 e2
  refine ⟨_, box_row q12, now, rfl, (locks_change_ok hc (h.ext' (e1.trans e2)) hf now (bs := [.one (.el (.osl id 0 1) 0 0), .one (.el (.osl id1 0 1) 0 0)]) (E := k.reqE c r) (Y := k.lockC c now r) rfl ?_).mono fun q s3 hp => hp.pass (hp.from (e1.trans e2))⟩
  intro hfit ht id' d0 d1 d2 d3 d4 d5 s3 he hI
  refine W_locks_Request_1 _ _ _ s3 _ ⟨_, _, _, rfl, _, box_row (live_ext q12 he), now, rfl, _, _, _, rfl, _, box_row (live_ext q2 he), r, rfl, (desk_request_ok hc hI hz hfit now r).mono ?_⟩
  rintro q s4 ⟨rfl, w1, w2⟩
  exact ⟨_, rfl, rfl, w1, w2⟩
end
end Go.Proofs.YtjggnhjidheliaaGreat
end
section
set_option linter.unusedVariables false
set_option linter.unusedSimpArgs false
namespace Go.Proofs.YtjggnhjidheliaaGreat
open Go.Fw Go.Proofs Go.RowKit
theorem ty_RouteZ {row : List D} {n : Nat} (h : tyD Tryz.prog n t_Route row) : ∃ r : Rt, ((∀ s, RtAt Tryz.prog t_Step t_Need t_int s row r) ∧ RtI r) ∧ row[4]? ≠ some .zsl := by
  obtain ⟨_, _, rfl, ⟨a, rfl, ha⟩, _, _, rfl, ⟨b, rfl, hb⟩, d1, _, rfl, h1, d2, _, rfl, h2, d3, _, rfl, h3, _, _, rfl, ⟨sh, rfl⟩, rfl⟩ := ty_sh n 5 _ _ [.int .i64, .int .i64, .sl t_Step, .sl t_Need, .sl t_int, .bool] h (by kernel_rfl)
  obtain ⟨l1, a1, b1, _, e1⟩ := sh_rows (bytes := 24) St.enc _ (fun row n h => ty_Step h) (by kernel_rfl) (by omega) h1
  obtain ⟨l2, a2, b2, _, e2⟩ := sh_rows (bytes := 16) Nd.enc _ (fun row n h => ty_Need h) (by kernel_rfl) (by omega) h2
  obtain ⟨l3, a3, b3, z3, e3⟩ := sh_rows (bytes := 8) Go.Fw.encI _ (fun row n h => ty_i h) (by kernel_rfl) (by omega) h3
  exact ⟨⟨a, b, l1, l2, l3, sh⟩, ⟨fun s => ⟨d1, d2, d3, rfl, a1 s, a2 s, a3 s⟩, wf_i64 ha, wf_i64 hb, b1, b2, b3, e1, e2, e3⟩, fun e => z3 (by injection e)⟩
theorem ty_ConfigZ {cs : List D} {n : Nat} (h : tyD Tryz.prog n t_Config cs) : ∃ c0 c1 c2 c3 c4 c, cs = [c0, c1, c2, c3, c4, iD c.Age, iD c.Brake, iD c.Hold, iD c.Budget] ∧ (∀ s, CfAt s c0 c1 c2 c3 c4 c) ∧ CfI c ∧ RtsNz c4 := by
  obtain ⟨c0, _, rfl, h0, c1, _, rfl, h1, c2, _, rfl, h2, c3, _, rfl, h3, c4, _, rfl, h4, _, _, rfl, ⟨a, rfl, ha⟩, _, _, rfl, ⟨b, rfl, hb⟩, _, _, rfl, ⟨ho, rfl, hho⟩, _, _, rfl, ⟨bu, rfl, hbu⟩, rfl⟩ :=
    ty_sh n 5 _ _ [.sl t_Section, .sl t_Joint, .sl t_Signal, .sl t_int, .sl t_Route, .int .i64, .int .i64, .int .i64, .int .i64] h (by kernel_rfl)
  obtain ⟨l0, a0, b0, _, e0⟩ := sh_rows (bytes := 24) Sec.enc _ (fun row n h => ty_Section h) (by kernel_rfl) (by omega) h0
  obtain ⟨l1, a1, b1, _, e1⟩ := sh_rows (bytes := 32) Jt.enc _ (fun row n h => ty_Joint h) (by kernel_rfl) (by omega) h1
  obtain ⟨l2, a2, b2, _, e2⟩ := sh_rows (bytes := 16) Sg.enc _ (fun row n h => ty_Signal h) (by kernel_rfl) (by omega) h2
  obtain ⟨l3, a3, b3, _, e3⟩ := sh_rows (bytes := 8) Go.Fw.encI _ (fun row n h => ty_i h) (by kernel_rfl) (by omega) h3
  obtain ⟨rows, l4, a4, q4, b4, _, e4⟩ := sh_rel (bytes := 96) (fun row r => ((∀ s, RtAt Tryz.prog t_Step t_Need t_int s row r) ∧ RtI r) ∧ row[4]? ≠ some .zsl) (fun row n h => ty_RouteZ h) (by kernel_rfl) (by omega) h4
  refine ⟨c0, c1, c2, c3, c4, ⟨l0, l1, l2, l3, l4, a, b, ho, bu⟩, rfl, fun s => ⟨a0 s, a1 s, a2 s, a3 s, rows, a4 s, q4, fun i row r x y => (b4 i row r x y).1.1 s⟩, ⟨b0, b1, b2, b3, ?_, wf_i64 ha, wf_i64 hb, wf_i64 hho, wf_i64 hbu, e0, e1, e2, e3, e4⟩, ?_⟩
  · intro r hr
    obtain ⟨i, hi⟩ := List.mem_iff_getElem?.1 hr
    have hi : l4[i]? = some r := hi
    have hlt := (List.getElem?_eq_some_iff.1 hi).1
    obtain ⟨row, hrow⟩ := get_of_lt (l := rows) (j := i) (by omega)
    exact (b4 i row r hrow hi).1.2
  · have hr := (a4 noS).rows
    cases c4 <;> first | trivial | skip
    obtain ⟨rfl, _⟩ := hr
    intro row hrow
    obtain ⟨i, hi⟩ := List.mem_iff_getElem?.1 hrow
    have hlt := (List.getElem?_eq_some_iff.1 hi).1
    obtain ⟨r, hr⟩ := get_of_lt (l := l4) (j := i) (by omega)
    exact (b4 i row r hi hr).2
end Go.Proofs.YtjggnhjidheliaaGreat
end
section
set_option linter.unusedVariables false
set_option linter.unusedSimpArgs false
namespace Go.Proofs.YtjggnhjidheliaaGreat
open Go.Fw Go.Proofs Go.RowKit
variable {σ : Store}
theorem CoFz.fit {d0 d1 d2 d3 d4 d5 : D} {k : Co} (h : CoFz d0 d1 d2 d3 d4 d5 k) (hs : k.Own.length ≤ 2 ^ 20 ∧ k.Routes.length ≤ 2 ^ 20 ∧ k.Points.length ≤ 2 ^ 20 ∧ k.Xs.length ≤ 2 ^ 20 ∧ k.Lines.length ≤ 2 ^ 20 ∧ k.Resets.length ≤ 2 ^ 20) : CoFit d0 d1 d2 d3 d4 d5 k :=
  ⟨h.n0, h.n1, h.n2, h.n3, h.n4, h.n5, by omega, by omega, by omega, by omega, by omega, by omega⟩
end Go.Proofs.YtjggnhjidheliaaGreat
end
section
set_option linter.unusedVariables false
set_option linter.unusedSimpArgs false
namespace Go.Proofs.YtjggnhjidheliaaGreat
open Go.Fw Go.Proofs Go.RowKit
variable {σ : Store}
def LawTrue (f : FuncId) (xs : List A) : Prop := DCalls Tryz.prog f xs noS fun r _ => r = .a (.one (.bool true))
end Go.Proofs.YtjggnhjidheliaaGreat
end
section
set_option linter.unusedVariables false
set_option linter.unusedSimpArgs false
namespace Go.Proofs.YtjggnhjidheliaaGreat
open Go.Fw Go.Proofs Go.RowKit
variable {σ : Store}
/-- A state of the end: who owns the line's section, the line. -/
def endK (o : Int) (x : Ls) (b : Bool) : Co := ⟨[o, 0], [⟨0, 0, 0, 0⟩], [⟨0, 0⟩, ⟨0, 0⟩], [], [zLs, x, zLs, zLs], [0, 0], b⟩
/-- The end's line, a cycle later. -/
def endStep (occ stamp now : Int) (o : Int) (x : Ls) (b : Bool) : Co :=
  let m := decide (x.PAsk > (if x.PDone > x.Grant then x.PDone else x.Grant)) && decide (x.Ask = x.Done)
  let k' : Co := if o = -2 then
      if x.PDone < x.Grant then endK o { x with Since := 0 } b
      else if x.Since = 0 then endK o { x with Since := w64 (now + 1) } b
      else if occ = 0 ∧ x.Since ≤ stamp then endK 0 { x with Since := 0 } true
      else endK o x b
    else if o = 0 ∧ m = true then endK (-2) { x with Grant := x.PAsk, Since := 0 } true
    else endK o x b
  if b = true then k' else { k' with Lines := k'.Lines.set 1 { (k'.Lines[1]?).getD zLs with Told := x.Grant } }
end Go.Proofs.YtjggnhjidheliaaGreat
end
section
set_option linter.unusedVariables false
set_option linter.unusedSimpArgs false
namespace Go.Proofs.YtjggnhjidheliaaGreat
open Go.Fw Go.Proofs Go.RowKit
variable {σ : Store}
theorem CoFz.fits {d0 d1 d2 d3 d4 d5 k0 k1 k2 k3 k4 k5 : D} {k : Co} (h : CoFz d0 d1 d2 d3 d4 d5 k) (hf : CoFit k0 k1 k2 k3 k4 k5 k) : CoFit d0 d1 d2 d3 d4 d5 k :=
  ⟨h.n0, h.n1, h.n2, h.n3, h.n4, h.n5, hf.b0, hf.b1, hf.b2, hf.b3, hf.b4, hf.b5⟩
theorem CoOwn.ext' {σ0 s s' : Store} {d0 d1 d2 d3 d4 d5 : D} {k : Co} (h : CoOwn σ0 s d0 d1 d2 d3 d4 d5 k) (he : Ext s s') : CoOwn σ0 s' d0 d1 d2 d3 d4 d5 k :=
  ⟨h.own.ext' he, h.routes.ext' he, h.points.ext' he, h.xs.ext' he, h.lines.ext' he, h.resets.ext' he, h.apart⟩
end Go.Proofs.YtjggnhjidheliaaGreat
end
section
set_option linter.unusedVariables false
set_option linter.unusedSimpArgs false
namespace Go.Fw
theorem apprS_idle {c : Cf} {l : List Int} : ∀ (rs : List Rs) (j : Nat), (∀ x ∈ rs, x.State = 0) → apprS c l rs j = false
  | [], _, _ => rfl
  | x :: r, j, h => by
    rw [apprS, apprS_idle r _ fun y hy => h y (by simp [hy]), h x (by simp)]; rfl
end Go.Fw
end
section
set_option linter.unusedVariables false
set_option linter.unusedSimpArgs false
namespace Go.Proofs.YtjggnhjidheliaaGreat
open Go.Fw Go.Proofs Go.RowKit
variable {σ σ0 : Store}
/-- The station that the laws of the locks write. -/
def litS : Cf := ⟨[⟨0, 0, 0⟩, ⟨1, 0, 0⟩, ⟨0, 0, 0⟩, ⟨0, 0, 0⟩, ⟨0, 0, 1⟩], [⟨0, 1, 1, 0⟩, ⟨1, 1, 2, 0⟩, ⟨1, 2, 3, 0⟩, ⟨2, 1, 4, 0⟩], [⟨0, 1⟩, ⟨2, 1⟩], [], [⟨0, 1, [⟨1, 0, 1⟩, ⟨2, 0, 1⟩], [], [], false⟩, ⟨1, -1, [⟨4, 0, 1⟩], [], [], false⟩], 2, 1, 4, 1000⟩
def sD0 : D := .sl 3 [[iD 0, iD 0, iD 0], [iD 1, iD 0, iD 0], [iD 0, iD 0, iD 0], [iD 0, iD 0, iD 0], [iD 0, iD 0, iD 1]]
def sD1 : D := .sl 4 [[iD 0, iD 1, iD 1, iD 0], [iD 1, iD 1, iD 2, iD 0], [iD 1, iD 2, iD 3, iD 0], [iD 2, iD 1, iD 4, iD 0]]
def sD2 : D := .sl 2 [[iD 0, iD 1], [iD 2, iD 1]]
def sD4 : D := .sl 6 [[iD 0, iD 1, .sl 3 [[iD 1, iD 0, iD 1], [iD 2, iD 0, iD 1]], .nils, .nils, .bool false], [iD 1, iD (-1), .sl 3 [[iD 4, iD 0, iD 1]], .nils, .nils, .bool false]]
theorem litS_at (s : Store) : CfAt s sD0 sD1 sD2 .nils sD4 litS :=
  ⟨at_lit c_Section (by simp), at_lit c_Joint (by simp), at_lit c_Signal (by simp), .nil, ⟨_, at_lit c_Route (by simp), rfl, fun i row r h1 h2 => by
    have hi : i = 0 ∨ i = 1 := by have := (List.getElem?_eq_some_iff.1 h1).1; simp at this; omega
    rcases hi with rfl | rfl
    · simp at h1; subst h1
      simp [litS] at h2; subst h2
      exact ⟨_, _, _, rfl, at_lit c_Step (by simp), .nil, .nil⟩
    · simp at h1; subst h1
      simp [litS] at h2; subst h2
      exact ⟨_, _, _, rfl, at_lit c_Step (by simp), .nil, .nil⟩⟩⟩
theorem litS_nz : RtsNz sD4 := by
  intro row hr
  simp only [List.mem_cons, List.not_mem_nil, or_false] at hr
  rcases hr with rfl | rfl <;> (intro e; cases e)
theorem law13_station_ok : Pure Tryz.prog n_law13_station [] σ (.a (cfA sD0 sD1 sD2 .nils sD4 litS)) := W_law13_station σ _ ⟨rfl, rfl⟩
theorem lockL0 : litS.lockL 0 = [1, 2] := by
  show Cf.lockR ⟨0, 1, [⟨1, 0, 1⟩, ⟨2, 0, 1⟩], [], [], false⟩ = [1, 2]
  rw [← insL_lockR]; decide +kernel
theorem req13_a : (newCo litS 5).requestC litS 5 0 = (newCo litS 5, 22) := by
  have h : (newCo litS 5).reqE litS 0 = 22 := by unfold Co.reqE; rw [lockL0]; decide +kernel
  have hg : (newCo litS 5).gate litS 5 22 = 22 := by decide +kernel
  rw [Co.requestC, h, hg]; rfl
def k13 : Co := { newCo litS 5 with Own := [-1, 0, 0, -1, -1] }
theorem req13_b : k13.requestC litS 5 0 = (k13.lockC litS 5 0, 0) := by
  have h : k13.reqE litS 0 = 0 := by unfold Co.reqE; rw [lockL0]; decide +kernel
  have hg : k13.gate litS 5 0 = 0 := by decide +kernel
  rw [Co.requestC, h, hg]; rfl
theorem req13_o : (k13.lockC litS 5 0).Own = [-1, 1, 1, -1, -1] := by unfold Co.lockC; rw [lockL0]; decide +kernel
theorem req13_r : (k13.lockC litS 5 0).Routes = [⟨1, 0, 0, 0⟩, ⟨0, 0, 0, 0⟩] := by unfold Co.lockC; rw [lockL0]; decide +kernel
theorem req13_p : (k13.lockC litS 5 0).Points[1]? = some ⟨1, 5⟩ := by unfold Co.lockC; rw [lockL0]; decide +kernel
theorem CoOwn.fit {s : Store} {d0 d1 d2 d3 d4 d5 : D} {k : Co} (h : CoOwn σ s d0 d1 d2 d3 d4 d5 k) (hl : k.Own.length ≤ 2 ^ 20 ∧ k.Routes.length ≤ 2 ^ 20 ∧ k.Points.length ≤ 2 ^ 20 ∧ k.Xs.length ≤ 2 ^ 20 ∧ k.Lines.length ≤ 2 ^ 20 ∧ k.Resets.length ≤ 2 ^ 20) : CoFit d0 d1 d2 d3 d4 d5 k :=
  ⟨h.own.nz, h.routes.nz, h.points.nz, h.xs.nz, h.lines.nz, h.resets.nz, by omega, by omega, by omega, by omega, by omega, by omega⟩
theorem law13_lives_ok : Pure Tryz.prog n_law13_lives [] σ (.a (bA true)) := by
  refine .of (W_law13_lives σ _ (law13_station_ok.use ⟨_, _, _, _, _, _, _, _, _, rfl, (locks_New_ok litS_at 5 (by decide) (by decide) (by decide)).mono ?_⟩)) (flat_b _)
  rintro r s ⟨k0, k1, k2, k3, k4, k5, rfl, hk⟩
  refine ⟨_, _, _, _, _, _, _, rfl, ?_⟩
  intro R hR
  refine hk.own.at_.lenK (bcn (fun e => absurd rfl e) (fun _ => law13_station_ok.use ⟨_, _, _, _, _, _, _, _, _, rfl, (locks_Fits_ok litS_at hk.at).use ⟨_, rfl, ?_⟩⟩))
  rw [show (newCo litS 5).fits litS = true from by decide +kernel]
  refine bcnot (fun e => by cases e) (fun _ => ⟨rfl, hR s ?_⟩)
  refine law13_station_ok.use ⟨_, _, _, _, _, _, _, _, _, rfl, (locks_Request_ok litS_at hk.at (hk.fit (by decide)) litS_nz 5 0).mono ?_⟩
  rintro r s1 ⟨a0, a1, a2, a3, a4, a5, rfl, ha⟩
  rw [req13_a] at ha ⊢
  refine ⟨_, _, _, _, _, _, _, _, rfl, ?_⟩
  have hk1 := hk.ext' ha.own.ext
  refine hk1.own.at_.idxK (j := 1) c_int rfl (by decide) (hk1.putO (j := 1) (x := -1) (y := 0) rfl rfl (by simp) rfl fun s2 hk2 _ => hk2.own.at_.idxK (j := 2) c_int rfl (by decide) (hk2.putO (j := 2) (x := -1) (y := 0) rfl rfl (by simp) rfl fun s3 hk3 _ => ?_))
  refine law13_station_ok.use ⟨_, _, _, _, _, _, _, _, _, rfl, (locks_Request_ok (k := k13) litS_at hk3.at (hk3.fit (by decide)) litS_nz 5 0).mono ?_⟩
  rintro r s4 ⟨b0, b1, b2, b3, b4, b5, rfl, hb⟩
  rw [req13_b] at hb ⊢
  refine ⟨_, _, _, _, _, _, _, _, rfl, bce (fun _ => bce (fun _ => ?_) (fun e => absurd rfl e)) (fun e => absurd rfl e)⟩
  have o := hb.own.at_
  have rr := hb.routes.at_
  rw [req13_o] at o
  rw [req13_r] at rr
  refine o.load (j := 1) (row := [iD 1]) rfl c_int rfl ⟨1, rfl, bce (fun _ => rr.load (j := 0) (row := [iD 1, iD 0, iD 0, iD 0]) rfl c_RouteState rfl ⟨1, rfl, bce (fun _ => ?_) (fun e => absurd rfl e)⟩) (fun e => absurd rfl e)⟩
  refine hb.points.at_.load (j := 1) (map_get req13_p) c_Mover rfl ⟨1, 5, rfl, rfl, ?_⟩
  exact hk3.own.ext.trans hb.own.ext
/-- A place of a list that a law makes of any number. -/
theorem place_ok {len : Nat} (h : 1 ≤ len ∧ len ≤ 2 ^ 20) (s : Int) : IntKind.wrap .u64 (len : Int) ≠ 0 ∧ ∃ j : Nat, w64 (Int.tmod (IntKind.wrap .u64 s) (IntKind.wrap .u64 (len : Int))) = j ∧ j < len := by
  have e1 : IntKind.wrap .u64 (len : Int) = len := by rw [IntKind.wrap_u64]; omega
  have e2 : 0 ≤ IntKind.wrap .u64 s := by rw [IntKind.wrap_u64]; omega
  rw [e1]
  refine ⟨by omega, (Int.tmod (IntKind.wrap .u64 s) (len : Int)).toNat, ?_⟩
  rw [Int.tmod_eq_emod_of_nonneg e2]
  have a := Int.emod_nonneg (IntKind.wrap .u64 s) (b := (len : Int)) (by omega)
  have b := Int.emod_lt_of_pos (IntKind.wrap .u64 s) (b := (len : Int)) (by omega)
  rw [w64_id (by omega) (by omega)]
  omega
end Go.Proofs.YtjggnhjidheliaaGreat
end
section
set_option linter.unusedVariables false
set_option linter.unusedSimpArgs false
namespace Go.Fw
def openK (c : Cf) : Co := { newCo c 0 with Own := List.replicate c.Secs.length 0 }
theorem open_fits {c : Cf} (h : c.check = 0) : (openK c).fits c = true := by
  have h0 := fits_iff.1 (new_fits (c := c) (now := 0) h (by decide))
  rw [fits_iff]
  exact ⟨h0.chk, by simp [openK], h0.lPts, h0.lRes, h0.lRts, h0.lXs, h0.lLn, fun o ho => by
    have := (List.mem_replicate.1 ho).2
    omega, h0.rts, h0.pts, h0.xs, h0.lns, h0.res⟩
theorem open_req {c : Cf} (h : c.check = 0) {r : Int} {y : Rt} (hy : geti c.Rts r = some y) : (openK c).reqE c r = 0 := by
  have hr := check_rt h (geti_mem hy)
  have hgy := geti_some hy
  have hx : geti (openK c).Routes r = some ⟨0, 0, 0, 0⟩ := by
    unfold geti
    rw [if_neg (by omega)]
    show (List.replicate c.Rts.length (⟨0, 0, 0, 0⟩ : Rs))[r.toNat]? = _
    rw [List.getElem?_replicate, if_pos (by omega)]
  have hap : apprS c (c.lockL r) (openK c).Routes 0 = false := apprS_idle _ _ fun x hx => by rw [(List.mem_replicate.1 hx).2]
  have hb : (openK c).blocked c r (c.lockL r) = false := by
    refine List.any_eq_false.2 fun v hv => ?_
    have : (geti (openK c).Own v).getD 0 = 0 := geti_d (p := fun o : Int => o = 0) rfl fun o ho => (List.mem_replicate.1 ho).2
    rw [this]; simp
  have hl : ((geti (openK c).Lines (lineF c (c.rt r).Path)).getD zLs).Ask < 4294967295 := by
    refine geti_d (p := fun l : Ls => l.Ask < 4294967295) (by decide) fun l hl => ?_
    rw [(List.mem_replicate.1 hl).2]; decide
  rw [Co.reqE, hx]
  show (if (0 : Int) ≠ 0 then 28 else _) = 0
  rw [if_neg (by decide)]
  have hm : (openK c).may c r (c.lockL r) = 0 := by rw [Co.may, if_neg (by rw [hap]; decide), if_neg (by rw [hb]; decide)]
  rw [hm, if_neg (by decide), if_neg (by omega)]
/-- Who owns what a route has locked. -/
theorem lock_own {c : Cf} {k : Co} (hf : FitIs c k) (now : Int) {r : Int} {y : Rt} (hy : geti c.Rts r = some y) {v : Int} (hv : v ∈ c.lockL r) : geti (k.lockC c now r).Own v = some (r + 1) := by
  have hr := check_rt hf.chk (geti_mem hy)
  have hll : c.lockL r = Cf.lockR y := by unfold Cf.lockL; rw [hy]
  have hsec : ∀ s ∈ c.lockL r, ∃ z, geti c.Secs s = some z := fun s hs => lockR_sec hr (by rw [← hll]; exact hs)
  obtain ⟨z, hz⟩ := hsec v hv
  have hgz := geti_some hz
  have hzl := (List.getElem?_eq_some_iff.1 hgz.2.2).1
  unfold geti
  rw [if_neg (by omega)]
  show ((c.lockL r).foldl (fun w s => w.set s.toNat (r + 1)) k.Own)[v.toNat]? = _
  rw [ownC_get (c.lockL r) k.Own (fun x hx => by obtain ⟨z, hz⟩ := hsec x hx; exact (geti_some hz).1) (by have := hf.lOwn; omega), if_pos (by rw [Int.toNat_of_nonneg hgz.1]; exact hv)]
/-- Two routes of which the second could be locked behind the first have no section of their paths in common. -/
theorem lock_apart {c : Cf} {k : Co} (hf : FitIs c k) {now a b : Int} {x y : Rt} (ha : geti c.Rts a = some x) (hb : geti c.Rts b = some y) (he : (k.lockC c now a).reqE c b = 0) :
    ∀ s ∈ x.Path, ∀ u ∈ y.Path, s.Sec ≠ u.Sec := by
  intro s hs u hu e
  have hra := check_rt hf.chk (geti_mem ha)
  have hrb := check_rt hf.chk (geti_mem hb)
  have hva : s.Sec ∈ c.lockL a := by unfold Cf.lockL; rw [ha]; exact mem_lockR.2 (.inr (.inl (List.mem_map.2 ⟨s, hs, rfl⟩)))
  have hvb : s.Sec ∈ c.lockL b := by unfold Cf.lockL; rw [hb]; exact mem_lockR.2 (.inr (.inl (List.mem_map.2 ⟨u, hu, e.symm⟩)))
  have ho := lock_own hf now ha hva
  have h0 := (geti_some ha).1
  have hbl := (req_zero he).2.2.1
  have hq := List.any_eq_false.1 hbl s.Sec hvb
  rw [ho, Option.getD_some] at hq
  have hinh : (k.lockC c now a).inh c b s.Sec = false := by
    unfold Co.inh
    rw [ho]
    show (decide ((0 : Int) ≤ a + 1 - 1 ∧ a + 1 - 1 ≠ b) && (decide ((c.rt (a + 1 - 1)).Exit = (c.rt b).Entry) && inL (c.rt (a + 1 - 1)).Overlap s.Sec)) = false
    rw [show a + 1 - 1 = a by omega, rt_some ha]
    have : inL x.Overlap s.Sec = false := by
      unfold inL
      refine decide_eq_false fun hov => ?_
      have := (hra.ov hov).2.1
      unfold hasSec at this
      rw [List.any_eq_false] at this
      exact this s hs (by simp)
    rw [this, Bool.and_false, Bool.and_false]
  rw [hinh] at hq
  exact hq (by simp; omega)
theorem lock_state {c : Cf} {k : Co} {now a : Int} {x : Rs} (h : geti k.Routes a = some x) : geti (k.lockC c now a).Routes a = some ⟨1, 0, 0, 0⟩ := by
  have hg := geti_some h
  have hl := (List.getElem?_eq_some_iff.1 hg.2.2).1
  unfold geti
  rw [if_neg (by omega)]
  show (k.Routes.set a.toNat ⟨1, 0, 0, 0⟩)[a.toNat]? = _
  rw [List.getElem?_set, if_pos rfl, if_pos hl]
/-- A right state is small. -/
theorem fits_small' {c : Cf} {k : Co} (h : k.fits c = true) : k.Own.length ≤ 16 ∧ k.Routes.length ≤ 12 ∧ k.Points.length ≤ 16 ∧ k.Xs.length ≤ 4 ∧ k.Lines.length = 4 ∧ k.Resets.length ≤ 16 := by
  have hf := fits_iff.1 h
  have hs := check_small hf.chk
  have := hf.lOwn; have := hf.lRts; have := hf.lPts; have := hf.lXs; have := hf.lLn; have := hf.lRes
  omega
end Go.Fw
end
section
set_option linter.unusedVariables false
set_option linter.unusedSimpArgs false
namespace Go.Proofs.YtjggnhjidheliaaGreat
open Go.Fw Go.Proofs Go.RowKit
variable {σ σ0 : Store}
theorem law13_opened_ok {c0 c1 c2 c3 c4 : D} {c : Cf} (hc : ∀ s, CfAt s c0 c1 c2 c3 c4 c) (hok : c.check = 0) :
    DCalls Tryz.prog n_law13_opened [cfA c0 c1 c2 c3 c4 c] σ fun r s => ∃ d0 d1 d2 d3 d4 d5, r = .a (coA d0 d1 d2 d3 d4 d5 true) ∧ CoOwn σ s d0 d1 d2 d3 d4 d5 (openK c) := by
  have hsm := check_small hok
  refine W_law13_opened _ _ _ _ _ _ _ _ _ σ _ ((locks_New_ok hc 0 (by omega) (by omega) (by omega)).mono ?_)
  rintro r s ⟨d0, d1, d2, d3, d4, d5, rfl, hk⟩
  refine ⟨_, _, _, _, _, _, _, rfl, ?_⟩
  have e0 : (newCo c 0).Own.length = c.Secs.length := by simp [newCo]
  refine hk.own.at_.lenK ⟨fun n s => ∃ j : Nat, n = j ∧ j ≤ c.Secs.length ∧ CoOwn σ s d0 d1 d2 d3 d4 d5 { newCo c 0 with Own := List.replicate j 0 ++ List.replicate (c.Secs.length - j) (-1) }, fun n _ => c.Secs.length - n.toNat, ⟨0, rfl, by omega, by simpa [newCo] using hk⟩, ?_⟩
  rintro n s1 ⟨j, rfl, hj, hk1⟩
  rw [List.length_map, e0]
  refine bcd (fun hlt => ?_) (fun hge => ?_)
  · have hx : (List.replicate j (0 : Int) ++ List.replicate (c.Secs.length - j) (-1))[j]? = some (-1) := by
      rw [List.getElem?_append_right (by simp), List.length_replicate, Nat.sub_self, List.getElem?_replicate, if_pos (by omega)]
    refine hk1.own.at_.idxK c_int rfl (by simp; omega) (hk1.putO (k := { newCo c 0 with Own := List.replicate j 0 ++ List.replicate (c.Secs.length - j) (-1) }) (y := 0) hx (by rw [Int.toNat_natCast]) (by simp) rfl fun s2 hk2 _ => ⟨rfl, ?_⟩)
    rw [w64_succ (by omega)]
    refine ⟨⟨j + 1, rfl, by omega, ?_⟩, dec_lt (by omega)⟩
    have e : (List.replicate j (0 : Int) ++ List.replicate (c.Secs.length - j) (-1)).set j 0 = List.replicate (j + 1) 0 ++ List.replicate (c.Secs.length - (j + 1)) (-1) := by
      apply List.ext_getElem?
      intro i
      rw [List.getElem?_set]
      by_cases h1 : j = i
      · subst h1
        rw [if_pos rfl, if_pos (by simp; omega), List.getElem?_append_left (by simp), List.getElem?_replicate, if_pos (by omega)]
      · rw [if_neg h1]
        by_cases h2 : i < j
        · rw [List.getElem?_append_left (by simpa using h2), List.getElem?_append_left (by simp; omega), List.getElem?_replicate, List.getElem?_replicate, if_pos h2, if_pos (by omega)]
        · rw [List.getElem?_append_right (by simp; omega), List.getElem?_append_right (by simp; omega), List.getElem?_replicate, List.getElem?_replicate]
          simp only [List.length_replicate]
          by_cases h3 : i < c.Secs.length
          · rw [if_pos (by omega), if_pos (by omega)]
          · rw [if_neg (by omega), if_neg (by omega)]
    rw [← e]; exact hk2
  · have e : j = c.Secs.length := by omega
    subst e
    rw [Nat.sub_self, List.replicate_zero, List.append_nil] at hk1
    exact ⟨d0, d1, d2, d3, d4, d5, rfl, hk1⟩
theorem law13_LocksApart_ok {xs : List A} (h : TyAs Tryz.prog [t_Config, t_int, t_int] xs) : LawTrue n_law13_LocksApart xs := by
  obtain ⟨a0, xs, rfl, h0, hr0⟩ := tys_cons h
  obtain ⟨a1, xs, rfl, h1, hr1⟩ := tys_cons hr0
  obtain ⟨a2, xs, rfl, h2, hr2⟩ := tys_cons hr1
  obtain rfl := tys_nil hr2
  obtain ⟨cs, _, rfl, p0⟩ := tya_agg h0 (by kernel_rfl)
  obtain ⟨c0, c1, c2, c3, c4, c, rfl, hc, hci, hz⟩ := ty_ConfigZ p0
  obtain ⟨ra, rfl, _⟩ := tya_int h1 (by kernel_rfl) (by kernel_rfl)
  obtain ⟨rb, rfl, _⟩ := tya_int h2 (by kernel_rfl) (by kernel_rfl)
  clear h h0 h1 h2 hr0 hr1 hr2 p0
  refine W_law13_LocksApart _ _ _ _ _ _ _ _ _ ra rb noS _ (law13_lives_ok.use ⟨true, rfl, bcnot (fun e => by cases e) (fun _ => ?_)⟩)
  intro R hR
  refine (ref06_Check_ok hc).use ⟨_, rfl, bcn (fun _ => rfl) (fun hok => ?_)⟩
  have hsm := check_small hok
  obtain ⟨rows, hat, hlen⟩ := rts_len (hc noS)
  refine hat.lenK (bce (fun _ => rfl) (fun hne => hR noS ?_))
  rw [hlen] at hne
  obtain ⟨w1, a, ha, hal⟩ := place_ok (len := c.Rts.length) ⟨by omega, by omega⟩ ra
  obtain ⟨w2, b, hb, hbl⟩ := place_ok (len := c.Rts.length) ⟨by omega, by omega⟩ rb
  refine hat.lenK ?_
  rw [hlen, ha]
  refine ⟨w1, hat.lenK ?_⟩
  rw [hlen, hb]
  refine ⟨w2, (law13_opened_ok hc hok).mono ?_⟩
  obtain ⟨x, hx⟩ := get_of_lt (l := c.Rts) (j := a) hal
  obtain ⟨y, hy⟩ := get_of_lt (l := c.Rts) (j := b) hbl
  have gx : geti c.Rts (a : Int) = some x := by rw [geti_nat, hx]
  have gy : geti c.Rts (b : Int) = some y := by rw [geti_nat, hy]
  have hof := open_fits hok
  have hoi := fits_iff.1 hof
  have ht5 : tm 0 5 = true := by decide
  have hre := open_req hok gx
  have hq1 : (openK c).requestC c 5 a = ((openK c).lockC c 5 a, 0) := by
    have gt : (openK c).gate c 5 0 = 0 := by rw [Co.gate, if_neg (by rw [hof]; decide), if_neg (by rw [ht5]; decide)]
    rw [Co.requestC, Co.done, hre, gt]; rfl
  have hf1 := lock_fits hof ht5 hre
  have hf1i := fits_iff.1 hf1
  have fitO : ∀ {s0 s : Store} {d0 d1 d2 d3 d4 d5 : D} {k : Co}, k.fits c = true → CoOwn s0 s d0 d1 d2 d3 d4 d5 k → CoFit d0 d1 d2 d3 d4 d5 k := fun hf h => h.fit (by have := fits_small' hf; omega)
  have hstO : geti (openK c).Routes (a : Int) = some ⟨0, 0, 0, 0⟩ := by
    rw [geti_nat]
    show (List.replicate c.Rts.length (⟨0, 0, 0, 0⟩ : Rs))[a]? = _
    rw [List.getElem?_replicate, if_pos hal]
  have hst1 := lock_state (now := 5) (c := c) hstO
  rw [geti_nat] at hst1
  generalize hK1 : (openK c).lockC c 5 a = K1 at hq1 hf1 hf1i hst1
  rintro q s1 ⟨k0, k1, k2, k3, k4, k5, rfl, hk⟩
  refine ⟨_, _, _, _, _, _, _, rfl, (locks_Request_ok (k := openK c) hc hk.at (fitO hof hk) hz 5 a).mono ?_⟩
  rintro q s2 ⟨d0, d1, d2, d3, d4, d5, rfl, hd⟩
  rw [hq1] at hd ⊢
  refine ⟨_, _, _, _, _, _, _, _, rfl, ?_⟩
  intro R1 hR1
  refine bcn (fun e => absurd rfl e) (fun _ => hd.routes.at_.load (map_get hst1) c_RouteState rfl ⟨1, rfl, bcn (fun e => absurd rfl e) (fun _ => ⟨rfl, hR1 s2 ?_⟩)⟩)
  refine (ref06_Locks_ok hc hok a).mono ?_
  rintro q s ⟨rfl, d12, rfl, h12⟩
  have hrx := check_rt hok (geti_mem gx)
  have hry := check_rt hok (geti_mem gy)
  have hsz := (h12 s).size
  rw [List.length_map] at hsz
  refine ⟨d12, rfl, (h12 s).lenK ⟨fun n s' => s' = s ∧ ∃ j : Nat, n = j ∧ j ≤ (c.lockL a).length, fun n _ => (c.lockL a).length - n.toNat, ⟨rfl, 0, rfl, by omega⟩, ?_⟩⟩
  rintro n s' ⟨rfl, j, rfl, hj⟩
  rw [List.length_map]
  refine bcd (fun hlt => ?_) (fun hge => ?_)
  · obtain ⟨v, hv⟩ := get_of_lt (l := c.lockL a) (j := j) (by omega)
    have ho := lock_own hoi 5 gx (List.mem_of_getElem? hv)
    rw [hK1] at ho
    refine (h12 s').load (map_get hv) c_int rfl ⟨v, rfl, hd.own.at_.load (map_get (geti_some ho).2.2) c_int (Int.toNat_of_nonneg (geti_some ho).1).symm ⟨(a : Int) + 1, rfl, bcn (fun e => absurd ?_ e) (fun _ => ?_)⟩⟩
    · rw [w64_id (by omega) (by omega)]
    · rw [w64_succ (by omega)]
      exact ⟨rfl, ⟨rfl, j + 1, rfl, by omega⟩, dec_lt (by omega)⟩
  · refine (locks_Request_ok (k := K1) hc hd.at (fitO hf1 hd) hz 6 b).mono ?_
    rintro q s3 ⟨f0, f1, f2, f3, f4, f5, rfl, hf⟩
    have hg6 : K1.gate c 6 (K1.reqE c b) = K1.reqE c b := by rw [Co.gate, if_neg (by rw [hf1]; decide), if_neg (by decide)]
    have hq2 : K1.requestC c 6 b = (if K1.reqE c b = 0 then K1.lockC c 6 b else K1, K1.reqE c b) := by rw [Co.requestC, Co.done, hg6]
    rw [hq2] at hf ⊢
    have hd3 := hd.ext' hf.own.ext
    refine ⟨_, _, _, _, _, _, _, _, rfl, bce (fun e0 => ?_) (fun e0 => ?_)⟩
    · have e0 : K1.reqE c b = 0 := e0
      have hf : CoOwn s' s3 f0 f1 f2 f3 f4 f5 (K1.lockC c 6 b) := by rw [if_pos e0] at hf; exact hf
      have hap := lock_apart hoi (now := 5) gx gy (by rw [hK1]; exact e0)
      obtain ⟨z, hzs, hz0⟩ := (req_zero e0).1
      have hab : a ≠ b := by
        intro e; subst e
        rw [geti_nat, hst1] at hzs
        injection hzs with hzs
        rw [← hzs] at hz0; cases hz0
      obtain ⟨rx, x1, x2, x3, hatx, hlx, hrowx, px, _, _⟩ := rt_frz hc hx
      obtain ⟨ry, y1, y2, y3, haty, hly, hrowy, py, _, _⟩ := rt_frz hc hy
      have wx := hrx.len
      have wy := hry.len
      have hS2 : (K1.lockC c 6 b).Routes[a]? = some ⟨1, 0, 0, 0⟩ := by
        show (K1.Routes.set (b : Int).toNat ⟨1, 0, 0, 0⟩)[a]? = _
        rw [Int.toNat_natCast, List.getElem?_set, if_neg (Ne.symm hab), hst1]
      have hS3 : (K1.lockC c 6 b).Routes[b]? = some ⟨1, 0, 0, 0⟩ := by
        have := lock_state (now := 6) (c := c) hzs
        rw [geti_nat] at this; exact this
      refine (hatx s3).load hrowx c_Route rfl ⟨x1, rfl, (px s3).lenK ⟨fun n s => s = s3 ∧ ∃ j : Nat, n = j ∧ j ≤ x.Path.length, fun n _ => x.Path.length - n.toNat, ⟨rfl, 0, rfl, by omega⟩, ?_⟩⟩
      rintro n s ⟨rfl, j, rfl, hj⟩
      rw [List.length_map]
      refine bcd (fun hlt => ?_) (fun hge => ?_)
      · obtain ⟨u, hu⟩ := get_of_lt (l := x.Path) (j := j) (by omega)
        refine (px s).load (map_get hu) c_Step rfl ⟨u.Sec, u.In, u.Out, rfl, (haty s).load hrowy c_Route rfl ⟨y1, rfl, (py s).lenK ⟨fun n s' => s' = s ∧ ∃ i : Nat, n = i ∧ i ≤ y.Path.length, fun n _ => y.Path.length - n.toNat, ⟨rfl, 0, rfl, by omega⟩, ?_⟩⟩⟩
        rintro n s' ⟨rfl, i, rfl, hi⟩
        rw [List.length_map]
        refine bcd (fun hlt => ?_) (fun hge => ?_)
        · obtain ⟨w, hw⟩ := get_of_lt (l := y.Path) (j := i) (by omega)
          refine (py s').load (map_get hw) c_Step rfl ⟨w.Sec, w.In, w.Out, rfl, bce (fun e => absurd e (hap u (List.mem_of_getElem? hu) w (List.mem_of_getElem? hw))) (fun _ => ?_)⟩
          rw [w64_succ (by omega)]
          exact ⟨rfl, ⟨rfl, i + 1, rfl, by omega⟩, dec_lt (by omega)⟩
        · rw [w64_succ (by omega)]
          exact ⟨rfl, ⟨rfl, j + 1, rfl, by omega⟩, dec_lt (by omega)⟩
      · refine hf.routes.at_.load (map_get hS2) c_RouteState rfl ⟨1, 0, 0, 0, rfl, hd3.routes.at_.load (map_get hst1) c_RouteState rfl ⟨1, 0, 0, 0, rfl, bc (fun _ => ?_) (fun e => absurd e (by decide))⟩⟩
        refine bcn (fun _ => hf.routes.at_.load (map_get hS3) c_RouteState rfl ⟨1, rfl, rfl⟩) (fun e => absurd (by exact_mod_cast e) hab)
    · have hf : CoOwn s' s3 f0 f1 f2 f3 f4 f5 K1 := by rw [if_neg e0] at hf; exact hf
      rw [if_neg e0]
      refine (ref13_Same_ok hf.at hd3.at).use ⟨_, rfl, ?_⟩
      rw [decide_eq_true rfl]
end Go.Proofs.YtjggnhjidheliaaGreat
end
