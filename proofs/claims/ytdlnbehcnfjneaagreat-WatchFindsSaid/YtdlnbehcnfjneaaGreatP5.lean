/-
  Proofs that the statement of this claim leans on: part 5.
-/
import Derived.Test.YtdlnbehcnfjneaaGreatP4
set_option linter.unusedVariables false
set_option linter.unusedSimpArgs false
namespace Go.Proofs.YtdlnbehcnfjneaaGreat
open Go.Fw Go.Proofs Go.RowKit
section
variable {σ : Store}
theorem ref06_sameInts_ok {a b : D} {la lb : List Int} (ha : At Tryz.prog σ t_int a (la.map Go.Fw.encI)) (hb : At Tryz.prog σ t_int b (lb.map Go.Fw.encI)) : Pure Tryz.prog n_ref06_sameInts [.one a, .one b] σ (.a (bA (decide (la = lb)))) := by
 have hs := ha.size
 rw [List.length_map] at hs
 refine W_ref06_sameInts a b σ _ (ha.lenK (hb.lenK ?_))
 rw [List.length_map, List.length_map]
 refine bcn (fun hne => ⟨?_, rfl⟩) (fun he => ha.lenK ?_)
 · rw [decide_eq_false (fun e => hne (by rw [e]))]
 have hl : la.length = lb.length := by omega
 rw [List.length_map]
 refine ⟨fun n s => s = σ ∧ EqR la lb n, fun n _ => la.length - n.toNat, ⟨rfl, .start _ _⟩, ?_⟩
 rintro n s ⟨rfl, hr⟩
 refine bcd (fun hlt => ?_) (fun hge => ⟨?_, rfl⟩)
 · obtain ⟨j, x, y, rfl, hx, hy, hn, hy2⟩ := hr.step hl rfl hs hlt
   refine ha.load (map_get hx) c_int rfl ⟨x, rfl, hb.load (map_get hy) c_int rfl ⟨y, rfl, bcn (fun e => ⟨?_, rfl⟩) (fun e => andl rfl (hy2 e))⟩⟩
   rw [decide_eq_false (hn e)]
 · rw [decide_eq_true (hr.done hl rfl hge)]
theorem ref06_SameNeeds_ok {a b : D} {la lb : List Nd} (ha : At Tryz.prog σ t_Need a (la.map Nd.enc)) (hb : At Tryz.prog σ t_Need b (lb.map Nd.enc)) : Pure Tryz.prog n_ref06_SameNeeds [.one a, .one b] σ (.a (bA (decide (la = lb)))) := by
 have hs := ha.size
 rw [List.length_map] at hs
 refine W_ref06_SameNeeds a b σ _ (ha.lenK (hb.lenK ?_))
 rw [List.length_map, List.length_map]
 refine bcn (fun hne => ⟨?_, rfl⟩) (fun he => ha.lenK ?_)
 · rw [decide_eq_false (fun e => hne (by rw [e]))]
 have hl : la.length = lb.length := by omega
 rw [List.length_map]
 refine ⟨fun n s => s = σ ∧ EqR la lb n, fun n _ => la.length - n.toNat, ⟨rfl, .start _ _⟩, ?_⟩
 rintro n s ⟨rfl, hr⟩
 refine bcd (fun hlt => ?_) (fun hge => ⟨?_, rfl⟩)
 · obtain ⟨j, x, y, rfl, hx, hy, hn, hy2⟩ := hr.step hl rfl hs hlt
   refine ha.load (map_get hx) c_Need rfl ⟨x.Sec, x.Pos, rfl, hb.load (map_get hy) c_Need rfl ⟨y.Sec, y.Pos, rfl, bcnot (fun e => ⟨?_, rfl⟩) (fun e => andl rfl (hy2 ?_))⟩⟩
   · rw [decide_eq_false (hn fun g => by rw [g] at e; simp at e)]
   · simp at e; cases x; cases y; simp at e; simp [e]
 · rw [decide_eq_true (hr.done hl rfl hge)]
section
variable {c0 c1 c2 c3 c4 : D} {c : Cf} (h : ∀ s, CfAt s c0 c1 c2 c3 c4 c)
include h
theorem ref06_path_ok (ht : topoOk c.Secs c.Jts = true) (hsg : c.sigsOk = true) (r : Rt) {d1 d2 d3 : D} (hp : ∀ s, At Tryz.prog s t_Step d1 (r.Path.map St.enc)) :
   Pure Tryz.prog n_ref06_path [cfA c0 c1 c2 c3 c4 c, rtA d1 d2 d3 r] σ (.a (bA (c.path r))) := by
 have hl := (hp σ).size
 rw [List.length_map] at hl
 refine .of (W_ref06_path _ _ _ _ _ _ _ _ _ _ _ d1 d2 d3 _ σ _ ?_) (flat_b _)
 intro R hR
 have no : c.path r = false → (RV.a (bA false) = .a (bA (c.path r)) ∧ Ext σ σ) := fun e => ⟨by rw [e], .refl _⟩
 refine bcd (fun e => no (by rw [Cf.path, geti_neg e])) (fun e0 => (h σ).sigs.lenK ?_)
 rw [List.length_map]
 refine bcd (fun e => no (by rw [Cf.path, geti_ge e])) (fun e1 => ?_)
 obtain ⟨a, hg⟩ := geti_ex e0 e1
 have hpath : c.path r = ((decide (r.Exit = -1) || (geti c.Sigs r.Exit).isSome) && decide (1 ≤ r.Path.length ∧ r.Path.length ≤ 8) && prunA c r (geti c.Sigs r.Exit) r.Path a [a.Sec]) := by rw [Cf.path, hg]
 refine bcd (fun e => no (by rw [hpath, geti_neg (by omega), decide_eq_false (by omega)]; rfl)) (fun e2 => (h σ).sigs.lenK ?_)
 rw [List.length_map]
 refine bcd (fun e => no (by rw [hpath, geti_ge e, decide_eq_false (by omega)]; rfl)) (fun e3 => (hp σ).lenK ?_)
 rw [List.length_map]
 refine bcd (fun e => no (by rw [hpath, decide_eq_false (p := 1 ≤ r.Path.length ∧ _) (by omega), Bool.and_false, Bool.false_and])) (fun e4 => (hp σ).lenK ?_)
 rw [List.length_map]
 refine bcd (fun e => no (by rw [hpath, decide_eq_false (p := 1 ≤ r.Path.length ∧ _) (by omega), Bool.and_false, Bool.false_and])) (fun e5 => hR σ ?_)
 have hex1 : (decide (r.Exit = -1) || (geti c.Sigs r.Exit).isSome) = true := by
   by_cases e : r.Exit = -1
   · rw [decide_eq_true e]; rfl
   · obtain ⟨x, hx⟩ := geti_ex (l := c.Sigs) (i := r.Exit) (by omega) e3
     rw [hx]; simp
 rw [hex1, decide_eq_true (by omega), Bool.true_and, Bool.true_and] at hpath
 have hgs := geti_some hg
 refine (h σ).sigs.load (map_get hgs.2.2) c_Signal (by omega) ⟨a.Sec, a.End_, rfl, newObj_intro fun id s1 hid _ he1 hs1 => (hp s1).lenK ?_⟩
 rw [List.length_map]
 refine ⟨fun m e d n s => ∃ seen : List Int, Own Tryz.prog σ s t_int d (seen.reverse.map Go.Fw.encI) ∧ (seen.length : Int) ≤ n + 1 ∧ Rng r.Path (fun q => prunA c r (geti c.Sigs r.Exit) q ⟨m, e⟩ seen = c.path r) n, fun _ _ _ n _ => r.Path.length - n.toNat,
   ⟨[a.Sec], .at_new hid he1 hs1 (by simp) rfl, by simp, .start hpath.symm⟩, ?_⟩
 rintro m e d n s ⟨seen, ho, hsl, hr⟩
 refine bcd (fun hlt => ?_) (fun hge => ?_)
 · obtain ⟨j, x, rfl, hx, hj, hF, nx⟩ := hr.step rfl hl hlt
   intro R1 hR1
   refine (hp s).load (map_get hx) c_Step rfl ⟨x.Sec, x.In, x.Out, rfl, (ref05_Next_ok m e (h s).jts).use (opt2_ex _ ?_)⟩
   rw [prunA] at hF
   have hes := ho.ext
   have bad : pstep c r (geti c.Sigs r.Exit) ⟨m, e⟩ x (r.Path.drop (j + 1)).isEmpty seen = false → (RV.a (.one (.bool false)) = .a (bA (c.path r)) ∧ Ext σ s) := fun hb => by
     rw [hb] at hF
     exact ⟨by rw [← hF]; rfl, hes⟩
   have good : pstep c r (geti c.Sigs r.Exit) ⟨m, e⟩ x (r.Path.drop (j + 1)).isEmpty seen = true → ∀ s' d', Own Tryz.prog σ s' t_int d' ((x.Sec :: seen).reverse.map Go.Fw.encI) → R1 x.Sec x.Out d' s' := fun hb s' d' ho' => by
     rw [hb, Bool.true_and] at hF
     have hn := nx (fun q => prunA c r (geti c.Sigs r.Exit) q ⟨x.Sec, x.Out⟩ (x.Sec :: seen) = c.path r) hF
     exact hR1 _ _ _ _ ⟨⟨x.Sec :: seen, ho', by rw [w64_succ (by omega), List.length_cons]; omega, hn.1⟩, hn.2⟩
   intro R2 hR2
   rw [pstep] at bad good
   cases hn : nxt c.Jts m e with
   | none =>
     rw [hn] at bad
     exact bcnot (fun _ => bad rfl) (fun e => by cases e)
   | some p =>
     obtain ⟨q, i⟩ := p
     rw [hn] at bad good hR2
     obtain ⟨y, hy⟩ := nxt_sec ht hn
     simp only [hy, Option.getD_some] at bad good hR2 ⊢
     refine bcnot (fun e => by cases e) (fun _ => bcn (fun k => bad (by simp [k])) (fun k1 => bcn (fun k => bad (by simp [k])) (fun k2 => (ref06_in_ok q ho.at_).use ⟨_, rfl, bc (fun k => bad ?_) (fun k3 => ⟨trivial, hR2 s ?_⟩)⟩)))
     · have : q ∈ seen := by simpa [inL] using k
       simp [this]
     have hq : q ∉ seen := by simpa [inL] using k3
     refine (ref06_kind_ok (h s) q).use ⟨_, rfl, (ref05_Pos_ok _ _ _).use (opt1_ex _ ?_)⟩
     rw [kindI_some hy]
     intro R3 hR3
     have main : ∀ but, decide (geti c.Sigs but = some ⟨x.Sec, x.Out⟩) = ((r.Path.drop (j + 1)).isEmpty && decide (geti c.Sigs r.Exit = some ⟨x.Sec, x.Out⟩)) → R3 but s := fun but hbut => hR3 but s (by
       intro R4 hR4
       refine bcnot (fun k => bad (by rw [k]; simp)) (fun k4 => (ref06_at_ok (h s) x.Sec x.Out but).use ⟨_, rfl, ?_⟩)
       rw [atB_eq hsg, hbut]
       have hfin : (!(r.Shunt && decide (y.Line ≠ 0))) = true → ((c.Sigs.any fun z => decide (⟨x.Sec, x.Out⟩ = z)) && !((r.Path.drop (j + 1)).isEmpty && decide (geti c.Sigs r.Exit = some ⟨x.Sec, x.Out⟩))) = false → R4 s := fun g1 g2 => hR4 s (newObj_intro fun id1 s2 hid1 _ he2 hs2 => (ho.ext' he2).append (At.fresh hs2 (by simp) rfl) (by simp; omega) (by simp; omega) fun d4 s5 ho5 _ _ => good (by
         rw [k4, g1, decide_eq_true k1, decide_eq_true k2, decide_eq_true hq]
         generalize (c.Sigs.any fun z => decide (⟨x.Sec, x.Out⟩ = z)) = u at g2
         generalize ((r.Path.drop (j + 1)).isEmpty && decide (geti c.Sigs r.Exit = some ⟨x.Sec, x.Out⟩)) = w at g2
         cases u <;> cases w <;> first | rfl | cases g2) _ _ (by rw [List.reverse_cons, List.map_append, ← k1]; exact ho5))
       refine bc (fun k => bad ?_) (fun k5 => bc (fun k6 => (h s).secs.load (map_get (geti_some hy).2.2) c_Section (by have := geti_some hy; omega) ⟨y.Line, rfl, bcn (fun k7 => bad (by rw [k6]; simp [k7])) (fun k7 => ⟨trivial, hfin (by rw [k6]; simp [k7]) k5⟩)⟩) (fun k6 => ⟨trivial, hfin (by rw [k6]; rfl) k5⟩))
       · generalize (c.Sigs.any fun z => decide (⟨x.Sec, x.Out⟩ = z)) = u at k
         generalize ((r.Path.drop (j + 1)).isEmpty && decide (geti c.Sigs r.Exit = some ⟨x.Sec, x.Out⟩)) = w at k
         cases u <;> cases w <;> first | (simp; done) | cases k)
     refine (hp s).lenK ?_
     rw [List.length_map, w64_id (n := (r.Path.length : Int) - 1) (by omega) (by omega)]
     refine bce (fun q1 => ⟨trivial, main _ ?_⟩) (fun q1 => ⟨trivial, main _ ?_⟩)
     · rw [drop_end (by omega)]; simp
     · have hemp : (r.Path.drop (j + 1)).isEmpty = false := by
         cases hd : r.Path.drop (j + 1) with
         | nil => rw [List.drop_eq_nil_iff] at hd; omega
         | cons y l => rfl
       rw [hemp, geti_neg (by omega)]; simp
 · have hF : (match (generalizing := false) geti c.Sigs r.Exit with | some x => decide ((⟨m, e⟩ : Sg) = x) | none => !(nxt c.Jts m e).isSome) = c.path r := hr.done rfl hge
   refine bcd (fun k1 => ?_) (fun k1 => (ref05_Next_ok m e (h s).jts).use (opt2_ex _ ⟨?_, ho.ext⟩))
   · obtain ⟨y, hy⟩ := geti_ex (l := c.Sigs) (i := r.Exit) (by omega) e3
     rw [hy] at hF
     refine (h s).sigs.load (map_get (geti_some hy).2.2) c_Signal (by omega) ⟨y.Sec, y.End_, rfl, ?_, ho.ext⟩
     rw [← hF]
     congr 3; rw [Bool.eq_iff_iff]; cases y; simp; exact ⟨fun ⟨a, b⟩ => ⟨a.symm, b.symm⟩, fun ⟨a, b⟩ => ⟨a.symm, b.symm⟩⟩
   · rw [geti_neg (by omega)] at hF
     rw [← hF]
theorem ref06_Flank_ok (a : Int) {pd : D} {path : List St} (hp : ∀ s, At Tryz.prog s t_Step pd (path.map St.enc)) (hpl : path.length ≤ 2 ^ 20) :
   DCalls Tryz.prog n_ref06_Flank [cfA c0 c1 c2 c3 c4 c, iA a, .one pd] σ (SlPost σ t_Need ((c.flank a path).map Nd.enc)) := by
 refine (W_ref06_Flank _ _ _ _ _ _ _ _ _ a pd σ _ ?_).ret (Q := fun r s => ∃ r' σ', Ret Tryz.prog σ s r σ' r' ∧ SlPost σ t_Need ((c.flank a path).map Nd.enc) r' σ') (fun r s h => h)
 refine (hp σ).lenK ⟨fun d d1 n s => ∃ out : List Nd, Own Tryz.prog σ s t_Need d (out.map Nd.enc) ∧ Own Tryz.prog σ s t_int d1 ((out.map Nd.Sec).map Go.Fw.encI) ∧ Apart d d1 ∧ (out.length : Int) ≤ 4 * n ∧ Rng path (fun r => flankRun c a path r out = c.flank a path) n,
   fun _ _ n _ => path.length - n.toNat, ⟨[], .nil _ (.refl _), .nil _ (.refl _), .nil _, by simp, .start rfl⟩, ?_⟩
 rintro d d1 n s ⟨out, ho, ho1, hap, hol, hr⟩
 rw [List.length_map]
 refine bcd (fun hlt => ?_) (fun hge => ?_)
 · obtain ⟨j, x, rfl, hx, hj, hF, nx⟩ := hr.step rfl (by omega) hlt
   refine (hp s).load (map_get hx) c_Step rfl ⟨x.Sec, x.In, x.Out, rfl, (ref06_kind_ok (h s) _).use ⟨_, rfl, ?_⟩⟩
   have hF' : flankRun c a path (path.drop (j + 1)) (flankEnds c a path x (nends (kindI c x.Sec)).toNat 0 out) = c.flank a path := by
     rw [← hF, flankRun]
     cases hg : geti c.Secs x.Sec with
     | none => rw [kindI_none hg]; rfl
     | some y => rw [kindI_some hg]
   generalize kindI c x.Sec = k at hF'
   have hne := nends_le k
   refine ⟨fun d d1 m s' => ∃ out' : List Nd, Own Tryz.prog σ s' t_Need d (out'.map Nd.enc) ∧ Own Tryz.prog σ s' t_int d1 ((out'.map Nd.Sec).map Go.Fw.encI) ∧ Apart d d1 ∧ 0 ≤ m ∧ m ≤ nends k ∧ (out'.length : Int) ≤ 4 * j + m ∧ flankEnds c a path x (nends k - m).toNat m out' = flankEnds c a path x (nends k).toNat 0 out,
     fun _ _ m _ => (nends k - m).toNat, ⟨out, ho, ho1, hap, by omega, hne.1, by omega, by rw [Int.sub_zero]⟩, ?_⟩
   rintro d2 d3 m s' ⟨out', ho', ho1', hap', hm0, hm1, hol', hE⟩
   refine (ref05_Ends_ok _).use ⟨_, rfl, bcd (fun hlt' => ?_) (fun hge' => ?_)⟩
   · have hw : w64 (m + 1) = m + 1 := w64_id (by omega) (by omega)
     have hk : (nends k - m).toNat = (nends k - (m + 1)).toNat + 1 := by omega
     rw [hk, flankEnds] at hE
     intro R hR
     have leaf : ∀ (out2 : List Nd) (d4 d5 : D) (s2 : Store), flankStep c a path x out' m = out2 → Own Tryz.prog σ s2 t_Need d4 (out2.map Nd.enc) → Own Tryz.prog σ s2 t_int d5 ((out2.map Nd.Sec).map Go.Fw.encI) → Apart d4 d5 → R d4 d5 s2 := by
       intro out2 d4 d5 s2 h1 h2 h3 h4
       have hlen := (flankStep_len c a path x out' m).2
       refine hR _ _ _ ⟨rfl, ?_⟩
       rw [hw]
       refine ⟨⟨out2, h2, h3, h4, by omega, by omega, by rw [← h1]; omega, by rw [← h1]; exact hE⟩, by show (nends k - (m + 1)).toNat < (nends k - m).toNat; omega⟩
     intro R1 hR1
     refine bce (fun h1 => ⟨by trivial, leaf out' _ _ s' (by rw [flankStep, if_pos (.inl h1)]) ho' ho1' hap'⟩) (fun h1 => bce (fun h2 => ⟨by trivial, leaf out' _ _ s' (by rw [flankStep, if_pos (.inr h2)]) ho' ho1' hap'⟩) (fun h2 => ⟨by trivial, hR1 s' ?_⟩))
     have hst : flankStep c a path x out' m = match nxt c.Jts x.Sec m with
       | none => out'
       | some (q, f) => match geti c.Secs q with
         | none => out'
         | some y => if y.Kind = 1 ∧ (1 ≤ f ∧ f ≤ 2) ∧ q ≠ a ∧ hasSec path q = false ∧ (out'.any fun n => n.Sec == q) = false then out' ++ [⟨q, 3 - f⟩] else out' := by
       rw [flankStep, if_neg (by rintro (e | e); exact h1 e; exact h2 e)] <;> rfl
     refine (ref05_Next_ok x.Sec m (h s').jts).use (opt2_ex _ ?_)
     intro R2 hR2
     cases hn : nxt c.Jts x.Sec m with
     | none =>
       rw [hn] at hst
       exact bcnot (fun _ => ⟨by trivial, leaf out' _ _ s' hst ho' ho1' hap'⟩) (fun e => by cases e)
     | some p =>
       obtain ⟨q, f⟩ := p
       rw [hn] at hst hR2
       simp only [Option.getD_some] at hst hR2 ⊢
       refine bcnot (fun e => by cases e) (fun _ => (ref06_kind_ok (h s') q).use ⟨_, rfl, ?_⟩)
       refine bcn (fun k1 => ⟨by trivial, leaf out' _ _ s' ?_ ho' ho1' hap'⟩) (fun k1 => ?_)
       · cases hg : geti c.Secs q with
         | none => rw [hg] at hst; exact hst
         | some y => rw [hg] at hst; rw [kindI_some hg] at k1; rw [hst]; exact if_neg fun g => k1 g.1
       obtain ⟨y, hg⟩ : ∃ y, geti c.Secs q = some y := by
         cases hg : geti c.Secs q with
         | none => rw [kindI_none hg] at k1; cases k1
         | some y => exact ⟨y, rfl⟩
       rw [kindI_some hg] at k1
       rw [hg] at hst
       simp only at hst
       have no : ¬ ((1 ≤ f ∧ f ≤ 2) ∧ q ≠ a ∧ hasSec path q = false ∧ (out'.any fun n => n.Sec == q) = false) → flankStep c a path x out' m = out' := fun hn => by rw [hst, if_neg fun g => hn g.2]
       have main : (1 ≤ f ∧ f ≤ 2) → DCalls Tryz.prog n_ref06_Sections [.one pd] s' fun r4 s4 => ∃ d4, r4 = .a (.one d4) ∧ DCalls Tryz.prog n_ref06_in [.one d4, iA q] s4 fun r5 s5 => ∃ b1, r5 = .a (bA b1) ∧ bcase b1 (True ∧ R d2 d3 s5) (bcase (q == a) (True ∧ R d2 d3 s5) (DCalls Tryz.prog n_ref06_in [.one d3, iA q] s5 fun r6 s6 => ∃ b2, r6 = .a (bA b2) ∧ bcase b2 (True ∧ R d2 d3 s6) (True ∧ R2 s6))) := by
         intro hf
         refine (ref06_Sections_ok hp (by omega)).mono ?_
         rintro r4 s4 ⟨rfl, d4, rfl, hd4⟩
         refine ⟨d4, rfl, (ref06_in_ok q (hd4 _)).use ⟨_, rfl, ?_⟩⟩
         rw [hasSec_in]
         refine bc (fun k2 => ⟨by trivial, leaf out' _ _ _ (no fun g => by rw [g.2.2.1] at k2; cases k2) ho' ho1' hap'⟩) (fun k2 => bce (fun k3 => ⟨by trivial, leaf out' _ _ _ (no fun g => g.2.1 k3) ho' ho1' hap'⟩) (fun k3 => (ref06_in_ok q ho1'.at_).use ⟨_, rfl, ?_⟩))
         rw [nd_any]
         refine bc (fun k4 => ⟨by trivial, leaf out' _ _ _ (no fun g => by rw [g.2.2.2] at k4; cases k4) ho' ho1' hap'⟩) (fun k4 => ⟨by trivial, hR2 _ ?_⟩)
         refine newObj_intro fun id s5 hid _ he5 hs5 => ?_
         refine (ho1'.ext' he5).append2 (ho'.ext' he5) hap' (At.fresh hs5 (by simp) rfl) (by simp; omega) (by simp; omega) fun d5 s6 ho6 ho6' hap6 => ?_
         refine newObj_intro fun id7 s7 hid7 _ he7 hs7 => ?_
         have hw2 : w64 (3 - f) = 3 - f := w64_id (by omega) (by omega)
         refine (ho6'.ext' he7).append2 (ho6.ext' he7) hap6.symm (At.fresh hs7 (by simp) rfl) (by simp; omega) (by simp; omega) fun d8 s8 ho8 ho8' hap8 => ⟨by trivial, leaf (out' ++ [⟨q, 3 - f⟩]) _ _ _ (by rw [hst, if_pos ⟨k1, hf, k3, k2, k4⟩]) ?_ ?_ hap8.symm⟩
         · rw [hw2] at ho8; rw [List.map_append]; exact ho8
         · rw [List.map_append, List.map_append]; exact ho8'
       refine bcn (fun k2 => bcn (fun k3 => ⟨by trivial, leaf out' _ _ s' (no fun g => by omega) ho' ho1' hap'⟩) (fun k3 => main (by omega))) (fun k2 => main (by omega))
   · have hz : (nends k - m).toNat = 0 := by omega
     rw [hz, flankEnds] at hE
     rw [← hE] at hF'
     have hn := nx (fun r => flankRun c a path r out' = c.flank a path) hF'
     exact ⟨⟨out', ho', ho1', hap', by rw [w64_succ (by omega)]; omega, hn.1⟩, hn.2⟩
 · have hF := hr.done rfl hge
   rw [flankRun] at hF
   rw [← hF]
   exact own_fin ho (flatNd _)
theorem ref06_Overlap_ok (r : Rt) {d1 d2 d3 : D} (hp : ∀ s, At Tryz.prog s t_Step d1 (r.Path.map St.enc)) (hpl : r.Path.length ≤ 2 ^ 20) :
   DCalls Tryz.prog n_ref06_Overlap [cfA c0 c1 c2 c3 c4 c, rtA d1 d2 d3 r] σ (SlPost σ t_int ((c.overlap r).map Go.Fw.encI)) := by
 refine (W_ref06_Overlap _ _ _ _ _ _ _ _ _ _ _ d1 d2 d3 _ σ _ ?_).ret (Q := fun r' s => ∃ r'' σ', Ret Tryz.prog σ s r' σ' r'' ∧ SlPost σ t_int ((c.overlap r).map Go.Fw.encI) r'' σ') (fun r s h => h)
 intro R hR
 have nil : c.overlap r = [] → ∃ r'' σ', Ret Tryz.prog σ σ (.a (.one .nils)) σ' r'' ∧ SlPost σ t_int ((c.overlap r).map Go.Fw.encI) r'' σ' := fun e => by
   rw [e]; exact own_fin (.nil _ (.refl _)) (flatI _)
 refine bc (fun h1 => nil (by rw [Cf.overlap, if_pos h1])) (fun h1 => ?_)
 have hov : c.overlap r = match geti c.Sigs r.Exit with
   | none => []
   | some x => match nxt c.Jts x.Sec x.End_ with
     | none => []
     | some (q, _) => match geti c.Secs q with
       | none => []
       | some y => if y.Line = 0 ∧ hasSec r.Path q = false ∧ q ≠ c.approach r then [q] else [] := by
   rw [Cf.overlap, if_neg (by rw [h1]; simp)] <;> rfl
 refine bcd (fun e => nil (by rw [hov, geti_neg e])) (fun e0 => (h σ).sigs.lenK ?_)
 rw [List.length_map]
 refine bcd (fun e => nil (by rw [hov, geti_ge e])) (fun e1 => hR σ ?_)
 obtain ⟨x, hg⟩ := geti_ex e0 e1
 rw [hg] at hov
 simp only at hov
 refine (h σ).sigs.load (map_get (geti_some hg).2.2) c_Signal (by omega) ⟨x.Sec, x.End_, rfl, (ref05_Next_ok _ _ (h σ).jts).use (opt2_ex _ ?_)⟩
 intro R1 hR1
 have main : R1 (c.approach r) σ := by
   refine hR1 _ σ ?_
   cases hn : nxt c.Jts x.Sec x.End_ with
   | none => rw [hn] at hov; exact bcnot (fun _ => nil hov) (fun e => by cases e)
   | some p =>
     obtain ⟨q, f⟩ := p
     rw [hn] at hov
     simp only [Option.getD_some] at hov ⊢
     refine bcnot (fun e => by cases e) (fun _ => bcd (fun e => nil (by rw [hov, geti_neg e])) (fun e2 => (h σ).secs.lenK ?_))
     rw [List.length_map]
     refine bcd (fun e => nil (by rw [hov, geti_ge e])) (fun e3 => (ref06_Sections_ok hp (by omega)).mono ?_)
     obtain ⟨y, hy⟩ := geti_ex e2 e3
     rw [hy] at hov
     simp only at hov
     have no : ¬ (y.Line = 0 ∧ hasSec r.Path q = false ∧ q ≠ c.approach r) → c.overlap r = [] := fun hn => by rw [hov, if_neg hn]
     rintro r4 s4 ⟨rfl, d4, rfl, hd4⟩
     refine ⟨d4, rfl, (ref06_in_ok q (hd4 _)).use ⟨_, rfl, ?_⟩⟩
     rw [hasSec_in]
     refine bc (fun k2 => nil (no fun g => by rw [g.2.1] at k2; cases k2)) (fun k2 => bce (fun k3 => nil (no fun g => g.2.2 k3)) (fun k3 => ?_))
     refine (h s4).secs.load (map_get (geti_some hy).2.2) c_Section (by omega) ⟨y.Line, rfl, bcn (fun k4 => nil (no fun g => k4 g.1)) (fun k4 => ?_)⟩
     refine newObj_intro fun id s5 hid _ he5 hs5 => ?_
     rw [hov, if_pos ⟨k4, k2, k3⟩]
     exact own_fin (.at_new hid he5 hs5 (by simp) rfl) (flatI _)
 refine bcd (fun k0 => (h σ).sigs.lenK ?_) (fun k0 => ?_)
 · rw [List.length_map]
   refine bcd (fun k1 => ?_) (fun k1 => ?_)
   · obtain ⟨z, hz⟩ := geti_ex (l := c.Sigs) (i := r.Entry) (by omega) (by omega)
     refine (h σ).sigs.load (map_get (geti_some hz).2.2) c_Signal (by omega) ⟨z.Sec, rfl, ?_⟩
     rw [Cf.approach, hz] at main; exact main
   · rw [Cf.approach, geti_ge (by omega)] at main; exact main
 · rw [Cf.approach, geti_neg (by omega)] at main; exact main
theorem ref06_Check_ok : Pure Tryz.prog n_ref06_Check [cfA c0 c1 c2 c3 c4 c] σ (.a (iA c.check)) := by
 refine W_ref06_Check _ _ _ _ _ _ _ _ _ σ _ ((ref05_Check_ok (h σ).secs (h σ).jts).use ⟨_, rfl, ?_⟩)
 have e6 : (if topoOk c.Secs c.Jts = true then (0 : Int) else 6) ≠ 0 ↔ topoOk c.Secs c.Jts = false := by
   cases topoOk c.Secs c.Jts <;> simp
 refine bcn (fun k1 => ⟨by rw [Cf.check, if_pos (e6.1 k1)], rfl⟩) (fun k1 => (ref06_signals_ok (h σ)).use ⟨_, rfl, bcnot (fun k2 => ⟨?_, rfl⟩) (fun k2 => ?_)⟩)
 all_goals have k1' : ¬ topoOk c.Secs c.Jts = false := fun e => e6.2 e k1
 · rw [Cf.check, if_neg k1', if_pos k2]
 have ht : topoOk c.Secs c.Jts = true := by simpa using k1'
 refine (ref06_crossings_ok (h σ) ht).use ⟨_, rfl, bcnot (fun k3 => ⟨?_, rfl⟩) (fun k3 => ?_)⟩
 · rw [Cf.check, if_neg k1', if_neg (by rw [k2]; simp), if_pos k3]
 have hck : c.check = if c.Rts.length > 12 then 9 else if c.routes c.Rts ≠ 0 then c.routes c.Rts else if c.timing = true then 0 else 12 := by
   rw [Cf.check, if_neg k1', if_neg (by rw [k2]; simp), if_neg (by rw [k3]; simp)]
 obtain ⟨rows, hat, hlen, hrow⟩ := rts_froz fun s => (h s).rts
 have hl := (hat σ).size
 refine (hat σ).lenK (bcd (fun k4 => ⟨by rw [hck, if_pos (by omega)], rfl⟩) (fun k4 => (hat σ).lenK ?_))
 rw [if_neg (by omega)] at hck
 refine ⟨fun n s => s = σ ∧ Rng c.Rts (fun l => c.routes l = c.routes c.Rts) n, fun n _ => c.Rts.length - n.toNat, ⟨rfl, .start rfl⟩, ?_⟩
 rintro n τ ⟨rfl, hr⟩
 refine bcd (fun hlt => ?_) (fun hge => ?_)
 · obtain ⟨j, x, rfl, hx, hj, hF, nx⟩ := hr.step hlen (by omega) hlt
   obtain ⟨row, hrw⟩ := get_of_lt (l := rows) (j := j) (by omega)
   obtain ⟨d1, d2, d3, rfl, q1, q2, q3⟩ := hrow j row x hrw hx
   rw [Cf.routes] at hF
   have err : ∀ e, e ≠ 0 → c.route x = e → (RV.a (iA e) = .a (iA c.check) ∧ τ = τ) := fun e he hc => by
     rw [hc, if_pos he] at hF
     rw [hck, ← hF, if_pos he]; exact ⟨rfl, rfl⟩
   refine (hat τ).load hrw c_Route rfl ⟨_, _, d1, d2, d3, _, rfl, (ref06_path_ok h ht k2 x q1).use ⟨_, rfl, bcnot (fun k5 => err 9 (by decide) (by rw [Cf.route, if_pos k5])) (fun k5 => ?_)⟩⟩
   have hpl : x.Path.length ≤ 8 := by
     unfold Cf.path at k5
     split at k5
     · cases k5
     · simp at k5; exact k5.1.2.2
   refine (ref06_Approach_ok (h τ) j).use ⟨_, rfl, ?_⟩
   rw [show c.Approach j = c.approach x by rw [Cf.Approach, show geti c.Rts j = some x by unfold geti; rw [if_neg (by omega), Int.toNat_natCast]; exact hx]; rfl]
   refine (ref06_Flank_ok h _ q1 (by omega)).mono ?_
   rintro r1 s1 ⟨rfl, d, rfl, hd⟩
   refine ⟨d, rfl, (ref06_SameNeeds_ok (q2 _) (hd _)).use ⟨_, rfl, bcnot (fun k6 => err 10 (by decide) ?_) (fun k6 => (ref06_Overlap_ok h x q1 (by omega)).mono ?_)⟩⟩
   · rw [Cf.route, if_neg (by rw [k5]; simp), if_pos (of_decide_eq_false k6)]
   rintro r2 s2 ⟨rfl, d', rfl, hd'⟩
   have e2 := of_decide_eq_true k6
   refine ⟨d', rfl, (ref06_sameInts_ok (q3 _) (hd' _)).use ⟨_, rfl, bcnot (fun k7 => err 11 (by decide) ?_) (fun k7 => ?_)⟩⟩
   · rw [Cf.route, if_neg (by rw [k5]; simp), if_neg (fun hn => hn e2), if_pos (of_decide_eq_false k7)]
   · have h0 : c.route x = 0 := by rw [Cf.route, if_neg (by rw [k5]; simp), if_neg (fun hn => hn e2), if_neg (fun hn => hn (of_decide_eq_true k7))]
     rw [if_neg (by simp [h0])] at hF
     exact andl rfl (nx _ hF)
 · have hF : 0 = c.routes c.Rts := hr.done hlen hge
   rw [← hF, if_neg (by simp)] at hck
   have bad : ¬ (((1 ≤ c.Age ∧ c.Age ≤ 8) ∧ (0 ≤ c.Brake ∧ c.Brake ≤ 8)) ∧ (c.Age + c.Brake + 1 ≤ c.Hold ∧ c.Hold ≤ 40) ∧ (1 ≤ c.Budget ∧ c.Budget ≤ 1000000)) → (RV.a (iA 12) = .a (iA c.check) ∧ τ = τ) := fun hn => by
     rw [hck, if_neg (fun e => hn (by simpa [Cf.timing, and_assoc] using e))]; exact ⟨rfl, rfl⟩
   refine bcd (fun e => bad fun g => by omega) (fun t1 => bcd (fun e => bad fun g => by omega) (fun t2 => bcd (fun e => bad fun g => by omega) (fun t3 => bcd (fun e => bad fun g => by omega) (fun t4 => ?_))))
   rw [w64_id (n := c.Age + c.Brake) (by omega) (by omega), w64_id (n := c.Age + c.Brake + 1) (by omega) (by omega)]
   refine bcd (fun e => bad fun g => by omega) (fun t5 => bcd (fun e => bad fun g => by omega) (fun t6 => bcd (fun e => bad fun g => by omega) (fun t7 => bcd (fun e => bad fun g => by omega) (fun t8 => ⟨?_, rfl⟩))))
   rw [hck, if_pos]
   simp only [Cf.timing, Bool.and_eq_true, decide_eq_true_eq]
   omega
end
end
section
variable {σ : Store}
section
variable {σ0 : Store} {d0 d1 d2 d3 d4 d5 : D} {k : Co}
theorem ext_other {s s' : Store} {i : Nat} (he : Ext σ0 s) (hf : σ0 i = .free) (hs : ∀ j, j ≠ i → s' j = s j) : Ext σ0 s' := fun j hj => by
 rw [hs j (fun e => hj (by rw [e]; exact hf))]; exact he j hj
end
end
section
variable {σ σ0 : Store} {d0 d1 d2 d3 d4 d5 : D} {k : Co}
theorem copy_ok {t : TypeId} {bytes : Nat} {d : D} {rows : List (List D)} {K : D → Store → Prop} (h : At Tryz.prog σ t d rows) (hb : bytes * rows.length ≤ 140737488355328)
   (hK : ∀ d' s, Own Tryz.prog σ s t d' rows → K d' s) : Fw.newObj σ (.live t []) fun id σ' => appendTo Tryz.prog σ' t bytes (.osl id 0 0) d K := by
 refine newObj_intro fun id s hid _ he hs => ?_
 have ho : Own Tryz.prog σ s t (.osl id 0 0) [] := .at_new hid he hs (by simp) rfl
 exact ho.append (h.ext he) (by simpa using hb) (by have := h.size; simpa using this) fun d' s' ho' _ _ => hK _ _ (by simpa using ho')
structure CoIn (σ0 σ : Store) (id : Nat) (t : TypeId) (pre post : List D) (d0 d1 d2 d3 d4 d5 : D) (k : Co) : Prop where
 new : σ0 id = .free
 row : σ id = .live t [pre ++ ([d0, d1, d2, d3, d4, d5, .bool k.Dirty] ++ post)]
 co : CoOwn σ0 σ d0 d1 d2 d3 d4 d5 k
 ids : ∀ d ∈ [d0, d1, d2, d3, d4, d5], idOf d ≠ some id
theorem CoIn.ext {id t pre post} (h : CoIn σ0 σ id t pre post d0 d1 d2 d3 d4 d5 k) : Ext σ0 σ := h.co.own.ext
theorem CoIn.at {id t pre post} (h : CoIn σ0 σ id t pre post d0 d1 d2 d3 d4 d5 k) : CoAt σ d0 d1 d2 d3 d4 d5 k := h.co.at
theorem CoIn.dirty {id t pre post} (h : CoIn σ0 σ id t pre post d0 d1 d2 d3 d4 d5 k) {b : Bool} {off : Nat} (ho : off = pre.length + 6) {K : Store → Prop}
   (hK : ∀ s', CoIn σ0 s' id t pre post d0 d1 d2 d3 d4 d5 { k with Dirty := b } → (∀ i, i ≠ id → s' i = σ i) → K s') : storeEl [.bool b] σ (.osl id 0 1) 0 off K := by
 refine cell_store h.row (by subst ho; simp; omega) fun s' hs hs' => hK s' ?_ hs'
 have al : ∀ {d : D} {el : TypeId} {rs : List (List D)}, d ∈ [d0, d1, d2, d3, d4, d5] → Own Tryz.prog σ0 σ el d rs → Own Tryz.prog σ0 s' el d rs := fun hd g => own_other g h.new (h.ids _ hd) hs'
 refine ⟨h.new, ?_, ⟨al (by simp) h.co.own, al (by simp) h.co.routes, al (by simp) h.co.points, al (by simp) h.co.xs, al (by simp) h.co.lines, al (by simp) h.co.resets, h.co.apart⟩, h.ids⟩
 rw [hs]
 have e : patch (pre ++ ([d0, d1, d2, d3, d4, d5, .bool k.Dirty] ++ post)) off [.bool b] = pre ++ ([d0, d1, d2, d3, d4, d5, .bool b] ++ post) := by
   subst ho
   unfold patch
   rw [List.take_length_add_append, List.length_singleton, Nat.add_assoc, List.drop_length_add_append]
   rw [List.append_assoc, List.append_assoc]; rfl
 rw [e]
theorem CoOwn.putO (h : CoOwn σ0 σ d0 d1 d2 d3 d4 d5 k) {j n off : Nat} {x y : Int} {ys : List D} (hj : k.Own[j]? = some x) (hn : n = j) (ho : off + ys.length ≤ 1) (hp : patch (Go.Fw.encI x) off ys = Go.Fw.encI y) {K : Store → Prop}
   (hK : ∀ s', CoOwn σ0 s' d0 d1 d2 d3 d4 d5 { k with Own := k.Own.set j y } → (∀ i, idOf d0 ≠ some i → s' i = σ i) → K s') : storeEl ys σ d0 n off K := by
 refine h.own.at_.store h.own.nsl (map_get hj) hn ho fun s' i hi hat hs hne => hK s' ?_ fun i' hi' => hs i' fun e => hi' (by rw [e]; exact hi)
 have hf := own_id h.own hi
 have ap : ∀ {m : Nat} {d : D}, [d0, d1, d2, d3, d4, d5][m]? = some d → m ≠ 0 → idOf d ≠ some i := fun hm hne0 => pw h.apart (i := 0) rfl hm (Ne.symm hne0) i hi
 refine ⟨⟨?_, ext_other h.own.ext hf hs, h.own.new, h.own.nsl, h.own.nz⟩, own_other h.routes hf (ap (m := 1) rfl (by omega)) hs, own_other h.points hf (ap (m := 2) rfl (by omega)) hs, own_other h.xs hf (ap (m := 3) rfl (by omega)) hs, own_other h.lines hf (ap (m := 4) rfl (by omega)) hs, own_other h.resets hf (ap (m := 5) rfl (by omega)) hs, h.apart⟩
 rw [hp, map_set (Go.Fw.encI) k.Own j y] at hat; exact hat
theorem CoIn.putO {id t pre post} (h : CoIn σ0 σ id t pre post d0 d1 d2 d3 d4 d5 k) {j n off : Nat} {x y : Int} {ys : List D} (hj : k.Own[j]? = some x) (hn : n = j) (ho : off + ys.length ≤ 1) (hp : patch (Go.Fw.encI x) off ys = Go.Fw.encI y) {K : Store → Prop}
   (hK : ∀ s', CoIn σ0 s' id t pre post d0 d1 d2 d3 d4 d5 { k with Own := k.Own.set j y } → (∀ i, idOf d0 ≠ some i → s' i = σ i) → K s') : storeEl ys σ d0 n off K :=
 h.co.putO hj hn ho hp fun s' h' hs => hK s' ⟨h.new, (hs id (h.ids _ (by simp))).trans h.row, h', h.ids⟩ hs
theorem CoOwn.putR (h : CoOwn σ0 σ d0 d1 d2 d3 d4 d5 k) {j n off : Nat} {x y : Rs} {ys : List D} (hj : k.Routes[j]? = some x) (hn : n = j) (ho : off + ys.length ≤ 4) (hp : patch (Rs.enc x) off ys = Rs.enc y) {K : Store → Prop}
   (hK : ∀ s', CoOwn σ0 s' d0 d1 d2 d3 d4 d5 { k with Routes := k.Routes.set j y } → (∀ i, idOf d1 ≠ some i → s' i = σ i) → K s') : storeEl ys σ d1 n off K := by
 refine h.routes.at_.store h.routes.nsl (map_get hj) hn ho fun s' i hi hat hs hne => hK s' ?_ fun i' hi' => hs i' fun e => hi' (by rw [e]; exact hi)
 have hf := own_id h.routes hi
 have ap : ∀ {m : Nat} {d : D}, [d0, d1, d2, d3, d4, d5][m]? = some d → m ≠ 1 → idOf d ≠ some i := fun hm hne0 => pw h.apart (i := 1) rfl hm (Ne.symm hne0) i hi
 refine ⟨own_other h.own hf (ap (m := 0) rfl (by omega)) hs, ⟨?_, ext_other h.routes.ext hf hs, h.routes.new, h.routes.nsl, h.routes.nz⟩, own_other h.points hf (ap (m := 2) rfl (by omega)) hs, own_other h.xs hf (ap (m := 3) rfl (by omega)) hs, own_other h.lines hf (ap (m := 4) rfl (by omega)) hs, own_other h.resets hf (ap (m := 5) rfl (by omega)) hs, h.apart⟩
 rw [hp, map_set (Rs.enc) k.Routes j y] at hat; exact hat
theorem CoIn.putR {id t pre post} (h : CoIn σ0 σ id t pre post d0 d1 d2 d3 d4 d5 k) {j n off : Nat} {x y : Rs} {ys : List D} (hj : k.Routes[j]? = some x) (hn : n = j) (ho : off + ys.length ≤ 4) (hp : patch (Rs.enc x) off ys = Rs.enc y) {K : Store → Prop}
   (hK : ∀ s', CoIn σ0 s' id t pre post d0 d1 d2 d3 d4 d5 { k with Routes := k.Routes.set j y } → (∀ i, idOf d1 ≠ some i → s' i = σ i) → K s') : storeEl ys σ d1 n off K :=
 h.co.putR hj hn ho hp fun s' h' hs => hK s' ⟨h.new, (hs id (h.ids _ (by simp))).trans h.row, h', h.ids⟩ hs
theorem CoOwn.putP (h : CoOwn σ0 σ d0 d1 d2 d3 d4 d5 k) {j n off : Nat} {x y : Mv} {ys : List D} (hj : k.Points[j]? = some x) (hn : n = j) (ho : off + ys.length ≤ 2) (hp : patch (Mv.enc x) off ys = Mv.enc y) {K : Store → Prop}
   (hK : ∀ s', CoOwn σ0 s' d0 d1 d2 d3 d4 d5 { k with Points := k.Points.set j y } → (∀ i, idOf d2 ≠ some i → s' i = σ i) → K s') : storeEl ys σ d2 n off K := by
 refine h.points.at_.store h.points.nsl (map_get hj) hn ho fun s' i hi hat hs hne => hK s' ?_ fun i' hi' => hs i' fun e => hi' (by rw [e]; exact hi)
 have hf := own_id h.points hi
 have ap : ∀ {m : Nat} {d : D}, [d0, d1, d2, d3, d4, d5][m]? = some d → m ≠ 2 → idOf d ≠ some i := fun hm hne0 => pw h.apart (i := 2) rfl hm (Ne.symm hne0) i hi
 refine ⟨own_other h.own hf (ap (m := 0) rfl (by omega)) hs, own_other h.routes hf (ap (m := 1) rfl (by omega)) hs, ⟨?_, ext_other h.points.ext hf hs, h.points.new, h.points.nsl, h.points.nz⟩, own_other h.xs hf (ap (m := 3) rfl (by omega)) hs, own_other h.lines hf (ap (m := 4) rfl (by omega)) hs, own_other h.resets hf (ap (m := 5) rfl (by omega)) hs, h.apart⟩
 rw [hp, map_set (Mv.enc) k.Points j y] at hat; exact hat
theorem CoIn.putP {id t pre post} (h : CoIn σ0 σ id t pre post d0 d1 d2 d3 d4 d5 k) {j n off : Nat} {x y : Mv} {ys : List D} (hj : k.Points[j]? = some x) (hn : n = j) (ho : off + ys.length ≤ 2) (hp : patch (Mv.enc x) off ys = Mv.enc y) {K : Store → Prop}
   (hK : ∀ s', CoIn σ0 s' id t pre post d0 d1 d2 d3 d4 d5 { k with Points := k.Points.set j y } → (∀ i, idOf d2 ≠ some i → s' i = σ i) → K s') : storeEl ys σ d2 n off K :=
 h.co.putP hj hn ho hp fun s' h' hs => hK s' ⟨h.new, (hs id (h.ids _ (by simp))).trans h.row, h', h.ids⟩ hs
theorem CoOwn.putX (h : CoOwn σ0 σ d0 d1 d2 d3 d4 d5 k) {j n off : Nat} {x y : Mv} {ys : List D} (hj : k.Xs[j]? = some x) (hn : n = j) (ho : off + ys.length ≤ 2) (hp : patch (Mv.enc x) off ys = Mv.enc y) {K : Store → Prop}
   (hK : ∀ s', CoOwn σ0 s' d0 d1 d2 d3 d4 d5 { k with Xs := k.Xs.set j y } → (∀ i, idOf d3 ≠ some i → s' i = σ i) → K s') : storeEl ys σ d3 n off K := by
 refine h.xs.at_.store h.xs.nsl (map_get hj) hn ho fun s' i hi hat hs hne => hK s' ?_ fun i' hi' => hs i' fun e => hi' (by rw [e]; exact hi)
 have hf := own_id h.xs hi
 have ap : ∀ {m : Nat} {d : D}, [d0, d1, d2, d3, d4, d5][m]? = some d → m ≠ 3 → idOf d ≠ some i := fun hm hne0 => pw h.apart (i := 3) rfl hm (Ne.symm hne0) i hi
 refine ⟨own_other h.own hf (ap (m := 0) rfl (by omega)) hs, own_other h.routes hf (ap (m := 1) rfl (by omega)) hs, own_other h.points hf (ap (m := 2) rfl (by omega)) hs, ⟨?_, ext_other h.xs.ext hf hs, h.xs.new, h.xs.nsl, h.xs.nz⟩, own_other h.lines hf (ap (m := 4) rfl (by omega)) hs, own_other h.resets hf (ap (m := 5) rfl (by omega)) hs, h.apart⟩
 rw [hp, map_set (Mv.enc) k.Xs j y] at hat; exact hat
theorem CoIn.putX {id t pre post} (h : CoIn σ0 σ id t pre post d0 d1 d2 d3 d4 d5 k) {j n off : Nat} {x y : Mv} {ys : List D} (hj : k.Xs[j]? = some x) (hn : n = j) (ho : off + ys.length ≤ 2) (hp : patch (Mv.enc x) off ys = Mv.enc y) {K : Store → Prop}
   (hK : ∀ s', CoIn σ0 s' id t pre post d0 d1 d2 d3 d4 d5 { k with Xs := k.Xs.set j y } → (∀ i, idOf d3 ≠ some i → s' i = σ i) → K s') : storeEl ys σ d3 n off K :=
 h.co.putX hj hn ho hp fun s' h' hs => hK s' ⟨h.new, (hs id (h.ids _ (by simp))).trans h.row, h', h.ids⟩ hs
theorem CoOwn.putL (h : CoOwn σ0 σ d0 d1 d2 d3 d4 d5 k) {j n off : Nat} {x y : Ls} {ys : List D} (hj : k.Lines[j]? = some x) (hn : n = j) (ho : off + ys.length ≤ 8) (hp : patch (Ls.enc x) off ys = Ls.enc y) {K : Store → Prop}
   (hK : ∀ s', CoOwn σ0 s' d0 d1 d2 d3 d4 d5 { k with Lines := k.Lines.set j y } → (∀ i, idOf d4 ≠ some i → s' i = σ i) → K s') : storeEl ys σ d4 n off K := by
 refine h.lines.at_.store h.lines.nsl (map_get hj) hn ho fun s' i hi hat hs hne => hK s' ?_ fun i' hi' => hs i' fun e => hi' (by rw [e]; exact hi)
 have hf := own_id h.lines hi
 have ap : ∀ {m : Nat} {d : D}, [d0, d1, d2, d3, d4, d5][m]? = some d → m ≠ 4 → idOf d ≠ some i := fun hm hne0 => pw h.apart (i := 4) rfl hm (Ne.symm hne0) i hi
 refine ⟨own_other h.own hf (ap (m := 0) rfl (by omega)) hs, own_other h.routes hf (ap (m := 1) rfl (by omega)) hs, own_other h.points hf (ap (m := 2) rfl (by omega)) hs, own_other h.xs hf (ap (m := 3) rfl (by omega)) hs, ⟨?_, ext_other h.lines.ext hf hs, h.lines.new, h.lines.nsl, h.lines.nz⟩, own_other h.resets hf (ap (m := 5) rfl (by omega)) hs, h.apart⟩
 rw [hp, map_set (Ls.enc) k.Lines j y] at hat; exact hat
theorem CoIn.putL {id t pre post} (h : CoIn σ0 σ id t pre post d0 d1 d2 d3 d4 d5 k) {j n off : Nat} {x y : Ls} {ys : List D} (hj : k.Lines[j]? = some x) (hn : n = j) (ho : off + ys.length ≤ 8) (hp : patch (Ls.enc x) off ys = Ls.enc y) {K : Store → Prop}
   (hK : ∀ s', CoIn σ0 s' id t pre post d0 d1 d2 d3 d4 d5 { k with Lines := k.Lines.set j y } → (∀ i, idOf d4 ≠ some i → s' i = σ i) → K s') : storeEl ys σ d4 n off K :=
 h.co.putL hj hn ho hp fun s' h' hs => hK s' ⟨h.new, (hs id (h.ids _ (by simp))).trans h.row, h', h.ids⟩ hs
end
end Go.Proofs.YtdlnbehcnfjneaaGreat
namespace Go.Fw
section
section
variable {occ : List Lk} {now : Int} {was may : Bool} {x : Ls} {o : Int} {s : Nat} {lk : Lk}
end
structure SameBut (k k' : Co) (l s : Nat) : Prop where
 routes : k'.Routes = k.Routes
 lines : ∀ m, m ≠ l → k'.Lines[m]? = k.Lines[m]?
 own : ∀ t, t ≠ s → k'.Own[t]? = k.Own[t]?
end
section
def apprS (c : Cf) (l : List Int) : List Rs → Nat → Bool
 | [], _ => false
 | r :: rs, j => (decide (r.State ≠ 0) && inL l (c.Approach j)) || apprS c l rs (j + 1)
end
end Go.Fw
namespace Go.Proofs.YtdlnbehcnfjneaaGreat
open Go.Fw Go.Proofs Go.RowKit
section
variable {σ : Store}
theorem ref13_Copied_ok {k0 k1 k2 k3 k4 k5 : D} {k : Co} (hk : CoAt σ k0 k1 k2 k3 k4 k5 k) (b0 : 8 * k.Own.length ≤ 140737488355328) (b1 : 32 * k.Routes.length ≤ 140737488355328) (b2 : 16 * k.Points.length ≤ 140737488355328)
   (b3 : 16 * k.Xs.length ≤ 140737488355328) (b4 : 64 * k.Lines.length ≤ 140737488355328) (b5 : 8 * k.Resets.length ≤ 140737488355328) :
   DCalls Tryz.prog n_ref13_Copied [coA k0 k1 k2 k3 k4 k5 k.Dirty] σ fun r s => ∃ d0 d1 d2 d3 d4 d5, r = .a (coA d0 d1 d2 d3 d4 d5 k.Dirty) ∧ CoOwn σ s d0 d1 d2 d3 d4 d5 k := by
 refine W_ref13_Copied k0 k1 k2 k3 k4 k5 k.Dirty σ _ ?_
 refine copy_ok hk.own (by simpa using b0) fun d0 s0 o0 => ?_
 have e0 := o0.ext
 refine copy_ok (hk.routes.ext e0) (by simpa using b1) fun d1 s1 o1 => ?_
 have e1 := e0.trans o1.ext
 refine copy_ok (hk.points.ext e1) (by simpa using b2) fun d2 s2 o2 => ?_
 have e2 := e1.trans o2.ext
 refine copy_ok (hk.xs.ext e2) (by simpa using b3) fun d3 s3 o3 => ?_
 have e3 := e2.trans o3.ext
 refine copy_ok (hk.lines.ext e3) (by simpa using b4) fun d4 s4 o4 => ?_
 have e4 := e3.trans o4.ext
 refine copy_ok (hk.resets.ext e4) (by simpa using b5) fun d5 s5 o5 => ?_
 have x1 := o0.ext' o1.ext
 have x2 := x1.ext' o2.ext
 have x3 := x2.ext' o3.ext
 have x4 := x3.ext' o4.ext
 have y1 := o1.from e0
 have y2 := y1.ext' o2.ext
 have y3 := y2.ext' o3.ext
 have y4 := y3.ext' o4.ext
 have z2 := o2.from e1
 have z3 := z2.ext' o3.ext
 have z4 := z3.ext' o4.ext
 have u3 := o3.from e2
 have u4 := u3.ext' o4.ext
 have w4 := o4.from e3
 refine ⟨d0, d1, d2, d3, d4, d5, rfl, x4.ext' o5.ext, y4.ext' o5.ext, z4.ext' o5.ext, u4.ext' o5.ext, w4.ext' o5.ext, o5.from e4, ?_⟩
 simp only [List.pairwise_cons, List.mem_cons, List.not_mem_nil, or_false, forall_eq_or_imp, forall_eq, List.Pairwise.nil, and_true, false_imp_iff, implies_true]
 exact ⟨⟨o1.apart o0.at_, o2.apart x1.at_, o3.apart x2.at_, o4.apart x3.at_, o5.apart x4.at_⟩, ⟨o2.apart y1.at_, o3.apart y2.at_, o4.apart y3.at_, o5.apart y4.at_⟩, ⟨o3.apart z2.at_, o4.apart z3.at_, o5.apart z4.at_⟩, ⟨o4.apart u3.at_, o5.apart u4.at_⟩, o5.apart w4.at_⟩
end
end Go.Proofs.YtdlnbehcnfjneaaGreat
section
namespace Go.Fw
structure StOk (c : Cf) (r : Rt) (s : St) : Prop where
 sec : ∃ y, geti c.Secs s.Sec = some y ∧ (wpos (wayL y.Kind) s.In s.Out).isSome = true ∧ (r.Shunt = true → y.Line = 0)
theorem prunA_facts {c : Cf} (ht : topoOk c.Secs c.Jts = true) (r : Rt) (ex : Option Sg) : ∀ (l : List St) (a : Sg) (seen : List Int), prunA c r ex l a seen = true →
   (∀ s ∈ l, StOk c r s ∧ s.Sec ∉ seen) ∧ (l.map St.Sec).Nodup
 | [], a, seen, _ => ⟨fun s hs => by simp at hs, by simp⟩
 | s :: rest, a, seen, h => by
   rw [prunA, Bool.and_eq_true] at h
   obtain ⟨h1, h2⟩ := h
   obtain ⟨q1, q2⟩ := prunA_facts ht r ex rest _ _ h2
   unfold pstep at h1
   cases hn : nxt c.Jts a.Sec a.End_ with
   | none => rw [hn] at h1; cases h1
   | some p =>
     obtain ⟨q, i⟩ := p
     rw [hn] at h1
     obtain ⟨y, hy⟩ := nxt_sec ht hn
     simp only [hy, Option.getD_some, Bool.and_eq_true, decide_eq_true_eq, Bool.not_eq_true'] at h1
     obtain ⟨⟨⟨⟨⟨rfl, e2⟩, e3⟩, e4⟩, e5⟩, e6⟩ := h1
     refine ⟨fun x hx => ?_, ?_⟩
     · rcases List.mem_cons.1 hx with rfl | hx
       · refine ⟨⟨y, hy, e3, fun hs => ?_⟩, e4⟩
         rw [hs, Bool.true_and, decide_eq_false_iff_not] at e6
         exact Decidable.not_not.1 e6
       · obtain ⟨w1, w2⟩ := q1 x hx
         exact ⟨w1, fun hm => w2 (List.mem_cons_of_mem _ hm)⟩
     · rw [List.map_cons, List.nodup_cons]
       refine ⟨fun hm => ?_, q2⟩
       obtain ⟨x, hx, e⟩ := List.mem_map.1 hm
       exact (q1 x hx).2 (by rw [e]; simp)
structure RtOk (c : Cf) (r : Rt) : Prop where
 entry : ∃ a, geti c.Sigs r.Entry = some a
 exit_ : r.Exit = -1 ∨ ∃ x, geti c.Sigs r.Exit = some x
 len : 1 ≤ r.Path.length ∧ r.Path.length ≤ 8
 step : ∀ s ∈ r.Path, StOk c r s ∧ s.Sec ≠ c.approach r
 dup : (r.Path.map St.Sec).Nodup
 flank : r.Flank = c.flank (c.approach r) r.Path
 over : r.Overlap = c.overlap r
theorem routes_zero {c : Cf} : ∀ {l : List Rt}, c.routes l = 0 → ∀ r ∈ l, c.route r = 0
 | [], _, r, hr => by simp at hr
 | x :: l, h, r, hr => by
   rw [Cf.routes] at h
   split at h
   · rename_i hne; exact absurd h hne
   · rename_i he
     rcases List.mem_cons.1 hr with rfl | hr
     · simpa using he
     · exact routes_zero h r hr
theorem check_parts {c : Cf} (h : c.check = 0) : topoOk c.Secs c.Jts = true ∧ c.sigsOk = true ∧ c.xsOk = true ∧ c.Rts.length ≤ 12 ∧ c.routes c.Rts = 0 ∧ c.timing = true := by
 unfold Cf.check at h
 split at h
 · cases h
 split at h
 · cases h
 split at h
 · cases h
 split at h
 · cases h
 split at h
 · rename_i hne; exact absurd h hne
 split at h
 · rename_i h1 h2 h3 h4 h5 h6
   exact ⟨by simpa using h1, by simpa using h2, by simpa using h3, by omega, by simpa using h5, h6⟩
 · cases h
theorem path_ok {c : Cf} (ht : topoOk c.Secs c.Jts = true) {r : Rt} (h : c.route r = 0) : RtOk c r := by
 unfold Cf.route at h
 split at h
 · cases h
 split at h
 · cases h
 split at h
 · cases h
 rename_i h1 h2 h3
 have h1 : c.path r = true := by simpa using h1
 unfold Cf.path at h1
 cases hg : geti c.Sigs r.Entry with
 | none => rw [hg] at h1; cases h1
 | some a =>
   rw [hg] at h1
   simp only [Bool.and_eq_true, Bool.or_eq_true, decide_eq_true_eq] at h1
   obtain ⟨⟨e1, e2⟩, e3⟩ := h1
   obtain ⟨q1, q2⟩ := prunA_facts ht r _ _ _ _ e3
   have ha : c.approach r = a.Sec := by rw [Cf.approach, hg]; rfl
   refine ⟨⟨a, hg⟩, e1.imp id Option.isSome_iff_exists.1, e2, fun s hs => ⟨(q1 s hs).1, fun e => (q1 s hs).2 (by rw [e, ha]; simp)⟩, q2, Decidable.not_not.1 h2, Decidable.not_not.1 h3⟩
theorem check_rt {c : Cf} (h : c.check = 0) {r : Rt} (hr : r ∈ c.Rts) : RtOk c r := by
 obtain ⟨h1, _, _, _, h5, _⟩ := check_parts h
 exact path_ok h1 (routes_zero h5 r hr)
structure NdOk (c : Cf) (a : Int) (path : List St) (n : Nd) : Prop where
 sec : ∃ y, geti c.Secs n.Sec = some y ∧ y.Kind = 1
 pos : 1 ≤ n.Pos ∧ n.Pos ≤ 2
 app : n.Sec ≠ a
 path : hasSec path n.Sec = false
def FlOk (c : Cf) (a : Int) (path : List St) (out : List Nd) : Prop := (∀ n ∈ out, NdOk c a path n) ∧ (out.map Nd.Sec).Nodup
theorem flankStep_ok {c : Cf} {a : Int} {p : List St} {s : St} {out : List Nd} {e : Int} (h : FlOk c a p out) : FlOk c a p (flankStep c a p s out e) := by
 unfold flankStep
 split
 · exact h
 · split
   · exact h
   · split
     · exact h
     · rename_i y hy
       split
       · rename_i hc
         obtain ⟨c1, c2, c3, c4, c5⟩ := hc
         refine ⟨fun n hn => ?_, ?_⟩
         · rcases List.mem_append.1 hn with hn | hn
           · exact h.1 n hn
           · rw [List.mem_singleton] at hn; subst hn
             exact ⟨⟨y, hy, c1⟩, by simp only; omega, c3, c4⟩
         · rw [List.map_append, List.nodup_append]
           refine ⟨h.2, by simp, fun x hx z hz => ?_⟩
           simp only [List.map_cons, List.map_nil, List.mem_singleton] at hz
           subst hz
           intro e
           obtain ⟨n, hn, e2⟩ := List.mem_map.1 hx
           rw [List.any_eq_false] at c5
           exact c5 n hn (by rw [e2, e]; simp)
       · exact h
theorem flankEnds_ok {c : Cf} {a : Int} {p : List St} {s : St} : ∀ (n : Nat) (e : Int) (out : List Nd), FlOk c a p out → FlOk c a p (flankEnds c a p s n e out)
 | 0, _, _, h => h
 | n + 1, e, out, h => by rw [flankEnds]; exact flankEnds_ok n _ _ (flankStep_ok h)
theorem flankRun_ok {c : Cf} {a : Int} {p : List St} : ∀ (l : List St) (out : List Nd), FlOk c a p out → FlOk c a p (flankRun c a p l out)
 | [], _, h => h
 | s :: r, out, h => by
   rw [flankRun]
   refine flankRun_ok r _ ?_
   split
   · exact h
   · exact flankEnds_ok _ _ _ h
theorem flank_ok (c : Cf) (a : Int) (p : List St) : FlOk c a p (c.flank a p) := flankRun_ok p [] ⟨fun n h => by simp at h, by simp⟩
theorem flank_len (c : Cf) (a : Int) (p : List St) : (c.flank a p).length ≤ 4 * p.length := by
 have := (flankRun_len c a p p []).2
 simpa [Cf.flank] using this
theorem over_ok {c : Cf} {r : Rt} {q : Int} (h : q ∈ c.overlap r) : (∃ y, geti c.Secs q = some y ∧ y.Line = 0) ∧ hasSec r.Path q = false ∧ q ≠ c.approach r := by
 unfold Cf.overlap at h
 split at h
 · simp at h
 split at h
 · simp at h
 split at h
 · simp at h
 split at h
 · simp at h
 rename_i y hy
 split at h
 · rename_i hc
   rw [List.mem_singleton] at h; subst h
   exact ⟨⟨y, hy, hc.1⟩, hc.2.1, hc.2.2⟩
 · simp at h
theorem over_len (c : Cf) (r : Rt) : (c.overlap r).length ≤ 1 := by
 unfold Cf.overlap
 split
 · simp
 split
 · simp
 split
 · simp
 split
 · simp
 split <;> simp
theorem RtOk.fl {c : Cf} {r : Rt} (h : RtOk c r) : FlOk c (c.approach r) r.Path r.Flank := by rw [h.flank]; exact flank_ok _ _ _
theorem RtOk.flen {c : Cf} {r : Rt} (h : RtOk c r) : r.Flank.length ≤ 32 := by
 rw [h.flank]; have := flank_len c (c.approach r) r.Path; have := h.len; omega
theorem RtOk.olen {c : Cf} {r : Rt} (h : RtOk c r) : r.Overlap.length ≤ 1 := by rw [h.over]; exact over_len _ _
theorem RtOk.ov {c : Cf} {r : Rt} (h : RtOk c r) {q : Int} (hq : q ∈ r.Overlap) : (∃ y, geti c.Secs q = some y ∧ y.Line = 0) ∧ hasSec r.Path q = false ∧ q ≠ c.approach r := by rw [h.over] at hq; exact over_ok hq
theorem check_xs {c : Cf} (h : c.check = 0) : (∀ x ∈ c.Xs, ∃ s, geti c.Secs x = some s ∧ s.Line = 0) ∧ c.Xs.Nodup ∧ c.Xs.length ≤ 4 := by
 obtain ⟨_, _, h3, _⟩ := check_parts h
 rw [Cf.xsOk, Bool.and_eq_true, xrun_iff] at h3
 exact ⟨h3.1.1, h3.1.2.1, of_decide_eq_true h3.2⟩
theorem geti_nat {α : Type} {l : List α} {j : Nat} : geti l (j : Int) = l[j]? := by unfold geti; rw [if_neg (by omega), Int.toNat_natCast]
theorem fits_check {c : Cf} {k : Co} (h : k.fits c = true) : c.check = 0 := by
 rw [Co.fits, Bool.and_eq_true] at h; exact of_decide_eq_true h.1
end Go.Fw
namespace Go.Fw
end Go.Fw
end
namespace Go.Fw
section
def zRt : Rt := ⟨0, 0, [], [], [], false⟩
def Cf.rt (c : Cf) (i : Int) : Rt := (geti c.Rts i).getD zRt
def needOf (c : Cf) (s : St) : Option Nd :=
 match geti c.Secs s.Sec with
 | none => none
 | some y => match wpos (wayL y.Kind) s.In s.Out with
   | none => none
   | some p => if p = 0 then none else some ⟨s.Sec, p⟩
def Cf.needs (c : Cf) (r : Rt) : List Nd := r.Path.filterMap (needOf c) ++ r.Flank
def Cf.Needs (c : Cf) (i : Int) : List Nd := c.needs (c.rt i)
def crossL (path : List St) : List Int → Nat → List Int
 | [], _ => []
 | x :: r, j => if hasSec path x = true then (j : Int) :: crossL path r (j + 1) else crossL path r (j + 1)
def Cf.Cross (c : Cf) (i : Int) : List Int := crossL (c.rt i).Path c.Xs 0
theorem rt_some {c : Cf} {i : Int} {r : Rt} (h : geti c.Rts i = some r) : c.rt i = r := by unfold Cf.rt; rw [h]; rfl
theorem rt_none {c : Cf} {i : Int} (h : geti c.Rts i = none) : c.rt i = zRt := by unfold Cf.rt; rw [h]; rfl
theorem crossL_len (path : List St) : ∀ (l : List Int) (j : Nat), (crossL path l j).length ≤ l.length
 | [], _ => by simp [crossL]
 | x :: r, j => by
   rw [crossL]; have := crossL_len path r (j + 1)
   split <;> simp <;> omega
theorem crossL_mem (path : List St) : ∀ (l : List Int) (j : Nat) (n : Int), n ∈ crossL path l j → ∃ (i : Nat) (x : Int), n = ((j + i : Nat) : Int) ∧ l[i]? = some x ∧ hasSec path x = true
 | [], j, n, h => by simp [crossL] at h
 | x :: r, j, n, h => by
   have go : n ∈ crossL path r (j + 1) → ∃ (i : Nat) (y : Int), n = ((j + i : Nat) : Int) ∧ (x :: r)[i]? = some y ∧ hasSec path y = true := fun h => by
     obtain ⟨i, y, h1, h2, h3⟩ := crossL_mem path r (j + 1) n h
     exact ⟨i + 1, y, by omega, by simpa using h2, h3⟩
   rw [crossL] at h
   split at h
   · rename_i hx
     rcases List.mem_cons.1 h with rfl | h
     · exact ⟨0, x, by simp, rfl, hx⟩
     · exact go h
   · exact go h
theorem needs_len (c : Cf) (r : Rt) : (c.needs r).length ≤ r.Path.length + r.Flank.length := by
 unfold Cf.needs
 rw [List.length_append]
 have := List.length_filterMap_le (needOf c) r.Path
 omega
theorem needs_sec {c : Cf} {r : Rt} (h : RtOk c r) {n : Nd} (hn : n ∈ c.needs r) : (∃ y, geti c.Secs n.Sec = some y) ∧ 1 ≤ n.Pos ∧ n.Pos ≤ 2 := by
 unfold Cf.needs at hn
 rcases List.mem_append.1 hn with hn | hn
 · obtain ⟨s, hs, e⟩ := List.mem_filterMap.1 hn
   obtain ⟨⟨y, hy, _⟩⟩ := (h.step s hs).1
   unfold needOf at e
   rw [hy] at e
   simp only at e
   cases hp : wpos (wayL y.Kind) s.In s.Out with
   | none => rw [hp] at e; cases e
   | some p =>
     rw [hp] at e
     simp only at e
     split at e
     · cases e
     · rename_i hp0
       injection e with e; subst e
       refine ⟨⟨y, hy⟩, ?_⟩
       have key : ∀ (l : List (Int × Int × Int)), (∀ w ∈ l, w.2.2 = 0 ∨ w.2.2 = 1 ∨ w.2.2 = 2) → ∀ p, wpos l s.In s.Out = some p → p = 0 ∨ p = 1 ∨ p = 2 := by
         intro l
         induction l with
         | nil => intro _ p h; cases h
         | cons w r ih =>
           intro hw p h
           rw [wpos] at h
           split at h
           · injection h with h; rw [← h]; exact hw w (by simp)
           · exact ih (fun w hw' => hw w (by simp [hw'])) p h
       have hw : ∀ w ∈ wayL y.Kind, w.2.2 = 0 ∨ w.2.2 = 1 ∨ w.2.2 = 2 := by
         unfold wayL
         split
         · simp
         split
         · simp
         split
         · simp
         · simp
       have := key _ hw p hp
       simp only
       omega
 · have := h.fl.1 n hn
   obtain ⟨y, hy, _⟩ := this.sec
   exact ⟨⟨y, hy⟩, this.pos⟩
end
end Go.Fw
namespace Go.Proofs.YtdlnbehcnfjneaaGreat
open Go.Fw Go.Proofs Go.RowKit
section
variable {σ : Store}
section
variable {c0 c1 c2 c3 c4 : D} {c : Cf} (h : ∀ s, CfAt s c0 c1 c2 c3 c4 c)
include h
theorem rt_frz {i : Nat} {x : Rt} (hx : c.Rts[i]? = some x) : ∃ rows d1 d2 d3, (∀ s, At Tryz.prog s t_Route c4 rows) ∧ rows.length = c.Rts.length ∧ rows[i]? = some [iD x.Entry, iD x.Exit, d1, d2, d3, .bool x.Shunt] ∧
   (∀ s, At Tryz.prog s t_Step d1 (x.Path.map St.enc)) ∧ (∀ s, At Tryz.prog s t_Need d2 (x.Flank.map Nd.enc)) ∧ (∀ s, At Tryz.prog s t_int d3 (x.Overlap.map Go.Fw.encI)) := by
 obtain ⟨rows, hat, hlen, hrow⟩ := rts_froz fun s => (h s).rts
 obtain ⟨row, hrw⟩ := get_of_lt (l := rows) (j := i) (by have := (List.getElem?_eq_some_iff.1 hx).1; omega)
 obtain ⟨d1, d2, d3, rfl, q1, q2, q3⟩ := hrow i row x hrw hx
 exact ⟨rows, d1, d2, d3, hat, hlen, hrw, q1, q2, q3⟩
theorem mover_route_ok (i : Int) : DCalls Tryz.prog n_mover_route [cfA c0 c1 c2 c3 c4 c, iA i] σ fun r s => s = σ ∧ ∃ d1 d2 d3, r = .tup [rtA d1 d2 d3 (c.rt i), bA (geti c.Rts i).isSome] ∧
   (∀ s, At Tryz.prog s t_Step d1 ((c.rt i).Path.map St.enc)) ∧ (∀ s, At Tryz.prog s t_Need d2 ((c.rt i).Flank.map Nd.enc)) ∧ (∀ s, At Tryz.prog s t_int d3 ((c.rt i).Overlap.map Go.Fw.encI)) := by
 have no : geti c.Rts i = none → (σ = σ ∧ ∃ d1 d2 d3, RV.tup [.agg [iD 0, iD 0, .nils, .nils, .nils, .bool false], bA false] = .tup [rtA d1 d2 d3 (c.rt i), bA (geti c.Rts i).isSome] ∧
   (∀ s, At Tryz.prog s t_Step d1 ((c.rt i).Path.map St.enc)) ∧ (∀ s, At Tryz.prog s t_Need d2 ((c.rt i).Flank.map Nd.enc)) ∧ (∀ s, At Tryz.prog s t_int d3 ((c.rt i).Overlap.map Go.Fw.encI))) := fun e => by
   rw [rt_none e, e]
   exact ⟨rfl, _, _, _, rfl, fun _ => .nil, fun _ => .nil, fun _ => .nil⟩
 obtain ⟨rows, hat, hlen⟩ := rts_len (h σ)
 refine W_mover_route _ _ _ _ _ _ _ _ _ i σ _ (bcd (fun e => no (geti_neg e)) (fun e0 => hat.lenK (bcd (fun e => no (geti_ge (by omega))) (fun e1 => ?_))))
 obtain ⟨x, hx⟩ := geti_ex (l := c.Rts) (i := i) e0 (by omega)
 obtain ⟨rows, d1, d2, d3, hat, hlen, hrow, q1, q2, q3⟩ := rt_frz h (geti_some hx).2.2
 refine (hat σ).load hrow c_Route (by omega) ⟨_, _, _, _, _, _, rfl, ?_⟩
 rw [rt_some hx, hx]
 exact ⟨rfl, _, _, _, rfl, q1, q2, q3⟩
theorem mover_Needs_ok (i : Int) (h1 : (c.rt i).Path.length ≤ 2 ^ 20) (h2 : (c.rt i).Flank.length ≤ 2 ^ 20) :
   DCalls Tryz.prog n_mover_Needs [cfA c0 c1 c2 c3 c4 c, iA i] σ (SlPost σ t_Need ((c.Needs i).map Nd.enc)) := by
 refine (W_mover_Needs _ _ _ _ _ _ _ _ _ i σ _ ?_).ret (Q := fun r s => ∃ r' σ', Ret Tryz.prog σ s r σ' r' ∧ SlPost σ t_Need ((c.Needs i).map Nd.enc) r' σ') (fun r s h => h)
 refine (mover_route_ok h i).mono ?_
 rintro r s ⟨rfl, d1, d2, d3, rfl, q1, q2, q3⟩
 rw [Cf.Needs]
 generalize c.rt i = x at *
 refine ⟨_, _, _, _, _, _, _, rfl, (q1 s).lenK ⟨fun d n s' => ∃ out : List Nd, Own Tryz.prog s s' t_Need d (out.map Nd.enc) ∧ (out.length : Int) ≤ n ∧ Rng x.Path (fun r => out ++ r.filterMap (needOf c) = x.Path.filterMap (needOf c)) n,
   fun _ n _ => x.Path.length - n.toNat, ⟨[], .nil _ (.refl _), by simp, .start rfl⟩, ?_⟩⟩
 rintro d n s' ⟨out, ho, hol, hr⟩
 rw [List.length_map]
 refine bcd (fun hlt => ?_) (fun hge => ?_)
 · obtain ⟨j, y, rfl, hy, hj, hF, nx⟩ := hr.step rfl (by omega) hlt
   rw [List.filterMap_cons] at hF
   have skip : needOf c y = none → ∀ s2, Ext s' s2 → (∃ out : List Nd, Own Tryz.prog s s2 t_Need d (out.map Nd.enc) ∧ (out.length : Int) ≤ w64 ((j : Int) + 1) ∧ Rng x.Path (fun r => out ++ r.filterMap (needOf c) = x.Path.filterMap (needOf c)) (w64 ((j : Int) + 1))) ∧
       x.Path.length - (w64 ((j : Int) + 1)).toNat < x.Path.length - (j : Int).toNat := fun hn s2 he => by
     rw [hn] at hF
     have := nx (fun r => out ++ r.filterMap (needOf c) = x.Path.filterMap (needOf c)) hF
     exact ⟨⟨out, ho.ext' he, by rw [w64_succ (by omega)]; omega, this.1⟩, this.2⟩
   refine (q1 s').load (map_get hy) c_Step rfl ⟨y.Sec, y.In, y.Out, rfl, bcd (fun e => ⟨rfl, skip (by unfold needOf; rw [geti_neg e]) _ (.refl _)⟩) (fun e0 => (h s').secs.lenK ?_)⟩
   rw [List.length_map]
   refine bcd (fun e => ⟨rfl, skip (by unfold needOf; rw [geti_ge e]) _ (.refl _)⟩) (fun e1 => ?_)
   obtain ⟨z, hz⟩ := geti_ex e0 e1
   have hneed : needOf c y = match wpos (wayL z.Kind) y.In y.Out with | none => none | some p => if p = 0 then none else some ⟨y.Sec, p⟩ := by unfold needOf; rw [hz] <;> rfl
   refine (h s').secs.load (map_get (geti_some hz).2.2) c_Section (by omega) ⟨z.Kind, rfl, (topo_Pos_ok _ _ _).use (opt1_ex _ ?_)⟩
   cases hp : wpos (wayL z.Kind) y.In y.Out with
   | none => rw [hp] at hneed; exact bc (fun e => by cases e) (fun _ => ⟨rfl, skip hneed _ (.refl _)⟩)
   | some p =>
     rw [hp] at hneed
     refine bc (fun _ => bcn (fun e => ?_) (fun e => ⟨rfl, skip (by rw [hneed]; exact if_pos e) _ (.refl _)⟩)) (fun e => by cases e)
     have hsome : needOf c y = some ⟨y.Sec, p⟩ := by rw [hneed]; exact if_neg e
     rw [hsome] at hF
     refine newObj_intro fun id s2 hid _ he hs2 => (ho.ext' he).append (At.fresh hs2 (by simp) rfl) (by simp; omega) (by simp; omega) fun d4 s5 ho5 _ _ => ⟨rfl, ?_⟩
     have := nx (fun r => (out ++ [⟨y.Sec, p⟩]) ++ r.filterMap (needOf c) = x.Path.filterMap (needOf c)) (by rw [List.append_assoc]; exact hF)
     exact ⟨⟨out ++ [⟨y.Sec, p⟩], by rw [List.map_append]; exact ho5, by rw [w64_succ (by omega), List.length_append, List.length_singleton]; omega, this.1⟩, this.2⟩
 · have hF := hr.done rfl hge
   have hn : n ≤ x.Path.length := by obtain ⟨j, rfl, hj, _⟩ := hr; omega
   rw [List.filterMap_nil, List.append_nil] at hF
   subst hF
   refine ho.append (q2 s') (by simp only [List.length_map]; omega) (by simp only [List.length_map]; omega) fun d4 s5 ho5 _ _ => ?_
   rw [← List.map_append] at ho5
   exact own_fin ho5 (flatNd _)
theorem mover_Crossings_ok (i : Int) (h1 : c.Xs.length ≤ 2 ^ 20) :
   DCalls Tryz.prog n_mover_Crossings [cfA c0 c1 c2 c3 c4 c, iA i] σ (SlPost σ t_int ((c.Cross i).map Go.Fw.encI)) := by
 refine (W_mover_Crossings _ _ _ _ _ _ _ _ _ i σ _ ?_).ret (Q := fun r s => ∃ r' σ', Ret Tryz.prog σ s r σ' r' ∧ SlPost σ t_int ((c.Cross i).map Go.Fw.encI) r' σ') (fun r s h => h)
 refine (mover_route_ok h i).mono ?_
 rintro r s ⟨rfl, d1, d2, d3, rfl, q1, q2, q3⟩
 rw [Cf.Cross]
 generalize c.rt i = x at *
 refine ⟨_, _, _, _, _, _, _, rfl, (h s).xs.lenK ⟨fun d n s' => ∃ out : List Int, Own Tryz.prog s s' t_int d (out.map Go.Fw.encI) ∧ (out.length : Int) ≤ n ∧ Rng c.Xs (fun r => out ++ crossL x.Path r n.toNat = crossL x.Path c.Xs 0) n,
   fun _ n _ => c.Xs.length - n.toNat, ⟨[], .nil _ (.refl _), by simp, .start rfl⟩, ?_⟩⟩
 rintro d n s' ⟨out, ho, hol, hr⟩
 rw [List.length_map]
 refine bcd (fun hlt => ?_) (fun hge => ?_)
 · obtain ⟨j, y, rfl, hy, hj, hF, nx⟩ := hr.step rfl (by omega) hlt
   have hw : w64 ((j : Int) + 1) = ((j + 1 : Nat) : Int) := w64_succ (by omega)
   have go : ∀ out2 d2 s2, out2 ++ crossL x.Path (c.Xs.drop (j + 1)) (j + 1) = crossL x.Path c.Xs 0 → Own Tryz.prog s s2 t_int d2 (out2.map Go.Fw.encI) → out2.length ≤ j + 1 → (∃ out : List Int, Own Tryz.prog s s2 t_int d2 (out.map Go.Fw.encI) ∧ (out.length : Int) ≤ w64 ((j : Int) + 1) ∧ Rng c.Xs (fun r => out ++ crossL x.Path r (w64 ((j : Int) + 1)).toNat = crossL x.Path c.Xs 0) (w64 ((j : Int) + 1))) ∧
       c.Xs.length - (w64 ((j : Int) + 1)).toNat < c.Xs.length - (j : Int).toNat := fun out2 d2 s2 he ho2 hl => by
     have := nx (fun r => out2 ++ crossL x.Path r (w64 ((j : Int) + 1)).toNat = crossL x.Path c.Xs 0) (by rw [hw, Int.toNat_natCast]; exact he)
     exact ⟨⟨out2, ho2, by rw [hw]; omega, this.1⟩, this.2⟩
   rw [Int.toNat_natCast, crossL] at hF
   refine (h s').xs.load (map_get hy) c_int rfl ⟨y, rfl, newObj_intro fun id s2 hid _ he hs2 => box_store hs2 fun s3 hs3 hs3' => ?_⟩
   have he3 : Ext s' s3 := fun i hi => by
     rw [hs3' i (fun e => hi (by rw [e]; exact hid))]; exact he i hi
   have ho3 := ho.ext' he3
   refine (ContainsFunc_Step_ok (p := fun x => x.Sec == y) (q1 s3) (cap_fn hs3 fun x _ => W_mover_Crossings_1 x.Sec x.In x.Out _ s3 _ ⟨_, _, _, rfl, _, box_row hs3, y, rfl, rfl, rfl⟩)).use ⟨_, rfl, ?_⟩
   refine bc (fun e => ?_) (fun e => ⟨rfl, go out _ _ (by rw [if_neg (fun g => by have : hasSec x.Path y = false := e; rw [this] at g; cases g)] at hF; exact hF) ho3 (by omega)⟩)
   rw [if_pos (show hasSec x.Path y = true from e)] at hF
   refine newObj_intro fun id1 s4 hid1 _ he4 hs4 => (ho3.ext' he4).append (At.fresh hs4 (by simp) rfl) (by simp; omega) (by simp; omega) fun d4 s5 ho5 _ _ => ⟨rfl, go (out ++ [(j : Int)]) _ _ (by rw [List.append_assoc]; exact hF) (by rw [List.map_append]; exact ho5) (by simp; omega)⟩
 · have hF := hr.done rfl hge
   rw [crossL, List.append_nil] at hF
   subst hF
   exact own_fin ho (flatI _)
end
end
end Go.Proofs.YtdlnbehcnfjneaaGreat
namespace Go.Fw
section
structure Br where
 Kind : Int
 Route : Int
 Sec : Int
 deriving DecidableEq
def Br.enc (b : Br) : List D := [iD b.Kind, iD b.Route, iD b.Sec]
def opt (b : Bool) (x : Br) : List Br := if b = true then [x] else []
def ownAt (k : Co) (s : Int) : Int := (geti k.Own s).getD 0
def stAt (k : Co) (i : Int) : Int := ((geti k.Routes i).map Rs.State).getD 0
def nextAt (k : Co) (i : Int) : Int := ((geti k.Routes i).map Rs.Next).getD 0
def cmdAt (l : List Mv) (i : Int) : Int := ((geti l i).map Mv.Cmd).getD 0
def xAt (c : Cf) (i : Int) : Int := (geti c.Xs i).getD 0
def runsB (st : Int) : Bool := inL [1, 2, 3] st
def fromOf (k : Co) (r len : Nat) : Nat := if runsB (stAt k r) = true then 0 else if inL [4, 5] (stAt k r) = true then (nextAt k r).toNat else len
def ownP (k : Co) (r : Nat) : List St → List Br
 | [] => []
 | s :: l => opt (ownAt k s.Sec != (r : Int) + 1) ⟨2, r, s.Sec⟩ ++ ownP k r l
def ownsAll (k : Co) : List Rt → Nat → List Br
 | [], _ => []
 | x :: l, r => ownP k r (x.Path.drop (fromOf k r x.Path.length)) ++ ownsAll k l (r + 1)
def idles (k : Co) : List Int → Nat → List Br
 | [], _ => []
 | o :: l, s => opt (decide (o > 0) && inL [0] (stAt k (o - 1))) ⟨3, o - 1, s⟩ ++ idles k l (s + 1)
def needB (k : Co) (r : Nat) : List Nd → List Br
 | [] => []
 | n :: l => opt ((ownAt k n.Sec == (r : Int) + 1) && (cmdAt k.Points n.Sec != n.Pos)) ⟨4, r, n.Sec⟩ ++ needB k r l
def pointsAll (c : Cf) (k : Co) : List Rt → Nat → List Br
 | [], _ => []
 | x :: l, r => (if runsB (stAt k r) = true then needB k r (c.needs x) else []) ++ pointsAll c k l (r + 1)
def gateB (c : Cf) (k : Co) (r : Nat) : List Int → List Br
 | [] => []
 | i :: l => opt ((ownAt k (xAt c i) == (r : Int) + 1) && (cmdAt k.Xs i != 1)) ⟨5, r, xAt c i⟩ ++ gateB c k r l
def gatesAll (c : Cf) (k : Co) : List Rt → Nat → List Br
 | [], _ => []
 | x :: l, r => (if inL [0] (stAt k r) = true then [] else gateB c k r (crossL x.Path c.Xs 0)) ++ gatesAll c k l (r + 1)
def lineB (c : Cf) (k : Co) (line : Nat) : List Br :=
 let s := c.lineSec line
 let l := (k.Lines[line]?).getD zLs
 opt (decide (0 ≤ s) && (decide (l.Done > l.Ask) || (decide (l.Told > l.Grant) || ((ownAt k s == -2) && (l.Ask != l.Done))))) ⟨6, -1, s⟩
def linesAll (c : Cf) (k : Co) : Nat → List Br
 | 0 => []
 | j + 1 => linesAll c k j ++ lineB c k (j + 1)
def Co.judge (c : Cf) (k : Co) : List Br :=
 if k.fits c = true then ownsAll k c.Rts 0 ++ idles k k.Own 0 ++ pointsAll c k c.Rts 0 ++ gatesAll c k c.Rts 0 ++ linesAll c k 3 else [⟨1, -1, -1⟩]
def worseL : List (Int × Int) → Nat → List Int
 | [], _ => []
 | p :: l, j => if p.1 ≠ p.2 ∧ p.1 ≠ 0 ∧ p.2 ≠ 0 then (j : Int) :: worseL l (j + 1) else worseL l (j + 1)
def Co.worse (c : Cf) (k n : Co) : List Int := if k.fits c = true ∧ n.fits c = true then worseL (k.Own.zip n.Own) 0 else []
theorem opt_len (b : Bool) (x : Br) : (opt b x).length ≤ 1 := by unfold opt; split <;> simp
theorem ownP_len (k : Co) (r : Nat) : ∀ l : List St, (ownP k r l).length ≤ l.length
 | [] => by simp [ownP]
 | s :: l => by rw [ownP, List.length_append, List.length_cons]; have := opt_len (ownAt k s.Sec != (r : Int) + 1) ⟨2, r, s.Sec⟩; have := ownP_len k r l; omega
theorem ownsAll_len (k : Co) : ∀ (l : List Rt) (r : Nat), (∀ x ∈ l, x.Path.length ≤ 8) → (ownsAll k l r).length ≤ 8 * l.length
 | [], _, _ => by simp [ownsAll]
 | x :: l, r, h => by
   rw [ownsAll, List.length_append, List.length_cons]
   have h1 := ownP_len k r (x.Path.drop (fromOf k r x.Path.length))
   have h2 := ownsAll_len k l (r + 1) (fun y hy => h y (by simp [hy]))
   have h3 := h x (by simp)
   rw [List.length_drop] at h1; omega
theorem idles_len (k : Co) : ∀ (l : List Int) (s : Nat), (idles k l s).length ≤ l.length
 | [], _ => by simp [idles]
 | o :: l, s => by rw [idles, List.length_append, List.length_cons]; have := opt_len (decide (o > 0) && inL [0] (stAt k (o - 1))) ⟨3, o - 1, s⟩; have := idles_len k l (s + 1); omega
theorem needB_len (k : Co) (r : Nat) : ∀ l : List Nd, (needB k r l).length ≤ l.length
 | [] => by simp [needB]
 | n :: l => by rw [needB, List.length_append, List.length_cons]; have := opt_len ((ownAt k n.Sec == (r : Int) + 1) && (cmdAt k.Points n.Sec != n.Pos)) ⟨4, r, n.Sec⟩; have := needB_len k r l; omega
theorem pointsAll_len (c : Cf) (k : Co) : ∀ (l : List Rt) (r : Nat), (∀ x ∈ l, (c.needs x).length ≤ 40) → (pointsAll c k l r).length ≤ 40 * l.length
 | [], _, _ => by simp [pointsAll]
 | x :: l, r, h => by
   rw [pointsAll, List.length_append, List.length_cons]
   have h2 := pointsAll_len c k l (r + 1) (fun y hy => h y (by simp [hy]))
   have h3 := h x (by simp)
   have h4 := needB_len k r (c.needs x)
   split <;> simp <;> omega
theorem gateB_len (c : Cf) (k : Co) (r : Nat) : ∀ l : List Int, (gateB c k r l).length ≤ l.length
 | [] => by simp [gateB]
 | i :: l => by rw [gateB, List.length_append, List.length_cons]; have := opt_len ((ownAt k (xAt c i) == (r : Int) + 1) && (cmdAt k.Xs i != 1)) ⟨5, r, xAt c i⟩; have := gateB_len c k r l; omega
theorem gatesAll_len (c : Cf) (k : Co) : ∀ (l : List Rt) (r : Nat), c.Xs.length ≤ 4 → (gatesAll c k l r).length ≤ 4 * l.length
 | [], _, _ => by simp [gatesAll]
 | x :: l, r, h => by
   rw [gatesAll, List.length_append, List.length_cons]
   have h2 := gatesAll_len c k l (r + 1) h
   have h4 := gateB_len c k r (crossL x.Path c.Xs 0)
   have h5 := crossL_len x.Path c.Xs 0
   split <;> simp <;> omega
theorem linesAll_len (c : Cf) (k : Co) : ∀ j : Nat, (linesAll c k j).length ≤ j
 | 0 => by simp [linesAll]
 | j + 1 => by rw [linesAll, List.length_append]; have := linesAll_len c k j; have : (lineB c k (j + 1)).length ≤ 1 := opt_len _ _; omega
theorem stAt_get {k : Co} {i : Int} {j : Nat} {x : Rs} (hi : i = j) (h : k.Routes[j]? = some x) : stAt k i = x.State ∧ nextAt k i = x.Next := by
 unfold stAt nextAt; subst hi; rw [geti_nat, h]; exact ⟨rfl, rfl⟩
theorem ownAt_get {k : Co} {i : Int} {j : Nat} {x : Int} (hi : i = j) (h : k.Own[j]? = some x) : ownAt k i = x := by unfold ownAt; subst hi; rw [geti_nat, h]; rfl
theorem cmdAt_get {l : List Mv} {i : Int} {j : Nat} {x : Mv} (hi : i = j) (h : l[j]? = some x) : cmdAt l i = x.Cmd := by unfold cmdAt; subst hi; rw [geti_nat, h]; rfl
theorem xAt_get {c : Cf} {i : Int} {j : Nat} {x : Int} (hi : i = j) (h : c.Xs[j]? = some x) : xAt c i = x := by unfold xAt; subst hi; rw [geti_nat, h]; rfl
def ctr (d : D) (s : Store) : Nat :=
 match d with
 | .el (.osl i _ _) _ _ => match s i with
   | .live _ ((.int _ n :: _) :: _) => (4 - n).toNat
   | _ => 0
 | _ => 0
theorem ctr_at {s : Store} {i : Nat} {t : TypeId} {j : Nat} (h : s i = .live t [[iD j]]) : ctr (.el (.osl i 0 1) 0 0) s = 4 - j := by
 unfold ctr; simp only [h]; omega
end
end Go.Fw
namespace Go.Proofs.YtdlnbehcnfjneaaGreat
open Go.Fw Go.Proofs Go.RowKit
section
variable {σ : Store}
theorem Contains_int_ok {d : D} {l : List Int} (v : Int) (h : At Tryz.prog σ t_int d (l.map Go.Fw.encI)) : Pure Tryz.prog n_slices_Contains_int [.one d, iA v] σ (.a (bA (inL l v))) := by
 refine W_slices_Contains_int d v σ _ ((slices_Index_int_ok v h).use ⟨_, rfl, ?_, rfl⟩)
 have key : ∀ (l : List Int) (j : Nat), decide (idxOf l v j ≥ 0) = inL l v := by
   intro l
   induction l with
   | nil => intro j; simp [idxOf, inL]
   | cons x r ih =>
     intro j
     rw [idxOf]
     by_cases hx : v = x
     · rw [if_pos hx]; simp [inL, hx]
     · rw [if_neg hx, ih, inL, inL]; simp [hx]
 rw [key]
theorem rest_len {α : Type} {a b t : List α} {n : Nat} (h : a ++ b = t) (ht : t.length ≤ n) : a.length ≤ n := by
 have := congrArg List.length h
 rw [List.length_append] at this; omega
section
variable {c0 c1 c2 c3 c4 : D} {c : Cf} {k0 k1 k2 k3 k4 k5 : D} {k : Co} {σ0 : Store} {b : Bool} {id : Nat} {d : D} {out : List Br}
structure JAt (σ0 σ : Store) (id : Nat) (k0 k1 k2 k3 k4 k5 : D) (b : Bool) (c0 c1 c2 c3 c4 : D) (c : Cf) (d : D) (out : List Br) : Prop where
 new : σ0 id = .free
 row : σ id = .live t_watch_judge [[k0, k1, k2, k3, k4, k5, .bool b, c0, c1, c2, c3, c4, iD c.Age, iD c.Brake, iD c.Hold, iD c.Budget, d]]
 own : Own Tryz.prog σ0 σ t_Breach d (out.map Br.enc)
 ido : idOf d ≠ some id
theorem JAt.ext' {σ' : Store} (h : JAt σ0 σ id k0 k1 k2 k3 k4 k5 b c0 c1 c2 c3 c4 c d out) (he : Ext σ σ') : JAt σ0 σ' id k0 k1 k2 k3 k4 k5 b c0 c1 c2 c3 c4 c d out :=
 ⟨h.new, (he id (by rw [h.row]; intro e; cases e)).trans h.row, h.own.ext' he, h.ido⟩
theorem judge_note_ok (h : JAt σ0 σ id k0 k1 k2 k3 k4 k5 b c0 c1 c2 c3 c4 c d out) (hl : out.length ≤ 2 ^ 30) (w : Bool) (x y z : Int) :
   DCalls Tryz.prog n_watch_judge_note [.one (dp id), bA w, iA x, iA y, iA z] σ fun r s => r = .tup [] ∧ ∃ d', JAt σ0 s id k0 k1 k2 k3 k4 k5 b c0 c1 c2 c3 c4 c d' (out ++ opt w ⟨x, y, z⟩) ∧
     (∀ i, σ i ≠ .free → i ≠ id → idOf d ≠ some i → s i = σ i) ∧ ∀ i, idOf d' = some i → σ i = .free ∨ idOf d = some i := by
 refine W_watch_judge_note (dp id) w x y z σ _ (bc (fun e => ?_) (fun e => ⟨rfl, d, by rw [opt, e]; simpa using h, fun _ _ _ _ => rfl, fun _ h => .inr h⟩))
 refine ⟨trivial, _, _, _, rfl, _, box_row h.row, d, rfl, newObj_intro fun id2 s2 hid2 _ he2 hs2 => ?_⟩
 have h2 := h.ext' he2
 refine h2.own.append (At.fresh hs2 (by simp) rfl) (by simp; omega) (by simp; omega) fun d4 s5 ho5 hk hd4 => ?_
 have hr5 : s5 id = .live t_watch_judge [[k0, k1, k2, k3, k4, k5, .bool b, c0, c1, c2, c3, c4, iD c.Age, iD c.Brake, iD c.Hold, iD c.Budget, d]] :=
   (hk id (by rw [h2.row]; intro e; cases e) fun a b e => h2.ido (by rw [e]; rfl)).trans h2.row
 have hid4 : idOf d4 ≠ some id := fun e => by
   cases d4 with
   | osl i a n =>
     have e1 : i = id := by simpa [idOf] using e
     subst e1
     rcases hd4 i a n rfl with q | ⟨a2, b2, q⟩
     · rw [h2.row] at q; cases q
     · exact h2.ido (by rw [q]; rfl)
   | _ => simp [idOf] at e
 refine ⟨trivial, _, _, _, rfl, cell_store hr5 (by simp) fun s6 hs6 hs6' => ⟨rfl, d4, ⟨h.new, hs6, ?_, hid4⟩, fun i hi hne hd => ?_, fun i hi => ?_⟩⟩
 · have := own_other ho5 h.new hid4 hs6'
   rw [opt, if_pos e, List.map_append]; exact this
 · rw [hs6' i hne, hk i (by rw [he2 i hi]; exact hi) fun a b e => hd (by rw [e]; rfl), he2 i hi]
 · cases d4 with
   | osl i' a n =>
     have e1 : i' = i := by simpa [idOf] using hi
     subst e1
     rcases hd4 i' a n rfl with q | ⟨a2, b2, q⟩
     · left
       by_cases hf : σ i' = .free
       · exact hf
       · have := he2 i' hf; rw [q] at this; exact this.symm
     · right; rw [q]; rfl
   | _ => simp [idOf] at hi
theorem judge_in_ok {e : D} {l : List Int} {r : Nat} {x : Rs} (h : JAt σ0 σ id k0 k1 k2 k3 k4 k5 b c0 c1 c2 c3 c4 c d out) (hk : CoAt σ k0 k1 k2 k3 k4 k5 k) (hx : k.Routes[r]? = some x) (hl : At Tryz.prog σ t_int e (l.map Go.Fw.encI)) :
   Pure Tryz.prog n_watch_judge_in [.one (dp id), iA r, .one e] σ (.a (bA (inL l (stAt k r)))) := by
 rw [(stAt_get rfl hx).1]
 exact W_watch_judge_in (dp id) r e σ _ ⟨trivial, _, _, _, rfl, _, box_row h.row, k1, rfl, hk.routes.load (map_get hx) c_RouteState rfl ⟨x.State, rfl, (Contains_int_ok _ hl).use ⟨_, rfl, rfl, rfl⟩⟩⟩
theorem judge_running_ok {r : Nat} {x : Rs} (h : JAt σ0 σ id k0 k1 k2 k3 k4 k5 b c0 c1 c2 c3 c4 c d out) (hk : CoAt σ k0 k1 k2 k3 k4 k5 k) (hx : k.Routes[r]? = some x) :
   Pure Tryz.prog n_watch_judge_running [.one (dp id), iA r] σ (.a (bA (runsB (stAt k r)))) := by
 refine .of (W_watch_judge_running (dp id) r σ _ (newObj_intro fun id2 s2 hid2 _ he2 hs2 => ?_)) (flat_b _)
 exact (judge_in_ok (l := [1, 2, 3]) (h.ext' he2) (hk.ext he2) hx (At.fresh hs2 (by simp) rfl)).use ⟨_, rfl, rfl, he2⟩
variable (hc : ∀ s, CfAt s c0 c1 c2 c3 c4 c) (hk : CoAt σ0 k0 k1 k2 k3 k4 k5 k) (hfit : k.fits c = true)
include hc hk hfit
theorem judge_owners_ok (h : JAt σ0 σ id k0 k1 k2 k3 k4 k5 b c0 c1 c2 c3 c4 c d out) (hl : (out ++ (ownsAll k c.Rts 0 ++ idles k k.Own 0)).length ≤ 2 ^ 30) :
   DCalls Tryz.prog n_watch_judge_owners [.one (dp id)] σ fun r s => r = .tup [] ∧ ∃ d', JAt σ0 s id k0 k1 k2 k3 k4 k5 b c0 c1 c2 c3 c4 c d' (out ++ (ownsAll k c.Rts 0 ++ idles k k.Own 0)) := by
 obtain ⟨lo, lp, lr, lt, lx, ll⟩ := fits_lens hfit
 have hck := fits_check hfit
 obtain ⟨_, s1, s2, s3, _, _⟩ := check_small hck
 obtain ⟨rows, hat, hlen, hrow⟩ := rts_froz fun s => (hc s).rts
 refine W_watch_judge_owners (dp id) σ _ ⟨trivial, _, _, _, rfl, _, box_row h.row, c4, rfl, (hat σ).lenK ⟨fun n s => ∃ d' out', JAt σ0 s id k0 k1 k2 k3 k4 k5 b c0 c1 c2 c3 c4 c d' out' ∧ Rng c.Rts (fun l => out' ++ (ownsAll k l n.toNat ++ idles k k.Own 0) = out ++ (ownsAll k c.Rts 0 ++ idles k k.Own 0)) n,
   fun n _ => c.Rts.length - n.toNat, ⟨d, out, h, .start rfl⟩, ?_⟩⟩
 rintro n s ⟨d1, out1, h1, hr⟩
 refine bcd (fun hlt => ?_) (fun hge => ?_)
 · obtain ⟨j, x, rfl, hx, hj, hF, nx⟩ := hr.step hlen (by omega) hlt
   have hw : w64 ((j : Int) + 1) = ((j + 1 : Nat) : Int) := w64_succ (by omega)
   have hxo := check_rt hck (List.mem_of_getElem? hx)
   obtain ⟨row, hrw⟩ := get_of_lt (l := rows) (j := j) (by omega)
   obtain ⟨e1, e2, e3, rfl, q1, q2, q3⟩ := hrow j row x hrw hx
   obtain ⟨rs, hrs⟩ := get_of_lt (l := k.Routes) (j := j) (by omega)
   have hst := stAt_get (i := j) rfl hrs
   rw [Int.toNat_natCast, ownsAll] at hF
   refine (hat s).load hrw c_Route rfl ⟨_, _, e1, e2, e3, _, rfl, (q1 s).lenK ?_⟩
   rw [List.length_map]
   intro R hR
   have body : ∀ (fr : Nat) (s' : Store) (R1 : Store → Prop), fr = fromOf k j x.Path.length → JAt σ0 s' id k0 k1 k2 k3 k4 k5 b c0 c1 c2 c3 c4 c d1 out1 →
       ∃ len3 : Nat, IdxN Tryz.prog s' e1 3 len3 ∧ (0 : Int) ≤ (fr : Int) ∧ (fr : Int) ≤ (len3 : Int) ∧ ∃ len4 : Nat, Len (dsub e1 (Int.toNat fr) len3) len4 ∧ ∃ I1 : Int → Store → Prop, ∃ μ1 : Int → Store → Nat, I1 0 s' ∧ ∀ n5 : Int, ∀ s3 : Store, I1 n5 s3 →
         bcase (decide (n5 < (len4 : Int))) (∃ len5 : Nat, Idx Tryz.prog s3 (dsub e1 (Int.toNat fr) len3) 3 len5 ∧ (0 : Int) ≤ n5 ∧ n5 < (len5 : Int) ∧ ∃ row2 : List D, Row s3 (dsub e1 (Int.toNat fr) len3) (Int.toNat n5) row2 ∧ ∃ n6 n7 n8 : Int, List.take 3 row2 = [iD n6, iD n7, iD n8] ∧ NotNil (dp id) ∧
           ∃ s1 : D, ∃ i1 off1 : Nat, dp id = .el s1 i1 off1 ∧ ∃ row3 : List D, Row s3 s1 i1 row3 ∧ ∃ d4 : D, List.take 1 (List.drop ((off1 + 0) + 0) row3) = [d4] ∧ ∃ len6 : Nat, Idx Tryz.prog s3 d4 1 len6 ∧ (0 : Int) ≤ n6 ∧ n6 < (len6 : Int) ∧ ∃ row4 : List D, Row s3 d4 (Int.toNat n6) row4 ∧ ∃ n9 : Int, List.take 1 row4 = [iD n9] ∧
           DCalls Tryz.prog n_watch_judge_note [.one (dp id), bA (n9 != w64 ((j : Int) + 1)), iA 2, iA j, iA n6] s3 fun r s4 => r = .tup [] ∧ I1 (w64 (n5 + 1)) s4 ∧ μ1 (w64 (n5 + 1)) s4 < μ1 n5 s3)
         ((fun (n : Int) (s : Store) => ∃ d' out', JAt σ0 s id k0 k1 k2 k3 k4 k5 b c0 c1 c2 c3 c4 c d' out' ∧ Rng c.Rts (fun l => out' ++ (ownsAll k l n.toNat ++ idles k k.Own 0) = out ++ (ownsAll k c.Rts 0 ++ idles k k.Own 0)) n) (w64 ((j : Int) + 1)) s3 ∧ c.Rts.length - (w64 ((j : Int) + 1)).toNat < c.Rts.length - (j : Int).toNat) := by
     intro fr s' R1 hfr h'
     have hfl : fr ≤ x.Path.length := by
       subst hfr; unfold fromOf
       split
       · omega
       · split
         · rw [hst.2]
           have := hfit
           simp only [Co.fits, Co.parts, Bool.and_eq_true] at this
           have hz := List.all_eq_true.1 this.2.2.2.1 (rs, x) (List.mem_of_getElem? (i := j) (by rw [List.getElem?_zip_eq_some]; exact ⟨hrs, hx⟩))
           simp only [Rs.fits, Bool.and_eq_true, decide_eq_true_eq] at hz
           omega
         · omega
     rw [← hfr] at hF
     have hps := (q1 s').size
     rw [List.length_map] at hps
     refine (q1 s').sliceFromK c_Step rfl (by rw [List.length_map]; exact hfl) ?_
     have hsub := fun s => (q1 s).sub (lo := fr) (hi := x.Path.length) hfl (by simp)
     rw [List.length_map]
     have es : ∀ s, At Tryz.prog s t_Step (dsub e1 fr x.Path.length) ((x.Path.drop fr).map St.enc) := fun s => by
       have := hsub s
       rw [List.take_of_length_le (by simp), ← List.map_drop] at this
       exact this
     rw [Int.toNat_natCast]
     have hdl : (x.Path.drop fr).length < 2 ^ 60 := by rw [List.length_drop]; omega
     refine (es s').lenK ⟨fun m s => ∃ d' out', JAt σ0 s id k0 k1 k2 k3 k4 k5 b c0 c1 c2 c3 c4 c d' out' ∧ Rng (x.Path.drop fr) (fun l => out' ++ (ownP k j l ++ (ownsAll k (c.Rts.drop (j + 1)) (j + 1) ++ idles k k.Own 0)) = out ++ (ownsAll k c.Rts 0 ++ idles k k.Own 0)) m,
       fun m _ => (x.Path.drop fr).length - m.toNat, ⟨d1, out1, h', .start (by rw [List.append_assoc] at hF; exact hF)⟩, ?_⟩
     rintro m s3 ⟨d2, out2, h2, hr2⟩
     refine bcd (fun hlt2 => ?_) (fun hge2 => ?_)
     · obtain ⟨j2, y, rfl, hy, hj2, hF2, nx2⟩ := hr2.step (by simp) hdl hlt2
       have hys := (hxo.step y (List.mem_of_mem_drop (List.mem_of_getElem? hy))).1
       obtain ⟨z, hz, _⟩ := hys.sec
       have hzg := geti_some hz
       obtain ⟨o, ho⟩ := get_of_lt (l := k.Own) (j := y.Sec.toNat) (by omega)
       rw [ownP, List.append_assoc] at hF2
       have hol := rest_len hF2 hl
       have hoa := ownAt_get (i := y.Sec) (j := y.Sec.toNat) (by omega) ho
       refine (es s3).load (map_get hy) c_Step rfl ⟨y.Sec, y.In, y.Out, rfl, trivial, _, _, _, rfl, _, box_row h2.row, k0, rfl, (hk.ext h2.own.ext).own.load (map_get ho) c_int (by omega) ⟨o, rfl, (judge_note_ok h2 hol _ _ _ _).mono ?_⟩⟩
       rintro r s4 ⟨rfl, d3, h3, _⟩
       have := nx2 (fun l => (out2 ++ opt (o != w64 ((j : Int) + 1)) ⟨2, j, y.Sec⟩) ++ (ownP k j l ++ (ownsAll k (c.Rts.drop (j + 1)) (j + 1) ++ idles k k.Own 0)) = out ++ (ownsAll k c.Rts 0 ++ idles k k.Own 0)) (by
         rw [List.append_assoc, hw]
         rw [hoa] at hF2
         exact hF2)
       exact ⟨rfl, ⟨d3, _, h3, this.1⟩, this.2⟩
     · have hF2 := hr2.done (by simp) hge2
       rw [ownP, List.nil_append] at hF2
       have := nx (fun l => out2 ++ (ownsAll k l (w64 ((j : Int) + 1)).toNat ++ idles k k.Own 0) = out ++ (ownsAll k c.Rts 0 ++ idles k k.Own 0)) (by rw [hw, Int.toNat_natCast]; exact hF2)
       exact ⟨⟨d2, out2, h2, this.1⟩, this.2⟩
   have main : ∀ (n3 : Int) (s' : Store), (inL [4, 5] (stAt k j) = false → n3 = (fromOf k j x.Path.length : Int)) → JAt σ0 s' id k0 k1 k2 k3 k4 k5 b c0 c1 c2 c3 c4 c d1 out1 → (inL [4, 5] (stAt k j) = true → runsB (stAt k j) = false) → R n3 s' := by
     intro n3 s' hn3 h' hex
     refine hR n3 s' ?_
     intro R1 hR1
     have hfits2 := hfit
     simp only [Co.fits, Co.parts, Bool.and_eq_true] at hfits2
     have hz := List.all_eq_true.1 hfits2.2.2.2.1 (rs, x) (List.mem_of_getElem? (i := j) (by rw [List.getElem?_zip_eq_some]; exact ⟨hrs, hx⟩))
     simp only [Rs.fits, Bool.and_eq_true, decide_eq_true_eq] at hz
     refine newObj_intro fun id2 s2 hid2 _ he2 hs2 => (judge_in_ok (l := [4, 5]) (h'.ext' he2) ((hk.ext h'.own.ext).ext he2) hrs (At.fresh hs2 (by simp) rfl)).use ⟨_, rfl, bc (fun e => ?_) (fun e => ⟨rfl, ?_⟩)⟩
     · refine ⟨trivial, _, _, _, rfl, _, box_row (h'.ext' he2).row, k1, rfl, ((hk.ext h'.own.ext).ext he2).routes.load (map_get hrs) c_RouteState rfl ⟨rs.Next, rfl, rfl, ?_⟩⟩
       obtain ⟨fr, hfr⟩ : ∃ fr : Nat, rs.Next = fr := ⟨rs.Next.toNat, by omega⟩
       rw [hfr]
       exact hR1 _ _ (body fr s2 (fun _ => True) (by unfold fromOf; rw [if_neg (by rw [hex e]; simp), if_pos e, hst.2, hfr, Int.toNat_natCast]) (h'.ext' he2))
     · have := hn3 e
       subst this
       exact hR1 _ _ (body _ s2 (fun _ => True) rfl (h'.ext' he2))
   have dis : inL [4, 5] (stAt k j) = true → runsB (stAt k j) = false := fun e => by
     simp [inL] at e
     rcases e with e | e <;> rw [e] <;> rfl
   refine (judge_running_ok h1 (hk.ext h1.own.ext) hrs).use ⟨_, rfl, bc (fun e => ⟨rfl, main 0 s (fun _ => by unfold fromOf; rw [if_pos e]; rfl) h1 dis⟩) (fun e => ⟨rfl, main _ s (fun e2 => by unfold fromOf; rw [if_neg (by rw [e]; simp), if_neg (by rw [e2]; simp)]) h1 dis⟩)⟩
 · have hF := hr.done hlen hge
   rw [ownsAll, List.nil_append] at hF
   refine ⟨trivial, _, _, _, rfl, _, box_row h1.row, k0, rfl, (hk.ext h1.own.ext).own.lenK ⟨fun n s => ∃ d' out', JAt σ0 s id k0 k1 k2 k3 k4 k5 b c0 c1 c2 c3 c4 c d' out' ∧ Rng k.Own (fun l => out' ++ idles k l n.toNat = out ++ (ownsAll k c.Rts 0 ++ idles k k.Own 0)) n,
     fun n _ => k.Own.length - n.toNat, ⟨d1, out1, h1, .start hF⟩, ?_⟩⟩
   rintro m s3 ⟨d2, out2, h2, hr2⟩
   refine bcd (fun hlt2 => ?_) (fun hge2 => ?_)
   · obtain ⟨j2, o, rfl, ho, hj2, hF2, nx2⟩ := hr2.step (by simp) (by omega) hlt2
     have hw : w64 ((j2 : Int) + 1) = ((j2 + 1 : Nat) : Int) := w64_succ (by omega)
     have hfits2 := hfit
     simp only [Co.fits, Co.parts, Bool.and_eq_true] at hfits2
     have hz := of_decide_eq_true (List.all_eq_true.1 hfits2.2.2.1 o (List.mem_of_getElem? ho))
     rw [Int.toNat_natCast, idles] at hF2
     have hol := rest_len hF2 hl
     have go : ∀ d3 s4, JAt σ0 s4 id k0 k1 k2 k3 k4 k5 b c0 c1 c2 c3 c4 c d3 (out2 ++ opt (decide (o > 0) && inL [0] (stAt k (o - 1))) ⟨3, o - 1, j2⟩) →
         (∃ d' out', JAt σ0 s4 id k0 k1 k2 k3 k4 k5 b c0 c1 c2 c3 c4 c d' out' ∧ Rng k.Own (fun l => out' ++ idles k l (w64 ((j2 : Int) + 1)).toNat = out ++ (ownsAll k c.Rts 0 ++ idles k k.Own 0)) (w64 ((j2 : Int) + 1))) ∧ k.Own.length - (w64 ((j2 : Int) + 1)).toNat < k.Own.length - (j2 : Int).toNat := fun d3 s4 h3 => by
       have := nx2 (fun l => (out2 ++ opt (decide (o > 0) && inL [0] (stAt k (o - 1))) ⟨3, o - 1, j2⟩) ++ idles k l (w64 ((j2 : Int) + 1)).toNat = out ++ (ownsAll k c.Rts 0 ++ idles k k.Own 0)) (by
         rw [List.append_assoc, hw, Int.toNat_natCast]; exact hF2)
       exact ⟨⟨d3, _, h3, this.1⟩, this.2⟩
     have hm : w64 (o - 1) = o - 1 := w64_id (by omega) (by omega)
     refine (hk.ext h2.own.ext).own.load (map_get ho) c_int rfl ⟨o, rfl, bcd (fun e => ?_) (fun e => ?_)⟩
     · obtain ⟨jr, hjr⟩ : ∃ jr : Nat, o - 1 = jr := ⟨(o - 1).toNat, by omega⟩
       obtain ⟨rs, hrs⟩ := get_of_lt (l := k.Routes) (j := jr) (by omega)
       rw [hm]
       refine newObj_intro fun id2 s2 hid2 _ he2 hs2 => ?_
       rw [hjr] at go ⊢
       refine (judge_in_ok (l := [0]) (h2.ext' he2) ((hk.ext h2.own.ext).ext he2) hrs (At.fresh hs2 (by simp) rfl)).use ⟨_, rfl, (judge_note_ok (h2.ext' he2) hol _ _ _ _).mono ?_⟩
       rintro r s4 ⟨rfl, d3, h3, _⟩
       rw [decide_eq_true e, Bool.true_and] at go
       exact ⟨rfl, go d3 s4 h3⟩
     · rw [hm]
       refine (judge_note_ok h2 hol _ _ _ _).mono ?_
       rintro r s4 ⟨rfl, d3, h3, _⟩
       rw [decide_eq_false e, Bool.false_and] at go
       exact ⟨rfl, go d3 s4 h3⟩
   · have hF2 := hr2.done (by simp) hge2
     rw [idles, List.append_nil] at hF2
     exact ⟨rfl, d2, hF2 ▸ h2⟩
theorem judge_points_ok (h : JAt σ0 σ id k0 k1 k2 k3 k4 k5 b c0 c1 c2 c3 c4 c d out) (hl : (out ++ pointsAll c k c.Rts 0).length ≤ 2 ^ 30) :
   DCalls Tryz.prog n_watch_judge_points [.one (dp id)] σ fun r s => r = .tup [] ∧ ∃ d', JAt σ0 s id k0 k1 k2 k3 k4 k5 b c0 c1 c2 c3 c4 c d' (out ++ pointsAll c k c.Rts 0) := by
 obtain ⟨lo, lp, lr, lt, lx, ll⟩ := fits_lens hfit
 have hck := fits_check hfit
 obtain ⟨_, s1, s2, s3, _, _⟩ := check_small hck
 obtain ⟨rows, hat, hlen, hrow⟩ := rts_froz fun s => (hc s).rts
 refine W_watch_judge_points (dp id) σ _ ⟨trivial, _, _, _, rfl, _, box_row h.row, c4, rfl, (hat σ).lenK ⟨fun n s => ∃ d' out', JAt σ0 s id k0 k1 k2 k3 k4 k5 b c0 c1 c2 c3 c4 c d' out' ∧ Rng c.Rts (fun l => out' ++ pointsAll c k l n.toNat = out ++ pointsAll c k c.Rts 0) n,
   fun n _ => c.Rts.length - n.toNat, ⟨d, out, h, .start rfl⟩, ?_⟩⟩
 rintro n s ⟨d1, out1, h1, hr⟩
 refine bcd (fun hlt => ?_) (fun hge => ?_)
 · obtain ⟨j, x, rfl, hx, hj, hF, nx⟩ := hr.step hlen (by omega) hlt
   have hw : w64 ((j : Int) + 1) = ((j + 1 : Nat) : Int) := w64_succ (by omega)
   have hxo := check_rt hck (List.mem_of_getElem? hx)
   obtain ⟨rs, hrs⟩ := get_of_lt (l := k.Routes) (j := j) (by omega)
   rw [Int.toNat_natCast, pointsAll] at hF
   have fin : ∀ d2 out2 s2, JAt σ0 s2 id k0 k1 k2 k3 k4 k5 b c0 c1 c2 c3 c4 c d2 out2 → out2 ++ pointsAll c k (c.Rts.drop (j + 1)) (j + 1) = out ++ pointsAll c k c.Rts 0 →
       (∃ d' out', JAt σ0 s2 id k0 k1 k2 k3 k4 k5 b c0 c1 c2 c3 c4 c d' out' ∧ Rng c.Rts (fun l => out' ++ pointsAll c k l (w64 ((j : Int) + 1)).toNat = out ++ pointsAll c k c.Rts 0) (w64 ((j : Int) + 1))) ∧ c.Rts.length - (w64 ((j : Int) + 1)).toNat < c.Rts.length - (j : Int).toNat := fun d2 out2 s2 h2 he => by
     have := nx (fun l => out2 ++ pointsAll c k l (w64 ((j : Int) + 1)).toNat = out ++ pointsAll c k c.Rts 0) (by rw [hw, Int.toNat_natCast]; exact he)
     exact ⟨⟨d2, out2, h2, this.1⟩, this.2⟩
   refine (judge_running_ok h1 (hk.ext h1.own.ext) hrs).use ⟨_, rfl, bcnot (fun e => fin _ _ _ h1 (by rw [if_neg (by rw [e]; simp)] at hF; exact hF)) (fun e => ?_)⟩
   rw [if_pos e] at hF
   have hrt : c.rt j = x := rt_some (by rw [geti_nat]; exact hx)
   refine ⟨trivial, _, _, _, rfl, _, box_row h1.row, c0, c1, c2, c3, c4, _, _, _, _, rfl, (mover_Needs_ok hc j (by rw [hrt]; have := hxo.len; omega) (by rw [hrt]; have := hxo.flen; omega)).mono ?_⟩
   rintro r s2 ⟨rfl, e1, rfl, q1⟩
   rw [Cf.Needs, hrt] at q1
   have hnl : (c.needs x).length ≤ 40 := by have := needs_len c x; have := hxo.len; have := hxo.flen; omega
   refine ⟨e1, rfl, (q1 s2).lenK ⟨fun m s => ∃ d' out', JAt σ0 s id k0 k1 k2 k3 k4 k5 b c0 c1 c2 c3 c4 c d' out' ∧ Rng (c.needs x) (fun l => out' ++ (needB k j l ++ pointsAll c k (c.Rts.drop (j + 1)) (j + 1)) = out ++ pointsAll c k c.Rts 0) m,
     fun m _ => (c.needs x).length - m.toNat, ⟨d1, out1, h1, .start hF⟩, ?_⟩⟩
   rintro m s3 ⟨d2, out2, h2, hr2⟩
   rw [List.length_map]
   refine bcd (fun hlt2 => ?_) (fun hge2 => ?_)
   · obtain ⟨j2, y, rfl, hy, hj2, hF2, nx2⟩ := hr2.step rfl (by omega) hlt2
     obtain ⟨⟨z, hz⟩, _⟩ := needs_sec hxo (List.mem_of_getElem? hy)
     have hzg := geti_some hz
     obtain ⟨o, ho⟩ := get_of_lt (l := k.Own) (j := y.Sec.toNat) (by omega)
     obtain ⟨mv, hmv⟩ := get_of_lt (l := k.Points) (j := y.Sec.toNat) (by omega)
     rw [needB, List.append_assoc] at hF2
     have hol := rest_len hF2 hl
     rw [ownAt_get (i := y.Sec) (j := y.Sec.toNat) (by omega) ho, cmdAt_get (i := y.Sec) (j := y.Sec.toNat) (by omega) hmv] at hF2
     have go : ∀ w d3 s4, w = ((o == (j : Int) + 1) && (mv.Cmd != y.Pos)) → JAt σ0 s4 id k0 k1 k2 k3 k4 k5 b c0 c1 c2 c3 c4 c d3 (out2 ++ opt w ⟨4, j, y.Sec⟩) →
         (∃ d' out', JAt σ0 s4 id k0 k1 k2 k3 k4 k5 b c0 c1 c2 c3 c4 c d' out' ∧ Rng (c.needs x) (fun l => out' ++ (needB k j l ++ pointsAll c k (c.Rts.drop (j + 1)) (j + 1)) = out ++ pointsAll c k c.Rts 0) (w64 ((j2 : Int) + 1))) ∧ (c.needs x).length - (w64 ((j2 : Int) + 1)).toNat < (c.needs x).length - (j2 : Int).toNat := fun w d3 s4 hw h3 => by
       subst hw
       have := nx2 (fun l => (out2 ++ opt ((o == (j : Int) + 1) && (mv.Cmd != y.Pos)) ⟨4, j, y.Sec⟩) ++ (needB k j l ++ pointsAll c k (c.Rts.drop (j + 1)) (j + 1)) = out ++ pointsAll c k c.Rts 0) (by
         rw [List.append_assoc]; exact hF2)
       exact ⟨⟨d3, _, h3, this.1⟩, this.2⟩
     have hk2 := hk.ext h2.own.ext
     refine (q1 s3).load (map_get hy) c_Need rfl ⟨y.Sec, y.Pos, rfl, trivial, _, _, _, rfl, _, box_row h2.row, k0, rfl, hk2.own.load (map_get ho) c_int (by omega) ⟨o, rfl, ?_⟩⟩
     rw [hw]
     refine bce (fun e => ⟨trivial, _, _, _, rfl, _, box_row h2.row, k2, rfl, hk2.points.load (map_get hmv) c_Mover (by omega) ⟨mv.Cmd, rfl, (judge_note_ok h2 hol _ _ _ _).mono ?_⟩⟩) (fun e => (judge_note_ok h2 hol _ _ _ _).mono ?_)
     · rintro r s4 ⟨rfl, d3, h3, _⟩
       exact ⟨rfl, go _ d3 s4 (by rw [show (o == (j : Int) + 1) = true by simpa using e, Bool.true_and]) h3⟩
     · rintro r s4 ⟨rfl, d3, h3, _⟩
       exact ⟨rfl, go _ d3 s4 (by rw [show (o == (j : Int) + 1) = false by simpa using e, Bool.false_and]) h3⟩
   · have hF2 := hr2.done rfl hge2
     rw [needB, List.nil_append] at hF2
     exact fin _ _ _ h2 hF2
 · have hF := hr.done hlen hge
   rw [pointsAll, List.append_nil] at hF
   exact ⟨rfl, d1, hF ▸ h1⟩
theorem judge_gates_ok (h : JAt σ0 σ id k0 k1 k2 k3 k4 k5 b c0 c1 c2 c3 c4 c d out) (hl : (out ++ gatesAll c k c.Rts 0).length ≤ 2 ^ 30) :
   DCalls Tryz.prog n_watch_judge_gates [.one (dp id)] σ fun r s => r = .tup [] ∧ ∃ d', JAt σ0 s id k0 k1 k2 k3 k4 k5 b c0 c1 c2 c3 c4 c d' (out ++ gatesAll c k c.Rts 0) := by
 obtain ⟨lo, lp, lr, lt, lx, ll⟩ := fits_lens hfit
 have hck := fits_check hfit
 obtain ⟨_, s1, s2, s3, _, _⟩ := check_small hck
 obtain ⟨rows, hat, hlen, hrow⟩ := rts_froz fun s => (hc s).rts
 have hxs := check_xs hck
 refine W_watch_judge_gates (dp id) σ _ ⟨trivial, _, _, _, rfl, _, box_row h.row, c4, rfl, (hat σ).lenK ⟨fun n s => ∃ d' out', JAt σ0 s id k0 k1 k2 k3 k4 k5 b c0 c1 c2 c3 c4 c d' out' ∧ Rng c.Rts (fun l => out' ++ gatesAll c k l n.toNat = out ++ gatesAll c k c.Rts 0) n,
   fun n _ => c.Rts.length - n.toNat, ⟨d, out, h, .start rfl⟩, ?_⟩⟩
 rintro n s ⟨d1, out1, h1, hr⟩
 refine bcd (fun hlt => ?_) (fun hge => ?_)
 · obtain ⟨j, x, rfl, hx, hj, hF, nx⟩ := hr.step hlen (by omega) hlt
   have hw : w64 ((j : Int) + 1) = ((j + 1 : Nat) : Int) := w64_succ (by omega)
   obtain ⟨rs, hrs⟩ := get_of_lt (l := k.Routes) (j := j) (by omega)
   rw [Int.toNat_natCast, gatesAll] at hF
   have fin : ∀ d2 out2 s2, JAt σ0 s2 id k0 k1 k2 k3 k4 k5 b c0 c1 c2 c3 c4 c d2 out2 → out2 ++ gatesAll c k (c.Rts.drop (j + 1)) (j + 1) = out ++ gatesAll c k c.Rts 0 →
       (∃ d' out', JAt σ0 s2 id k0 k1 k2 k3 k4 k5 b c0 c1 c2 c3 c4 c d' out' ∧ Rng c.Rts (fun l => out' ++ gatesAll c k l (w64 ((j : Int) + 1)).toNat = out ++ gatesAll c k c.Rts 0) (w64 ((j : Int) + 1))) ∧ c.Rts.length - (w64 ((j : Int) + 1)).toNat < c.Rts.length - (j : Int).toNat := fun d2 out2 s2 h2 he => by
     have := nx (fun l => out2 ++ gatesAll c k l (w64 ((j : Int) + 1)).toNat = out ++ gatesAll c k c.Rts 0) (by rw [hw, Int.toNat_natCast]; exact he)
     exact ⟨⟨d2, out2, h2, this.1⟩, this.2⟩
   refine newObj_intro fun id2 s2 hid2 _ he2 hs2 => (judge_in_ok (l := [0]) (h1.ext' he2) ((hk.ext h1.own.ext).ext he2) hrs (At.fresh hs2 (by simp) rfl)).use ⟨_, rfl, bc (fun e => fin _ _ _ (h1.ext' he2) (by rw [if_pos e] at hF; exact hF)) (fun e => ?_)⟩
   rw [if_neg (by rw [e]; simp)] at hF
   have h1' := h1.ext' he2
   have hrt : c.rt j = x := rt_some (by rw [geti_nat]; exact hx)
   refine ⟨trivial, _, _, _, rfl, _, box_row h1'.row, c0, c1, c2, c3, c4, _, _, _, _, rfl, (mover_Crossings_ok hc j (by omega)).mono ?_⟩
   rintro r s2 ⟨rfl, e1, rfl, q1⟩
   rw [Cf.Cross, hrt] at q1
   have hnl := crossL_len x.Path c.Xs 0
   have hmem := crossL_mem x.Path c.Xs 0
   generalize crossL x.Path c.Xs 0 = cr at *
   refine ⟨e1, rfl, (q1 s2).lenK ⟨fun m s => ∃ d' out', JAt σ0 s id k0 k1 k2 k3 k4 k5 b c0 c1 c2 c3 c4 c d' out' ∧ Rng cr (fun l => out' ++ (gateB c k j l ++ gatesAll c k (c.Rts.drop (j + 1)) (j + 1)) = out ++ gatesAll c k c.Rts 0) m,
     fun m _ => cr.length - m.toNat, ⟨d1, out1, h1', .start hF⟩, ?_⟩⟩
   rintro m s3 ⟨d2, out2, h2, hr2⟩
   rw [List.length_map]
   refine bcd (fun hlt2 => ?_) (fun hge2 => ?_)
   · obtain ⟨j2, y, rfl, hy, hj2, hF2, nx2⟩ := hr2.step rfl (by omega) hlt2
     obtain ⟨jx, sx, rfl, hsx, _⟩ := hmem y (List.mem_of_getElem? hy)
     rw [Nat.zero_add] at *
     obtain ⟨z, hz, _⟩ := hxs.1 sx (List.mem_of_getElem? hsx)
     have hzg := geti_some hz
     have hjx := (List.getElem?_eq_some_iff.1 hsx).1
     obtain ⟨o, ho⟩ := get_of_lt (l := k.Own) (j := sx.toNat) (by omega)
     obtain ⟨mv, hmv⟩ := get_of_lt (l := k.Xs) (j := jx) (by omega)
     rw [gateB, List.append_assoc] at hF2
     have hol := rest_len hF2 hl
     rw [xAt_get (i := jx) rfl hsx, ownAt_get (i := sx) (j := sx.toNat) (by omega) ho, cmdAt_get (i := jx) rfl hmv] at hF2
     have go : ∀ w d3 s4, w = ((o == (j : Int) + 1) && (mv.Cmd != 1)) → JAt σ0 s4 id k0 k1 k2 k3 k4 k5 b c0 c1 c2 c3 c4 c d3 (out2 ++ opt w ⟨5, j, sx⟩) →
         (∃ d' out', JAt σ0 s4 id k0 k1 k2 k3 k4 k5 b c0 c1 c2 c3 c4 c d' out' ∧ Rng cr (fun l => out' ++ (gateB c k j l ++ gatesAll c k (c.Rts.drop (j + 1)) (j + 1)) = out ++ gatesAll c k c.Rts 0) (w64 ((j2 : Int) + 1))) ∧ cr.length - (w64 ((j2 : Int) + 1)).toNat < cr.length - (j2 : Int).toNat := fun w d3 s4 hw h3 => by
       subst hw
       have := nx2 (fun l => (out2 ++ opt ((o == (j : Int) + 1) && (mv.Cmd != 1)) ⟨5, j, sx⟩) ++ (gateB c k j l ++ gatesAll c k (c.Rts.drop (j + 1)) (j + 1)) = out ++ gatesAll c k c.Rts 0) (by
         rw [List.append_assoc]; exact hF2)
       exact ⟨⟨d3, _, h3, this.1⟩, this.2⟩
     have hk2 := hk.ext h2.own.ext
     refine (q1 s3).load (map_get hy) c_int rfl ⟨jx, rfl, trivial, _, _, _, rfl, _, box_row h2.row, c3, rfl, (hc s3).xs.load (map_get hsx) c_int rfl ⟨sx, rfl, trivial, _, _, _, rfl, _, box_row h2.row, k0, rfl, hk2.own.load (map_get ho) c_int (by omega) ⟨o, rfl, ?_⟩⟩⟩
     rw [hw]
     refine bce (fun e => ⟨trivial, _, _, _, rfl, _, box_row h2.row, k3, rfl, hk2.xs.load (map_get hmv) c_Mover rfl ⟨mv.Cmd, rfl, (judge_note_ok h2 hol _ _ _ _).mono ?_⟩⟩) (fun e => (judge_note_ok h2 hol _ _ _ _).mono ?_)
     · rintro r s4 ⟨rfl, d3, h3, _⟩
       exact ⟨rfl, go _ d3 s4 (by rw [show (o == (j : Int) + 1) = true by simpa using e, Bool.true_and]) h3⟩
     · rintro r s4 ⟨rfl, d3, h3, _⟩
       exact ⟨rfl, go _ d3 s4 (by rw [show (o == (j : Int) + 1) = false by simpa using e, Bool.false_and]) h3⟩
   · have hF2 := hr2.done rfl hge2
     rw [gateB, List.nil_append] at hF2
     exact fin _ _ _ h2 hF2
 · have hF := hr.done hlen hge
   rw [gatesAll, List.append_nil] at hF
   exact ⟨rfl, d1, hF ▸ h1⟩
end
end
section
variable {σ : Store}
section
variable {c0 c1 c2 c3 c4 : D} {c : Cf} {k0 k1 k2 k3 k4 k5 : D} {k : Co} {σ0 : Store} {b : Bool} {id : Nat} {d : D} {out : List Br}
 (hc : ∀ s, CfAt s c0 c1 c2 c3 c4 c)
include hc
theorem judge_lines_ok (hk : CoAt σ0 k0 k1 k2 k3 k4 k5 k) (hfit : k.fits c = true) (h : JAt σ0 σ id k0 k1 k2 k3 k4 k5 b c0 c1 c2 c3 c4 c d out) (hl : out.length ≤ 2 ^ 20) :
   DCalls Tryz.prog n_watch_judge_lines [.one (dp id)] σ fun r s => r = .tup [] ∧ ∃ d', JAt σ0 s id k0 k1 k2 k3 k4 k5 b c0 c1 c2 c3 c4 c d' (out ++ linesAll c k 3) := by
 obtain ⟨lo, lp, lr, lt, lx, ll⟩ := fits_lens hfit
 have hid := h.row
 refine W_watch_judge_lines (dp id) σ _ (newObj_intro fun ia sa hia _ hea hsa => box_store hsa fun sb hsb hsb' => ?_)
 have heb : Ext σ sb := fun i hi => by rw [hsb' i (fun e => hi (by rw [e]; exact hia))]; exact hea i hi
 have hne : ia ≠ id := fun e => by rw [e, hid] at hia; cases hia
 have hda : idOf d ≠ some ia := fun e => by
   cases d with
   | osl i a n =>
     have e1 : i = ia := by simpa [idOf] using e
     subst e1
     obtain ⟨t, rows, g1, _⟩ := h.own.at_.rows
     rw [hia] at g1; cases g1
   | _ => simp [idOf] at e
 refine ⟨fun d s => ∃ (ic j : Nat) (d' : D), d = dp ic ∧ 1 ≤ j ∧ j ≤ 4 ∧ s ic = .live t_int [[iD j]] ∧ ic ≠ id ∧ idOf d' ≠ some ic ∧ JAt σ0 s id k0 k1 k2 k3 k4 k5 b c0 c1 c2 c3 c4 c d' (out ++ linesAll c k (j - 1)), ctr,
   ⟨ia, 1, d, rfl, by omega, by omega, hsb, hne, hda, by simpa [linesAll] using h.ext' heb⟩, ?_⟩
 rintro _ s ⟨ic, j, d1, rfl, hj1, hj4, hic, hne, hd1, h1⟩
 refine ⟨_, _, _, rfl, _, box_row hic, j, rfl, bcd (fun hlt => ?_) (fun hge => ⟨rfl, d1, by rw [show j - 1 = 3 by omega] at h1; exact h1⟩)⟩
 obtain ⟨j', rfl⟩ : ∃ j' : Nat, j = j' + 1 := ⟨j - 1, by omega⟩
 rw [Nat.add_sub_cancel] at h1
 have hol : (out ++ linesAll c k j').length ≤ 2 ^ 30 := by rw [List.length_append]; have := linesAll_len c k j'; omega
 have next : ∀ (s3 : Store) (d3 : D), JAt σ0 s3 id k0 k1 k2 k3 k4 k5 b c0 c1 c2 c3 c4 c d3 (out ++ linesAll c k (j' + 1)) → s3 ic = .live t_int [[iD ((j' + 1 : Nat) : Int)]] →
     ∃ s2 : D, ∃ i2 off2 : Nat, dp ic = .el s2 i2 off2 ∧ ∃ row2 : List D, Row s3 s2 i2 row2 ∧ ∃ n2 : Int, List.take 1 (List.drop off2 row2) = [iD n2] ∧ Fw.newObj s3 (.live t_int [[iD 0]]) fun id1 σ4 => storeEl [iD n2] σ4 (.osl id1 0 1) 0 0 fun σ5 => ∃ row3 : List D, Row σ5 (.osl id1 0 1) 0 row3 ∧ ∃ n3 : Int, List.take 1 row3 = [iD n3] ∧ storeEl [iD (w64 (n3 + 1))] σ5 (.osl id1 0 1) 0 0 fun σ6 =>
       (∃ (ic j : Nat) (d' : D), D.el (.osl id1 0 1) 0 0 = dp ic ∧ 1 ≤ j ∧ j ≤ 4 ∧ σ6 ic = .live t_int [[iD j]] ∧ ic ≠ id ∧ idOf d' ≠ some ic ∧ JAt σ0 σ6 id k0 k1 k2 k3 k4 k5 b c0 c1 c2 c3 c4 c d' (out ++ linesAll c k (j - 1))) ∧ ctr (.el (.osl id1 0 1) 0 0) σ6 < ctr (dp ic) s := by
   intro s3 d3 h3 hc3
   refine ⟨_, _, _, rfl, _, box_row hc3, _, rfl, newObj_intro fun i4 s4 hi4 _ he4 hs4 => box_store hs4 fun s5 hs5 hs5' => ⟨_, box_row hs5, _, rfl, box_store hs5 fun s6 hs6 hs6' => ?_⟩⟩
   have he6 : Ext s3 s6 := fun i hi => by
     have hne : i ≠ i4 := fun e => hi (by rw [e]; exact hi4)
     rw [hs6' i hne, hs5' i hne]; exact he4 i hi
   rw [w64_id (n := ((j' + 1 : Nat) : Int) + 1) (by omega) (by omega)] at hs6
   have hs6 : s6 i4 = .live t_int [[iD ((j' + 2 : Nat) : Int)]] := by rw [hs6]; congr 3
   refine ⟨⟨i4, j' + 2, d3, rfl, by omega, by omega, hs6, fun e => ?_, fun e => ?_, h3.ext' he6⟩, ?_⟩
   · rw [e, h3.row] at hi4; cases hi4
   · cases d3 with
     | osl i a n =>
       have e1 : i = i4 := by simpa [idOf] using e
       subst e1
       obtain ⟨t, rows, g1, _⟩ := h3.own.at_.rows
       rw [hi4] at g1; cases g1
     | _ => simp [idOf] at e
   · rw [ctr_at hs6, ctr_at hic]; omega
 have note : ∀ (w : Bool) (si : Int), opt w ⟨6, -1, si⟩ = lineB c k (j' + 1) → DCalls Tryz.prog n_watch_judge_note [.one (dp id), bA w, iA 6, iA (-1), iA si] s fun r s3 => r = .tup [] ∧
     ∃ s2 : D, ∃ i2 off2 : Nat, dp ic = .el s2 i2 off2 ∧ ∃ row2 : List D, Row s3 s2 i2 row2 ∧ ∃ n2 : Int, List.take 1 (List.drop off2 row2) = [iD n2] ∧ Fw.newObj s3 (.live t_int [[iD 0]]) fun id1 σ4 => storeEl [iD n2] σ4 (.osl id1 0 1) 0 0 fun σ5 => ∃ row3 : List D, Row σ5 (.osl id1 0 1) 0 row3 ∧ ∃ n3 : Int, List.take 1 row3 = [iD n3] ∧ storeEl [iD (w64 (n3 + 1))] σ5 (.osl id1 0 1) 0 0 fun σ6 =>
       (∃ (ic j : Nat) (d' : D), D.el (.osl id1 0 1) 0 0 = dp ic ∧ 1 ≤ j ∧ j ≤ 4 ∧ σ6 ic = .live t_int [[iD j]] ∧ ic ≠ id ∧ idOf d' ≠ some ic ∧ JAt σ0 σ6 id k0 k1 k2 k3 k4 k5 b c0 c1 c2 c3 c4 c d' (out ++ linesAll c k (j - 1))) ∧ ctr (.el (.osl id1 0 1) 0 0) σ6 < ctr (dp ic) s := by
   intro w si hw
   refine (judge_note_ok h1 hol w 6 (-1) si).mono ?_
   rintro r s4 ⟨rfl, d3, h3, hf, _⟩
   rw [hw, List.append_assoc] at h3
   exact ⟨rfl, next s4 d3 h3 ((hf ic (by rw [hic]; intro e; cases e) hne hd1).trans hic)⟩
 have hls : c.lineSec ((j' + 1 : Nat) : Int) = fidx (fun x : Sec => x.Line == ((j' + 1 : Nat) : Int)) c.Secs 0 := if_neg (by omega)
 have hlb : ∀ x : Ls, k.Lines[j' + 1]? = some x → lineB c k (j' + 1) = opt (decide (0 ≤ c.lineSec ((j' + 1 : Nat) : Int)) && (decide (x.Done > x.Ask) || (decide (x.Told > x.Grant) || ((ownAt k (c.lineSec ((j' + 1 : Nat) : Int)) == -2) && (x.Ask != x.Done))))) ⟨6, -1, c.lineSec ((j' + 1 : Nat) : Int)⟩ := fun x hx => by
   unfold lineB; simp only [hx, Option.getD_some]
 have hk1 := hk.ext h1.own.ext
 refine ⟨trivial, _, _, _, rfl, _, box_row h1.row, c0, rfl, (IndexFunc_Section_ok (p := fun x => x.Line == ((j' + 1 : Nat) : Int)) (hc s).secs (cap_fn hic fun x _ => W_watch_judge_lines_1 x.Kind x.OC x.Line _ s _ ⟨_, _, _, rfl, _, box_row hic, _, rfl, rfl, rfl⟩)).use ⟨_, rfl, ?_⟩⟩
 rw [← hls]
 obtain ⟨x, hx⟩ := get_of_lt (l := k.Lines) (j := j' + 1) (by omega)
 have hlb := hlb x hx
 have hsb := lineSec_bound c ((j' + 1 : Nat) : Int)
 generalize c.lineSec ((j' + 1 : Nat) : Int) = sec at hlb hsb ⊢
 refine bcd (fun e => next s d1 (by rw [linesAll, hlb, decide_eq_false (by omega), Bool.false_and]; simpa [opt] using h1) hic) (fun e => ?_)
 rw [decide_eq_true (by omega), Bool.true_and] at hlb
 refine ⟨trivial, _, _, _, rfl, _, box_row h1.row, k4, rfl, _, _, _, rfl, _, box_row hic, _, rfl, hk1.lines.load (map_get hx) c_LineState rfl ⟨x.Ask, x.Done, x.Grant, x.Told, x.PAsk, x.PDone, x.PGrant, x.Since, rfl, ?_⟩⟩
 refine bcd (fun t1 => note true sec (by rw [hlb, decide_eq_true t1]; rfl)) (fun t1 => bcd (fun t2 => note true sec (by rw [hlb, decide_eq_true t2, Bool.true_or, Bool.or_true])) (fun t2 => ?_))
 rw [decide_eq_false t1, decide_eq_false t2, Bool.false_or, Bool.false_or] at hlb
 obtain ⟨o, ho⟩ := get_of_lt (l := k.Own) (j := sec.toNat) (by omega)
 rw [ownAt_get (i := sec) (j := sec.toNat) (by omega) ho] at hlb
 refine ⟨trivial, _, _, _, rfl, _, box_row h1.row, k0, rfl, hk1.own.load (map_get ho) c_int (by omega) ⟨o, rfl, bce (fun t3 => note _ sec (by rw [hlb, show (o == -2) = true by simpa using t3, Bool.true_and])) (fun t3 => note _ sec (by rw [hlb, show (o == -2) = false by simpa using t3, Bool.false_and]))⟩⟩
theorem watch_Judge_ok (hk : CoAt σ k0 k1 k2 k3 k4 k5 k) (hb : b = k.Dirty) :
   DCalls Tryz.prog n_watch_Judge [cfA c0 c1 c2 c3 c4 c, coA k0 k1 k2 k3 k4 k5 b] σ fun r s => ∃ d, r = .a (.one d) ∧ Own Tryz.prog σ s t_Breach d ((k.judge c).map Br.enc) := by
 subst hb
 refine W_watch_Judge _ _ _ _ _ _ _ _ _ k0 k1 k2 k3 k4 k5 k.Dirty σ _ (newObj_intro fun id s1 hid _ he1 hs1 => ?_)
 have h1 : JAt σ s1 id k0 k1 k2 k3 k4 k5 k.Dirty c0 c1 c2 c3 c4 c .nils [] := ⟨hid, hs1, .nil _ he1, fun e => by cases e⟩
 refine (locks_Fits_ok hc (hk.ext he1)).use ⟨_, rfl, bcnot (fun e => ?_) (fun hfit => ?_)⟩
 · refine (judge_note_ok h1 (by simp) true 1 (-1) (-1)).mono ?_
   rintro r s2 ⟨rfl, d2, h2, _⟩
   refine ⟨rfl, _, box_row h2.row, d2, rfl, d2, rfl, ?_⟩
   rw [Co.judge, if_neg (by rw [e]; simp)]; exact h2.own
 have hck := fits_check hfit
 obtain ⟨lo, lp, lr, lt, lx, ll⟩ := fits_lens hfit
 obtain ⟨_, z1, z2, z3, _, _⟩ := check_small hck
 have b1 := ownsAll_len k c.Rts 0 (fun x hx => (check_rt hck hx).len.2)
 have b2 := idles_len k k.Own 0
 have b3 := pointsAll_len c k c.Rts 0 (fun x hx => by have := check_rt hck hx; have := needs_len c x; have := (check_rt hck hx).len; have := (check_rt hck hx).flen; omega)
 have b4 := gatesAll_len c k c.Rts 0 z3
 have hJ : k.judge c = ((ownsAll k c.Rts 0 ++ idles k k.Own 0) ++ pointsAll c k c.Rts 0) ++ gatesAll c k c.Rts 0 ++ linesAll c k 3 := by rw [Co.judge, if_pos hfit]
 refine newObj_intro fun id2 s2 hid2 _ he2 hs2 => ?_
 have h2 := h1.ext' he2
 have hne2 : id2 ≠ id := fun e => by rw [e, hs1] at hid2; cases hid2
 obtain ⟨τ, hτ⟩ : ∃ τ, τ = s2.set id .free := ⟨_, rfl⟩
 have t0 : τ id = .free := by rw [hτ, Store.set_same]
 have t1 : ∀ i, i ≠ id → τ i = s2 i := fun i hi => by rw [hτ, Store.set_ne _ _ hi]
 have e0 : Ext σ τ := fun i hi => by
   rw [t1 i (fun e => hi (by rw [e]; exact hid)), he2 i (by rw [he1 i hi]; exact hi), he1 i hi]
 have e1 : Ext τ s2 := fun i hi => (t1 i (fun e => hi (by rw [e]; exact t0))).symm
 have hk' := hk.ext e0
 have hJ2 : JAt τ s2 id k0 k1 k2 k3 k4 k5 k.Dirty c0 c1 c2 c3 c4 c .nils [] := ⟨t0, h2.row, .nil _ e1, fun e => by cases e⟩
 have hfn : ∀ s, Ext τ s → s id2 = s2 id2 := fun s he => by rw [he id2 (by rw [t1 id2 hne2, hs2]; intro e; cases e), t1 id2 hne2]
 generalize hp : ([ownsAll k c.Rts 0 ++ idles k k.Own 0, pointsAll c k c.Rts 0, gatesAll c k c.Rts 0, linesAll c k 3] : List (List Br)) = parts
 have hpf : parts.flatten = k.judge c := by rw [hJ, ← hp]; simp
 refine (At.fresh hs2 (by simp) rfl : At Tryz.prog s2 _ (.osl id2 0 4) _).lenK ?_
 refine ⟨fun n s => ∃ (j : Nat) (d' : D), n = j ∧ j ≤ 4 ∧ JAt τ s id k0 k1 k2 k3 k4 k5 k.Dirty c0 c1 c2 c3 c4 c d' (parts.take j).flatten, fun n _ => 4 - n.toNat, ⟨0, .nils, rfl, by omega, hJ2⟩, ?_⟩
 rintro _ s ⟨j, d1, rfl, hj4, h3⟩
 refine bcd (fun hlt => ?_) (fun hge => ?_)
 · have hlt : j < 4 := by simp at hlt; omega
   have hat := At.fresh (P := Tryz.prog) ((hfn s h3.own.ext).trans hs2) (by simp) (n := 4) rfl
   have step : ∀ (r : RV) (s4 : Store) (p : List Br), parts[j]? = some p → (r = .tup [] ∧ ∃ d', JAt τ s4 id k0 k1 k2 k3 k4 k5 k.Dirty c0 c1 c2 c3 c4 c d' ((parts.take j).flatten ++ p)) →
       r = .tup [] ∧ (∃ (j' : Nat) (d' : D), w64 ((j : Int) + 1) = j' ∧ j' ≤ 4 ∧ JAt τ s4 id k0 k1 k2 k3 k4 k5 k.Dirty c0 c1 c2 c3 c4 c d' (parts.take j').flatten) ∧ 4 - (w64 ((j : Int) + 1)).toNat < 4 - (j : Int).toNat := by
     rintro r s4 p hpj ⟨rfl, d', h4⟩
     rw [w64_succ (by omega)]
     refine ⟨rfl, ⟨j + 1, d', rfl, by omega, ?_⟩, by omega⟩
     rw [List.take_add_one, hpj]
     simpa using h4
   have hlen : (parts.flatten).length ≤ 2 ^ 20 := by
     rw [hpf, hJ]
     simp only [List.length_append] at *
     have := linesAll_len c k 3
     omega
   have : j = 0 ∨ j = 1 ∨ j = 2 ∨ j = 3 := by omega
   rcases this with rfl | rfl | rfl | rfl
   · refine hat.load (j := 0) rfl (by kernel_rfl) rfl ⟨_, rfl, n_watch_judge_owners, _, _, [.one (dp id)], [], rfl, rfl, rfl, (judge_owners_ok hc hk' hfit h3 ?_).mono fun r s4 h4 => step r s4 _ (by rw [← hp]; rfl) h4⟩
     rw [hpf, hJ] at hlen; simp only [List.length_append, List.take_zero, List.flatten_nil, List.length_nil] at hlen ⊢; omega
   · refine hat.load (j := 1) rfl (by kernel_rfl) rfl ⟨_, rfl, n_watch_judge_points, _, _, [.one (dp id)], [], rfl, rfl, rfl, (judge_points_ok hc hk' hfit h3 ?_).mono fun r s4 h4 => step r s4 _ (by rw [← hp]; rfl) h4⟩
     rw [hpf, hJ] at hlen; rw [← hp]; simp only [List.length_append, List.take_succ_cons, List.take_zero, List.flatten_cons, List.flatten_nil, List.length_nil] at hlen ⊢; omega
   · refine hat.load (j := 2) rfl (by kernel_rfl) rfl ⟨_, rfl, n_watch_judge_gates, _, _, [.one (dp id)], [], rfl, rfl, rfl, (judge_gates_ok hc hk' hfit h3 ?_).mono fun r s4 h4 => step r s4 _ (by rw [← hp]; rfl) h4⟩
     rw [hpf, hJ] at hlen; rw [← hp]; simp only [List.length_append, List.take_succ_cons, List.take_zero, List.flatten_cons, List.flatten_nil, List.length_nil] at hlen ⊢; omega
   · refine hat.load (j := 3) rfl (by kernel_rfl) rfl ⟨_, rfl, n_watch_judge_lines, _, _, [.one (dp id)], [], rfl, rfl, rfl, (judge_lines_ok hc hk' hfit h3 ?_).mono fun r s4 h4 => step r s4 _ (by rw [← hp]; rfl) h4⟩
     rw [hpf, hJ] at hlen; rw [← hp]; simp only [List.length_append, List.take_succ_cons, List.take_zero, List.flatten_cons, List.flatten_nil, List.length_nil] at hlen ⊢; omega
 · have hj : j = 4 := by simp at hge; omega
   subst hj
   refine ⟨_, box_row h3.row, d1, rfl, d1, rfl, ?_⟩
   rw [← hpf]
   have := h3.own.from e0
   rw [show parts.take 4 = parts by rw [← hp]; rfl] at this
   exact this
theorem watch_Worse_ok {m0 m1 m2 m3 m4 m5 : D} {m : Co} (hk : CoAt σ k0 k1 k2 k3 k4 k5 k) (hm : CoAt σ m0 m1 m2 m3 m4 m5 m) :
   DCalls Tryz.prog n_watch_Worse [cfA c0 c1 c2 c3 c4 c, coA k0 k1 k2 k3 k4 k5 k.Dirty, coA m0 m1 m2 m3 m4 m5 m.Dirty] σ fun r s => ∃ d, r = .a (.one d) ∧ Own Tryz.prog σ s t_int d ((k.worse c m).map Go.Fw.encI) := by
 refine W_watch_Worse _ _ _ _ _ _ _ _ _ k0 k1 k2 k3 k4 k5 k.Dirty m0 m1 m2 m3 m4 m5 m.Dirty σ _ ?_
 intro R hR
 have nil : ¬ (k.fits c = true ∧ m.fits c = true) → ∃ d, RV.a (.one .nils) = .a (.one d) ∧ Own Tryz.prog σ σ t_int d ((k.worse c m).map Go.Fw.encI) := fun e => ⟨_, rfl, by rw [Co.worse, if_neg e]; exact .nil _ (.refl _)⟩
 refine (locks_Fits_ok hc hk).use ⟨_, rfl, bcnot (fun e => nil (by rw [e]; simp)) (fun e1 => (locks_Fits_ok hc hm).use ⟨_, rfl, bcnot (fun e => nil (by rw [e]; simp)) (fun e2 => hR σ ?_)⟩)⟩
 rw [Co.worse, if_pos ⟨e1, e2⟩]
 have f1 := fits_lens e1
 have f2 := fits_lens e2
 have hsm := (check_small (fits_check e1)).2.1
 have lz : (k.Own.zip m.Own).length = k.Own.length := by rw [List.length_zip]; omega
 refine hk.own.lenK ⟨fun d n s => ∃ out : List Int, Own Tryz.prog σ s t_int d (out.map Go.Fw.encI) ∧ (out.length : Int) ≤ n ∧ Rng (k.Own.zip m.Own) (fun r => out ++ worseL r n.toNat = worseL (k.Own.zip m.Own) 0) n, fun _ n _ => (k.Own.zip m.Own).length - n.toNat,
   ⟨[], .nil _ (.refl _), by simp, .start rfl⟩, ?_⟩
 rintro d n s ⟨out, ho, hol, hr⟩
 refine bcd (fun hlt => ?_) (fun hge => ?_)
 · obtain ⟨j, x, rfl, hx, hj, hF, nx⟩ := hr.step (by rw [List.length_map, lz]) (by omega) hlt
   obtain ⟨g1, g2⟩ := List.getElem?_zip_eq_some.1 hx
   have hw : w64 ((j : Int) + 1) = ((j + 1 : Nat) : Int) := w64_succ (by omega)
   rw [Int.toNat_natCast, worseL] at hF
   have go : ∀ out2 d2 s2, out2 ++ worseL ((k.Own.zip m.Own).drop (j + 1)) (j + 1) = worseL (k.Own.zip m.Own) 0 → Own Tryz.prog σ s2 t_int d2 (out2.map Go.Fw.encI) → out2.length ≤ j + 1 → (∃ out : List Int, Own Tryz.prog σ s2 t_int d2 (out.map Go.Fw.encI) ∧ (out.length : Int) ≤ w64 ((j : Int) + 1) ∧ Rng (k.Own.zip m.Own) (fun r => out ++ worseL r (w64 ((j : Int) + 1)).toNat = worseL (k.Own.zip m.Own) 0) (w64 ((j : Int) + 1))) ∧
       (k.Own.zip m.Own).length - (w64 ((j : Int) + 1)).toNat < (k.Own.zip m.Own).length - (j : Int).toNat := fun out2 d2 s2 he ho2 hl => by
     have := nx (fun r => out2 ++ worseL r (w64 ((j : Int) + 1)).toNat = worseL (k.Own.zip m.Own) 0) (by rw [hw, Int.toNat_natCast]; exact he)
     exact ⟨⟨out2, ho2, by rw [hw]; omega, this.1⟩, this.2⟩
   have no : ¬ (x.1 ≠ x.2 ∧ x.1 ≠ 0 ∧ x.2 ≠ 0) → _ := fun hn => go out d s (by rw [if_neg hn] at hF; exact hF) ho (by omega)
   refine (hk.ext ho.ext).own.load (map_get g1) c_int rfl ⟨x.1, rfl, (hm.ext ho.ext).own.load (map_get g2) c_int rfl ⟨x.2, rfl, bcn (fun t1 => bcn (fun t2 => (hm.ext ho.ext).own.load (map_get g2) c_int rfl ⟨x.2, rfl, bcn (fun t3 => ?_) (fun t => no (fun g => g.2.2 t))⟩) (fun t => no (fun g => g.2.1 t))) (fun t => no (fun g => g.1 t))⟩⟩
   rw [if_pos ⟨t1, t2, t3⟩] at hF
   exact newObj_intro fun id1 s4 hid1 _ he4 hs4 => (ho.ext' he4).append (At.fresh hs4 (by simp) rfl) (by simp; omega) (by simp; omega) fun d4 s5 ho5 _ _ => go (out ++ [(j : Int)]) _ _ (by rw [List.append_assoc]; exact hF) (by rw [List.map_append]; exact ho5) (by simp; omega)
 · have hF := hr.done (by rw [List.length_map, lz]) hge
   rw [worseL, List.append_nil] at hF
   exact ⟨d, rfl, hF ▸ ho⟩
end
end
section
variable {σ : Store}
theorem flatBr (l : List Br) : ∀ row ∈ l.map Br.enc, ∀ x ∈ row, Flat x :=
 flat_ints Br.enc (fun r d hd => by simp [Br.enc] at hd; rcases hd with rfl | rfl | rfl <;> exact .int _ _) l
section
variable {c0 c1 c2 c3 c4 : D} {c : Cf} {k0 k1 k2 k3 k4 k5 : D} {k : Co} {b : Bool}
 (hc : ∀ s, CfAt s c0 c1 c2 c3 c4 c) (hk : ∀ s, CoAt s k0 k1 k2 k3 k4 k5 k) (hfit : k.fits c = true)
include hc hk hfit
end
theorem ref22_Same_ok {a b : D} {la lb : List Br} (ha : At Tryz.prog σ t_Breach a (la.map Br.enc)) (hb : At Tryz.prog σ t_Breach b (lb.map Br.enc)) : Pure Tryz.prog n_ref22_Same [.one a, .one b] σ (.a (bA (decide (la = lb)))) := by
 have hs := ha.size
 rw [List.length_map] at hs
 refine W_ref22_Same a b σ _ (ha.lenK (hb.lenK ?_))
 rw [List.length_map, List.length_map]
 refine bcn (fun hne => ⟨?_, rfl⟩) (fun he => ha.lenK ?_)
 · rw [decide_eq_false (fun e => hne (by rw [e]))]
 have hl : la.length = lb.length := by omega
 rw [List.length_map]
 refine ⟨fun n s => s = σ ∧ EqR la lb n, fun n _ => la.length - n.toNat, ⟨rfl, .start _ _⟩, ?_⟩
 rintro n s ⟨rfl, hr⟩
 refine bcd (fun hlt => ?_) (fun hge => ⟨?_, rfl⟩)
 · obtain ⟨j, x, y, rfl, hx, hy, hn, hy2⟩ := hr.step hl rfl hs hlt
   refine ha.load (map_get hx) c_Breach rfl ⟨x.Kind, x.Route, x.Sec, rfl, hb.load (map_get hy) c_Breach rfl ⟨y.Kind, y.Route, y.Sec, rfl, bcnot (fun e => ⟨?_, rfl⟩) (fun e => andl rfl (hy2 ?_))⟩⟩
   · rw [decide_eq_false (hn fun g => by rw [g] at e; simp at e)]
   · simp at e; cases x; cases y; simp at e; simp [e]
 · rw [decide_eq_true (hr.done hl rfl hge)]
section
variable {c0 c1 c2 c3 c4 : D} {c : Cf} {k0 k1 k2 k3 k4 k5 : D} {k : Co}
 (hc : ∀ s, CfAt s c0 c1 c2 c3 c4 c) (hk : ∀ s, CoAt s k0 k1 k2 k3 k4 k5 k)
include hc hk
end
end
section
variable {σ : Store}
theorem CoFz.fit {d0 d1 d2 d3 d4 d5 : D} {k : Co} (h : CoFz d0 d1 d2 d3 d4 d5 k) (hs : k.Own.length ≤ 2 ^ 20 ∧ k.Routes.length ≤ 2 ^ 20 ∧ k.Points.length ≤ 2 ^ 20 ∧ k.Xs.length ≤ 2 ^ 20 ∧ k.Lines.length ≤ 2 ^ 20 ∧ k.Resets.length ≤ 2 ^ 20) : CoFit d0 d1 d2 d3 d4 d5 k :=
 ⟨h.n0, h.n1, h.n2, h.n3, h.n4, h.n5, by omega, by omega, by omega, by omega, by omega, by omega⟩
end
section
variable {σ : Store}
def LawTrue (f : FuncId) (xs : List A) : Prop := DCalls Tryz.prog f xs noS fun r _ => r = .a (.one (.bool true))
end
section
variable {σ : Store}
def endK (o : Int) (x : Ls) (b : Bool) : Co := ⟨[o, 0], [⟨0, 0, 0, 0⟩], [⟨0, 0⟩, ⟨0, 0⟩], [], [zLs, x, zLs, zLs], [0, 0], b⟩
def endStep (occ stamp now : Int) (o : Int) (x : Ls) (b : Bool) : Co :=
 let m := decide (x.PAsk > (if x.PDone > x.Grant then x.PDone else x.Grant)) && decide (x.Ask = x.Done)
 let k' : Co := if o = -2 then
     if x.PDone < x.Grant then endK o { x with Since := 0 } b
     else if x.Since = 0 then endK o { x with Since := w64 (now + 1) } b
     else if occ = 0 ∧ x.Since ≤ stamp then endK 0 { x with Since := 0 } true
     else endK o x b
   else if o = 0 ∧ m = true then endK (-2) { x with Grant := x.PAsk, Since := 0 } true
   else endK o x b
 if b = true then k' else { k' with Lines := k'.Lines.set 1 { (k'.Lines[1]?).getD zLs with Told := x.Grant } }
end
section
variable {σ : Store}
def CoPostK (σ : Store) (p : Co × Int) (r : RV) (s : Store) : Prop := CoPost σ p r s ∨ (s = σ ∧ ∃ d0 d1 d2 d3 d4 d5, r = .tup [coA d0 d1 d2 d3 d4 d5 p.1.Dirty, iA p.2] ∧ CoFz d0 d1 d2 d3 d4 d5 p.1)
section
variable {c0 c1 c2 c3 c4 k0 k1 k2 k3 k4 k5 v0 v1 v2 v3 : D} {c : Cf} {k : Co} {v : Vw}
end
end
section
variable {σ : Store}
theorem CoFz.fits {d0 d1 d2 d3 d4 d5 k0 k1 k2 k3 k4 k5 : D} {k : Co} (h : CoFz d0 d1 d2 d3 d4 d5 k) (hf : CoFit k0 k1 k2 k3 k4 k5 k) : CoFit d0 d1 d2 d3 d4 d5 k :=
 ⟨h.n0, h.n1, h.n2, h.n3, h.n4, h.n5, hf.b0, hf.b1, hf.b2, hf.b3, hf.b4, hf.b5⟩
theorem CoOwn.ext' {σ0 s s' : Store} {d0 d1 d2 d3 d4 d5 : D} {k : Co} (h : CoOwn σ0 s d0 d1 d2 d3 d4 d5 k) (he : Ext s s') : CoOwn σ0 s' d0 d1 d2 d3 d4 d5 k :=
 ⟨h.own.ext' he, h.routes.ext' he, h.points.ext' he, h.xs.ext' he, h.lines.ext' he, h.resets.ext' he, h.apart⟩
end
section
variable {σ : Store}
def litC : Cf := ⟨[⟨0, 0, 0⟩, ⟨0, 0, 0⟩], [⟨0, 1, 1, 0⟩], [⟨0, 1⟩], [], [⟨0, -1, [⟨1, 0, 1⟩], [], [], false⟩], 2, 1, 4, 1000⟩
theorem lit_at (s : Store) : CfAt s (.sl 3 [[iD 0, iD 0, iD 0], [iD 0, iD 0, iD 0]]) (.sl 4 [[iD 0, iD 1, iD 1, iD 0]]) (.sl 2 [[iD 0, iD 1]]) .nils (.sl 6 [[iD 0, iD (-1), .sl 3 [[iD 1, iD 0, iD 1]], .nils, .nils, .bool false]]) litC :=
 ⟨at_lit c_Section (by simp), at_lit c_Joint (by simp), at_lit c_Signal (by simp), .nil, ⟨_, at_lit c_Route (by simp), rfl, fun i row r h1 h2 => by
   have hi : i = 0 := by have := (List.getElem?_eq_some_iff.1 h1).1; simp at this; exact this
   subst hi
   simp at h1; subst h1
   simp [litC] at h2; subst h2
   exact ⟨_, _, _, rfl, at_lit c_Step (by simp), .nil, .nil⟩⟩⟩
theorem watch_Judge_z {c0 c1 c2 c3 c4 : D} {c : Cf} {k0 k1 k2 k3 k4 k5 : D} {k : Co} (hc : ∀ s, CfAt s c0 c1 c2 c3 c4 c) (hk : CoAt σ k0 k1 k2 k3 k4 k5 k) :
   DCalls Tryz.prog n_watch_Judge [cfA c0 c1 c2 c3 c4 c, coA k0 k1 k2 k3 k4 k5 k.Dirty] σ (SlPost σ t_Breach ((k.judge c).map Br.enc)) := by
 refine (watch_Judge_ok hc hk rfl).ret ?_
 rintro r s ⟨d, rfl, ho⟩
 exact own_fin ho (flatBr _)
theorem watch_Worse_z {c0 c1 c2 c3 c4 : D} {c : Cf} {k0 k1 k2 k3 k4 k5 m0 m1 m2 m3 m4 m5 : D} {k m : Co} (hc : ∀ s, CfAt s c0 c1 c2 c3 c4 c) (hk : CoAt σ k0 k1 k2 k3 k4 k5 k) (hm : CoAt σ m0 m1 m2 m3 m4 m5 m) :
   DCalls Tryz.prog n_watch_Worse [cfA c0 c1 c2 c3 c4 c, coA k0 k1 k2 k3 k4 k5 k.Dirty, coA m0 m1 m2 m3 m4 m5 m.Dirty] σ (SlPost σ t_int ((k.worse c m).map Go.Fw.encI)) := by
 refine (watch_Worse_ok hc hk hm).ret ?_
 rintro r s ⟨d, rfl, ho⟩
 exact own_fin ho (flatI _)
theorem lives22_a : Co.judge litC (newCo litC 0) = [] := by decide +kernel
theorem lives22_b : Co.judge litC { newCo litC 0 with Own := [-1, 1] } = [⟨3, 0, 1⟩] := by decide +kernel
theorem law22_lives_ok : Pure Tryz.prog n_law22_lives [] σ (.a (bA true)) := by
 refine .of (W_law22_lives σ _ ((locks_New_ok lit_at 0 (by decide) (by decide) (by decide)).mono ?_)) (flat_b _)
 rintro r s ⟨k0, k1, k2, k3, k4, k5, rfl, hk⟩
 refine ⟨_, _, _, _, _, _, _, rfl, hk.own.at_.lenK (bcn (fun e => absurd rfl e) (fun _ => (watch_Judge_z lit_at hk.at).mono ?_))⟩
 rintro r s1 ⟨rfl, d, rfl, hd⟩
 rw [lives22_a] at hd
 refine ⟨_, rfl, (hd s1).lenK (bcn (fun e => absurd rfl e) (fun _ => hk.own.at_.idxK (j := 1) c_int rfl (by decide) (hk.putO (j := 1) (x := -1) (y := 1) rfl rfl (by simp) rfl fun s2 hk2 _ => ?_)))⟩
 refine (watch_Judge_z (k := { newCo litC 0 with Own := [-1, 1] }) lit_at hk2.at).mono ?_
 rintro r s3 ⟨rfl, d2, rfl, hd2⟩
 rw [lives22_b] at hd2
 refine ⟨_, rfl, (ref22_Same_ok (lb := [⟨3, 0, 1⟩]) (hd2 _) (at_lit c_Breach (by simp))).use ⟨_, rfl, ?_, hk2.own.ext⟩⟩
 rw [decide_eq_true rfl]
end
end Go.Proofs.YtdlnbehcnfjneaaGreat
namespace Go.Fw
open Go.Shelf Go.Sort Go.Proofs
section
variable {P : Program} {ρ : Ren} {σ : Store}
def intRow (z : Int) : List D := [.int .i64 z]
def sorted (l : List Int) : List Int := l.mergeSort fun x y => decide (x ≤ y)
theorem ints_over {k : Nat → Prop} {β : Bk} {W : World} (hS : SRel P k β W σ) {id i0 : Nat} {t : TypeId} {rows : List (List D)} {ys : List Int} {bi : BI} (ht : P.cellsOf t = 1) (hl : σ id = .live t rows) (hb : β id = some bi)
   (hfit : i0 + ys.length ≤ rows.length) (n : Nat) (os : Array Obj) :
   SRel P k β (grow (putRow (Value.int .i64) (Sort.ahead W n) bi.blk (i0 * bi.es) ys.toArray) os) (σ.set id (.live t (rows.take i0 ++ ys.map intRow ++ rows.drop (i0 + ys.length)))) ∧
   Ghost k β σ W k β (σ.set id (.live t (rows.take i0 ++ ys.map intRow ++ rows.drop (i0 + ys.length)))) ∧
   Frm β σ W (grow (putRow (Value.int .i64) (Sort.ahead W n) bi.blk (i0 * bi.es) ys.toArray) os) := by
 obtain ⟨arr, g1, g2, g3, g4, g5, g6, g7⟩ := hS.obj id bi t rows hb hl
 have hes : bi.es = 1 := by rw [← g3, ht]
 have hsz2 : i0 + ys.length ≤ arr.size := by rw [hes] at g4; omega
 have hov := hS.over hb hl g1 (ns := ys.map intRow) (vx := ys.map (Value.int .i64)) i0 (by omega) (by omega) (by simp [hes])
   (by
     have e : ∀ l : List Int, ((l.map intRow).flatten) = l.map (D.int .i64) := by
       intro l; induction l with
       | nil => rfl
       | cons x r ih => simp only [List.map_cons, List.flatten_cons, ih]; rfl
     rw [e]
     refine ⟨by simp, fun i v d hv hd => ?_⟩
     rw [List.getElem?_map] at hv hd
     cases hx : ys[i]? with
     | none => rw [hx] at hv; cases hv
     | some x => rw [hx] at hv hd; cases hv; cases hd; exact .int _ _)
   (by
     intro i r hr
     rw [List.getElem?_map] at hr
     cases hx : ys[i]? with
     | none => rw [hx] at hr; cases hr
     | some x => rw [hx] at hr; cases hr; rw [hes]; rfl)
   (by simp only [hes, List.length_map]; omega)
 have hrl : (ys.map intRow).length = ys.length := by rw [List.length_map]
 rw [hrl] at hov
 have hG : Grow (W.setRow bi.blk (arr.toList.take (i0 * bi.es) ++ ys.map (Value.int .i64) ++ arr.toList.drop (i0 * bi.es + (ys.map (Value.int .i64)).length)).toArray)
     (grow (putRow (Value.int .i64) (Sort.ahead W n) bi.blk (i0 * bi.es) ys.toArray) os) := by
   refine ⟨rfl, rfl, rfl, by rw [setRow_size]; simp, fun b hb => ?_⟩
   rw [setRow_size] at hb
   rw [heap_grow_old _ _ (by simpa using hb)]
   by_cases he : b = bi.blk
   · subst he
     rw [setRow_heap _ _ _ _ _ _ g1]
     simp only [putRow, mapBlock, heap_ahead, Array.getElem?_modify, if_true, g1, Option.map_some, onCells]
     congr 2
     apply Array.ext_getElem?
     intro m
     simp only [putCells, Array.getElem?_mapIdx, List.getElem?_toArray, hes, Nat.mul_one, List.length_map, List.size_toArray]
     by_cases c1 : m < i0
     · rw [List.getElem?_append_left (by simp; omega), List.getElem?_append_left (by simp; omega), List.getElem?_take, if_pos c1, Array.getElem?_toList, Array.getElem?_eq_getElem (by omega), Option.map_some, if_neg (by omega)]
     · by_cases c2 : m < i0 + ys.length
       · rw [List.getElem?_append_left (by simp; omega), List.getElem?_append_right (by simp; omega), Array.getElem?_eq_getElem (by omega), Option.map_some, if_pos ⟨by omega, by omega⟩]
         have hl1 : (arr.toList.take i0).length = i0 := by simp; omega
         have hk : m - i0 < ys.length := by omega
         rw [hl1, List.getElem?_map, List.getElem?_eq_getElem hk]
         simp [hk]
       · rw [List.getElem?_append_right (by simp; omega), List.getElem?_drop, Array.getElem?_toList]
         have hl1 : i0 + ys.length + (m - (arr.toList.take i0 ++ ys.map (Value.int .i64)).length) = m := by simp; omega
         rw [hl1]
         cases arr[m]? with
         | none => rfl
         | some y => rw [Option.map_some, if_neg (by omega)]
   · rw [setRow_get _ _ _ _ he]
     simp only [putRow, mapBlock, heap_ahead, Array.getElem?_modify]
     rw [if_neg (fun e => he e.symm)]
 have hne : σ id ≠ .dead := by rw [hl]; intro e; cases e
 refine ⟨hov.grow hG, ⟨fun _ h => h, fun _ h => .inl h, fun _ _ h => h, fun _ _ h => .inl h, fun i hi => ?_⟩, ?_⟩
 · rw [Store.set_ne _ _ (by intro e; subst e; exact hne hi)]; exact hi
 · refine ⟨hG.os, hG.tape, hG.output, by have := hG.size; rwa [setRow_size] at this, fun b hb' hn => ?_⟩
   rw [hG.block b (by rw [setRow_size]; exact hb'), setRow_get _ _ _ _ (fun e => hn id bi hb hne e.symm)]
theorem ints_hold {k : Nat → Prop} {β : Bk} {W : World} (hS : SRel P k β W σ) {id i0 : Nat} {t : TypeId} {rows : List (List D)} {zs : List Int} {bi : BI} (ht : P.cellsOf t = 1) (hl : σ id = .live t rows) (hb : β id = some bi)
   (hrows : (rows.drop i0).take zs.length = zs.map intRow) : Holds (Value.int .i64) W bi.blk (i0 * bi.es) zs.toArray := by
 obtain ⟨arr, g1, g2, g3, g4, g5, g6, g7⟩ := hS.obj id bi t rows hb hl
 have hes : bi.es = 1 := by rw [← g3, ht]
 have hget : ∀ j, j < zs.length → arr[i0 + j]? = some (Value.int .i64 (zs.getD j 0)) := by
   intro j hj
   have h1 : ((rows.drop i0).take zs.length)[j]? = some (intRow (zs.getD j 0)) := by rw [hrows]; simp [hj]
   rw [List.getElem?_take_of_lt hj, List.getElem?_drop] at h1
   obtain ⟨u, hu, hVu⟩ := g7 _ _ 0 (.int .i64 (zs.getD j 0)) h1 rfl
   rw [hes, Nat.mul_one, Nat.add_zero] at hu
   rw [hu]; cases hVu; rfl
 intro j hj
 have hj : j < zs.length := by simpa using hj
 refine ⟨?_, by simp [World.frozen?, g1]⟩
 have := hget j hj
 simp only [World.cell?, g1, hes, Nat.mul_one, Option.isSome_none, Bool.false_eq_true, if_false]
 rw [this]
 simp [hj]
theorem one_arg {k : Nat → Prop} {β : Bk} {W : World} {x : A} {vs : Array Value} (hvs : vs.size = [x].length) (hargs : ∀ (i : Nat) v y, vs[i]? = some v → [x][i]? = some y → VA k β W v y) : ∃ v, vs = #[v] ∧ VA k β W v x := by
 have hvs : vs.size = 1 := hvs
 obtain ⟨l⟩ := vs
 match l, hvs with
 | [v], _ => exact ⟨v, rfl, hargs 0 v x rfl rfl⟩
theorem sort_DCalls (Ly : Lays.n189 P ρ) {id i0 : Nat} {t : TypeId} {rows : List (List D)} {zs : List Int} (ht : P.cellsOf t = 1) (hl : σ id = .live t rows)
   (hfit : i0 + zs.length ≤ rows.length) (hrows : (rows.drop i0).take zs.length = zs.map intRow) (h0 : 0 < zs.length) (hsz : zs.length < 4611686018427387904) :
   DCalls P (ρ.f 189) [.one (.osl id i0 zs.length)] σ fun r σ' => r = .tup [] ∧ σ' = σ.set id (.live t (rows.take i0 ++ (sorted zs).map intRow ++ rows.drop (i0 + zs.length))) := by
 refine ⟨by unfold callOk; rw [Ly.f189]; rfl, fun k β W vs hS hvs hargs => ?_⟩
 obtain ⟨v, rfl, hV⟩ := one_arg hvs hargs
 have hV : V k β W v (.osl id i0 zs.length) := hV
 cases hV with
 | osl _ _ _ cap a bi hb ha hc hs =>
   have ha := ha (by omega)
   subst ha
   refine (calls_of_every_depth fun D => Go.Proofs.AnyS.slices_Sort_int_in Ly D bi.blk (i0 * bi.es) cap zs W (ints_hold hS ht hl hb hrows) (hS.blt id bi hb) hsz).mono ?_
   rintro e W' ⟨rfl, n, os, rfl⟩
   have hlen : (sorted zs).length = zs.length := by simp [sorted]
   obtain ⟨h1, h2, h3⟩ := ints_over hS (i0 := i0) (ys := sorted zs) ht hl hb (by omega) n os
   rw [hlen] at h1 h2
   exact ⟨.tuple #[], .tup [], _, k, β, rfl, ⟨rfl, rfl⟩, ⟨#[], rfl, rfl, fun i u x hu => by simp at hu⟩, h1, h2, h3⟩
theorem compact_DCalls (Ly : Lays2.n20 P ρ) {id i0 : Nat} {t : TypeId} {rows : List (List D)} {zs : List Int} (ht : P.cellsOf t = 1) (hl : σ id = .live t rows)
   (hfit : i0 + zs.length ≤ rows.length) (hrows : (rows.drop i0).take zs.length = zs.map intRow) (h0 : 0 < zs.length) (hsz : zs.length < 4611686018427387904) :
   DCalls P (ρ.f 20) [.one (.osl id i0 zs.length)] σ fun r σ' => r = .a (.one (.osl id i0 (Lib.compact zs).length)) ∧
     σ' = σ.set id (.live t (rows.take i0 ++ (Lib.compact zs ++ List.replicate (zs.length - (Lib.compact zs).length) 0).map intRow ++ rows.drop (i0 + zs.length))) := by
 refine ⟨by unfold callOk; rw [Ly.f20]; rfl, fun k β W vs hS hvs hargs => ?_⟩
 obtain ⟨v, rfl, hV⟩ := one_arg hvs hargs
 have hV : V k β W v (.osl id i0 zs.length) := hV
 cases hV with
 | osl _ _ _ cap a bi hb ha hc hs =>
   have ha := ha (by omega)
   subst ha
   refine (Go.Proofs.Any.slices_Compact_int Ly bi.blk (i0 * bi.es) cap zs W (ints_hold hS ht hl hb hrows) (by omega) hc).mono ?_
   rintro e W' ⟨rfl, n, rfl⟩
   have hle : (Lib.compact zs).length ≤ zs.length := by
     unfold Lib.compact Lib.compactUpTo
     rw [List.length_map]
     exact Nat.le_trans (List.length_filter_le _ _) (by simp)
   have hlen : (Lib.compact zs ++ List.replicate (zs.length - (Lib.compact zs).length) 0).length = zs.length := by simp; omega
   obtain ⟨h1, h2, h3⟩ := ints_over hS (i0 := i0) (ys := Lib.compact zs ++ List.replicate (zs.length - (Lib.compact zs).length) 0) ht hl hb (by omega) n #[]
   rw [hlen] at h1 h2
   rw [grow_empty] at h1 h3
   exact ⟨_, .a (.one (.osl id i0 (Lib.compact zs).length)), _, k, β, rfl, ⟨rfl, rfl⟩, .osl id i0 _ cap _ bi hb (fun _ => rfl) (by omega) hs, h1, h2, h3⟩
theorem sorted_perm (l : List Int) : (sorted l).Perm l := List.mergeSort_perm _ _
theorem sorted_pair (l : List Int) : (sorted l).Pairwise (· ≤ ·) := by
 have := List.pairwise_mergeSort (le := fun x y : Int => decide (x ≤ y)) (by intro a b c; simp; omega) (by intro a b; simp; omega) l
 exact this.imp fun h => by simpa using h
theorem compact_mem {zs : List Int} {z : Int} : z ∈ Lib.compact zs ↔ z ∈ zs := by
 unfold Lib.compact Lib.compactUpTo
 rw [List.mem_map]
 constructor
 · rintro ⟨j, hj, rfl⟩
   have hj := List.mem_range.1 (List.mem_filter.1 hj).1
   simp [hj]
 · intro hz
   obtain ⟨j, hj, e⟩ := List.getElem_of_mem hz
   have key : ∀ j, (hj : j < zs.length) → zs[j] = z → ∃ a, a ∈ List.filter (Lib.keeps zs.toArray) (List.range zs.length) ∧ zs.toArray[a]! = z := by
     intro j
     induction j with
     | zero => exact fun hj e => ⟨0, List.mem_filter.2 ⟨List.mem_range.2 hj, by simp [Lib.keeps]⟩, by simp [hj, e]⟩
     | succ j ih =>
       intro hj e
       by_cases h : zs[j]'(by omega) = z
       · exact ih (by omega) h
       · refine ⟨j + 1, List.mem_filter.2 ⟨List.mem_range.2 hj, Lib.keeps_pos ?_⟩, by simp [hj, e]⟩
         simp only [Nat.add_sub_cancel]
         have : j < zs.length := by omega
         simp only [List.getElem!_toArray, hj, this, getElem!_pos, e]
         exact fun h' => h h'.symm
   exact key j hj e
theorem compact_strict {zs : List Int} (h : zs.Pairwise (· ≤ ·)) : (Lib.compact zs).Pairwise (· < ·) := by
 unfold Lib.compact Lib.compactUpTo
 rw [List.pairwise_map]
 have hr : (List.filter (Lib.keeps zs.toArray) (List.range zs.length)).Pairwise (· < ·) := List.Pairwise.filter _ List.pairwise_lt_range
 refine hr.imp_of_mem ?_
 intro i j hi hj hij
 obtain ⟨h1, _⟩ := List.mem_filter.1 hi
 obtain ⟨h2, h3⟩ := List.mem_filter.1 hj
 have h1 := List.mem_range.1 h1
 have h2 := List.mem_range.1 h2
 have hm : j - 1 < zs.length := by omega
 have hne : zs[j]'h2 ≠ zs[j - 1]'hm := by
   intro e
   have : Lib.keeps zs.toArray j = false := Lib.keeps_neg (by omega) (by simp only [List.getElem!_toArray, h2, hm, getElem!_pos, e])
   rw [h3] at this; cases this
 have hle1 : zs[j - 1]'hm ≤ zs[j]'h2 := List.pairwise_iff_getElem.1 h _ _ _ _ (by omega)
 have hle2 : zs[i]'h1 ≤ zs[j - 1]'hm := by
   by_cases e : i = j - 1
   · subst e; exact Int.le_refl _
   · exact List.pairwise_iff_getElem.1 h _ _ _ _ (by omega)
 simp only [List.getElem!_toArray, h1, h2, getElem!_pos]
 omega
end
end Go.Fw
namespace Go.Fw
section
def cpt : List Int → List Int
 | [] => []
 | x :: r => match cpt r with
   | [] => [x]
   | y :: q => if x = y then y :: q else x :: y :: q
theorem mem_cpt : ∀ (l : List Int) (z : Int), z ∈ cpt l ↔ z ∈ l
 | [], z => by simp [cpt]
 | x :: r, z => by
   have ih := mem_cpt r z
   rw [cpt]
   split
   · rename_i h; rw [h] at ih; simp at ih; simp [ih]
   · rename_i y q h
     rw [h] at ih
     split
     · rename_i e; rw [ih, List.mem_cons]; exact ⟨.inr, fun hz => hz.elim (fun e' => by rw [← ih, e', e]; simp) id⟩
     · rw [List.mem_cons, ih, List.mem_cons]
theorem cpt_pair : ∀ {l : List Int}, l.Pairwise (· ≤ ·) → (cpt l).Pairwise (· < ·)
 | [], _ => by simp [cpt]
 | x :: r, h => by
   rw [List.pairwise_cons] at h
   have ih := cpt_pair h.2
   rw [cpt]
   split
   · simp
   · rename_i y q hq
     rw [hq] at ih
     split
     · exact ih
     · rename_i hne
       rw [List.pairwise_cons]
       refine ⟨fun z hz => ?_, ih⟩
       have h1 : y ∈ r := (mem_cpt r y).1 (by rw [hq]; simp)
       have h2 := h.1 y h1
       rcases List.mem_cons.1 hz with rfl | hz
       · omega
       · have := (List.pairwise_cons.1 ih).1 z hz; omega
theorem strict_ext : ∀ {a b : List Int}, a.Pairwise (· < ·) → b.Pairwise (· < ·) → (∀ z, z ∈ a ↔ z ∈ b) → a = b
 | [], [], _, _, _ => rfl
 | [], y :: b, _, _, h => absurd ((h y).2 (by simp)) (by simp)
 | x :: a, [], _, _, h => absurd ((h x).1 (by simp)) (by simp)
 | x :: a, y :: b, ha, hb, h => by
   rw [List.pairwise_cons] at ha hb
   have e : x = y := by
     have h1 := (h x).1 (by simp)
     have h2 := (h y).2 (by simp)
     rcases List.mem_cons.1 h1 with h1 | h1
     · exact h1
     · rcases List.mem_cons.1 h2 with h2 | h2
       · exact h2.symm
       · have := hb.1 x h1; have := ha.1 y h2; omega
   subst e
   congr 1
   refine strict_ext ha.2 hb.2 fun z => ⟨fun hz => ?_, fun hz => ?_⟩
   · rcases List.mem_cons.1 ((h z).1 (by simp [hz])) with e | hz'
     · subst e; have := ha.1 z hz; omega
     · exact hz'
   · rcases List.mem_cons.1 ((h z).2 (by simp [hz])) with e | hz'
     · subst e; have := hb.1 z hz; omega
     · exact hz'
theorem compact_cpt {l : List Int} (h : l.Pairwise (· ≤ ·)) : Lib.compact l = cpt l := strict_ext (compact_strict h) (cpt_pair h) fun z => by rw [compact_mem, mem_cpt]
def Cf.lockR (r : Rt) : List Int := cpt (sorted (r.Overlap ++ r.Path.map St.Sec ++ r.Flank.map Nd.Sec))
def Cf.lockL (c : Cf) (i : Int) : List Int := match geti c.Rts i with
 | some r => Cf.lockR r
 | none => []
theorem mem_lockR {r : Rt} {z : Int} : z ∈ Cf.lockR r ↔ z ∈ r.Overlap ∨ z ∈ r.Path.map St.Sec ∨ z ∈ r.Flank.map Nd.Sec := by
 rw [Cf.lockR, mem_cpt, (sorted_perm _).mem_iff]; simp [or_assoc]
theorem lockR_sec {c : Cf} {r : Rt} (h : RtOk c r) {z : Int} (hz : z ∈ Cf.lockR r) : ∃ y, geti c.Secs z = some y := by
 rcases mem_lockR.1 hz with hz | hz | hz
 · obtain ⟨y, hy, _⟩ := (h.ov hz).1; exact ⟨y, hy⟩
 · obtain ⟨s, hs, rfl⟩ := List.mem_map.1 hz
   obtain ⟨y, hy, _⟩ := (h.step s hs).1.sec; exact ⟨y, hy⟩
 · obtain ⟨n, hn, rfl⟩ := List.mem_map.1 hz
   obtain ⟨y, hy, _⟩ := (h.fl.1 n hn).sec; exact ⟨y, hy⟩
theorem cpt_len : ∀ l : List Int, (cpt l).length ≤ l.length
 | [] => Nat.le_refl _
 | x :: r => by
   have ih := cpt_len r
   rw [cpt]
   split
   · simp
   · rename_i y q h
     rw [h] at ih
     split
     · simp at ih ⊢; omega
     · simp at ih ⊢; omega
def cmdM (m : Mv) (now cmd : Int) : Mv := if m.Cmd ≠ cmd then ⟨cmd, now⟩ else m
def Co.inh (c : Cf) (k : Co) (r s : Int) : Bool :=
 let o := (geti k.Own s).getD 0 - 1
 decide (0 ≤ o ∧ o ≠ r) && (decide ((c.rt o).Exit = (c.rt r).Entry) && inL (c.rt o).Overlap s)
def Co.blocked (c : Cf) (k : Co) (r : Int) (l : List Int) : Bool := l.any fun s => decide ((geti k.Own s).getD 0 ≠ 0) && !k.inh c r s
def Co.may (c : Cf) (k : Co) (r : Int) (l : List Int) : Int :=
 if apprS c l k.Routes 0 = true then 23 else if k.blocked c r l = true then 22 else 0
def lineF (c : Cf) : List St → Int
 | [] => 0
 | s :: r => let n := ((geti c.Secs s.Sec).getD ⟨0, 0, 0⟩).Line; if n > 0 then n else lineF c r
def ptsC (now : Int) (l : List Nd) (w : List Mv) : List Mv := l.foldl (fun w n => w.set n.Sec.toNat (cmdM ((geti w n.Sec).getD ⟨0, 0⟩) now n.Pos)) w
def xsC (now : Int) (l : List Int) (w : List Mv) : List Mv := l.foldl (fun w i => w.set i.toNat (cmdM ((geti w i).getD ⟨0, 0⟩) now 1)) w
def askC (n : Int) (w : List Ls) : List Ls := if n > 0 then w.set n.toNat { (geti w n).getD zLs with Ask := ((geti w n).getD zLs).Ask + 1 } else w
def Co.lockC (c : Cf) (k : Co) (now r : Int) : Co :=
 { k with Own := (c.lockL r).foldl (fun w s => w.set s.toNat ((r + 1))) k.Own, Routes := k.Routes.set r.toNat ⟨1, 0, 0, 0⟩, Points := ptsC now (c.Needs r) k.Points, Xs := xsC now (c.Cross r) k.Xs,
          Lines := askC (lineF c (c.rt r).Path) k.Lines, Dirty := true }
def Co.reqE (c : Cf) (k : Co) (r : Int) : Int :=
 match geti k.Routes r with
 | none => 20
 | some x => if x.State ≠ 0 then 28 else if k.may c r (c.lockL r) ≠ 0 then k.may c r (c.lockL r)
   else if lineF c (c.rt r).Path > 0 ∧ ((geti k.Lines (lineF c (c.rt r).Path)).getD zLs).Ask ≥ 4294967295 then 5 else 0
def Co.gate (c : Cf) (k : Co) (now : Int) (e : Int) : Int := if k.fits c = false then 21 else if tm 0 now = false then 32 else e
def Co.done (k : Co) (e : Int) (y : Co) : Co × Int := (if e = 0 then y else k, e)
def Co.requestC (c : Cf) (k : Co) (now r : Int) : Co × Int := k.done (k.gate c now (k.reqE c r)) (k.lockC c now r)
end
section
theorem zip_all {α β : Type} {f : α × β → Bool} : ∀ {a : List α} {b : List β}, (a.zip b).all f = true ↔ ∀ (i : Nat) x y, a[i]? = some x → b[i]? = some y → f (x, y) = true
 | [], b => by simp
 | x :: a, [] => by simp
 | x :: a, y :: b => by
   rw [List.zip_cons_cons, List.all_cons, Bool.and_eq_true, zip_all (a := a) (b := b)]
   constructor
   · rintro ⟨h1, h2⟩ i p q hp hq
     cases i with
     | zero => cases hp; cases hq; exact h1
     | succ i => exact h2 i p q (by simpa using hp) (by simpa using hq)
   · intro h
     exact ⟨h 0 x y rfl rfl, fun i p q hp hq => h (i + 1) p q (by simpa using hp) (by simpa using hq)⟩
structure FitIs (c : Cf) (k : Co) : Prop where
 chk : c.check = 0
 lOwn : k.Own.length = c.Secs.length
 lPts : k.Points.length = c.Secs.length
 lRes : k.Resets.length = c.Secs.length
 lRts : k.Routes.length = c.Rts.length
 lXs : k.Xs.length = c.Xs.length
 lLn : k.Lines.length = 4
 own : ∀ o ∈ k.Own, -2 ≤ o ∧ o ≤ c.Rts.length
 rts : ∀ (i : Nat) x r, k.Routes[i]? = some x → c.Rts[i]? = some r → Rs.fits (x, r) = true
 pts : ∀ m ∈ k.Points, Mv.fits m = true
 xs : ∀ m ∈ k.Xs, Mv.fits m = true
 lns : ∀ l ∈ k.Lines, Ls.fits l = true
 res : ∀ z ∈ k.Resets, tm 1 z = true
theorem fits_iff {c : Cf} {k : Co} : k.fits c = true ↔ FitIs c k := by
 simp only [Co.fits, Co.lens, Co.parts, Bool.and_eq_true, decide_eq_true_eq, zip_all, List.all_eq_true, List.mem_append]
 constructor
 · rintro ⟨h1, ⟨a1, a2, a3, a4, a5, a6⟩, b1, b2, b3, b4, b5⟩
   exact ⟨h1, a1, a2, a3, a4, a5, a6, b1, zip_all.1 (List.all_eq_true.2 b2), fun m h => b3 m (.inl h), fun m h => b3 m (.inr h), b4, b5⟩
 · intro h
   exact ⟨h.chk, ⟨h.lOwn, h.lPts, h.lRes, h.lRts, h.lXs, h.lLn⟩, h.own, List.all_eq_true.1 (zip_all.2 h.rts), fun m hm => hm.elim (h.pts m) (h.xs m), h.lns, h.res⟩
theorem geti_mem {α : Type} {l : List α} {i : Int} {x : α} (h : geti l i = some x) : x ∈ l := List.mem_of_getElem? (geti_some h).2.2
theorem geti_d {α : Type} {l : List α} {i : Int} {p : α → Prop} {z : α} (hz : p z) (h : ∀ x ∈ l, p x) : p ((geti l i).getD z) := by
 cases hg : geti l i with
 | none => exact hz
 | some x => exact h x (geti_mem hg)
theorem cmd_fits {m : Mv} {now p : Int} (hm : Mv.fits m = true) (hn : tm 0 now = true) (hp : 1 ≤ p ∧ p ≤ 2) : Mv.fits (cmdM m now p) = true := by
 unfold cmdM
 split
 · simp only [tm, decide_eq_true_eq] at hn
   simp only [Mv.fits, Bool.and_eq_true, decide_eq_true_eq]; omega
 · exact hm
theorem ptsC_len (now : Int) : ∀ (l : List Nd) (w : List Mv), (ptsC now l w).length = w.length
 | [], w => rfl
 | n :: l, w => by unfold ptsC; rw [List.foldl_cons]; exact (ptsC_len now l _).trans (by simp)
theorem ptsC_fits {now : Int} (hn : tm 0 now = true) : ∀ (l : List Nd) (w : List Mv), (∀ n ∈ l, 1 ≤ n.Pos ∧ n.Pos ≤ 2) → (∀ m ∈ w, Mv.fits m = true) → ∀ m ∈ ptsC now l w, Mv.fits m = true
 | [], w, _, h => h
 | n :: l, w, hl, h => by
   unfold ptsC; rw [List.foldl_cons]
   refine ptsC_fits hn l _ (fun x hx => hl x (by simp [hx])) fun m hm => ?_
   rcases List.mem_or_eq_of_mem_set hm with hm | rfl
   · exact h m hm
   · exact cmd_fits (geti_d (p := fun m => Mv.fits m = true) rfl h) hn (hl n (by simp))
theorem xsC_len (now : Int) : ∀ (l : List Int) (w : List Mv), (xsC now l w).length = w.length
 | [], w => rfl
 | n :: l, w => by unfold xsC; rw [List.foldl_cons]; exact (xsC_len now l _).trans (by simp)
theorem xsC_fits {now : Int} (hn : tm 0 now = true) : ∀ (l : List Int) (w : List Mv), (∀ m ∈ w, Mv.fits m = true) → ∀ m ∈ xsC now l w, Mv.fits m = true
 | [], w, h => h
 | n :: l, w, h => by
   unfold xsC; rw [List.foldl_cons]
   refine xsC_fits hn l _ fun m hm => ?_
   rcases List.mem_or_eq_of_mem_set hm with hm | rfl
   · exact h m hm
   · exact cmd_fits (geti_d (p := fun m => Mv.fits m = true) rfl h) hn (by omega)
theorem ownC_len (o : Int) : ∀ (l w : List Int), (l.foldl (fun w s => w.set s.toNat o) w).length = w.length
 | [], w => rfl
 | s :: l, w => by rw [List.foldl_cons, ownC_len o l]; simp
theorem ownC_mem {o : Int} : ∀ (l w : List Int) {z : Int}, z ∈ l.foldl (fun w s => w.set s.toNat o) w → z ∈ w ∨ z = o
 | [], w, z, h => .inl h
 | s :: l, w, z, h => by
   rw [List.foldl_cons] at h
   rcases ownC_mem l _ h with h | h
   · rcases List.mem_or_eq_of_mem_set h with h | h
     · exact .inl h
     · exact .inr h
   · exact .inr h
theorem ownC_get {o : Int} : ∀ (l w : List Int) {s : Nat}, (∀ x ∈ l, 0 ≤ x) → s < w.length → (l.foldl (fun w s => w.set s.toNat o) w)[s]? = if (s : Int) ∈ l then some o else w[s]?
 | [], w, s, _, _ => by simp
 | x :: l, w, s, hl, hs => by
   rw [List.foldl_cons, ownC_get l _ (fun y hy => hl y (by simp [hy])) (by simpa using hs), List.getElem?_set]
   have hx := hl x (by simp)
   by_cases h1 : (s : Int) ∈ l
   · rw [if_pos h1, if_pos (by simp [h1])]
   · rw [if_neg h1]
     by_cases h2 : (s : Int) = x
     · rw [if_pos (show x.toNat = s by omega), if_pos (show x.toNat < w.length by omega), if_pos (show (s : Int) ∈ x :: l by simp [h2])]
     · rw [if_neg (show ¬ x.toNat = s by omega), if_neg (show ¬ (s : Int) ∈ x :: l by simp [h1, h2])]
theorem line_ok {c : Cf} (h : c.check = 0) (l : List St) : 0 ≤ lineF c l ∧ lineF c l ≤ 3 := by
 induction l with
 | nil => exact ⟨Int.le_refl _, by unfold lineF; omega⟩
 | cons s r ih =>
   rw [lineF]
   have hs : 0 ≤ ((geti c.Secs s.Sec).getD ⟨0, 0, 0⟩).Line ∧ ((geti c.Secs s.Sec).getD ⟨0, 0, 0⟩).Line ≤ 3 := by
     refine geti_d (p := fun y : Sec => 0 ≤ y.Line ∧ y.Line ≤ 3) (by decide) fun y hy => ?_
     obtain ⟨i, hi, e⟩ := List.getElem_of_mem hy
     exact topo_line (check_parts h).1 (i := i) (by rw [List.getElem?_eq_getElem hi, e])
   split
   · exact hs
   · exact ih
theorem req_zero {c : Cf} {k : Co} {r : Int} (h : k.reqE c r = 0) : (∃ x, geti k.Routes r = some x ∧ x.State = 0) ∧ apprS c (c.lockL r) k.Routes 0 = false ∧ k.blocked c r (c.lockL r) = false ∧
   (lineF c (c.rt r).Path > 0 → ((geti k.Lines (lineF c (c.rt r).Path)).getD zLs).Ask < 4294967295) := by
 unfold Co.reqE at h
 split at h
 · cases h
 · rename_i x hx
   split at h
   · cases h
   split at h
   · rename_i h2; exact absurd h h2
   rename_i h1 h2
   have h2 : k.may c r (c.lockL r) = 0 := Decidable.not_not.1 h2
   split at h
   · cases h
   rename_i h3
   unfold Co.may at h2
   split at h2
   · cases h2
   split at h2
   · cases h2
   rename_i h4 h5
   exact ⟨⟨x, hx, Decidable.not_not.1 h1⟩, by simpa using h4, by simpa using h5, fun hl => by have := fun ha => h3 ⟨hl, ha⟩; omega⟩
theorem rt_of {c : Cf} {k : Co} (hf : FitIs c k) {r : Int} {x : Rs} (hx : geti k.Routes r = some x) : ∃ y, geti c.Rts r = some y ∧ y ∈ c.Rts := by
 obtain ⟨h1, h2, h3⟩ := geti_some hx
 have := (List.getElem?_eq_some_iff.1 h3).1
 obtain ⟨y, hy⟩ := geti_ex (l := c.Rts) (i := r) (by omega) (by have := hf.lRts; omega)
 exact ⟨y, hy, geti_mem hy⟩
theorem lock_fits {c : Cf} {k : Co} {now r : Int} (h : k.fits c = true) (hn : tm 0 now = true) (he : k.reqE c r = 0) : (k.lockC c now r).fits c = true := by
 rw [fits_iff] at h ⊢
 obtain ⟨⟨x, hx, hs⟩, h2, h3, h4⟩ := req_zero he
 obtain ⟨y, hy, hm⟩ := rt_of h hx
 have hok := check_rt h.chk hm
 have hr := (geti_some hy)
 have hrl := (List.getElem?_eq_some_iff.1 hr.2.2).1
 refine ⟨h.chk, by simp only [Co.lockC, ownC_len]; exact h.lOwn, by simp only [Co.lockC, ptsC_len]; exact h.lPts, h.lRes, by simp only [Co.lockC, List.length_set]; exact h.lRts, by simp only [Co.lockC, xsC_len]; exact h.lXs, ?_, ?_, ?_, ?_, ?_, ?_, h.res⟩
 · simp only [Co.lockC, askC]; split <;> simp [h.lLn]
 · intro o ho
   simp only [Co.lockC] at ho
   rcases ownC_mem _ _ ho with ho | rfl
   · exact h.own o ho
   · omega
 · intro i z q hz hq
   simp only [Co.lockC, List.getElem?_set] at hz
   split at hz
   · split at hz
     · cases hz
       have : (0 : Int) ≤ q.Path.length := by omega
       simp only [Rs.fits, tm, Bool.and_eq_true, decide_eq_true_eq]; omega
     · cases hz
   · exact h.rts i z q hz hq
 · refine ptsC_fits hn _ _ (fun n hn' => ?_) h.pts
   rw [Cf.Needs, rt_some hy] at hn'
   exact (needs_sec hok hn').2
 · exact xsC_fits hn _ _ h.xs
 · intro l hl
   simp only [Co.lockC, askC] at hl
   split at hl
   · rename_i hg
     rcases List.mem_or_eq_of_mem_set hl with hl | rfl
     · exact h.lns l hl
     · have h5 := h4 hg
       have h6 := geti_d (i := lineF c (c.rt r).Path) (p := fun l => Ls.fits l = true) (z := zLs) rfl h.lns
       simp only [Ls.fits, tm, Bool.and_eq_true, decide_eq_true_eq] at h6 ⊢
       omega
   · exact h.lns l hl
theorem new_fits {c : Cf} {now : Int} (h : c.check = 0) (hn : tm 0 now = true) : (newCo c now).fits c = true := by
 rw [fits_iff]
 simp only [tm, decide_eq_true_eq] at hn
 refine ⟨h, by simp [newCo], by simp [newCo], by simp [newCo], by simp [newCo], by simp [newCo], by simp [newCo], fun o ho => ?_, fun i x r hx hr => ?_, fun m hm => ?_, fun m hm => ?_, fun l hl => ?_, fun z hz => ?_⟩
 · obtain ⟨_, rfl⟩ := List.mem_replicate.1 ho; omega
 · obtain ⟨_, rfl⟩ := List.mem_replicate.1 (List.mem_of_getElem? hx)
   have : (0 : Int) ≤ r.Path.length := by omega
   simp only [Rs.fits, tm, Bool.and_eq_true, decide_eq_true_eq]; omega
 · obtain ⟨s, hs, rfl⟩ := List.mem_map.1 hm
   simp only [Mv.fits, Bool.and_eq_true, decide_eq_true_eq]; split <;> omega
 · obtain ⟨_, rfl⟩ := List.mem_replicate.1 hm
   simp only [Mv.fits, Bool.and_eq_true, decide_eq_true_eq]; omega
 · obtain ⟨_, rfl⟩ := List.mem_replicate.1 hl; rfl
 · obtain ⟨_, rfl⟩ := List.mem_replicate.1 hz; rfl
end
end Go.Fw
namespace Go.Proofs.YtdlnbehcnfjneaaGreat
open Go.Shelf Go.Proofs
section
def sortLays_ren : Go.Shelf.Ren := ⟨fun | 189 => 194 | 125 => 217 | 257 => 216 | 128 => 233 | 129 => 234 | 294 => 224 | 295 => 225 | 296 => 226 | 297 => 227 | 298 => 228 | 299 => 229 | 216 => 230 | 300 => 231 | 301 => 232 | 328 => 235 | 329 => 236 | 330 => 237 | 331 => 238 | 332 => 239 | 215 => 240 | 343 => 241 | n => n, fun | 28 => 25 | 3 => 3 | 46 => 60 | 0 => 0 | 51 => 248 | 53 => 251 | 4 => 4 | 183 => 286 | 182 => 285 | 131 => 201 | 5 => 5 | 9 => 9 | 218 => 293 | 222 => 297 | 228 => 299 | 229 => 300 | n => n, fun | n => n⟩
theorem sortLays : Go.Proofs.Lays.n189 Tryz.prog sortLays_ren := {
 mixed := by kernel_rfl
 f125 := Tryz.func217.trans (congrArg some (by kernel_rfl))
 f128 := Tryz.func233.trans (congrArg some (by kernel_rfl))
 f129 := Tryz.func234.trans (congrArg some (by kernel_rfl))
 f189 := Tryz.func194.trans (congrArg some (by kernel_rfl))
 f215 := Tryz.func240.trans (congrArg some (by kernel_rfl))
 f216 := Tryz.func230.trans (congrArg some (by kernel_rfl))
 f257 := Tryz.func216.trans (congrArg some (by kernel_rfl))
 f294 := Tryz.func224.trans (congrArg some (by kernel_rfl))
 f295 := Tryz.func225.trans (congrArg some (by kernel_rfl))
 f296 := Tryz.func226.trans (congrArg some (by kernel_rfl))
 f297 := Tryz.func227.trans (congrArg some (by kernel_rfl))
 f298 := Tryz.func228.trans (congrArg some (by kernel_rfl))
 f299 := Tryz.func229.trans (congrArg some (by kernel_rfl))
 f300 := Tryz.func231.trans (congrArg some (by kernel_rfl))
 f301 := Tryz.func232.trans (congrArg some (by kernel_rfl))
 f328 := Tryz.func235.trans (congrArg some (by kernel_rfl))
 f329 := Tryz.func236.trans (congrArg some (by kernel_rfl))
 f330 := Tryz.func237.trans (congrArg some (by kernel_rfl))
 f331 := Tryz.func238.trans (congrArg some (by kernel_rfl))
 f332 := Tryz.func239.trans (congrArg some (by kernel_rfl))
 f343 := Tryz.func241.trans (congrArg some (by kernel_rfl))
 t0 := Tryz.underlying0
 a0 := Tryz.isAgg0
 z0 := Tryz.sizeOf0
 v0 := Tryz.zeroValue0
 t3 := Tryz.underlying3
 a3 := Tryz.isAgg3
 z3 := Tryz.sizeOf3
 v3 := Tryz.zeroValue3
 t4 := Tryz.underlying4
 a4 := Tryz.isAgg4
 z4 := Tryz.sizeOf4
 v4 := Tryz.zeroValue4
 t5 := Tryz.underlying5
 a5 := Tryz.isAgg5
 z5 := Tryz.sizeOf5
 v5 := Tryz.zeroValue5
 t9 := Tryz.underlying9
 a9 := Tryz.isAgg9
 z9 := Tryz.sizeOf9
 v9 := Tryz.zeroValue9
 t28 := Tryz.underlying25
 a28 := Tryz.isAgg25
 z28 := Tryz.sizeOf25
 v28 := Tryz.zeroValue25
 t46 := Tryz.underlying60
 a46 := Tryz.isAgg60
 z46 := Tryz.sizeOf60
 v46 := Tryz.zeroValue60
 t51 := Tryz.underlying248
 a51 := Tryz.isAgg248
 z51 := Tryz.sizeOf248
 v51 := Tryz.zeroValue248
 t53 := Tryz.underlying251
 a53 := Tryz.isAgg251
 z53 := Tryz.sizeOf251
 v53 := Tryz.zeroValue251
 t131 := Tryz.underlying201
 a131 := Tryz.isAgg201
 z131 := Tryz.sizeOf201
 v131 := Tryz.zeroValue201
 t182 := Tryz.underlying285
 a182 := Tryz.isAgg285
 z182 := Tryz.sizeOf285
 v182 := Tryz.zeroValue285
 t183 := Tryz.underlying286
 a183 := Tryz.isAgg286
 z183 := Tryz.sizeOf286
 v183 := Tryz.zeroValue286
 t218 := Tryz.underlying293
 a218 := Tryz.isAgg293
 z218 := Tryz.sizeOf293
 v218 := Tryz.zeroValue293
 t222 := Tryz.underlying297
 a222 := Tryz.isAgg297
 z222 := Tryz.sizeOf297
 v222 := Tryz.zeroValue297
 t228 := Tryz.underlying299
 a228 := Tryz.isAgg299
 z228 := Tryz.sizeOf299
 v228 := Tryz.zeroValue299
 t229 := Tryz.underlying300
 a229 := Tryz.isAgg300
 z229 := Tryz.sizeOf300
 v229 := Tryz.zeroValue300 }
end
section
def compactLays_ren : Go.Shelf.Ren := ⟨fun | 20 => 195 | n => n, fun | 22 => 25 | 3 => 3 | 4 => 4 | 0 => 0 | n => n, fun | n => n⟩
theorem compactLays : Go.Proofs.Lays2.n20 Tryz.prog compactLays_ren := {
 mixed := by kernel_rfl
 f20 := Tryz.func195.trans (congrArg some (by kernel_rfl))
 t0 := Tryz.underlying0
 a0 := Tryz.isAgg0
 z0 := Tryz.sizeOf0
 v0 := Tryz.zeroValue0
 t3 := Tryz.underlying3
 a3 := Tryz.isAgg3
 z3 := Tryz.sizeOf3
 v3 := Tryz.zeroValue3
 t4 := Tryz.underlying4
 a4 := Tryz.isAgg4
 z4 := Tryz.sizeOf4
 v4 := Tryz.zeroValue4
 t22 := Tryz.underlying25
 a22 := Tryz.isAgg25
 z22 := Tryz.sizeOf25
 v22 := Tryz.zeroValue25
 i3 := by kernel_rfl }
end
end Go.Proofs.YtdlnbehcnfjneaaGreat
namespace Go.Proofs.YtdlnbehcnfjneaaGreat
open Go.Fw Go.Proofs Go.RowKit
section
variable {σ σ0 : Store}
theorem own_over {s : Store} {d : D} {l ys : List Int} (h : Own Tryz.prog σ0 s t_int d (l.map Go.Fw.encI)) (h0 : l ≠ []) (hl : ys.length = l.length) :
   ∃ id i0 t rows, d = .osl id i0 l.length ∧ s id = .live t rows ∧ Tryz.prog.cellsOf t = 1 ∧ i0 + l.length ≤ rows.length ∧ (rows.drop i0).take l.length = l.map intRow ∧ σ0 id = .free ∧
     Own Tryz.prog σ0 (s.set id (.live t (rows.take i0 ++ ys.map intRow ++ rows.drop (i0 + l.length)))) t_int d (ys.map Go.Fw.encI) := by
 have hr := h.at_.rows
 have hsz := h.at_.size
 rw [List.length_map] at hsz
 have hnz := h.nz
 have hns := h.nsl
 have hnew := h.new
 have hlen := h.at_.lenI
 rw [List.length_map] at hlen
 cases d <;> simp only [Go.Fw.Rows] at hr <;> try exact hr.elim
 · exact absurd (List.map_eq_nil_iff.1 hr) h0
 · exact absurd rfl hnz
 · exact absurd trivial hns
 · rename_i id i0 len
   obtain ⟨t, rows, a1, a2, a3, a4⟩ := hr
   have e : l.length = len := hlen
   subst e
   have ht : Tryz.prog.cellsOf t = 1 := by rw [a2]; exact c_int
   have hn := hnew _ _ _ rfl
   refine ⟨id, i0, t, rows, rfl, a1, ht, a3, a4.symm, hn, ⟨⟨⟨t, _, Store.set_same _ _ _, a2, ?_, ?_⟩, ?_, fun es rows e => by cases e⟩, ?_, hnew, fun h => h, by intro e; cases e⟩⟩
   · simp; omega
   · have hi0 : (rows.take i0).length = i0 := by simp; omega
     rw [List.append_assoc, List.drop_append_of_le_length (by omega), List.drop_of_length_le (by omega), List.nil_append, List.take_append_of_le_length (by simp; omega), List.take_of_length_le (by simp; omega)]
     rfl
   · rw [List.length_map]; omega
   · intro i hi
     rw [Store.set_ne _ _ (by intro e; subst e; exact hi hn)]
     exact h.ext i hi
theorem Sort_int_ok {s : Store} {d : D} {l : List Int} (h : Own Tryz.prog σ0 s t_int d (l.map Go.Fw.encI)) (h0 : l ≠ []) :
   DCalls Tryz.prog n_slices_Sort_int [.one d] s fun r s' => r = .tup [] ∧ Own Tryz.prog σ0 s' t_int d ((sorted l).map Go.Fw.encI) := by
 have hsz := h.at_.size
 rw [List.length_map] at hsz
 obtain ⟨id, i0, t, rows, rfl, a1, ht, a3, a4, hn, ho⟩ := own_over (ys := sorted l) h h0 (by simp [sorted])
 refine (sort_DCalls sortLays ht a1 a3 a4 (List.length_pos_iff.2 h0) (by omega)).mono ?_
 rintro r s' ⟨rfl, rfl⟩
 exact ⟨rfl, ho⟩
theorem Compact_int_ok {s : Store} {d : D} {l : List Int} (h : Own Tryz.prog σ0 s t_int d (l.map Go.Fw.encI)) (h0 : l ≠ []) (hp : l.Pairwise (· ≤ ·)) :
   DCalls Tryz.prog n_slices_Compact_int [.one d] s fun r s' => ∃ d', r = .a (.one d') ∧ Own Tryz.prog σ0 s' t_int d' ((cpt l).map Go.Fw.encI) := by
 have hsz := h.at_.size
 rw [List.length_map] at hsz
 have hc := compact_cpt hp
 have hle := cpt_len l
 obtain ⟨id, i0, t, rows, rfl, a1, ht, a3, a4, hn, ho⟩ := own_over (ys := Lib.compact l ++ List.replicate (l.length - (Lib.compact l).length) 0) h h0 (by rw [hc]; simp; omega)
 refine (compact_DCalls compactLays ht a1 a3 a4 (List.length_pos_iff.2 h0) (by omega)).mono ?_
 rintro r s' ⟨rfl, rfl⟩
 have := ho.sub (lo := 0) (hi := (cpt l).length) (by omega) (by rw [hc]; simp)
 rw [hc] at this ⊢
 refine ⟨_, rfl, ?_⟩
 have e : ((((cpt l ++ List.replicate (l.length - (cpt l).length) 0).map Go.Fw.encI).drop 0).take ((cpt l).length - 0)) = (cpt l).map Go.Fw.encI := by
   rw [List.drop_zero, Nat.sub_zero, List.map_append, List.take_append_of_le_length (by simp), List.take_of_length_le (by simp)]
 rw [e] at this
 exact this
def RtsNz : D → Prop
 | .sl _ rows => ∀ row ∈ rows, row[4]? ≠ some .zsl
 | _ => True
theorem nz_over {c4 : D} {rows : List (List D)} (hz : RtsNz c4) (hat : ∀ s, At Tryz.prog s t_Route c4 rows) {i : Nat} {row : List D} (hr : rows[i]? = some row) : row[4]? ≠ some .zsl := by
 have hx := (hat (fun _ => .free)).rows
 cases c4 <;> simp only [Go.Fw.Rows] at hx <;> try exact hx.elim
 · subst hx; simp at hr
 · subst hx; simp at hr
 · obtain ⟨rfl, _⟩ := hx; exact hz _ (List.mem_of_getElem? hr)
 · obtain ⟨t, rows', h1, _⟩ := hx; cases h1
section
variable {c0 c1 c2 c3 c4 : D} {c : Cf} (h : ∀ s, CfAt s c0 c1 c2 c3 c4 c) (hok : c.check = 0) (hz : RtsNz c4)
include h hok hz
theorem conf_Locks_ok (i : Int) : DCalls Tryz.prog n_conf_Locks [cfA c0 c1 c2 c3 c4 c, iA i] σ (SlPost σ t_int ((c.lockL i).map Go.Fw.encI)) := by
 refine (W_conf_Locks _ _ _ _ _ _ _ _ _ i σ _ ?_).ret (Q := fun r s => ∃ r' σ', Ret Tryz.prog σ s r σ' r' ∧ SlPost σ t_int ((c.lockL i).map Go.Fw.encI) r' σ') (fun r s h => h)
 intro R hR
 have nil : geti c.Rts i = none → ∃ r' σ', Ret Tryz.prog σ σ (.a (.one .nils)) σ' r' ∧ SlPost σ t_int ((c.lockL i).map Go.Fw.encI) r' σ' := fun e => by
   have : c.lockL i = [] := by unfold Cf.lockL; rw [e]
   rw [this]; exact own_fin (.nil _ (.refl _)) (flatI _)
 obtain ⟨rows, hat, hlen⟩ := rts_len (h σ)
 refine bcd (fun e => nil (geti_neg e)) (fun e0 => hat.lenK (bcd (fun e => nil (geti_ge (by omega))) (fun e1 => hR σ ?_)))
 obtain ⟨x, hx⟩ := geti_ex (l := c.Rts) (i := i) e0 (by omega)
 clear hR nil hat
 have hr := check_rt hok (geti_mem hx)
 have hll : c.lockL i = Cf.lockR x := by unfold Cf.lockL; rw [hx]
 rw [hll]
 obtain ⟨rows, d1, d2, d3, hat, hlen, hrow, q1, q2, q3⟩ := rt_frz h (geti_some hx).2.2
 have w1 := hr.len
 have w2 := hr.flen
 have w3 := hr.olen
 refine (hat σ).load hrow c_Route (by omega) ⟨_, _, _, _, _, _, rfl, (Clone_int_ok (q3 σ) ?_ (by rw [List.length_map]; omega)).mono ?_⟩
 · exact fun e => nz_over hz hat hrow (by rw [e]; rfl)
 rintro r s ⟨d, rfl, ho⟩
 refine ⟨d, rfl, (q1 σ).lenK ⟨fun d n s' => ∃ j : Nat, n = j ∧ j ≤ x.Path.length ∧ Own Tryz.prog σ s' t_int d ((x.Overlap ++ (x.Path.take j).map St.Sec).map Go.Fw.encI), fun _ n _ => x.Path.length - n.toNat, ⟨0, rfl, by omega, by simpa using ho⟩, ?_⟩⟩
 rintro d n s' ⟨j, rfl, hj, ho⟩
 rw [List.length_map]
 refine bcd (fun hlt => ?_) (fun hge => ?_)
 · obtain ⟨y, hy⟩ := get_of_lt (l := x.Path) (j := j) (by omega)
   refine (q1 s').load (map_get hy) c_Step rfl ⟨y.Sec, y.In, y.Out, rfl, newObj_intro fun id s2 hid _ he hs2 => ?_⟩
   refine (ho.ext' he).append (At.fresh hs2 (by simp) rfl) (by simp; omega) (by simp; omega) fun d4 s5 ho5 _ _ => ?_
   rw [w64_succ (by omega)]
   refine ⟨rfl, ⟨j + 1, rfl, by omega, ?_⟩, dec_lt (by omega)⟩
   have e : x.Overlap ++ (x.Path.take (j + 1)).map St.Sec = (x.Overlap ++ (x.Path.take j).map St.Sec) ++ [y.Sec] := by rw [List.take_add_one, hy]; simp
   rw [e, List.map_append]; exact ho5
 have e : j = x.Path.length := by omega
 rw [e, List.take_length] at ho
 refine (q2 s').lenK ⟨fun d n s' => ∃ j : Nat, n = j ∧ j ≤ x.Flank.length ∧ Own Tryz.prog σ s' t_int d ((x.Overlap ++ x.Path.map St.Sec ++ (x.Flank.take j).map Nd.Sec).map Go.Fw.encI), fun _ n _ => x.Flank.length - n.toNat, ⟨0, rfl, by omega, by simpa using ho⟩, ?_⟩
 rintro d n s' ⟨j, rfl, hj, ho⟩
 rw [List.length_map]
 refine bcd (fun hlt => ?_) (fun hge => ?_)
 · obtain ⟨y, hy⟩ := get_of_lt (l := x.Flank) (j := j) (by omega)
   refine (q2 s').load (map_get hy) c_Need rfl ⟨y.Sec, y.Pos, rfl, newObj_intro fun id s2 hid _ he hs2 => ?_⟩
   refine (ho.ext' he).append (At.fresh hs2 (by simp) rfl) (by simp; omega) (by simp; omega) fun d4 s5 ho5 _ _ => ?_
   rw [w64_succ (by omega)]
   refine ⟨⟨j + 1, rfl, by omega, ?_⟩, dec_lt (by omega)⟩
   have e : x.Overlap ++ x.Path.map St.Sec ++ (x.Flank.take (j + 1)).map Nd.Sec = (x.Overlap ++ x.Path.map St.Sec ++ (x.Flank.take j).map Nd.Sec) ++ [y.Sec] := by rw [List.take_add_one, hy]; simp
   rw [e, List.map_append]; exact ho5
 have e : j = x.Flank.length := by omega
 rw [e, List.take_length] at ho
 have hne : x.Overlap ++ x.Path.map St.Sec ++ x.Flank.map Nd.Sec ≠ [] := by
   intro e
   have := congrArg List.length e
   simp only [List.length_append, List.length_map, List.length_nil] at this; omega
 refine (Sort_int_ok ho hne).mono ?_
 rintro r s2 ⟨rfl, ho⟩
 refine ⟨rfl, (Compact_int_ok ho (fun e => hne (by
   have := congrArg List.length e
   simp only [sorted, List.length_mergeSort] at this
   exact List.length_eq_zero_iff.1 this)) (sorted_pair _)).mono ?_⟩
 rintro r s3 ⟨d', rfl, ho⟩
 exact ⟨d', rfl, own_fin ho (flatI _)⟩
end
end
section
variable {σ σ0 : Store}
def cfC (c0 c1 c2 c3 c4 : D) (c : Cf) : List D := [c0, c1, c2, c3, c4, iD c.Age, iD c.Brake, iD c.Hold, iD c.Budget]
theorem CoOwn.from {σ1 s : Store} {d0 d1 d2 d3 d4 d5 : D} {k : Co} (he : Ext σ σ1) (h : CoOwn σ1 s d0 d1 d2 d3 d4 d5 k) : CoOwn σ s d0 d1 d2 d3 d4 d5 k :=
 ⟨h.own.from he, h.routes.from he, h.points.from he, h.xs.from he, h.lines.from he, h.resets.from he, h.apart⟩
theorem CoAt.ext' {s : Store} {d0 d1 d2 d3 d4 d5 : D} {k : Co} (h : CoAt σ d0 d1 d2 d3 d4 d5 k) (he : Ext σ s) : CoAt s d0 d1 d2 d3 d4 d5 k :=
 ⟨h.own.ext he, h.routes.ext he, h.points.ext he, h.xs.ext he, h.lines.ext he, h.resets.ext he⟩
theorem locks_open_ok {c0 c1 c2 c3 c4 : D} {c : Cf} (hc : ∀ s, CfAt s c0 c1 c2 c3 c4 c) {k0 k1 k2 k3 k4 k5 : D} {k : Co} (h : CoAt σ k0 k1 k2 k3 k4 k5 k) (hf : CoFit k0 k1 k2 k3 k4 k5 k) :
   DCalls Tryz.prog n_locks_open [cfA c0 c1 c2 c3 c4 c, coA k0 k1 k2 k3 k4 k5 k.Dirty] σ fun r s =>
     ∃ id d0 d1 d2 d3 d4 d5, r = .tup [.one (.el (.osl id 0 1) 0 0), bA (k.fits c)] ∧ CoIn σ s id t_locks_desk (cfC c0 c1 c2 c3 c4 c) [] d0 d1 d2 d3 d4 d5 k := by
 refine W_locks_open _ _ _ _ _ _ _ _ _ k0 k1 k2 k3 k4 k5 k.Dirty σ _ (newObj_intro fun id a0 hid _ e0 q0 => ?_)
 have nid : ∀ {s0 s : Store} {el : TypeId} {d : D} {rs : List (List D)}, Own Tryz.prog s0 s el d rs → s0 id ≠ .free → idOf d ≠ some id := by
   intro s0 s el d rs ho hne he
   cases d with
   | osl i a n =>
     have : i = id := by simpa [idOf] using he
     subst this
     exact hne (ho.new _ _ _ rfl)
   | _ => simp [idOf] at he
 have n0 : a0 id ≠ .free := by rw [q0]; intro e; cases e
 refine (Clone_int_ok (h.own.ext e0) hf.n0 (by rw [List.length_map]; exact hf.b0)).mono ?_
 rintro r b0 ⟨d0, rfl, o0⟩
 refine ⟨d0, rfl, cell_store ((o0.ext id n0).trans q0) (by simp [patch]) fun a1 q1 f0 => ?_⟩
 have i0 := nid o0 n0
 have p0 := own_other (o0.from e0) hid i0 f0
 have e1 := p0.ext
 have n1 : a1 id ≠ .free := by rw [q1]; intro e; cases e
 refine (Clone_RouteState_ok (h.routes.ext e1) hf.n1 (by rw [List.length_map]; exact hf.b1)).mono ?_
 rintro r b1 ⟨d1, rfl, o1⟩
 refine ⟨d1, rfl, cell_store ((o1.ext id n1).trans q1) (by simp [patch]) fun a2 q2 f1 => ?_⟩
 have i1 := nid o1 n1
 have ap01 := o1.apart p0.at_
 have p0 := own_other (p0.ext' o1.ext) hid i0 f1
 have p1 := own_other (o1.from e1) hid i1 f1
 have e2 := p1.ext
 have n2 : a2 id ≠ .free := by rw [q2]; intro e; cases e
 refine (Clone_Mover_ok (h.points.ext e2) hf.n2 (by rw [List.length_map]; exact hf.b2)).mono ?_
 rintro r b2 ⟨d2, rfl, o2⟩
 refine ⟨d2, rfl, cell_store ((o2.ext id n2).trans q2) (by simp [patch]) fun a3 q3 f2 => ?_⟩
 have i2 := nid o2 n2
 have ap02 := o2.apart p0.at_
 have ap12 := o2.apart p1.at_
 have p0 := own_other (p0.ext' o2.ext) hid i0 f2
 have p1 := own_other (p1.ext' o2.ext) hid i1 f2
 have p2 := own_other (o2.from e2) hid i2 f2
 have e3 := p2.ext
 have n3 : a3 id ≠ .free := by rw [q3]; intro e; cases e
 refine (Clone_Mover_ok (h.xs.ext e3) hf.n3 (by rw [List.length_map]; exact hf.b3)).mono ?_
 rintro r b3 ⟨d3, rfl, o3⟩
 refine ⟨d3, rfl, cell_store ((o3.ext id n3).trans q3) (by simp [patch]) fun a4 q4 f3 => ?_⟩
 have i3 := nid o3 n3
 have ap03 := o3.apart p0.at_
 have ap13 := o3.apart p1.at_
 have ap23 := o3.apart p2.at_
 have p0 := own_other (p0.ext' o3.ext) hid i0 f3
 have p1 := own_other (p1.ext' o3.ext) hid i1 f3
 have p2 := own_other (p2.ext' o3.ext) hid i2 f3
 have p3 := own_other (o3.from e3) hid i3 f3
 have e4 := p3.ext
 have n4 : a4 id ≠ .free := by rw [q4]; intro e; cases e
 refine (Clone_LineState_ok (h.lines.ext e4) hf.n4 (by rw [List.length_map]; exact hf.b4)).mono ?_
 rintro r b4 ⟨d4, rfl, o4⟩
 refine ⟨d4, rfl, cell_store ((o4.ext id n4).trans q4) (by simp [patch]) fun a5 q5 f4 => ?_⟩
 have i4 := nid o4 n4
 have ap04 := o4.apart p0.at_
 have ap14 := o4.apart p1.at_
 have ap24 := o4.apart p2.at_
 have ap34 := o4.apart p3.at_
 have p0 := own_other (p0.ext' o4.ext) hid i0 f4
 have p1 := own_other (p1.ext' o4.ext) hid i1 f4
 have p2 := own_other (p2.ext' o4.ext) hid i2 f4
 have p3 := own_other (p3.ext' o4.ext) hid i3 f4
 have p4 := own_other (o4.from e4) hid i4 f4
 have e5 := p4.ext
 have n5 : a5 id ≠ .free := by rw [q5]; intro e; cases e
 refine (Clone_int_ok (h.resets.ext e5) hf.n5 (by rw [List.length_map]; exact hf.b5)).mono ?_
 rintro r b5 ⟨d5, rfl, o5⟩
 refine ⟨d5, rfl, cell_store ((o5.ext id n5).trans q5) (by simp [patch]) fun a6 q6 f5 => ?_⟩
 have i5 := nid o5 n5
 have ap05 := o5.apart p0.at_
 have ap15 := o5.apart p1.at_
 have ap25 := o5.apart p2.at_
 have ap35 := o5.apart p3.at_
 have ap45 := o5.apart p4.at_
 have p0 := own_other (p0.ext' o5.ext) hid i0 f5
 have p1 := own_other (p1.ext' o5.ext) hid i1 f5
 have p2 := own_other (p2.ext' o5.ext) hid i2 f5
 have p3 := own_other (p3.ext' o5.ext) hid i3 f5
 have p4 := own_other (p4.ext' o5.ext) hid i4 f5
 have p5 := own_other (o5.from e5) hid i5 f5
 have e6 := p5.ext
 have n6 : a6 id ≠ .free := by rw [q6]; intro e; cases e
 refine (locks_Fits_ok hc (h.ext' e6)).use ⟨_, rfl, id, d0, d1, d2, d3, d4, d5, rfl, hid, q6, ⟨p0, p1, p2, p3, p4, p5, ?_⟩, ?_⟩
 · simp only [List.pairwise_cons, List.mem_cons, List.not_mem_nil, or_false, forall_eq_or_imp, forall_eq, List.Pairwise.nil, and_true, false_imp_iff, implies_true]
   exact ⟨⟨ap01, ap02, ap03, ap04, ap05⟩, ⟨ap12, ap13, ap14, ap15⟩, ⟨ap23, ap24, ap25⟩, ⟨ap34, ap35⟩, ap45⟩
 · intro d hd
   simp only [List.mem_cons, List.not_mem_nil, or_false] at hd
   rcases hd with rfl | rfl | rfl | rfl | rfl | rfl <;> assumption
end
section
variable {σ σ0 : Store}
section
variable {c0 c1 c2 c3 c4 : D} {c : Cf} (hc : ∀ s, CfAt s c0 c1 c2 c3 c4 c)
def Does (σ0 : Store) (c0 c1 c2 c3 c4 : D) (c : Cf) (k : Co) (f : FuncId) (bs : List A) (E : Int) (Y : Co) (s : Store) : Prop :=
 ∀ id d0 d1 d2 d3 d4 d5 s1, Ext s s1 → CoIn σ0 s1 id t_locks_desk (cfC c0 c1 c2 c3 c4 c) [] d0 d1 d2 d3 d4 d5 k →
   DCalls Tryz.prog f ([] ++ [.one (.el (.osl id 0 1) 0 0)] ++ bs) s1 fun r s' => r = .a (iA E) ∧ Ext σ0 s' ∧ (E = 0 → CoIn σ0 s' id t_locks_desk (cfC c0 c1 c2 c3 c4 c) [] d0 d1 d2 d3 d4 d5 Y)
include hc
theorem locks_change_ok {k0 k1 k2 k3 k4 k5 : D} {k Y : Co} {E : Int} {f : FuncId} {b : List (Bool × List D)} {bs : List A} (h : CoAt σ k0 k1 k2 k3 k4 k5 k) (hf : CoFit k0 k1 k2 k3 k4 k5 k) (now : Int) (hb : capAs b = some bs)
   (hd : k.fits c = true → tm 0 now = true → Does σ c0 c1 c2 c3 c4 c k f bs E Y σ) :
   DCalls Tryz.prog n_locks_change [cfA c0 c1 c2 c3 c4 c, coA k0 k1 k2 k3 k4 k5 k.Dirty, iA now, .one (.fn f [] b)] σ (CoPost σ (k.done (k.gate c now E) Y)) := by
 refine W_locks_change _ _ _ _ _ _ _ _ _ k0 k1 k2 k3 k4 k5 k.Dirty now _ σ _ ((locks_open_ok hc h hf).mono ?_)
 rintro r s1 ⟨id, d0, d1, d2, d3, d4, d5, rfl, hI⟩
 refine ⟨_, _, rfl, ?_⟩
 intro R hR
 have bad : ∀ (e : Int) s, Ext σ s → e ≠ 0 → k.gate c now E = e → R e s := fun e s he hne hg => by
   refine hR e s ?_
   rw [show (e != 0) = true by simpa using hne]
   refine (locks_open_ok hc (h.ext' he) hf).mono ?_
   rintro r s2 ⟨id, d0, d1, d2, d3, d4, d5, rfl, hI2⟩
   refine ⟨_, _, rfl, trivial, _, _, _, rfl, _, box_row hI2.row, d0, d1, d2, d3, d4, d5, k.Dirty, rfl, ?_⟩
   rw [Co.done, hg, if_neg hne]
   exact ⟨d0, d1, d2, d3, d4, d5, rfl, hI2.co.from he⟩
 refine bcnot (fun e1 => ⟨rfl, bad 21 s1 hI.ext (by decide) (by rw [Co.gate, if_pos e1])⟩) (fun e1 => ?_)
 have hg1 : k.gate c now E = if tm 0 now = false then 32 else E := by rw [Co.gate, if_neg (by rw [e1]; decide)]
 refine newObj_intro fun id2 s2 hid2 _ he2 hs2 => ?_
 have hat : At Tryz.prog s2 t_int (.osl id2 0 1) ([now].map Go.Fw.encI) := At.fresh hs2 (by simp) rfl
 refine (locks_times_ok 0 (by omega) hat).use ⟨_, rfl, ?_⟩
 have ht : ([now].all fun n => decide (0 ≤ n ∧ n ≤ 4294967295 + 0)) = tm 0 now := by simp [tm]
 rw [ht]
 refine bcnot (fun e2 => ⟨rfl, bad 32 s2 (hI.ext.trans he2) (by decide) (by rw [hg1, if_pos e2])⟩) (fun e2 => ?_)
 rw [if_neg (by rw [e2]; decide)] at hg1
 have hI2 : CoIn σ s2 id t_locks_desk (cfC c0 c1 c2 c3 c4 c) [] d0 d1 d2 d3 d4 d5 k :=
   ⟨hI.new, (he2 id (by rw [hI.row]; intro e; cases e)).trans hI.row, ⟨hI.co.own.ext' he2, hI.co.routes.ext' he2, hI.co.points.ext' he2, hI.co.xs.ext' he2, hI.co.lines.ext' he2, hI.co.resets.ext' he2, hI.co.apart⟩, hI.ids⟩
 refine ⟨f, [], b, [], bs, rfl, rfl, hb, (hd e1 e2 id d0 d1 d2 d3 d4 d5 s2 (hI.ext.trans he2) hI2).mono ?_⟩
 rintro r s3 ⟨rfl, he3, hy⟩
 refine ⟨E, rfl, rfl, ?_⟩
 by_cases hE : E = 0
 · subst hE
   have hI3 := hy rfl
   refine hR 0 s3 ?_
   refine ⟨trivial, _, _, _, rfl, _, box_row hI3.row, d0, d1, d2, d3, d4, d5, Y.Dirty, rfl, ?_⟩
   rw [Co.done, hg1, if_pos rfl]
   exact ⟨d0, d1, d2, d3, d4, d5, rfl, hI3.co⟩
 · exact bad E s3 he3 hE hg1
omit hc
variable {id : Nat} {t : TypeId} {d0 d1 d2 d3 d4 d5 : D} {k : Co}
theorem desk_state_ok (hI : CoIn σ0 σ id t (cfC c0 c1 c2 c3 c4 c) [] d0 d1 d2 d3 d4 d5 k) (r : Int) :
   Pure Tryz.prog n_locks_desk_state [.one (.el (.osl id 0 1) 0 0), iA r] σ (match geti k.Routes r with | none => .tup [.one .nilp, iA 20] | some _ => .tup [.one (.el d1 r.toNat 0), iA 0]) := by
 have hs := hI.at.routes.size
 rw [List.length_map] at hs
 refine W_locks_desk_state _ r σ _ ⟨trivial, _, _, _, rfl, _, box_row hI.row, d1, rfl, hI.at.routes.lenK ((locks_between_ok _ _ _).use ⟨_, rfl, ?_⟩)⟩
 rw [List.length_map, w64_id (by omega) (by omega)]
 refine bcnot (fun e => ?_) (fun e => ?_)
 · have e := of_decide_eq_false e
   have : geti k.Routes r = none := by
     by_cases h0 : r < 0
     · exact geti_neg h0
     · exact geti_ge (by omega)
   rw [this]; exact ⟨rfl, rfl⟩
 · have e := of_decide_eq_true e
   obtain ⟨x, hx⟩ := geti_ex (l := k.Routes) (i := r) (by omega) (by omega)
   rw [hx]
   refine ⟨trivial, _, _, _, rfl, _, box_row hI.row, d1, rfl, hI.at.routes.idxK c_RouteState (Int.toNat_of_nonneg e.1).symm (by rw [List.length_map]; omega) ⟨rfl, rfl⟩⟩
include hc
theorem desk_inherits_ok (hI : CoIn σ0 σ id t (cfC c0 c1 c2 c3 c4 c) [] d0 d1 d2 d3 d4 d5 k) {r s o : Int} (ho : geti k.Own s = some o) (hlo : -2 ≤ o ∧ o ≤ c.Rts.length) (hr : 0 ≤ r ∧ r < c.Rts.length) :
   Pure Tryz.prog n_locks_desk_inherits [.one (.el (.osl id 0 1) 0 0), iA r, iA s] σ (.a (bA (k.inh c r s))) := by
 obtain ⟨g1, g2, g3⟩ := geti_some ho
 have w : w64 (o - 1) = o - 1 := w64_id (by omega) (by have := (rts_len (hc σ)); obtain ⟨rows, ha, hl⟩ := this; have := ha.size; omega)
 have hi : k.inh c r s = (decide (0 ≤ o - 1 ∧ o - 1 ≠ r) && (decide ((c.rt (o - 1)).Exit = (c.rt r).Entry) && inL (c.rt (o - 1)).Overlap s)) := by
   unfold Co.inh; rw [ho]; rfl
 have no : ¬ (0 ≤ o - 1 ∧ o - 1 ≠ r) → k.inh c r s = false := fun e => by rw [hi, decide_eq_false e]; rfl
 refine W_locks_desk_inherits _ r s σ _ ⟨trivial, _, _, _, rfl, _, box_row hI.row, d0, rfl, hI.at.own.load (map_get g3) c_int (Int.toNat_of_nonneg g1).symm ⟨o, rfl, ?_⟩⟩
 rw [w]
 refine bcd (fun e => by rw [no (by omega)]; exact ⟨rfl, rfl⟩) (fun e1 => bce (fun e => by rw [no (by omega)]; exact ⟨rfl, rfl⟩) (fun e2 => ?_))
 obtain ⟨q, hq⟩ := geti_ex (l := c.Rts) (i := o - 1) e1 (by omega)
 obtain ⟨x, hx⟩ := geti_ex (l := c.Rts) (i := r) (by omega) (by omega)
 obtain ⟨rows, q1, q2, q3, hat, hlen, hrow, f1, f2, f3⟩ := rt_frz hc (geti_some hq).2.2
 obtain ⟨rows', x1, x2, x3, hat', hlen', hrow', _, _, _⟩ := rt_frz hc (geti_some hx).2.2
 rw [hi, decide_eq_true (by omega), rt_some hq, rt_some hx, Bool.true_and]
 refine ⟨trivial, _, _, _, rfl, _, box_row hI.row, c4, rfl, (hat σ).load hrow c_Route (by omega) ⟨_, _, _, _, _, _, rfl, trivial, _, _, _, rfl, _, box_row hI.row, c4, rfl, (hat' σ).load hrow' c_Route (by omega) ⟨x.Entry, rfl, bce (fun e => ?_) (fun e => ?_)⟩⟩⟩
 · exact (Contains_int_ok s (f3 σ)).use ⟨_, rfl, by rw [decide_eq_true e]; exact ⟨rfl, rfl⟩⟩
 · rw [decide_eq_false e]; exact ⟨rfl, rfl⟩
theorem desk_may_ok' (hI : CoIn σ0 σ id t (cfC c0 c1 c2 c3 c4 c) [] d0 d1 d2 d3 d4 d5 k) {r : Int} {ds : D} {l : List Int} (hl : At Tryz.prog σ t_int ds (l.map Go.Fw.encI)) (hr : 0 ≤ r ∧ r < c.Rts.length)
   (hin : ∀ s ∈ l, ∃ o, geti k.Own s = some o) (hlo : ∀ o ∈ k.Own, -2 ≤ o ∧ o ≤ c.Rts.length) :
   Pure Tryz.prog n_locks_desk_may [.one (.el (.osl id 0 1) 0 0), iA r, .one ds] σ (.a (iA (k.may c r l))) := by
 have hs := hI.at.routes.size
 rw [List.length_map] at hs
 have hls := hl.size
 rw [List.length_map] at hls
 refine W_locks_desk_may _ r _ σ _ ⟨trivial, _, _, _, rfl, _, box_row hI.row, d1, rfl, hI.at.routes.lenK ⟨fun n s => s = σ ∧ Rng k.Routes (fun q => apprS c l q n.toNat = apprS c l k.Routes 0) n, fun n _ => k.Routes.length - n.toNat, ⟨rfl, .start rfl⟩, ?_⟩⟩
 rintro n s ⟨rfl, hq⟩
 rw [List.length_map]
 refine bcd (fun hlt => ?_) (fun hge => ?_)
 · obtain ⟨j, x, rfl, hx, hj, hF, nx⟩ := hq.step rfl (by omega) hlt
   rw [apprS, Int.toNat_natCast] at hF
   have next : (decide (x.State ≠ 0) && inL l (c.Approach j)) = false → (s = s ∧ Rng k.Routes (fun q => apprS c l q (w64 ((j : Int) + 1)).toNat = apprS c l k.Routes 0) (w64 ((j : Int) + 1))) ∧ k.Routes.length - (w64 ((j : Int) + 1)).toNat < k.Routes.length - (j : Int).toNat := fun e => by
     rw [e, Bool.false_or] at hF
     exact andl rfl (nx _ (by rw [w64_succ (by omega), Int.toNat_natCast]; exact hF))
   refine hI.at.routes.load (map_get hx) c_RouteState rfl ⟨x.State, x.Since, x.Next, x.Mark, rfl, bcn (fun e => ?_) (fun e => next (by rw [decide_eq_false (by simpa using e)]; rfl))⟩
   refine ⟨trivial, _, _, _, rfl, _, box_row hI.row, c0, c1, c2, c3, c4, _, _, _, _, rfl, (conf_Approach_ok (hc s) j).use ⟨_, rfl, (Contains_int_ok _ hl).use ⟨_, rfl, bc (fun e2 => ?_) (fun e2 => next (by rw [e2, Bool.and_false]))⟩⟩⟩
   have : apprS c l k.Routes 0 = true := by rw [← hF, e2, decide_eq_true e]; rfl
   rw [Co.may, if_pos this]; exact ⟨rfl, rfl⟩
 · have hF := hq.done rfl hge
   have hap : apprS c l k.Routes 0 = false := by rw [← hF]; rfl
   have hm : k.may c r l = if k.blocked c r l = true then 22 else 0 := by rw [Co.may, if_neg (by rw [hap]; decide)]
   rw [hm]
   refine hl.lenK ⟨fun n s' => s' = s ∧ Rng l (fun q => k.blocked c r q = k.blocked c r l) n, fun n _ => l.length - n.toNat, ⟨rfl, .start rfl⟩, ?_⟩
   rintro n s' ⟨rfl, hq⟩
   rw [List.length_map]
   refine bcd (fun hlt => ?_) (fun hge => ?_)
   · obtain ⟨j, v, rfl, hv, hj, hF, nx⟩ := hq.step rfl (by omega) hlt
     obtain ⟨o, ho⟩ := hin v (List.mem_of_getElem? hv)
     obtain ⟨g1, g2, g3⟩ := geti_some ho
     have hF : ((decide ((geti k.Own v).getD 0 ≠ 0) && !k.inh c r v) || k.blocked c r (l.drop (j + 1))) = k.blocked c r l := hF
     rw [ho, Option.getD_some] at hF
     refine hl.load (map_get hv) c_int rfl ⟨v, rfl, trivial, _, _, _, rfl, _, box_row hI.row, d0, rfl, hI.at.own.load (map_get g3) c_int (Int.toNat_of_nonneg g1).symm ⟨o, rfl, bcn (fun e => ?_) (fun e => ?_)⟩⟩
     · refine (desk_inherits_ok hc hI ho (hlo o (geti_mem ho)) hr).use ⟨_, rfl, bcnot (fun e2 => ?_) (fun e2 => ?_)⟩
       · rw [e2, decide_eq_true e] at hF
         rw [if_pos (by rw [← hF]; rfl)]; exact ⟨rfl, rfl⟩
       · rw [e2, Bool.not_true, Bool.and_false, Bool.false_or] at hF
         exact andl rfl (nx _ hF)
     · rw [decide_eq_false (by simpa using e), Bool.false_and, Bool.false_or] at hF
       exact andl rfl (nx _ hF)
   · have hF := hq.done rfl hge
     rw [if_neg (by rw [← hF]; show ¬ (false = true); decide)]; exact ⟨rfl, rfl⟩
end
end
section
variable {σ σ0 : Store}
def cmdPre (xs : List A) (s : Store) : Prop := ∃ (m : Mv) (now cmd : Int), xs = [.agg m.enc, iA now, iA cmd]
def cmdPost (xs : List A) (s : Store) (r : RV) (s' : Store) : Prop := ∃ (m : Mv) (now cmd : Int), xs = [.agg m.enc, iA now, iA cmd] ∧ r = .a (.agg (cmdM m now cmd).enc) ∧ s' = s
theorem mover_Command_ok (m : Mv) (now cmd : Int) : Pure Tryz.prog n_mover_Command [.agg m.enc, iA now, iA cmd] σ (.a (.agg (cmdM m now cmd).enc)) :=
 W_mover_Command m.Cmd m.Other now cmd σ _ (bcn (fun e => ⟨by rw [cmdM, if_pos e]; rfl, rfl⟩) (fun e => ⟨by rw [cmdM, if_neg (by simpa using e)]; rfl, rfl⟩))
theorem cmd_spec : SpecOk Tryz.prog n_mover_Command cmdPre cmdPost := by
 refine ⟨?_, ?_, ?_, ?_, ?_⟩
 · rintro xs s ⟨m, now, cmd, rfl⟩
   exact (mover_Command_ok m now cmd).use ⟨m, now, cmd, rfl, rfl, rfl⟩
 · rintro xs s ⟨m, now, cmd, rfl⟩ hf
   exact ⟨_, s, ⟨m, now, cmd, rfl, rfl, rfl⟩, hf⟩
 · rintro xs s r s' ⟨m, now, cmd, rfl, rfl, rfl⟩ hf
   exact hf
 · rintro xs s id so hid hso ⟨m, now, cmd, rfl⟩
   refine ⟨⟨m, now, cmd, rfl⟩, ?_⟩
   rintro r s' ⟨m, now, cmd, e, rfl, rfl⟩
   exact ⟨s, ⟨m, now, cmd, e, rfl, rfl⟩, hid, rfl⟩
 · rintro xs s r s' _ ⟨m, now, cmd, rfl, rfl, rfl⟩ i _
   rfl
theorem cmd_post {m : Mv} {now cmd : Int} {s s' : Store} {r : RV} (h : cmdPost [.agg m.enc, iA now, iA cmd] s r s') : r = .a (.agg (cmdM m now cmd).enc) ∧ s' = s := by
 obtain ⟨m', now', cmd', e, h1, h2⟩ := h
 injection e with e1 e2
 injection e2 with e2 e3
 injection e3 with e3 _
 injection e1 with e1
 injection e2 with e2
 injection e3 with e3
 injection e2 with _ e2
 injection e3 with _ e3
 subst e2 e3
 have : m = m' := by
   cases m; cases m'
   simp [Mv.enc, iD] at e1
   simp [e1]
 subst this
 exact ⟨h1, h2⟩
section
variable {c0 c1 c2 c3 c4 : D} {c : Cf} (hc : ∀ s, CfAt s c0 c1 c2 c3 c4 c) {id : Nat} {t : TypeId} {d0 d1 d2 d3 d4 d5 : D} {k : Co}
include hc
theorem desk_line_ok' (hI : CoIn σ0 σ id t (cfC c0 c1 c2 c3 c4 c) [] d0 d1 d2 d3 d4 d5 k) (hok : c.check = 0) (hl4 : k.Lines.length = 4) {r : Int} {x : Rt} (hx : geti c.Rts r = some x) :
   Pure Tryz.prog n_locks_desk_line [.one (.el (.osl id 0 1) 0 0), iA r] σ (.a (.one (if lineF c x.Path > 0 then .el d4 (lineF c x.Path).toNat 0 else .nilp))) := by
 have hr := check_rt hok (geti_mem hx)
 obtain ⟨rows, q1, q2, q3, hat, hlen, hrow, f1, f2, f3⟩ := rt_frz hc (geti_some hx).2.2
 have hg := geti_some hx
 have w1 := hr.len
 refine W_locks_desk_line _ r σ _ ⟨trivial, _, _, _, rfl, _, box_row hI.row, c4, rfl, (hat σ).load hrow c_Route (by omega) ⟨q1, rfl, (f1 σ).lenK ⟨fun n s => s = σ ∧ Rng x.Path (fun q => lineF c q = lineF c x.Path) n, fun n _ => x.Path.length - n.toNat, ⟨rfl, .start rfl⟩, ?_⟩⟩⟩
 rintro n s ⟨rfl, hq⟩
 rw [List.length_map]
 refine bcd (fun hlt => ?_) (fun hge => ?_)
 · obtain ⟨j, y, rfl, hy, hj, hF, nx⟩ := hq.step rfl (by omega) hlt
   obtain ⟨z, hz, _⟩ := (hr.step y (List.mem_of_getElem? hy)).1.sec
   have hgz := geti_some hz
   rw [lineF, hz, Option.getD_some] at hF
   refine (f1 s).load (map_get hy) c_Step rfl ⟨y.Sec, y.In, y.Out, rfl, trivial, _, _, _, rfl, _, box_row hI.row, c0, rfl, (hc s).secs.load (map_get hgz.2.2) c_Section (Int.toNat_of_nonneg hgz.1).symm ⟨z.Line, rfl, bcd (fun e => ?_) (fun e => ?_)⟩⟩
   · rw [if_pos e] at hF
     rw [← hF, if_pos e]
     have hz3 := topo_line (check_parts hok).1 hgz.2.2
     exact ⟨trivial, _, _, _, rfl, _, box_row hI.row, d4, rfl, hI.at.lines.idxK c_LineState (Int.toNat_of_nonneg (by omega)).symm (by rw [List.length_map]; omega) ⟨rfl, rfl⟩⟩
   · rw [if_neg e] at hF
     exact andl rfl (nx _ hF)
 · have hF := hq.done rfl hge
   rw [← hF]; exact ⟨rfl, rfl⟩
theorem desk_request_ok (hI : CoIn σ0 σ id t (cfC c0 c1 c2 c3 c4 c) [] d0 d1 d2 d3 d4 d5 k) (hz : RtsNz c4) (hfit : k.fits c = true) (now r : Int) :
   DCalls Tryz.prog n_locks_desk_request [.one (.el (.osl id 0 1) 0 0), iA now, iA r] σ fun q s' => q = .a (iA (k.reqE c r)) ∧ Ext σ0 s' ∧ (k.reqE c r = 0 → CoIn σ0 s' id t (cfC c0 c1 c2 c3 c4 c) [] d0 d1 d2 d3 d4 d5 (k.lockC c now r)) := by
 have hfi := fits_iff.1 hfit
 have hok := hfi.chk
 have err : ∀ e : Int, k.reqE c r = e → e ≠ 0 → (RV.a (iA e) = RV.a (iA (k.reqE c r)) ∧ Ext σ0 σ ∧ (k.reqE c r = 0 → CoIn σ0 σ id t (cfC c0 c1 c2 c3 c4 c) [] d0 d1 d2 d3 d4 d5 (k.lockC c now r))) := fun e h1 h2 =>
   ⟨by rw [h1], hI.ext, fun h3 => absurd (h1.symm.trans h3) h2⟩
 refine W_locks_desk_request _ now r σ _ ((desk_state_ok hI r).use ?_)
 cases hgr : geti k.Routes r with
 | none => exact ⟨_, _, rfl, err 20 (by rw [Co.reqE, hgr]) (by decide)⟩
 | some x =>
   have hgx := geti_some hgr
   have hsz := hI.at.routes.size
   rw [List.length_map] at hsz
   have hxl := (List.getElem?_eq_some_iff.1 hgx.2.2).1
   have hE : k.reqE c r = if x.State ≠ 0 then 28 else if k.may c r (c.lockL r) ≠ 0 then k.may c r (c.lockL r) else if lineF c (c.rt r).Path > 0 ∧ ((geti k.Lines (lineF c (c.rt r).Path)).getD zLs).Ask ≥ 4294967295 then 5 else 0 := by
     rw [Co.reqE, hgr]
   obtain ⟨y, hy, hym⟩ := rt_of hfi hgr
   have hrok := check_rt hok hym
   have hyl := (List.getElem?_eq_some_iff.1 (geti_some hy).2.2).1
   have hcl : c.Rts.length = k.Routes.length := hfi.lRts.symm
   have hll : c.lockL r = Cf.lockR y := by unfold Cf.lockL; rw [hy]
   have hsec : ∀ s ∈ c.lockL r, ∃ z, geti c.Secs s = some z := fun s hs => lockR_sec hrok (by rw [← hll]; exact hs)
   refine ⟨_, _, rfl, ?_⟩
   show bcase ((0 : Int) != 0) _ _
   rw [show ((0 : Int) != 0) = false from by decide]
   refine ⟨trivial, _, _, _, rfl, _, hI.at.routes.row (map_get hgx.2.2), x.State, rfl, bcn (fun e => err 28 (by rw [hE, if_pos e]) (by decide)) (fun e1 => ?_)⟩
   rw [if_neg (by simpa using e1)] at hE
   refine ⟨trivial, _, _, _, rfl, _, box_row hI.row, c0, c1, c2, c3, c4, _, _, _, _, rfl, (conf_Locks_ok hc hok hz r).mono ?_⟩
   rintro q s ⟨rfl, d7, rfl, h7⟩
   have hin : ∀ v ∈ c.lockL r, ∃ o, geti k.Own v = some o := fun v hv => by
     obtain ⟨z, hz⟩ := hsec v hv
     have hg := geti_some hz
     have := (List.getElem?_eq_some_iff.1 hg.2.2).1
     exact geti_ex (by omega) (by have := hfi.lOwn; omega)
   refine ⟨d7, rfl, (desk_may_ok' hc hI (h7 s) (by omega) hin hfi.own).use ⟨_, rfl, bcn (fun e => err _ (by rw [hE, if_pos e]) e) (fun e2 => ?_)⟩⟩
   rw [if_neg (by simpa using e2), rt_some hy] at hE
   intro R hR
   have body : (lineF c y.Path > 0 → ((geti k.Lines (lineF c y.Path)).getD zLs).Ask < 4294967295) → ∀ s3, CoIn σ0 s3 id t (cfC c0 c1 c2 c3 c4 c) [] d0 d1 d2 d3 d4 d5 { k with Lines := askC (lineF c y.Path) k.Lines } → R s3 := by
     intro hask s3 hI3
     have hE0 : k.reqE c r = 0 := by rw [hE, if_neg (by intro h; have := hask h.1; omega)]
     refine hR s3 ?_
     have hz7 := (h7 s3).size
     rw [List.length_map] at hz7
     refine (h7 s3).lenK ⟨fun n s => ∃ j : Nat, n = j ∧ j ≤ (c.lockL r).length ∧ CoIn σ0 s id t (cfC c0 c1 c2 c3 c4 c) [] d0 d1 d2 d3 d4 d5 { k with Lines := askC (lineF c y.Path) k.Lines, Own := ((c.lockL r).take j).foldl (fun w s => w.set s.toNat (r + 1)) k.Own },
       fun n _ => (c.lockL r).length - n.toNat, ⟨0, rfl, by omega, by simpa using hI3⟩, ?_⟩
     rintro n s4 ⟨j, rfl, hj, hI4⟩
     rw [List.length_map]
     refine bcd (fun hlt => ?_) (fun hge => ?_)
     · obtain ⟨v, hv⟩ := get_of_lt (l := c.lockL r) (j := j) (by omega)
       obtain ⟨o, ho⟩ := hin v (List.mem_of_getElem? hv)
       have hgo := geti_some ho
       have hvl := (List.getElem?_eq_some_iff.1 hgo.2.2).1
       have hlo := ownC_len (r + 1) ((c.lockL r).take j) k.Own
       obtain ⟨o', ho'⟩ := get_of_lt (l := ((c.lockL r).take j).foldl (fun w s => w.set s.toNat (r + 1)) k.Own) (j := v.toNat) (by omega)
       refine (h7 s4).load (map_get hv) c_int rfl ⟨v, rfl, trivial, _, _, _, rfl, _, box_row hI4.row, d0, rfl, hI4.at.own.idxK c_int (Int.toNat_of_nonneg hgo.1).symm (by simp only [List.length_map]; omega) ?_⟩
       rw [w64_id (n := r + 1) (by omega) (by omega)]
       refine hI4.putO (k := { k with Lines := askC (lineF c y.Path) k.Lines, Own := ((c.lockL r).take j).foldl (fun w s => w.set s.toNat (r + 1)) k.Own }) (y := r + 1) ho' rfl (by simp) rfl fun s5 hI5 _ => ?_
       rw [w64_succ (by omega)]
       refine ⟨⟨j + 1, rfl, by omega, ?_⟩, dec_lt (by omega)⟩
       rw [List.take_add_one, hv, List.foldl_append]
       exact hI5
     have e : j = (c.lockL r).length := by omega
     rw [e, List.take_length] at hI4
     have hxr := hgx.2.2
     refine ⟨trivial, _, _, _, rfl, hI4.putR (k := { k with Lines := askC (lineF c y.Path) k.Lines, Own := (c.lockL r).foldl (fun w s => w.set s.toNat (r + 1)) k.Own }) (y := ⟨1, 0, 0, 0⟩) hxr rfl (by simp) rfl fun s5 hI5 _ => ?_⟩
     have hyn : (c.rt r).Path.length ≤ 2 ^ 20 := by rw [rt_some hy]; have := hrok.len; omega
     have hyf : (c.rt r).Flank.length ≤ 2 ^ 20 := by rw [rt_some hy]; have := hrok.flen; omega
     refine ⟨trivial, _, _, _, rfl, _, box_row hI5.row, c0, c1, c2, c3, c4, _, _, _, _, rfl, (mover_Needs_ok hc r hyn hyf).mono ?_⟩
     rintro q s6 ⟨rfl, d13, rfl, h13⟩
     have hnl : (c.Needs r).length ≤ 41 := by
       rw [Cf.Needs, rt_some hy]
       have := needs_len c y
       have := hrok.len; have := hrok.flen; omega
     refine ⟨d13, rfl, (h13 s6).lenK ⟨fun n s => ∃ j : Nat, n = j ∧ j ≤ (c.Needs r).length ∧ CoIn σ0 s id t (cfC c0 c1 c2 c3 c4 c) [] d0 d1 d2 d3 d4 d5 { k with Lines := askC (lineF c y.Path) k.Lines, Own := (c.lockL r).foldl (fun w s => w.set s.toNat (r + 1)) k.Own, Routes := k.Routes.set r.toNat ⟨1, 0, 0, 0⟩, Points := ptsC now ((c.Needs r).take j) k.Points },
       fun n _ => (c.Needs r).length - n.toNat, ⟨0, rfl, by omega, hI5⟩, ?_⟩⟩
     rintro n s7 ⟨j, rfl, hj, hI7⟩
     rw [List.length_map]
     refine bcd (fun hlt => ?_) (fun hge => ?_)
     · obtain ⟨nd, hnd⟩ := get_of_lt (l := c.Needs r) (j := j) (by omega)
       have hnm := List.mem_of_getElem? hnd
       obtain ⟨⟨z, hz⟩, _⟩ := needs_sec hrok (by rw [Cf.Needs, rt_some hy] at hnm; exact hnm)
       have hgz := geti_some hz
       have hzl := (List.getElem?_eq_some_iff.1 hgz.2.2).1
       have hpl := ptsC_len now ((c.Needs r).take j) k.Points
       have hpl2 := hfi.lPts
       obtain ⟨m, hm⟩ := get_of_lt (l := ptsC now ((c.Needs r).take j) k.Points) (j := nd.Sec.toNat) (by omega)
       have hgm : geti (ptsC now ((c.Needs r).take j) k.Points) nd.Sec = some m := by unfold geti; rw [if_neg (by omega), hm]
       refine (h13 s7).load (map_get hnd) c_Need rfl ⟨nd.Sec, nd.Pos, rfl, cmdPre, cmdPost, cmd_spec, trivial, _, _, _, rfl, _, box_row hI7.row, d2, rfl, trivial, _, _, _, rfl, _, box_row hI7.row, d2, rfl,
         hI7.at.points.load (map_get hm) c_Mover (Int.toNat_of_nonneg hgz.1).symm ⟨m.Cmd, m.Other, rfl, ⟨m, now, nd.Pos, rfl⟩, ?_⟩⟩
       intro q s8 hq
       obtain ⟨rfl, rfl⟩ := cmd_post (m := m) hq
       refine ⟨_, _, rfl, hI7.at.points.idxK c_Mover (Int.toNat_of_nonneg hgz.1).symm (by simp only [List.length_map]; omega) ?_⟩
       refine hI7.putP (k := { k with Lines := askC (lineF c y.Path) k.Lines, Own := (c.lockL r).foldl (fun w s => w.set s.toNat (r + 1)) k.Own, Routes := k.Routes.set r.toNat ⟨1, 0, 0, 0⟩, Points := ptsC now ((c.Needs r).take j) k.Points }) (y := cmdM m now nd.Pos) hm rfl (by simp) rfl fun s9 hI9 _ => ?_
       rw [w64_succ (by omega)]
       refine ⟨⟨j + 1, rfl, by omega, ?_⟩, dec_lt (by omega)⟩
       have e : ptsC now ((c.Needs r).take (j + 1)) k.Points = (ptsC now ((c.Needs r).take j) k.Points).set nd.Sec.toNat (cmdM m now nd.Pos) := by
         rw [List.take_add_one, hnd, ptsC, List.foldl_append]
         show (ptsC now ((c.Needs r).take j) k.Points).set nd.Sec.toNat (cmdM ((geti (ptsC now ((c.Needs r).take j) k.Points) nd.Sec).getD ⟨0, 0⟩) now nd.Pos) = _
         rw [hgm]; rfl
       rw [e]; exact hI9
     have e : j = (c.Needs r).length := by omega
     rw [e, List.take_length] at hI7
     have hxs := (check_xs hok).2.2
     refine ⟨trivial, _, _, _, rfl, _, box_row hI7.row, c0, c1, c2, c3, c4, _, _, _, _, rfl, (mover_Crossings_ok hc r (by omega)).mono ?_⟩
     rintro q s8 ⟨rfl, d19, rfl, h19⟩
     have hcl2 : (c.Cross r).length ≤ c.Xs.length := crossL_len _ _ _
     refine ⟨d19, rfl, (h19 s8).lenK ⟨fun n s => ∃ j : Nat, n = j ∧ j ≤ (c.Cross r).length ∧ CoIn σ0 s id t (cfC c0 c1 c2 c3 c4 c) [] d0 d1 d2 d3 d4 d5 { k with Lines := askC (lineF c y.Path) k.Lines, Own := (c.lockL r).foldl (fun w s => w.set s.toNat (r + 1)) k.Own, Routes := k.Routes.set r.toNat ⟨1, 0, 0, 0⟩, Points := ptsC now (c.Needs r) k.Points, Xs := xsC now ((c.Cross r).take j) k.Xs },
       fun n _ => (c.Cross r).length - n.toNat, ⟨0, rfl, by omega, hI7⟩, ?_⟩⟩
     rintro n s9 ⟨j, rfl, hj, hI9⟩
     rw [List.length_map]
     refine bcd (fun hlt => ?_) (fun hge => ?_)
     · obtain ⟨v, hv⟩ := get_of_lt (l := c.Cross r) (j := j) (by omega)
       obtain ⟨i, xx, e3, hxx, _⟩ := crossL_mem _ _ _ _ (List.mem_of_getElem? hv)
       rw [Nat.zero_add] at e3
       subst e3
       have hil := (List.getElem?_eq_some_iff.1 hxx).1
       have hpl := xsC_len now ((c.Cross r).take j) k.Xs
       have hpl2 := hfi.lXs
       obtain ⟨m, hm⟩ := get_of_lt (l := xsC now ((c.Cross r).take j) k.Xs) (j := i) (by omega)
       have hgm : geti (xsC now ((c.Cross r).take j) k.Xs) (i : Int) = some m := by rw [geti_nat, hm]
       refine (h19 s9).load (map_get hv) c_int rfl ⟨(i : Int), rfl, cmdPre, cmdPost, cmd_spec, trivial, _, _, _, rfl, _, box_row hI9.row, d3, rfl, trivial, _, _, _, rfl, _, box_row hI9.row, d3, rfl,
         hI9.at.xs.load (map_get hm) c_Mover rfl ⟨m.Cmd, m.Other, rfl, ⟨m, now, 1, rfl⟩, ?_⟩⟩
       intro q s10 hq
       obtain ⟨rfl, rfl⟩ := cmd_post (m := m) hq
       refine ⟨_, _, rfl, hI9.at.xs.idxK c_Mover rfl (by simp only [List.length_map]; omega) ?_⟩
       refine hI9.putX (k := { k with Lines := askC (lineF c y.Path) k.Lines, Own := (c.lockL r).foldl (fun w s => w.set s.toNat (r + 1)) k.Own, Routes := k.Routes.set r.toNat ⟨1, 0, 0, 0⟩, Points := ptsC now (c.Needs r) k.Points, Xs := xsC now ((c.Cross r).take j) k.Xs }) (y := cmdM m now 1) hm (by rw [Int.toNat_natCast]) (by simp) rfl fun s11 hI11 _ => ?_
       rw [w64_succ (by omega)]
       refine ⟨⟨j + 1, rfl, by omega, ?_⟩, dec_lt (by omega)⟩
       have e : xsC now ((c.Cross r).take (j + 1)) k.Xs = (xsC now ((c.Cross r).take j) k.Xs).set i (cmdM m now 1) := by
         rw [List.take_add_one, hv, xsC, List.foldl_append]
         show (xsC now ((c.Cross r).take j) k.Xs).set ((i : Int)).toNat (cmdM ((geti (xsC now ((c.Cross r).take j) k.Xs) (i : Int)).getD ⟨0, 0⟩) now 1) = _
         rw [hgm]; rfl
       rw [e]; exact hI11
     have e : j = (c.Cross r).length := by omega
     rw [e, List.take_length] at hI9
     refine ⟨trivial, _, _, _, rfl, hI9.dirty (b := true) rfl fun s10 hI10 _ => ⟨by rw [hE0], hI10.ext, fun _ => ?_⟩⟩
     have : k.lockC c now r = { k with Lines := askC (lineF c y.Path) k.Lines, Own := (c.lockL r).foldl (fun w s => w.set s.toNat (r + 1)) k.Own, Routes := k.Routes.set r.toNat ⟨1, 0, 0, 0⟩, Points := ptsC now (c.Needs r) k.Points, Xs := xsC now (c.Cross r) k.Xs, Dirty := true } := by
       rw [Co.lockC, rt_some hy]
     rw [this]; exact hI10
   refine (desk_line_ok' hc hI hok hfi.lLn hy).use ⟨_, rfl, ?_⟩
   by_cases hl : lineF c y.Path > 0
   · rw [if_pos hl]
     have hl3 := (line_ok hok y.Path).2
     obtain ⟨u, hu⟩ := get_of_lt (l := k.Lines) (j := (lineF c y.Path).toNat) (by have := hfi.lLn; omega)
     have hgu : geti k.Lines (lineF c y.Path) = some u := by unfold geti; rw [if_neg (by omega), hu]
     refine ⟨false, rfl, ?_⟩
     show bcase (false != true) _ _
     rw [show (false != true) = true from by decide]
     refine ⟨trivial, _, _, _, rfl, _, hI.at.lines.row (map_get hu), u.Ask, rfl, bcd (fun e => err 5 (by rw [hE, if_pos ⟨hl, by rw [hgu]; exact e⟩]) (by decide)) (fun e3 => ?_)⟩
     refine ⟨trivial, _, _, _, rfl, _, hI.at.lines.row (map_get hu), u.Ask, rfl, trivial, _, _, _, rfl, ?_⟩
     have hua := (hfi.lns u (List.mem_of_getElem? hu))
     simp only [Ls.fits, tm, Bool.and_eq_true, decide_eq_true_eq] at hua
     rw [w64_id (n := u.Ask + 1) (by omega) (by omega)]
     refine hI.putL (y := { u with Ask := u.Ask + 1 }) hu rfl (by simp) rfl fun s4 hI4 _ => body (fun _ => by rw [hgu]; show u.Ask < 4294967295; omega) s4 ?_
     have : askC (lineF c y.Path) k.Lines = k.Lines.set (lineF c y.Path).toNat { u with Ask := u.Ask + 1 } := by rw [askC, if_pos hl, hgu]; rfl
     rw [this]; exact hI4
   · rw [if_neg hl]
     refine ⟨true, rfl, ?_⟩
     show bcase (true != true) _ _
     rw [show (true != true) = false from by decide]
     refine body (fun h => absurd h hl) s ?_
     have : askC (lineF c y.Path) k.Lines = k.Lines := by rw [askC, if_neg hl]
     rw [this]; exact hI
end
end
section
variable {σ σ0 : Store}
theorem live_ext {s s' : Store} {id : Nat} {t : TypeId} {rows : List (List D)} (h : s id = .live t rows) (he : Ext s s') : s' id = .live t rows := (he id (by rw [h]; intro e; cases e)).trans h
theorem CoPost.from {σ1 s : Store} {p : Co × Int} {r : RV} (he : Ext σ σ1) (h : CoPost σ1 p r s) : CoPost σ p r s := by
 obtain ⟨d0, d1, d2, d3, d4, d5, e, ho⟩ := h
 exact ⟨d0, d1, d2, d3, d4, d5, e, ho.from he⟩
theorem CoPost.pass {s : Store} {p : Co × Int} {r : RV} {Q : RV → Store → Prop} (h : CoPost σ p r s) (hq : Q r s) :
   ∃ d d1 d2 d3 d4 d5 : D, ∃ b : Bool, ∃ n1 : Int, r = .tup [.agg [d, d1, d2, d3, d4, d5, .bool b], .one (.int .i64 n1)] ∧ Q (.tup [.agg [d, d1, d2, d3, d4, d5, .bool b], .one (.int .i64 n1)]) s := by
 obtain ⟨d0, d1, d2, d3, d4, d5, e, ho⟩ := h
 refine ⟨d0, d1, d2, d3, d4, d5, p.1.Dirty, p.2, e, ?_⟩
 rw [← e]; exact hq
section
variable {c0 c1 c2 c3 c4 k0 k1 k2 k3 k4 k5 : D} {c : Cf} (hc : ∀ s, CfAt s c0 c1 c2 c3 c4 c) {k : Co} (h : CoAt σ k0 k1 k2 k3 k4 k5 k) (hf : CoFit k0 k1 k2 k3 k4 k5 k)
include hc h hf
theorem locks_Request_ok (hz : RtsNz c4) (now r : Int) : DCalls Tryz.prog n_locks_Request [cfA c0 c1 c2 c3 c4 c, coA k0 k1 k2 k3 k4 k5 k.Dirty, iA now, iA r] σ (CoPost σ (k.requestC c now r)) := by
 refine W_locks_Request _ _ _ _ _ _ _ _ _ k0 k1 k2 k3 k4 k5 k.Dirty now r σ _ (newObj_intro fun id s1 hid _ e1 q1 => newObj_intro fun id1 s2 hid1 _ e2 q2 => ?_)
 have q12 := live_ext q1 e2
 refine ⟨_, box_row q12, now, rfl, (locks_change_ok hc (h.ext' (e1.trans e2)) hf now (bs := [.one (.el (.osl id 0 1) 0 0), .one (.el (.osl id1 0 1) 0 0)]) (E := k.reqE c r) (Y := k.lockC c now r) rfl ?_).mono fun q s3 hp => hp.pass (hp.from (e1.trans e2))⟩
 intro hfit ht id' d0 d1 d2 d3 d4 d5 s3 he hI
 refine W_locks_Request_1 _ _ _ s3 _ ⟨_, _, _, rfl, _, box_row (live_ext q12 he), now, rfl, _, _, _, rfl, _, box_row (live_ext q2 he), r, rfl, (desk_request_ok hc hI hz hfit now r).mono ?_⟩
 rintro q s4 ⟨rfl, w1, w2⟩
 exact ⟨_, rfl, rfl, w1, w2⟩
end
end
end Go.Proofs.YtdlnbehcnfjneaaGreat
namespace Go.Fw
section
def zLk : Lk := ⟨0, 0, false⟩
def lkG (l : List Lk) (s : Int) : Lk := (geti l s).getD zLk
def mvG (l : List Mv) (s : Int) : Mv := (geti l s).getD ⟨0, 0⟩
def lnG (l : List Ls) (s : Int) : Ls := (geti l s).getD zLs
def rsG (l : List Rs) (s : Int) : Rs := (geti l s).getD ⟨0, 0, 0, 0⟩
def ownG (l : List Int) (s : Int) : Int := (geti l s).getD 0
def Lk.clear (l : Lk) : Bool := l.Valid && decide (l.Value = 0)
def clr (o : List Lk) (l : List Int) : Bool := l.all fun s => (lkG o s).clear
def bnd (n : Int) : Int := min (max n (-1)) 4611686018427387904
def provM (m : Mv) (l : Lk) (age : Int) : Bool := decide (l.Valid = true ∧ m.Cmd ≠ 0 ∧ m.Cmd = l.Value ∧ bnd l.Stamp - bnd m.Other > bnd age)
def Cf.pathS (c : Cf) (r : Int) : List Int := (c.rt r).Path.map St.Sec
def Cf.lineR (c : Cf) (r : Int) : Int := lineF c (c.rt r).Path
def needOk (c : Cf) (k : Co) (v : Vw) (n : Nd) : Bool := decide ((mvG k.Points n.Sec).Cmd = n.Pos) && provM (mvG k.Points n.Sec) (lkG v.Pos n.Sec) c.Age
def crossOk (c : Cf) (k : Co) (v : Vw) (i : Int) : Bool := provM (mvG k.Xs i) (lkG v.Shut i) c.Age
def Co.ownS (c : Cf) (k : Co) (r : Int) : List Int := (c.rt r).Overlap.filter fun s => decide (ownG k.Own s = r + 1)
def lampOk (c : Cf) (k : Co) (v : Vw) (r : Int) : Bool :=
 (lkG v.Lamp (c.rt r).Entry).Valid && (decide ((lkG v.Lamp (c.rt r).Entry).Value = 1) && (decide (c.lineR r = 0) || decide ((lnG k.Lines (c.lineR r)).PGrant = (lnG k.Lines (c.lineR r)).Ask)))
def Co.ready (c : Cf) (k : Co) (v : Vw) (r : Int) : Bool :=
 clr v.Occ (c.pathS r) && (clr v.Occ (k.ownS c r) && ((c.Needs r).all (needOk c k v) && ((c.Cross r).all (crossOk c k v) && lampOk c k v r)))
/-! facts -/
theorem geti_set {α : Type} {l : List α} {s t : Int} {x : α} (hs : 0 ≤ s) : geti (l.set s.toNat x) t = if t = s ∧ s < l.length then some x else geti l t := by
 unfold geti
 by_cases ht : t < 0
 · rw [if_pos ht, if_pos ht, if_neg (by omega)]
 · rw [if_neg ht, if_neg ht, List.getElem?_set]
   by_cases e : t = s
   · subst e
     rw [if_pos rfl]
     by_cases hl : t < l.length
     · rw [if_pos (by omega), if_pos ⟨rfl, hl⟩]
     · rw [if_neg (by omega), if_neg (by omega), List.getElem?_eq_none (by omega)]
   · rw [if_neg (by omega), if_neg (by omega)]
theorem geti_set_ne {α : Type} {l : List α} {s t : Int} {x : α} (hs : 0 ≤ s) (h : t ≠ s) : geti (l.set s.toNat x) t = geti l t := by rw [geti_set hs, if_neg (by omega)]
theorem geti_set_eq {α : Type} {l : List α} {s : Int} {x : α} (hs : 0 ≤ s) (h : s < l.length) : geti (l.set s.toNat x) s = some x := by rw [geti_set hs, if_pos ⟨rfl, h⟩]
structure Turn (c : Cf) (v : Vw) (now : Int) (d : Bool) (k k' : Co) (r : Int) : Prop where
 pts : k'.Points = k.Points
 xs : k'.Xs = k.Xs
 res : k'.Resets = k.Resets
 lOwn : k'.Own.length = k.Own.length
 lRts : k'.Routes.length = k.Routes.length
 rts : ∀ j, j ≠ r → rsG k'.Routes j = rsG k.Routes j
 own : ∀ s, geti k'.Own s = geti k.Own s ∨ (geti k.Own s = some (r + 1) ∧ geti k'.Own s = some 0 ∧ k'.Dirty = true ∧ (rsG k.Routes r).State = 4 ∧ (rsG k.Routes r).Since + c.Hold ≤ now ∧
   ((rsG k'.Routes r).State = 0 ∨ (geti (c.pathS r) (rsG k.Routes r).Next = some s ∧ (lkG v.Occ s).clear = true ∧ (lkG v.Occ s).Stamp > (rsG k.Routes r).Since + c.Hold)))
 ln : ∀ l, (lnG k'.Lines l).PGrant = (lnG k.Lines l).PGrant ∧ (lnG k'.Lines l).Ask = (lnG k.Lines l).Ask
 dirty : k.Dirty = true → k'.Dirty = true
 opn : (rsG k'.Routes r).State = 2 → ((rsG k.Routes r).State = 2 ∨ ((rsG k.Routes r).State = 1 ∧ d = false)) ∧ k.ready c v r = true
structure Turns (c : Cf) (v : Vw) (now : Int) (d : Bool) (k k' : Co) (n : Nat) : Prop where
 pts : k'.Points = k.Points
 xs : k'.Xs = k.Xs
 res : k'.Resets = k.Resets
 lOwn : k'.Own.length = k.Own.length
 lRts : k'.Routes.length = k.Routes.length
 rts : ∀ j : Int, (n : Int) ≤ j → rsG k'.Routes j = rsG k.Routes j
 own : ∀ s, geti k'.Own s = geti k.Own s ∨ ∃ r : Int, 0 ≤ r ∧ r < n ∧ geti k.Own s = some (r + 1) ∧ geti k'.Own s = some 0 ∧ k'.Dirty = true ∧ (rsG k.Routes r).State = 4 ∧ (rsG k.Routes r).Since + c.Hold ≤ now ∧
   ((rsG k'.Routes r).State = 0 ∨ (geti (c.pathS r) (rsG k.Routes r).Next = some s ∧ (lkG v.Occ s).clear = true ∧ (lkG v.Occ s).Stamp > (rsG k.Routes r).Since + c.Hold))
 ln : ∀ l, (lnG k'.Lines l).PGrant = (lnG k.Lines l).PGrant ∧ (lnG k'.Lines l).Ask = (lnG k.Lines l).Ask
 dirty : k.Dirty = true → k'.Dirty = true
 opn : ∀ r : Int, 0 ≤ r → r < n → (rsG k'.Routes r).State = 2 → ((rsG k.Routes r).State = 2 ∨ ((rsG k.Routes r).State = 1 ∧ d = false)) ∧ k.ready c v r = true
end
section
theorem rsG_get {l : List Rs} {r : Int} (hr : 0 ≤ r) (hl : r < l.length) : l[r.toNat]? = some (rsG l r) := by
 unfold rsG geti; rw [if_neg (by omega), List.getElem?_eq_getElem (show r.toNat < l.length by omega)]; rfl
theorem rt_at {c : Cf} {r : Int} {q : Rt} (hr : 0 ≤ r) (h : c.Rts[r.toNat]? = some q) : c.rt r = q := by
 unfold Cf.rt geti; rw [if_neg (by omega), h]; rfl
theorem FitIs.rs {c : Cf} {k : Co} {r : Int} {x : Rs} (h : FitIs c k) (hr : 0 ≤ r) (hx : ∀ q, c.Rts[r.toNat]? = some q → Rs.fits (rsG k.Routes r, q) = true → Rs.fits (x, q) = true) :
   ∀ (i : Nat) z q, (k.Routes.set r.toNat x)[i]? = some z → c.Rts[i]? = some q → Rs.fits (z, q) = true := by
 intro i z q hz hq
 rw [List.getElem?_set] at hz
 split at hz
 · rename_i e
   split at hz
   · rename_i hl
     cases hz
     subst e
     exact hx q hq (h.rts r.toNat _ q (rsG_get hr (by omega)) hq)
   · cases hz
 · exact h.rts i z q hz hq
theorem cmdM_cmd (m : Mv) (now p : Int) : (cmdM m now p).Cmd = p := by
 rw [cmdM]
 split
 · rfl
 · rename_i h; exact Decidable.not_not.1 h
structure Rst (v : Vw) (k k' : Co) (n : Nat) : Prop where
 pts : k'.Points = k.Points
 xs : k'.Xs = k.Xs
 ln : k'.Lines = k.Lines
 rts : k'.Routes = k.Routes
 lOwn : k'.Own.length = k.Own.length
 lRes : k'.Resets.length = k.Resets.length
 res : ∀ j : Int, (n : Int) ≤ j → geti k'.Resets j = geti k.Resets j
 ownL : ∀ j : Int, (n : Int) ≤ j → geti k'.Own j = geti k.Own j
 own : ∀ s, geti k'.Own s = geti k.Own s ∨ (geti k.Own s = some (-1) ∧ geti k'.Own s = some 0 ∧ k'.Dirty = true ∧ 0 < ownG k.Resets s ∧ (lkG v.Occ s).clear = true ∧ ownG k.Resets s ≤ (lkG v.Occ s).Stamp)
 dirty : k.Dirty = true → k'.Dirty = true
/-! signals -/
theorem FitIs.entry {c : Cf} {k : Co} (h : FitIs c k) : ∀ j : Nat, j < c.Rts.length → ∃ a, geti c.Sigs (c.rt j).Entry = some a := fun j hj => by
 obtain ⟨x, hx⟩ := get_of_lt hj
 have := (check_rt h.chk (List.mem_of_getElem? hx)).entry
 rw [rt_at (r := (j : Int)) (by omega) (by rw [Int.toNat_natCast]; exact hx)]
 exact this
/-! all seen at its worst -/
/-! no route is locked, no reset due -/
end
section
theorem apprS_idle {c : Cf} {l : List Int} : ∀ (rs : List Rs) (j : Nat), (∀ x ∈ rs, x.State = 0) → apprS c l rs j = false
 | [], _, _ => rfl
 | x :: r, j, h => by
   rw [apprS, apprS_idle r _ fun y hy => h y (by simp [hy]), h x (by simp)]; rfl
end
section
def openK (c : Cf) : Co := { newCo c 0 with Own := List.replicate c.Secs.length 0 }
theorem open_fits {c : Cf} (h : c.check = 0) : (openK c).fits c = true := by
 have h0 := fits_iff.1 (new_fits (c := c) (now := 0) h (by decide))
 rw [fits_iff]
 exact ⟨h0.chk, by simp [openK], h0.lPts, h0.lRes, h0.lRts, h0.lXs, h0.lLn, fun o ho => by
   have := (List.mem_replicate.1 ho).2
   omega, h0.rts, h0.pts, h0.xs, h0.lns, h0.res⟩
theorem open_req {c : Cf} (h : c.check = 0) {r : Int} {y : Rt} (hy : geti c.Rts r = some y) : (openK c).reqE c r = 0 := by
 have hr := check_rt h (geti_mem hy)
 have hgy := geti_some hy
 have hx : geti (openK c).Routes r = some ⟨0, 0, 0, 0⟩ := by
   unfold geti
   rw [if_neg (by omega)]
   show (List.replicate c.Rts.length (⟨0, 0, 0, 0⟩ : Rs))[r.toNat]? = _
   rw [List.getElem?_replicate, if_pos (by omega)]
 have hap : apprS c (c.lockL r) (openK c).Routes 0 = false := apprS_idle _ _ fun x hx => by rw [(List.mem_replicate.1 hx).2]
 have hb : (openK c).blocked c r (c.lockL r) = false := by
   refine List.any_eq_false.2 fun v hv => ?_
   have : (geti (openK c).Own v).getD 0 = 0 := geti_d (p := fun o : Int => o = 0) rfl fun o ho => (List.mem_replicate.1 ho).2
   rw [this]; simp
 have hl : ((geti (openK c).Lines (lineF c (c.rt r).Path)).getD zLs).Ask < 4294967295 := by
   refine geti_d (p := fun l : Ls => l.Ask < 4294967295) (by decide) fun l hl => ?_
   rw [(List.mem_replicate.1 hl).2]; decide
 rw [Co.reqE, hx]
 show (if (0 : Int) ≠ 0 then 28 else _) = 0
 rw [if_neg (by decide)]
 have hm : (openK c).may c r (c.lockL r) = 0 := by rw [Co.may, if_neg (by rw [hap]; decide), if_neg (by rw [hb]; decide)]
 rw [hm, if_neg (by decide), if_neg (by omega)]
theorem lock_own {c : Cf} {k : Co} (hf : FitIs c k) (now : Int) {r : Int} {y : Rt} (hy : geti c.Rts r = some y) {v : Int} (hv : v ∈ c.lockL r) : geti (k.lockC c now r).Own v = some (r + 1) := by
 have hr := check_rt hf.chk (geti_mem hy)
 have hll : c.lockL r = Cf.lockR y := by unfold Cf.lockL; rw [hy]
 have hsec : ∀ s ∈ c.lockL r, ∃ z, geti c.Secs s = some z := fun s hs => lockR_sec hr (by rw [← hll]; exact hs)
 obtain ⟨z, hz⟩ := hsec v hv
 have hgz := geti_some hz
 have hzl := (List.getElem?_eq_some_iff.1 hgz.2.2).1
 unfold geti
 rw [if_neg (by omega)]
 show ((c.lockL r).foldl (fun w s => w.set s.toNat (r + 1)) k.Own)[v.toNat]? = _
 rw [ownC_get (c.lockL r) k.Own (fun x hx => by obtain ⟨z, hz⟩ := hsec x hx; exact (geti_some hz).1) (by have := hf.lOwn; omega), if_pos (by rw [Int.toNat_of_nonneg hgz.1]; exact hv)]
theorem lock_state {c : Cf} {k : Co} {now a : Int} {x : Rs} (h : geti k.Routes a = some x) : geti (k.lockC c now a).Routes a = some ⟨1, 0, 0, 0⟩ := by
 have hg := geti_some h
 have hl := (List.getElem?_eq_some_iff.1 hg.2.2).1
 unfold geti
 rw [if_neg (by omega)]
 show (k.Routes.set a.toNat ⟨1, 0, 0, 0⟩)[a.toNat]? = _
 rw [List.getElem?_set, if_pos rfl, if_pos hl]
theorem fits_small' {c : Cf} {k : Co} (h : k.fits c = true) : k.Own.length ≤ 16 ∧ k.Routes.length ≤ 12 ∧ k.Points.length ≤ 16 ∧ k.Xs.length ≤ 4 ∧ k.Lines.length = 4 ∧ k.Resets.length ≤ 16 := by
 have hf := fits_iff.1 h
 have hs := check_small hf.chk
 have := hf.lOwn; have := hf.lRts; have := hf.lPts; have := hf.lXs; have := hf.lLn; have := hf.lRes
 omega
end
section
theorem geti_rep {α : Type} {n : Nat} {x : α} {s : Int} (h0 : 0 ≤ s) (h1 : s < n) : geti (List.replicate n x) s = some x := by
 unfold geti; rw [if_neg (by omega), List.getElem?_replicate, if_pos (by omega)]
structure Going (c : Cf) (k : Co) (r : Int) (i : Nat) (m : Int) : Prop where
 fit : FitIs c k
 oth : ∀ j, j ≠ r → (rsG k.Routes j).State = 0
 cur : rsG k.Routes r = ⟨4, 1, i, m⟩
 res : ∀ s, ownG k.Resets s = 0
 own : ∀ s o, geti k.Own s = some o → o = 0 ∨ o = r + 1
 pth : ∀ (j : Nat) s, i ≤ j → (c.pathS r)[j]? = some s → ownG k.Own s = r + 1
theorem FitIs.dirty {c : Cf} {k : Co} (h : FitIs c k) (b : Bool) : FitIs c { k with Dirty := b } :=
 ⟨h.chk, h.lOwn, h.lPts, h.lRes, h.lRts, h.lXs, h.lLn, h.own, h.rts, h.pts, h.xs, h.lns, h.res⟩
end
end Go.Fw
namespace Go.Proofs.YtdlnbehcnfjneaaGreat
open Go.Fw Go.Proofs Go.RowKit
section
variable {σ σ0 : Store}
theorem own_at {l : List Int} {s : Int} (h0 : 0 ≤ s) (h1 : s < l.length) : l[s.toNat]? = some (ownG l s) := by
 unfold ownG geti; rw [if_neg (by omega), List.getElem?_eq_getElem (show s.toNat < l.length by omega)]; rfl
structure VwB (σ0 : Store) (v0 v1 v2 v3 : D) (v : Vw) : Prop where
 occ : ∀ s, Ext σ0 s → At Tryz.prog s t_Look v0 (v.Occ.map Lk.enc)
 pos : ∀ s, Ext σ0 s → At Tryz.prog s t_Look v1 (v.Pos.map Lk.enc)
 shut : ∀ s, Ext σ0 s → At Tryz.prog s t_Look v2 (v.Shut.map Lk.enc)
 lamp : ∀ s, Ext σ0 s → At Tryz.prog s t_Look v3 (v.Lamp.map Lk.enc)
theorem VwB.mono {s : Store} {v0 v1 v2 v3 : D} {v : Vw} (h : VwB σ v0 v1 v2 v3 v) (he : Ext σ s) : VwB s v0 v1 v2 v3 v :=
 ⟨fun s' h' => h.occ s' (he.trans h'), fun s' h' => h.pos s' (he.trans h'), fun s' h' => h.shut s' (he.trans h'), fun s' h' => h.lamp s' (he.trans h')⟩
theorem VwAt.b {v0 v1 v2 v3 : D} {v : Vw} (h : VwAt v0 v1 v2 v3 v) : VwB σ v0 v1 v2 v3 v := ⟨fun s _ => h.occ s, fun s _ => h.pos s, fun s _ => h.shut s, fun s _ => h.lamp s⟩
abbrev cyPre (v0 v1 v2 v3 c0 c1 c2 c3 c4 : D) (c : Cf) : List D := [v0, v1, v2, v3, c0, c1, c2, c3, c4, iD c.Age, iD c.Brake, iD c.Hold, iD c.Budget]
abbrev cyPost (now : Int) (d : Bool) (pd : D) : List D := [iD now, .bool d, pd]
def Paths (s : Store) (pd : D) (c : Cf) : Prop :=
 ∃ rows, At Tryz.prog s t_sl_int pd rows ∧ ∀ (j : Nat) x, c.Rts[j]? = some x → ∃ qd, rows[j]? = some [qd] ∧ At Tryz.prog s t_int qd ((x.Path.map St.Sec).map Go.Fw.encI)
theorem Paths.mono {s s' : Store} {pd : D} {c : Cf} (h : Paths s pd c) (he : Ext s s') : Paths s' pd c := by
 obtain ⟨rows, h1, h2⟩ := h
 exact ⟨rows, h1.ext he, fun j x hx => by obtain ⟨qd, a, b⟩ := h2 j x hx; exact ⟨qd, a, b.ext he⟩⟩
theorem CoIn.mono {s s' : Store} {id : Nat} {t : TypeId} {pre post : List D} {d0 d1 d2 d3 d4 d5 : D} {k : Co} (h : CoIn σ0 s id t pre post d0 d1 d2 d3 d4 d5 k) (he : Ext s s') : CoIn σ0 s' id t pre post d0 d1 d2 d3 d4 d5 k :=
 ⟨h.new, live_ext h.row he, h.co.ext' he, h.ids⟩
section
variable {c0 c1 c2 c3 c4 v0 v1 v2 v3 : D} {c : Cf} {v : Vw} (hc : ∀ s, CfAt s c0 c1 c2 c3 c4 c) (hv : VwB σ0 v0 v1 v2 v3 v) (hvf : v.fits c = true) {id : Nat} {d0 d1 d2 d3 d4 d5 pd : D} {k : Co} {now : Int} {dd : Bool} (hP : Paths σ0 pd c)
include hc hP
omit hc hP in
theorem ready_1_ok (hI : CoIn σ0 σ id t_kernel_cycle (cyPre v0 v1 v2 v3 c0 c1 c2 c3 c4 c) (cyPost now dd pd) d0 d1 d2 d3 d4 d5 k) {i1 i2 : Nat} {r : Int} {t1 : TypeId} (h1 : σ i1 = .live t1 [[.el (.osl id 0 1) 0 0]]) (h2 : σ i2 = .live t_int [[iD r]]) (hr : -2 ^ 62 ≤ r ∧ r ≤ 2 ^ 62) {s : Int} (hs : 0 ≤ s ∧ s < k.Own.length) :
   Pure Tryz.prog n_kernel_cycle_ready_1 [iA s, .one (.el (.osl i1 0 1) 0 0), .one (.el (.osl i2 0 1) 0 0)] σ (.a (bA (!decide (ownG k.Own s = r + 1)))) := by
 refine W_kernel_cycle_ready_1 s _ _ σ _ ⟨_, _, _, rfl, _, box_row h1, _, rfl, trivial, _, _, _, rfl, _, box_row hI.row, d0, rfl, hI.at.own.load (map_get (own_at hs.1 hs.2)) c_int (Int.toNat_of_nonneg hs.1).symm ⟨_, rfl, _, _, _, rfl, _, box_row h2, r, rfl, ?_, rfl⟩⟩
 rw [w64_id (n := r + 1) (by omega) (by omega)]
 by_cases e : ownG k.Own s = r + 1
 · rw [decide_eq_true e]; congr 3; simp [e]
 · rw [decide_eq_false e]; congr 3; simpa using e
end
end
section
variable {σ σ0 : Store}
section
variable {c0 c1 c2 c3 c4 v0 v1 v2 v3 : D} {c : Cf} {v : Vw} (hc : ∀ s, CfAt s c0 c1 c2 c3 c4 c) {id : Nat} {d0 d1 d2 d3 d4 d5 pd : D} {k : Co} {now : Int} {dd : Bool}
include hc
/-! the signals, as a call that is told -/
omit hc in
theorem set_set (s : Store) (i : Nat) (a b : SO) : (s.set i a).set i b = s.set i b := by
 funext j
 by_cases e : j = i
 · subst e; rw [Store.set_same, Store.set_same]
 · rw [Store.set_ne _ _ e, Store.set_ne _ _ e, Store.set_ne _ _ e]
end
end
section
variable {σ σ0 : Store}
def Hid (id : Nat) (d0 d1 d2 d3 d4 d5 : D) (i : Nat) : Prop := i = id ∨ ∃ d ∈ [d0, d1, d2, d3, d4, d5], idOf d = some i
theorem Own.base {τ s : Store} {el : TypeId} {d : D} {rs : List (List D)} (h : Own Tryz.prog σ0 s el d rs) (he : Ext τ s) (hn : ∀ i, idOf d = some i → τ i = .free) : Own Tryz.prog τ s el d rs :=
 ⟨h.at_, he, fun id i len e => hn id (by subst e; rfl), h.nsl, h.nz⟩
theorem live_idOf {s : Store} {el : TypeId} {d : D} {rs : List (List D)} (h : At Tryz.prog s el d rs) {i : Nat} (hi : idOf d = some i) : s i ≠ .free := by
 cases d with
 | osl id a n =>
   have e : id = i := by simpa [idOf] using hi
   subst e
   obtain ⟨t, rows, g1, _⟩ := h.rows
   rw [g1]; intro e; cases e
 | _ => simp [idOf] at hi
section
variable {id : Nat} {t : TypeId} {pre post : List D} {d0 d1 d2 d3 d4 d5 : D} {k : Co}
theorem CoIn.base {τ s : Store} (h : CoIn σ0 s id t pre post d0 d1 d2 d3 d4 d5 k) (he : Ext τ s) (hn : ∀ i, Hid id d0 d1 d2 d3 d4 d5 i → τ i = .free) : CoIn τ s id t pre post d0 d1 d2 d3 d4 d5 k :=
 ⟨hn id (.inl rfl), h.row, ⟨Own.base h.co.own he fun i hi => hn i (.inr ⟨d0, by simp, hi⟩), Own.base h.co.routes he fun i hi => hn i (.inr ⟨d1, by simp, hi⟩), Own.base h.co.points he fun i hi => hn i (.inr ⟨d2, by simp, hi⟩),
   Own.base h.co.xs he fun i hi => hn i (.inr ⟨d3, by simp, hi⟩), Own.base h.co.lines he fun i hi => hn i (.inr ⟨d4, by simp, hi⟩), Own.base h.co.resets he fun i hi => hn i (.inr ⟨d5, by simp, hi⟩), h.co.apart⟩, h.ids⟩
theorem CoIn.hid {s : Store} (h : CoIn σ0 s id t pre post d0 d1 d2 d3 d4 d5 k) {i : Nat} (hi : Hid id d0 d1 d2 d3 d4 d5 i) : s i ≠ .free ∧ σ0 i = .free := by
 rcases hi with rfl | ⟨d, hd, hi⟩
 · exact ⟨(by rw [h.row]; intro e; cases e), h.new⟩
 · simp only [List.mem_cons, List.not_mem_nil, or_false] at hd
   rcases hd with rfl | rfl | rfl | rfl | rfl | rfl
   · exact ⟨live_idOf h.co.own.at_ hi, own_id' h.co.own hi⟩
   · exact ⟨live_idOf h.co.routes.at_ hi, own_id' h.co.routes hi⟩
   · exact ⟨live_idOf h.co.points.at_ hi, own_id' h.co.points hi⟩
   · exact ⟨live_idOf h.co.xs.at_ hi, own_id' h.co.xs hi⟩
   · exact ⟨live_idOf h.co.lines.at_ hi, own_id' h.co.lines hi⟩
   · exact ⟨live_idOf h.co.resets.at_ hi, own_id' h.co.resets hi⟩
theorem CoIn.keep {s s' : Store} (h : CoIn σ0 s id t pre post d0 d1 d2 d3 d4 d5 k) (he : Ext σ0 s') (hs : ∀ i, Hid id d0 d1 d2 d3 d4 d5 i → s' i = s i) : CoIn σ0 s' id t pre post d0 d1 d2 d3 d4 d5 k := by
 have al : ∀ {d : D} {el : TypeId} {rs : List (List D)}, d ∈ [d0, d1, d2, d3, d4, d5] → Own Tryz.prog σ0 s el d rs → Own Tryz.prog σ0 s' el d rs := fun hd g =>
   ⟨g.at_.same fun i a n e => hs i (.inr ⟨_, hd, by subst e; rfl⟩), he, g.new, g.nsl, g.nz⟩
 exact ⟨h.new, by rw [hs id (.inl rfl)]; exact h.row, ⟨al (by simp) h.co.own, al (by simp) h.co.routes, al (by simp) h.co.points, al (by simp) h.co.xs, al (by simp) h.co.lines, al (by simp) h.co.resets, h.co.apart⟩, h.ids⟩
end
structure PathsTo (σ τ s : Store) (pd : D) (rows : List (List D)) (c : Cf) (j : Nat) (H : Nat → Prop) : Prop where
 ext : Ext σ τ
 own : Own Tryz.prog τ s t_sl_int pd rows
 len : rows.length = j
 rows : ∀ (i : Nat) x, i < j → c.Rts[i]? = some x → ∃ qd, rows[i]? = some [qd] ∧ At Tryz.prog τ t_int qd ((x.Path.map St.Sec).map Go.Fw.encI)
 apart : ∀ i, idOf pd = some i → ¬ H i
section
variable {c0 c1 c2 c3 c4 v0 v1 v2 v3 : D} {c : Cf} {v : Vw} (hc : ∀ s, CfAt s c0 c1 c2 c3 c4 c) (hv : VwB σ v0 v1 v2 v3 v)
include hc hv
end
end
section
theorem ty_RouteZ {row : List D} {n : Nat} (h : tyD Tryz.prog n t_Route row) : ∃ r : Rt, ((∀ s, RtAt Tryz.prog t_Step t_Need t_int s row r) ∧ RtI r) ∧ row[4]? ≠ some .zsl := by
 obtain ⟨_, _, rfl, ⟨a, rfl, ha⟩, _, _, rfl, ⟨b, rfl, hb⟩, d1, _, rfl, h1, d2, _, rfl, h2, d3, _, rfl, h3, _, _, rfl, ⟨sh, rfl⟩, rfl⟩ := ty_sh n 5 _ _ [.int .i64, .int .i64, .sl t_Step, .sl t_Need, .sl t_int, .bool] h (by kernel_rfl)
 obtain ⟨l1, a1, b1, _, e1⟩ := sh_rows (bytes := 24) St.enc _ (fun row n h => ty_Step h) (by kernel_rfl) (by omega) h1
 obtain ⟨l2, a2, b2, _, e2⟩ := sh_rows (bytes := 16) Nd.enc _ (fun row n h => ty_Need h) (by kernel_rfl) (by omega) h2
 obtain ⟨l3, a3, b3, z3, e3⟩ := sh_rows (bytes := 8) Go.Fw.encI _ (fun row n h => ty_i h) (by kernel_rfl) (by omega) h3
 exact ⟨⟨a, b, l1, l2, l3, sh⟩, ⟨fun s => ⟨d1, d2, d3, rfl, a1 s, a2 s, a3 s⟩, wf_i64 ha, wf_i64 hb, b1, b2, b3, e1, e2, e3⟩, fun e => z3 (by injection e)⟩
theorem ty_ConfigZ {cs : List D} {n : Nat} (h : tyD Tryz.prog n t_Config cs) : ∃ c0 c1 c2 c3 c4 c, cs = [c0, c1, c2, c3, c4, iD c.Age, iD c.Brake, iD c.Hold, iD c.Budget] ∧ (∀ s, CfAt s c0 c1 c2 c3 c4 c) ∧ CfI c ∧ RtsNz c4 := by
 obtain ⟨c0, _, rfl, h0, c1, _, rfl, h1, c2, _, rfl, h2, c3, _, rfl, h3, c4, _, rfl, h4, _, _, rfl, ⟨a, rfl, ha⟩, _, _, rfl, ⟨b, rfl, hb⟩, _, _, rfl, ⟨ho, rfl, hho⟩, _, _, rfl, ⟨bu, rfl, hbu⟩, rfl⟩ :=
   ty_sh n 5 _ _ [.sl t_Section, .sl t_Joint, .sl t_Signal, .sl t_int, .sl t_Route, .int .i64, .int .i64, .int .i64, .int .i64] h (by kernel_rfl)
 obtain ⟨l0, a0, b0, _, e0⟩ := sh_rows (bytes := 24) Sec.enc _ (fun row n h => ty_Section h) (by kernel_rfl) (by omega) h0
 obtain ⟨l1, a1, b1, _, e1⟩ := sh_rows (bytes := 32) Jt.enc _ (fun row n h => ty_Joint h) (by kernel_rfl) (by omega) h1
 obtain ⟨l2, a2, b2, _, e2⟩ := sh_rows (bytes := 16) Sg.enc _ (fun row n h => ty_Signal h) (by kernel_rfl) (by omega) h2
 obtain ⟨l3, a3, b3, _, e3⟩ := sh_rows (bytes := 8) Go.Fw.encI _ (fun row n h => ty_i h) (by kernel_rfl) (by omega) h3
 obtain ⟨rows, l4, a4, q4, b4, _, e4⟩ := sh_rel (bytes := 96) (fun row r => ((∀ s, RtAt Tryz.prog t_Step t_Need t_int s row r) ∧ RtI r) ∧ row[4]? ≠ some .zsl) (fun row n h => ty_RouteZ h) (by kernel_rfl) (by omega) h4
 refine ⟨c0, c1, c2, c3, c4, ⟨l0, l1, l2, l3, l4, a, b, ho, bu⟩, rfl, fun s => ⟨a0 s, a1 s, a2 s, a3 s, rows, a4 s, q4, fun i row r x y => (b4 i row r x y).1.1 s⟩, ⟨b0, b1, b2, b3, ?_, wf_i64 ha, wf_i64 hb, wf_i64 hho, wf_i64 hbu, e0, e1, e2, e3, e4⟩, ?_⟩
 · intro r hr
   obtain ⟨i, hi⟩ := List.mem_iff_getElem?.1 hr
   have hi : l4[i]? = some r := hi
   have hlt := (List.getElem?_eq_some_iff.1 hi).1
   obtain ⟨row, hrow⟩ := get_of_lt (l := rows) (j := i) (by omega)
   exact (b4 i row r hrow hi).1.2
 · have hr := (a4 noS).rows
   cases c4 <;> first | trivial | skip
   obtain ⟨rfl, _⟩ := hr
   intro row hrow
   obtain ⟨i, hi⟩ := List.mem_iff_getElem?.1 hrow
   have hlt := (List.getElem?_eq_some_iff.1 hi).1
   obtain ⟨r, hr⟩ := get_of_lt (l := l4) (j := i) (by omega)
   exact (b4 i row r hi hr).2
end
section
variable {σ σ0 : Store}
theorem CoOwn.fit {s : Store} {d0 d1 d2 d3 d4 d5 : D} {k : Co} (h : CoOwn σ s d0 d1 d2 d3 d4 d5 k) (hl : k.Own.length ≤ 2 ^ 20 ∧ k.Routes.length ≤ 2 ^ 20 ∧ k.Points.length ≤ 2 ^ 20 ∧ k.Xs.length ≤ 2 ^ 20 ∧ k.Lines.length ≤ 2 ^ 20 ∧ k.Resets.length ≤ 2 ^ 20) : CoFit d0 d1 d2 d3 d4 d5 k :=
 ⟨h.own.nz, h.routes.nz, h.points.nz, h.xs.nz, h.lines.nz, h.resets.nz, by omega, by omega, by omega, by omega, by omega, by omega⟩
theorem place_ok {len : Nat} (h : 1 ≤ len ∧ len ≤ 2 ^ 20) (s : Int) : IntKind.wrap .u64 (len : Int) ≠ 0 ∧ ∃ j : Nat, w64 (Int.tmod (IntKind.wrap .u64 s) (IntKind.wrap .u64 (len : Int))) = j ∧ j < len := by
 have e1 : IntKind.wrap .u64 (len : Int) = len := by rw [IntKind.wrap_u64]; omega
 have e2 : 0 ≤ IntKind.wrap .u64 s := by rw [IntKind.wrap_u64]; omega
 rw [e1]
 refine ⟨by omega, (Int.tmod (IntKind.wrap .u64 s) (len : Int)).toNat, ?_⟩
 rw [Int.tmod_eq_emod_of_nonneg e2]
 have a := Int.emod_nonneg (IntKind.wrap .u64 s) (b := (len : Int)) (by omega)
 have b := Int.emod_lt_of_pos (IntKind.wrap .u64 s) (b := (len : Int)) (by omega)
 rw [w64_id (by omega) (by omega)]
 omega
end
section
variable {σ σ0 : Store}
theorem CoPostK.from {σ1 s : Store} {p : Co × Int} {r : RV} (he : Ext σ σ1) (h : CoPostK σ1 p r s) : CoPost σ p r s ∨ (s = σ1 ∧ ∃ d0 d1 d2 d3 d4 d5, r = .tup [coA d0 d1 d2 d3 d4 d5 p.1.Dirty, iA p.2] ∧ CoFz d0 d1 d2 d3 d4 d5 p.1) :=
 h.imp (fun h => h.from he) id
section
variable {c0 c1 c2 c3 c4 k0 k1 k2 k3 k4 k5 : D} {c : Cf} (hc : ∀ s, CfAt s c0 c1 c2 c3 c4 c) {k : Co} (hk : CoFz k0 k1 k2 k3 k4 k5 k)
include hc hk
omit hc hk in
theorem CoPostK.pass {σ1 s : Store} {p : Co × Int} {r : RV} {Q : RV → Store → Prop} (h : CoPostK σ1 p r s) (hq : Q r s) :
   ∃ d d1 d2 d3 d4 d5 : D, ∃ b : Bool, ∃ n1 : Int, r = .tup [.agg [d, d1, d2, d3, d4, d5, .bool b], .one (.int .i64 n1)] ∧ Q (.tup [.agg [d, d1, d2, d3, d4, d5, .bool b], .one (.int .i64 n1)]) s := by
 rcases h with ⟨d0, d1, d2, d3, d4, d5, e, ho⟩ | ⟨_, d0, d1, d2, d3, d4, d5, e, ho⟩
 · refine ⟨d0, d1, d2, d3, d4, d5, p.1.Dirty, p.2, e, ?_⟩
   rw [← e]; exact hq
 · refine ⟨d0, d1, d2, d3, d4, d5, p.1.Dirty, p.2, e, ?_⟩
   rw [← e]; exact hq
omit hc hk in
theorem CoPostZ.pass {σ1 s : Store} {p : Co × Int} {r : RV} {Q : RV → Store → Prop} (h : CoPostZ σ1 p r s) (hq : Q r s) :
   ∃ d d1 d2 d3 d4 d5 : D, ∃ b : Bool, ∃ n1 : Int, r = .tup [.agg [d, d1, d2, d3, d4, d5, .bool b], .one (.int .i64 n1)] ∧ Q (.tup [.agg [d, d1, d2, d3, d4, d5, .bool b], .one (.int .i64 n1)]) s := by
 obtain ⟨_, d0, d1, d2, d3, d4, d5, e, ho⟩ := h
 refine ⟨d0, d1, d2, d3, d4, d5, p.1.Dirty, p.2, e, ?_⟩
 rw [← e]; exact hq
end
end
section
variable {σ σ0 : Store}
theorem free_loop {σ0 : Store} {d0 d1 d2 d3 d4 d5 : D} {k : Co} (h : CoOwn σ0 σ d0 d1 d2 d3 d4 d5 k) {T : Prop} (hT : T) {X : Store → Prop} (hX : ∀ s, CoOwn σ0 s d0 d1 d2 d3 d4 d5 { k with Own := List.replicate k.Own.length 0 } → X s) :
   ∃ len : Nat, Len d0 len ∧ ∃ I : Int → Store → Prop, ∃ μ : Int → Store → Nat, I 0 σ ∧ ∀ n : Int, ∀ σ8 : Store, I n σ8 → bcase (decide (n < (len : Int))) (∃ len1 : Nat, Idx Tryz.prog σ8 d0 1 len1 ∧ (0 : Int) ≤ n ∧ n < (len1 : Int) ∧ storeEl [iD 0] σ8 d0 (Int.toNat n) 0 (fun σ9 => T ∧ I (w64 (n + 1)) σ9 ∧ μ (w64 (n + 1)) σ9 < μ n σ8)) (X σ8) := by
 have hs := h.own.at_.size
 rw [List.length_map] at hs
 refine h.own.at_.lenK ⟨fun n s => ∃ j : Nat, n = j ∧ j ≤ k.Own.length ∧ CoOwn σ0 s d0 d1 d2 d3 d4 d5 { k with Own := List.replicate j 0 ++ k.Own.drop j }, fun n _ => k.Own.length - n.toNat, ⟨0, rfl, by omega, by simpa using h⟩, ?_⟩
 rintro _ s ⟨j, rfl, hj, h'⟩
 rw [List.length_map]
 refine bcd (fun hlt => ?_) (fun hge => hX s ?_)
 · have hlt : j < k.Own.length := by omega
   obtain ⟨o, ho⟩ := get_of_lt hlt
   obtain ⟨hl, he⟩ := List.getElem?_eq_some_iff.1 ho
   have hd : k.Own.drop j = o :: k.Own.drop (j + 1) := by rw [← he]; exact List.drop_eq_getElem_cons hl
   have hx : (List.replicate j (0 : Int) ++ k.Own.drop j)[j]? = some o := by rw [List.getElem?_append_right (by simp), List.length_replicate, Nat.sub_self, hd]; rfl
   refine h'.own.at_.idxK (j := j) c_int rfl (by simp; omega) (h'.putO (k := { k with Own := List.replicate j 0 ++ k.Own.drop j }) hx (by omega) (by simp) (y := 0) rfl fun s' h2 _ => ⟨hT, ?_⟩)
   rw [w64_succ (by omega)]
   refine ⟨⟨j + 1, rfl, by omega, ?_⟩, dec_lt hlt⟩
   have e : (List.replicate j (0 : Int) ++ k.Own.drop j).set j 0 = List.replicate (j + 1) 0 ++ k.Own.drop (j + 1) := by
     rw [List.set_append_right _ _ (by simp), List.length_replicate, Nat.sub_self, hd, List.set_cons_zero, List.replicate_succ']; simp
   rw [← e]; exact h2
 · have e : j = k.Own.length := by omega
   rw [e, List.drop_length, List.append_nil] at h'; exact h'
section
variable {c0 c1 c2 c3 c4 : D} {c : Cf} (hc : ∀ s, CfAt s c0 c1 c2 c3 c4 c)
include hc
end
/-! the laws' example -/
end
end Go.Proofs.YtdlnbehcnfjneaaGreat
namespace Go.Fw
section
theorem opt_nil {b : Bool} {x : Br} (h : b = false) : opt b x = [] := by unfold opt; rw [h]; rfl
theorem ownP_nil {k : Co} {r : Nat} : ∀ {l : List St}, (∀ s ∈ l, ownAt k s.Sec = (r : Int) + 1) → ownP k r l = []
 | [], _ => rfl
 | s :: l, h => by rw [ownP, opt_nil (by rw [h s (by simp)]; simp), ownP_nil fun x hx => h x (by simp [hx])]; rfl
theorem ownsAll_nil {k : Co} : ∀ {l : List Rt} {r : Nat}, (∀ (j : Nat) x, l[j]? = some x → ownP k (r + j) (x.Path.drop (fromOf k (r + j) x.Path.length)) = []) → ownsAll k l r = []
 | [], _, _ => rfl
 | x :: l, r, h => by
   rw [ownsAll, show ownP k r (x.Path.drop (fromOf k r x.Path.length)) = [] from h 0 x rfl, ownsAll_nil fun j y hy => by have := h (j + 1) y (by simpa using hy); rwa [show r + (j + 1) = r + 1 + j by omega] at this]; rfl
theorem idles_nil {k : Co} : ∀ {l : List Int} {s : Nat}, (∀ o ∈ l, (decide (o > 0) && inL [0] (stAt k (o - 1))) = false) → idles k l s = []
 | [], _, _ => rfl
 | o :: l, s, h => by rw [idles, opt_nil (h o (by simp)), idles_nil fun x hx => h x (by simp [hx])]; rfl
theorem needB_nil {k : Co} {r : Nat} : ∀ {l : List Nd}, (∀ n ∈ l, cmdAt k.Points n.Sec = n.Pos) → needB k r l = []
 | [], _ => rfl
 | n :: l, h => by rw [needB, opt_nil (by rw [h n (by simp)]; simp), needB_nil fun x hx => h x (by simp [hx])]; rfl
theorem pointsAll_nil {c : Cf} {k : Co} : ∀ {l : List Rt} {r : Nat}, (∀ (j : Nat) x, l[j]? = some x → runsB (stAt k ((r + j : Nat) : Int)) = true → needB k (r + j) (c.needs x) = []) → pointsAll c k l r = []
 | [], _, _ => rfl
 | x :: l, r, h => by
   rw [pointsAll, pointsAll_nil fun j y hy => by have := h (j + 1) y (by simpa using hy); rwa [show r + (j + 1) = r + 1 + j by omega] at this]
   split
   · rename_i hr; rw [show needB k r (c.needs x) = [] from h 0 x rfl hr]; rfl
   · rfl
theorem gateB_nil {c : Cf} {k : Co} {r : Nat} : ∀ {l : List Int}, (∀ i ∈ l, cmdAt k.Xs i = 1) → gateB c k r l = []
 | [], _ => rfl
 | i :: l, h => by rw [gateB, opt_nil (by rw [h i (by simp)]; simp), gateB_nil fun x hx => h x (by simp [hx])]; rfl
theorem gatesAll_nil {c : Cf} {k : Co} : ∀ {l : List Rt} {r : Nat}, (∀ (j : Nat) x, l[j]? = some x → inL [0] (stAt k ((r + j : Nat) : Int)) = false → gateB c k (r + j) (crossL x.Path c.Xs 0) = []) → gatesAll c k l r = []
 | [], _, _ => rfl
 | x :: l, r, h => by
   rw [gatesAll, gatesAll_nil fun j y hy => by have := h (j + 1) y (by simpa using hy); rwa [show r + (j + 1) = r + 1 + j by omega] at this]
   split
   · rfl
   · rename_i hr; rw [show gateB c k r (crossL x.Path c.Xs 0) = [] from h 0 x rfl (by simpa using hr)]; rfl
theorem linesAll_nil {c : Cf} {k : Co} (h : ∀ l : Nat, lineB c k l = []) : ∀ j, linesAll c k j = []
 | 0 => rfl
 | j + 1 => by rw [linesAll, linesAll_nil h j, h]; rfl
/-! movers behind commands -/
theorem ptsC_other {now : Int} : ∀ {l : List Nd} {w : List Mv} {s : Int}, (∀ n ∈ l, 0 ≤ n.Sec) → s ∉ l.map Nd.Sec → geti (ptsC now l w) s = geti w s
 | [], w, s, _, _ => rfl
 | n :: l, w, s, h, hs => by
   unfold ptsC
   rw [List.foldl_cons]
   have ih := ptsC_other (now := now) (l := l) (w := w.set n.Sec.toNat (cmdM ((geti w n.Sec).getD ⟨0, 0⟩) now n.Pos)) (s := s) (fun x hx => h x (by simp [hx])) (fun e => hs (by simp [List.mem_map] at e ⊢; exact .inr e))
   unfold ptsC at ih
   rw [ih, geti_set_ne (h n (by simp)) (fun e => hs (by simp [e]))]
theorem ptsC_cmd {now : Int} : ∀ {l : List Nd} {w : List Mv}, (l.map Nd.Sec).Nodup → (∀ n ∈ l, 0 ≤ n.Sec ∧ n.Sec < w.length) → ∀ n ∈ l, cmdAt (ptsC now l w) n.Sec = n.Pos
 | x :: l, w, hnd, hr, n, hn => by
   rw [List.map_cons, List.nodup_cons] at hnd
   have h0 := hr x (by simp)
   rcases List.mem_cons.1 hn with rfl | hn'
   · have e := ptsC_other (now := now) (l := l) (w := w.set n.Sec.toNat (cmdM ((geti w n.Sec).getD ⟨0, 0⟩) now n.Pos)) (s := n.Sec) (fun y hy => (hr y (by simp [hy])).1) hnd.1
     unfold ptsC at e ⊢
     rw [List.foldl_cons]
     unfold cmdAt
     rw [e, geti_set_eq h0.1 h0.2]
     exact cmdM_cmd _ _ _
   · have ih := ptsC_cmd (now := now) (l := l) (w := w.set x.Sec.toNat (cmdM ((geti w x.Sec).getD ⟨0, 0⟩) now x.Pos)) hnd.2 (fun y hy => by rw [List.length_set]; exact hr y (by simp [hy])) n hn'
     unfold ptsC at ih ⊢
     rw [List.foldl_cons]; exact ih
theorem xsC_keep {now : Int} : ∀ {l : List Int} {w : List Mv} {i : Int}, (∀ j ∈ l, 0 ≤ j) → 0 ≤ i → cmdAt w i = 1 → cmdAt (xsC now l w) i = 1
 | [], w, i, _, _, h => h
 | j :: l, w, i, hl, hi, h => by
   have ih := xsC_keep (now := now) (l := l) (w := w.set j.toNat (cmdM ((geti w j).getD ⟨0, 0⟩) now 1)) (i := i) (fun x hx => hl x (by simp [hx])) hi (by
     unfold cmdAt
     rw [geti_set (hl j (by simp))]
     split
     · exact cmdM_cmd _ _ _
     · exact h)
   unfold xsC at ih ⊢
   rw [List.foldl_cons]; exact ih
theorem xsC_cmd {now : Int} : ∀ {l : List Int} {w : List Mv}, (∀ j ∈ l, 0 ≤ j ∧ j < w.length) → ∀ i ∈ l, cmdAt (xsC now l w) i = 1
 | j :: l, w, hl, i, hi => by
   have h0 := hl j (by simp)
   rcases List.mem_cons.1 hi with rfl | hi'
   · have e := xsC_keep (now := now) (l := l) (w := w.set i.toNat (cmdM ((geti w i).getD ⟨0, 0⟩) now 1)) (i := i) (fun x hx => (hl x (by simp [hx])).1) h0.1 (by
       unfold cmdAt; rw [geti_set_eq h0.1 h0.2]; exact cmdM_cmd _ _ _)
     unfold xsC at e ⊢
     rw [List.foldl_cons]; exact e
   · have ih := xsC_cmd (now := now) (l := l) (w := w.set j.toNat (cmdM ((geti w j).getD ⟨0, 0⟩) now 1)) (fun x hx => by rw [List.length_set]; exact hl x (by simp [hx])) i hi'
     unfold xsC at ih ⊢
     rw [List.foldl_cons]; exact ih
theorem needs_sub (c : Cf) : ∀ l : List St, List.Sublist ((l.filterMap (needOf c)).map Nd.Sec) (l.map St.Sec)
 | [] => .slnil
 | s :: l => by
   have ih := needs_sub c l
   cases hn : needOf c s with
   | none => rw [List.filterMap_cons_none hn]; exact ih.cons _
   | some n =>
     rw [List.filterMap_cons_some hn, List.map_cons, List.map_cons]
     have : n.Sec = s.Sec := by
       unfold needOf at hn
       split at hn
       · cases hn
       · split at hn
         · cases hn
         · split at hn
           · cases hn
           · injection hn with hn; rw [← hn]
     rw [this]; exact ih.cons_cons _
theorem needs_nodup {c : Cf} {r : Rt} (h : RtOk c r) : ((c.needs r).map Nd.Sec).Nodup := by
 unfold Cf.needs
 rw [List.map_append, List.nodup_append]
 refine ⟨(needs_sub c r.Path).nodup h.dup, h.fl.2, fun a ha b hb e => ?_⟩
 subst e
 have ha := (needs_sub c r.Path).subset ha
 obtain ⟨s, hs, rfl⟩ := List.mem_map.1 ha
 obtain ⟨n, hn, hn2⟩ := List.mem_map.1 hb
 have := (h.fl.1 n hn).path
 unfold hasSec at this
 rw [List.any_eq_false] at this
 exact this s hs (by simp [hn2])
def oneK (c : Cf) (a : Int) : Co := (openK c).lockC c 1 a
structure OneIs (c : Cf) (k : Co) (a : Nat) : Prop where
 fit : k.fits c = true
 own : ∀ s ∈ c.lockL a, geti k.Own s = some ((a : Int) + 1)
 owns : ∀ o ∈ k.Own, o = 0 ∨ o = (a : Int) + 1
 st : stAt k a = 1
 oth : ∀ j : Nat, j ≠ a → stAt k j = 0
 pts : ∀ n ∈ c.Needs a, cmdAt k.Points n.Sec = n.Pos
 xs : ∀ i ∈ c.Cross a, cmdAt k.Xs i = 1
 lns : ∀ l : Nat, ((k.Lines[l]?).getD zLs).Done = 0 ∧ 0 ≤ ((k.Lines[l]?).getD zLs).Ask ∧ ((k.Lines[l]?).getD zLs).Told = 0 ∧ ((k.Lines[l]?).getD zLs).Grant = 0
theorem one_is {c : Cf} (hok : c.check = 0) {a : Nat} {x : Rt} (hx : c.Rts[a]? = some x) : OneIs c (oneK c a) a := by
 have gx : geti c.Rts (a : Int) = some x := by rw [geti_nat]; exact hx
 have hal := (List.getElem?_eq_some_iff.1 hx).1
 have hof := open_fits hok
 have hoi := fits_iff.1 hof
 have hre := open_req hok gx
 have hf := lock_fits (now := 1) hof (by decide) hre
 have hr := check_rt hok (List.mem_of_getElem? hx)
 have hsm := check_small hok
 have hst : geti (openK c).Routes (a : Int) = some ⟨0, 0, 0, 0⟩ := geti_rep (by omega) (by omega)
 refine ⟨hf, fun s hs => lock_own hoi 1 gx hs, fun o ho => ?_, ?_, fun j hj => ?_, ?_, ?_, fun l => ?_⟩
 · rcases ownC_mem _ _ ho with ho | e
   · exact .inl (List.mem_replicate.1 ho).2
   · exact .inr e
 · unfold stAt oneK; rw [lock_state hst]; rfl
 · unfold stAt
   show ((geti ((List.replicate c.Rts.length (⟨0, 0, 0, 0⟩ : Rs)).set (a : Int).toNat ⟨1, 0, 0, 0⟩) (j : Int)).map Rs.State).getD 0 = 0
   rw [geti_set_ne (by omega) (by omega)]
   cases hg : geti (List.replicate c.Rts.length (⟨0, 0, 0, 0⟩ : Rs)) (j : Int) with
   | none => rfl
   | some y => rw [(List.mem_replicate.1 (geti_mem hg)).2]; rfl
 · have e : c.Needs a = c.needs x := by rw [Cf.Needs, rt_some gx]
   rw [e]
   show ∀ n ∈ c.needs x, cmdAt (ptsC 1 (c.Needs a) (openK c).Points) n.Sec = n.Pos
   rw [e]
   refine ptsC_cmd (needs_nodup hr) fun n hn => ?_
   obtain ⟨⟨z, hz⟩, _⟩ := needs_sec hr hn
   have := geti_some hz
   have := hoi.lPts
   omega
 · show ∀ i ∈ c.Cross a, cmdAt (xsC 1 (c.Cross a) (openK c).Xs) i = 1
   refine xsC_cmd fun i hi => ?_
   obtain ⟨i', xx, e3, hxx, _⟩ := crossL_mem _ _ _ _ hi
   have hil := (List.getElem?_eq_some_iff.1 hxx).1
   have := hoi.lXs
   omega
 · have hz : ∀ l : Nat, ((List.replicate 4 zLs)[l]?).getD zLs = zLs := fun l => by rw [List.getElem?_replicate]; split <;> rfl
   show (((askC (lineF c (c.rt a).Path) (List.replicate 4 zLs))[l]?).getD zLs).Done = 0 ∧ 0 ≤ (((askC (lineF c (c.rt a).Path) (List.replicate 4 zLs))[l]?).getD zLs).Ask ∧ (((askC (lineF c (c.rt a).Path) (List.replicate 4 zLs))[l]?).getD zLs).Told = 0 ∧ (((askC (lineF c (c.rt a).Path) (List.replicate 4 zLs))[l]?).getD zLs).Grant = 0
   unfold askC
   split
   · have hgz : (geti (List.replicate 4 zLs) (lineF c (c.rt a).Path)).getD zLs = zLs := geti_d (p := fun x : Ls => x = zLs) rfl fun x hx => (List.mem_replicate.1 hx).2
     rw [hgz, List.getElem?_set]
     split
     · split
       · exact ⟨rfl, by decide, rfl, rfl⟩
       · exact ⟨rfl, by decide, rfl, rfl⟩
     · rw [hz]; exact ⟨rfl, by decide, rfl, rfl⟩
   · rw [hz]; exact ⟨rfl, by decide, rfl, rfl⟩
theorem lockL_path {c : Cf} {a : Int} {x : Rt} (hx : geti c.Rts a = some x) {s : St} (hs : s ∈ x.Path) : s.Sec ∈ c.lockL a := by
 unfold Cf.lockL; rw [hx]; exact mem_lockR.2 (.inr (.inl (List.mem_map.2 ⟨s, hs, rfl⟩)))
theorem one_judge {c : Cf} {k : Co} {a : Nat} {x : Rt} (h : OneIs c k a) (hx : c.Rts[a]? = some x) : k.judge c = [] := by
 have gx : geti c.Rts (a : Int) = some x := by rw [geti_nat]; exact hx
 have e1 : ownsAll k c.Rts 0 = [] := ownsAll_nil fun j y hy => by
   rw [Nat.zero_add]
   by_cases e : j = a
   · subst e
     rw [hx] at hy; cases hy
     have hf : fromOf k j x.Path.length = 0 := by unfold fromOf; rw [h.st]; rfl
     rw [hf, List.drop_zero]
     refine ownP_nil fun s hs => ?_
     unfold ownAt
     rw [h.own _ (lockL_path gx hs)]; rfl
   · have hf : fromOf k j y.Path.length = y.Path.length := by unfold fromOf; rw [h.oth j e]; rfl
     rw [hf, List.drop_length]; rfl
 have e2 : idles k k.Own 0 = [] := idles_nil fun o ho => by
   rcases h.owns o ho with rfl | rfl
   · rfl
   · rw [show ((a : Int) + 1 - 1) = a by omega, h.st]; simp [inL]
 have e3 : pointsAll c k c.Rts 0 = [] := pointsAll_nil fun j y hy hr => by
   rw [Nat.zero_add] at hr ⊢
   by_cases e : j = a
   · subst e
     rw [hx] at hy; cases hy
     exact needB_nil fun n hn => h.pts n (by rw [Cf.Needs, rt_some gx]; exact hn)
   · rw [h.oth j e] at hr; cases hr
 have e4 : gatesAll c k c.Rts 0 = [] := gatesAll_nil fun j y hy hr => by
   rw [Nat.zero_add] at hr ⊢
   by_cases e : j = a
   · subst e
     rw [hx] at hy; cases hy
     exact gateB_nil fun i hi => h.xs i (by rw [Cf.Cross, rt_some gx]; exact hi)
   · rw [h.oth j e] at hr; simp [inL] at hr
 have e5 : linesAll c k 3 = [] := linesAll_nil (fun l => by
   unfold lineB
   refine opt_nil ?_
   obtain ⟨b1, b2, b3, b4⟩ := h.lns l
   rw [b1, b3, b4]
   have hi : (ownAt k (c.lineSec (l : Int)) == -2) = false := by
     have : ownAt k (c.lineSec (l : Int)) = 0 ∨ ownAt k (c.lineSec (l : Int)) = (a : Int) + 1 := geti_d (p := fun o : Int => o = 0 ∨ o = (a : Int) + 1) (.inl rfl) h.owns
     rcases this with e | e <;> rw [e]
     · rfl
     · simp; omega
   rw [hi]
   simp
   intro _
   omega) 3
 unfold Co.judge
 rw [if_pos h.fit, e1, e2, e3, e4, e5]; rfl
theorem own_fits' {c : Cf} {k : Co} (h : k.fits c = true) {n : Nat} {o : Int} (ho : -2 ≤ o ∧ o ≤ 0) : Co.fits c { k with Own := k.Own.set n o } = true := by
 have h0 := fits_iff.1 h
 refine fits_iff.2 ⟨h0.chk, by simp only [List.length_set]; exact h0.lOwn, h0.lPts, h0.lRes, h0.lRts, h0.lXs, h0.lLn, fun z hz => ?_, h0.rts, h0.pts, h0.xs, h0.lns, h0.res⟩
 rcases List.mem_or_eq_of_mem_set hz with hz | rfl
 · exact h0.own z hz
 · omega
theorem ownP_mem {k : Co} {r : Nat} {s : St} : ∀ {l : List St}, s ∈ l → ownAt k s.Sec ≠ (r : Int) + 1 → (⟨2, r, s.Sec⟩ : Br) ∈ ownP k r l
 | y :: l, hs, hne => by
   rw [ownP]
   rcases List.mem_cons.1 hs with rfl | hs
   · refine List.mem_append_left _ ?_
     unfold opt; rw [if_pos (by simpa using hne)]; simp
   · exact List.mem_append_right _ (ownP_mem hs hne)
theorem ownsAll_mem {k : Co} {b : Br} : ∀ {l : List Rt} {r j : Nat} {x : Rt}, l[j]? = some x → b ∈ ownP k (r + j) (x.Path.drop (fromOf k (r + j) x.Path.length)) → b ∈ ownsAll k l r
 | y :: l, r, j, x, hx, hb => by
   rw [ownsAll]
   cases j with
   | zero => simp at hx; subst hx; exact List.mem_append_left _ hb
   | succ j => exact List.mem_append_right _ (ownsAll_mem (j := j) (by simpa using hx) (by rwa [show r + 1 + j = r + (j + 1) by omega]))
theorem one_found {c : Cf} {k : Co} {a : Nat} {x : Rt} (h : OneIs c k a) (hx : c.Rts[a]? = some x) {s : St} (hs : s ∈ x.Path) {o : Int} (ho : -2 ≤ o ∧ o ≤ 0) :
   (⟨2, a, s.Sec⟩ : Br) ∈ Co.judge c { k with Own := k.Own.set s.Sec.toNat o } := by
 have gx : geti c.Rts (a : Int) = some x := by rw [geti_nat]; exact hx
 have hg := geti_some (h.own _ (lockL_path gx hs))
 have hf := own_fits' (n := s.Sec.toNat) h.fit ho
 unfold Co.judge
 rw [if_pos hf]
 refine List.mem_append_left _ (List.mem_append_left _ (List.mem_append_left _ (List.mem_append_left _ (ownsAll_mem hx ?_))))
 rw [Nat.zero_add]
 have hst : stAt { k with Own := k.Own.set s.Sec.toNat o } (a : Int) = 1 := h.st
 have hfr : fromOf { k with Own := k.Own.set s.Sec.toNat o } a x.Path.length = 0 := by unfold fromOf; rw [hst]; rfl
 rw [hfr, List.drop_zero]
 refine ownP_mem hs ?_
 unfold ownAt
 show (geti (k.Own.set s.Sec.toNat o) s.Sec).getD 0 ≠ _
 rw [geti_set_eq hg.1 hg.2.1, Option.getD_some]; omega
theorem worse_same : ∀ (l : List Int) (j : Nat), worseL (l.zip l) j = []
 | [], _ => rfl
 | x :: l, j => by rw [List.zip_cons_cons, worseL, if_neg (by simp)]; exact worse_same l _
theorem worse_set : ∀ (l : List Int) (i j : Nat) {x o : Int}, l[i]? = some x → x ≠ 0 → o ≠ x → (worseL (l.zip (l.set i o)) j).length = if o = 0 then 0 else 1
 | y :: l, 0, j, x, o, h, hx, ho => by
   simp at h; subst h
   rw [List.set_cons_zero, List.zip_cons_cons, worseL]
   by_cases e : o = 0
   · rw [if_neg (by simp [e]), worse_same, if_pos e]; rfl
   · rw [if_pos ⟨fun h => ho h.symm, hx, e⟩, List.length_cons, worse_same, if_neg e]; rfl
 | y :: l, i + 1, j, x, o, h, hx, ho => by
   rw [List.set_cons_succ, List.zip_cons_cons, worseL, if_neg (by simp)]
   exact worse_set l i (j + 1) (by simpa using h) hx ho
theorem one_worse {c : Cf} {k : Co} {a : Nat} {x : Rt} (h : OneIs c k a) (hx : c.Rts[a]? = some x) {s : St} (hs : s ∈ x.Path) {o : Int} (ho : -2 ≤ o ∧ o ≤ 0) :
   (Co.worse c k { k with Own := k.Own.set s.Sec.toNat o }).length = if o = 0 then 0 else 1 := by
 have gx : geti c.Rts (a : Int) = some x := by rw [geti_nat]; exact hx
 have hg := geti_some (h.own _ (lockL_path gx hs))
 unfold Co.worse
 rw [if_pos ⟨h.fit, own_fits' h.fit ho⟩]
 exact worse_set _ _ _ hg.2.2 (by omega) (by omega)
end
end Go.Fw
namespace Go.Proofs.YtdlnbehcnfjneaaGreat
open Go.Fw Go.Proofs Go.RowKit
section
variable {σ σ0 : Store}
theorem law22_WatchFinds_ok {xs : List A} (h : TyAs Tryz.prog [t_Config, t_int, t_int] xs) : LawTrue n_law22_WatchFinds xs := by
 obtain ⟨a0, xs, rfl, h0, hr0⟩ := tys_cons h
 obtain ⟨a1, xs, rfl, h1, hr1⟩ := tys_cons hr0
 obtain ⟨a2, xs, rfl, h2, hr2⟩ := tys_cons hr1
 obtain rfl := tys_nil hr2
 obtain ⟨cs, _, rfl, p0⟩ := tya_agg h0 (by kernel_rfl)
 obtain ⟨c0, c1, c2, c3, c4, c, rfl, hc, hci, hz⟩ := ty_ConfigZ p0
 obtain ⟨ra, rfl, _⟩ := tya_int h1 (by kernel_rfl) (by kernel_rfl)
 obtain ⟨rb, rfl, _⟩ := tya_int h2 (by kernel_rfl) (by kernel_rfl)
 clear h h0 h1 h2 hr0 hr1 hr2 p0
 refine W_law22_WatchFinds _ _ _ _ _ _ _ _ _ ra rb noS _ (law22_lives_ok.use ⟨true, rfl, bcnot (fun e => by cases e) (fun _ => ?_)⟩)
 intro R hR
 refine (ref06_Check_ok hc).use ⟨_, rfl, bcn (fun _ => rfl) (fun hok => ?_)⟩
 have hsm := check_small hok
 obtain ⟨rows, hat, hlen⟩ := rts_len (hc noS)
 refine hat.lenK (bce (fun _ => rfl) (fun hne => hR noS ?_))
 rw [hlen] at hne
 obtain ⟨w1, a, ha, hal⟩ := place_ok (len := c.Rts.length) ⟨by omega, by omega⟩ ra
 refine hat.lenK ?_
 rw [hlen, ha]
 refine ⟨w1, (locks_New_ok hc 0 (by omega) (by omega) (by omega)).mono ?_⟩
 obtain ⟨x, hx⟩ := get_of_lt (l := c.Rts) (j := a) hal
 have gx : geti c.Rts (a : Int) = some x := by rw [geti_nat, hx]
 have hrx := check_rt hok (geti_mem gx)
 have hpl := hrx.len
 obtain ⟨w2, b, hb, hbl⟩ := place_ok (len := x.Path.length) ⟨by omega, by omega⟩ rb
 have hof := open_fits hok
 have hq1 : (openK c).requestC c 1 a = (oneK c a, 0) := by
   have gt : (openK c).gate c 1 0 = 0 := by rw [Co.gate, if_neg (by rw [hof]; decide), if_neg (by decide)]
   rw [Co.requestC, Co.done, open_req hok gx, gt]; rfl
 have hO := one_is hok hx
 generalize oneK c a = K at hq1 hO
 have hKf := fits_small' hO.fit
 have hKi := fits_iff.1 hO.fit
 rintro r s ⟨k0, k1, k2, k3, k4, k5, rfl, hk⟩
 refine ⟨_, _, _, _, _, _, _, rfl, free_loop hk (by rfl) fun s1 hk1 => ?_⟩
 have e5 : (newCo c 0).Own.length = c.Secs.length := by simp [newCo]
 rw [e5] at hk1
 have hk1 : CoOwn noS s1 k0 k1 k2 k3 k4 k5 (openK c) := hk1
 refine (locks_Request_ok (k := openK c) hc hk1.at (hk1.fit (by have := fits_small' hof; omega)) hz 1 a).mono ?_
 rintro r s2 ⟨d0, d1, d2, d3, d4, d5, rfl, hd⟩
 rw [hq1] at hd ⊢
 replace hd : CoOwn s1 s2 d0 d1 d2 d3 d4 d5 K := hd
 refine ⟨_, _, _, _, _, _, _, _, rfl, ?_⟩
 intro R1 hR1
 refine bcn (fun e => absurd rfl e) (fun _ => (watch_Judge_z hc hd.at).mono ?_)
 rintro q s3 ⟨rfl, e0, rfl, he0⟩
 rw [one_judge hO hx] at he0
 refine ⟨_, rfl, (he0 s3).lenK (bcn (fun e => absurd rfl e) (fun _ => ⟨rfl, hR1 s3 ?_⟩))⟩
 obtain ⟨rows', x1, x2, x3, hat', hlen', hrow', px, _, _⟩ := rt_frz hc hx
 refine (hat' s3).load hrow' c_Route rfl ⟨x1, rfl, (hat' s3).load hrow' c_Route rfl ⟨x1, rfl, (px s3).lenK ?_⟩⟩
 rw [List.length_map, hb]
 obtain ⟨y, hy⟩ := get_of_lt (l := x.Path) (j := b) hbl
 have hym := List.mem_of_getElem? hy
 have hyo := geti_some (hO.own _ (lockL_path gx hym))
 refine ⟨w2, (px s3).load (map_get hy) c_Step rfl ⟨y.Sec, rfl, newObj_intro fun id s4 hid _ he4 g4 => ?_⟩⟩
 have hat4 : At Tryz.prog s4 t_int (.osl id 0 3) (([0, -1, -2] : List Int).map Go.Fw.encI) := At.fresh g4 (by simp) rfl
 refine hat4.lenK ⟨fun n s => Ext s4 s ∧ ∃ j : Nat, n = j ∧ j ≤ 3, fun n _ => 3 - n.toNat, ⟨.refl _, 0, rfl, by omega⟩, ?_⟩
 rintro n s5 ⟨he5, j, rfl, hj⟩
 refine bcd (fun hlt => ?_) (fun _ => rfl)
 have hjl : j < 3 := by simp at hlt; omega
 obtain ⟨o, ho⟩ := get_of_lt (l := ([0, -1, -2] : List Int)) (j := j) hjl
 have ho2 : -2 ≤ o ∧ o ≤ 0 := by
   have := List.mem_of_getElem? ho
   simp at this
   omega
 have hd5 := hd.ext' (he4.trans he5)
 refine (hat4.ext he5).load (map_get ho) c_int rfl ⟨o, rfl, (ref13_Copied_ok hd5.at (by omega) (by omega) (by omega) (by omega) (by omega) (by omega)).mono ?_⟩
 rintro q s6 ⟨f0, f1, f2, f3, f4, f5, rfl, hf⟩
 refine ⟨_, _, _, _, _, _, _, rfl, hf.own.at_.idxK c_int (Int.toNat_of_nonneg hyo.1).symm (by rw [List.length_map]; omega) ?_⟩
 refine hf.putO (y := o) hyo.2.2 rfl (by simp) rfl fun s7 hf7 _ => ?_
 have hd7 := hd5.ext' hf7.own.ext
 have hfound := one_found hO hx hym ho2
 have hworse := one_worse hO hx hym ho2
 generalize hN : ({ K with Own := K.Own.set y.Sec.toNat o } : Co) = N at hf7 hfound hworse
 have hdirty : K.Dirty = N.Dirty := by rw [← hN]
 have hWs : ∀ s9, CoAt s9 d0 d1 d2 d3 d4 d5 K → CoAt s9 f0 f1 f2 f3 f4 f5 N → DCalls Tryz.prog n_watch_Worse [cfA c0 c1 c2 c3 c4 c, coA d0 d1 d2 d3 d4 d5 N.Dirty, coA f0 f1 f2 f3 f4 f5 N.Dirty] s9 (SlPost s9 t_int ((K.worse c N).map Go.Fw.encI)) := fun s9 h1 h2 => by
   have := watch_Worse_z hc h1 h2
   rw [hdirty] at this; exact this
 rw [hdirty]
 refine (watch_Judge_z hc hf7.at).mono ?_
 rintro q s8 ⟨rfl, g, rfl, hg⟩
 have hgz := (hg s8).size
 rw [List.length_map] at hgz
 refine ⟨_, rfl, (hg s8).lenK ⟨fun b' m s => s = s8 ∧ ∃ i : Nat, m = i ∧ i ≤ (N.judge c).length ∧ (b' = true ∨ ∃ i' : Nat, i ≤ i' ∧ (N.judge c)[i']? = some ⟨2, a, y.Sec⟩), fun _ m _ => (N.judge c).length - m.toNat, ⟨rfl, 0, rfl, by omega, ?_⟩, ?_⟩⟩
 · right
   obtain ⟨i', hi'⟩ := List.mem_iff_getElem?.1 hfound
   exact ⟨i', by omega, hi'⟩
 rintro b' m s ⟨rfl, i, rfl, hi, hb'⟩
 rw [List.length_map]
 have nxt : ∀ b'' : Bool, (b'' = true ∨ ∃ i' : Nat, i + 1 ≤ i' ∧ (N.judge c)[i']? = some ⟨2, a, y.Sec⟩) → i < (N.judge c).length → (s = s ∧ ∃ i2 : Nat, w64 ((i : Int) + 1) = i2 ∧ i2 ≤ (N.judge c).length ∧ (b'' = true ∨ ∃ i' : Nat, i2 ≤ i' ∧ (N.judge c)[i']? = some ⟨2, a, y.Sec⟩)) ∧ (N.judge c).length - (w64 ((i : Int) + 1)).toNat < (N.judge c).length - ((i : Nat) : Int).toNat := fun b'' h hlt => by
   rw [w64_succ (by omega)]; exact ⟨⟨rfl, i + 1, rfl, by omega, h⟩, dec_lt (by omega)⟩
 refine bcd (fun hlt => ?_) (fun hge => ?_)
 · obtain ⟨br, hbr⟩ := get_of_lt (l := N.judge c) (j := i) (by omega)
   refine (hg s).load (map_get hbr) c_Breach rfl ⟨br.Kind, br.Route, br.Sec, rfl, bc (fun e => ⟨rfl, nxt true (.inl rfl) (by omega)⟩) (fun e => ⟨rfl, nxt _ ?_ (by omega)⟩)⟩
   rcases hb' with h | ⟨i', h1, h2⟩
   · rw [h] at e; cases e
   · by_cases ei : i' = i
     · subst ei
       rw [hbr] at h2; injection h2 with h2
       left; rw [h2]; simp
     · exact .inr ⟨i', by omega, h2⟩
 have hb'' : b' = true := by
   rcases hb' with h | ⟨i', h1, h2⟩
   · exact h
   · have := (List.getElem?_eq_some_iff.1 h2).1
     omega
 have go : (Ext s4 s ∧ ∃ j' : Nat, w64 ((j : Int) + 1) = j' ∧ j' ≤ 3) ∧ 3 - (w64 ((j : Int) + 1)).toNat < 3 - ((j : Nat) : Int).toNat := by
   rw [w64_succ (by omega)]
   exact ⟨⟨he5.trans hf7.own.ext, j + 1, rfl, by omega⟩, dec_lt hjl⟩
 refine bcnot (fun e => by rw [hb''] at e; cases e) (fun _ => (hWs _ hd7.at hf7.at).mono ?_)
 rintro q s9 ⟨rfl, g2, rfl, hg2⟩
 have again : o = 0 → DCalls Tryz.prog n_watch_Worse [cfA c0 c1 c2 c3 c4 c, coA d0 d1 d2 d3 d4 d5 N.Dirty, coA f0 f1 f2 f3 f4 f5 N.Dirty] s9 fun r7 s13 => ∃ d22 : D, r7 = .a (.one d22) ∧ ∃ len11 : Nat, Len d22 len11 ∧ (len11 = 0 ∧ s13 = s9) := fun h0 => by
   refine (hWs _ hd7.at hf7.at).mono ?_
   rintro q s10 ⟨rfl, g3, rfl, hg3⟩
   refine ⟨_, rfl, _, (hg3 s10).lenI, ?_, rfl⟩
   rw [List.length_map, hworse, if_pos h0]
 refine ⟨_, rfl, (hg2 s9).lenK ?_⟩
 rw [List.length_map, hworse]
 refine bcn (fun e1 => bcn (fun e2 => ?_) (fun e2 => bce (fun _ => ?_) (fun e => absurd e2 e))) (fun e1 => bce (fun e2 => ?_) (fun _ => ⟨rfl, go⟩))
 · rw [if_neg e2] at e1; exact absurd rfl e1
 · refine (again e2).mono ?_
   rintro q s10 ⟨g3, rfl, len, hl, hl0, rfl⟩
   exact ⟨_, rfl, len, hl, by rw [hl0]; exact bcn (fun e => absurd rfl e) (fun _ => ⟨rfl, go⟩)⟩
 · rw [if_pos e2] at e1; exact absurd e1 (by decide)
end
end Go.Proofs.YtdlnbehcnfjneaaGreat
