/-
  Proofs that the statement of this claim leans on: part 5.
-/
import Derived.Test.YtjdpkjembijbeaaP4
set_option linter.unusedVariables false
set_option linter.unusedSimpArgs false
namespace Go.Proofs.Ytjdpkjembijbeaa
open Go.Fw Go.Proofs Go.RowKit
section
variable {σ : Store}
theorem ref06_sameInts_ok {a b : D} {la lb : List Int} (ha : At Try.prog σ t_int a (la.map Go.Fw.encI)) (hb : At Try.prog σ t_int b (lb.map Go.Fw.encI)) : Pure Try.prog n_ref06_sameInts [.one a, .one b] σ (.a (bA (decide (la = lb)))) := by
 have hs := ha.size
 rw [List.length_map] at hs
 refine W_ref06_sameInts a b σ _ (ha.lenK (hb.lenK ?_))
 rw [List.length_map, List.length_map]
 refine bcn (fun hne => ⟨?_, rfl⟩) (fun he => ha.lenK ?_)
 · rw [decide_eq_false (fun e => hne (by rw [e]))]
 have hl : la.length = lb.length := by omega
 rw [List.length_map]
 refine ⟨fun n s => s = σ ∧ EqR la lb n, fun n _ => la.length - n.toNat, ⟨rfl, .start _ _⟩, ?_⟩
 rintro n s ⟨rfl, hr⟩
 refine bcd (fun hlt => ?_) (fun hge => ⟨?_, rfl⟩)
 · obtain ⟨j, x, y, rfl, hx, hy, hn, hy2⟩ := hr.step hl rfl hs hlt
   refine ha.load (map_get hx) c_int rfl ⟨x, rfl, hb.load (map_get hy) c_int rfl ⟨y, rfl, bcn (fun e => ⟨?_, rfl⟩) (fun e => andl rfl (hy2 e))⟩⟩
   rw [decide_eq_false (hn e)]
 · rw [decide_eq_true (hr.done hl rfl hge)]
theorem ref06_SameNeeds_ok {a b : D} {la lb : List Nd} (ha : At Try.prog σ t_Need a (la.map Nd.enc)) (hb : At Try.prog σ t_Need b (lb.map Nd.enc)) : Pure Try.prog n_ref06_SameNeeds [.one a, .one b] σ (.a (bA (decide (la = lb)))) := by
 have hs := ha.size
 rw [List.length_map] at hs
 refine W_ref06_SameNeeds a b σ _ (ha.lenK (hb.lenK ?_))
 rw [List.length_map, List.length_map]
 refine bcn (fun hne => ⟨?_, rfl⟩) (fun he => ha.lenK ?_)
 · rw [decide_eq_false (fun e => hne (by rw [e]))]
 have hl : la.length = lb.length := by omega
 rw [List.length_map]
 refine ⟨fun n s => s = σ ∧ EqR la lb n, fun n _ => la.length - n.toNat, ⟨rfl, .start _ _⟩, ?_⟩
 rintro n s ⟨rfl, hr⟩
 refine bcd (fun hlt => ?_) (fun hge => ⟨?_, rfl⟩)
 · obtain ⟨j, x, y, rfl, hx, hy, hn, hy2⟩ := hr.step hl rfl hs hlt
   refine ha.load (map_get hx) c_Need rfl ⟨x.Sec, x.Pos, rfl, hb.load (map_get hy) c_Need rfl ⟨y.Sec, y.Pos, rfl, bcnot (fun e => ⟨?_, rfl⟩) (fun e => andl rfl (hy2 ?_))⟩⟩
   · rw [decide_eq_false (hn fun g => by rw [g] at e; simp at e)]
   · simp at e; cases x; cases y; simp at e; simp [e]
 · rw [decide_eq_true (hr.done hl rfl hge)]
section
variable {c0 c1 c2 c3 c4 : D} {c : Cf} (h : ∀ s, CfAt s c0 c1 c2 c3 c4 c)
include h
theorem ref06_path_ok (ht : topoOk c.Secs c.Jts = true) (hsg : c.sigsOk = true) (r : Rt) {d1 d2 d3 : D} (hp : ∀ s, At Try.prog s t_Step d1 (r.Path.map St.enc)) :
   Pure Try.prog n_ref06_path [cfA c0 c1 c2 c3 c4 c, rtA d1 d2 d3 r] σ (.a (bA (c.path r))) := by
 have hl := (hp σ).size
 rw [List.length_map] at hl
 refine .of (W_ref06_path _ _ _ _ _ _ _ _ _ _ _ d1 d2 d3 _ σ _ ?_) (flat_b _)
 intro R hR
 have no : c.path r = false → (RV.a (bA false) = .a (bA (c.path r)) ∧ Ext σ σ) := fun e => ⟨by rw [e], .refl _⟩
 refine bcd (fun e => no (by rw [Cf.path, geti_neg e])) (fun e0 => (h σ).sigs.lenK ?_)
 rw [List.length_map]
 refine bcd (fun e => no (by rw [Cf.path, geti_ge e])) (fun e1 => ?_)
 obtain ⟨a, hg⟩ := geti_ex e0 e1
 have hpath : c.path r = ((decide (r.Exit = -1) || (geti c.Sigs r.Exit).isSome) && decide (1 ≤ r.Path.length ∧ r.Path.length ≤ 8) && prunA c r (geti c.Sigs r.Exit) r.Path a [a.Sec]) := by rw [Cf.path, hg]
 refine bcd (fun e => no (by rw [hpath, geti_neg (by omega), decide_eq_false (by omega)]; rfl)) (fun e2 => (h σ).sigs.lenK ?_)
 rw [List.length_map]
 refine bcd (fun e => no (by rw [hpath, geti_ge e, decide_eq_false (by omega)]; rfl)) (fun e3 => (hp σ).lenK ?_)
 rw [List.length_map]
 refine bcd (fun e => no (by rw [hpath, decide_eq_false (p := 1 ≤ r.Path.length ∧ _) (by omega), Bool.and_false, Bool.false_and])) (fun e4 => (hp σ).lenK ?_)
 rw [List.length_map]
 refine bcd (fun e => no (by rw [hpath, decide_eq_false (p := 1 ≤ r.Path.length ∧ _) (by omega), Bool.and_false, Bool.false_and])) (fun e5 => hR σ ?_)
 have hex1 : (decide (r.Exit = -1) || (geti c.Sigs r.Exit).isSome) = true := by
   by_cases e : r.Exit = -1
   · rw [decide_eq_true e]; rfl
   · obtain ⟨x, hx⟩ := geti_ex (l := c.Sigs) (i := r.Exit) (by omega) e3
     rw [hx]; simp
 rw [hex1, decide_eq_true (by omega), Bool.true_and, Bool.true_and] at hpath
 have hgs := geti_some hg
 refine (h σ).sigs.load (map_get hgs.2.2) c_Signal (by omega) ⟨a.Sec, a.End_, rfl, newObj_intro fun id s1 hid _ he1 hs1 => (hp s1).lenK ?_⟩
 rw [List.length_map]
 refine ⟨fun m e d n s => ∃ seen : List Int, Own Try.prog σ s t_int d (seen.reverse.map Go.Fw.encI) ∧ (seen.length : Int) ≤ n + 1 ∧ Rng r.Path (fun q => prunA c r (geti c.Sigs r.Exit) q ⟨m, e⟩ seen = c.path r) n, fun _ _ _ n _ => r.Path.length - n.toNat,
   ⟨[a.Sec], .at_new hid he1 hs1 (by simp) rfl, by simp, .start hpath.symm⟩, ?_⟩
 rintro m e d n s ⟨seen, ho, hsl, hr⟩
 refine bcd (fun hlt => ?_) (fun hge => ?_)
 · obtain ⟨j, x, rfl, hx, hj, hF, nx⟩ := hr.step rfl hl hlt
   intro R1 hR1
   refine (hp s).load (map_get hx) c_Step rfl ⟨x.Sec, x.In, x.Out, rfl, (ref05_Next_ok m e (h s).jts).use (opt2_ex _ ?_)⟩
   rw [prunA] at hF
   have hes := ho.ext
   have bad : pstep c r (geti c.Sigs r.Exit) ⟨m, e⟩ x (r.Path.drop (j + 1)).isEmpty seen = false → (RV.a (.one (.bool false)) = .a (bA (c.path r)) ∧ Ext σ s) := fun hb => by
     rw [hb] at hF
     exact ⟨by rw [← hF]; rfl, hes⟩
   have good : pstep c r (geti c.Sigs r.Exit) ⟨m, e⟩ x (r.Path.drop (j + 1)).isEmpty seen = true → ∀ s' d', Own Try.prog σ s' t_int d' ((x.Sec :: seen).reverse.map Go.Fw.encI) → R1 x.Sec x.Out d' s' := fun hb s' d' ho' => by
     rw [hb, Bool.true_and] at hF
     have hn := nx (fun q => prunA c r (geti c.Sigs r.Exit) q ⟨x.Sec, x.Out⟩ (x.Sec :: seen) = c.path r) hF
     exact hR1 _ _ _ _ ⟨⟨x.Sec :: seen, ho', by rw [w64_succ (by omega), List.length_cons]; omega, hn.1⟩, hn.2⟩
   intro R2 hR2
   rw [pstep] at bad good
   cases hn : nxt c.Jts m e with
   | none =>
     rw [hn] at bad
     exact bcnot (fun _ => bad rfl) (fun e => by cases e)
   | some p =>
     obtain ⟨q, i⟩ := p
     rw [hn] at bad good hR2
     obtain ⟨y, hy⟩ := nxt_sec ht hn
     simp only [hy, Option.getD_some] at bad good hR2 ⊢
     refine bcnot (fun e => by cases e) (fun _ => bcn (fun k => bad (by simp [k])) (fun k1 => bcn (fun k => bad (by simp [k])) (fun k2 => (ref06_in_ok q ho.at_).use ⟨_, rfl, bc (fun k => bad ?_) (fun k3 => ⟨trivial, hR2 s ?_⟩)⟩)))
     · have : q ∈ seen := by simpa [inL] using k
       simp [this]
     have hq : q ∉ seen := by simpa [inL] using k3
     refine (ref06_kind_ok (h s) q).use ⟨_, rfl, (ref05_Pos_ok _ _ _).use (opt1_ex _ ?_)⟩
     rw [kindI_some hy]
     intro R3 hR3
     have main : ∀ but, decide (geti c.Sigs but = some ⟨x.Sec, x.Out⟩) = ((r.Path.drop (j + 1)).isEmpty && decide (geti c.Sigs r.Exit = some ⟨x.Sec, x.Out⟩)) → R3 but s := fun but hbut => hR3 but s (by
       intro R4 hR4
       refine bcnot (fun k => bad (by rw [k]; simp)) (fun k4 => (ref06_at_ok (h s) x.Sec x.Out but).use ⟨_, rfl, ?_⟩)
       rw [atB_eq hsg, hbut]
       have hfin : (!(r.Shunt && decide (y.Line ≠ 0))) = true → ((c.Sigs.any fun z => decide (⟨x.Sec, x.Out⟩ = z)) && !((r.Path.drop (j + 1)).isEmpty && decide (geti c.Sigs r.Exit = some ⟨x.Sec, x.Out⟩))) = false → R4 s := fun g1 g2 => hR4 s (newObj_intro fun id1 s2 hid1 _ he2 hs2 => (ho.ext' he2).append (At.fresh hs2 (by simp) rfl) (by simp; omega) (by simp; omega) fun d4 s5 ho5 _ _ => good (by
         rw [k4, g1, decide_eq_true k1, decide_eq_true k2, decide_eq_true hq]
         generalize (c.Sigs.any fun z => decide (⟨x.Sec, x.Out⟩ = z)) = u at g2
         generalize ((r.Path.drop (j + 1)).isEmpty && decide (geti c.Sigs r.Exit = some ⟨x.Sec, x.Out⟩)) = w at g2
         cases u <;> cases w <;> first | rfl | cases g2) _ _ (by rw [List.reverse_cons, List.map_append, ← k1]; exact ho5))
       refine bc (fun k => bad ?_) (fun k5 => bc (fun k6 => (h s).secs.load (map_get (geti_some hy).2.2) c_Section (by have := geti_some hy; omega) ⟨y.Line, rfl, bcn (fun k7 => bad (by rw [k6]; simp [k7])) (fun k7 => ⟨trivial, hfin (by rw [k6]; simp [k7]) k5⟩)⟩) (fun k6 => ⟨trivial, hfin (by rw [k6]; rfl) k5⟩))
       · generalize (c.Sigs.any fun z => decide (⟨x.Sec, x.Out⟩ = z)) = u at k
         generalize ((r.Path.drop (j + 1)).isEmpty && decide (geti c.Sigs r.Exit = some ⟨x.Sec, x.Out⟩)) = w at k
         cases u <;> cases w <;> first | (simp; done) | cases k)
     refine (hp s).lenK ?_
     rw [List.length_map, w64_id (n := (r.Path.length : Int) - 1) (by omega) (by omega)]
     refine bce (fun q1 => ⟨trivial, main _ ?_⟩) (fun q1 => ⟨trivial, main _ ?_⟩)
     · rw [drop_end (by omega)]; simp
     · have hemp : (r.Path.drop (j + 1)).isEmpty = false := by
         cases hd : r.Path.drop (j + 1) with
         | nil => rw [List.drop_eq_nil_iff] at hd; omega
         | cons y l => rfl
       rw [hemp, geti_neg (by omega)]; simp
 · have hF : (match (generalizing := false) geti c.Sigs r.Exit with | some x => decide ((⟨m, e⟩ : Sg) = x) | none => !(nxt c.Jts m e).isSome) = c.path r := hr.done rfl hge
   refine bcd (fun k1 => ?_) (fun k1 => (ref05_Next_ok m e (h s).jts).use (opt2_ex _ ⟨?_, ho.ext⟩))
   · obtain ⟨y, hy⟩ := geti_ex (l := c.Sigs) (i := r.Exit) (by omega) e3
     rw [hy] at hF
     refine (h s).sigs.load (map_get (geti_some hy).2.2) c_Signal (by omega) ⟨y.Sec, y.End_, rfl, ?_, ho.ext⟩
     rw [← hF]
     congr 3; rw [Bool.eq_iff_iff]; cases y; simp; exact ⟨fun ⟨a, b⟩ => ⟨a.symm, b.symm⟩, fun ⟨a, b⟩ => ⟨a.symm, b.symm⟩⟩
   · rw [geti_neg (by omega)] at hF
     rw [← hF]
theorem ref06_Flank_ok (a : Int) {pd : D} {path : List St} (hp : ∀ s, At Try.prog s t_Step pd (path.map St.enc)) (hpl : path.length ≤ 2 ^ 20) :
   DCalls Try.prog n_ref06_Flank [cfA c0 c1 c2 c3 c4 c, iA a, .one pd] σ (SlPost σ t_Need ((c.flank a path).map Nd.enc)) := by
 refine (W_ref06_Flank _ _ _ _ _ _ _ _ _ a pd σ _ ?_).ret (Q := fun r s => ∃ r' σ', Ret Try.prog σ s r σ' r' ∧ SlPost σ t_Need ((c.flank a path).map Nd.enc) r' σ') (fun r s h => h)
 refine (hp σ).lenK ⟨fun d d1 n s => ∃ out : List Nd, Own Try.prog σ s t_Need d (out.map Nd.enc) ∧ Own Try.prog σ s t_int d1 ((out.map Nd.Sec).map Go.Fw.encI) ∧ Apart d d1 ∧ (out.length : Int) ≤ 4 * n ∧ Rng path (fun r => flankRun c a path r out = c.flank a path) n,
   fun _ _ n _ => path.length - n.toNat, ⟨[], .nil _ (.refl _), .nil _ (.refl _), .nil _, by simp, .start rfl⟩, ?_⟩
 rintro d d1 n s ⟨out, ho, ho1, hap, hol, hr⟩
 rw [List.length_map]
 refine bcd (fun hlt => ?_) (fun hge => ?_)
 · obtain ⟨j, x, rfl, hx, hj, hF, nx⟩ := hr.step rfl (by omega) hlt
   refine (hp s).load (map_get hx) c_Step rfl ⟨x.Sec, x.In, x.Out, rfl, (ref06_kind_ok (h s) _).use ⟨_, rfl, ?_⟩⟩
   have hF' : flankRun c a path (path.drop (j + 1)) (flankEnds c a path x (nends (kindI c x.Sec)).toNat 0 out) = c.flank a path := by
     rw [← hF, flankRun]
     cases hg : geti c.Secs x.Sec with
     | none => rw [kindI_none hg]; rfl
     | some y => rw [kindI_some hg]
   generalize kindI c x.Sec = k at hF'
   have hne := nends_le k
   refine ⟨fun d d1 m s' => ∃ out' : List Nd, Own Try.prog σ s' t_Need d (out'.map Nd.enc) ∧ Own Try.prog σ s' t_int d1 ((out'.map Nd.Sec).map Go.Fw.encI) ∧ Apart d d1 ∧ 0 ≤ m ∧ m ≤ nends k ∧ (out'.length : Int) ≤ 4 * j + m ∧ flankEnds c a path x (nends k - m).toNat m out' = flankEnds c a path x (nends k).toNat 0 out,
     fun _ _ m _ => (nends k - m).toNat, ⟨out, ho, ho1, hap, by omega, hne.1, by omega, by rw [Int.sub_zero]⟩, ?_⟩
   rintro d2 d3 m s' ⟨out', ho', ho1', hap', hm0, hm1, hol', hE⟩
   refine (ref05_Ends_ok _).use ⟨_, rfl, bcd (fun hlt' => ?_) (fun hge' => ?_)⟩
   · have hw : w64 (m + 1) = m + 1 := w64_id (by omega) (by omega)
     have hk : (nends k - m).toNat = (nends k - (m + 1)).toNat + 1 := by omega
     rw [hk, flankEnds] at hE
     intro R hR
     have leaf : ∀ (out2 : List Nd) (d4 d5 : D) (s2 : Store), flankStep c a path x out' m = out2 → Own Try.prog σ s2 t_Need d4 (out2.map Nd.enc) → Own Try.prog σ s2 t_int d5 ((out2.map Nd.Sec).map Go.Fw.encI) → Apart d4 d5 → R d4 d5 s2 := by
       intro out2 d4 d5 s2 h1 h2 h3 h4
       have hlen := (flankStep_len c a path x out' m).2
       refine hR _ _ _ ⟨rfl, ?_⟩
       rw [hw]
       refine ⟨⟨out2, h2, h3, h4, by omega, by omega, by rw [← h1]; omega, by rw [← h1]; exact hE⟩, by show (nends k - (m + 1)).toNat < (nends k - m).toNat; omega⟩
     intro R1 hR1
     refine bce (fun h1 => ⟨by trivial, leaf out' _ _ s' (by rw [flankStep, if_pos (.inl h1)]) ho' ho1' hap'⟩) (fun h1 => bce (fun h2 => ⟨by trivial, leaf out' _ _ s' (by rw [flankStep, if_pos (.inr h2)]) ho' ho1' hap'⟩) (fun h2 => ⟨by trivial, hR1 s' ?_⟩))
     have hst : flankStep c a path x out' m = match nxt c.Jts x.Sec m with
       | none => out'
       | some (q, f) => match geti c.Secs q with
         | none => out'
         | some y => if y.Kind = 1 ∧ (1 ≤ f ∧ f ≤ 2) ∧ q ≠ a ∧ hasSec path q = false ∧ (out'.any fun n => n.Sec == q) = false then out' ++ [⟨q, 3 - f⟩] else out' := by
       rw [flankStep, if_neg (by rintro (e | e); exact h1 e; exact h2 e)] <;> rfl
     refine (ref05_Next_ok x.Sec m (h s').jts).use (opt2_ex _ ?_)
     intro R2 hR2
     cases hn : nxt c.Jts x.Sec m with
     | none =>
       rw [hn] at hst
       exact bcnot (fun _ => ⟨by trivial, leaf out' _ _ s' hst ho' ho1' hap'⟩) (fun e => by cases e)
     | some p =>
       obtain ⟨q, f⟩ := p
       rw [hn] at hst hR2
       simp only [Option.getD_some] at hst hR2 ⊢
       refine bcnot (fun e => by cases e) (fun _ => (ref06_kind_ok (h s') q).use ⟨_, rfl, ?_⟩)
       refine bcn (fun k1 => ⟨by trivial, leaf out' _ _ s' ?_ ho' ho1' hap'⟩) (fun k1 => ?_)
       · cases hg : geti c.Secs q with
         | none => rw [hg] at hst; exact hst
         | some y => rw [hg] at hst; rw [kindI_some hg] at k1; rw [hst]; exact if_neg fun g => k1 g.1
       obtain ⟨y, hg⟩ : ∃ y, geti c.Secs q = some y := by
         cases hg : geti c.Secs q with
         | none => rw [kindI_none hg] at k1; cases k1
         | some y => exact ⟨y, rfl⟩
       rw [kindI_some hg] at k1
       rw [hg] at hst
       simp only at hst
       have no : ¬ ((1 ≤ f ∧ f ≤ 2) ∧ q ≠ a ∧ hasSec path q = false ∧ (out'.any fun n => n.Sec == q) = false) → flankStep c a path x out' m = out' := fun hn => by rw [hst, if_neg fun g => hn g.2]
       have main : (1 ≤ f ∧ f ≤ 2) → DCalls Try.prog n_ref06_Sections [.one pd] s' fun r4 s4 => ∃ d4, r4 = .a (.one d4) ∧ DCalls Try.prog n_ref06_in [.one d4, iA q] s4 fun r5 s5 => ∃ b1, r5 = .a (bA b1) ∧ bcase b1 (True ∧ R d2 d3 s5) (bcase (q == a) (True ∧ R d2 d3 s5) (DCalls Try.prog n_ref06_in [.one d3, iA q] s5 fun r6 s6 => ∃ b2, r6 = .a (bA b2) ∧ bcase b2 (True ∧ R d2 d3 s6) (True ∧ R2 s6))) := by
         intro hf
         refine (ref06_Sections_ok hp (by omega)).mono ?_
         rintro r4 s4 ⟨rfl, d4, rfl, hd4⟩
         refine ⟨d4, rfl, (ref06_in_ok q (hd4 _)).use ⟨_, rfl, ?_⟩⟩
         rw [hasSec_in]
         refine bc (fun k2 => ⟨by trivial, leaf out' _ _ _ (no fun g => by rw [g.2.2.1] at k2; cases k2) ho' ho1' hap'⟩) (fun k2 => bce (fun k3 => ⟨by trivial, leaf out' _ _ _ (no fun g => g.2.1 k3) ho' ho1' hap'⟩) (fun k3 => (ref06_in_ok q ho1'.at_).use ⟨_, rfl, ?_⟩))
         rw [nd_any]
         refine bc (fun k4 => ⟨by trivial, leaf out' _ _ _ (no fun g => by rw [g.2.2.2] at k4; cases k4) ho' ho1' hap'⟩) (fun k4 => ⟨by trivial, hR2 _ ?_⟩)
         refine newObj_intro fun id s5 hid _ he5 hs5 => ?_
         refine (ho1'.ext' he5).append2 (ho'.ext' he5) hap' (At.fresh hs5 (by simp) rfl) (by simp; omega) (by simp; omega) fun d5 s6 ho6 ho6' hap6 => ?_
         refine newObj_intro fun id7 s7 hid7 _ he7 hs7 => ?_
         have hw2 : w64 (3 - f) = 3 - f := w64_id (by omega) (by omega)
         refine (ho6'.ext' he7).append2 (ho6.ext' he7) hap6.symm (At.fresh hs7 (by simp) rfl) (by simp; omega) (by simp; omega) fun d8 s8 ho8 ho8' hap8 => ⟨by trivial, leaf (out' ++ [⟨q, 3 - f⟩]) _ _ _ (by rw [hst, if_pos ⟨k1, hf, k3, k2, k4⟩]) ?_ ?_ hap8.symm⟩
         · rw [hw2] at ho8; rw [List.map_append]; exact ho8
         · rw [List.map_append, List.map_append]; exact ho8'
       refine bcn (fun k2 => bcn (fun k3 => ⟨by trivial, leaf out' _ _ s' (no fun g => by omega) ho' ho1' hap'⟩) (fun k3 => main (by omega))) (fun k2 => main (by omega))
   · have hz : (nends k - m).toNat = 0 := by omega
     rw [hz, flankEnds] at hE
     rw [← hE] at hF'
     have hn := nx (fun r => flankRun c a path r out' = c.flank a path) hF'
     exact ⟨⟨out', ho', ho1', hap', by rw [w64_succ (by omega)]; omega, hn.1⟩, hn.2⟩
 · have hF := hr.done rfl hge
   rw [flankRun] at hF
   rw [← hF]
   exact own_fin ho (flatNd _)
theorem ref06_Overlap_ok (r : Rt) {d1 d2 d3 : D} (hp : ∀ s, At Try.prog s t_Step d1 (r.Path.map St.enc)) (hpl : r.Path.length ≤ 2 ^ 20) :
   DCalls Try.prog n_ref06_Overlap [cfA c0 c1 c2 c3 c4 c, rtA d1 d2 d3 r] σ (SlPost σ t_int ((c.overlap r).map Go.Fw.encI)) := by
 refine (W_ref06_Overlap _ _ _ _ _ _ _ _ _ _ _ d1 d2 d3 _ σ _ ?_).ret (Q := fun r' s => ∃ r'' σ', Ret Try.prog σ s r' σ' r'' ∧ SlPost σ t_int ((c.overlap r).map Go.Fw.encI) r'' σ') (fun r s h => h)
 intro R hR
 have nil : c.overlap r = [] → ∃ r'' σ', Ret Try.prog σ σ (.a (.one .nils)) σ' r'' ∧ SlPost σ t_int ((c.overlap r).map Go.Fw.encI) r'' σ' := fun e => by
   rw [e]; exact own_fin (.nil _ (.refl _)) (flatI _)
 refine bc (fun h1 => nil (by rw [Cf.overlap, if_pos h1])) (fun h1 => ?_)
 have hov : c.overlap r = match geti c.Sigs r.Exit with
   | none => []
   | some x => match nxt c.Jts x.Sec x.End_ with
     | none => []
     | some (q, _) => match geti c.Secs q with
       | none => []
       | some y => if y.Line = 0 ∧ hasSec r.Path q = false ∧ q ≠ c.approach r then [q] else [] := by
   rw [Cf.overlap, if_neg (by rw [h1]; simp)] <;> rfl
 refine bcd (fun e => nil (by rw [hov, geti_neg e])) (fun e0 => (h σ).sigs.lenK ?_)
 rw [List.length_map]
 refine bcd (fun e => nil (by rw [hov, geti_ge e])) (fun e1 => hR σ ?_)
 obtain ⟨x, hg⟩ := geti_ex e0 e1
 rw [hg] at hov
 simp only at hov
 refine (h σ).sigs.load (map_get (geti_some hg).2.2) c_Signal (by omega) ⟨x.Sec, x.End_, rfl, (ref05_Next_ok _ _ (h σ).jts).use (opt2_ex _ ?_)⟩
 intro R1 hR1
 have main : R1 (c.approach r) σ := by
   refine hR1 _ σ ?_
   cases hn : nxt c.Jts x.Sec x.End_ with
   | none => rw [hn] at hov; exact bcnot (fun _ => nil hov) (fun e => by cases e)
   | some p =>
     obtain ⟨q, f⟩ := p
     rw [hn] at hov
     simp only [Option.getD_some] at hov ⊢
     refine bcnot (fun e => by cases e) (fun _ => bcd (fun e => nil (by rw [hov, geti_neg e])) (fun e2 => (h σ).secs.lenK ?_))
     rw [List.length_map]
     refine bcd (fun e => nil (by rw [hov, geti_ge e])) (fun e3 => (ref06_Sections_ok hp (by omega)).mono ?_)
     obtain ⟨y, hy⟩ := geti_ex e2 e3
     rw [hy] at hov
     simp only at hov
     have no : ¬ (y.Line = 0 ∧ hasSec r.Path q = false ∧ q ≠ c.approach r) → c.overlap r = [] := fun hn => by rw [hov, if_neg hn]
     rintro r4 s4 ⟨rfl, d4, rfl, hd4⟩
     refine ⟨d4, rfl, (ref06_in_ok q (hd4 _)).use ⟨_, rfl, ?_⟩⟩
     rw [hasSec_in]
     refine bc (fun k2 => nil (no fun g => by rw [g.2.1] at k2; cases k2)) (fun k2 => bce (fun k3 => nil (no fun g => g.2.2 k3)) (fun k3 => ?_))
     refine (h s4).secs.load (map_get (geti_some hy).2.2) c_Section (by omega) ⟨y.Line, rfl, bcn (fun k4 => nil (no fun g => k4 g.1)) (fun k4 => ?_)⟩
     refine newObj_intro fun id s5 hid _ he5 hs5 => ?_
     rw [hov, if_pos ⟨k4, k2, k3⟩]
     exact own_fin (.at_new hid he5 hs5 (by simp) rfl) (flatI _)
 refine bcd (fun k0 => (h σ).sigs.lenK ?_) (fun k0 => ?_)
 · rw [List.length_map]
   refine bcd (fun k1 => ?_) (fun k1 => ?_)
   · obtain ⟨z, hz⟩ := geti_ex (l := c.Sigs) (i := r.Entry) (by omega) (by omega)
     refine (h σ).sigs.load (map_get (geti_some hz).2.2) c_Signal (by omega) ⟨z.Sec, rfl, ?_⟩
     rw [Cf.approach, hz] at main; exact main
   · rw [Cf.approach, geti_ge (by omega)] at main; exact main
 · rw [Cf.approach, geti_neg (by omega)] at main; exact main
theorem ref06_Check_ok : Pure Try.prog n_ref06_Check [cfA c0 c1 c2 c3 c4 c] σ (.a (iA c.check)) := by
 refine W_ref06_Check _ _ _ _ _ _ _ _ _ σ _ ((ref05_Check_ok (h σ).secs (h σ).jts).use ⟨_, rfl, ?_⟩)
 have e6 : (if topoOk c.Secs c.Jts = true then (0 : Int) else 6) ≠ 0 ↔ topoOk c.Secs c.Jts = false := by
   cases topoOk c.Secs c.Jts <;> simp
 refine bcn (fun k1 => ⟨by rw [Cf.check, if_pos (e6.1 k1)], rfl⟩) (fun k1 => (ref06_signals_ok (h σ)).use ⟨_, rfl, bcnot (fun k2 => ⟨?_, rfl⟩) (fun k2 => ?_)⟩)
 all_goals have k1' : ¬ topoOk c.Secs c.Jts = false := fun e => e6.2 e k1
 · rw [Cf.check, if_neg k1', if_pos k2]
 have ht : topoOk c.Secs c.Jts = true := by simpa using k1'
 refine (ref06_crossings_ok (h σ) ht).use ⟨_, rfl, bcnot (fun k3 => ⟨?_, rfl⟩) (fun k3 => ?_)⟩
 · rw [Cf.check, if_neg k1', if_neg (by rw [k2]; simp), if_pos k3]
 have hck : c.check = if c.Rts.length > 12 then 9 else if c.routes c.Rts ≠ 0 then c.routes c.Rts else if c.timing = true then 0 else 12 := by
   rw [Cf.check, if_neg k1', if_neg (by rw [k2]; simp), if_neg (by rw [k3]; simp)]
 obtain ⟨rows, hat, hlen, hrow⟩ := rts_froz fun s => (h s).rts
 have hl := (hat σ).size
 refine (hat σ).lenK (bcd (fun k4 => ⟨by rw [hck, if_pos (by omega)], rfl⟩) (fun k4 => (hat σ).lenK ?_))
 rw [if_neg (by omega)] at hck
 refine ⟨fun n s => s = σ ∧ Rng c.Rts (fun l => c.routes l = c.routes c.Rts) n, fun n _ => c.Rts.length - n.toNat, ⟨rfl, .start rfl⟩, ?_⟩
 rintro n τ ⟨rfl, hr⟩
 refine bcd (fun hlt => ?_) (fun hge => ?_)
 · obtain ⟨j, x, rfl, hx, hj, hF, nx⟩ := hr.step hlen (by omega) hlt
   obtain ⟨row, hrw⟩ := get_of_lt (l := rows) (j := j) (by omega)
   obtain ⟨d1, d2, d3, rfl, q1, q2, q3⟩ := hrow j row x hrw hx
   rw [Cf.routes] at hF
   have err : ∀ e, e ≠ 0 → c.route x = e → (RV.a (iA e) = .a (iA c.check) ∧ τ = τ) := fun e he hc => by
     rw [hc, if_pos he] at hF
     rw [hck, ← hF, if_pos he]; exact ⟨rfl, rfl⟩
   refine (hat τ).load hrw c_Route rfl ⟨_, _, d1, d2, d3, _, rfl, (ref06_path_ok h ht k2 x q1).use ⟨_, rfl, bcnot (fun k5 => err 9 (by decide) (by rw [Cf.route, if_pos k5])) (fun k5 => ?_)⟩⟩
   have hpl : x.Path.length ≤ 8 := by
     unfold Cf.path at k5
     split at k5
     · cases k5
     · simp at k5; exact k5.1.2.2
   refine (ref06_Approach_ok (h τ) j).use ⟨_, rfl, ?_⟩
   rw [show c.Approach j = c.approach x by rw [Cf.Approach, show geti c.Rts j = some x by unfold geti; rw [if_neg (by omega), Int.toNat_natCast]; exact hx]; rfl]
   refine (ref06_Flank_ok h _ q1 (by omega)).mono ?_
   rintro r1 s1 ⟨rfl, d, rfl, hd⟩
   refine ⟨d, rfl, (ref06_SameNeeds_ok (q2 _) (hd _)).use ⟨_, rfl, bcnot (fun k6 => err 10 (by decide) ?_) (fun k6 => (ref06_Overlap_ok h x q1 (by omega)).mono ?_)⟩⟩
   · rw [Cf.route, if_neg (by rw [k5]; simp), if_pos (of_decide_eq_false k6)]
   rintro r2 s2 ⟨rfl, d', rfl, hd'⟩
   have e2 := of_decide_eq_true k6
   refine ⟨d', rfl, (ref06_sameInts_ok (q3 _) (hd' _)).use ⟨_, rfl, bcnot (fun k7 => err 11 (by decide) ?_) (fun k7 => ?_)⟩⟩
   · rw [Cf.route, if_neg (by rw [k5]; simp), if_neg (fun hn => hn e2), if_pos (of_decide_eq_false k7)]
   · have h0 : c.route x = 0 := by rw [Cf.route, if_neg (by rw [k5]; simp), if_neg (fun hn => hn e2), if_neg (fun hn => hn (of_decide_eq_true k7))]
     rw [if_neg (by simp [h0])] at hF
     exact andl rfl (nx _ hF)
 · have hF : 0 = c.routes c.Rts := hr.done hlen hge
   rw [← hF, if_neg (by simp)] at hck
   have bad : ¬ (((1 ≤ c.Age ∧ c.Age ≤ 8) ∧ (0 ≤ c.Brake ∧ c.Brake ≤ 8)) ∧ (c.Age + c.Brake + 1 ≤ c.Hold ∧ c.Hold ≤ 40) ∧ (1 ≤ c.Budget ∧ c.Budget ≤ 1000000)) → (RV.a (iA 12) = .a (iA c.check) ∧ τ = τ) := fun hn => by
     rw [hck, if_neg (fun e => hn (by simpa [Cf.timing, and_assoc] using e))]; exact ⟨rfl, rfl⟩
   refine bcd (fun e => bad fun g => by omega) (fun t1 => bcd (fun e => bad fun g => by omega) (fun t2 => bcd (fun e => bad fun g => by omega) (fun t3 => bcd (fun e => bad fun g => by omega) (fun t4 => ?_))))
   rw [w64_id (n := c.Age + c.Brake) (by omega) (by omega), w64_id (n := c.Age + c.Brake + 1) (by omega) (by omega)]
   refine bcd (fun e => bad fun g => by omega) (fun t5 => bcd (fun e => bad fun g => by omega) (fun t6 => bcd (fun e => bad fun g => by omega) (fun t7 => bcd (fun e => bad fun g => by omega) (fun t8 => ⟨?_, rfl⟩))))
   rw [hck, if_pos]
   simp only [Cf.timing, Bool.and_eq_true, decide_eq_true_eq]
   omega
end
end
section
variable {σ : Store}
section
variable {σ0 : Store} {d0 d1 d2 d3 d4 d5 : D} {k : Co}
theorem ext_other {s s' : Store} {i : Nat} (he : Ext σ0 s) (hf : σ0 i = .free) (hs : ∀ j, j ≠ i → s' j = s j) : Ext σ0 s' := fun j hj => by
 rw [hs j (fun e => hj (by rw [e]; exact hf))]; exact he j hj
end
end
section
variable {σ σ0 : Store} {d0 d1 d2 d3 d4 d5 : D} {k : Co}
theorem copy_ok {t : TypeId} {bytes : Nat} {d : D} {rows : List (List D)} {K : D → Store → Prop} (h : At Try.prog σ t d rows) (hb : bytes * rows.length ≤ 140737488355328)
   (hK : ∀ d' s, Own Try.prog σ s t d' rows → K d' s) : Fw.newObj σ (.live t []) fun id σ' => appendTo Try.prog σ' t bytes (.osl id 0 0) d K := by
 refine newObj_intro fun id s hid _ he hs => ?_
 have ho : Own Try.prog σ s t (.osl id 0 0) [] := .at_new hid he hs (by simp) rfl
 exact ho.append (h.ext he) (by simpa using hb) (by have := h.size; simpa using this) fun d' s' ho' _ _ => hK _ _ (by simpa using ho')
structure CoIn (σ0 σ : Store) (id : Nat) (t : TypeId) (pre post : List D) (d0 d1 d2 d3 d4 d5 : D) (k : Co) : Prop where
 new : σ0 id = .free
 row : σ id = .live t [pre ++ ([d0, d1, d2, d3, d4, d5, .bool k.Dirty] ++ post)]
 co : CoOwn σ0 σ d0 d1 d2 d3 d4 d5 k
 ids : ∀ d ∈ [d0, d1, d2, d3, d4, d5], idOf d ≠ some id
theorem CoIn.ext {id t pre post} (h : CoIn σ0 σ id t pre post d0 d1 d2 d3 d4 d5 k) : Ext σ0 σ := h.co.own.ext
theorem CoIn.at {id t pre post} (h : CoIn σ0 σ id t pre post d0 d1 d2 d3 d4 d5 k) : CoAt σ d0 d1 d2 d3 d4 d5 k := h.co.at
theorem CoOwn.putL (h : CoOwn σ0 σ d0 d1 d2 d3 d4 d5 k) {j n off : Nat} {x y : Ls} {ys : List D} (hj : k.Lines[j]? = some x) (hn : n = j) (ho : off + ys.length ≤ 8) (hp : patch (Ls.enc x) off ys = Ls.enc y) {K : Store → Prop}
   (hK : ∀ s', CoOwn σ0 s' d0 d1 d2 d3 d4 d5 { k with Lines := k.Lines.set j y } → (∀ i, idOf d4 ≠ some i → s' i = σ i) → K s') : storeEl ys σ d4 n off K := by
 refine h.lines.at_.store h.lines.nsl (map_get hj) hn ho fun s' i hi hat hs hne => hK s' ?_ fun i' hi' => hs i' fun e => hi' (by rw [e]; exact hi)
 have hf := own_id h.lines hi
 have ap : ∀ {m : Nat} {d : D}, [d0, d1, d2, d3, d4, d5][m]? = some d → m ≠ 4 → idOf d ≠ some i := fun hm hne0 => pw h.apart (i := 4) rfl hm (Ne.symm hne0) i hi
 refine ⟨own_other h.own hf (ap (m := 0) rfl (by omega)) hs, own_other h.routes hf (ap (m := 1) rfl (by omega)) hs, own_other h.points hf (ap (m := 2) rfl (by omega)) hs, own_other h.xs hf (ap (m := 3) rfl (by omega)) hs, ⟨?_, ext_other h.lines.ext hf hs, h.lines.new, h.lines.nsl, h.lines.nz⟩, own_other h.resets hf (ap (m := 5) rfl (by omega)) hs, h.apart⟩
 rw [hp, map_set (Ls.enc) k.Lines j y] at hat; exact hat
theorem CoIn.putL {id t pre post} (h : CoIn σ0 σ id t pre post d0 d1 d2 d3 d4 d5 k) {j n off : Nat} {x y : Ls} {ys : List D} (hj : k.Lines[j]? = some x) (hn : n = j) (ho : off + ys.length ≤ 8) (hp : patch (Ls.enc x) off ys = Ls.enc y) {K : Store → Prop}
   (hK : ∀ s', CoIn σ0 s' id t pre post d0 d1 d2 d3 d4 d5 { k with Lines := k.Lines.set j y } → (∀ i, idOf d4 ≠ some i → s' i = σ i) → K s') : storeEl ys σ d4 n off K :=
 h.co.putL hj hn ho hp fun s' h' hs => hK s' ⟨h.new, (hs id (h.ids _ (by simp))).trans h.row, h', h.ids⟩ hs
end
end Go.Proofs.Ytjdpkjembijbeaa
namespace Go.Fw
section
section
variable {occ : List Lk} {now : Int} {was may : Bool} {x : Ls} {o : Int} {s : Nat} {lk : Lk}
end
structure SameBut (k k' : Co) (l s : Nat) : Prop where
 routes : k'.Routes = k.Routes
 lines : ∀ m, m ≠ l → k'.Lines[m]? = k.Lines[m]?
 own : ∀ t, t ≠ s → k'.Own[t]? = k.Own[t]?
end
end Go.Fw
namespace Go.Proofs.Ytjdpkjembijbeaa
open Go.Fw Go.Proofs Go.RowKit
section
variable {σ : Store}
theorem ref13_Time_ok (n : Int) : Pure Try.prog n_ref13_Time [iA n] σ (.a (bA (tm 0 n))) :=
 W_ref13_Time n σ _ (bcd (fun h => ⟨by rw [tm]; congr 3; exact decide_eq_decide.2 (by omega), rfl⟩) (fun h => ⟨by rw [tm, decide_eq_false (by omega)], rfl⟩))
theorem ref14_Seen_ok {c0 c1 c2 c3 c4 v0 v1 v2 v3 : D} {c : Cf} {v : Vw} (h : CfAt σ c0 c1 c2 c3 c4 c) (hv : VwAt v0 v1 v2 v3 v) :
   Pure Try.prog n_ref14_Seen [cfA c0 c1 c2 c3 c4 c, .agg [v0, v1, v2, v3]] σ (.a (bA (v.fits c))) := by
 refine W_ref14_Seen _ _ _ _ _ _ _ _ _ v0 v1 v2 v3 σ _ ((hv.occ σ).lenK (h.secs.lenK ?_))
 simp only [List.length_map]
 refine bce (fun e1 => (hv.pos σ).lenK (h.secs.lenK ?_)) (fun e => ⟨by rw [Vw.fits, decide_eq_false (by omega)], by trivial⟩)
 simp only [List.length_map]
 refine bce (fun e2 => (hv.shut σ).lenK (h.xs.lenK ?_)) (fun e => ⟨by rw [Vw.fits, decide_eq_false (by omega)], by trivial⟩)
 simp only [List.length_map]
 refine bce (fun e3 => (hv.lamp σ).lenK (h.sigs.lenK ⟨?_, by trivial⟩)) (fun e => ⟨by rw [Vw.fits, decide_eq_false (by omega)], by trivial⟩)
 simp only [List.length_map]
 rw [Vw.fits]; congr 3
 rw [Bool.eq_iff_iff]; simp; omega
theorem ref13_Fits_ok {c0 c1 c2 c3 c4 : D} {c : Cf} (h : ∀ s, CfAt s c0 c1 c2 c3 c4 c) {k0 k1 k2 k3 k4 k5 : D} {k : Co} (hk : CoAt σ k0 k1 k2 k3 k4 k5 k) (b : Bool) :
   Pure Try.prog n_ref13_Fits [cfA c0 c1 c2 c3 c4 c, coA k0 k1 k2 k3 k4 k5 b] σ (.a (bA (k.fits c))) := by
 have l0 := hk.own.size
 have l1 := hk.routes.size
 have l2 := hk.points.size
 have l3 := hk.xs.size
 have l4 := hk.lines.size
 have l5 := hk.resets.size
 simp only [List.length_map] at l0 l1 l2 l3 l4 l5
 refine .of (W_ref13_Fits _ _ _ _ _ _ _ _ _ k0 k1 k2 k3 k4 k5 b σ _ ((h σ).secs.lenK ?_)) (flat_b _)
 intro R hR
 refine (ref06_Check_ok h).use ⟨_, rfl, ?_⟩
 obtain ⟨rows, hat, hlen, hrow⟩ := rts_froz fun s => (h s).rts
 have hl := (hat σ).size
 have bad : k.lens c = false → ∀ s, Ext σ s → (RV.a (.one (.bool false)) = .a (bA (k.fits c)) ∧ Ext σ s) := fun hb s he => ⟨by simp [Co.fits, hb], he⟩
 have nl : ¬ (k.Own.length = c.Secs.length ∧ k.Points.length = c.Secs.length ∧ k.Resets.length = c.Secs.length ∧ k.Routes.length = c.Rts.length ∧ k.Xs.length = c.Xs.length ∧ k.Lines.length = 4) → k.lens c = false := fun hn => by
   rw [Co.lens, decide_eq_false hn]
 refine bcn (fun hc => ⟨by simp [Co.fits, hc], .refl _⟩) (fun hc => ?_)
 simp only [List.length_map]
 refine hk.own.lenK (bcn (fun e => bad (nl fun g => by simp only [List.length_map] at e; omega) _ (.refl _)) (fun e0 => ?_))
 refine hk.points.lenK (bcn (fun e => bad (nl fun g => by simp only [List.length_map] at e; omega) _ (.refl _)) (fun e1 => ?_))
 refine hk.resets.lenK (bcn (fun e => bad (nl fun g => by simp only [List.length_map] at e; omega) _ (.refl _)) (fun e2 => ?_))
 refine hk.routes.lenK ((hat σ).lenK (bcn (fun e => bad (nl fun g => by simp only [List.length_map] at e; omega) _ (.refl _)) (fun e3 => ?_)))
 refine hk.xs.lenK ((h σ).xs.lenK (bcn (fun e => bad (nl fun g => by simp only [List.length_map] at e; omega) _ (.refl _)) (fun e4 => ?_)))
 refine hk.lines.lenK (bcn (fun e => bad (nl fun g => by simp only [List.length_map] at e; omega) _ (.refl _)) (fun e5 => hR σ ?_))
 simp only [List.length_map] at e0 e1 e2 e3 e4 e5
 have hL : k.lens c = true := decide_eq_true ⟨by omega, by omega, by omega, by omega, by omega, by omega⟩
 have hfit : k.fits c = k.parts c := by simp [Co.fits, hc, hL]
 rw [hfit]
 obtain ⟨_, s1, s2, s3, _, _⟩ := check_small hc
 clear bad nl hfit hL hR
 unfold Co.parts
 refine hk.own.lenK ⟨fun n s => s = σ ∧ Rng k.Own (fun r => (r.all fun o => decide (-2 ≤ o ∧ o ≤ (c.Rts.length : Int))) = k.Own.all fun o => decide (-2 ≤ o ∧ o ≤ (c.Rts.length : Int))) n, fun n _ => k.Own.length - n.toNat, ⟨rfl, .start rfl⟩, ?_⟩
 rintro n τ ⟨rfl, hr⟩
 refine bcd (fun hlt => ?_) (fun hge => ?_)
 · obtain ⟨j, x, rfl, hx, hj, hF, nx⟩ := hr.step (by simp) l0 hlt
   rw [List.all_cons] at hF
   have no : ¬ (-2 ≤ x ∧ x ≤ (c.Rts.length : Int)) → (RV.a (.one (.bool false)) = .a (bA ((k.Own.all fun o => decide (-2 ≤ o ∧ o ≤ (c.Rts.length : Int))) && ((k.Routes.zip c.Rts).all Rs.fits && ((k.Points ++ k.Xs).all Mv.fits && (k.Lines.all Ls.fits && k.Resets.all (tm 1)))))) ∧ Ext τ τ) := fun hn => by
     rw [decide_eq_false hn] at hF
     exact ⟨by rw [← hF]; rfl, .refl _⟩
   refine hk.own.load (map_get hx) c_int rfl ⟨x, rfl, bcd (fun e => no (by omega)) (fun g1 => (hat τ).lenK (bcd (fun e => no (by omega)) (fun g2 => ?_)))⟩
   rw [decide_eq_true ⟨by omega, by omega⟩, Bool.true_and] at hF
   exact andl rfl (nx _ hF)
 have hF0 := hr.done (by simp) hge
 rw [← hF0]
 show (∃ len2 : Nat, _)
 simp only [List.all_nil, Bool.true_and]
 clear hF0 hr hge
 have lz : (k.Routes.zip c.Rts).length = k.Routes.length := by rw [List.length_zip]; omega
 refine hk.routes.lenK ⟨fun n s => s = τ ∧ Rng (k.Routes.zip c.Rts) (fun r => r.all Rs.fits = (k.Routes.zip c.Rts).all Rs.fits) n, fun n _ => (k.Routes.zip c.Rts).length - n.toNat, ⟨rfl, .start rfl⟩, ?_⟩
 rintro n s ⟨rfl, hr⟩
 refine bcd (fun hlt => ?_) (fun hge => ?_)
 · obtain ⟨j, x, rfl, hx, hj, hF, nx⟩ := hr.step (by rw [List.length_map, lz]) (by omega) hlt
   obtain ⟨g1, g2⟩ := List.getElem?_zip_eq_some.1 hx
   rw [List.all_cons] at hF
   have bad : Rs.fits x = false → (RV.a (.one (.bool false)) = .a (bA ((k.Routes.zip c.Rts).all Rs.fits && ((k.Points ++ k.Xs).all Mv.fits && (k.Lines.all Ls.fits && k.Resets.all (tm 1))))) ∧ Ext s s) := fun hb => by
     rw [hb, Bool.false_and] at hF
     exact ⟨by rw [← hF]; rfl, .refl _⟩
   have hfx : Rs.fits x = (decide (0 ≤ x.1.State ∧ x.1.State ≤ 5) && decide (0 ≤ x.1.Next ∧ x.1.Next ≤ x.2.Path.length) && (tm 0 x.1.Since && tm 0 x.1.Mark)) := rfl
   refine hk.routes.load (map_get g1) c_RouteState rfl ⟨x.1.State, x.1.Since, x.1.Next, x.1.Mark, rfl, bcd (fun e => bad (by rw [hfx, decide_eq_false (p := 0 ≤ x.1.State ∧ _) (by omega)]; rfl)) (fun t1 => bcd (fun e => bad (by rw [hfx, decide_eq_false (p := 0 ≤ x.1.State ∧ _) (by omega)]; rfl)) (fun t2 => bcd (fun e => bad (by rw [hfx, decide_eq_false (p := 0 ≤ x.1.Next ∧ _) (by omega)]; simp)) (fun t3 => ?_)))⟩
   obtain ⟨row, hrw⟩ := get_of_lt (l := rows) (j := j) (by rw [lz] at hj; omega)
   obtain ⟨d1, d2, d3, rfl, q1, q2, q3⟩ := hrow j row x.2 hrw g2
   refine (hat s).load hrw c_Route rfl ⟨d1, rfl, (q1 s).lenK ?_⟩
   rw [List.length_map]
   refine bcd (fun e => bad (by rw [hfx, decide_eq_false (p := 0 ≤ x.1.Next ∧ _) (by omega)]; simp)) (fun t4 => (ref13_Time_ok _).use ⟨_, rfl, bcnot (fun e => bad (by rw [hfx, e]; simp)) (fun t5 => (ref13_Time_ok _).use ⟨_, rfl, bcnot (fun e => bad (by rw [hfx, e]; simp)) (fun t6 => ?_)⟩)⟩)
   rw [hfx, decide_eq_true ⟨by omega, by omega⟩, decide_eq_true ⟨by omega, by omega⟩, t5, t6] at hF
   exact andl rfl (nx (fun r => r.all Rs.fits = (k.Routes.zip c.Rts).all Rs.fits) hF)
 have hF0 := hr.done (by rw [List.length_map, lz]) hge
 rw [← hF0]
 simp only [List.all_nil, Bool.true_and]
 clear hF0 hr hge
 refine copy_ok hk.points (by rw [List.length_map]; omega) fun d sa oa => (oa.append (hk.xs.ext oa.ext) (by simp only [List.length_map]; omega) (by simp only [List.length_map]; omega) fun d1 s3 ho _ _ => ?_)
 rw [← List.map_append] at ho
 have he3 := ho.ext
 have lm : (k.Points ++ k.Xs).length < 2 ^ 60 := by rw [List.length_append]; omega
 refine ho.at_.lenK ⟨fun n s' => s' = s3 ∧ Rng (k.Points ++ k.Xs) (fun r => r.all Mv.fits = (k.Points ++ k.Xs).all Mv.fits) n, fun n _ => (k.Points ++ k.Xs).length - n.toNat, ⟨rfl, .start rfl⟩, ?_⟩
 rintro n s4 ⟨rfl, hr⟩
 refine bcd (fun hlt => ?_) (fun hge => ?_)
 · obtain ⟨j, x, rfl, hx, hj, hF, nx⟩ := hr.step (by simp) lm hlt
   rw [List.all_cons] at hF
   have no : x.fits = false → (RV.a (.one (.bool false)) = .a (bA ((k.Points ++ k.Xs).all Mv.fits && (k.Lines.all Ls.fits && k.Resets.all (tm 1)))) ∧ Ext s s4) := fun hn => by
     rw [hn] at hF
     exact ⟨by rw [← hF]; rfl, he3⟩
   have go : x.fits = true → _ := fun hn => by
     rw [hn, Bool.true_and] at hF
     exact andl (rfl : s4 = s4) (nx (fun r => r.all Mv.fits = (k.Points ++ k.Xs).all Mv.fits) hF)
   have hfx : x.fits = (decide (0 ≤ x.Cmd ∧ x.Cmd ≤ 2) && decide (-1 ≤ x.Other ∧ x.Other ≤ 4294967295)) := rfl
   refine ho.at_.load (map_get hx) c_Mover rfl ⟨x.Cmd, x.Other, rfl, bcd (fun e => no (by rw [hfx, decide_eq_false (by omega)]; rfl)) (fun t1 => bcd (fun e => no (by rw [hfx, decide_eq_false (by omega)]; rfl)) (fun t2 => ?_))⟩
   refine bcn (fun t3 => (ref13_Time_ok _).use ⟨_, rfl, bcnot (fun e => no ?_) (fun e => go ?_)⟩) (fun t3 => go (by rw [hfx, decide_eq_true ⟨by omega, by omega⟩, decide_eq_true ⟨by omega, by omega⟩]; rfl))
   · have := of_decide_eq_false e
     rw [hfx, decide_eq_false (p := -1 ≤ x.Other ∧ _) (by omega), Bool.and_false]
   · have := of_decide_eq_true e
     rw [hfx, decide_eq_true ⟨by omega, by omega⟩, decide_eq_true ⟨by omega, by omega⟩]; rfl
 have hF0 := hr.done (by simp) hge
 rw [← hF0]
 simp only [List.all_nil, Bool.true_and]
 clear hF0 hr hge
 refine (hk.resets.ext he3).lenK ⟨fun n s' => s' = s4 ∧ Rng k.Resets (fun r => r.all (tm 1) = k.Resets.all (tm 1)) n, fun n _ => k.Resets.length - n.toNat, ⟨rfl, .start rfl⟩, ?_⟩
 rintro n s5 ⟨rfl, hr⟩
 refine bcd (fun hlt => ?_) (fun hge => ?_)
 · obtain ⟨j, x, rfl, hx, hj, hF, nx⟩ := hr.step (by simp) l5 hlt
   rw [List.all_cons] at hF
   have no : ¬ (0 ≤ x ∧ x ≤ 4294967295 + 1) → (RV.a (.one (.bool false)) = .a (bA (k.Lines.all Ls.fits && k.Resets.all (tm 1))) ∧ Ext s s5) := fun hn => by
     rw [tm, decide_eq_false hn] at hF
     exact ⟨by rw [← hF, Bool.false_and, Bool.and_false], he3⟩
   refine (hk.resets.ext he3).load (map_get hx) c_int rfl ⟨x, rfl, bcd (fun e => no (by omega)) (fun g1 => bcd (fun e => no (by omega)) (fun g2 => ?_))⟩
   rw [tm, decide_eq_true ⟨by omega, by omega⟩, Bool.true_and] at hF
   exact andl rfl (nx _ hF)
 have hF0 := hr.done (by simp) hge
 rw [← hF0]
 simp only [List.all_nil, Bool.and_true]
 clear hF0 hr hge
 refine (hk.lines.ext he3).lenK ⟨fun n s' => s' = s5 ∧ Rng k.Lines (fun r => r.all Ls.fits = k.Lines.all Ls.fits) n, fun n _ => k.Lines.length - n.toNat, ⟨rfl, .start rfl⟩, ?_⟩
 rintro n s6 ⟨rfl, hr⟩
 refine bcd (fun hlt => ?_) (fun hge => ?_)
 · obtain ⟨j, x, rfl, hx, hj, hF, nx⟩ := hr.step (by simp) l4 hlt
   rw [List.all_cons] at hF
   have no : x.fits = false → (RV.a (.one (.bool false)) = .a (bA (k.Lines.all Ls.fits)) ∧ Ext s s6) := fun hn => by
     rw [hn] at hF
     exact ⟨by rw [← hF]; rfl, he3⟩
   have hfx : x.fits = ((tm 0 x.Ask && (tm 0 x.Done && (tm 0 x.Grant && (tm 0 x.Told && (tm 0 x.PAsk && (tm 0 x.PDone && tm 0 x.PGrant)))))) && tm 1 x.Since) := rfl
   refine (hk.lines.ext he3).load (map_get hx) c_LineState rfl ⟨x.Ask, x.Done, x.Grant, x.Told, x.PAsk, x.PDone, x.PGrant, x.Since, rfl, ?_⟩
   refine (ref13_Time_ok _).use ⟨_, rfl, bcnot (fun e => no (by rw [hfx, e]; rfl)) (fun t1 => ?_)⟩
   refine (ref13_Time_ok _).use ⟨_, rfl, bcnot (fun e => no (by rw [hfx, t1, e]; rfl)) (fun t2 => ?_)⟩
   refine (ref13_Time_ok _).use ⟨_, rfl, bcnot (fun e => no (by rw [hfx, t1, t2, e]; rfl)) (fun t3 => ?_)⟩
   refine (ref13_Time_ok _).use ⟨_, rfl, bcnot (fun e => no (by rw [hfx, t1, t2, t3, e]; rfl)) (fun t4 => ?_)⟩
   refine (ref13_Time_ok _).use ⟨_, rfl, bcnot (fun e => no (by rw [hfx, t1, t2, t3, t4, e]; rfl)) (fun t5 => ?_)⟩
   refine (ref13_Time_ok _).use ⟨_, rfl, bcnot (fun e => no (by rw [hfx, t1, t2, t3, t4, t5, e]; rfl)) (fun t6 => ?_)⟩
   refine (ref13_Time_ok _).use ⟨_, rfl, bcnot (fun e => no (by rw [hfx, t1, t2, t3, t4, t5, t6, e]; rfl)) (fun t7 => ?_)⟩
   refine bcd (fun e => no (by rw [hfx, tm, tm, tm, tm, tm, tm, tm, tm, decide_eq_false (p := 0 ≤ x.Since ∧ _) (by omega), Bool.and_false])) (fun t8 => bcd (fun e => no (by rw [hfx, tm, tm, tm, tm, tm, tm, tm, tm, decide_eq_false (p := 0 ≤ x.Since ∧ _) (by omega), Bool.and_false])) (fun t9 => ?_))
   have hs : tm 1 x.Since = true := decide_eq_true ⟨by omega, by omega⟩
   rw [hfx, t1, t2, t3, t4, t5, t6, t7, hs] at hF
   exact andl rfl (nx (fun r => r.all Ls.fits = k.Lines.all Ls.fits) hF)
 have hF0 := hr.done (by simp) hge
 rw [← hF0]
 exact ⟨rfl, he3⟩
end
end Go.Proofs.Ytjdpkjembijbeaa
section
namespace Go.Fw
structure StOk (c : Cf) (r : Rt) (s : St) : Prop where
 sec : ∃ y, geti c.Secs s.Sec = some y ∧ (wpos (wayL y.Kind) s.In s.Out).isSome = true ∧ (r.Shunt = true → y.Line = 0)
theorem prunA_facts {c : Cf} (ht : topoOk c.Secs c.Jts = true) (r : Rt) (ex : Option Sg) : ∀ (l : List St) (a : Sg) (seen : List Int), prunA c r ex l a seen = true →
   (∀ s ∈ l, StOk c r s ∧ s.Sec ∉ seen) ∧ (l.map St.Sec).Nodup
 | [], a, seen, _ => ⟨fun s hs => by simp at hs, by simp⟩
 | s :: rest, a, seen, h => by
   rw [prunA, Bool.and_eq_true] at h
   obtain ⟨h1, h2⟩ := h
   obtain ⟨q1, q2⟩ := prunA_facts ht r ex rest _ _ h2
   unfold pstep at h1
   cases hn : nxt c.Jts a.Sec a.End_ with
   | none => rw [hn] at h1; cases h1
   | some p =>
     obtain ⟨q, i⟩ := p
     rw [hn] at h1
     obtain ⟨y, hy⟩ := nxt_sec ht hn
     simp only [hy, Option.getD_some, Bool.and_eq_true, decide_eq_true_eq, Bool.not_eq_true'] at h1
     obtain ⟨⟨⟨⟨⟨rfl, e2⟩, e3⟩, e4⟩, e5⟩, e6⟩ := h1
     refine ⟨fun x hx => ?_, ?_⟩
     · rcases List.mem_cons.1 hx with rfl | hx
       · refine ⟨⟨y, hy, e3, fun hs => ?_⟩, e4⟩
         rw [hs, Bool.true_and, decide_eq_false_iff_not] at e6
         exact Decidable.not_not.1 e6
       · obtain ⟨w1, w2⟩ := q1 x hx
         exact ⟨w1, fun hm => w2 (List.mem_cons_of_mem _ hm)⟩
     · rw [List.map_cons, List.nodup_cons]
       refine ⟨fun hm => ?_, q2⟩
       obtain ⟨x, hx, e⟩ := List.mem_map.1 hm
       exact (q1 x hx).2 (by rw [e]; simp)
structure RtOk (c : Cf) (r : Rt) : Prop where
 entry : ∃ a, geti c.Sigs r.Entry = some a
 exit_ : r.Exit = -1 ∨ ∃ x, geti c.Sigs r.Exit = some x
 len : 1 ≤ r.Path.length ∧ r.Path.length ≤ 8
 step : ∀ s ∈ r.Path, StOk c r s ∧ s.Sec ≠ c.approach r
 dup : (r.Path.map St.Sec).Nodup
 flank : r.Flank = c.flank (c.approach r) r.Path
 over : r.Overlap = c.overlap r
theorem routes_zero {c : Cf} : ∀ {l : List Rt}, c.routes l = 0 → ∀ r ∈ l, c.route r = 0
 | [], _, r, hr => by simp at hr
 | x :: l, h, r, hr => by
   rw [Cf.routes] at h
   split at h
   · rename_i hne; exact absurd h hne
   · rename_i he
     rcases List.mem_cons.1 hr with rfl | hr
     · simpa using he
     · exact routes_zero h r hr
theorem check_parts {c : Cf} (h : c.check = 0) : topoOk c.Secs c.Jts = true ∧ c.sigsOk = true ∧ c.xsOk = true ∧ c.Rts.length ≤ 12 ∧ c.routes c.Rts = 0 ∧ c.timing = true := by
 unfold Cf.check at h
 split at h
 · cases h
 split at h
 · cases h
 split at h
 · cases h
 split at h
 · cases h
 split at h
 · rename_i hne; exact absurd h hne
 split at h
 · rename_i h1 h2 h3 h4 h5 h6
   exact ⟨by simpa using h1, by simpa using h2, by simpa using h3, by omega, by simpa using h5, h6⟩
 · cases h
theorem path_ok {c : Cf} (ht : topoOk c.Secs c.Jts = true) {r : Rt} (h : c.route r = 0) : RtOk c r := by
 unfold Cf.route at h
 split at h
 · cases h
 split at h
 · cases h
 split at h
 · cases h
 rename_i h1 h2 h3
 have h1 : c.path r = true := by simpa using h1
 unfold Cf.path at h1
 cases hg : geti c.Sigs r.Entry with
 | none => rw [hg] at h1; cases h1
 | some a =>
   rw [hg] at h1
   simp only [Bool.and_eq_true, Bool.or_eq_true, decide_eq_true_eq] at h1
   obtain ⟨⟨e1, e2⟩, e3⟩ := h1
   obtain ⟨q1, q2⟩ := prunA_facts ht r _ _ _ _ e3
   have ha : c.approach r = a.Sec := by rw [Cf.approach, hg]; rfl
   refine ⟨⟨a, hg⟩, e1.imp id Option.isSome_iff_exists.1, e2, fun s hs => ⟨(q1 s hs).1, fun e => (q1 s hs).2 (by rw [e, ha]; simp)⟩, q2, Decidable.not_not.1 h2, Decidable.not_not.1 h3⟩
theorem check_rt {c : Cf} (h : c.check = 0) {r : Rt} (hr : r ∈ c.Rts) : RtOk c r := by
 obtain ⟨h1, _, _, _, h5, _⟩ := check_parts h
 exact path_ok h1 (routes_zero h5 r hr)
structure NdOk (c : Cf) (a : Int) (path : List St) (n : Nd) : Prop where
 sec : ∃ y, geti c.Secs n.Sec = some y ∧ y.Kind = 1
 pos : 1 ≤ n.Pos ∧ n.Pos ≤ 2
 app : n.Sec ≠ a
 path : hasSec path n.Sec = false
theorem geti_nat {α : Type} {l : List α} {j : Nat} : geti l (j : Int) = l[j]? := by unfold geti; rw [if_neg (by omega), Int.toNat_natCast]
theorem fits_check {c : Cf} {k : Co} (h : k.fits c = true) : c.check = 0 := by
 rw [Co.fits, Bool.and_eq_true] at h; exact of_decide_eq_true h.1
end Go.Fw
namespace Go.Fw
theorem nxt_at {js : List Jt} {s e : Int} (h : (nxt js s e).isSome = true) : ∃ j ∈ js, j.A = s ∨ j.B = s := by
 induction js with
 | nil => cases h
 | cons j r ih =>
   rw [nxt] at h
   split at h
   · rename_i h1; exact ⟨j, by simp, .inl h1.1⟩
   split at h
   · rename_i h1; exact ⟨j, by simp, .inr h1.1⟩
   · obtain ⟨j', h1, h2⟩ := ih h
     exact ⟨j', by simp [h1], h2⟩
theorem sig_sec {c : Cf} (h : c.check = 0) {x : Sg} (hx : x ∈ c.Sigs) : ∃ y, geti c.Secs x.Sec = some y := by
 obtain ⟨ht, hs, _⟩ := check_parts h
 rw [Cf.sigsOk, Bool.and_eq_true, sgrun_iff] at hs
 obtain ⟨j, hj, hA⟩ := nxt_at (hs.1.1 x hx)
 obtain ⟨a, b, _⟩ := ((topoOk_iff _ _).1 ht).2.2 j hj
 exact geti_ex (by omega) (by omega)
theorem app_sec {c : Cf} (h : c.check = 0) {r : Rt} (hr : r ∈ c.Rts) : ∃ y, geti c.Secs (c.approach r) = some y := by
 obtain ⟨a, ha⟩ := (check_rt h hr).entry
 rw [Cf.approach, ha]
 exact sig_sec h (List.mem_of_getElem? (geti_some ha).2.2)
end Go.Fw
end
namespace Go.Fw
section
def zRt : Rt := ⟨0, 0, [], [], [], false⟩
def Cf.rt (c : Cf) (i : Int) : Rt := (geti c.Rts i).getD zRt
end
section
structure Br where
 Kind : Int
 Route : Int
 Sec : Int
 deriving DecidableEq
def Br.enc (b : Br) : List D := [iD b.Kind, iD b.Route, iD b.Sec]
def stAt (k : Co) (i : Int) : Int := ((geti k.Routes i).map Rs.State).getD 0
def nextAt (k : Co) (i : Int) : Int := ((geti k.Routes i).map Rs.Next).getD 0
theorem stAt_get {k : Co} {i : Int} {j : Nat} {x : Rs} (hi : i = j) (h : k.Routes[j]? = some x) : stAt k i = x.State ∧ nextAt k i = x.Next := by
 unfold stAt nextAt; subst hi; rw [geti_nat, h]; exact ⟨rfl, rfl⟩
end
section
structure En where
 Time : Int
 Route : Int
 Train : Int
 deriving DecidableEq
def En.enc (e : En) : List D := [iD e.Time, iD e.Route, iD e.Train]
def enOk (c : Cf) (e : En) : Bool := tm 0 e.Time && decide (0 ≤ e.Route ∧ e.Route ≤ (c.Rts.length : Int) - 1) && decide (1 ≤ e.Train ∧ e.Train ≤ 9999)
def Cf.tchk (c : Cf) (t : List En) : Int := if c.check ≠ 0 then 21 else if t.length > 16 then 5 else if t.all (enOk c) = true then 0 else 32
def occAt (v : List Lk) (i : Int) : Lk := (geti v i).getD ⟨0, 0, false⟩
def isDue (c : Cf) (k : Co) (v : Vw) (now : Int) (done : List Bool) (j : Nat) (e : En) : Bool :=
 !((done[j]?).getD false) && (decide (e.Time ≤ now) && (decide (stAt k e.Route = 0) && ((occAt v.Occ (c.Approach e.Route)).Valid && decide ((occAt v.Occ (c.Approach e.Route)).Value = 1))))
structure Du where
 e : En
 n : Nat
def Du.enc (d : Du) : List D := [iD d.e.Time, iD d.e.Route, iD d.e.Train, iD d.n]
def duesL (p : Nat → En → Bool) : List En → Nat → List Du
 | [], _ => []
 | e :: r, j => if p j e = true then ⟨e, j⟩ :: duesL p r (j + 1) else duesL p r (j + 1)
def cutR (x : Du) (P : List Du) : Nat → Nat
 | 0 => 0
 | m + 1 => match P[m]? with
   | some y => if x.e.Time < y.e.Time then cutR x P m else m + 1
   | none => m + 1
def insD (x : Du) (P : List Du) : List Du := P.take (cutR x P P.length) ++ x :: P.drop (cutR x P P.length)
def sortD (l : List Du) : List Du := l.foldl (fun P x => insD x P) []
def Co.due (c : Cf) (k : Co) (v : Vw) (now : Int) (done : List Bool) (t : List En) : List Int :=
 if c.tchk t = 0 ∧ k.fits c = true ∧ v.fits c = true then (sortD (duesL (isDue c k v now done) t 0)).map fun d => (d.n : Int) else []
theorem cutR_le (x : Du) (P : List Du) : ∀ m, cutR x P m ≤ m
 | 0 => Nat.le_refl _
 | m + 1 => by
   rw [cutR]
   split
   · split
     · have := cutR_le x P m; omega
     · omega
   · omega
theorem insD_len (x : Du) (P : List Du) : (insD x P).length = P.length + 1 := by
 have := cutR_le x P P.length
 unfold insD; simp; omega
theorem sortD_snoc (l : List Du) (x : Du) : sortD (l ++ [x]) = insD x (sortD l) := by unfold sortD; rw [List.foldl_append]; rfl
theorem insD_perm (x : Du) (P : List Du) : (insD x P).Perm (x :: P) := by
 unfold insD
 exact List.perm_middle.trans (by rw [List.take_append_drop])
theorem foldl_perm : ∀ (l P : List Du), (l.foldl (fun P x => insD x P) P).Perm (l ++ P)
 | [], P => .refl _
 | x :: l, P => by
   rw [List.foldl_cons]
   refine (foldl_perm l _).trans (((insD_perm x P).append_left l).trans ?_)
   rw [List.cons_append]
   exact List.perm_middle
theorem sortD_perm (l : List Du) : (sortD l).Perm l := by
 have := foldl_perm l []
 rw [List.append_nil] at this; exact this
def Du.lt (a b : Du) : Prop := a.e.Time < b.e.Time ∨ (a.e.Time = b.e.Time ∧ a.n < b.n)
theorem duesL_mem (p : Nat → En → Bool) : ∀ (l : List En) (j : Nat) (d : Du), d ∈ duesL p l j → j ≤ d.n ∧ l[d.n - j]? = some d.e ∧ p d.n d.e = true
 | [], _, d, h => by simp [duesL] at h
 | e :: r, j, d, h => by
   have go : d ∈ duesL p r (j + 1) → j ≤ d.n ∧ (e :: r)[d.n - j]? = some d.e ∧ p d.n d.e = true := fun h => by
     obtain ⟨h1, h2, h3⟩ := duesL_mem p r (j + 1) d h
     refine ⟨by omega, ?_, h3⟩
     rw [show d.n - j = (d.n - (j + 1)) + 1 by omega, List.getElem?_cons_succ]; exact h2
   rw [duesL] at h
   split at h
   · rename_i hp
     rcases List.mem_cons.1 h with rfl | h
     · exact ⟨Nat.le_refl _, by simp, hp⟩
     · exact go h
   · exact go h
theorem duesL_len (p : Nat → En → Bool) : ∀ (l : List En) (j : Nat), (duesL p l j).length ≤ l.length
 | [], _ => by simp [duesL]
 | e :: r, j => by rw [duesL]; have := duesL_len p r (j + 1); split <;> simp <;> omega
theorem sortD_len (l : List Du) : (sortD l).length = l.length := (sortD_perm l).length_eq
/-! ### where the numbers stand -/
def fit0 (n : Nat) (l : List Int) : List Int := l.take n ++ List.replicate (n - l.length) 0
def bStep (was is_ : Co) (out : List Int) (x : Rt) (r : Nat) : List Int :=
 if (stAt was r = 2 ∨ stAt was r = 3) ∧ stAt is_ r = 4 ∧ (geti out x.Entry).getD 0 ≠ 0 then
   (if 0 ≤ x.Exit ∧ x.Exit ≠ x.Entry then (out.set x.Entry.toNat 0).set x.Exit.toNat ((geti out x.Entry).getD 0) else out.set x.Entry.toNat 0)
 else out
def bRun (was is_ : Co) : List Rt → Nat → List Int → List Int
 | [], _, out => out
 | x :: l, r, out => bRun was is_ l (r + 1) (bStep was is_ out x r)
def Cf.berths (c : Cf) (was is_ : Co) (b : List Int) : List Int :=
 if was.fits c = true ∧ is_.fits c = true then bRun was is_ c.Rts 0 (fit0 c.Sigs.length b) else b
theorem fit0_len (n : Nat) (l : List Int) : (fit0 n l).length = n := by unfold fit0; simp; omega
theorem bStep_len (was is_ : Co) (out : List Int) (x : Rt) (r : Nat) : (bStep was is_ out x r).length = out.length := by
 unfold bStep; split
 · split <;> simp
 · rfl
end
section
theorem tchk_ok {c : Cf} {t : List En} (h : c.tchk t = 0) : c.check = 0 ∧ t.length ≤ 16 ∧ ∀ e ∈ t, (0 ≤ e.Time ∧ e.Time ≤ 4294967295) ∧ (0 ≤ e.Route ∧ e.Route < (c.Rts.length : Int)) := by
 unfold Cf.tchk at h
 split at h
 · cases h
 split at h
 · cases h
 split at h
 · rename_i h1 h2 h3
   refine ⟨by simpa using h1, by omega, fun e he => ?_⟩
   have := List.all_eq_true.1 h3 e he
   simp only [enOk, tm, Bool.and_eq_true, decide_eq_true_eq] at this
   omega
 · cases h
structure DueF (c : Cf) (k : Co) (v : Vw) (now : Int) (done : List Bool) (t : List En) (y : Du) : Prop where
 cond : c.tchk t = 0 ∧ k.fits c = true ∧ v.fits c = true
 due : isDue c k v now done y.n y.e = true
 ent : t[y.n]? = some y.e
 time : y.e.Time ≤ now
 done : (done[y.n]?).getD false = false
 idle : ∃ rs, 0 ≤ y.e.Route ∧ k.Routes[y.e.Route.toNat]? = some rs ∧ rs.State = 0
/-! ### the numbers -/
end
end Go.Fw
section
namespace Go.Proofs.Ytjdpkjembijbeaa
open Go.Fw Go.Proofs Go.RowKit
variable {σ : Store}
abbrev encB (b : Bool) : List D := [.bool b]
theorem ars_between_ok (n lo hi : Int) : Pure Try.prog n_ars_between [iA n, iA lo, iA hi] σ (.a (bA (decide (lo ≤ n ∧ n ≤ hi)))) :=
 W_ars_between n lo hi σ _ (bcd (fun h => ⟨by congr 3; exact decide_eq_decide.2 (by omega), rfl⟩) (fun h => ⟨by rw [decide_eq_false (by omega)], rfl⟩))
theorem set_swap {α : Type} (A B : List α) (p x : α) : ((A ++ p :: x :: B).set (A.length + 1) p).set A.length x = A ++ x :: p :: B := by
 rw [List.set_append_right _ _ (by omega), Nat.add_sub_cancel_left, List.set_append_right _ _ (by omega), Nat.sub_self]
 rfl
theorem insSort_ok {σ0 : Store} {d : D} {l : List Du} (h : Own Try.prog σ0 σ t_ars_due d (l.map Du.enc)) (hT : ∀ x ∈ l, 0 ≤ x.e.Time ∧ x.e.Time ≤ 4294967295) (hl : l.length ≤ 2 ^ 20) :
   DCalls Try.prog n_slices_insertionSortCmpFunc_ars_due [.one d, iA 0, iA l.length, .one (.fn n_ars_Due_1 [] [])] σ fun r s => r = .tup [] ∧ Own Try.prog σ0 s t_ars_due d ((sortD l).map Du.enc) ∧ ∀ i, idOf d ≠ some i → s i = σ i := by
 have h1 : sortD (l.take 1) = l.take 1 := by
   cases l with
   | nil => rfl
   | cons x r => simp [sortD, insD, cutR]
 have hw1 : w64 ((0 : Int) + 1) = ((1 : Nat) : Int) := by rw [w64_id (by omega) (by omega)]; rfl
 refine W_slices_insertionSortCmpFunc_ars_due d 0 l.length _ σ _ ⟨fun n s => ∃ j : Nat, n = j ∧ 1 ≤ j ∧ j ≤ l.length + 1 ∧ Own Try.prog σ0 s t_ars_due d ((sortD (l.take j) ++ l.drop j).map Du.enc) ∧ ∀ i, idOf d ≠ some i → s i = σ i, fun n _ => l.length + 1 - n.toNat,
   ⟨1, hw1, by omega, by omega, by rw [h1, List.take_append_drop]; exact h, fun _ _ => rfl⟩, ?_⟩
 rintro _ s ⟨j, rfl, hj1, hjl, ho, hk⟩
 have hw : w64 ((j : Int) + 1) = ((j + 1 : Nat) : Int) := w64_succ (by omega)
 rw [hw]
 refine bcd (fun hlt => ?_) (fun hge => ⟨rfl, by rw [List.take_of_length_le (by omega), List.drop_eq_nil_of_le (by omega), List.append_nil] at ho; exact ho, hk⟩)
 have hlt : j < l.length := by omega
 obtain ⟨x, hx⟩ := get_of_lt (l := l) (j := j) hlt
 have hmu : l.length + 1 - ((j + 1 : Nat) : Int).toNat < l.length + 1 - ((j : Nat) : Int).toNat := by omega
 have hP : (sortD (l.take j)).length = j := by rw [sortD_len, List.length_take]; omega
 have hsn : sortD (l.take (j + 1)) = insD x (sortD (l.take j)) := by
   rw [List.take_add_one, hx]; exact sortD_snoc _ _
 have hPT : ∀ y ∈ sortD (l.take j), 0 ≤ y.e.Time ∧ y.e.Time ≤ 4294967295 := fun y hy => hT y (List.mem_of_mem_take ((sortD_perm _).mem_iff.1 hy))
 have hdrop : l.drop j = x :: l.drop (j + 1) := by
   rw [List.drop_eq_getElem_cons hlt, (List.getElem?_eq_some_iff.1 hx).2]
 have hxT := hT x (List.mem_of_getElem? hx)
 rw [hdrop] at ho
 generalize sortD (l.take j) = P at *
 have fin : ∀ (m : Nat) (s' : Store), Own Try.prog σ0 s' t_ars_due d ((P.take m ++ x :: (P.drop m ++ l.drop (j + 1))).map Du.enc) → cutR x P P.length = m → (∀ i, idOf d ≠ some i → s' i = σ i) →
     (∃ j' : Nat, ((j + 1 : Nat) : Int) = j' ∧ 1 ≤ j' ∧ j' ≤ l.length + 1 ∧ Own Try.prog σ0 s' t_ars_due d ((sortD (l.take j') ++ l.drop j').map Du.enc) ∧ ∀ i, idOf d ≠ some i → s' i = σ i) ∧ l.length + 1 - ((j + 1 : Nat) : Int).toNat < l.length + 1 - ((j : Nat) : Int).toNat := fun m s' ho' hc hk' => by
   refine ⟨⟨j + 1, rfl, by omega, by omega, ?_, hk'⟩, hmu⟩
   rw [hsn, insD, hc, List.append_assoc, List.cons_append]; exact ho'
 refine ⟨fun n s' => ∃ m : Nat, n = m ∧ m ≤ j ∧ Own Try.prog σ0 s' t_ars_due d ((P.take m ++ x :: (P.drop m ++ l.drop (j + 1))).map Du.enc) ∧ cutR x P m = cutR x P P.length ∧ ∀ i, idOf d ≠ some i → s' i = σ i, fun n _ => n.toNat,
   ⟨j, rfl, Nat.le_refl _, by rw [← hP, List.take_length, List.drop_length, List.nil_append, hP]; exact ho, by rw [hP], hk⟩, ?_⟩
 rintro _ s' ⟨m, rfl, hm, ho', hc, hk'⟩
 refine bcd (fun hgt => ?_) (fun hle => ?_)
 · obtain ⟨q, rfl⟩ : ∃ q, m = q + 1 := ⟨m - 1, by omega⟩
   obtain ⟨y, hy⟩ := get_of_lt (l := P) (j := q) (by omega)
   have hyT := hPT y (List.mem_of_getElem? hy)
   have hq : w64 (((q + 1 : Nat) : Int) - 1) = (q : Int) := by rw [w64_id (by omega) (by omega)]; omega
   have hlq : (P.take q).length = q := by rw [List.length_take]; omega
   have htk : P.take (q + 1) ++ x :: (P.drop (q + 1) ++ l.drop (j + 1)) = P.take q ++ y :: x :: (P.drop (q + 1) ++ l.drop (j + 1)) := by
     rw [List.take_add_one, hy]; simp
   rw [htk] at ho'
   generalize hB : P.drop (q + 1) ++ l.drop (j + 1) = B at *
   have gx : ((P.take q ++ y :: x :: B).map Du.enc)[q + 1]? = some x.enc := by
     rw [List.getElem?_map, List.getElem?_append_right (by omega), hlq, Nat.add_sub_cancel_left]; rfl
   have gy : ((P.take q ++ y :: x :: B).map Du.enc)[q]? = some y.enc := by
     rw [List.getElem?_map, List.getElem?_append_right (by omega), hlq, Nat.sub_self]; rfl
   have hcq : cutR x P (q + 1) = if x.e.Time < y.e.Time then cutR x P q else q + 1 := by rw [cutR, hy]
   rw [hq]
   refine ho'.at_.load gx c_ars_due rfl ⟨_, _, _, _, rfl, ho'.at_.load gy c_ars_due rfl ⟨_, _, _, _, rfl, n_ars_Due_1, [], [], [], [], rfl, rfl, rfl, ?_⟩⟩
   refine W_ars_Due_1 _ _ _ _ _ _ _ _ s' _ ⟨_, rfl, ?_⟩
   rw [w64_id (n := x.e.Time - y.e.Time) (by omega) (by omega)]
   refine bcd (fun hneg => ?_) (fun hpos => fin (q + 1) s' (by rw [hB, htk]; exact ho') (by rw [← hc, hcq, if_neg (by omega)]) hk')
   rw [hcq, if_pos (by omega)] at hc
   refine ho'.at_.load gy c_ars_due rfl ⟨_, _, _, _, rfl, ho'.at_.load gx c_ars_due rfl ⟨_, _, _, _, rfl, ho'.at_.idxK c_ars_due rfl (List.getElem?_eq_some_iff.1 gx).1 (ho'.put gx (by omega) (by simp [Du.enc]) fun s2 ho2 hk2 => ?_)⟩⟩
   have e1 : ((P.take q ++ y :: x :: B).map Du.enc).set (q + 1) (patch x.enc 0 [iD y.e.Time, iD y.e.Route, iD y.e.Train, iD y.n]) = (((P.take q ++ y :: x :: B).set (q + 1) y)).map Du.enc := map_set Du.enc _ _ _
   rw [e1] at ho2
   have gy2 : (((P.take q ++ y :: x :: B).set (q + 1) y).map Du.enc)[q]? = some y.enc := by
     rw [List.getElem?_map, List.getElem?_set_ne (by omega), ← List.getElem?_map]; exact gy
   refine ho2.at_.idxK c_ars_due rfl (List.getElem?_eq_some_iff.1 gy2).1 (ho2.put gy2 (by omega) (by simp [Du.enc]) fun s3 ho3 hk3 => ?_)
   have e2 : ((((P.take q ++ y :: x :: B).set (q + 1) y)).map Du.enc).set q (patch y.enc 0 [iD x.e.Time, iD x.e.Route, iD x.e.Train, iD x.n]) = ((((P.take q ++ y :: x :: B).set (q + 1) y)).set q x).map Du.enc := map_set Du.enc _ _ _
   have e3 := set_swap (P.take q) B y x
   rw [hlq] at e3
   rw [e2, e3] at ho3
   refine ⟨⟨q, rfl, by omega, ?_, hc, fun i hi => by rw [hk3 i hi, hk2 i hi]; exact hk' i hi⟩, by show ((q : Nat) : Int).toNat < ((q + 1 : Nat) : Int).toNat; omega⟩
   have e4 : P.drop q ++ l.drop (j + 1) = y :: B := by
     rw [← hB, List.drop_eq_getElem_cons (by omega), (List.getElem?_eq_some_iff.1 hy).2, List.cons_append]
   rw [e4]; exact ho3
 · have hm0 : m = 0 := by omega
   subst hm0
   exact fin 0 s' ho' (by rw [← hc]; rfl) hk'
theorem sort_ok {σ0 : Store} {d : D} {l : List Du} (h : Own Try.prog σ0 σ t_ars_due d (l.map Du.enc)) (hT : ∀ x ∈ l, 0 ≤ x.e.Time ∧ x.e.Time ≤ 4294967295) (hl : l.length ≤ 16) :
   DCalls Try.prog n_slices_SortStableFunc_ars_due [.one d, .one (.fn n_ars_Due_1 [] [])] σ fun r s => r = .tup [] ∧ Own Try.prog σ0 s t_ars_due d ((sortD l).map Du.enc) ∧ ∀ i, idOf d ≠ some i → s i = σ i := by
 refine W_slices_SortStableFunc_ars_due d _ σ _ (h.at_.lenK ?_)
 rw [List.length_map]
 refine (W_slices_stableCmpFunc_ars_due d l.length _ σ (fun r s => r = .tup [] ∧ Own Try.prog σ0 s t_ars_due d ((sortD l).map Du.enc) ∧ ∀ i, idOf d ≠ some i → s i = σ i) ⟨fun a b s => a = 0 ∧ b = 20 ∧ s = σ, fun _ _ _ => 0, ⟨rfl, rfl, rfl⟩, ?_⟩).mono fun r s hr => ⟨hr.1, rfl, hr.2⟩
 rintro _ _ _ ⟨rfl, rfl, rfl⟩
 refine bcd (fun e => absurd e (by omega)) (fun _ => (insSort_ok h hT (by omega)).mono ?_)
 rintro r s ⟨rfl, ho, hk⟩
 refine ⟨rfl, fun n s' => n = 20 ∧ s' = s, fun _ _ => 0, ⟨rfl, rfl⟩, ?_⟩
 rintro _ _ ⟨rfl, rfl⟩
 exact bcd (fun e => absurd e (by omega)) (fun _ => ⟨rfl, ho, hk⟩)
section
variable {c0 c1 c2 c3 c4 : D} {c : Cf} (hc : ∀ s, CfAt s c0 c1 c2 c3 c4 c)
include hc
theorem ars_Check_ok {dt : D} {t : List En} (ht : At Try.prog σ t_Entry dt (t.map En.enc)) : Pure Try.prog n_ars_Check [cfA c0 c1 c2 c3 c4 c, .one dt] σ (.a (iA (c.tchk t))) := by
 obtain ⟨rows, hat, hlen⟩ := rts_len (hc σ)
 have hts := ht.size
 rw [List.length_map] at hts
 refine W_ars_Check _ _ _ _ _ _ _ _ _ dt σ _ ((conf_Check_ok hc).use ⟨_, rfl, bcn (fun e => ⟨by rw [Cf.tchk, if_pos e], rfl⟩) (fun e0 => ht.lenK ?_)⟩)
 rw [List.length_map]
 have h1 : c.tchk t = if t.length > 16 then 5 else if t.all (enOk c) = true then 0 else 32 := by rw [Cf.tchk, if_neg (by simp [e0])]
 refine bcd (fun e => ⟨by rw [h1, if_pos (by omega)], rfl⟩) (fun e1 => ht.lenK ?_)
 rw [if_neg (by omega)] at h1
 refine ⟨fun n s => s = σ ∧ Rng t (fun l => l.all (enOk c) = t.all (enOk c)) n, fun n _ => t.length - n.toNat, ⟨rfl, .start rfl⟩, ?_⟩
 rintro n s ⟨rfl, hr⟩
 rw [List.length_map]
 refine bcd (fun hlt => ?_) (fun hge => ?_)
 · obtain ⟨j, x, rfl, hx, hj, hF, nx⟩ := hr.step rfl hts hlt
   rw [List.all_cons] at hF
   have bad : enOk c x = false → (RV.a (iA 32) = .a (iA (c.tchk t)) ∧ s = s) := fun hb => by
     rw [hb, Bool.false_and] at hF
     exact ⟨by rw [h1, ← hF, if_neg (by simp)], rfl⟩
   have hxo : enOk c x = (tm 0 x.Time && decide (0 ≤ x.Route ∧ x.Route ≤ (c.Rts.length : Int) - 1) && decide (1 ≤ x.Train ∧ x.Train ≤ 9999)) := rfl
   have hs13 := (check_small (by simpa using e0)).2.2.1
   refine ht.load (map_get hx) c_Entry rfl ⟨x.Time, x.Route, x.Train, rfl, (ars_between_ok _ _ _).use ⟨_, rfl, bcnot (fun e => bad (by rw [hxo, show tm 0 x.Time = false from e]; rfl)) (fun t1 => hat.lenK ?_)⟩⟩
   rw [hlen, w64_id (n := (c.Rts.length : Int) - 1) (by omega) (by omega)]
   refine (ars_between_ok _ _ _).use ⟨_, rfl, bcnot (fun e => bad (by rw [hxo, e]; simp)) (fun t2 => (ars_between_ok _ _ _).use ⟨_, rfl, bcnot (fun e => bad (by rw [hxo, e]; simp)) (fun t3 => ?_)⟩)⟩
   rw [hxo, show tm 0 x.Time = true from t1, t2, t3] at hF
   exact andl rfl (nx (fun l => l.all (enOk c) = t.all (enOk c)) hF)
 · have hF := hr.done rfl hge
   exact ⟨by rw [h1, ← hF]; rfl, rfl⟩
theorem ars_Due_ok {k0 k1 k2 k3 k4 k5 v0 v1 v2 v3 dd dt : D} {k : Co} {v : Vw} {done : List Bool} {t : List En} (now : Int) (hk : CoAt σ k0 k1 k2 k3 k4 k5 k) (hv0 : At Try.prog σ t_Look v0 (v.Occ.map Lk.enc)) (hv1 : At Try.prog σ t_Look v1 (v.Pos.map Lk.enc))
   (hv2 : At Try.prog σ t_Look v2 (v.Shut.map Lk.enc)) (hv3 : At Try.prog σ t_Look v3 (v.Lamp.map Lk.enc)) (hd : At Try.prog σ t_bool dd (done.map encB)) (ht : At Try.prog σ t_Entry dt (t.map En.enc)) :
   DCalls Try.prog n_ars_Due [cfA c0 c1 c2 c3 c4 c, coA k0 k1 k2 k3 k4 k5 k.Dirty, .agg [v0, v1, v2, v3], iA now, .one dd, .one dt] σ fun r s => ∃ d, r = .a (.one d) ∧ Own Try.prog σ s t_int d ((k.due c v now done t).map Go.Fw.encI) := by
 refine W_ars_Due _ _ _ _ _ _ _ _ _ k0 k1 k2 k3 k4 k5 k.Dirty v0 v1 v2 v3 now dd dt σ _ ?_
 intro R hR
 have nil : ¬ (c.tchk t = 0 ∧ k.fits c = true ∧ v.fits c = true) → ∃ d, RV.a (.one .nils) = .a (.one d) ∧ Own Try.prog σ σ t_int d ((k.due c v now done t).map Go.Fw.encI) := fun e => ⟨_, rfl, by rw [Co.due, if_neg e]; exact .nil _ (.refl _)⟩
 refine (ars_Check_ok hc ht).use ⟨_, rfl, bcn (fun e => nil fun g => e g.1) (fun e1 => (locks_Fits_ok hc hk).use ⟨_, rfl, bcnot (fun e => nil fun g => by rw [g.2.1] at e; cases e) (fun e2 => hv0.lenK ((hc σ).secs.lenK ?_))⟩)⟩
 have nov : ¬ (v.Occ.length = c.Secs.length ∧ v.Pos.length = c.Secs.length ∧ v.Shut.length = c.Xs.length ∧ v.Lamp.length = c.Sigs.length) → ¬ (c.tchk t = 0 ∧ k.fits c = true ∧ v.fits c = true) := fun hn g => hn (of_decide_eq_true g.2.2)
 simp only [List.length_map]
 refine bcn (fun e => nil (nov fun g => by omega)) (fun g1 => hv1.lenK ((hc σ).secs.lenK ?_))
 simp only [List.length_map]
 refine bcn (fun e => nil (nov fun g => by omega)) (fun g2 => hv2.lenK ((hc σ).xs.lenK ?_))
 simp only [List.length_map]
 refine bcn (fun e => nil (nov fun g => by omega)) (fun g3 => hv3.lenK ((hc σ).sigs.lenK ?_))
 simp only [List.length_map]
 refine bcn (fun e => nil (nov fun g => by omega)) (fun g4 => hR σ ?_)
 have hvf : v.fits c = true := decide_eq_true ⟨by omega, by omega, by omega, by omega⟩
 rw [Co.due, if_pos ⟨e1, e2, hvf⟩]
 obtain ⟨hck, htl, hte⟩ := tchk_ok e1
 obtain ⟨lo, lp, lr, lt, lx, ll⟩ := fits_lens e2
 have hdl := duesL_len (isDue c k v now done) t 0
 have hds := hd.size
 rw [List.length_map] at hds
 have hdm := duesL_mem (isDue c k v now done) t 0
 generalize hD : duesL (isDue c k v now done) t 0 = DD at *
 refine ht.lenK ⟨fun d n s => ∃ out : List Du, Own Try.prog σ s t_ars_due d (out.map Du.enc) ∧ (out.length : Int) ≤ n ∧ Rng t (fun l => out ++ duesL (isDue c k v now done) l n.toNat = DD) n, fun _ n _ => t.length - n.toNat,
   ⟨[], .nil _ (.refl _), by simp, .start hD⟩, ?_⟩
 rintro d n s ⟨out, ho, hol, hr⟩
 rw [List.length_map]
 refine bcd (fun hlt => ?_) (fun hge => ?_)
 · obtain ⟨j, x, rfl, hx, hj, hF, nx⟩ := hr.step rfl (by omega) hlt
   have hw : w64 ((j : Int) + 1) = ((j + 1 : Nat) : Int) := w64_succ (by omega)
   rw [Int.toNat_natCast, duesL] at hF
   have go : ∀ out2 d2 s2, out2 ++ duesL (isDue c k v now done) (t.drop (j + 1)) (j + 1) = DD → Own Try.prog σ s2 t_ars_due d2 (out2.map Du.enc) → out2.length ≤ j + 1 → (∃ out : List Du, Own Try.prog σ s2 t_ars_due d2 (out.map Du.enc) ∧ (out.length : Int) ≤ w64 ((j : Int) + 1) ∧ Rng t (fun l => out ++ duesL (isDue c k v now done) l (w64 ((j : Int) + 1)).toNat = DD) (w64 ((j : Int) + 1))) ∧
       t.length - (w64 ((j : Int) + 1)).toNat < t.length - (j : Int).toNat := fun out2 d2 s2 he ho2 hl => by
     have := nx (fun l => out2 ++ duesL (isDue c k v now done) l (w64 ((j : Int) + 1)).toNat = DD) (by rw [hw, Int.toNat_natCast]; exact he)
     exact ⟨⟨out2, ho2, by rw [hw]; omega, this.1⟩, this.2⟩
   have skip : isDue c k v now done j x = false → _ := fun hb => go out d s (by rw [if_neg (by rw [hb]; simp)] at hF; exact hF) ho (by omega)
   obtain ⟨_, hrx⟩ := hte x (List.mem_of_getElem? hx)
   obtain ⟨rt, hrt⟩ := geti_ex (l := c.Rts) (i := x.Route) (by omega) (by omega)
   have hap : c.Approach x.Route = c.approach rt := by rw [Cf.Approach, hrt]; rfl
   obtain ⟨y, hy⟩ := app_sec hck (List.mem_of_getElem? (geti_some hrt).2.2)
   have hyg := geti_some hy
   obtain ⟨lk, hlk⟩ := get_of_lt (l := v.Occ) (j := (c.approach rt).toNat) (by omega)
   obtain ⟨rs, hrs⟩ := get_of_lt (l := k.Routes) (j := x.Route.toNat) (by omega)
   have hoc : occAt v.Occ (c.Approach x.Route) = lk := by rw [hap, occAt]; unfold geti; rw [if_neg (by omega), hlk]; rfl
   have hI : isDue c k v now done j x = (!((done[j]?).getD false) && (decide (x.Time ≤ now) && (decide (rs.State = 0) && (lk.Valid && decide (lk.Value = 1))))) := by
     rw [isDue, hoc, (stAt_get (i := x.Route) (j := x.Route.toNat) (by omega) hrs).1]
   refine (ht.ext ho.ext).load (map_get hx) c_Entry rfl ⟨x.Time, x.Route, x.Train, rfl, (conf_Approach_ok (hc s) _).use ⟨_, rfl, ?_⟩⟩
   rw [hap]
   refine (hv0.ext ho.ext).load (map_get hlk) c_Look (by omega) ⟨lk.Value, lk.Stamp, lk.Valid, rfl, ?_⟩
   intro R1 hR1
   have yes : isDue c k v now done j x = true → R1 s := fun hb => hR1 s (by
     rw [if_pos hb] at hF
     exact newObj_intro fun id1 s4 hid1 _ he4 hs4 => (ho.ext' he4).append (At.fresh hs4 (by simp) rfl) (by simp; omega) (by simp; omega) fun d4 s5 ho5 _ _ => go (out ++ [⟨x, j⟩]) _ _ (by rw [List.append_assoc]; exact hF) (by rw [List.map_append]; exact ho5) (by simp; omega))
   have tail : ∀ T : Prop, T → (done[j]?).getD false = false → bcase (decide (x.Time > now)) ((∃ out : List Du, Own Try.prog σ s t_ars_due d (out.map Du.enc) ∧ (out.length : Int) ≤ w64 ((j : Int) + 1) ∧ Rng t (fun l => out ++ duesL (isDue c k v now done) l (w64 ((j : Int) + 1)).toNat = DD) (w64 ((j : Int) + 1))) ∧ t.length - (w64 ((j : Int) + 1)).toNat < t.length - (j : Int).toNat)
       (∃ len : Nat, Idx Try.prog s k1 4 len ∧ (0 : Int) ≤ x.Route ∧ x.Route < (len : Int) ∧ ∃ row : List D, Row s k1 x.Route.toNat row ∧ ∃ n7 : Int, List.take 1 row = [iD n7] ∧ bcase (n7 != 0) ((∃ out : List Du, Own Try.prog σ s t_ars_due d (out.map Du.enc) ∧ (out.length : Int) ≤ w64 ((j : Int) + 1) ∧ Rng t (fun l => out ++ duesL (isDue c k v now done) l (w64 ((j : Int) + 1)).toNat = DD) (w64 ((j : Int) + 1))) ∧ t.length - (w64 ((j : Int) + 1)).toNat < t.length - (j : Int).toNat)
         (bcase (!lk.Valid) ((∃ out : List Du, Own Try.prog σ s t_ars_due d (out.map Du.enc) ∧ (out.length : Int) ≤ w64 ((j : Int) + 1) ∧ Rng t (fun l => out ++ duesL (isDue c k v now done) l (w64 ((j : Int) + 1)).toNat = DD) (w64 ((j : Int) + 1))) ∧ t.length - (w64 ((j : Int) + 1)).toNat < t.length - (j : Int).toNat)
         (bcase (lk.Value != 1) ((∃ out : List Du, Own Try.prog σ s t_ars_due d (out.map Du.enc) ∧ (out.length : Int) ≤ w64 ((j : Int) + 1) ∧ Rng t (fun l => out ++ duesL (isDue c k v now done) l (w64 ((j : Int) + 1)).toNat = DD) (w64 ((j : Int) + 1))) ∧ t.length - (w64 ((j : Int) + 1)).toNat < t.length - (j : Int).toNat) (T ∧ R1 s)))) := fun T hT hdn => by
     rw [hdn] at hI
     refine bcd (fun e => skip (by rw [hI, decide_eq_false (by omega)]; rfl)) (fun t1 => (hk.ext ho.ext).routes.load (map_get hrs) c_RouteState (by omega) ⟨rs.State, rfl, bcn (fun e => skip (by rw [hI, decide_eq_false e]; simp)) (fun t2 => bcnot (fun e => skip (by rw [hI, e]; simp)) (fun t3 => bcn (fun e => skip (by rw [hI, decide_eq_false e]; simp)) (fun t4 => ⟨hT, yes ?_⟩)))⟩)
     rw [hI, decide_eq_true (by omega), decide_eq_true t2, t3, decide_eq_true t4]; rfl
   refine hd.lenK ?_
   rw [List.length_map]
   refine bcd (fun e => ?_) (fun e => tail _ (by rfl) (by rw [List.getElem?_eq_none (by omega)]; rfl))
   obtain ⟨db, hdb⟩ := get_of_lt (l := done) (j := j) (by omega)
   refine (hd.ext ho.ext).load (map_get hdb) c_bool rfl ⟨db, rfl, bc (fun e2 => skip (by rw [hI, hdb, e2]; rfl)) (fun e2 => tail _ (by rfl) (by rw [hdb, e2]; rfl))⟩
 · have hF := hr.done rfl hge
   rw [duesL, List.append_nil] at hF
   subst hF
   refine (sort_ok ho (fun x hx => ?_) (by omega)).mono ?_
   · have := (hdm x hx).2.1
     exact (hte x.e (List.mem_of_getElem? this)).1
   rintro r s2 ⟨rfl, ho2, hk2⟩
   have hsl := sortD_len out
   generalize sortD out = S at *
   refine ⟨rfl, ho2.at_.lenK ⟨fun d1 n s' => ∃ (j : Nat), n = j ∧ j ≤ S.length ∧ Own Try.prog s2 s' t_int d1 (((S.take j).map fun d => (d.n : Int)).map Go.Fw.encI), fun _ n _ => S.length - n.toNat, ⟨0, rfl, by omega, .nil _ (.refl _)⟩, ?_⟩⟩
   rintro d1 _ s' ⟨j, rfl, hj, ho1⟩
   rw [List.length_map]
   refine bcd (fun hlt => ?_) (fun hge => ?_)
   · have hlt : j < S.length := by omega
     obtain ⟨x, hx⟩ := get_of_lt (l := S) (j := j) hlt
     refine ((ho2.ext' ho1.ext).at_).load (map_get hx) c_ars_due rfl ⟨x.e.Time, x.e.Route, x.e.Train, x.n, rfl, newObj_intro fun id1 s4 hid1 _ he4 hs4 => ?_⟩
     have hl2 : (((S.take j).map fun d => (d.n : Int)).map Go.Fw.encI).length = j := by simp; omega
     refine (ho1.ext' he4).append (At.fresh hs4 (by simp) rfl) (by rw [hl2]; simp; omega) (by rw [hl2]; simp; omega) fun d4 s5 ho5 _ _ => ?_
     rw [w64_succ (by omega)]
     have e : S.take (j + 1) = S.take j ++ [x] := by rw [List.take_add_one, hx]; rfl
     exact ⟨⟨j + 1, rfl, by omega, by rw [e, List.map_append, List.map_append]; exact ho5⟩, dec_lt hlt⟩
   · have hjl : j = S.length := by omega
     subst hjl
     rw [List.take_length] at ho1
     exact ⟨d1, rfl, ho1.from ho2.ext⟩
end
end Go.Proofs.Ytjdpkjembijbeaa
namespace Go.Proofs.Ytjdpkjembijbeaa
open Go.Fw Go.Proofs Go.RowKit
variable {σ : Store}
theorem ars_Berths_ok {c0 c1 c2 c3 c4 : D} {c : Cf} (hc : ∀ s, CfAt s c0 c1 c2 c3 c4 c) {k0 k1 k2 k3 k4 k5 m0 m1 m2 m3 m4 m5 db : D} {k m : Co} {b : List Int} (hk : CoAt σ k0 k1 k2 k3 k4 k5 k) (hm : CoAt σ m0 m1 m2 m3 m4 m5 m)
   (hb : At Try.prog σ t_int db (b.map Go.Fw.encI)) (hz : db ≠ .zsl) (hbl : 8 * b.length ≤ 140737488355328) :
   DCalls Try.prog n_ars_Berths [cfA c0 c1 c2 c3 c4 c, coA k0 k1 k2 k3 k4 k5 k.Dirty, coA m0 m1 m2 m3 m4 m5 m.Dirty, .one db] σ fun r s => ∃ d, r = .a (.one d) ∧ Own Try.prog σ s t_int d ((c.berths k m b).map Go.Fw.encI) := by
 refine W_ars_Berths _ _ _ _ _ _ _ _ _ k0 k1 k2 k3 k4 k5 k.Dirty m0 m1 m2 m3 m4 m5 m.Dirty db σ _ ?_
 intro R hR
 have cl : ¬ (k.fits c = true ∧ m.fits c = true) → DCalls Try.prog n_slices_Clone_int [.one db] σ fun r1 s1 => ∃ d, r1 = .a (.one d) ∧ ∃ d', RV.a (.one d) = .a (.one d') ∧ Own Try.prog σ s1 t_int d' ((c.berths k m b).map Go.Fw.encI) := fun e =>
   (Clone_int_ok hb hz (by rw [List.length_map]; exact hbl)).mono fun r s ⟨d, h1, h2⟩ => ⟨d, h1, d, rfl, by rw [Cf.berths, if_neg e]; exact h2⟩
 refine (locks_Fits_ok hc hk).use ⟨_, rfl, bcnot (fun e => cl fun g => by rw [g.1] at e; cases e) (fun e1 => (locks_Fits_ok hc hm).use ⟨_, rfl, bcnot (fun e => cl fun g => by rw [g.2] at e; cases e) (fun e2 => hR σ ?_)⟩)⟩
 rw [Cf.berths, if_pos ⟨e1, e2⟩]
 have hck := fits_check e1
 obtain ⟨lo, lp, lr, lt, lx, ll⟩ := fits_lens e1
 obtain ⟨lo', lp', lr', lt', lx', ll'⟩ := fits_lens e2
 obtain ⟨_, s1, s2, s3, s4, _⟩ := check_small hck
 obtain ⟨rows, hat, hlen, hrow⟩ := rts_froz fun s => (hc s).rts
 refine (hc σ).sigs.lenK ⟨by omega, by omega, by rw [List.length_map]; omega, newObj_intro fun id sa hid _ he hs => ?_⟩
 rw [List.length_map, Int.toNat_natCast] at *
 have ho : Own Try.prog σ sa t_int (.osl id 0 c.Sigs.length) (List.replicate c.Sigs.length [iD 0]) := .at_new hid he hs (by simp; omega) (by simp)
 refine ho.copy (hb.ext he) fun sb hob _ => ?_
 have hfit : (b.map Go.Fw.encI).take (min (b.map Go.Fw.encI).length (List.replicate c.Sigs.length [iD 0]).length) ++ (List.replicate c.Sigs.length [iD 0]).drop (min (b.map Go.Fw.encI).length (List.replicate c.Sigs.length [iD 0]).length) = (fit0 c.Sigs.length b).map Go.Fw.encI := by
   unfold fit0
   rw [List.length_map, List.length_replicate, List.map_append, ← List.map_take, List.map_replicate, List.drop_replicate]
   congr 2
   · by_cases h : b.length ≤ c.Sigs.length
     · rw [Nat.min_eq_left h, List.take_length, List.take_of_length_le h]
     · rw [Nat.min_eq_right (by omega)]
   · omega
 rw [hfit] at hob
 have hf0 := fit0_len c.Sigs.length b
 generalize fit0 c.Sigs.length b = f0 at *
 refine (hat sb).lenK ⟨fun n s => ∃ out : List Int, Own Try.prog σ s t_int (.osl id 0 c.Sigs.length) (out.map Go.Fw.encI) ∧ out.length = c.Sigs.length ∧ Rng c.Rts (fun l => bRun k m l n.toNat out = bRun k m c.Rts 0 f0) n, fun n _ => c.Rts.length - n.toNat, ⟨f0, hob, hf0, .start rfl⟩, ?_⟩
 rintro n s ⟨out, ho, hol, hr⟩
 refine bcd (fun hlt => ?_) (fun hge => ?_)
 · obtain ⟨j, x, rfl, hx, hj, hF, nx⟩ := hr.step hlen (by omega) hlt
   have hw : w64 ((j : Int) + 1) = ((j + 1 : Nat) : Int) := w64_succ (by omega)
   have hxo := check_rt hck (List.mem_of_getElem? hx)
   obtain ⟨row, hrw⟩ := get_of_lt (l := rows) (j := j) (by omega)
   obtain ⟨d1, d2, d3, rfl, q1, q2, q3⟩ := hrow j row x hrw hx
   obtain ⟨r1, hr1⟩ := get_of_lt (l := k.Routes) (j := j) (by omega)
   obtain ⟨r2, hr2⟩ := get_of_lt (l := m.Routes) (j := j) (by omega)
   obtain ⟨a, ha⟩ := hxo.entry
   have hag := geti_some ha
   obtain ⟨o, hog⟩ := get_of_lt (l := out) (j := x.Entry.toNat) (by omega)
   have hgo : (geti out x.Entry).getD 0 = o := by unfold geti; rw [if_neg (by omega), hog]; rfl
   rw [Int.toNat_natCast, bRun] at hF
   have hst : bStep k m out x j = if (r1.State = 2 ∨ r1.State = 3) ∧ r2.State = 4 ∧ o ≠ 0 then (if 0 ≤ x.Exit ∧ x.Exit ≠ x.Entry then (out.set x.Entry.toNat 0).set x.Exit.toNat o else out.set x.Entry.toNat 0) else out := by
     unfold bStep; rw [(stAt_get (i := j) rfl hr1).1, (stAt_get (i := j) rfl hr2).1, hgo]
   have go : ∀ out2 s2, bStep k m out x j = out2 → Own Try.prog σ s2 t_int (.osl id 0 c.Sigs.length) (out2.map Go.Fw.encI) → (∃ out : List Int, Own Try.prog σ s2 t_int (.osl id 0 c.Sigs.length) (out.map Go.Fw.encI) ∧ out.length = c.Sigs.length ∧ Rng c.Rts (fun l => bRun k m l (w64 ((j : Int) + 1)).toNat out = bRun k m c.Rts 0 f0) (w64 ((j : Int) + 1))) ∧
       c.Rts.length - (w64 ((j : Int) + 1)).toNat < c.Rts.length - (j : Int).toNat := fun out2 s2 he ho2 => by
     have hl2 := bStep_len k m out x j
     rw [he] at hF hl2
     have := nx (fun l => bRun k m l (w64 ((j : Int) + 1)).toNat out2 = bRun k m c.Rts 0 f0) (by rw [hw, Int.toNat_natCast]; exact hF)
     exact ⟨⟨out2, ho2, by omega, this.1⟩, this.2⟩
   have stay : ¬ ((r1.State = 2 ∨ r1.State = 3) ∧ r2.State = 4 ∧ o ≠ 0) → _ := fun hn => go out s (by rw [hst, if_neg hn]) ho
   refine (hat s).load hrw c_Route rfl ⟨_, _, d1, d2, d3, _, rfl, (hk.ext ho.ext).routes.load (map_get hr1) c_RouteState rfl ⟨r1.State, rfl, ?_⟩⟩
   intro R1 hR1
   have yes : (r1.State = 2 ∨ r1.State = 3) ∧ r2.State = 4 ∧ o ≠ 0 → R1 s := fun hy => hR1 s (by
     rw [if_pos hy] at hst
     refine ho.at_.load (map_get hog) c_int (by omega) ⟨o, rfl, ho.at_.idxK (j := x.Entry.toNat) c_int (by omega) (by rw [List.length_map]; omega) (ho.put (map_get hog) rfl (by simp [Go.Fw.encI]) fun s2 ho2 _ => ?_)⟩
     have e1 : (out.map Go.Fw.encI).set x.Entry.toNat (patch (Go.Fw.encI o) 0 [iD 0]) = (out.set x.Entry.toNat 0).map Go.Fw.encI := map_set Go.Fw.encI out _ 0
     rw [e1] at ho2
     refine bcd (fun t1 => bcn (fun t2 => ?_) (fun t2 => go _ s2 (by rw [hst, if_neg (by simp [t2])]) ho2)) (fun t1 => go _ s2 (by rw [hst, if_neg (by omega)]) ho2)
     rw [if_pos ⟨t1, t2⟩] at hst
     have hxr : x.Exit < c.Sigs.length := by
       rcases hxo.exit_ with e | ⟨y, hy⟩
       · omega
       · exact (geti_some hy).2.1
     obtain ⟨o2, ho2g⟩ := get_of_lt (l := out.set x.Entry.toNat 0) (j := x.Exit.toNat) (by rw [List.length_set]; omega)
     refine ho2.at_.idxK (j := x.Exit.toNat) c_int (by omega) (by rw [List.length_map, List.length_set]; omega) (ho2.put (map_get ho2g) rfl (by simp [Go.Fw.encI]) fun s3 ho3 _ => go _ s3 hst ?_)
     have e2 : ((out.set x.Entry.toNat 0).map Go.Fw.encI).set x.Exit.toNat (patch (Go.Fw.encI o2) 0 [iD o]) = ((out.set x.Entry.toNat 0).set x.Exit.toNat o).map Go.Fw.encI := map_set Go.Fw.encI _ _ o
     rw [e2] at ho3; exact ho3)
   have tail : ∀ T : Prop, T → (r1.State = 2 ∨ r1.State = 3) → ∃ len : Nat, Idx Try.prog s m1 4 len ∧ (0 : Int) ≤ (j : Int) ∧ (j : Int) < (len : Int) ∧ ∃ row2 : List D, Row s m1 (Int.toNat j) row2 ∧ ∃ n5 : Int, List.take 1 row2 = [iD n5] ∧ bcase (n5 != 4) ((∃ out : List Int, Own Try.prog σ s t_int (.osl id 0 c.Sigs.length) (out.map Go.Fw.encI) ∧ out.length = c.Sigs.length ∧ Rng c.Rts (fun l => bRun k m l (w64 ((j : Int) + 1)).toNat out = bRun k m c.Rts 0 f0) (w64 ((j : Int) + 1))) ∧ c.Rts.length - (w64 ((j : Int) + 1)).toNat < c.Rts.length - (j : Int).toNat)
       (∃ len5 : Nat, Idx Try.prog s (.osl id 0 c.Sigs.length) 1 len5 ∧ (0 : Int) ≤ x.Entry ∧ x.Entry < (len5 : Int) ∧ ∃ row3 : List D, Row s (.osl id 0 c.Sigs.length) x.Entry.toNat row3 ∧ ∃ n6 : Int, List.take 1 row3 = [iD n6] ∧ bcase (n6 == 0) ((∃ out : List Int, Own Try.prog σ s t_int (.osl id 0 c.Sigs.length) (out.map Go.Fw.encI) ∧ out.length = c.Sigs.length ∧ Rng c.Rts (fun l => bRun k m l (w64 ((j : Int) + 1)).toNat out = bRun k m c.Rts 0 f0) (w64 ((j : Int) + 1))) ∧ c.Rts.length - (w64 ((j : Int) + 1)).toNat < c.Rts.length - (j : Int).toNat) (T ∧ R1 s)) := fun T hT h23 =>
     (hm.ext ho.ext).routes.load (map_get hr2) c_RouteState rfl ⟨r2.State, rfl, bcn (fun e => stay (fun g => e g.2.1)) (fun t2 => ho.at_.load (map_get hog) c_int (by omega) ⟨o, rfl, bce (fun e => stay (fun g => g.2.2 e)) (fun t3 => ⟨hT, yes ⟨h23, t2, t3⟩⟩)⟩)⟩
   exact bcn (fun t1 => bcn (fun t2 => stay (fun g => by rcases g.1 with e | e; exact t1 e; exact t2 e)) (fun t2 => tail _ (by rfl) (.inr t2))) (fun t1 => tail _ (by rfl) (.inl t1))
 · have hF := hr.done hlen hge
   exact ⟨_, rfl, by rw [← hF]; exact ho⟩
end Go.Proofs.Ytjdpkjembijbeaa
end
namespace Go.Proofs.Ytjdpkjembijbeaa
open Go.Fw Go.Proofs Go.RowKit
section
variable {σ : Store}
section
variable {c0 c1 c2 c3 c4 : D} {c : Cf} (hc : ∀ s, CfAt s c0 c1 c2 c3 c4 c)
include hc
theorem ref16_Check_ok {dt : D} {t : List En} (ht : At Try.prog σ t_Entry dt (t.map En.enc)) : Pure Try.prog n_ref16_Check [cfA c0 c1 c2 c3 c4 c, .one dt] σ (.a (iA (c.tchk t))) := by
 obtain ⟨rows, hat, hlen⟩ := rts_len (hc σ)
 have hts := ht.size
 rw [List.length_map] at hts
 refine W_ref16_Check _ _ _ _ _ _ _ _ _ dt σ _ ((ref06_Check_ok hc).use ⟨_, rfl, bcn (fun e => ⟨by rw [Cf.tchk, if_pos e], rfl⟩) (fun e0 => ht.lenK ?_)⟩)
 rw [List.length_map]
 have h1 : c.tchk t = if t.length > 16 then 5 else if t.all (enOk c) = true then 0 else 32 := by rw [Cf.tchk, if_neg (by simp [e0])]
 refine bcd (fun e => ⟨by rw [h1, if_pos (by omega)], rfl⟩) (fun e1 => ht.lenK ?_)
 rw [if_neg (by omega)] at h1
 refine ⟨fun n s => s = σ ∧ Rng t (fun l => l.all (enOk c) = t.all (enOk c)) n, fun n _ => t.length - n.toNat, ⟨rfl, .start rfl⟩, ?_⟩
 rintro n s ⟨rfl, hr⟩
 rw [List.length_map]
 refine bcd (fun hlt => ?_) (fun hge => ?_)
 · obtain ⟨j, x, rfl, hx, hj, hF, nx⟩ := hr.step rfl hts hlt
   rw [List.all_cons] at hF
   have hxo : enOk c x = (tm 0 x.Time && decide (0 ≤ x.Route ∧ x.Route ≤ (c.Rts.length : Int) - 1) && decide (1 ≤ x.Train ∧ x.Train ≤ 9999)) := rfl
   have bad : enOk c x = false → (RV.a (iA 32) = .a (iA (c.tchk t)) ∧ s = s) := fun hb => by
     rw [hb, Bool.false_and] at hF
     exact ⟨by rw [h1, ← hF, if_neg (by simp)], rfl⟩
   refine ht.load (map_get hx) c_Entry rfl ⟨x.Time, x.Route, x.Train, rfl, (ref13_Time_ok _).use ⟨_, rfl, bcnot (fun e => bad (by rw [hxo, e]; rfl)) (fun t1 => ?_)⟩⟩
   refine bcd (fun e => bad (by rw [hxo, decide_eq_false (p := 0 ≤ x.Route ∧ _) (by omega)]; simp)) (fun t2 => hat.lenK ?_)
   rw [hlen]
   refine bcd (fun e => bad (by rw [hxo, decide_eq_false (p := 0 ≤ x.Route ∧ _) (by omega)]; simp)) (fun t3 => bcd (fun e => bad (by rw [hxo, decide_eq_false (p := 1 ≤ x.Train ∧ _) (by omega)]; simp)) (fun t4 => bcd (fun e => bad (by rw [hxo, decide_eq_false (p := 1 ≤ x.Train ∧ _) (by omega)]; simp)) (fun t5 => ?_)))
   rw [hxo, t1, decide_eq_true ⟨by omega, by omega⟩, decide_eq_true ⟨by omega, by omega⟩] at hF
   exact andl rfl (nx (fun l => l.all (enOk c) = t.all (enOk c)) hF)
 · have hF := hr.done rfl hge
   exact ⟨by rw [h1, ← hF]; rfl, rfl⟩
theorem ref16_Due_ok {k0 k1 k2 k3 k4 k5 v0 v1 v2 v3 dd dt : D} {k : Co} {v : Vw} {done : List Bool} {t : List En} (now : Int) (hk : CoAt σ k0 k1 k2 k3 k4 k5 k) (hv : VwAt v0 v1 v2 v3 v) (hd : At Try.prog σ t_bool dd (done.map encB)) (ht : At Try.prog σ t_Entry dt (t.map En.enc)) :
   DCalls Try.prog n_ref16_Due [cfA c0 c1 c2 c3 c4 c, coA k0 k1 k2 k3 k4 k5 k.Dirty, .agg [v0, v1, v2, v3], iA now, .one dd, .one dt] σ fun r s => ∃ d, r = .a (.one d) ∧ Own Try.prog σ s t_int d ((k.due c v now done t).map Go.Fw.encI) := by
 refine W_ref16_Due _ _ _ _ _ _ _ _ _ k0 k1 k2 k3 k4 k5 k.Dirty v0 v1 v2 v3 now dd dt σ _ ?_
 intro R hR
 have nil : ¬ (c.tchk t = 0 ∧ k.fits c = true ∧ v.fits c = true) → ∃ d, RV.a (.one .nils) = .a (.one d) ∧ Own Try.prog σ σ t_int d ((k.due c v now done t).map Go.Fw.encI) := fun e => ⟨_, rfl, by rw [Co.due, if_neg e]; exact .nil _ (.refl _)⟩
 refine (ref16_Check_ok hc ht).use ⟨_, rfl, bcn (fun e => nil fun g => e g.1) (fun e1 => (ref13_Fits_ok hc hk _).use ⟨_, rfl, bcnot (fun e => nil fun g => by rw [g.2.1] at e; cases e) (fun e2 => (ref14_Seen_ok (hc σ) hv).use ⟨_, rfl, bcnot (fun e => nil fun g => by rw [g.2.2] at e; cases e) (fun hvf => hR σ ?_)⟩)⟩)⟩
 rw [Co.due, if_pos ⟨e1, e2, hvf⟩]
 obtain ⟨hck, htl, hte⟩ := tchk_ok e1
 obtain ⟨lo, lp, lr, lt, lx, ll⟩ := fits_lens e2
 have hvl := vfits_lens hvf
 have hds := hd.size
 rw [List.length_map] at hds
 refine ht.lenK ⟨fun d n s => ∃ P : List Du, Own Try.prog σ s t_int d ((P.map fun d => (d.n : Int)).map Go.Fw.encI) ∧ (P.length : Int) ≤ n ∧ (∀ y ∈ P, t[y.n]? = some y.e) ∧ Rng t (fun l => (duesL (isDue c k v now done) l n.toNat).foldl (fun P x => insD x P) P = sortD (duesL (isDue c k v now done) t 0)) n, fun _ n _ => t.length - n.toNat,
   ⟨[], .nil _ (.refl _), by simp, fun y hy => by simp at hy, .start rfl⟩, ?_⟩
 rintro d n s ⟨P, ho, hol, hPt, hr⟩
 rw [List.length_map]
 refine bcd (fun hlt => ?_) (fun hge => ?_)
 · obtain ⟨j, x, rfl, hx, hj, hF, nx⟩ := hr.step rfl (by omega) hlt
   have hw : w64 ((j : Int) + 1) = ((j + 1 : Nat) : Int) := w64_succ (by omega)
   rw [Int.toNat_natCast, duesL] at hF
   have go : ∀ P2 d2 s2, (duesL (isDue c k v now done) (t.drop (j + 1)) (j + 1)).foldl (fun P x => insD x P) P2 = sortD (duesL (isDue c k v now done) t 0) → Own Try.prog σ s2 t_int d2 ((P2.map fun d => (d.n : Int)).map Go.Fw.encI) → P2.length ≤ j + 1 → (∀ y ∈ P2, t[y.n]? = some y.e) →
       (∃ P : List Du, Own Try.prog σ s2 t_int d2 ((P.map fun d => (d.n : Int)).map Go.Fw.encI) ∧ (P.length : Int) ≤ w64 ((j : Int) + 1) ∧ (∀ y ∈ P, t[y.n]? = some y.e) ∧ Rng t (fun l => (duesL (isDue c k v now done) l (w64 ((j : Int) + 1)).toNat).foldl (fun P x => insD x P) P = sortD (duesL (isDue c k v now done) t 0)) (w64 ((j : Int) + 1))) ∧
       t.length - (w64 ((j : Int) + 1)).toNat < t.length - (j : Int).toNat := fun P2 d2 s2 he ho2 hl h2 => by
     have := nx (fun l => (duesL (isDue c k v now done) l (w64 ((j : Int) + 1)).toNat).foldl (fun P x => insD x P) P2 = sortD (duesL (isDue c k v now done) t 0)) (by rw [hw, Int.toNat_natCast]; exact he)
     exact ⟨⟨P2, ho2, by rw [hw]; omega, h2, this.1⟩, this.2⟩
   have skip : isDue c k v now done j x = false → _ := fun hb => go P d s (by rw [if_neg (by rw [hb]; simp)] at hF; exact hF) ho (by omega) hPt
   obtain ⟨_, hrx⟩ := hte x (List.mem_of_getElem? hx)
   obtain ⟨rt, hrt⟩ := geti_ex (l := c.Rts) (i := x.Route) (by omega) (by omega)
   have hap : c.Approach x.Route = c.approach rt := by rw [Cf.Approach, hrt]; rfl
   obtain ⟨y, hy⟩ := app_sec hck (List.mem_of_getElem? (geti_some hrt).2.2)
   have hyg := geti_some hy
   obtain ⟨lk, hlk⟩ := get_of_lt (l := v.Occ) (j := (c.approach rt).toNat) (by omega)
   obtain ⟨rs, hrs⟩ := get_of_lt (l := k.Routes) (j := x.Route.toNat) (by omega)
   have hoc : occAt v.Occ (c.Approach x.Route) = lk := by rw [hap, occAt]; unfold geti; rw [if_neg (by omega), hlk]; rfl
   have hI : isDue c k v now done j x = (!((done[j]?).getD false) && (decide (x.Time ≤ now) && (decide (rs.State = 0) && (lk.Valid && decide (lk.Value = 1))))) := by
     rw [isDue, hoc, (stAt_get (i := x.Route) (j := x.Route.toNat) (by omega) hrs).1]
   refine (ht.ext ho.ext).load (map_get hx) c_Entry rfl ⟨x.Time, x.Route, x.Train, rfl, (ref06_Approach_ok (hc s) _).use ⟨_, rfl, ?_⟩⟩
   rw [hap]
   refine (hv.occ s).load (map_get hlk) c_Look (by omega) ⟨lk.Value, lk.Stamp, lk.Valid, rfl, ?_⟩
   intro R1 hR1
   have yes : isDue c k v now done j x = true → R1 s := fun hb => hR1 s (by
     rw [if_pos hb, List.foldl_cons] at hF
     have hlP : ((P.map fun d => (d.n : Int)).map Go.Fw.encI).length = P.length := by simp
     have ins : ∀ m : Nat, m ≤ P.length → cutR ⟨x, j⟩ P P.length = m → ∃ len6 : Nat, IdxN Try.prog s d 1 len6 ∧ (0 : Int) ≤ 0 ∧ (0 : Int) ≤ (m : Int) ∧ (m : Int) ≤ (len6 : Int) ∧ appendTo Try.prog s t_int 8 .nils (dsub d 0 (Int.toNat m)) fun d1 s5 => Fw.newObj s5 (.live t_int [[iD j]]) fun id s6 => appendTo Try.prog s6 t_int 8 d1 (.osl id 0 1) fun d2 s7 =>
         ∃ len7 : Nat, IdxN Try.prog s7 d 1 len7 ∧ (0 : Int) ≤ (m : Int) ∧ (m : Int) ≤ (len7 : Int) ∧ appendTo Try.prog s7 t_int 8 d2 (dsub d (Int.toNat m) len7) fun d3 s8 =>
         (∃ P : List Du, Own Try.prog σ s8 t_int d3 ((P.map fun d => (d.n : Int)).map Go.Fw.encI) ∧ (P.length : Int) ≤ w64 ((j : Int) + 1) ∧ (∀ y ∈ P, t[y.n]? = some y.e) ∧ Rng t (fun l => (duesL (isDue c k v now done) l (w64 ((j : Int) + 1)).toNat).foldl (fun P x => insD x P) P = sortD (duesL (isDue c k v now done) t 0)) (w64 ((j : Int) + 1))) ∧
         t.length - (w64 ((j : Int) + 1)).toNat < t.length - (j : Int).toNat := by
       intro m hm hcut
       rw [Int.toNat_natCast]
       refine ho.at_.sliceK (lo := 0) (hi := m) c_int rfl rfl (by omega) (by rw [hlP]; exact hm) ?_
       have hs1 := ho.at_.sub (lo := 0) (hi := m) (by omega) (by rw [hlP]; exact hm)
       rw [List.drop_zero, Nat.sub_zero] at hs1
       refine (Own.nil s (.refl _)).append hs1 (by rw [List.length_take, hlP, List.length_nil]; omega) (by rw [List.length_take, hlP, List.length_nil]; omega) fun d1 s5 ho1 _ _ => newObj_intro fun id s6 hid _ he6 hs6 => ?_
       rw [List.nil_append] at ho1
       refine (ho1.ext' he6).append (At.fresh hs6 (by simp) rfl) (by rw [List.length_take, hlP]; simp; omega) (by rw [List.length_take, hlP]; simp; omega) fun d2 s7 ho2 _ _ => ?_
       have hd7 := ho.at_.ext ho2.ext
       refine hd7.sliceFromK (lo := m) c_int rfl (by rw [hlP]; exact hm) ?_
       have hs2 := hd7.sub (lo := m) (hi := ((P.map fun d => (d.n : Int)).map Go.Fw.encI).length) (by rw [hlP]; exact hm) (Nat.le_refl _)
       rw [List.take_of_length_le (by simp)] at hs2
       refine ho2.append hs2 (by rw [List.length_append, List.length_take, List.length_drop, hlP]; simp; omega) (by rw [List.length_append, List.length_take, List.length_drop, hlP]; simp; omega) fun d3 s8 ho3 _ _ => ?_
       refine go (insD ⟨x, j⟩ P) d3 s8 hF ?_ (by rw [insD_len]; omega) fun y hy => ?_
       · have e : ((insD ⟨x, j⟩ P).map fun d => (d.n : Int)).map Go.Fw.encI = ((P.map fun d => (d.n : Int)).map Go.Fw.encI).take m ++ [Go.Fw.encI j] ++ ((P.map fun d => (d.n : Int)).map Go.Fw.encI).drop m := by
           rw [insD, hcut]; simp
         rw [e]; exact ho3.from ho.ext
       · rcases List.mem_cons.1 ((insD_perm _ _).mem_iff.1 hy) with rfl | hy
         · exact hx
         · exact hPt y hy
     refine ho.at_.lenK ⟨fun m s' => s' = s ∧ ∃ m' : Nat, m = m' ∧ m' ≤ P.length ∧ cutR ⟨x, j⟩ P m' = cutR ⟨x, j⟩ P P.length, fun m _ => m.toNat, ⟨rfl, P.length, by rw [hlP], Nat.le_refl _, rfl⟩, ?_⟩
     rintro _ s' ⟨rfl, m, rfl, hm, hcm⟩
     refine bcd (fun hgt => ?_) (fun hle => ins m hm (by obtain rfl : m = 0 := (by omega); rw [← hcm]; rfl))
     obtain ⟨q, rfl⟩ : ∃ q, m = q + 1 := ⟨m - 1, by omega⟩
     obtain ⟨z, hz⟩ := get_of_lt (l := P) (j := q) (by omega)
     have hq : w64 (((q + 1 : Nat) : Int) - 1) = (q : Int) := by rw [w64_id (by omega) (by omega)]; omega
     have hzt := hPt z (List.mem_of_getElem? hz)
     have hcq : cutR ⟨x, j⟩ P (q + 1) = if x.Time < z.e.Time then cutR ⟨x, j⟩ P q else q + 1 := by rw [cutR, hz]
     rw [hq]
     refine ho.at_.load (map_get (map_get hz)) c_int rfl ⟨z.n, rfl, (ht.ext ho.ext).load (map_get hzt) c_Entry rfl ⟨z.e.Time, rfl, bcd (fun hgt2 => ⟨rfl, ⟨rfl, q, rfl, by omega, ?_⟩, ?_⟩) (fun hle2 => ins (q + 1) hm ?_)⟩⟩
     · rw [← hcm, hcq, if_pos (by omega)]
     · show ((q : Nat) : Int).toNat < ((q + 1 : Nat) : Int).toNat; omega
     · rw [← hcm, hcq, if_neg (by omega)])
   have tail : ∀ T : Prop, T → (done[j]?).getD false = false → bcase (decide (x.Time > now)) ((∃ P : List Du, Own Try.prog σ s t_int d ((P.map fun d => (d.n : Int)).map Go.Fw.encI) ∧ (P.length : Int) ≤ w64 ((j : Int) + 1) ∧ (∀ y ∈ P, t[y.n]? = some y.e) ∧ Rng t (fun l => (duesL (isDue c k v now done) l (w64 ((j : Int) + 1)).toNat).foldl (fun P x => insD x P) P = sortD (duesL (isDue c k v now done) t 0)) (w64 ((j : Int) + 1))) ∧
         t.length - (w64 ((j : Int) + 1)).toNat < t.length - (j : Int).toNat)
       (∃ len : Nat, Idx Try.prog s k1 4 len ∧ (0 : Int) ≤ x.Route ∧ x.Route < (len : Int) ∧ ∃ row : List D, Row s k1 x.Route.toNat row ∧ ∃ n7 : Int, List.take 1 row = [iD n7] ∧ bcase (n7 != 0) ((∃ P : List Du, Own Try.prog σ s t_int d ((P.map fun d => (d.n : Int)).map Go.Fw.encI) ∧ (P.length : Int) ≤ w64 ((j : Int) + 1) ∧ (∀ y ∈ P, t[y.n]? = some y.e) ∧ Rng t (fun l => (duesL (isDue c k v now done) l (w64 ((j : Int) + 1)).toNat).foldl (fun P x => insD x P) P = sortD (duesL (isDue c k v now done) t 0)) (w64 ((j : Int) + 1))) ∧
         t.length - (w64 ((j : Int) + 1)).toNat < t.length - (j : Int).toNat)
         (bcase (!lk.Valid) ((∃ P : List Du, Own Try.prog σ s t_int d ((P.map fun d => (d.n : Int)).map Go.Fw.encI) ∧ (P.length : Int) ≤ w64 ((j : Int) + 1) ∧ (∀ y ∈ P, t[y.n]? = some y.e) ∧ Rng t (fun l => (duesL (isDue c k v now done) l (w64 ((j : Int) + 1)).toNat).foldl (fun P x => insD x P) P = sortD (duesL (isDue c k v now done) t 0)) (w64 ((j : Int) + 1))) ∧
         t.length - (w64 ((j : Int) + 1)).toNat < t.length - (j : Int).toNat)
         (bcase (lk.Value != 1) ((∃ P : List Du, Own Try.prog σ s t_int d ((P.map fun d => (d.n : Int)).map Go.Fw.encI) ∧ (P.length : Int) ≤ w64 ((j : Int) + 1) ∧ (∀ y ∈ P, t[y.n]? = some y.e) ∧ Rng t (fun l => (duesL (isDue c k v now done) l (w64 ((j : Int) + 1)).toNat).foldl (fun P x => insD x P) P = sortD (duesL (isDue c k v now done) t 0)) (w64 ((j : Int) + 1))) ∧
         t.length - (w64 ((j : Int) + 1)).toNat < t.length - (j : Int).toNat) (T ∧ R1 s)))) := fun T hT hdn => by
     rw [hdn] at hI
     refine bcd (fun e => skip (by rw [hI, decide_eq_false (by omega)]; rfl)) (fun t1 => (hk.ext ho.ext).routes.load (map_get hrs) c_RouteState (by omega) ⟨rs.State, rfl, bcn (fun e => skip (by rw [hI, decide_eq_false e]; simp)) (fun t2 => bcnot (fun e => skip (by rw [hI, e]; simp)) (fun t3 => bcn (fun e => skip (by rw [hI, decide_eq_false e]; simp)) (fun t4 => ⟨hT, yes ?_⟩)))⟩)
     rw [hI, decide_eq_true (by omega), decide_eq_true t2, t3, decide_eq_true t4]; rfl
   refine hd.lenK ?_
   rw [List.length_map]
   refine bcd (fun e => ?_) (fun e => tail _ (by rfl) (by rw [List.getElem?_eq_none (by omega)]; rfl))
   obtain ⟨db, hdb⟩ := get_of_lt (l := done) (j := j) (by omega)
   refine (hd.ext ho.ext).load (map_get hdb) c_bool rfl ⟨db, rfl, bc (fun e2 => skip (by rw [hI, hdb, e2]; rfl)) (fun e2 => tail _ (by rfl) (by rw [hdb, e2]; rfl))⟩
 · have hF := hr.done rfl hge
   rw [duesL, List.foldl_nil] at hF
   exact ⟨d, rfl, by rw [← hF]; exact ho⟩
theorem ref16_Berths_ok {k0 k1 k2 k3 k4 k5 m0 m1 m2 m3 m4 m5 db : D} {k m : Co} {b : List Int} (hk : CoAt σ k0 k1 k2 k3 k4 k5 k) (hm : CoAt σ m0 m1 m2 m3 m4 m5 m)
   (hb : At Try.prog σ t_int db (b.map Go.Fw.encI)) (hbl : 8 * b.length ≤ 140737488355328) :
   DCalls Try.prog n_ref16_Berths [cfA c0 c1 c2 c3 c4 c, coA k0 k1 k2 k3 k4 k5 k.Dirty, coA m0 m1 m2 m3 m4 m5 m.Dirty, .one db] σ fun r s => ∃ d, r = .a (.one d) ∧ Own Try.prog σ s t_int d ((c.berths k m b).map Go.Fw.encI) := by
 refine W_ref16_Berths _ _ _ _ _ _ _ _ _ k0 k1 k2 k3 k4 k5 k.Dirty m0 m1 m2 m3 m4 m5 m.Dirty db σ _ (copy_ok hb (by rw [List.length_map]; exact hbl) fun d sa oa => ?_)
 intro R hR
 have same : ¬ (k.fits c = true ∧ m.fits c = true) → ∃ d', RV.a (.one d) = .a (.one d') ∧ Own Try.prog σ sa t_int d' ((c.berths k m b).map Go.Fw.encI) := fun e => ⟨d, rfl, by rw [Cf.berths, if_neg e]; exact oa⟩
 refine (ref13_Fits_ok hc (hk.ext oa.ext) _).use ⟨_, rfl, bcnot (fun e => same fun g => by rw [g.1] at e; cases e) (fun e1 => (ref13_Fits_ok hc (hm.ext oa.ext) _).use ⟨_, rfl, bcnot (fun e => same fun g => by rw [g.2] at e; cases e) (fun e2 => hR sa ?_)⟩)⟩
 rw [Cf.berths, if_pos ⟨e1, e2⟩]
 have hck := fits_check e1
 obtain ⟨lo, lp, lr, lt, lx, ll⟩ := fits_lens e1
 obtain ⟨lo', lp', lr', lt', lx', ll'⟩ := fits_lens e2
 obtain ⟨_, s1, s2, s3, s4, _⟩ := check_small hck
 obtain ⟨rows, hat, hlen, hrow⟩ := rts_froz fun s => (hc s).rts
 refine ⟨fun d s => ∃ out : List Int, Own Try.prog σ s t_int d (out.map Go.Fw.encI) ∧ b.length ≤ out.length ∧ out.length ≤ b.length + c.Sigs.length ∧ out = b ++ List.replicate (out.length - b.length) 0 ∧ (out.length ≤ c.Sigs.length ∨ out = b), fun d _ => c.Sigs.length - dlen d, ⟨b, oa, Nat.le_refl _, by omega, by simp, .inr rfl⟩, ?_⟩
 rintro d1 s ⟨out, ho, h1, h2, h3, h4⟩
 have hdl := ho.at_.dlen
 refine ho.at_.lenK ((hc s).sigs.lenK ?_)
 rw [List.length_map] at hdl
 rw [List.length_map, List.length_map]
 refine bcd (fun hlt => ?_) (fun hge => (hc s).sigs.lenK ?_)
 · refine newObj_intro fun id s3 hid _ he3 hs3 => (ho.ext' he3).append (At.fresh hs3 (by simp) rfl) (by simp; omega) (by simp; omega) fun d2 s4 ho4 _ _ => ?_
   have hdl4 := ho4.at_.dlen
   rw [List.length_append, List.length_map, List.length_singleton] at hdl4
   refine ⟨⟨out ++ [0], by rw [List.map_append]; exact ho4, by simp; omega, by simp; omega, ?_, .inl (by simp; omega)⟩, by show c.Sigs.length - dlen d2 < c.Sigs.length - dlen d1; rw [hdl, hdl4]; omega⟩
   rw [List.length_append, List.length_singleton, show out.length + 1 - b.length = (out.length - b.length) + 1 by omega, List.replicate_succ', ← List.append_assoc, ← h3]
 rw [List.length_map]
 have hge' : c.Sigs.length ≤ out.length := by omega
 refine ho.at_.sliceK (lo := 0) (hi := c.Sigs.length) c_int rfl rfl (by omega) (by rw [List.length_map]; exact hge') ((hat s).lenK ?_)
 have hob := ho.sub (lo := 0) (hi := c.Sigs.length) (by omega) (by rw [List.length_map]; exact hge')
 rw [Int.toNat_natCast]
 have hfit : ((out.map Go.Fw.encI).drop 0).take (c.Sigs.length - 0) = (fit0 c.Sigs.length b).map Go.Fw.encI := by
   rw [List.drop_zero, Nat.sub_zero, ← List.map_take]
   congr 1
   unfold fit0
   rw [h3, List.take_append]
   congr 1
   rw [List.take_replicate]
   congr 1
   rcases h4 with h4 | h4
   · omega
   · rw [h4] at hge' ⊢; omega
 rw [hfit] at hob
 have hf0 := fit0_len c.Sigs.length b
 generalize fit0 c.Sigs.length b = f0 at *
 generalize dsub d1 0 c.Sigs.length = e0 at *
 clear h1 h2 h3 h4 hge hge' hdl ho hfit
 refine ⟨fun n s => ∃ out : List Int, Own Try.prog σ s t_int e0 (out.map Go.Fw.encI) ∧ out.length = c.Sigs.length ∧ Rng c.Rts (fun l => bRun k m l n.toNat out = bRun k m c.Rts 0 f0) n, fun n _ => c.Rts.length - n.toNat, ⟨f0, hob, hf0, .start rfl⟩, ?_⟩
 rintro n s ⟨out, ho, hol, hr⟩
 refine bcd (fun hlt => ?_) (fun hge => ?_)
 · obtain ⟨j, x, rfl, hx, hj, hF, nx⟩ := hr.step hlen (by omega) hlt
   have hw : w64 ((j : Int) + 1) = ((j + 1 : Nat) : Int) := w64_succ (by omega)
   have hxo := check_rt hck (List.mem_of_getElem? hx)
   obtain ⟨row, hrw⟩ := get_of_lt (l := rows) (j := j) (by omega)
   obtain ⟨d1, d2, d3, rfl, q1, q2, q3⟩ := hrow j row x hrw hx
   obtain ⟨r1, hr1⟩ := get_of_lt (l := k.Routes) (j := j) (by omega)
   obtain ⟨r2, hr2⟩ := get_of_lt (l := m.Routes) (j := j) (by omega)
   obtain ⟨a, ha⟩ := hxo.entry
   have hag := geti_some ha
   obtain ⟨o, hog⟩ := get_of_lt (l := out) (j := x.Entry.toNat) (by omega)
   have hgo : (geti out x.Entry).getD 0 = o := by unfold geti; rw [if_neg (by omega), hog]; rfl
   rw [Int.toNat_natCast, bRun] at hF
   have hst : bStep k m out x j = if (r1.State = 2 ∨ r1.State = 3) ∧ r2.State = 4 ∧ o ≠ 0 then (if 0 ≤ x.Exit ∧ x.Exit ≠ x.Entry then (out.set x.Entry.toNat 0).set x.Exit.toNat o else out.set x.Entry.toNat 0) else out := by
     unfold bStep; rw [(stAt_get (i := j) rfl hr1).1, (stAt_get (i := j) rfl hr2).1, hgo]
   intro R1 hR1
   have go : ∀ out2 s2, bStep k m out x j = out2 → Own Try.prog σ s2 t_int e0 (out2.map Go.Fw.encI) → R1 s2 := fun out2 s2 he ho2 => hR1 s2 (by
     have hl2 := bStep_len k m out x j
     rw [he] at hF hl2
     have := nx (fun l => bRun k m l (w64 ((j : Int) + 1)).toNat out2 = bRun k m c.Rts 0 f0) (by rw [hw, Int.toNat_natCast]; exact hF)
     exact ⟨⟨out2, ho2, by omega, this.1⟩, this.2⟩)
   have stay : ¬ ((r1.State = 2 ∨ r1.State = 3) ∧ r2.State = 4 ∧ o ≠ 0) → R1 s := fun hn => go out s (by rw [hst, if_neg hn]) ho
   refine (hat s).load hrw c_Route rfl ⟨_, _, d1, d2, d3, _, rfl, ?_⟩
   intro R2 hR2
   have main : ∀ b1 : Bool, (b1 = true ↔ (r1.State = 2 ∨ r1.State = 3)) → R2 b1 s := fun b1 hb1 => hR2 b1 s (by
     intro R3 hR3
     have yes : (r1.State = 2 ∨ r1.State = 3) ∧ r2.State = 4 ∧ o ≠ 0 → R3 s := fun hy => hR3 s (by
       rw [if_pos hy] at hst
       have put0 : ∀ (out' : List Int) (s' : Store), Own Try.prog σ s' t_int e0 (out'.map Go.Fw.encI) → out'.length = c.Sigs.length → bStep k m out x j = out'.set x.Entry.toNat 0 → ∃ len6 : Nat, Idx Try.prog s' e0 1 len6 ∧ (0 : Int) ≤ x.Entry ∧ x.Entry < (len6 : Int) ∧ storeEl [iD 0] s' e0 x.Entry.toNat 0 fun s7 => R1 s7 := fun out' s' ho' hl' he' => by
         obtain ⟨o', hog'⟩ := get_of_lt (l := out') (j := x.Entry.toNat) (by omega)
         refine ho'.at_.idxK (j := x.Entry.toNat) c_int (by omega) (by rw [List.length_map]; omega) (ho'.put (map_get hog') rfl (by simp [Go.Fw.encI]) fun s2 ho2 _ => go _ s2 he' ?_)
         have e1 : (out'.map Go.Fw.encI).set x.Entry.toNat (patch (Go.Fw.encI o') 0 [iD 0]) = (out'.set x.Entry.toNat 0).map Go.Fw.encI := map_set Go.Fw.encI out' _ 0
         rw [e1] at ho2; exact ho2
       refine bcd (fun t1 => bcn (fun t2 => ?_) (fun t2 => put0 out s ho hol (by rw [hst, if_neg (by simp [t2])]))) (fun t1 => put0 out s ho hol (by rw [hst, if_neg (by omega)]))
       rw [if_pos ⟨t1, t2⟩] at hst
       have hxr : x.Exit < c.Sigs.length := by
         rcases hxo.exit_ with e | ⟨y, hy⟩
         · omega
         · exact (geti_some hy).2.1
       obtain ⟨o2, ho2g⟩ := get_of_lt (l := out) (j := x.Exit.toNat) (by omega)
       refine ho.at_.load (map_get hog) c_int (by omega) ⟨o, rfl, ho.at_.idxK (j := x.Exit.toNat) c_int (by omega) (by rw [List.length_map]; omega) (ho.put (map_get ho2g) rfl (by simp [Go.Fw.encI]) fun s3 ho3 _ => ?_)⟩
       have e2 : (out.map Go.Fw.encI).set x.Exit.toNat (patch (Go.Fw.encI o2) 0 [iD o]) = (out.set x.Exit.toNat o).map Go.Fw.encI := map_set Go.Fw.encI _ _ o
       rw [e2] at ho3
       exact put0 _ s3 ho3 (by rw [List.length_set]; exact hol) (by rw [hst]; exact List.set_comm _ _ (by omega)))
     refine bcnot (fun e => stay fun g => by rw [hb1.2 g.1] at e; cases e) (fun e => (hm.ext ho.ext).routes.load (map_get hr2) c_RouteState rfl ⟨r2.State, rfl, bcn (fun e => stay fun g => e g.2.1) (fun t2 => ho.at_.load (map_get hog) c_int (by omega) ⟨o, rfl, bce (fun e => stay fun g => g.2.2 e) (fun t3 => ⟨rfl, yes ⟨hb1.1 e, t2, t3⟩⟩)⟩)⟩))
   refine (hk.ext ho.ext).routes.load (map_get hr1) c_RouteState rfl ⟨r1.State, rfl, bce (fun e => ⟨rfl, main true (by simp [e])⟩) (fun e => (hk.ext ho.ext).routes.load (map_get hr1) c_RouteState rfl ⟨r1.State, rfl, rfl, main _ (by simp [e])⟩)⟩
 · have hF := hr.done hlen hge
   exact ⟨e0, rfl, by rw [← hF]; exact ho⟩
end
end
section
variable {σ : Store}
def CoZ (σ : Store) (k : Co) (r : RV) (s : Store) : Prop := s = σ ∧ ∃ d0 d1 d2 d3 d4 d5, r = .a (coA d0 d1 d2 d3 d4 d5 k.Dirty) ∧ CoFz d0 d1 d2 d3 d4 d5 k
end
section
variable {σ : Store}
def LawTrue (f : FuncId) (xs : List A) : Prop := DCalls Try.prog f xs noS fun r _ => r = .a (.one (.bool true))
end
section
variable {σ : Store}
def endK (o : Int) (x : Ls) (b : Bool) : Co := ⟨[o, 0], [⟨0, 0, 0, 0⟩], [⟨0, 0⟩, ⟨0, 0⟩], [], [zLs, x, zLs, zLs], [0, 0], b⟩
def endStep (occ stamp now : Int) (o : Int) (x : Ls) (b : Bool) : Co :=
 let m := decide (x.PAsk > (if x.PDone > x.Grant then x.PDone else x.Grant)) && decide (x.Ask = x.Done)
 let k' : Co := if o = -2 then
     if x.PDone < x.Grant then endK o { x with Since := 0 } b
     else if x.Since = 0 then endK o { x with Since := w64 (now + 1) } b
     else if occ = 0 ∧ x.Since ≤ stamp then endK 0 { x with Since := 0 } true
     else endK o x b
   else if o = 0 ∧ m = true then endK (-2) { x with Grant := x.PAsk, Since := 0 } true
   else endK o x b
 if b = true then k' else { k' with Lines := k'.Lines.set 1 { (k'.Lines[1]?).getD zLs with Told := x.Grant } }
end
section
variable {σ : Store}
theorem CoFz.fits {d0 d1 d2 d3 d4 d5 k0 k1 k2 k3 k4 k5 : D} {k : Co} (h : CoFz d0 d1 d2 d3 d4 d5 k) (hf : CoFit k0 k1 k2 k3 k4 k5 k) : CoFit d0 d1 d2 d3 d4 d5 k :=
 ⟨h.n0, h.n1, h.n2, h.n3, h.n4, h.n5, hf.b0, hf.b1, hf.b2, hf.b3, hf.b4, hf.b5⟩
theorem CoOwn.ext' {σ0 s s' : Store} {d0 d1 d2 d3 d4 d5 : D} {k : Co} (h : CoOwn σ0 s d0 d1 d2 d3 d4 d5 k) (he : Ext s s') : CoOwn σ0 s' d0 d1 d2 d3 d4 d5 k :=
 ⟨h.own.ext' he, h.routes.ext' he, h.points.ext' he, h.xs.ext' he, h.lines.ext' he, h.resets.ext' he, h.apart⟩
end
section
variable {σ : Store}
def litC : Cf := ⟨[⟨0, 0, 0⟩, ⟨0, 0, 0⟩], [⟨0, 1, 1, 0⟩], [⟨0, 1⟩], [], [⟨0, -1, [⟨1, 0, 1⟩], [], [], false⟩], 2, 1, 4, 1000⟩
theorem lit_at (s : Store) : CfAt s (.sl 3 [[iD 0, iD 0, iD 0], [iD 0, iD 0, iD 0]]) (.sl 4 [[iD 0, iD 1, iD 1, iD 0]]) (.sl 2 [[iD 0, iD 1]]) .nils (.sl 6 [[iD 0, iD (-1), .sl 3 [[iD 1, iD 0, iD 1]], .nils, .nils, .bool false]]) litC :=
 ⟨at_lit c_Section (by simp), at_lit c_Joint (by simp), at_lit c_Signal (by simp), .nil, ⟨_, at_lit c_Route (by simp), rfl, fun i row r h1 h2 => by
   have hi : i = 0 := by have := (List.getElem?_eq_some_iff.1 h1).1; simp at this; exact this
   subst hi
   simp at h1; subst h1
   simp [litC] at h2; subst h2
   exact ⟨_, _, _, rfl, at_lit c_Step (by simp), .nil, .nil⟩⟩⟩
end
section
theorem sh_Core (b : Bool) {d0 d1 d2 d3 d4 d5 : D} (h0 : CsOk Try.prog (.sl t_int) d0) (h1 : CsOk Try.prog (.sl t_RouteState) d1) (h2 : CsOk Try.prog (.sl t_Mover) d2) (h3 : CsOk Try.prog (.sl t_Mover) d3) (h4 : CsOk Try.prog (.sl t_LineState) d4) (h5 : CsOk Try.prog (.sl t_int) d5) :
   ∃ k, k.Dirty = b ∧ CoFz d0 d1 d2 d3 d4 d5 k ∧ CoFit d0 d1 d2 d3 d4 d5 k ∧ CoI k := by
 obtain ⟨l0, a0, b0, z0, e0⟩ := sh_rows (bytes := 8) Go.Fw.encI _ (fun row n h => ty_i h) (by kernel_rfl) (by omega) h0
 obtain ⟨l1, a1, b1, z1, e1⟩ := sh_rows (bytes := 32) Rs.enc _ (fun row n h => ty_RouteState h) (by kernel_rfl) (by omega) h1
 obtain ⟨l2, a2, b2, z2, e2⟩ := sh_rows (bytes := 16) Mv.enc _ (fun row n h => ty_Mover h) (by kernel_rfl) (by omega) h2
 obtain ⟨l3, a3, b3, z3, e3⟩ := sh_rows (bytes := 16) Mv.enc _ (fun row n h => ty_Mover h) (by kernel_rfl) (by omega) h3
 obtain ⟨l4, a4, b4, z4, e4⟩ := sh_rows (bytes := 64) Ls.enc _ (fun row n h => ty_LineState h) (by kernel_rfl) (by omega) h4
 obtain ⟨l5, a5, b5, z5, e5⟩ := sh_rows (bytes := 8) Go.Fw.encI _ (fun row n h => ty_i h) (by kernel_rfl) (by omega) h5
 exact ⟨⟨l0, l1, l2, l3, l4, l5, b⟩, rfl, ⟨fun s => ⟨a0 s, a1 s, a2 s, a3 s, a4 s, a5 s⟩, z0, z1, z2, z3, z4, z5⟩, ⟨z0, z1, z2, z3, z4, z5, by simp only; omega, by simp only; omega, by simp only; omega, by simp only; omega, by simp only; omega, by simp only; omega⟩, b0, b1, b2, b3, b4, b5⟩
end
section
variable {σ : Store}
def litV : Vw := ⟨[⟨1, 9, true⟩, ⟨0, 9, true⟩], [⟨0, 0, false⟩, ⟨0, 0, false⟩], [], [⟨0, 0, false⟩]⟩
theorem lives16_a : Co.due litC (newCo litC 0) litV 9 [] [⟨5, 0, 7⟩] = [0] := by decide +kernel
theorem lives16_b : Co.due litC (newCo litC 0) litV 4 [] [⟨5, 0, 7⟩] = [] := by decide +kernel
abbrev litA : A := .agg [.sl 3 [[iD 0, iD 0, iD 0], [iD 0, iD 0, iD 0]], .sl 4 [[iD 0, iD 1, iD 1, iD 0]], .sl 2 [[iD 0, iD 1]], .nils, .sl 6 [[iD 0, iD (-1), .sl 3 [[iD 1, iD 0, iD 1]], .nils, .nils, .bool false]], iD 2, iD 1, iD 4, iD 1000]
theorem locks_New_z {c0 c1 c2 c3 c4 : D} {c : Cf} (h : ∀ s, CfAt s c0 c1 c2 c3 c4 c) (now : Int) (h1 : c.Secs.length ≤ 2 ^ 20) (h2 : c.Xs.length ≤ 2 ^ 20) (h3 : c.Rts.length ≤ 2 ^ 20) :
   DCalls Try.prog n_locks_New [cfA c0 c1 c2 c3 c4 c, iA now] σ (CoZ σ (newCo c now)) := by
 refine (locks_New_ok h now h1 h2 h3).ret ?_
 rintro r s ⟨d0, d1, d2, d3, d4, d5, rfl, hco⟩
 obtain ⟨e0, e1, e2, e3, e4, e5, hfz, hz⟩ := co_frz hco
 exact ⟨.a (coA e0 e1 e2 e3 e4 e5 true), σ, .pure hco.own.ext hfz, rfl, _, _, _, _, _, _, rfl, hz⟩
theorem newCo_ex : ∃ d0 d1 d2 d3 d4 d5, CoFz d0 d1 d2 d3 d4 d5 (newCo litC 0) :=
 ⟨.sl 1 [[iD (-1)], [iD (-1)]], .sl 4 [[iD 0, iD 0, iD 0, iD 0]], .sl 2 [[iD 0, iD 0], [iD 0, iD 0]], .nils, .sl 8 (List.replicate 4 [iD 0, iD 0, iD 0, iD 0, iD 0, iD 0, iD 0, iD 0]), .sl 1 [[iD 0], [iD 0]],
   ⟨fun s => ⟨at_lit c_int (by simp), at_lit c_RouteState (by simp), at_lit c_Mover (by simp), .nil, at_lit c_LineState (by simp), at_lit c_int (by simp)⟩, (by intro e; cases e), (by intro e; cases e), (by intro e; cases e), (by intro e; cases e), (by intro e; cases e), (by intro e; cases e)⟩⟩
theorem new_spec : SpecOk Try.prog n_locks_New (fun az s => az = [litA, iA 0]) (fun az s r s' => s' = s ∧ ∃ d0 d1 d2 d3 d4 d5, r = .a (coA d0 d1 d2 d3 d4 d5 true) ∧ CoFz d0 d1 d2 d3 d4 d5 (newCo litC 0)) := by
 refine ⟨?_, ?_, ?_, ?_, ?_⟩
 · rintro az s rfl
   exact locks_New_z lit_at 0 (by decide) (by decide) (by decide)
 · rintro az s rfl hf
   obtain ⟨d0, d1, d2, d3, d4, d5, h⟩ := newCo_ex
   exact ⟨_, s, ⟨rfl, d0, d1, d2, d3, d4, d5, rfl, h⟩, hf⟩
 · rintro az s r s' ⟨rfl, _⟩ hf; exact hf
 · rintro az s id so h0 hso rfl
   refine ⟨rfl, ?_⟩
   rintro r s' ⟨rfl, h⟩
   exact ⟨s, ⟨rfl, h⟩, h0, rfl⟩
 · rintro az s r s' _ ⟨rfl, _⟩ i hi
   rfl
def duePre (i0 i1 i2 : Nat) (az' : List A) (s : Store) : Prop := s i0 = .live t_Look [[iD 1, iD 9, .bool true], [iD 0, iD 9, .bool true]] ∧ s i1 = .live t_Look [[iD 0, iD 0, .bool false], [iD 0, iD 0, .bool false]] ∧ s i2 = .live t_Look [[iD 0, iD 0, .bool false]] ∧
 ∃ d0 d1 d2 d3 d4 d5 i4, CoFz d0 d1 d2 d3 d4 d5 (newCo litC 0) ∧ s i4 = .live t_Entry [[iD 5, iD 0, iD 7]] ∧ az' = [litA, coA d0 d1 d2 d3 d4 d5 true, .agg [.osl i0 0 2, .osl i1 0 2, .nils, .osl i2 0 1], iA 9, .one .nils, .one (.osl i4 0 1)]
theorem due_call {i0 i1 i2 i4 : Nat} {d0 d1 d2 d3 d4 d5 : D} (now : Int) (h0 : σ i0 = .live t_Look [[iD 1, iD 9, .bool true], [iD 0, iD 9, .bool true]]) (h1 : σ i1 = .live t_Look [[iD 0, iD 0, .bool false], [iD 0, iD 0, .bool false]])
   (h2 : σ i2 = .live t_Look [[iD 0, iD 0, .bool false]]) (h4 : σ i4 = .live t_Entry [[iD 5, iD 0, iD 7]]) (hz : CoFz d0 d1 d2 d3 d4 d5 (newCo litC 0)) :
   DCalls Try.prog n_ars_Due [litA, coA d0 d1 d2 d3 d4 d5 true, .agg [.osl i0 0 2, .osl i1 0 2, .nils, .osl i2 0 1], iA now, .one .nils, .one (.osl i4 0 1)] σ (SlPost σ t_int ((Co.due litC (newCo litC 0) litV now [] [⟨5, 0, 7⟩]).map Go.Fw.encI)) := by
 refine (ars_Due_ok (c := litC) (v := litV) (done := []) (t := [⟨5, 0, 7⟩]) lit_at now (hz.at_ σ) (At.fresh h0 (by simp) rfl) (At.fresh h1 (by simp) rfl) .nil (At.fresh h2 (by simp) rfl) .nil (At.fresh h4 (by simp) rfl)).ret ?_
 rintro r s ⟨d, rfl, ho⟩
 exact own_fin ho (flatI _)
theorem due_spec (i0 i1 i2 : Nat) : SpecOk Try.prog n_ars_Due (duePre i0 i1 i2) (fun az s r s' => s' = s ∧ ∃ d, r = .a (.one d) ∧ ∀ s, At Try.prog s t_int d [[iD 0]]) := by
 refine ⟨?_, ?_, ?_, ?_, ?_⟩
 · rintro az s ⟨h0, h1, h2, d0, d1, d2, d3, d4, d5, i4, hz, h4, rfl⟩
   have := due_call 9 h0 h1 h2 h4 hz
   rw [lives16_a] at this
   exact this.mono fun r s h => h
 · rintro az s _ hf
   exact ⟨_, s, ⟨rfl, .sl 1 [[iD 0]], rfl, fun s => at_lit c_int (by simp)⟩, hf⟩
 · rintro az s r s' ⟨rfl, _⟩ hf; exact hf
 · rintro az s id so h0 hso ⟨q0, q1, q2, d0, d1, d2, d3, d4, d5, i4, hz, q4, rfl⟩
   have k : ∀ {i : Nat} {x : SO}, s i = x → x ≠ .free → (s.set id so) i = x := fun h hx => by
     rw [Store.set_ne _ _ (fun e => hx (by rw [← h, e]; exact h0))]; exact h
   refine ⟨⟨k q0 (by intro e; cases e), k q1 (by intro e; cases e), k q2 (by intro e; cases e), d0, d1, d2, d3, d4, d5, i4, hz, k q4 (by intro e; cases e), rfl⟩, ?_⟩
   rintro r s' ⟨rfl, h⟩
   exact ⟨s, ⟨rfl, h⟩, h0, rfl⟩
 · rintro az s r s' _ ⟨rfl, _⟩ i hi
   rfl
theorem law16_lives_ok : Pure Try.prog n_law16_lives [] σ (.a (bA true)) := by
 refine .of (W_law16_lives σ _ (newObj_intro fun i0 s0 hi0 _ he0 hs0 => ⟨by omega, by omega, by omega, newObj_intro fun i1 s1 hi1 _ he1 hs1 => ⟨by omega, by omega, by omega, newObj_intro fun i2 s2 hi2 _ he2 hs2 => ?_⟩⟩)) (flat_b _)
 refine ⟨_, _, new_spec, duePre i0 i1 i2, _, due_spec i0 i1 i2, _, _, new_spec, newObj_intro fun i3 s3 hi3 _ he3 hs3 => ?_⟩
 have x0 : ∀ s, Ext s3 s → s i0 = .live t_Look [[iD 1, iD 9, .bool true], [iD 0, iD 9, .bool true]] := fun s he => by
   have e := (he1.trans he2).trans (he3.trans he)
   rw [e i0 (by rw [hs0]; intro e; cases e), hs0]
 have x1 : ∀ s, Ext s3 s → s i1 = .live t_Look [[iD 0, iD 0, .bool false], [iD 0, iD 0, .bool false]] := fun s he => by
   have e := he2.trans (he3.trans he)
   rw [e i1 (by rw [hs1]; intro e; cases e), hs1]
 have x2 : ∀ s, Ext s3 s → s i2 = .live t_Look [[iD 0, iD 0, .bool false]] := fun s he => by
   have e := he3.trans he
   rw [e i2 (by rw [hs2]; intro e; cases e), hs2]
 have hσ := ((he0.trans he1).trans he2).trans he3
 refine (ars_Check_ok (c := litC) (t := [⟨5, 0, 7⟩]) lit_at (At.fresh hs3 (by simp) rfl)).use ⟨_, rfl, bce (fun _ => ⟨rfl, ?_⟩) (fun e => absurd (by decide +kernel) e)⟩
 rintro r s4 ⟨rfl, d0, d1, d2, d3, d4, d5, rfl, hz⟩
 refine ⟨_, _, _, _, _, _, _, rfl, newObj_intro fun i4 s5 hi4 _ he5 hs5 => ⟨⟨x0 _ he5, x1 _ he5, x2 _ he5, d0, d1, d2, d3, d4, d5, i4, hz, hs5, rfl⟩, ?_⟩⟩
 rintro r s6 ⟨rfl, d, rfl, hd⟩
 refine ⟨_, rfl, newObj_intro fun i5 s7 hi5 _ he7 hs7 => (ref01_SameInts_ok (la := [0]) (lb := [0]) (hd _) (At.fresh hs7 (by simp) rfl)).use ⟨_, rfl, bc (fun _ => ⟨rfl, ?_⟩) (fun e => absurd rfl (of_decide_eq_false e))⟩⟩
 rintro r s8 ⟨rfl, d0, d1, d2, d3, d4, d5, rfl, hz⟩
 refine ⟨_, _, _, _, _, _, _, rfl, newObj_intro fun i6 s9 hi6 _ he9 hs9 => ?_⟩
 have hx := (he5.trans he7).trans he9
 refine (due_call 4 (x0 _ hx) (x1 _ hx) (x2 _ hx) hs9 hz).mono ?_
 rintro r s10 ⟨rfl, d', rfl, hd'⟩
 rw [lives16_b] at hd'
 exact ⟨_, rfl, (hd' s10).lenK ⟨rfl, hσ.trans hx⟩⟩
theorem ty_Entry {row : List D} {n : Nat} (h : tyD Try.prog n t_Entry row) : ∃ e : En, row = e.enc ∧ I64 e.Time ∧ I64 e.Route ∧ I64 e.Train := by
 obtain ⟨a, b, c, rfl, q⟩ := ty_i3 h (by kernel_rfl)
 exact ⟨⟨a, b, c⟩, rfl, q⟩
theorem ty_b {row : List D} {n : Nat} (h : tyD Try.prog n t_bool row) : ∃ b, row = encB b ∧ True := by
 obtain ⟨_, _, rfl, ⟨b, rfl⟩, rfl⟩ := ty_sh n 5 _ _ [.bool] h (by kernel_rfl)
 exact ⟨b, rfl, trivial⟩
theorem world_args {xs : List A} {ts : List TypeId} (h : TyAs Try.prog (t_Config :: t_law16_World :: ts) xs) : ∃ c0 c1 c2 c3 c4 c k0 k1 k2 k3 k4 k5 k m0 m1 m2 m3 m4 m5 m v0 v1 v2 v3 v r, xs = cfA c0 c1 c2 c3 c4 c :: .agg [k0, k1, k2, k3, k4, k5, .bool k.Dirty, m0, m1, m2, m3, m4, m5, .bool m.Dirty, v0, v1, v2, v3] :: r ∧
   (∀ s, CfAt s c0 c1 c2 c3 c4 c) ∧ CoFz k0 k1 k2 k3 k4 k5 k ∧ CoFz m0 m1 m2 m3 m4 m5 m ∧ VwAt v0 v1 v2 v3 v ∧ TyAs Try.prog ts r := by
 obtain ⟨a0, xs, rfl, h0, hr0⟩ := tys_cons h
 obtain ⟨a1, xs, rfl, h1, hr1⟩ := tys_cons hr0
 obtain ⟨cs, _, rfl, p0⟩ := tya_agg h0 (by kernel_rfl)
 obtain ⟨c0, c1, c2, c3, c4, c, rfl, hc, hci⟩ := ty_Config p0
 obtain ⟨cs, _, rfl, p1⟩ := tya_agg h1 (by kernel_rfl)
 obtain ⟨k0, _, rfl, q0, k1, _, rfl, q1, k2, _, rfl, q2, k3, _, rfl, q3, k4, _, rfl, q4, k5, _, rfl, q5, _, _, rfl, ⟨b, rfl⟩, m0, _, rfl, w0, m1, _, rfl, w1, m2, _, rfl, w2, m3, _, rfl, w3, m4, _, rfl, w4, m5, _, rfl, w5, _, _, rfl, ⟨b', rfl⟩, v0, _, rfl, u0, v1, _, rfl, u1, v2, _, rfl, u2, v3, _, rfl, u3, rfl⟩ :=
   ty_sh _ 5 _ _ [.sl t_int, .sl t_RouteState, .sl t_Mover, .sl t_Mover, .sl t_LineState, .sl t_int, .bool, .sl t_int, .sl t_RouteState, .sl t_Mover, .sl t_Mover, .sl t_LineState, .sl t_int, .bool, .sl t_Look, .sl t_Look, .sl t_Look, .sl t_Look] p1 (by kernel_rfl)
 obtain ⟨k, rfl, hk, _⟩ := sh_Core b q0 q1 q2 q3 q4 q5
 obtain ⟨m, rfl, hm, _⟩ := sh_Core b' w0 w1 w2 w3 w4 w5
 obtain ⟨v, hv, _⟩ := sh_View u0 u1 u2 u3
 exact ⟨c0, c1, c2, c3, c4, c, k0, k1, k2, k3, k4, k5, k, m0, m1, m2, m3, m4, m5, m, v0, v1, v2, v3, v, xs, rfl, hc, hk, hm, hv, hr1⟩
theorem ask_args {xs : List A} (h : TyAs Try.prog [t_law16_Ask] xs) : ∃ (now : Int) (dd dt : D) (done : List Bool) (t : List En), xs = [.agg [iD now, dd, dt]] ∧ I64 now ∧ (∀ s, At Try.prog s t_bool dd (List.map encB done)) ∧ (∀ s, At Try.prog s t_Entry dt (t.map En.enc)) ∧ (∀ e ∈ t, I64 e.Time ∧ I64 e.Route ∧ I64 e.Train) ∧ 24 * t.length ≤ 140737488351232 := by
 obtain ⟨a0, xs, rfl, h0, hr0⟩ := tys_cons h
 obtain rfl := tys_nil hr0
 obtain ⟨cs, _, rfl, p0⟩ := tya_agg h0 (by kernel_rfl)
 obtain ⟨_, _, rfl, ⟨now, rfl, hnow⟩, dd, _, rfl, q0, dt, _, rfl, q1, rfl⟩ := ty_sh _ 5 _ _ [.int .i64, .sl t_bool, .sl t_Entry] p0 (by kernel_rfl)
 obtain ⟨done, hd, _, _⟩ := sh_rows (bytes := 1) encB _ (fun row n h => ty_b h) (by kernel_rfl) (by omega) q0
 obtain ⟨t, ht, hti, _, htl⟩ := sh_rows (bytes := 24) En.enc _ (fun row n h => ty_Entry h) (by kernel_rfl) (by omega) q1
 exact ⟨now, dd, dt, done, t, rfl, wf_i64 hnow, hd, ht, hti, htl⟩
end
end Go.Proofs.Ytjdpkjembijbeaa
section
namespace Go.Fw
variable {P : Program}
theorem live_idOf' {s : Store} {el : TypeId} {d : D} {rs : List (List D)} (h : At P s el d rs) {i : Nat} (hi : idOf d = some i) : s i ≠ .free := by
 cases d with
 | osl id a n =>
   have e : id = i := by simpa [idOf] using hi
   subst e
   obtain ⟨t, rows, g1, _⟩ := h.rows
   rw [g1]; intro e; cases e
 | _ => simp [idOf] at hi
theorem own_spec {f : FuncId} {AS : List A} {t el : TypeId} {x : D} {xs rows : List (List D)} (hl : rows.length < 2 ^ 60)
   (h : ∀ s, At P s el x xs → DCalls P f AS s fun r s' => ∃ d, r = .a (.one d) ∧ Own P s s' t d rows) :
   SpecOk P f (fun az s => az = AS ∧ At P s el x xs) (fun az s r s' => Fin s' ∧ ∃ d, r = .a (.one d) ∧ Own P s s' t d rows) := by
 refine ⟨?_, ?_, ?_, ?_, ?_⟩
 · rintro az s ⟨rfl, ha⟩
   exact (h s ha).fin.mono fun r s' ⟨h1, h2⟩ => ⟨h1, h2⟩
 · rintro az s ⟨rfl, ha⟩ ⟨N, hN⟩
   have hid : s N = .free := hN N (Nat.le_refl _)
   have hf : Fin (s.set N (.live t rows)) := Fin.set' ⟨N, hN⟩ _ _
   exact ⟨_, _, ⟨hf, _, rfl, Own.at_new hid (Ext.new hid _) (Store.set_same _ _ _) hl rfl⟩, hf⟩
 · rintro az s r s' ⟨hf, _⟩ _; exact hf
 · rintro az s id so hid hso ⟨rfl, ha⟩
   refine ⟨⟨rfl, ha.ext (Ext.new hid so)⟩, ?_⟩
   rintro r s' ⟨hf, d, rfl, ho⟩
   have hso' : s' id = so := by
     rw [ho.ext id (by rw [Store.set_same]; exact hso), Store.set_same]
   have hd : ∀ i a b, d = .osl i a b → i ≠ id := fun i a b e hi => by
     have := ho.new i a b e
     rw [hi, Store.set_same] at this; exact hso this
   have hs0 : ∀ i, i ≠ id → (s'.set id .free) i = s' i := fun i hi => Store.set_ne _ _ hi
   refine ⟨s'.set id .free, ⟨?_, d, rfl, ⟨ho.at_.same fun i a b e => hs0 i (hd i a b e), fun i hi => ?_, fun i a b e => ?_, ho.nsl, ho.nz⟩⟩, Store.set_same _ _ _, ?_⟩
   · obtain ⟨N, hN⟩ := hf
     refine ⟨max N (id + 1), fun i hi => ?_⟩
     rw [Store.set_ne _ _ (by omega)]; exact hN i (by omega)
   · have hne : i ≠ id := fun e => hi (by rw [e]; exact hid)
     rw [hs0 i hne, ho.ext i (by rw [Store.set_ne _ _ hne]; exact hi), Store.set_ne _ _ hne]
   · have := ho.new i a b e
     rwa [Store.set_ne _ _ (hd i a b e)] at this
   · funext i
     by_cases hi : i = id
     · rw [hi, Store.set_same, hso']
     · rw [Store.set_ne _ _ hi, hs0 i hi]
 · rintro az s r s' _ ⟨_, d, _, ho⟩ i hi
   exact ho.ext i hi
end Go.Fw
namespace Go.Proofs.Ytjdpkjembijbeaa
open Go.Fw Go.Proofs Go.RowKit
variable {σ : Store}
theorem due_len (c : Cf) (k : Co) (v : Vw) (now : Int) (done : List Bool) (t : List En) : (k.due c v now done t).length ≤ t.length := by
 unfold Co.due
 split
 · rw [List.length_map, sortD_len]; exact duesL_len _ _ _
 · simp
theorem law16_ArsExact_ok {xs : List A} (h : TyAs Try.prog [t_Config, t_law16_World, t_law16_Ask] xs) : LawTrue n_law16_ArsExact xs := by
 obtain ⟨c0, c1, c2, c3, c4, c, k0, k1, k2, k3, k4, k5, k, m0, m1, m2, m3, m4, m5, m, v0, v1, v2, v3, v, r, rfl, hc, hk, hm, hv, hr⟩ := world_args h
 obtain ⟨now, dd, dt, done, t, rfl, hnow, hd, ht, hti, htl0⟩ := ask_args hr
 clear h hr
 have hdl := (hd noS).size
 have htl := (ht noS).size
 rw [List.length_map] at hdl htl
 refine W_law16_ArsExact _ _ _ _ _ _ _ _ _ k0 k1 k2 k3 k4 k5 k.Dirty m0 m1 m2 m3 m4 m5 m.Dirty v0 v1 v2 v3 now dd dt noS _ (law16_lives_ok.use ⟨true, rfl, bcnot (fun e => by cases e) (fun _ => ?_)⟩)
 refine copy_ok (ht _) (by rw [List.length_map]; omega) fun dt1 s1 o1 => newObj_intro fun id1 s2 hid1 _ he2 hs2 => ?_
 refine (o1.ext' he2).append (At.fresh (rs := [En.enc ⟨0, 0, -7⟩]) hs2 (by simp) rfl) (by rw [List.length_map]; simp; omega) (by rw [List.length_map]; simp; omega) fun d1 s3 o3 _ _ => ?_
 have hl3 : (t.map En.enc ++ [En.enc ⟨0, 0, -7⟩]).length = t.length + 1 := by simp
 have cut : ∀ {τ : Store}, At Try.prog τ t_Entry d1 (t.map En.enc ++ [En.enc ⟨0, 0, -7⟩]) → At Try.prog τ t_Entry (dsub d1 0 (Int.toNat ((t.map En.enc).length : Int))) (t.map En.enc) := fun {τ} ha => by
   have := ha.sub (lo := 0) (hi := (t.map En.enc).length) (by omega) (by rw [List.length_append]; omega)
   rw [List.drop_zero, Nat.sub_zero, List.take_left' rfl] at this
   rw [Int.toNat_natCast]; exact this
 refine (ht s3).lenK (o3.at_.sliceK (lo := 0) (hi := (t.map En.enc).length) c_Entry rfl rfl (by omega) (by rw [List.length_append]; omega) ?_)
 refine (ars_Check_ok hc (cut o3.at_)).use ⟨_, rfl, (ref16_Check_ok hc (ht s3)).use ⟨_, rfl, bcn (fun e => absurd rfl e) (fun _ => ?_)⟩⟩
 have hlen := due_len c k v now done t
 refine ⟨_, _, own_spec (el := t_Entry) (x := dsub d1 0 (Int.toNat ((t.map En.enc).length : Int))) (xs := t.map En.enc) (rows := (k.due c v now done t).map Go.Fw.encI) (t := t_int) (by rw [List.length_map]; omega) (fun s ha => ars_Due_ok hc now (hk.at_ s) (hv.occ _) (hv.pos _) (hv.shut _) (hv.lamp _) (hd s) ha), ?_⟩
 refine (ht s3).lenK (o3.at_.sliceK (lo := 0) (hi := (t.map En.enc).length) c_Entry rfl rfl (by omega) (by rw [List.length_append]; omega) ?_)
 refine (ht s3).lenK (o3.at_.sliceK (lo := 0) (hi := (t.map En.enc).length) c_Entry rfl rfl (by omega) (by rw [List.length_append]; omega) ⟨⟨rfl, cut o3.at_⟩, ?_⟩)
 rintro r s4 ⟨_, x, rfl, ox⟩
 have hd4 : At Try.prog s4 t_Entry d1 (t.map En.enc ++ [En.enc ⟨0, 0, -7⟩]) := o3.at_.ext ox.ext
 refine ⟨x, rfl, (ars_Due_ok hc now (hk.at_ s4) (hv.occ _) (hv.pos _) (hv.shut _) (hv.lamp _) (hd s4) (cut hd4)).mono ?_⟩
 rintro r s5 ⟨y, rfl, oy⟩
 refine ⟨y, rfl, (ref16_Due_ok hc now (hk.at_ s5) hv (hd s5) (ht s5)).mono ?_⟩
 rintro r s6 ⟨z, rfl, oz⟩
 refine ⟨z, rfl, ?_⟩
 have ox6 : Own Try.prog s3 s6 t_int x ((k.due c v now done t).map Go.Fw.encI) := (ox.ext' oy.ext).ext' oz.ext
 have oy6 := oy.ext' oz.ext
 have hd6 : At Try.prog s6 t_Entry d1 (t.map En.enc ++ [En.enc ⟨0, 0, -7⟩]) := (hd4.ext oy.ext).ext oz.ext
 generalize hout : k.due c v now done t = out at *
 have hxy : ∀ i, idOf y = some i → idOf x ≠ some i := fun i h1 h2 => Own.apart (h' := ox.at_) oy i h2 h1
 have hxz : ∀ i, idOf z = some i → idOf x ≠ some i := fun i h1 h2 => Own.apart (h' := (ox.ext' oy.ext).at_) oz i h2 h1
 have hxd : ∀ i, idOf d1 = some i → idOf x ≠ some i := fun i h1 h2 => Own.apart (h' := o3.at_) ox i h1 h2
 have keep : ∀ {el : TypeId} {d : D} {rs : List (List D)} {s : Store}, At Try.prog s6 el d rs → (∀ i, idOf d = some i → idOf x ≠ some i) → (∀ i, s6 i ≠ .free → idOf x ≠ some i → s i = s6 i) → At Try.prog s el d rs := fun {el d rs s} ha hn hs =>
   ha.same fun i a b e => hs i (live_idOf' ha (by rw [e]; rfl)) (hn i (by rw [e]; rfl))
 refine ox6.at_.lenK ⟨fun n s => ∃ (j : Nat) (l : List Int), n = j ∧ l.length = out.length ∧ Own Try.prog s3 s t_int x (l.map Go.Fw.encI) ∧ ∀ i, s6 i ≠ .free → idOf x ≠ some i → s i = s6 i, fun n _ => out.length - n.toNat, ⟨0, out, rfl, rfl, ox6, fun _ _ _ => rfl⟩, ?_⟩
 rintro _ s ⟨j, l, rfl, hl, ol, hs⟩
 rw [List.length_map]
 refine bcd (fun hlt => ?_) (fun _ => ?_)
 · have hlt : j < out.length := by omega
   obtain ⟨q, hq⟩ := get_of_lt (l := l) (j := j) (by omega)
   refine ol.at_.idxK (j := j) c_int rfl (by rw [List.length_map]; omega) (ol.put (j := j) (row := Go.Fw.encI q) (map_get hq) (by omega) (by simp [Go.Fw.encI]) fun s' ol' hs' => ?_)
   have e1 : (l.map Go.Fw.encI).set j (patch (Go.Fw.encI q) 0 [iD (-9)]) = (l.set j (-9)).map Go.Fw.encI := map_set Go.Fw.encI l j (-9)
   rw [e1] at ol'
   rw [w64_succ (by omega)]
   exact ⟨⟨j + 1, l.set j (-9), rfl, by rw [List.length_set]; exact hl, ol', fun i h1 h2 => by rw [hs' i h2]; exact hs i h1 h2⟩, dec_lt hlt⟩
 refine newObj_intro fun id2 s7 hid2 _ he7 hs7 => (ol.ext' he7).append (At.fresh (rs := [Go.Fw.encI (-9)]) hs7 (by simp) rfl) (by rw [List.length_map]; simp; omega) (by rw [List.length_map]; simp; omega) fun d5 s8 o8 h8 _ => ?_
 have hs8 : ∀ i, s6 i ≠ .free → idOf x ≠ some i → s8 i = s6 i := fun i h1 h2 => by
   have e1 := hs i h1 h2
   have e2 := he7 i (by rw [e1]; exact h1)
   rw [h8 i (by rw [e2, e1]; exact h1) (fun a b e => h2 (by rw [e]; rfl)), e2, e1]
 have hy8 := keep oy6.at_ hxy hs8
 have hz8 := keep oz.at_ hxz hs8
 have hd8 := keep hd6 hxd hs8
 intro R hR
 refine (ref01_SameInts_ok hy8 hz8).use ⟨_, rfl, bcnot (fun e => by rw [decide_eq_true rfl] at e; cases e) (fun _ => o8.at_.lenK (hz8.lenK ?_))⟩
 have e1 : w64 (((out.map Go.Fw.encI).length : Nat) + 1 : Int) = ((l.map Go.Fw.encI ++ [Go.Fw.encI (-9)]).length : Nat) := by
   rw [w64_succ (by rw [List.length_map]; omega)]; simp [hl]
 refine bcn (fun e => absurd e1.symm e) (fun _ => (ht s8).lenK (hd8.load (j := t.length) (row := En.enc ⟨0, 0, -7⟩) (by rw [List.getElem?_append_right (by simp)]; simp) c_Entry (by rw [List.length_map]) ⟨-7, rfl, bcn (fun e => absurd rfl e) (fun _ => hR s8 ?_)⟩))
 refine (ht s8).lenK ⟨fun n s => s = s8 ∧ Rng t (fun _ => True) n, fun n _ => t.length - n.toNat, ⟨rfl, .start trivial⟩, ?_⟩
 rintro n s ⟨rfl, hr⟩
 rw [List.length_map]
 refine bcd (fun hlt => ?_) (fun _ => ?_)
 · obtain ⟨j, y, rfl, hy, hj, _, nx⟩ := hr.step rfl htl hlt
   refine (ht s).load (map_get hy) c_Entry rfl ⟨y.Time, y.Route, y.Train, rfl, hd8.load (j := j) (row := y.enc) (by rw [List.getElem?_append_left (by rw [List.length_map]; exact hj)]; exact map_get hy) c_Entry rfl ⟨y.Time, y.Route, y.Train, rfl, bcnot (fun e => ?_) (fun _ => andl rfl (nx (fun _ => True) trivial))⟩⟩
   simp at e
 have hbl : 24 * t.length ≤ 140737488351232 := htl0
 refine (ht s).lenK ⟨fun d n s' => ∃ j : Nat, n = j ∧ j ≤ t.length ∧ Own Try.prog s s' t_int d ((t.take j).map fun e => Go.Fw.encI e.Train), fun _ n _ => t.length - n.toNat, ⟨0, rfl, by omega, .nil _ (.refl _)⟩, ?_⟩
 rintro d6 _ s9 ⟨j, rfl, hj, o9⟩
 rw [List.length_map]
 refine bcd (fun hlt => ?_) (fun hge => ?_)
 · have hlt : j < t.length := by omega
   obtain ⟨y, hy⟩ := get_of_lt (l := t) (j := j) hlt
   refine (ht s9).load (map_get hy) c_Entry rfl ⟨y.Time, y.Route, y.Train, rfl, newObj_intro fun id3 sa hid3 _ hea hsa => (o9.ext' hea).append (At.fresh (rs := [Go.Fw.encI y.Train]) hsa (by simp) rfl) (by simp; omega) (by simp; omega) fun d7 sb ob _ _ => ?_⟩
   rw [w64_succ (by omega)]
   have e1 : ((t.take j).map fun e => Go.Fw.encI e.Train) ++ [Go.Fw.encI y.Train] = (t.take (j + 1)).map fun e => Go.Fw.encI e.Train := by rw [List.take_add_one, hy]; simp
   rw [e1] at ob
   exact ⟨⟨j + 1, rfl, hlt, ob⟩, dec_lt hlt⟩
 have hjt : j = t.length := by omega
 subst hjt
 rw [List.take_length] at o9
 have hmap : (t.map fun e => Go.Fw.encI e.Train) = (t.map En.Train).map Go.Fw.encI := by rw [List.map_map]; rfl
 rw [hmap] at o9
 have hbn : (t.map En.Train).length = t.length := List.length_map _
 generalize t.map En.Train = b at *
 refine copy_ok o9.at_ (by rw [List.length_map]; omega) fun d7 sa oa => newObj_intro fun id4 sb hid4 _ heb hsb => ?_
 refine (oa.ext' heb).append (At.fresh (rs := [Go.Fw.encI 77]) hsb (by simp) rfl) (by rw [List.length_map]; simp; omega) (by rw [List.length_map]; simp; omega) fun d8 sc oc hc8 _ => ?_
 have ob9 : At Try.prog sc t_int d6 (b.map Go.Fw.encI) := (o9.at_.ext oa.ext).ext heb |>.same fun i a b e => hc8 i (live_idOf' ((o9.at_.ext oa.ext).ext heb) (by rw [e]; rfl)) (fun a' b' e' => by
   have := oa.new _ _ _ e'
   exact live_idOf' o9.at_ (by rw [e]; rfl) this)
 have oz8 : Own Try.prog s9 sc t_int (dsub d8 0 (Int.toNat ((b.map Go.Fw.encI).length : Int))) (b.map Go.Fw.encI) := by
   have := oc.sub (lo := 0) (hi := (b.map Go.Fw.encI).length) (by omega) (by rw [List.length_append]; omega)
   rw [List.drop_zero, Nat.sub_zero, List.take_left' rfl] at this
   rw [Int.toNat_natCast]; exact this
 refine ob9.lenK (oc.at_.sliceK (lo := 0) (hi := (b.map Go.Fw.encI).length) c_int rfl rfl (by omega) (by rw [List.length_append]; omega) ?_)
 refine (ars_Berths_ok hc (hk.at_ _) (hm.at_ _) oz8.at_ oz8.nz (by omega)).mono ?_
 rintro r sd ⟨d9, rfl, od⟩
 refine ⟨d9, rfl, (ref16_Berths_ok hc (hk.at_ _) (hm.at_ _) (ob9.ext od.ext) (by omega)).mono ?_⟩
 rintro r se ⟨d10, rfl, oe⟩
 refine ⟨d10, rfl, (ref01_SameInts_ok (od.at_.ext oe.ext) oe.at_).use ⟨_, rfl, bc (fun _ => ?_) (fun e => by rw [decide_eq_true rfl] at e; cases e)⟩⟩
 have ob10 := (ob9.ext od.ext).ext oe.ext
 have oc10 := (oc.at_.ext od.ext).ext oe.ext
 have oz10 := (oz8.at_.ext od.ext).ext oe.ext
 refine ob10.lenK (oc10.sliceK (lo := 0) (hi := (b.map Go.Fw.encI).length) c_int rfl rfl (by omega) (by rw [List.length_append]; omega) ?_)
 refine (ref01_SameInts_ok oz10 ob10).use ⟨_, rfl, bc (fun _ => ?_) (fun e => by rw [decide_eq_true rfl] at e; cases e)⟩
 exact ob10.lenK (oc10.load (j := b.length) (row := Go.Fw.encI 77) (by rw [List.getElem?_append_right (by simp)]; simp) c_int (by rw [List.length_map]) ⟨77, rfl, rfl⟩)
end Go.Proofs.Ytjdpkjembijbeaa
end
