/-
  Proofs that the statement of this claim leans on: part 5.
-/
import Derived.Test.YtdlnbehcnfjneaaGreatP4
set_option linter.unusedVariables false
set_option linter.unusedSimpArgs false
namespace Go.Proofs.YtdlnbehcnfjneaaGreat
open Go.Fw Go.Proofs Go.RowKit
section
variable {σ : Store}
theorem ref06_in_ok {d : D} {l : List Int} (n : Int) (h : At Tryz.prog σ t_int d (l.map Go.Fw.encI)) : Pure Tryz.prog n_ref06_in [.one d, iA n] σ (.a (bA (inL l n))) := by
 have hs := h.size
 rw [List.length_map] at hs
 refine W_ref06_in d n σ _ (h.lenK ⟨fun m s => s = σ ∧ Rng l (fun r => inL r n = inL l n) m, fun m _ => l.length - m.toNat, ⟨rfl, .start rfl⟩, ?_⟩)
 rintro m s ⟨rfl, hr⟩
 refine bcd (fun hlt => ?_) (fun hge => ⟨?_, rfl⟩)
 · obtain ⟨j, x, rfl, hx, hj, hF, nx⟩ := hr.step (by simp) hs hlt
   refine h.load (map_get hx) c_int rfl ⟨x, rfl, bce (fun e => ⟨?_, rfl⟩) (fun e => andl rfl (nx (fun r => inL r n = inL l n) ?_))⟩
   · rw [← hF, inL, e, decide_eq_true (by simp)]
   · rw [← hF, inL, inL]; exact decide_eq_decide.2 (by simp [Ne.symm e])
 · rw [← hr.done (by simp) hge]; rfl
theorem ref06_Sections_ok {d : D} {path : List St} (h : ∀ s, At Tryz.prog s t_Step d (path.map St.enc)) (hb : 24 * path.length ≤ 140737488355328) :
   DCalls Tryz.prog n_ref06_Sections [.one d] σ (SlPost σ t_int ((path.map St.Sec).map Go.Fw.encI)) := by
 have hs := (h σ).size
 rw [List.length_map] at hs
 refine (W_ref06_Sections d σ _ ?_).ret (Q := fun r s => ∃ r' σ', Ret Tryz.prog σ s r σ' r' ∧ SlPost σ t_int ((path.map St.Sec).map Go.Fw.encI) r' σ') (fun r s h => h)
 refine (h σ).lenK ⟨fun d n s => ∃ j : Nat, n = j ∧ j ≤ path.length ∧ Own Tryz.prog σ s t_int d (((path.take j).map St.Sec).map Go.Fw.encI), fun _ n _ => path.length - n.toNat, ⟨0, rfl, by omega, .nil _ (.refl _)⟩, ?_⟩
 rintro d1 _ s ⟨j, rfl, hj, ho⟩
 rw [List.length_map]
 refine bcd (fun hlt => ?_) (fun hge => ?_)
 · obtain ⟨x, hx⟩ := get_of_lt (l := path) (j := j) (by omega)
   refine (h s).load (map_get hx) c_Step rfl ⟨x.Sec, x.In, x.Out, rfl, newObj_intro fun id s2 hid _ he hs2 => ?_⟩
   have hl : (((path.take j).map St.Sec).map Go.Fw.encI).length = j := by simp; omega
   refine (ho.ext' he).append (At.fresh hs2 (by simp) rfl) (by simp; omega) (by simp; omega) fun d4 s5 ho5 _ _ => ?_
   rw [w64_succ (by omega)]
   refine ⟨⟨j + 1, rfl, by omega, ?_⟩, by show path.length - ((j + 1 : Nat) : Int).toNat < path.length - ((j : Nat) : Int).toNat; omega⟩
   have e : path.take (j + 1) = path.take j ++ [x] := by rw [List.take_add_one, hx]; rfl
   rw [e, List.map_append, List.map_append]; exact ho5
 · have e : j = path.length := by omega
   rw [e, List.take_length] at ho
   exact own_fin ho (flatI _)
section
variable {c0 c1 c2 c3 c4 : D} {c : Cf}
theorem ref06_kind_ok (h : CfAt σ c0 c1 c2 c3 c4 c) (s : Int) : Pure Tryz.prog n_ref06_kind [cfA c0 c1 c2 c3 c4 c, iA s] σ (.a (iA (kindI c s))) := by
 refine W_ref06_kind _ _ _ _ _ _ _ _ _ s σ _ (bcd (fun h1 => ⟨by rw [kindI_none (geti_neg h1)], rfl⟩) (fun h1 => h.secs.lenK (bcd (fun h2 => ⟨by rw [List.length_map] at h2; rw [kindI_none (geti_ge h2)], rfl⟩) (fun h2 => ?_))))
 rw [List.length_map] at h2
 obtain ⟨x, hx⟩ := get_of_lt (l := c.Secs) (j := s.toNat) (by omega)
 refine h.secs.load (map_get hx) c_Section (by omega) ⟨x.Kind, rfl, ?_, rfl⟩
 rw [kindI_some (y := x) (by unfold geti; rw [if_neg h1, hx])]
theorem ref06_Approach_ok (h : CfAt σ c0 c1 c2 c3 c4 c) (i : Int) : Pure Tryz.prog n_ref06_Approach [cfA c0 c1 c2 c3 c4 c, iA i] σ (.a (iA (c.Approach i))) := by
 obtain ⟨rows, hr, hl⟩ := rts_len h
 refine W_ref06_Approach _ _ _ _ _ _ _ _ _ i σ _ (bcd (fun h1 => ⟨by rw [Cf.Approach, geti_neg h1]; rfl, rfl⟩) (fun h1 => hr.lenK (bcd (fun h2 => ⟨by rw [hl] at h2; rw [Cf.Approach, geti_ge h2]; rfl, rfl⟩) (fun h2 => ?_))))
 rw [hl] at h2
 obtain ⟨x, hx⟩ := get_of_lt (l := c.Rts) (j := i.toNat) (by omega)
 have hg : geti c.Rts i = some x := by unfold geti; rw [if_neg h1, hx]
 have hA : c.Approach i = c.approach x := by rw [Cf.Approach, hg]; rfl
 rw [hA]
 obtain ⟨rows', hr', _, d1, d2, d3, hrow, _⟩ := rts_get h hx
 refine hr'.load hrow c_Route (by omega) ⟨_, rfl, bcd (fun h3 => ⟨by rw [Cf.approach, geti_neg h3]; rfl, rfl⟩) (fun h3 => hr'.load hrow c_Route (by omega) ⟨_, rfl, h.sigs.lenK (bcd (fun h4 => ⟨?_, rfl⟩) (fun h4 => hr'.load hrow c_Route (by omega) ⟨_, rfl, ?_⟩))⟩)⟩
 · rw [List.length_map] at h4; rw [Cf.approach, geti_ge h4]; rfl
 · rw [List.length_map] at h4
   obtain ⟨y, hy⟩ := get_of_lt (l := c.Sigs) (j := x.Entry.toNat) (by omega)
   refine h.sigs.load (map_get hy) c_Signal (by omega) ⟨y.Sec, rfl, ?_, rfl⟩
   rw [Cf.approach, show geti c.Sigs x.Entry = some y by unfold geti; rw [if_neg h3, hy]]; rfl
theorem ref06_at_ok (h : CfAt σ c0 c1 c2 c3 c4 c) (sec e but : Int) : Pure Tryz.prog n_ref06_at [cfA c0 c1 c2 c3 c4 c, iA sec, iA e, iA but] σ (.a (bA (atB sec e but c.Sigs 0))) := by
 have hs := h.sigs.size
 rw [List.length_map] at hs
 refine W_ref06_at _ _ _ _ _ _ _ _ _ sec e but σ _ (h.sigs.lenK ⟨fun m s => s = σ ∧ Rng c.Sigs (fun r => atB sec e but r m.toNat = atB sec e but c.Sigs 0) m, fun m _ => c.Sigs.length - m.toNat, ⟨rfl, .start rfl⟩, ?_⟩)
 rintro m s ⟨rfl, hr⟩
 refine bcd (fun hlt => ?_) (fun hge => ⟨?_, rfl⟩)
 · obtain ⟨j, x, rfl, hx, hj, hF, nx⟩ := hr.step (by simp) hs hlt
   rw [atB, Int.toNat_natCast] at hF
   have hw : (w64 ((j : Int) + 1)).toNat = j + 1 := by rw [w64_succ (by omega)]; omega
   have go : (decide (x.Sec = sec) && decide (x.End_ = e) && decide ((j : Int) ≠ but)) = false → (s = s ∧ Rng c.Sigs (fun r => atB sec e but r (w64 ((j : Int) + 1)).toNat = atB sec e but c.Sigs 0) (w64 ((j : Int) + 1))) ∧ c.Sigs.length - (w64 ((j : Int) + 1)).toNat < c.Sigs.length - (j : Int).toNat := by
     intro hn
     rw [hn, Bool.false_or] at hF
     exact andl rfl (nx (fun r => atB sec e but r (w64 ((j : Int) + 1)).toNat = atB sec e but c.Sigs 0) (by rw [hw]; exact hF))
   refine h.sigs.load (map_get hx) c_Signal rfl ⟨x.Sec, x.End_, rfl, bce (fun h1 => bce (fun h2 => bcn (fun h3 => ⟨?_, rfl⟩) (fun h3 => go (by simp [h3]))) (fun h2 => go (by simp [h2]))) (fun h1 => go (by simp [h1]))⟩
   rw [← hF, decide_eq_true h1, decide_eq_true h2, decide_eq_true h3]; rfl
 · rw [← hr.done (by simp) hge]; rfl
theorem ref06_signals_ok (h : CfAt σ c0 c1 c2 c3 c4 c) : Pure Tryz.prog n_ref06_signals [cfA c0 c1 c2 c3 c4 c] σ (.a (bA c.sigsOk)) := by
 have hs := h.sigs.size
 rw [List.length_map] at hs
 have no : ∀ (i : Nat) (x : Sg), c.Sigs[i]? = some x → ¬ ((nxt c.Jts x.Sec x.End_).isSome = true ∧ atB x.Sec x.End_ i c.Sigs 0 = false) → c.sigsOk = false := fun i x hi hn => by
   unfold Cf.sigsOk
   cases hb : sgrun c.Jts c.Sigs [] with
   | false => rfl
   | true => exact absurd ((sigs_iff c).2 hb i x hi) hn
 refine W_ref06_signals _ _ _ _ _ _ _ _ _ σ _ (h.sigs.lenK ⟨fun m s => s = σ ∧ ∃ j : Nat, m = j ∧ j ≤ c.Sigs.length ∧ ∀ (i : Nat) (x : Sg), i < j → c.Sigs[i]? = some x → (nxt c.Jts x.Sec x.End_).isSome = true ∧ atB x.Sec x.End_ i c.Sigs 0 = false, fun m _ => c.Sigs.length - m.toNat, ⟨rfl, 0, rfl, by omega, fun i x hi => by omega⟩, ?_⟩)
 rintro _ s ⟨rfl, j, rfl, hj, hall⟩
 rw [List.length_map]
 refine bcd (fun hlt => ?_) (fun hge => h.sigs.lenK ⟨?_, rfl⟩)
 · have hlt : j < c.Sigs.length := by omega
   obtain ⟨x, hx⟩ := get_of_lt (l := c.Sigs) (j := j) (by omega)
   refine h.sigs.load (map_get hx) c_Signal rfl ⟨x.Sec, x.End_, rfl, (ref05_Next_ok x.Sec x.End_ h.jts).use (opt2_ex _ (bcnot (fun e => ⟨by rw [no j x hx (fun g => by rw [g.1] at e; cases e)], rfl⟩) (fun e => (ref06_at_ok h x.Sec x.End_ j).use ⟨_, rfl, bc (fun e2 => ⟨by rw [no j x hx (fun g => by rw [g.2] at e2; cases e2)], rfl⟩) (fun e2 => ?_)⟩)))⟩
   rw [w64_succ (by omega)]
   refine ⟨⟨rfl, j + 1, rfl, by omega, fun i y hi hy => ?_⟩, dec_lt hlt⟩
   by_cases hij : i = j
   · subst hij; rw [hx] at hy; cases hy; exact ⟨e, e2⟩
   · exact hall i y (by omega) hy
 · rw [List.length_map]
   have : sgrun c.Jts c.Sigs [] = true := (sigs_iff c).1 fun i x hi => hall i x (by have := (List.getElem?_eq_some_iff.1 hi).1; omega) hi
   rw [Cf.sigsOk, this, Bool.true_and]
   congr 3
   exact decide_eq_decide.2 (by omega)
theorem ref06_crossings_ok (h : CfAt σ c0 c1 c2 c3 c4 c) (ht : topoOk c.Secs c.Jts = true) : Pure Tryz.prog n_ref06_crossings [cfA c0 c1 c2 c3 c4 c] σ (.a (bA c.xsOk)) := by
 have hs := h.xs.size
 rw [List.length_map] at hs
 have key : c.xsOk = true → ∀ (i : Nat) (x : Int), c.Xs[i]? = some x → (∃ s, geti c.Secs x = some s ∧ s.Line = 0) ∧ x ∉ c.Xs.take i := fun hb i x hi => by
   rw [Cf.xsOk, Bool.and_eq_true, xrun_iff] at hb
   obtain ⟨⟨h1, h2, _⟩, _⟩ := hb
   refine ⟨h1 x (List.mem_of_getElem? hi), fun hm => ?_⟩
   obtain ⟨j, hj⟩ := List.mem_iff_getElem?.1 hm
   rw [List.getElem?_take] at hj
   split at hj
   · rename_i hji
     obtain ⟨q1, q2⟩ := List.getElem?_eq_some_iff.1 hi
     obtain ⟨p1, p2⟩ := List.getElem?_eq_some_iff.1 hj
     have := (List.getElem_inj (h₀ := q1) (h₁ := p1) h2).1 (by rw [q2, p2])
     omega
   · cases hj
 have no : ∀ (i : Nat) (x : Int), c.Xs[i]? = some x → ¬ ((∃ s, geti c.Secs x = some s ∧ s.Line = 0) ∧ x ∉ c.Xs.take i) → c.xsOk = false := fun i x hi hn => by
   cases hb : c.xsOk with
   | false => rfl
   | true => exact absurd (key hb i x hi) hn
 refine W_ref06_crossings _ _ _ _ _ _ _ _ _ σ _ (h.xs.lenK ⟨fun m s => s = σ ∧ ∃ j : Nat, m = j ∧ j ≤ c.Xs.length ∧ ∀ (i : Nat) (x : Int), i < j → c.Xs[i]? = some x → (∃ s, geti c.Secs x = some s ∧ s.Line = 0) ∧ x ∉ c.Xs.take i, fun m _ => c.Xs.length - m.toNat, ⟨rfl, 0, rfl, by omega, fun i x hi => by omega⟩, ?_⟩)
 rintro _ s ⟨rfl, j, rfl, hj, hall⟩
 rw [List.length_map]
 refine bcd (fun hlt => ?_) (fun hge => h.xs.lenK ⟨?_, rfl⟩)
 · have hlt : j < c.Xs.length := by omega
   obtain ⟨x, hx⟩ := get_of_lt (l := c.Xs) (j := j) (by omega)
   refine h.xs.load (map_get hx) c_int rfl ⟨x, rfl, (ref06_kind_ok h x).use ⟨_, rfl, ?_⟩⟩
   cases hg : geti c.Secs x with
   | none =>
     rw [kindI_none hg]
     exact bcd (fun _ => ⟨by rw [no j x hx (fun g => by obtain ⟨⟨s, q, _⟩, _⟩ := g; rw [hg] at q; cases q)], rfl⟩) (fun e => absurd (by decide) e)
   | some y =>
     rw [kindI_some hg]
     have hgi := geti_some hg
     have hget : c.Secs[x.toNat]? = some y := hgi.2.2
     refine bcd (fun e => absurd (kind_ok ht hg).1 (by omega)) (fun _ => h.secs.load (map_get hget) c_Section (by omega) ⟨y.Line, rfl, bcn (fun e => ⟨by rw [no j x hx (fun g => by obtain ⟨⟨s, q, q2⟩, _⟩ := g; rw [hg] at q; cases q; exact e q2)], rfl⟩) (fun e => h.xs.sliceK (lo := 0) (hi := j) c_int rfl rfl (by omega) (by rw [List.length_map]; omega) ?_)⟩)
     have hsub := h.xs.sub (lo := 0) (hi := j) (by omega) (by rw [List.length_map]; omega)
     rw [List.drop_zero, Nat.sub_zero, ← List.map_take] at hsub
     refine (ref06_in_ok x hsub).use ⟨_, rfl, bc (fun e2 => ⟨by rw [no j x hx (fun g => g.2 (of_decide_eq_true e2))], rfl⟩) (fun e2 => ?_)⟩
     rw [w64_succ (by omega)]
     refine ⟨⟨rfl, j + 1, rfl, by omega, fun i y' hi hy => ?_⟩, dec_lt hlt⟩
     by_cases hij : i = j
     · subst hij; rw [hx] at hy; cases hy; exact ⟨⟨y, hg, e⟩, of_decide_eq_false e2⟩
     · exact hall i y' (by omega) hy
 · rw [List.length_map]
   have : xrun c.Secs c.Xs [] = true := by
     rw [xrun_iff]
     refine ⟨fun x hx => ?_, ?_, fun x _ hx => by simp at hx⟩
     · obtain ⟨i, hi⟩ := List.mem_iff_getElem?.1 hx
       exact (hall i x (by have := (List.getElem?_eq_some_iff.1 hi).1; omega) hi).1
     · rw [List.nodup_iff_pairwise_ne, List.pairwise_iff_getElem]
       intro i j' hi hj' hij e
       have := (hall j' _ (by omega) (List.getElem?_eq_getElem hj')).2
       apply this
       rw [List.mem_take_iff_getElem]
       exact ⟨i, by omega, e⟩
   rw [Cf.xsOk, this, Bool.true_and]
   congr 3
   exact decide_eq_decide.2 (by omega)
end
end
end Go.Proofs.YtdlnbehcnfjneaaGreat
section
namespace Go.Fw
variable {P : Program} {σ σ' : Store}
theorem Own.stay {σ0 : Store} {el : TypeId} {e d : D} {qs : List (List D)} (g : Own P σ0 σ el e qs) (hs : ∀ i, σ i ≠ .free → idOf d ≠ some i → σ' i = σ i) (ha : Apart e d) (he : Ext σ0 σ') : Own P σ0 σ' el e qs :=
 ⟨g.at_.same fun i a n h => hs i (by
   have := g.at_.rows; subst h
   obtain ⟨t, rows, h1, _⟩ := this
   rw [h1]; intro e; cases e) (ha i (by subst h; rfl)), he, g.new, g.nsl, g.nz⟩
theorem Own.append2 {σ0 : Store} {el el' : TypeId} {d e x : D} {rs qs ns : List (List D)} {bytes : Nat} {K : D → Store → Prop} (h : Own P σ0 σ el d rs) (g : Own P σ0 σ el' e qs) (ha : Apart e d) (hx : At P σ el x ns)
   (hb : bytes * (rs.length + ns.length) ≤ 140737488355328) (hsz : rs.length + ns.length < 2 ^ 60) (hk : ∀ d' σ', Own P σ0 σ' el d' (rs ++ ns) → Own P σ0 σ' el' e qs → Apart e d' → K d' σ') : appendTo P σ el bytes d x K :=
 h.append hx hb hsz fun d' s' ho h1 h2 => hk d' s' ho (g.stay (d := d) (fun i hi hd => h1 i hi fun a b hab => hd (by rw [hab]; rfl)) ha ho.ext) fun i hi hd => by
   have hn := g.at_.rows
   cases e with
   | osl i' a n =>
     have e1 : i' = i := by simpa [idOf] using hi
     subst e1
     obtain ⟨t, rows, h3, _⟩ := hn
     cases d' with
     | osl j a' n' =>
       have e2 : j = i' := by simpa [idOf] using hd
       subst e2
       rcases h2 j a' n' rfl with q | ⟨a2, b2, q⟩
       · rw [h3] at q; cases q
       · exact ha j rfl (by rw [q]; rfl)
     | _ => simp [idOf] at hd
   | _ => simp [idOf] at hi
theorem Apart.nil (d : D) : Apart .nils d := fun i h => by cases h
end Go.Fw
namespace Go.Fw
variable {P : Program} {σ σ' : Store}
theorem at_lit {s : Store} {el : TypeId} {es : Nat} {rows : List (List D)} (hes : P.cellsOf el = es) (hsz : rows.length < 2 ^ 60) : At P s el (.sl es rows) rows :=
 ⟨⟨rfl, .inr hes.symm⟩, hsz, fun es rows e => by injection e with e1 e2; rw [← e1, hes]⟩
theorem own_id' {σ0 s : Store} {el : TypeId} {d : D} {rs : List (List D)} {i : Nat} (h : Own P σ0 s el d rs) (hi : idOf d = some i) : σ0 i = .free := by
 cases d with
 | osl id a n =>
   have : id = i := by simpa [idOf] using hi
   subst this
   exact h.new _ _ _ rfl
 | _ => simp [idOf] at hi
end Go.Fw
namespace Go.Fw
variable {P : Program} {σ σ' : Store}
theorem Own.put {σ0 : Store} {el : TypeId} {d : D} {rs : List (List D)} {j off n : Nat} {row xs : List D} {K : Store → Prop} (h : Own P σ0 σ el d rs) (hr : rs[j]? = some row) (hn : n = j) (ho : off + xs.length ≤ row.length)
   (hK : ∀ s', Own P σ0 s' el d (rs.set j (patch row off xs)) → (∀ i, idOf d ≠ some i → s' i = σ i) → K s') : storeEl xs σ d n off K :=
 h.at_.store h.nsl hr hn ho fun s' id hid hat hs hne => hK s' ⟨hat, fun i hi => by
   have hne' : i ≠ id := fun e => hi (by rw [e]; exact own_id' h hid)
   rw [hs i hne']; exact h.ext i hi, h.new, h.nsl, h.nz⟩ fun i hi => hs i fun e => hi (by rw [e]; exact hid)
end Go.Fw
namespace Go.Fw
variable {P : Program} {σ σ' : Store}
theorem Own.copy {σ0 : Store} {el : TypeId} {d x : D} {rd rs : List (List D)} {K : Int → Store → Prop} (h : Own P σ0 σ el d rd) (hx : At P σ el x rs)
   (hK : ∀ s', Own P σ0 s' el d (rs.take (min rs.length rd.length) ++ rd.drop (min rs.length rd.length)) → (∀ i, idOf d ≠ some i → s' i = σ i) → K (min (rs.length : Int) (rd.length : Int)) s') : copyTo P σ el d x K := by
 refine ⟨rd, rs, h.at_.rows, hx.rows, ?_⟩
 by_cases hm : min rs.length rd.length = 0
 · refine .inl ⟨hm, ?_⟩
   have := hK σ (by rw [hm]; simpa using h) (fun _ _ => rfl)
   rw [show min (rs.length : Int) (rd.length : Int) = 0 by omega] at this; exact this
 · refine .inr ?_
   have hrow := h.at_.rows
   have hnew := h.new
   have hsz := h.at_.size
   cases d with
   | osl id i0 len =>
     obtain ⟨t, rows, h1, h2, h3, rfl⟩ := hrow
     have hml : min rs.length ((rows.drop i0).take len).length ≤ len := by simp; omega
     have hmr : min rs.length ((rows.drop i0).take len).length ≤ rs.length := Nat.min_le_left _ _
     have hmx : min rs.length ((rows.drop i0).take len).length ≤ ((rows.drop i0).take len).length := Nat.min_le_right _ _
     generalize min rs.length ((rows.drop i0).take len).length = m at *
     have hl : (rows.take i0 ++ rs.take m ++ rows.drop (i0 + m)).length = rows.length := by simp; omega
     refine ⟨id, i0, len, t, rows, rfl, h1, ?_⟩
     refine hK (σ.set id (.live t (rows.take i0 ++ rs.take m ++ rows.drop (i0 + m)))) ⟨⟨⟨t, _, Store.set_same _ _ _, h2, by rw [hl]; exact h3, ?_⟩, by rw [List.length_append, List.length_take, List.length_drop]; omega, fun es rows e => by cases e⟩, fun i hi => ?_, h.new, h.nsl, h.nz⟩ fun i hi => Store.set_ne _ _ fun e => hi (by rw [e]; rfl)
     · have hA : (rs.take m).length = m := by rw [List.length_take]; omega
       generalize rs.take m = A at *
       rw [List.append_assoc, List.drop_left' (by rw [List.length_take]; omega), List.take_append, List.take_of_length_le (show A.length ≤ len by omega), hA, List.drop_take, List.drop_drop]
     · rw [Store.set_ne _ _ (fun e => hi (by rw [e]; exact h.new _ _ _ rfl))]; exact h.ext i hi
   | nils => have : rd = [] := hrow; subst this; simp at hm
   | zsl => exact absurd rfl h.nz
   | sl es rows => exact absurd trivial h.nsl
   | _ => exact hrow.elim
end Go.Fw
namespace Go.Fw
variable {P : Program} {σ σ' : Store}
theorem Own.sub {σ0 : Store} {el : TypeId} {d : D} {rs : List (List D)} {lo hi : Nat} (h : Own P σ0 σ el d rs) (h1 : lo ≤ hi) (h2 : hi ≤ rs.length) : Own P σ0 σ el (dsub d lo hi) ((rs.drop lo).take (hi - lo)) := by
 have hr := h.at_.rows
 have hn := h.new
 have hl := h.nsl
 have hz := h.nz
 refine ⟨h.at_.sub h1 h2, h.ext, ?_, ?_, ?_⟩ <;> cases d <;> simp only [dsub, Rows] at * <;> first | (intro id i n e; cases e; exact hn _ _ _ rfl) | (intro id i n e; cases e; done) | exact hl | (intro e; cases e; done) | exact hr.elim | exact hz
end Go.Fw
end
namespace Go.Proofs.YtdlnbehcnfjneaaGreat
open Go.Fw Go.Proofs Go.RowKit
section
variable {σ : Store}
theorem ref06_sameInts_ok {a b : D} {la lb : List Int} (ha : At Tryz.prog σ t_int a (la.map Go.Fw.encI)) (hb : At Tryz.prog σ t_int b (lb.map Go.Fw.encI)) : Pure Tryz.prog n_ref06_sameInts [.one a, .one b] σ (.a (bA (decide (la = lb)))) := by
 have hs := ha.size
 rw [List.length_map] at hs
 refine W_ref06_sameInts a b σ _ (ha.lenK (hb.lenK ?_))
 rw [List.length_map, List.length_map]
 refine bcn (fun hne => ⟨?_, rfl⟩) (fun he => ha.lenK ?_)
 · rw [decide_eq_false (fun e => hne (by rw [e]))]
 have hl : la.length = lb.length := by omega
 rw [List.length_map]
 refine ⟨fun n s => s = σ ∧ EqR la lb n, fun n _ => la.length - n.toNat, ⟨rfl, .start _ _⟩, ?_⟩
 rintro n s ⟨rfl, hr⟩
 refine bcd (fun hlt => ?_) (fun hge => ⟨?_, rfl⟩)
 · obtain ⟨j, x, y, rfl, hx, hy, hn, hy2⟩ := hr.step hl rfl hs hlt
   refine ha.load (map_get hx) c_int rfl ⟨x, rfl, hb.load (map_get hy) c_int rfl ⟨y, rfl, bcn (fun e => ⟨?_, rfl⟩) (fun e => andl rfl (hy2 e))⟩⟩
   rw [decide_eq_false (hn e)]
 · rw [decide_eq_true (hr.done hl rfl hge)]
theorem ref06_SameNeeds_ok {a b : D} {la lb : List Nd} (ha : At Tryz.prog σ t_Need a (la.map Nd.enc)) (hb : At Tryz.prog σ t_Need b (lb.map Nd.enc)) : Pure Tryz.prog n_ref06_SameNeeds [.one a, .one b] σ (.a (bA (decide (la = lb)))) := by
 have hs := ha.size
 rw [List.length_map] at hs
 refine W_ref06_SameNeeds a b σ _ (ha.lenK (hb.lenK ?_))
 rw [List.length_map, List.length_map]
 refine bcn (fun hne => ⟨?_, rfl⟩) (fun he => ha.lenK ?_)
 · rw [decide_eq_false (fun e => hne (by rw [e]))]
 have hl : la.length = lb.length := by omega
 rw [List.length_map]
 refine ⟨fun n s => s = σ ∧ EqR la lb n, fun n _ => la.length - n.toNat, ⟨rfl, .start _ _⟩, ?_⟩
 rintro n s ⟨rfl, hr⟩
 refine bcd (fun hlt => ?_) (fun hge => ⟨?_, rfl⟩)
 · obtain ⟨j, x, y, rfl, hx, hy, hn, hy2⟩ := hr.step hl rfl hs hlt
   refine ha.load (map_get hx) c_Need rfl ⟨x.Sec, x.Pos, rfl, hb.load (map_get hy) c_Need rfl ⟨y.Sec, y.Pos, rfl, bcnot (fun e => ⟨?_, rfl⟩) (fun e => andl rfl (hy2 ?_))⟩⟩
   · rw [decide_eq_false (hn fun g => by rw [g] at e; simp at e)]
   · simp at e; cases x; cases y; simp at e; simp [e]
 · rw [decide_eq_true (hr.done hl rfl hge)]
section
variable {c0 c1 c2 c3 c4 : D} {c : Cf} (h : ∀ s, CfAt s c0 c1 c2 c3 c4 c)
include h
theorem ref06_path_ok (ht : topoOk c.Secs c.Jts = true) (hsg : c.sigsOk = true) (r : Rt) {d1 d2 d3 : D} (hp : ∀ s, At Tryz.prog s t_Step d1 (r.Path.map St.enc)) :
   Pure Tryz.prog n_ref06_path [cfA c0 c1 c2 c3 c4 c, rtA d1 d2 d3 r] σ (.a (bA (c.path r))) := by
 have hl := (hp σ).size
 rw [List.length_map] at hl
 refine .of (W_ref06_path _ _ _ _ _ _ _ _ _ _ _ d1 d2 d3 _ σ _ ?_) (flat_b _)
 intro R hR
 have no : c.path r = false → (RV.a (bA false) = .a (bA (c.path r)) ∧ Ext σ σ) := fun e => ⟨by rw [e], .refl _⟩
 refine bcd (fun e => no (by rw [Cf.path, geti_neg e])) (fun e0 => (h σ).sigs.lenK ?_)
 rw [List.length_map]
 refine bcd (fun e => no (by rw [Cf.path, geti_ge e])) (fun e1 => ?_)
 obtain ⟨a, hg⟩ := geti_ex e0 e1
 have hpath : c.path r = ((decide (r.Exit = -1) || (geti c.Sigs r.Exit).isSome) && decide (1 ≤ r.Path.length ∧ r.Path.length ≤ 8) && prunA c r (geti c.Sigs r.Exit) r.Path a [a.Sec]) := by rw [Cf.path, hg]
 refine bcd (fun e => no (by rw [hpath, geti_neg (by omega), decide_eq_false (by omega)]; rfl)) (fun e2 => (h σ).sigs.lenK ?_)
 rw [List.length_map]
 refine bcd (fun e => no (by rw [hpath, geti_ge e, decide_eq_false (by omega)]; rfl)) (fun e3 => (hp σ).lenK ?_)
 rw [List.length_map]
 refine bcd (fun e => no (by rw [hpath, decide_eq_false (p := 1 ≤ r.Path.length ∧ _) (by omega), Bool.and_false, Bool.false_and])) (fun e4 => (hp σ).lenK ?_)
 rw [List.length_map]
 refine bcd (fun e => no (by rw [hpath, decide_eq_false (p := 1 ≤ r.Path.length ∧ _) (by omega), Bool.and_false, Bool.false_and])) (fun e5 => hR σ ?_)
 have hex1 : (decide (r.Exit = -1) || (geti c.Sigs r.Exit).isSome) = true := by
   by_cases e : r.Exit = -1
   · rw [decide_eq_true e]; rfl
   · obtain ⟨x, hx⟩ := geti_ex (l := c.Sigs) (i := r.Exit) (by omega) e3
     rw [hx]; simp
 rw [hex1, decide_eq_true (by omega), Bool.true_and, Bool.true_and] at hpath
 have hgs := geti_some hg
 refine (h σ).sigs.load (map_get hgs.2.2) c_Signal (by omega) ⟨a.Sec, a.End_, rfl, newObj_intro fun id s1 hid _ he1 hs1 => (hp s1).lenK ?_⟩
 rw [List.length_map]
 refine ⟨fun m e d n s => ∃ seen : List Int, Own Tryz.prog σ s t_int d (seen.reverse.map Go.Fw.encI) ∧ (seen.length : Int) ≤ n + 1 ∧ Rng r.Path (fun q => prunA c r (geti c.Sigs r.Exit) q ⟨m, e⟩ seen = c.path r) n, fun _ _ _ n _ => r.Path.length - n.toNat,
   ⟨[a.Sec], .at_new hid he1 hs1 (by simp) rfl, by simp, .start hpath.symm⟩, ?_⟩
 rintro m e d n s ⟨seen, ho, hsl, hr⟩
 refine bcd (fun hlt => ?_) (fun hge => ?_)
 · obtain ⟨j, x, rfl, hx, hj, hF, nx⟩ := hr.step rfl hl hlt
   intro R1 hR1
   refine (hp s).load (map_get hx) c_Step rfl ⟨x.Sec, x.In, x.Out, rfl, (ref05_Next_ok m e (h s).jts).use (opt2_ex _ ?_)⟩
   rw [prunA] at hF
   have hes := ho.ext
   have bad : pstep c r (geti c.Sigs r.Exit) ⟨m, e⟩ x (r.Path.drop (j + 1)).isEmpty seen = false → (RV.a (.one (.bool false)) = .a (bA (c.path r)) ∧ Ext σ s) := fun hb => by
     rw [hb] at hF
     exact ⟨by rw [← hF]; rfl, hes⟩
   have good : pstep c r (geti c.Sigs r.Exit) ⟨m, e⟩ x (r.Path.drop (j + 1)).isEmpty seen = true → ∀ s' d', Own Tryz.prog σ s' t_int d' ((x.Sec :: seen).reverse.map Go.Fw.encI) → R1 x.Sec x.Out d' s' := fun hb s' d' ho' => by
     rw [hb, Bool.true_and] at hF
     have hn := nx (fun q => prunA c r (geti c.Sigs r.Exit) q ⟨x.Sec, x.Out⟩ (x.Sec :: seen) = c.path r) hF
     exact hR1 _ _ _ _ ⟨⟨x.Sec :: seen, ho', by rw [w64_succ (by omega), List.length_cons]; omega, hn.1⟩, hn.2⟩
   intro R2 hR2
   rw [pstep] at bad good
   cases hn : nxt c.Jts m e with
   | none =>
     rw [hn] at bad
     exact bcnot (fun _ => bad rfl) (fun e => by cases e)
   | some p =>
     obtain ⟨q, i⟩ := p
     rw [hn] at bad good hR2
     obtain ⟨y, hy⟩ := nxt_sec ht hn
     simp only [hy, Option.getD_some] at bad good hR2 ⊢
     refine bcnot (fun e => by cases e) (fun _ => bcn (fun k => bad (by simp [k])) (fun k1 => bcn (fun k => bad (by simp [k])) (fun k2 => (ref06_in_ok q ho.at_).use ⟨_, rfl, bc (fun k => bad ?_) (fun k3 => ⟨trivial, hR2 s ?_⟩)⟩)))
     · have : q ∈ seen := by simpa [inL] using k
       simp [this]
     have hq : q ∉ seen := by simpa [inL] using k3
     refine (ref06_kind_ok (h s) q).use ⟨_, rfl, (ref05_Pos_ok _ _ _).use (opt1_ex _ ?_)⟩
     rw [kindI_some hy]
     intro R3 hR3
     have main : ∀ but, decide (geti c.Sigs but = some ⟨x.Sec, x.Out⟩) = ((r.Path.drop (j + 1)).isEmpty && decide (geti c.Sigs r.Exit = some ⟨x.Sec, x.Out⟩)) → R3 but s := fun but hbut => hR3 but s (by
       intro R4 hR4
       refine bcnot (fun k => bad (by rw [k]; simp)) (fun k4 => (ref06_at_ok (h s) x.Sec x.Out but).use ⟨_, rfl, ?_⟩)
       rw [atB_eq hsg, hbut]
       have hfin : (!(r.Shunt && decide (y.Line ≠ 0))) = true → ((c.Sigs.any fun z => decide (⟨x.Sec, x.Out⟩ = z)) && !((r.Path.drop (j + 1)).isEmpty && decide (geti c.Sigs r.Exit = some ⟨x.Sec, x.Out⟩))) = false → R4 s := fun g1 g2 => hR4 s (newObj_intro fun id1 s2 hid1 _ he2 hs2 => (ho.ext' he2).append (At.fresh hs2 (by simp) rfl) (by simp; omega) (by simp; omega) fun d4 s5 ho5 _ _ => good (by
         rw [k4, g1, decide_eq_true k1, decide_eq_true k2, decide_eq_true hq]
         generalize (c.Sigs.any fun z => decide (⟨x.Sec, x.Out⟩ = z)) = u at g2
         generalize ((r.Path.drop (j + 1)).isEmpty && decide (geti c.Sigs r.Exit = some ⟨x.Sec, x.Out⟩)) = w at g2
         cases u <;> cases w <;> first | rfl | cases g2) _ _ (by rw [List.reverse_cons, List.map_append, ← k1]; exact ho5))
       refine bc (fun k => bad ?_) (fun k5 => bc (fun k6 => (h s).secs.load (map_get (geti_some hy).2.2) c_Section (by have := geti_some hy; omega) ⟨y.Line, rfl, bcn (fun k7 => bad (by rw [k6]; simp [k7])) (fun k7 => ⟨trivial, hfin (by rw [k6]; simp [k7]) k5⟩)⟩) (fun k6 => ⟨trivial, hfin (by rw [k6]; rfl) k5⟩))
       · generalize (c.Sigs.any fun z => decide (⟨x.Sec, x.Out⟩ = z)) = u at k
         generalize ((r.Path.drop (j + 1)).isEmpty && decide (geti c.Sigs r.Exit = some ⟨x.Sec, x.Out⟩)) = w at k
         cases u <;> cases w <;> first | (simp; done) | cases k)
     refine (hp s).lenK ?_
     rw [List.length_map, w64_id (n := (r.Path.length : Int) - 1) (by omega) (by omega)]
     refine bce (fun q1 => ⟨trivial, main _ ?_⟩) (fun q1 => ⟨trivial, main _ ?_⟩)
     · rw [drop_end (by omega)]; simp
     · have hemp : (r.Path.drop (j + 1)).isEmpty = false := by
         cases hd : r.Path.drop (j + 1) with
         | nil => rw [List.drop_eq_nil_iff] at hd; omega
         | cons y l => rfl
       rw [hemp, geti_neg (by omega)]; simp
 · have hF : (match (generalizing := false) geti c.Sigs r.Exit with | some x => decide ((⟨m, e⟩ : Sg) = x) | none => !(nxt c.Jts m e).isSome) = c.path r := hr.done rfl hge
   refine bcd (fun k1 => ?_) (fun k1 => (ref05_Next_ok m e (h s).jts).use (opt2_ex _ ⟨?_, ho.ext⟩))
   · obtain ⟨y, hy⟩ := geti_ex (l := c.Sigs) (i := r.Exit) (by omega) e3
     rw [hy] at hF
     refine (h s).sigs.load (map_get (geti_some hy).2.2) c_Signal (by omega) ⟨y.Sec, y.End_, rfl, ?_, ho.ext⟩
     rw [← hF]
     congr 3; rw [Bool.eq_iff_iff]; cases y; simp; exact ⟨fun ⟨a, b⟩ => ⟨a.symm, b.symm⟩, fun ⟨a, b⟩ => ⟨a.symm, b.symm⟩⟩
   · rw [geti_neg (by omega)] at hF
     rw [← hF]
theorem ref06_Flank_ok (a : Int) {pd : D} {path : List St} (hp : ∀ s, At Tryz.prog s t_Step pd (path.map St.enc)) (hpl : path.length ≤ 2 ^ 20) :
   DCalls Tryz.prog n_ref06_Flank [cfA c0 c1 c2 c3 c4 c, iA a, .one pd] σ (SlPost σ t_Need ((c.flank a path).map Nd.enc)) := by
 refine (W_ref06_Flank _ _ _ _ _ _ _ _ _ a pd σ _ ?_).ret (Q := fun r s => ∃ r' σ', Ret Tryz.prog σ s r σ' r' ∧ SlPost σ t_Need ((c.flank a path).map Nd.enc) r' σ') (fun r s h => h)
 refine (hp σ).lenK ⟨fun d d1 n s => ∃ out : List Nd, Own Tryz.prog σ s t_Need d (out.map Nd.enc) ∧ Own Tryz.prog σ s t_int d1 ((out.map Nd.Sec).map Go.Fw.encI) ∧ Apart d d1 ∧ (out.length : Int) ≤ 4 * n ∧ Rng path (fun r => flankRun c a path r out = c.flank a path) n,
   fun _ _ n _ => path.length - n.toNat, ⟨[], .nil _ (.refl _), .nil _ (.refl _), .nil _, by simp, .start rfl⟩, ?_⟩
 rintro d d1 n s ⟨out, ho, ho1, hap, hol, hr⟩
 rw [List.length_map]
 refine bcd (fun hlt => ?_) (fun hge => ?_)
 · obtain ⟨j, x, rfl, hx, hj, hF, nx⟩ := hr.step rfl (by omega) hlt
   refine (hp s).load (map_get hx) c_Step rfl ⟨x.Sec, x.In, x.Out, rfl, (ref06_kind_ok (h s) _).use ⟨_, rfl, ?_⟩⟩
   have hF' : flankRun c a path (path.drop (j + 1)) (flankEnds c a path x (nends (kindI c x.Sec)).toNat 0 out) = c.flank a path := by
     rw [← hF, flankRun]
     cases hg : geti c.Secs x.Sec with
     | none => rw [kindI_none hg]; rfl
     | some y => rw [kindI_some hg]
   generalize kindI c x.Sec = k at hF'
   have hne := nends_le k
   refine ⟨fun d d1 m s' => ∃ out' : List Nd, Own Tryz.prog σ s' t_Need d (out'.map Nd.enc) ∧ Own Tryz.prog σ s' t_int d1 ((out'.map Nd.Sec).map Go.Fw.encI) ∧ Apart d d1 ∧ 0 ≤ m ∧ m ≤ nends k ∧ (out'.length : Int) ≤ 4 * j + m ∧ flankEnds c a path x (nends k - m).toNat m out' = flankEnds c a path x (nends k).toNat 0 out,
     fun _ _ m _ => (nends k - m).toNat, ⟨out, ho, ho1, hap, by omega, hne.1, by omega, by rw [Int.sub_zero]⟩, ?_⟩
   rintro d2 d3 m s' ⟨out', ho', ho1', hap', hm0, hm1, hol', hE⟩
   refine (ref05_Ends_ok _).use ⟨_, rfl, bcd (fun hlt' => ?_) (fun hge' => ?_)⟩
   · have hw : w64 (m + 1) = m + 1 := w64_id (by omega) (by omega)
     have hk : (nends k - m).toNat = (nends k - (m + 1)).toNat + 1 := by omega
     rw [hk, flankEnds] at hE
     intro R hR
     have leaf : ∀ (out2 : List Nd) (d4 d5 : D) (s2 : Store), flankStep c a path x out' m = out2 → Own Tryz.prog σ s2 t_Need d4 (out2.map Nd.enc) → Own Tryz.prog σ s2 t_int d5 ((out2.map Nd.Sec).map Go.Fw.encI) → Apart d4 d5 → R d4 d5 s2 := by
       intro out2 d4 d5 s2 h1 h2 h3 h4
       have hlen := (flankStep_len c a path x out' m).2
       refine hR _ _ _ ⟨rfl, ?_⟩
       rw [hw]
       refine ⟨⟨out2, h2, h3, h4, by omega, by omega, by rw [← h1]; omega, by rw [← h1]; exact hE⟩, by show (nends k - (m + 1)).toNat < (nends k - m).toNat; omega⟩
     intro R1 hR1
     refine bce (fun h1 => ⟨by trivial, leaf out' _ _ s' (by rw [flankStep, if_pos (.inl h1)]) ho' ho1' hap'⟩) (fun h1 => bce (fun h2 => ⟨by trivial, leaf out' _ _ s' (by rw [flankStep, if_pos (.inr h2)]) ho' ho1' hap'⟩) (fun h2 => ⟨by trivial, hR1 s' ?_⟩))
     have hst : flankStep c a path x out' m = match nxt c.Jts x.Sec m with
       | none => out'
       | some (q, f) => match geti c.Secs q with
         | none => out'
         | some y => if y.Kind = 1 ∧ (1 ≤ f ∧ f ≤ 2) ∧ q ≠ a ∧ hasSec path q = false ∧ (out'.any fun n => n.Sec == q) = false then out' ++ [⟨q, 3 - f⟩] else out' := by
       rw [flankStep, if_neg (by rintro (e | e); exact h1 e; exact h2 e)] <;> rfl
     refine (ref05_Next_ok x.Sec m (h s').jts).use (opt2_ex _ ?_)
     intro R2 hR2
     cases hn : nxt c.Jts x.Sec m with
     | none =>
       rw [hn] at hst
       exact bcnot (fun _ => ⟨by trivial, leaf out' _ _ s' hst ho' ho1' hap'⟩) (fun e => by cases e)
     | some p =>
       obtain ⟨q, f⟩ := p
       rw [hn] at hst hR2
       simp only [Option.getD_some] at hst hR2 ⊢
       refine bcnot (fun e => by cases e) (fun _ => (ref06_kind_ok (h s') q).use ⟨_, rfl, ?_⟩)
       refine bcn (fun k1 => ⟨by trivial, leaf out' _ _ s' ?_ ho' ho1' hap'⟩) (fun k1 => ?_)
       · cases hg : geti c.Secs q with
         | none => rw [hg] at hst; exact hst
         | some y => rw [hg] at hst; rw [kindI_some hg] at k1; rw [hst]; exact if_neg fun g => k1 g.1
       obtain ⟨y, hg⟩ : ∃ y, geti c.Secs q = some y := by
         cases hg : geti c.Secs q with
         | none => rw [kindI_none hg] at k1; cases k1
         | some y => exact ⟨y, rfl⟩
       rw [kindI_some hg] at k1
       rw [hg] at hst
       simp only at hst
       have no : ¬ ((1 ≤ f ∧ f ≤ 2) ∧ q ≠ a ∧ hasSec path q = false ∧ (out'.any fun n => n.Sec == q) = false) → flankStep c a path x out' m = out' := fun hn => by rw [hst, if_neg fun g => hn g.2]
       have main : (1 ≤ f ∧ f ≤ 2) → DCalls Tryz.prog n_ref06_Sections [.one pd] s' fun r4 s4 => ∃ d4, r4 = .a (.one d4) ∧ DCalls Tryz.prog n_ref06_in [.one d4, iA q] s4 fun r5 s5 => ∃ b1, r5 = .a (bA b1) ∧ bcase b1 (True ∧ R d2 d3 s5) (bcase (q == a) (True ∧ R d2 d3 s5) (DCalls Tryz.prog n_ref06_in [.one d3, iA q] s5 fun r6 s6 => ∃ b2, r6 = .a (bA b2) ∧ bcase b2 (True ∧ R d2 d3 s6) (True ∧ R2 s6))) := by
         intro hf
         refine (ref06_Sections_ok hp (by omega)).mono ?_
         rintro r4 s4 ⟨rfl, d4, rfl, hd4⟩
         refine ⟨d4, rfl, (ref06_in_ok q (hd4 _)).use ⟨_, rfl, ?_⟩⟩
         rw [hasSec_in]
         refine bc (fun k2 => ⟨by trivial, leaf out' _ _ _ (no fun g => by rw [g.2.2.1] at k2; cases k2) ho' ho1' hap'⟩) (fun k2 => bce (fun k3 => ⟨by trivial, leaf out' _ _ _ (no fun g => g.2.1 k3) ho' ho1' hap'⟩) (fun k3 => (ref06_in_ok q ho1'.at_).use ⟨_, rfl, ?_⟩))
         rw [nd_any]
         refine bc (fun k4 => ⟨by trivial, leaf out' _ _ _ (no fun g => by rw [g.2.2.2] at k4; cases k4) ho' ho1' hap'⟩) (fun k4 => ⟨by trivial, hR2 _ ?_⟩)
         refine newObj_intro fun id s5 hid _ he5 hs5 => ?_
         refine (ho1'.ext' he5).append2 (ho'.ext' he5) hap' (At.fresh hs5 (by simp) rfl) (by simp; omega) (by simp; omega) fun d5 s6 ho6 ho6' hap6 => ?_
         refine newObj_intro fun id7 s7 hid7 _ he7 hs7 => ?_
         have hw2 : w64 (3 - f) = 3 - f := w64_id (by omega) (by omega)
         refine (ho6'.ext' he7).append2 (ho6.ext' he7) hap6.symm (At.fresh hs7 (by simp) rfl) (by simp; omega) (by simp; omega) fun d8 s8 ho8 ho8' hap8 => ⟨by trivial, leaf (out' ++ [⟨q, 3 - f⟩]) _ _ _ (by rw [hst, if_pos ⟨k1, hf, k3, k2, k4⟩]) ?_ ?_ hap8.symm⟩
         · rw [hw2] at ho8; rw [List.map_append]; exact ho8
         · rw [List.map_append, List.map_append]; exact ho8'
       refine bcn (fun k2 => bcn (fun k3 => ⟨by trivial, leaf out' _ _ s' (no fun g => by omega) ho' ho1' hap'⟩) (fun k3 => main (by omega))) (fun k2 => main (by omega))
   · have hz : (nends k - m).toNat = 0 := by omega
     rw [hz, flankEnds] at hE
     rw [← hE] at hF'
     have hn := nx (fun r => flankRun c a path r out' = c.flank a path) hF'
     exact ⟨⟨out', ho', ho1', hap', by rw [w64_succ (by omega)]; omega, hn.1⟩, hn.2⟩
 · have hF := hr.done rfl hge
   rw [flankRun] at hF
   rw [← hF]
   exact own_fin ho (flatNd _)
theorem ref06_Overlap_ok (r : Rt) {d1 d2 d3 : D} (hp : ∀ s, At Tryz.prog s t_Step d1 (r.Path.map St.enc)) (hpl : r.Path.length ≤ 2 ^ 20) :
   DCalls Tryz.prog n_ref06_Overlap [cfA c0 c1 c2 c3 c4 c, rtA d1 d2 d3 r] σ (SlPost σ t_int ((c.overlap r).map Go.Fw.encI)) := by
 refine (W_ref06_Overlap _ _ _ _ _ _ _ _ _ _ _ d1 d2 d3 _ σ _ ?_).ret (Q := fun r' s => ∃ r'' σ', Ret Tryz.prog σ s r' σ' r'' ∧ SlPost σ t_int ((c.overlap r).map Go.Fw.encI) r'' σ') (fun r s h => h)
 intro R hR
 have nil : c.overlap r = [] → ∃ r'' σ', Ret Tryz.prog σ σ (.a (.one .nils)) σ' r'' ∧ SlPost σ t_int ((c.overlap r).map Go.Fw.encI) r'' σ' := fun e => by
   rw [e]; exact own_fin (.nil _ (.refl _)) (flatI _)
 refine bc (fun h1 => nil (by rw [Cf.overlap, if_pos h1])) (fun h1 => ?_)
 have hov : c.overlap r = match geti c.Sigs r.Exit with
   | none => []
   | some x => match nxt c.Jts x.Sec x.End_ with
     | none => []
     | some (q, _) => match geti c.Secs q with
       | none => []
       | some y => if y.Line = 0 ∧ hasSec r.Path q = false ∧ q ≠ c.approach r then [q] else [] := by
   rw [Cf.overlap, if_neg (by rw [h1]; simp)] <;> rfl
 refine bcd (fun e => nil (by rw [hov, geti_neg e])) (fun e0 => (h σ).sigs.lenK ?_)
 rw [List.length_map]
 refine bcd (fun e => nil (by rw [hov, geti_ge e])) (fun e1 => hR σ ?_)
 obtain ⟨x, hg⟩ := geti_ex e0 e1
 rw [hg] at hov
 simp only at hov
 refine (h σ).sigs.load (map_get (geti_some hg).2.2) c_Signal (by omega) ⟨x.Sec, x.End_, rfl, (ref05_Next_ok _ _ (h σ).jts).use (opt2_ex _ ?_)⟩
 intro R1 hR1
 have main : R1 (c.approach r) σ := by
   refine hR1 _ σ ?_
   cases hn : nxt c.Jts x.Sec x.End_ with
   | none => rw [hn] at hov; exact bcnot (fun _ => nil hov) (fun e => by cases e)
   | some p =>
     obtain ⟨q, f⟩ := p
     rw [hn] at hov
     simp only [Option.getD_some] at hov ⊢
     refine bcnot (fun e => by cases e) (fun _ => bcd (fun e => nil (by rw [hov, geti_neg e])) (fun e2 => (h σ).secs.lenK ?_))
     rw [List.length_map]
     refine bcd (fun e => nil (by rw [hov, geti_ge e])) (fun e3 => (ref06_Sections_ok hp (by omega)).mono ?_)
     obtain ⟨y, hy⟩ := geti_ex e2 e3
     rw [hy] at hov
     simp only at hov
     have no : ¬ (y.Line = 0 ∧ hasSec r.Path q = false ∧ q ≠ c.approach r) → c.overlap r = [] := fun hn => by rw [hov, if_neg hn]
     rintro r4 s4 ⟨rfl, d4, rfl, hd4⟩
     refine ⟨d4, rfl, (ref06_in_ok q (hd4 _)).use ⟨_, rfl, ?_⟩⟩
     rw [hasSec_in]
     refine bc (fun k2 => nil (no fun g => by rw [g.2.1] at k2; cases k2)) (fun k2 => bce (fun k3 => nil (no fun g => g.2.2 k3)) (fun k3 => ?_))
     refine (h s4).secs.load (map_get (geti_some hy).2.2) c_Section (by omega) ⟨y.Line, rfl, bcn (fun k4 => nil (no fun g => k4 g.1)) (fun k4 => ?_)⟩
     refine newObj_intro fun id s5 hid _ he5 hs5 => ?_
     rw [hov, if_pos ⟨k4, k2, k3⟩]
     exact own_fin (.at_new hid he5 hs5 (by simp) rfl) (flatI _)
 refine bcd (fun k0 => (h σ).sigs.lenK ?_) (fun k0 => ?_)
 · rw [List.length_map]
   refine bcd (fun k1 => ?_) (fun k1 => ?_)
   · obtain ⟨z, hz⟩ := geti_ex (l := c.Sigs) (i := r.Entry) (by omega) (by omega)
     refine (h σ).sigs.load (map_get (geti_some hz).2.2) c_Signal (by omega) ⟨z.Sec, rfl, ?_⟩
     rw [Cf.approach, hz] at main; exact main
   · rw [Cf.approach, geti_ge (by omega)] at main; exact main
 · rw [Cf.approach, geti_neg (by omega)] at main; exact main
theorem ref06_Check_ok : Pure Tryz.prog n_ref06_Check [cfA c0 c1 c2 c3 c4 c] σ (.a (iA c.check)) := by
 refine W_ref06_Check _ _ _ _ _ _ _ _ _ σ _ ((ref05_Check_ok (h σ).secs (h σ).jts).use ⟨_, rfl, ?_⟩)
 have e6 : (if topoOk c.Secs c.Jts = true then (0 : Int) else 6) ≠ 0 ↔ topoOk c.Secs c.Jts = false := by
   cases topoOk c.Secs c.Jts <;> simp
 refine bcn (fun k1 => ⟨by rw [Cf.check, if_pos (e6.1 k1)], rfl⟩) (fun k1 => (ref06_signals_ok (h σ)).use ⟨_, rfl, bcnot (fun k2 => ⟨?_, rfl⟩) (fun k2 => ?_)⟩)
 all_goals have k1' : ¬ topoOk c.Secs c.Jts = false := fun e => e6.2 e k1
 · rw [Cf.check, if_neg k1', if_pos k2]
 have ht : topoOk c.Secs c.Jts = true := by simpa using k1'
 refine (ref06_crossings_ok (h σ) ht).use ⟨_, rfl, bcnot (fun k3 => ⟨?_, rfl⟩) (fun k3 => ?_)⟩
 · rw [Cf.check, if_neg k1', if_neg (by rw [k2]; simp), if_pos k3]
 have hck : c.check = if c.Rts.length > 12 then 9 else if c.routes c.Rts ≠ 0 then c.routes c.Rts else if c.timing = true then 0 else 12 := by
   rw [Cf.check, if_neg k1', if_neg (by rw [k2]; simp), if_neg (by rw [k3]; simp)]
 obtain ⟨rows, hat, hlen, hrow⟩ := rts_froz fun s => (h s).rts
 have hl := (hat σ).size
 refine (hat σ).lenK (bcd (fun k4 => ⟨by rw [hck, if_pos (by omega)], rfl⟩) (fun k4 => (hat σ).lenK ?_))
 rw [if_neg (by omega)] at hck
 refine ⟨fun n s => s = σ ∧ Rng c.Rts (fun l => c.routes l = c.routes c.Rts) n, fun n _ => c.Rts.length - n.toNat, ⟨rfl, .start rfl⟩, ?_⟩
 rintro n τ ⟨rfl, hr⟩
 refine bcd (fun hlt => ?_) (fun hge => ?_)
 · obtain ⟨j, x, rfl, hx, hj, hF, nx⟩ := hr.step hlen (by omega) hlt
   obtain ⟨row, hrw⟩ := get_of_lt (l := rows) (j := j) (by omega)
   obtain ⟨d1, d2, d3, rfl, q1, q2, q3⟩ := hrow j row x hrw hx
   rw [Cf.routes] at hF
   have err : ∀ e, e ≠ 0 → c.route x = e → (RV.a (iA e) = .a (iA c.check) ∧ τ = τ) := fun e he hc => by
     rw [hc, if_pos he] at hF
     rw [hck, ← hF, if_pos he]; exact ⟨rfl, rfl⟩
   refine (hat τ).load hrw c_Route rfl ⟨_, _, d1, d2, d3, _, rfl, (ref06_path_ok h ht k2 x q1).use ⟨_, rfl, bcnot (fun k5 => err 9 (by decide) (by rw [Cf.route, if_pos k5])) (fun k5 => ?_)⟩⟩
   have hpl : x.Path.length ≤ 8 := by
     unfold Cf.path at k5
     split at k5
     · cases k5
     · simp at k5; exact k5.1.2.2
   refine (ref06_Approach_ok (h τ) j).use ⟨_, rfl, ?_⟩
   rw [show c.Approach j = c.approach x by rw [Cf.Approach, show geti c.Rts j = some x by unfold geti; rw [if_neg (by omega), Int.toNat_natCast]; exact hx]; rfl]
   refine (ref06_Flank_ok h _ q1 (by omega)).mono ?_
   rintro r1 s1 ⟨rfl, d, rfl, hd⟩
   refine ⟨d, rfl, (ref06_SameNeeds_ok (q2 _) (hd _)).use ⟨_, rfl, bcnot (fun k6 => err 10 (by decide) ?_) (fun k6 => (ref06_Overlap_ok h x q1 (by omega)).mono ?_)⟩⟩
   · rw [Cf.route, if_neg (by rw [k5]; simp), if_pos (of_decide_eq_false k6)]
   rintro r2 s2 ⟨rfl, d', rfl, hd'⟩
   have e2 := of_decide_eq_true k6
   refine ⟨d', rfl, (ref06_sameInts_ok (q3 _) (hd' _)).use ⟨_, rfl, bcnot (fun k7 => err 11 (by decide) ?_) (fun k7 => ?_)⟩⟩
   · rw [Cf.route, if_neg (by rw [k5]; simp), if_neg (fun hn => hn e2), if_pos (of_decide_eq_false k7)]
   · have h0 : c.route x = 0 := by rw [Cf.route, if_neg (by rw [k5]; simp), if_neg (fun hn => hn e2), if_neg (fun hn => hn (of_decide_eq_true k7))]
     rw [if_neg (by simp [h0])] at hF
     exact andl rfl (nx _ hF)
 · have hF : 0 = c.routes c.Rts := hr.done hlen hge
   rw [← hF, if_neg (by simp)] at hck
   have bad : ¬ (((1 ≤ c.Age ∧ c.Age ≤ 8) ∧ (0 ≤ c.Brake ∧ c.Brake ≤ 8)) ∧ (c.Age + c.Brake + 1 ≤ c.Hold ∧ c.Hold ≤ 40) ∧ (1 ≤ c.Budget ∧ c.Budget ≤ 1000000)) → (RV.a (iA 12) = .a (iA c.check) ∧ τ = τ) := fun hn => by
     rw [hck, if_neg (fun e => hn (by simpa [Cf.timing, and_assoc] using e))]; exact ⟨rfl, rfl⟩
   refine bcd (fun e => bad fun g => by omega) (fun t1 => bcd (fun e => bad fun g => by omega) (fun t2 => bcd (fun e => bad fun g => by omega) (fun t3 => bcd (fun e => bad fun g => by omega) (fun t4 => ?_))))
   rw [w64_id (n := c.Age + c.Brake) (by omega) (by omega), w64_id (n := c.Age + c.Brake + 1) (by omega) (by omega)]
   refine bcd (fun e => bad fun g => by omega) (fun t5 => bcd (fun e => bad fun g => by omega) (fun t6 => bcd (fun e => bad fun g => by omega) (fun t7 => bcd (fun e => bad fun g => by omega) (fun t8 => ⟨?_, rfl⟩))))
   rw [hck, if_pos]
   simp only [Cf.timing, Bool.and_eq_true, decide_eq_true_eq]
   omega
end
end
section
variable {σ : Store}
section
variable {σ0 : Store} {d0 d1 d2 d3 d4 d5 : D} {k : Co}
theorem ext_other {s s' : Store} {i : Nat} (he : Ext σ0 s) (hf : σ0 i = .free) (hs : ∀ j, j ≠ i → s' j = s j) : Ext σ0 s' := fun j hj => by
 rw [hs j (fun e => hj (by rw [e]; exact hf))]; exact he j hj
end
end
section
variable {σ σ0 : Store} {d0 d1 d2 d3 d4 d5 : D} {k : Co}
theorem copy_ok {t : TypeId} {bytes : Nat} {d : D} {rows : List (List D)} {K : D → Store → Prop} (h : At Tryz.prog σ t d rows) (hb : bytes * rows.length ≤ 140737488355328)
   (hK : ∀ d' s, Own Tryz.prog σ s t d' rows → K d' s) : Fw.newObj σ (.live t []) fun id σ' => appendTo Tryz.prog σ' t bytes (.osl id 0 0) d K := by
 refine newObj_intro fun id s hid _ he hs => ?_
 have ho : Own Tryz.prog σ s t (.osl id 0 0) [] := .at_new hid he hs (by simp) rfl
 exact ho.append (h.ext he) (by simpa using hb) (by have := h.size; simpa using this) fun d' s' ho' _ _ => hK _ _ (by simpa using ho')
structure CoIn (σ0 σ : Store) (id : Nat) (t : TypeId) (pre post : List D) (d0 d1 d2 d3 d4 d5 : D) (k : Co) : Prop where
 new : σ0 id = .free
 row : σ id = .live t [pre ++ ([d0, d1, d2, d3, d4, d5, .bool k.Dirty] ++ post)]
 co : CoOwn σ0 σ d0 d1 d2 d3 d4 d5 k
 ids : ∀ d ∈ [d0, d1, d2, d3, d4, d5], idOf d ≠ some id
theorem CoIn.ext {id t pre post} (h : CoIn σ0 σ id t pre post d0 d1 d2 d3 d4 d5 k) : Ext σ0 σ := h.co.own.ext
theorem CoIn.at {id t pre post} (h : CoIn σ0 σ id t pre post d0 d1 d2 d3 d4 d5 k) : CoAt σ d0 d1 d2 d3 d4 d5 k := h.co.at
theorem CoIn.dirty {id t pre post} (h : CoIn σ0 σ id t pre post d0 d1 d2 d3 d4 d5 k) {b : Bool} {off : Nat} (ho : off = pre.length + 6) {K : Store → Prop}
   (hK : ∀ s', CoIn σ0 s' id t pre post d0 d1 d2 d3 d4 d5 { k with Dirty := b } → (∀ i, i ≠ id → s' i = σ i) → K s') : storeEl [.bool b] σ (.osl id 0 1) 0 off K := by
 refine cell_store h.row (by subst ho; simp; omega) fun s' hs hs' => hK s' ?_ hs'
 have al : ∀ {d : D} {el : TypeId} {rs : List (List D)}, d ∈ [d0, d1, d2, d3, d4, d5] → Own Tryz.prog σ0 σ el d rs → Own Tryz.prog σ0 s' el d rs := fun hd g => own_other g h.new (h.ids _ hd) hs'
 refine ⟨h.new, ?_, ⟨al (by simp) h.co.own, al (by simp) h.co.routes, al (by simp) h.co.points, al (by simp) h.co.xs, al (by simp) h.co.lines, al (by simp) h.co.resets, h.co.apart⟩, h.ids⟩
 rw [hs]
 have e : patch (pre ++ ([d0, d1, d2, d3, d4, d5, .bool k.Dirty] ++ post)) off [.bool b] = pre ++ ([d0, d1, d2, d3, d4, d5, .bool b] ++ post) := by
   subst ho
   unfold patch
   rw [List.take_length_add_append, List.length_singleton, Nat.add_assoc, List.drop_length_add_append]
   rw [List.append_assoc, List.append_assoc]; rfl
 rw [e]
theorem CoOwn.putO (h : CoOwn σ0 σ d0 d1 d2 d3 d4 d5 k) {j n off : Nat} {x y : Int} {ys : List D} (hj : k.Own[j]? = some x) (hn : n = j) (ho : off + ys.length ≤ 1) (hp : patch (Go.Fw.encI x) off ys = Go.Fw.encI y) {K : Store → Prop}
   (hK : ∀ s', CoOwn σ0 s' d0 d1 d2 d3 d4 d5 { k with Own := k.Own.set j y } → (∀ i, idOf d0 ≠ some i → s' i = σ i) → K s') : storeEl ys σ d0 n off K := by
 refine h.own.at_.store h.own.nsl (map_get hj) hn ho fun s' i hi hat hs hne => hK s' ?_ fun i' hi' => hs i' fun e => hi' (by rw [e]; exact hi)
 have hf := own_id h.own hi
 have ap : ∀ {m : Nat} {d : D}, [d0, d1, d2, d3, d4, d5][m]? = some d → m ≠ 0 → idOf d ≠ some i := fun hm hne0 => pw h.apart (i := 0) rfl hm (Ne.symm hne0) i hi
 refine ⟨⟨?_, ext_other h.own.ext hf hs, h.own.new, h.own.nsl, h.own.nz⟩, own_other h.routes hf (ap (m := 1) rfl (by omega)) hs, own_other h.points hf (ap (m := 2) rfl (by omega)) hs, own_other h.xs hf (ap (m := 3) rfl (by omega)) hs, own_other h.lines hf (ap (m := 4) rfl (by omega)) hs, own_other h.resets hf (ap (m := 5) rfl (by omega)) hs, h.apart⟩
 rw [hp, map_set (Go.Fw.encI) k.Own j y] at hat; exact hat
theorem CoIn.putO {id t pre post} (h : CoIn σ0 σ id t pre post d0 d1 d2 d3 d4 d5 k) {j n off : Nat} {x y : Int} {ys : List D} (hj : k.Own[j]? = some x) (hn : n = j) (ho : off + ys.length ≤ 1) (hp : patch (Go.Fw.encI x) off ys = Go.Fw.encI y) {K : Store → Prop}
   (hK : ∀ s', CoIn σ0 s' id t pre post d0 d1 d2 d3 d4 d5 { k with Own := k.Own.set j y } → (∀ i, idOf d0 ≠ some i → s' i = σ i) → K s') : storeEl ys σ d0 n off K :=
 h.co.putO hj hn ho hp fun s' h' hs => hK s' ⟨h.new, (hs id (h.ids _ (by simp))).trans h.row, h', h.ids⟩ hs
theorem CoOwn.putR (h : CoOwn σ0 σ d0 d1 d2 d3 d4 d5 k) {j n off : Nat} {x y : Rs} {ys : List D} (hj : k.Routes[j]? = some x) (hn : n = j) (ho : off + ys.length ≤ 4) (hp : patch (Rs.enc x) off ys = Rs.enc y) {K : Store → Prop}
   (hK : ∀ s', CoOwn σ0 s' d0 d1 d2 d3 d4 d5 { k with Routes := k.Routes.set j y } → (∀ i, idOf d1 ≠ some i → s' i = σ i) → K s') : storeEl ys σ d1 n off K := by
 refine h.routes.at_.store h.routes.nsl (map_get hj) hn ho fun s' i hi hat hs hne => hK s' ?_ fun i' hi' => hs i' fun e => hi' (by rw [e]; exact hi)
 have hf := own_id h.routes hi
 have ap : ∀ {m : Nat} {d : D}, [d0, d1, d2, d3, d4, d5][m]? = some d → m ≠ 1 → idOf d ≠ some i := fun hm hne0 => pw h.apart (i := 1) rfl hm (Ne.symm hne0) i hi
 refine ⟨own_other h.own hf (ap (m := 0) rfl (by omega)) hs, ⟨?_, ext_other h.routes.ext hf hs, h.routes.new, h.routes.nsl, h.routes.nz⟩, own_other h.points hf (ap (m := 2) rfl (by omega)) hs, own_other h.xs hf (ap (m := 3) rfl (by omega)) hs, own_other h.lines hf (ap (m := 4) rfl (by omega)) hs, own_other h.resets hf (ap (m := 5) rfl (by omega)) hs, h.apart⟩
 rw [hp, map_set (Rs.enc) k.Routes j y] at hat; exact hat
theorem CoIn.putR {id t pre post} (h : CoIn σ0 σ id t pre post d0 d1 d2 d3 d4 d5 k) {j n off : Nat} {x y : Rs} {ys : List D} (hj : k.Routes[j]? = some x) (hn : n = j) (ho : off + ys.length ≤ 4) (hp : patch (Rs.enc x) off ys = Rs.enc y) {K : Store → Prop}
   (hK : ∀ s', CoIn σ0 s' id t pre post d0 d1 d2 d3 d4 d5 { k with Routes := k.Routes.set j y } → (∀ i, idOf d1 ≠ some i → s' i = σ i) → K s') : storeEl ys σ d1 n off K :=
 h.co.putR hj hn ho hp fun s' h' hs => hK s' ⟨h.new, (hs id (h.ids _ (by simp))).trans h.row, h', h.ids⟩ hs
theorem CoOwn.putP (h : CoOwn σ0 σ d0 d1 d2 d3 d4 d5 k) {j n off : Nat} {x y : Mv} {ys : List D} (hj : k.Points[j]? = some x) (hn : n = j) (ho : off + ys.length ≤ 2) (hp : patch (Mv.enc x) off ys = Mv.enc y) {K : Store → Prop}
   (hK : ∀ s', CoOwn σ0 s' d0 d1 d2 d3 d4 d5 { k with Points := k.Points.set j y } → (∀ i, idOf d2 ≠ some i → s' i = σ i) → K s') : storeEl ys σ d2 n off K := by
 refine h.points.at_.store h.points.nsl (map_get hj) hn ho fun s' i hi hat hs hne => hK s' ?_ fun i' hi' => hs i' fun e => hi' (by rw [e]; exact hi)
 have hf := own_id h.points hi
 have ap : ∀ {m : Nat} {d : D}, [d0, d1, d2, d3, d4, d5][m]? = some d → m ≠ 2 → idOf d ≠ some i := fun hm hne0 => pw h.apart (i := 2) rfl hm (Ne.symm hne0) i hi
 refine ⟨own_other h.own hf (ap (m := 0) rfl (by omega)) hs, own_other h.routes hf (ap (m := 1) rfl (by omega)) hs, ⟨?_, ext_other h.points.ext hf hs, h.points.new, h.points.nsl, h.points.nz⟩, own_other h.xs hf (ap (m := 3) rfl (by omega)) hs, own_other h.lines hf (ap (m := 4) rfl (by omega)) hs, own_other h.resets hf (ap (m := 5) rfl (by omega)) hs, h.apart⟩
 rw [hp, map_set (Mv.enc) k.Points j y] at hat; exact hat
theorem CoIn.putP {id t pre post} (h : CoIn σ0 σ id t pre post d0 d1 d2 d3 d4 d5 k) {j n off : Nat} {x y : Mv} {ys : List D} (hj : k.Points[j]? = some x) (hn : n = j) (ho : off + ys.length ≤ 2) (hp : patch (Mv.enc x) off ys = Mv.enc y) {K : Store → Prop}
   (hK : ∀ s', CoIn σ0 s' id t pre post d0 d1 d2 d3 d4 d5 { k with Points := k.Points.set j y } → (∀ i, idOf d2 ≠ some i → s' i = σ i) → K s') : storeEl ys σ d2 n off K :=
 h.co.putP hj hn ho hp fun s' h' hs => hK s' ⟨h.new, (hs id (h.ids _ (by simp))).trans h.row, h', h.ids⟩ hs
theorem CoOwn.putX (h : CoOwn σ0 σ d0 d1 d2 d3 d4 d5 k) {j n off : Nat} {x y : Mv} {ys : List D} (hj : k.Xs[j]? = some x) (hn : n = j) (ho : off + ys.length ≤ 2) (hp : patch (Mv.enc x) off ys = Mv.enc y) {K : Store → Prop}
   (hK : ∀ s', CoOwn σ0 s' d0 d1 d2 d3 d4 d5 { k with Xs := k.Xs.set j y } → (∀ i, idOf d3 ≠ some i → s' i = σ i) → K s') : storeEl ys σ d3 n off K := by
 refine h.xs.at_.store h.xs.nsl (map_get hj) hn ho fun s' i hi hat hs hne => hK s' ?_ fun i' hi' => hs i' fun e => hi' (by rw [e]; exact hi)
 have hf := own_id h.xs hi
 have ap : ∀ {m : Nat} {d : D}, [d0, d1, d2, d3, d4, d5][m]? = some d → m ≠ 3 → idOf d ≠ some i := fun hm hne0 => pw h.apart (i := 3) rfl hm (Ne.symm hne0) i hi
 refine ⟨own_other h.own hf (ap (m := 0) rfl (by omega)) hs, own_other h.routes hf (ap (m := 1) rfl (by omega)) hs, own_other h.points hf (ap (m := 2) rfl (by omega)) hs, ⟨?_, ext_other h.xs.ext hf hs, h.xs.new, h.xs.nsl, h.xs.nz⟩, own_other h.lines hf (ap (m := 4) rfl (by omega)) hs, own_other h.resets hf (ap (m := 5) rfl (by omega)) hs, h.apart⟩
 rw [hp, map_set (Mv.enc) k.Xs j y] at hat; exact hat
theorem CoIn.putX {id t pre post} (h : CoIn σ0 σ id t pre post d0 d1 d2 d3 d4 d5 k) {j n off : Nat} {x y : Mv} {ys : List D} (hj : k.Xs[j]? = some x) (hn : n = j) (ho : off + ys.length ≤ 2) (hp : patch (Mv.enc x) off ys = Mv.enc y) {K : Store → Prop}
   (hK : ∀ s', CoIn σ0 s' id t pre post d0 d1 d2 d3 d4 d5 { k with Xs := k.Xs.set j y } → (∀ i, idOf d3 ≠ some i → s' i = σ i) → K s') : storeEl ys σ d3 n off K :=
 h.co.putX hj hn ho hp fun s' h' hs => hK s' ⟨h.new, (hs id (h.ids _ (by simp))).trans h.row, h', h.ids⟩ hs
theorem CoOwn.putL (h : CoOwn σ0 σ d0 d1 d2 d3 d4 d5 k) {j n off : Nat} {x y : Ls} {ys : List D} (hj : k.Lines[j]? = some x) (hn : n = j) (ho : off + ys.length ≤ 8) (hp : patch (Ls.enc x) off ys = Ls.enc y) {K : Store → Prop}
   (hK : ∀ s', CoOwn σ0 s' d0 d1 d2 d3 d4 d5 { k with Lines := k.Lines.set j y } → (∀ i, idOf d4 ≠ some i → s' i = σ i) → K s') : storeEl ys σ d4 n off K := by
 refine h.lines.at_.store h.lines.nsl (map_get hj) hn ho fun s' i hi hat hs hne => hK s' ?_ fun i' hi' => hs i' fun e => hi' (by rw [e]; exact hi)
 have hf := own_id h.lines hi
 have ap : ∀ {m : Nat} {d : D}, [d0, d1, d2, d3, d4, d5][m]? = some d → m ≠ 4 → idOf d ≠ some i := fun hm hne0 => pw h.apart (i := 4) rfl hm (Ne.symm hne0) i hi
 refine ⟨own_other h.own hf (ap (m := 0) rfl (by omega)) hs, own_other h.routes hf (ap (m := 1) rfl (by omega)) hs, own_other h.points hf (ap (m := 2) rfl (by omega)) hs, own_other h.xs hf (ap (m := 3) rfl (by omega)) hs, ⟨?_, ext_other h.lines.ext hf hs, h.lines.new, h.lines.nsl, h.lines.nz⟩, own_other h.resets hf (ap (m := 5) rfl (by omega)) hs, h.apart⟩
 rw [hp, map_set (Ls.enc) k.Lines j y] at hat; exact hat
theorem CoIn.putL {id t pre post} (h : CoIn σ0 σ id t pre post d0 d1 d2 d3 d4 d5 k) {j n off : Nat} {x y : Ls} {ys : List D} (hj : k.Lines[j]? = some x) (hn : n = j) (ho : off + ys.length ≤ 8) (hp : patch (Ls.enc x) off ys = Ls.enc y) {K : Store → Prop}
   (hK : ∀ s', CoIn σ0 s' id t pre post d0 d1 d2 d3 d4 d5 { k with Lines := k.Lines.set j y } → (∀ i, idOf d4 ≠ some i → s' i = σ i) → K s') : storeEl ys σ d4 n off K :=
 h.co.putL hj hn ho hp fun s' h' hs => hK s' ⟨h.new, (hs id (h.ids _ (by simp))).trans h.row, h', h.ids⟩ hs
end
end Go.Proofs.YtdlnbehcnfjneaaGreat
namespace Go.Fw
section
section
variable {occ : List Lk} {now : Int} {was may : Bool} {x : Ls} {o : Int} {s : Nat} {lk : Lk}
end
structure SameBut (k k' : Co) (l s : Nat) : Prop where
 routes : k'.Routes = k.Routes
 lines : ∀ m, m ≠ l → k'.Lines[m]? = k.Lines[m]?
 own : ∀ t, t ≠ s → k'.Own[t]? = k.Own[t]?
end
section
def apprS (c : Cf) (l : List Int) : List Rs → Nat → Bool
 | [], _ => false
 | r :: rs, j => (decide (r.State ≠ 0) && inL l (c.Approach j)) || apprS c l rs (j + 1)
end
end Go.Fw
section
namespace Go.Fw
structure StOk (c : Cf) (r : Rt) (s : St) : Prop where
 sec : ∃ y, geti c.Secs s.Sec = some y ∧ (wpos (wayL y.Kind) s.In s.Out).isSome = true ∧ (r.Shunt = true → y.Line = 0)
theorem prunA_facts {c : Cf} (ht : topoOk c.Secs c.Jts = true) (r : Rt) (ex : Option Sg) : ∀ (l : List St) (a : Sg) (seen : List Int), prunA c r ex l a seen = true →
   (∀ s ∈ l, StOk c r s ∧ s.Sec ∉ seen) ∧ (l.map St.Sec).Nodup
 | [], a, seen, _ => ⟨fun s hs => by simp at hs, by simp⟩
 | s :: rest, a, seen, h => by
   rw [prunA, Bool.and_eq_true] at h
   obtain ⟨h1, h2⟩ := h
   obtain ⟨q1, q2⟩ := prunA_facts ht r ex rest _ _ h2
   unfold pstep at h1
   cases hn : nxt c.Jts a.Sec a.End_ with
   | none => rw [hn] at h1; cases h1
   | some p =>
     obtain ⟨q, i⟩ := p
     rw [hn] at h1
     obtain ⟨y, hy⟩ := nxt_sec ht hn
     simp only [hy, Option.getD_some, Bool.and_eq_true, decide_eq_true_eq, Bool.not_eq_true'] at h1
     obtain ⟨⟨⟨⟨⟨rfl, e2⟩, e3⟩, e4⟩, e5⟩, e6⟩ := h1
     refine ⟨fun x hx => ?_, ?_⟩
     · rcases List.mem_cons.1 hx with rfl | hx
       · refine ⟨⟨y, hy, e3, fun hs => ?_⟩, e4⟩
         rw [hs, Bool.true_and, decide_eq_false_iff_not] at e6
         exact Decidable.not_not.1 e6
       · obtain ⟨w1, w2⟩ := q1 x hx
         exact ⟨w1, fun hm => w2 (List.mem_cons_of_mem _ hm)⟩
     · rw [List.map_cons, List.nodup_cons]
       refine ⟨fun hm => ?_, q2⟩
       obtain ⟨x, hx, e⟩ := List.mem_map.1 hm
       exact (q1 x hx).2 (by rw [e]; simp)
structure RtOk (c : Cf) (r : Rt) : Prop where
 entry : ∃ a, geti c.Sigs r.Entry = some a
 exit_ : r.Exit = -1 ∨ ∃ x, geti c.Sigs r.Exit = some x
 len : 1 ≤ r.Path.length ∧ r.Path.length ≤ 8
 step : ∀ s ∈ r.Path, StOk c r s ∧ s.Sec ≠ c.approach r
 dup : (r.Path.map St.Sec).Nodup
 flank : r.Flank = c.flank (c.approach r) r.Path
 over : r.Overlap = c.overlap r
theorem routes_zero {c : Cf} : ∀ {l : List Rt}, c.routes l = 0 → ∀ r ∈ l, c.route r = 0
 | [], _, r, hr => by simp at hr
 | x :: l, h, r, hr => by
   rw [Cf.routes] at h
   split at h
   · rename_i hne; exact absurd h hne
   · rename_i he
     rcases List.mem_cons.1 hr with rfl | hr
     · simpa using he
     · exact routes_zero h r hr
theorem check_parts {c : Cf} (h : c.check = 0) : topoOk c.Secs c.Jts = true ∧ c.sigsOk = true ∧ c.xsOk = true ∧ c.Rts.length ≤ 12 ∧ c.routes c.Rts = 0 ∧ c.timing = true := by
 unfold Cf.check at h
 split at h
 · cases h
 split at h
 · cases h
 split at h
 · cases h
 split at h
 · cases h
 split at h
 · rename_i hne; exact absurd h hne
 split at h
 · rename_i h1 h2 h3 h4 h5 h6
   exact ⟨by simpa using h1, by simpa using h2, by simpa using h3, by omega, by simpa using h5, h6⟩
 · cases h
theorem path_ok {c : Cf} (ht : topoOk c.Secs c.Jts = true) {r : Rt} (h : c.route r = 0) : RtOk c r := by
 unfold Cf.route at h
 split at h
 · cases h
 split at h
 · cases h
 split at h
 · cases h
 rename_i h1 h2 h3
 have h1 : c.path r = true := by simpa using h1
 unfold Cf.path at h1
 cases hg : geti c.Sigs r.Entry with
 | none => rw [hg] at h1; cases h1
 | some a =>
   rw [hg] at h1
   simp only [Bool.and_eq_true, Bool.or_eq_true, decide_eq_true_eq] at h1
   obtain ⟨⟨e1, e2⟩, e3⟩ := h1
   obtain ⟨q1, q2⟩ := prunA_facts ht r _ _ _ _ e3
   have ha : c.approach r = a.Sec := by rw [Cf.approach, hg]; rfl
   refine ⟨⟨a, hg⟩, e1.imp id Option.isSome_iff_exists.1, e2, fun s hs => ⟨(q1 s hs).1, fun e => (q1 s hs).2 (by rw [e, ha]; simp)⟩, q2, Decidable.not_not.1 h2, Decidable.not_not.1 h3⟩
theorem check_rt {c : Cf} (h : c.check = 0) {r : Rt} (hr : r ∈ c.Rts) : RtOk c r := by
 obtain ⟨h1, _, _, _, h5, _⟩ := check_parts h
 exact path_ok h1 (routes_zero h5 r hr)
structure NdOk (c : Cf) (a : Int) (path : List St) (n : Nd) : Prop where
 sec : ∃ y, geti c.Secs n.Sec = some y ∧ y.Kind = 1
 pos : 1 ≤ n.Pos ∧ n.Pos ≤ 2
 app : n.Sec ≠ a
 path : hasSec path n.Sec = false
def FlOk (c : Cf) (a : Int) (path : List St) (out : List Nd) : Prop := (∀ n ∈ out, NdOk c a path n) ∧ (out.map Nd.Sec).Nodup
theorem flankStep_ok {c : Cf} {a : Int} {p : List St} {s : St} {out : List Nd} {e : Int} (h : FlOk c a p out) : FlOk c a p (flankStep c a p s out e) := by
 unfold flankStep
 split
 · exact h
 · split
   · exact h
   · split
     · exact h
     · rename_i y hy
       split
       · rename_i hc
         obtain ⟨c1, c2, c3, c4, c5⟩ := hc
         refine ⟨fun n hn => ?_, ?_⟩
         · rcases List.mem_append.1 hn with hn | hn
           · exact h.1 n hn
           · rw [List.mem_singleton] at hn; subst hn
             exact ⟨⟨y, hy, c1⟩, by simp only; omega, c3, c4⟩
         · rw [List.map_append, List.nodup_append]
           refine ⟨h.2, by simp, fun x hx z hz => ?_⟩
           simp only [List.map_cons, List.map_nil, List.mem_singleton] at hz
           subst hz
           intro e
           obtain ⟨n, hn, e2⟩ := List.mem_map.1 hx
           rw [List.any_eq_false] at c5
           exact c5 n hn (by rw [e2, e]; simp)
       · exact h
theorem flankEnds_ok {c : Cf} {a : Int} {p : List St} {s : St} : ∀ (n : Nat) (e : Int) (out : List Nd), FlOk c a p out → FlOk c a p (flankEnds c a p s n e out)
 | 0, _, _, h => h
 | n + 1, e, out, h => by rw [flankEnds]; exact flankEnds_ok n _ _ (flankStep_ok h)
theorem flankRun_ok {c : Cf} {a : Int} {p : List St} : ∀ (l : List St) (out : List Nd), FlOk c a p out → FlOk c a p (flankRun c a p l out)
 | [], _, h => h
 | s :: r, out, h => by
   rw [flankRun]
   refine flankRun_ok r _ ?_
   split
   · exact h
   · exact flankEnds_ok _ _ _ h
theorem flank_ok (c : Cf) (a : Int) (p : List St) : FlOk c a p (c.flank a p) := flankRun_ok p [] ⟨fun n h => by simp at h, by simp⟩
theorem flank_len (c : Cf) (a : Int) (p : List St) : (c.flank a p).length ≤ 4 * p.length := by
 have := (flankRun_len c a p p []).2
 simpa [Cf.flank] using this
theorem over_ok {c : Cf} {r : Rt} {q : Int} (h : q ∈ c.overlap r) : (∃ y, geti c.Secs q = some y ∧ y.Line = 0) ∧ hasSec r.Path q = false ∧ q ≠ c.approach r := by
 unfold Cf.overlap at h
 split at h
 · simp at h
 split at h
 · simp at h
 split at h
 · simp at h
 split at h
 · simp at h
 rename_i y hy
 split at h
 · rename_i hc
   rw [List.mem_singleton] at h; subst h
   exact ⟨⟨y, hy, hc.1⟩, hc.2.1, hc.2.2⟩
 · simp at h
theorem over_len (c : Cf) (r : Rt) : (c.overlap r).length ≤ 1 := by
 unfold Cf.overlap
 split
 · simp
 split
 · simp
 split
 · simp
 split
 · simp
 split <;> simp
theorem RtOk.fl {c : Cf} {r : Rt} (h : RtOk c r) : FlOk c (c.approach r) r.Path r.Flank := by rw [h.flank]; exact flank_ok _ _ _
theorem RtOk.flen {c : Cf} {r : Rt} (h : RtOk c r) : r.Flank.length ≤ 32 := by
 rw [h.flank]; have := flank_len c (c.approach r) r.Path; have := h.len; omega
theorem RtOk.olen {c : Cf} {r : Rt} (h : RtOk c r) : r.Overlap.length ≤ 1 := by rw [h.over]; exact over_len _ _
theorem RtOk.ov {c : Cf} {r : Rt} (h : RtOk c r) {q : Int} (hq : q ∈ r.Overlap) : (∃ y, geti c.Secs q = some y ∧ y.Line = 0) ∧ hasSec r.Path q = false ∧ q ≠ c.approach r := by rw [h.over] at hq; exact over_ok hq
theorem check_xs {c : Cf} (h : c.check = 0) : (∀ x ∈ c.Xs, ∃ s, geti c.Secs x = some s ∧ s.Line = 0) ∧ c.Xs.Nodup ∧ c.Xs.length ≤ 4 := by
 obtain ⟨_, _, h3, _⟩ := check_parts h
 rw [Cf.xsOk, Bool.and_eq_true, xrun_iff] at h3
 exact ⟨h3.1.1, h3.1.2.1, of_decide_eq_true h3.2⟩
theorem geti_nat {α : Type} {l : List α} {j : Nat} : geti l (j : Int) = l[j]? := by unfold geti; rw [if_neg (by omega), Int.toNat_natCast]
end Go.Fw
namespace Go.Fw
end Go.Fw
end
namespace Go.Fw
section
def zRt : Rt := ⟨0, 0, [], [], [], false⟩
def Cf.rt (c : Cf) (i : Int) : Rt := (geti c.Rts i).getD zRt
def needOf (c : Cf) (s : St) : Option Nd :=
 match geti c.Secs s.Sec with
 | none => none
 | some y => match wpos (wayL y.Kind) s.In s.Out with
   | none => none
   | some p => if p = 0 then none else some ⟨s.Sec, p⟩
def Cf.needs (c : Cf) (r : Rt) : List Nd := r.Path.filterMap (needOf c) ++ r.Flank
def Cf.Needs (c : Cf) (i : Int) : List Nd := c.needs (c.rt i)
def crossL (path : List St) : List Int → Nat → List Int
 | [], _ => []
 | x :: r, j => if hasSec path x = true then (j : Int) :: crossL path r (j + 1) else crossL path r (j + 1)
def Cf.Cross (c : Cf) (i : Int) : List Int := crossL (c.rt i).Path c.Xs 0
theorem rt_some {c : Cf} {i : Int} {r : Rt} (h : geti c.Rts i = some r) : c.rt i = r := by unfold Cf.rt; rw [h]; rfl
theorem rt_none {c : Cf} {i : Int} (h : geti c.Rts i = none) : c.rt i = zRt := by unfold Cf.rt; rw [h]; rfl
theorem crossL_len (path : List St) : ∀ (l : List Int) (j : Nat), (crossL path l j).length ≤ l.length
 | [], _ => by simp [crossL]
 | x :: r, j => by
   rw [crossL]; have := crossL_len path r (j + 1)
   split <;> simp <;> omega
theorem crossL_mem (path : List St) : ∀ (l : List Int) (j : Nat) (n : Int), n ∈ crossL path l j → ∃ (i : Nat) (x : Int), n = ((j + i : Nat) : Int) ∧ l[i]? = some x ∧ hasSec path x = true
 | [], j, n, h => by simp [crossL] at h
 | x :: r, j, n, h => by
   have go : n ∈ crossL path r (j + 1) → ∃ (i : Nat) (y : Int), n = ((j + i : Nat) : Int) ∧ (x :: r)[i]? = some y ∧ hasSec path y = true := fun h => by
     obtain ⟨i, y, h1, h2, h3⟩ := crossL_mem path r (j + 1) n h
     exact ⟨i + 1, y, by omega, by simpa using h2, h3⟩
   rw [crossL] at h
   split at h
   · rename_i hx
     rcases List.mem_cons.1 h with rfl | h
     · exact ⟨0, x, by simp, rfl, hx⟩
     · exact go h
   · exact go h
theorem needs_len (c : Cf) (r : Rt) : (c.needs r).length ≤ r.Path.length + r.Flank.length := by
 unfold Cf.needs
 rw [List.length_append]
 have := List.length_filterMap_le (needOf c) r.Path
 omega
theorem needs_sec {c : Cf} {r : Rt} (h : RtOk c r) {n : Nd} (hn : n ∈ c.needs r) : (∃ y, geti c.Secs n.Sec = some y) ∧ 1 ≤ n.Pos ∧ n.Pos ≤ 2 := by
 unfold Cf.needs at hn
 rcases List.mem_append.1 hn with hn | hn
 · obtain ⟨s, hs, e⟩ := List.mem_filterMap.1 hn
   obtain ⟨⟨y, hy, _⟩⟩ := (h.step s hs).1
   unfold needOf at e
   rw [hy] at e
   simp only at e
   cases hp : wpos (wayL y.Kind) s.In s.Out with
   | none => rw [hp] at e; cases e
   | some p =>
     rw [hp] at e
     simp only at e
     split at e
     · cases e
     · rename_i hp0
       injection e with e; subst e
       refine ⟨⟨y, hy⟩, ?_⟩
       have key : ∀ (l : List (Int × Int × Int)), (∀ w ∈ l, w.2.2 = 0 ∨ w.2.2 = 1 ∨ w.2.2 = 2) → ∀ p, wpos l s.In s.Out = some p → p = 0 ∨ p = 1 ∨ p = 2 := by
         intro l
         induction l with
         | nil => intro _ p h; cases h
         | cons w r ih =>
           intro hw p h
           rw [wpos] at h
           split at h
           · injection h with h; rw [← h]; exact hw w (by simp)
           · exact ih (fun w hw' => hw w (by simp [hw'])) p h
       have hw : ∀ w ∈ wayL y.Kind, w.2.2 = 0 ∨ w.2.2 = 1 ∨ w.2.2 = 2 := by
         unfold wayL
         split
         · simp
         split
         · simp
         split
         · simp
         · simp
       have := key _ hw p hp
       simp only
       omega
 · have := h.fl.1 n hn
   obtain ⟨y, hy, _⟩ := this.sec
   exact ⟨⟨y, hy⟩, this.pos⟩
end
end Go.Fw
namespace Go.Proofs.YtdlnbehcnfjneaaGreat
open Go.Fw Go.Proofs Go.RowKit
section
variable {σ : Store}
section
variable {c0 c1 c2 c3 c4 : D} {c : Cf} (h : ∀ s, CfAt s c0 c1 c2 c3 c4 c)
include h
theorem rt_frz {i : Nat} {x : Rt} (hx : c.Rts[i]? = some x) : ∃ rows d1 d2 d3, (∀ s, At Tryz.prog s t_Route c4 rows) ∧ rows.length = c.Rts.length ∧ rows[i]? = some [iD x.Entry, iD x.Exit, d1, d2, d3, .bool x.Shunt] ∧
   (∀ s, At Tryz.prog s t_Step d1 (x.Path.map St.enc)) ∧ (∀ s, At Tryz.prog s t_Need d2 (x.Flank.map Nd.enc)) ∧ (∀ s, At Tryz.prog s t_int d3 (x.Overlap.map Go.Fw.encI)) := by
 obtain ⟨rows, hat, hlen, hrow⟩ := rts_froz fun s => (h s).rts
 obtain ⟨row, hrw⟩ := get_of_lt (l := rows) (j := i) (by have := (List.getElem?_eq_some_iff.1 hx).1; omega)
 obtain ⟨d1, d2, d3, rfl, q1, q2, q3⟩ := hrow i row x hrw hx
 exact ⟨rows, d1, d2, d3, hat, hlen, hrw, q1, q2, q3⟩
theorem mover_route_ok (i : Int) : DCalls Tryz.prog n_mover_route [cfA c0 c1 c2 c3 c4 c, iA i] σ fun r s => s = σ ∧ ∃ d1 d2 d3, r = .tup [rtA d1 d2 d3 (c.rt i), bA (geti c.Rts i).isSome] ∧
   (∀ s, At Tryz.prog s t_Step d1 ((c.rt i).Path.map St.enc)) ∧ (∀ s, At Tryz.prog s t_Need d2 ((c.rt i).Flank.map Nd.enc)) ∧ (∀ s, At Tryz.prog s t_int d3 ((c.rt i).Overlap.map Go.Fw.encI)) := by
 have no : geti c.Rts i = none → (σ = σ ∧ ∃ d1 d2 d3, RV.tup [.agg [iD 0, iD 0, .nils, .nils, .nils, .bool false], bA false] = .tup [rtA d1 d2 d3 (c.rt i), bA (geti c.Rts i).isSome] ∧
   (∀ s, At Tryz.prog s t_Step d1 ((c.rt i).Path.map St.enc)) ∧ (∀ s, At Tryz.prog s t_Need d2 ((c.rt i).Flank.map Nd.enc)) ∧ (∀ s, At Tryz.prog s t_int d3 ((c.rt i).Overlap.map Go.Fw.encI))) := fun e => by
   rw [rt_none e, e]
   exact ⟨rfl, _, _, _, rfl, fun _ => .nil, fun _ => .nil, fun _ => .nil⟩
 obtain ⟨rows, hat, hlen⟩ := rts_len (h σ)
 refine W_mover_route _ _ _ _ _ _ _ _ _ i σ _ (bcd (fun e => no (geti_neg e)) (fun e0 => hat.lenK (bcd (fun e => no (geti_ge (by omega))) (fun e1 => ?_))))
 obtain ⟨x, hx⟩ := geti_ex (l := c.Rts) (i := i) e0 (by omega)
 obtain ⟨rows, d1, d2, d3, hat, hlen, hrow, q1, q2, q3⟩ := rt_frz h (geti_some hx).2.2
 refine (hat σ).load hrow c_Route (by omega) ⟨_, _, _, _, _, _, rfl, ?_⟩
 rw [rt_some hx, hx]
 exact ⟨rfl, _, _, _, rfl, q1, q2, q3⟩
theorem mover_Needs_ok (i : Int) (h1 : (c.rt i).Path.length ≤ 2 ^ 20) (h2 : (c.rt i).Flank.length ≤ 2 ^ 20) :
   DCalls Tryz.prog n_mover_Needs [cfA c0 c1 c2 c3 c4 c, iA i] σ (SlPost σ t_Need ((c.Needs i).map Nd.enc)) := by
 refine (W_mover_Needs _ _ _ _ _ _ _ _ _ i σ _ ?_).ret (Q := fun r s => ∃ r' σ', Ret Tryz.prog σ s r σ' r' ∧ SlPost σ t_Need ((c.Needs i).map Nd.enc) r' σ') (fun r s h => h)
 refine (mover_route_ok h i).mono ?_
 rintro r s ⟨rfl, d1, d2, d3, rfl, q1, q2, q3⟩
 rw [Cf.Needs]
 generalize c.rt i = x at *
 refine ⟨_, _, _, _, _, _, _, rfl, (q1 s).lenK ⟨fun d n s' => ∃ out : List Nd, Own Tryz.prog s s' t_Need d (out.map Nd.enc) ∧ (out.length : Int) ≤ n ∧ Rng x.Path (fun r => out ++ r.filterMap (needOf c) = x.Path.filterMap (needOf c)) n,
   fun _ n _ => x.Path.length - n.toNat, ⟨[], .nil _ (.refl _), by simp, .start rfl⟩, ?_⟩⟩
 rintro d n s' ⟨out, ho, hol, hr⟩
 rw [List.length_map]
 refine bcd (fun hlt => ?_) (fun hge => ?_)
 · obtain ⟨j, y, rfl, hy, hj, hF, nx⟩ := hr.step rfl (by omega) hlt
   rw [List.filterMap_cons] at hF
   have skip : needOf c y = none → ∀ s2, Ext s' s2 → (∃ out : List Nd, Own Tryz.prog s s2 t_Need d (out.map Nd.enc) ∧ (out.length : Int) ≤ w64 ((j : Int) + 1) ∧ Rng x.Path (fun r => out ++ r.filterMap (needOf c) = x.Path.filterMap (needOf c)) (w64 ((j : Int) + 1))) ∧
       x.Path.length - (w64 ((j : Int) + 1)).toNat < x.Path.length - (j : Int).toNat := fun hn s2 he => by
     rw [hn] at hF
     have := nx (fun r => out ++ r.filterMap (needOf c) = x.Path.filterMap (needOf c)) hF
     exact ⟨⟨out, ho.ext' he, by rw [w64_succ (by omega)]; omega, this.1⟩, this.2⟩
   refine (q1 s').load (map_get hy) c_Step rfl ⟨y.Sec, y.In, y.Out, rfl, bcd (fun e => ⟨rfl, skip (by unfold needOf; rw [geti_neg e]) _ (.refl _)⟩) (fun e0 => (h s').secs.lenK ?_)⟩
   rw [List.length_map]
   refine bcd (fun e => ⟨rfl, skip (by unfold needOf; rw [geti_ge e]) _ (.refl _)⟩) (fun e1 => ?_)
   obtain ⟨z, hz⟩ := geti_ex e0 e1
   have hneed : needOf c y = match wpos (wayL z.Kind) y.In y.Out with | none => none | some p => if p = 0 then none else some ⟨y.Sec, p⟩ := by unfold needOf; rw [hz] <;> rfl
   refine (h s').secs.load (map_get (geti_some hz).2.2) c_Section (by omega) ⟨z.Kind, rfl, (topo_Pos_ok _ _ _).use (opt1_ex _ ?_)⟩
   cases hp : wpos (wayL z.Kind) y.In y.Out with
   | none => rw [hp] at hneed; exact bc (fun e => by cases e) (fun _ => ⟨rfl, skip hneed _ (.refl _)⟩)
   | some p =>
     rw [hp] at hneed
     refine bc (fun _ => bcn (fun e => ?_) (fun e => ⟨rfl, skip (by rw [hneed]; exact if_pos e) _ (.refl _)⟩)) (fun e => by cases e)
     have hsome : needOf c y = some ⟨y.Sec, p⟩ := by rw [hneed]; exact if_neg e
     rw [hsome] at hF
     refine newObj_intro fun id s2 hid _ he hs2 => (ho.ext' he).append (At.fresh hs2 (by simp) rfl) (by simp; omega) (by simp; omega) fun d4 s5 ho5 _ _ => ⟨rfl, ?_⟩
     have := nx (fun r => (out ++ [⟨y.Sec, p⟩]) ++ r.filterMap (needOf c) = x.Path.filterMap (needOf c)) (by rw [List.append_assoc]; exact hF)
     exact ⟨⟨out ++ [⟨y.Sec, p⟩], by rw [List.map_append]; exact ho5, by rw [w64_succ (by omega), List.length_append, List.length_singleton]; omega, this.1⟩, this.2⟩
 · have hF := hr.done rfl hge
   have hn : n ≤ x.Path.length := by obtain ⟨j, rfl, hj, _⟩ := hr; omega
   rw [List.filterMap_nil, List.append_nil] at hF
   subst hF
   refine ho.append (q2 s') (by simp only [List.length_map]; omega) (by simp only [List.length_map]; omega) fun d4 s5 ho5 _ _ => ?_
   rw [← List.map_append] at ho5
   exact own_fin ho5 (flatNd _)
theorem mover_Crossings_ok (i : Int) (h1 : c.Xs.length ≤ 2 ^ 20) :
   DCalls Tryz.prog n_mover_Crossings [cfA c0 c1 c2 c3 c4 c, iA i] σ (SlPost σ t_int ((c.Cross i).map Go.Fw.encI)) := by
 refine (W_mover_Crossings _ _ _ _ _ _ _ _ _ i σ _ ?_).ret (Q := fun r s => ∃ r' σ', Ret Tryz.prog σ s r σ' r' ∧ SlPost σ t_int ((c.Cross i).map Go.Fw.encI) r' σ') (fun r s h => h)
 refine (mover_route_ok h i).mono ?_
 rintro r s ⟨rfl, d1, d2, d3, rfl, q1, q2, q3⟩
 rw [Cf.Cross]
 generalize c.rt i = x at *
 refine ⟨_, _, _, _, _, _, _, rfl, (h s).xs.lenK ⟨fun d n s' => ∃ out : List Int, Own Tryz.prog s s' t_int d (out.map Go.Fw.encI) ∧ (out.length : Int) ≤ n ∧ Rng c.Xs (fun r => out ++ crossL x.Path r n.toNat = crossL x.Path c.Xs 0) n,
   fun _ n _ => c.Xs.length - n.toNat, ⟨[], .nil _ (.refl _), by simp, .start rfl⟩, ?_⟩⟩
 rintro d n s' ⟨out, ho, hol, hr⟩
 rw [List.length_map]
 refine bcd (fun hlt => ?_) (fun hge => ?_)
 · obtain ⟨j, y, rfl, hy, hj, hF, nx⟩ := hr.step rfl (by omega) hlt
   have hw : w64 ((j : Int) + 1) = ((j + 1 : Nat) : Int) := w64_succ (by omega)
   have go : ∀ out2 d2 s2, out2 ++ crossL x.Path (c.Xs.drop (j + 1)) (j + 1) = crossL x.Path c.Xs 0 → Own Tryz.prog s s2 t_int d2 (out2.map Go.Fw.encI) → out2.length ≤ j + 1 → (∃ out : List Int, Own Tryz.prog s s2 t_int d2 (out.map Go.Fw.encI) ∧ (out.length : Int) ≤ w64 ((j : Int) + 1) ∧ Rng c.Xs (fun r => out ++ crossL x.Path r (w64 ((j : Int) + 1)).toNat = crossL x.Path c.Xs 0) (w64 ((j : Int) + 1))) ∧
       c.Xs.length - (w64 ((j : Int) + 1)).toNat < c.Xs.length - (j : Int).toNat := fun out2 d2 s2 he ho2 hl => by
     have := nx (fun r => out2 ++ crossL x.Path r (w64 ((j : Int) + 1)).toNat = crossL x.Path c.Xs 0) (by rw [hw, Int.toNat_natCast]; exact he)
     exact ⟨⟨out2, ho2, by rw [hw]; omega, this.1⟩, this.2⟩
   rw [Int.toNat_natCast, crossL] at hF
   refine (h s').xs.load (map_get hy) c_int rfl ⟨y, rfl, newObj_intro fun id s2 hid _ he hs2 => box_store hs2 fun s3 hs3 hs3' => ?_⟩
   have he3 : Ext s' s3 := fun i hi => by
     rw [hs3' i (fun e => hi (by rw [e]; exact hid))]; exact he i hi
   have ho3 := ho.ext' he3
   refine (ContainsFunc_Step_ok (p := fun x => x.Sec == y) (q1 s3) (cap_fn hs3 fun x _ => W_mover_Crossings_1 x.Sec x.In x.Out _ s3 _ ⟨_, _, _, rfl, _, box_row hs3, y, rfl, rfl, rfl⟩)).use ⟨_, rfl, ?_⟩
   refine bc (fun e => ?_) (fun e => ⟨rfl, go out _ _ (by rw [if_neg (fun g => by have : hasSec x.Path y = false := e; rw [this] at g; cases g)] at hF; exact hF) ho3 (by omega)⟩)
   rw [if_pos (show hasSec x.Path y = true from e)] at hF
   refine newObj_intro fun id1 s4 hid1 _ he4 hs4 => (ho3.ext' he4).append (At.fresh hs4 (by simp) rfl) (by simp; omega) (by simp; omega) fun d4 s5 ho5 _ _ => ⟨rfl, go (out ++ [(j : Int)]) _ _ (by rw [List.append_assoc]; exact hF) (by rw [List.map_append]; exact ho5) (by simp; omega)⟩
 · have hF := hr.done rfl hge
   rw [crossL, List.append_nil] at hF
   subst hF
   exact own_fin ho (flatI _)
end
end
end Go.Proofs.YtdlnbehcnfjneaaGreat
namespace Go.Fw
section
structure Br where
 Kind : Int
 Route : Int
 Sec : Int
 deriving DecidableEq
def Br.enc (b : Br) : List D := [iD b.Kind, iD b.Route, iD b.Sec]
end
end Go.Fw
namespace Go.Proofs.YtdlnbehcnfjneaaGreat
open Go.Fw Go.Proofs Go.RowKit
section
variable {σ : Store}
theorem Contains_int_ok {d : D} {l : List Int} (v : Int) (h : At Tryz.prog σ t_int d (l.map Go.Fw.encI)) : Pure Tryz.prog n_slices_Contains_int [.one d, iA v] σ (.a (bA (inL l v))) := by
 refine W_slices_Contains_int d v σ _ ((slices_Index_int_ok v h).use ⟨_, rfl, ?_, rfl⟩)
 have key : ∀ (l : List Int) (j : Nat), decide (idxOf l v j ≥ 0) = inL l v := by
   intro l
   induction l with
   | nil => intro j; simp [idxOf, inL]
   | cons x r ih =>
     intro j
     rw [idxOf]
     by_cases hx : v = x
     · rw [if_pos hx]; simp [inL, hx]
     · rw [if_neg hx, ih, inL, inL]; simp [hx]
 rw [key]
section
variable {c0 c1 c2 c3 c4 : D} {c : Cf} {k0 k1 k2 k3 k4 k5 : D} {k : Co} {σ0 : Store} {b : Bool} {id : Nat} {d : D} {out : List Br}
structure JAt (σ0 σ : Store) (id : Nat) (k0 k1 k2 k3 k4 k5 : D) (b : Bool) (c0 c1 c2 c3 c4 : D) (c : Cf) (d : D) (out : List Br) : Prop where
 new : σ0 id = .free
 row : σ id = .live t_watch_judge [[k0, k1, k2, k3, k4, k5, .bool b, c0, c1, c2, c3, c4, iD c.Age, iD c.Brake, iD c.Hold, iD c.Budget, d]]
 own : Own Tryz.prog σ0 σ t_Breach d (out.map Br.enc)
 ido : idOf d ≠ some id
theorem JAt.ext' {σ' : Store} (h : JAt σ0 σ id k0 k1 k2 k3 k4 k5 b c0 c1 c2 c3 c4 c d out) (he : Ext σ σ') : JAt σ0 σ' id k0 k1 k2 k3 k4 k5 b c0 c1 c2 c3 c4 c d out :=
 ⟨h.new, (he id (by rw [h.row]; intro e; cases e)).trans h.row, h.own.ext' he, h.ido⟩
variable (hc : ∀ s, CfAt s c0 c1 c2 c3 c4 c) (hk : CoAt σ0 k0 k1 k2 k3 k4 k5 k) (hfit : k.fits c = true)
include hc hk hfit
end
end
end Go.Proofs.YtdlnbehcnfjneaaGreat
namespace Go.Fw
open Go.Shelf Go.Sort Go.Proofs
section
variable {P : Program} {ρ : Ren} {σ : Store}
def intRow (z : Int) : List D := [.int .i64 z]
def sorted (l : List Int) : List Int := l.mergeSort fun x y => decide (x ≤ y)
theorem ints_over {k : Nat → Prop} {β : Bk} {W : World} (hS : SRel P k β W σ) {id i0 : Nat} {t : TypeId} {rows : List (List D)} {ys : List Int} {bi : BI} (ht : P.cellsOf t = 1) (hl : σ id = .live t rows) (hb : β id = some bi)
   (hfit : i0 + ys.length ≤ rows.length) (n : Nat) (os : Array Obj) :
   SRel P k β (grow (putRow (Value.int .i64) (Sort.ahead W n) bi.blk (i0 * bi.es) ys.toArray) os) (σ.set id (.live t (rows.take i0 ++ ys.map intRow ++ rows.drop (i0 + ys.length)))) ∧
   Ghost k β σ W k β (σ.set id (.live t (rows.take i0 ++ ys.map intRow ++ rows.drop (i0 + ys.length)))) ∧
   Frm β σ W (grow (putRow (Value.int .i64) (Sort.ahead W n) bi.blk (i0 * bi.es) ys.toArray) os) := by
 obtain ⟨arr, g1, g2, g3, g4, g5, g6, g7⟩ := hS.obj id bi t rows hb hl
 have hes : bi.es = 1 := by rw [← g3, ht]
 have hsz2 : i0 + ys.length ≤ arr.size := by rw [hes] at g4; omega
 have hov := hS.over hb hl g1 (ns := ys.map intRow) (vx := ys.map (Value.int .i64)) i0 (by omega) (by omega) (by simp [hes])
   (by
     have e : ∀ l : List Int, ((l.map intRow).flatten) = l.map (D.int .i64) := by
       intro l; induction l with
       | nil => rfl
       | cons x r ih => simp only [List.map_cons, List.flatten_cons, ih]; rfl
     rw [e]
     refine ⟨by simp, fun i v d hv hd => ?_⟩
     rw [List.getElem?_map] at hv hd
     cases hx : ys[i]? with
     | none => rw [hx] at hv; cases hv
     | some x => rw [hx] at hv hd; cases hv; cases hd; exact .int _ _)
   (by
     intro i r hr
     rw [List.getElem?_map] at hr
     cases hx : ys[i]? with
     | none => rw [hx] at hr; cases hr
     | some x => rw [hx] at hr; cases hr; rw [hes]; rfl)
   (by simp only [hes, List.length_map]; omega)
 have hrl : (ys.map intRow).length = ys.length := by rw [List.length_map]
 rw [hrl] at hov
 have hG : Grow (W.setRow bi.blk (arr.toList.take (i0 * bi.es) ++ ys.map (Value.int .i64) ++ arr.toList.drop (i0 * bi.es + (ys.map (Value.int .i64)).length)).toArray)
     (grow (putRow (Value.int .i64) (Sort.ahead W n) bi.blk (i0 * bi.es) ys.toArray) os) := by
   refine ⟨rfl, rfl, rfl, by rw [setRow_size]; simp, fun b hb => ?_⟩
   rw [setRow_size] at hb
   rw [heap_grow_old _ _ (by simpa using hb)]
   by_cases he : b = bi.blk
   · subst he
     rw [setRow_heap _ _ _ _ _ _ g1]
     simp only [putRow, mapBlock, heap_ahead, Array.getElem?_modify, if_true, g1, Option.map_some, onCells]
     congr 2
     apply Array.ext_getElem?
     intro m
     simp only [putCells, Array.getElem?_mapIdx, List.getElem?_toArray, hes, Nat.mul_one, List.length_map, List.size_toArray]
     by_cases c1 : m < i0
     · rw [List.getElem?_append_left (by simp; omega), List.getElem?_append_left (by simp; omega), List.getElem?_take, if_pos c1, Array.getElem?_toList, Array.getElem?_eq_getElem (by omega), Option.map_some, if_neg (by omega)]
     · by_cases c2 : m < i0 + ys.length
       · rw [List.getElem?_append_left (by simp; omega), List.getElem?_append_right (by simp; omega), Array.getElem?_eq_getElem (by omega), Option.map_some, if_pos ⟨by omega, by omega⟩]
         have hl1 : (arr.toList.take i0).length = i0 := by simp; omega
         have hk : m - i0 < ys.length := by omega
         rw [hl1, List.getElem?_map, List.getElem?_eq_getElem hk]
         simp [hk]
       · rw [List.getElem?_append_right (by simp; omega), List.getElem?_drop, Array.getElem?_toList]
         have hl1 : i0 + ys.length + (m - (arr.toList.take i0 ++ ys.map (Value.int .i64)).length) = m := by simp; omega
         rw [hl1]
         cases arr[m]? with
         | none => rfl
         | some y => rw [Option.map_some, if_neg (by omega)]
   · rw [setRow_get _ _ _ _ he]
     simp only [putRow, mapBlock, heap_ahead, Array.getElem?_modify]
     rw [if_neg (fun e => he e.symm)]
 have hne : σ id ≠ .dead := by rw [hl]; intro e; cases e
 refine ⟨hov.grow hG, ⟨fun _ h => h, fun _ h => .inl h, fun _ _ h => h, fun _ _ h => .inl h, fun i hi => ?_⟩, ?_⟩
 · rw [Store.set_ne _ _ (by intro e; subst e; exact hne hi)]; exact hi
 · refine ⟨hG.os, hG.tape, hG.output, by have := hG.size; rwa [setRow_size] at this, fun b hb' hn => ?_⟩
   rw [hG.block b (by rw [setRow_size]; exact hb'), setRow_get _ _ _ _ (fun e => hn id bi hb hne e.symm)]
theorem ints_hold {k : Nat → Prop} {β : Bk} {W : World} (hS : SRel P k β W σ) {id i0 : Nat} {t : TypeId} {rows : List (List D)} {zs : List Int} {bi : BI} (ht : P.cellsOf t = 1) (hl : σ id = .live t rows) (hb : β id = some bi)
   (hrows : (rows.drop i0).take zs.length = zs.map intRow) : Holds (Value.int .i64) W bi.blk (i0 * bi.es) zs.toArray := by
 obtain ⟨arr, g1, g2, g3, g4, g5, g6, g7⟩ := hS.obj id bi t rows hb hl
 have hes : bi.es = 1 := by rw [← g3, ht]
 have hget : ∀ j, j < zs.length → arr[i0 + j]? = some (Value.int .i64 (zs.getD j 0)) := by
   intro j hj
   have h1 : ((rows.drop i0).take zs.length)[j]? = some (intRow (zs.getD j 0)) := by rw [hrows]; simp [hj]
   rw [List.getElem?_take_of_lt hj, List.getElem?_drop] at h1
   obtain ⟨u, hu, hVu⟩ := g7 _ _ 0 (.int .i64 (zs.getD j 0)) h1 rfl
   rw [hes, Nat.mul_one, Nat.add_zero] at hu
   rw [hu]; cases hVu; rfl
 intro j hj
 have hj : j < zs.length := by simpa using hj
 refine ⟨?_, by simp [World.frozen?, g1]⟩
 have := hget j hj
 simp only [World.cell?, g1, hes, Nat.mul_one, Option.isSome_none, Bool.false_eq_true, if_false]
 rw [this]
 simp [hj]
theorem one_arg {k : Nat → Prop} {β : Bk} {W : World} {x : A} {vs : Array Value} (hvs : vs.size = [x].length) (hargs : ∀ (i : Nat) v y, vs[i]? = some v → [x][i]? = some y → VA k β W v y) : ∃ v, vs = #[v] ∧ VA k β W v x := by
 have hvs : vs.size = 1 := hvs
 obtain ⟨l⟩ := vs
 match l, hvs with
 | [v], _ => exact ⟨v, rfl, hargs 0 v x rfl rfl⟩
theorem sort_DCalls (Ly : Lays.n189 P ρ) {id i0 : Nat} {t : TypeId} {rows : List (List D)} {zs : List Int} (ht : P.cellsOf t = 1) (hl : σ id = .live t rows)
   (hfit : i0 + zs.length ≤ rows.length) (hrows : (rows.drop i0).take zs.length = zs.map intRow) (h0 : 0 < zs.length) (hsz : zs.length < 4611686018427387904) :
   DCalls P (ρ.f 189) [.one (.osl id i0 zs.length)] σ fun r σ' => r = .tup [] ∧ σ' = σ.set id (.live t (rows.take i0 ++ (sorted zs).map intRow ++ rows.drop (i0 + zs.length))) := by
 refine ⟨by unfold callOk; rw [Ly.f189]; rfl, fun k β W vs hS hvs hargs => ?_⟩
 obtain ⟨v, rfl, hV⟩ := one_arg hvs hargs
 have hV : V k β W v (.osl id i0 zs.length) := hV
 cases hV with
 | osl _ _ _ cap a bi hb ha hc hs =>
   have ha := ha (by omega)
   subst ha
   refine (calls_of_every_depth fun D => Go.Proofs.AnyS.slices_Sort_int_in Ly D bi.blk (i0 * bi.es) cap zs W (ints_hold hS ht hl hb hrows) (hS.blt id bi hb) hsz).mono ?_
   rintro e W' ⟨rfl, n, os, rfl⟩
   have hlen : (sorted zs).length = zs.length := by simp [sorted]
   obtain ⟨h1, h2, h3⟩ := ints_over hS (i0 := i0) (ys := sorted zs) ht hl hb (by omega) n os
   rw [hlen] at h1 h2
   exact ⟨.tuple #[], .tup [], _, k, β, rfl, ⟨rfl, rfl⟩, ⟨#[], rfl, rfl, fun i u x hu => by simp at hu⟩, h1, h2, h3⟩
theorem compact_DCalls (Ly : Lays2.n20 P ρ) {id i0 : Nat} {t : TypeId} {rows : List (List D)} {zs : List Int} (ht : P.cellsOf t = 1) (hl : σ id = .live t rows)
   (hfit : i0 + zs.length ≤ rows.length) (hrows : (rows.drop i0).take zs.length = zs.map intRow) (h0 : 0 < zs.length) (hsz : zs.length < 4611686018427387904) :
   DCalls P (ρ.f 20) [.one (.osl id i0 zs.length)] σ fun r σ' => r = .a (.one (.osl id i0 (Lib.compact zs).length)) ∧
     σ' = σ.set id (.live t (rows.take i0 ++ (Lib.compact zs ++ List.replicate (zs.length - (Lib.compact zs).length) 0).map intRow ++ rows.drop (i0 + zs.length))) := by
 refine ⟨by unfold callOk; rw [Ly.f20]; rfl, fun k β W vs hS hvs hargs => ?_⟩
 obtain ⟨v, rfl, hV⟩ := one_arg hvs hargs
 have hV : V k β W v (.osl id i0 zs.length) := hV
 cases hV with
 | osl _ _ _ cap a bi hb ha hc hs =>
   have ha := ha (by omega)
   subst ha
   refine (Go.Proofs.Any.slices_Compact_int Ly bi.blk (i0 * bi.es) cap zs W (ints_hold hS ht hl hb hrows) (by omega) hc).mono ?_
   rintro e W' ⟨rfl, n, rfl⟩
   have hle : (Lib.compact zs).length ≤ zs.length := by
     unfold Lib.compact Lib.compactUpTo
     rw [List.length_map]
     exact Nat.le_trans (List.length_filter_le _ _) (by simp)
   have hlen : (Lib.compact zs ++ List.replicate (zs.length - (Lib.compact zs).length) 0).length = zs.length := by simp; omega
   obtain ⟨h1, h2, h3⟩ := ints_over hS (i0 := i0) (ys := Lib.compact zs ++ List.replicate (zs.length - (Lib.compact zs).length) 0) ht hl hb (by omega) n #[]
   rw [hlen] at h1 h2
   rw [grow_empty] at h1 h3
   exact ⟨_, .a (.one (.osl id i0 (Lib.compact zs).length)), _, k, β, rfl, ⟨rfl, rfl⟩, .osl id i0 _ cap _ bi hb (fun _ => rfl) (by omega) hs, h1, h2, h3⟩
theorem sorted_perm (l : List Int) : (sorted l).Perm l := List.mergeSort_perm _ _
theorem sorted_pair (l : List Int) : (sorted l).Pairwise (· ≤ ·) := by
 have := List.pairwise_mergeSort (le := fun x y : Int => decide (x ≤ y)) (by intro a b c; simp; omega) (by intro a b; simp; omega) l
 exact this.imp fun h => by simpa using h
theorem compact_mem {zs : List Int} {z : Int} : z ∈ Lib.compact zs ↔ z ∈ zs := by
 unfold Lib.compact Lib.compactUpTo
 rw [List.mem_map]
 constructor
 · rintro ⟨j, hj, rfl⟩
   have hj := List.mem_range.1 (List.mem_filter.1 hj).1
   simp [hj]
 · intro hz
   obtain ⟨j, hj, e⟩ := List.getElem_of_mem hz
   have key : ∀ j, (hj : j < zs.length) → zs[j] = z → ∃ a, a ∈ List.filter (Lib.keeps zs.toArray) (List.range zs.length) ∧ zs.toArray[a]! = z := by
     intro j
     induction j with
     | zero => exact fun hj e => ⟨0, List.mem_filter.2 ⟨List.mem_range.2 hj, by simp [Lib.keeps]⟩, by simp [hj, e]⟩
     | succ j ih =>
       intro hj e
       by_cases h : zs[j]'(by omega) = z
       · exact ih (by omega) h
       · refine ⟨j + 1, List.mem_filter.2 ⟨List.mem_range.2 hj, Lib.keeps_pos ?_⟩, by simp [hj, e]⟩
         simp only [Nat.add_sub_cancel]
         have : j < zs.length := by omega
         simp only [List.getElem!_toArray, hj, this, getElem!_pos, e]
         exact fun h' => h h'.symm
   exact key j hj e
theorem compact_strict {zs : List Int} (h : zs.Pairwise (· ≤ ·)) : (Lib.compact zs).Pairwise (· < ·) := by
 unfold Lib.compact Lib.compactUpTo
 rw [List.pairwise_map]
 have hr : (List.filter (Lib.keeps zs.toArray) (List.range zs.length)).Pairwise (· < ·) := List.Pairwise.filter _ List.pairwise_lt_range
 refine hr.imp_of_mem ?_
 intro i j hi hj hij
 obtain ⟨h1, _⟩ := List.mem_filter.1 hi
 obtain ⟨h2, h3⟩ := List.mem_filter.1 hj
 have h1 := List.mem_range.1 h1
 have h2 := List.mem_range.1 h2
 have hm : j - 1 < zs.length := by omega
 have hne : zs[j]'h2 ≠ zs[j - 1]'hm := by
   intro e
   have : Lib.keeps zs.toArray j = false := Lib.keeps_neg (by omega) (by simp only [List.getElem!_toArray, h2, hm, getElem!_pos, e])
   rw [h3] at this; cases this
 have hle1 : zs[j - 1]'hm ≤ zs[j]'h2 := List.pairwise_iff_getElem.1 h _ _ _ _ (by omega)
 have hle2 : zs[i]'h1 ≤ zs[j - 1]'hm := by
   by_cases e : i = j - 1
   · subst e; exact Int.le_refl _
   · exact List.pairwise_iff_getElem.1 h _ _ _ _ (by omega)
 simp only [List.getElem!_toArray, h1, h2, getElem!_pos]
 omega
end
end Go.Fw
namespace Go.Fw
section
def cpt : List Int → List Int
 | [] => []
 | x :: r => match cpt r with
   | [] => [x]
   | y :: q => if x = y then y :: q else x :: y :: q
theorem mem_cpt : ∀ (l : List Int) (z : Int), z ∈ cpt l ↔ z ∈ l
 | [], z => by simp [cpt]
 | x :: r, z => by
   have ih := mem_cpt r z
   rw [cpt]
   split
   · rename_i h; rw [h] at ih; simp at ih; simp [ih]
   · rename_i y q h
     rw [h] at ih
     split
     · rename_i e; rw [ih, List.mem_cons]; exact ⟨.inr, fun hz => hz.elim (fun e' => by rw [← ih, e', e]; simp) id⟩
     · rw [List.mem_cons, ih, List.mem_cons]
theorem cpt_pair : ∀ {l : List Int}, l.Pairwise (· ≤ ·) → (cpt l).Pairwise (· < ·)
 | [], _ => by simp [cpt]
 | x :: r, h => by
   rw [List.pairwise_cons] at h
   have ih := cpt_pair h.2
   rw [cpt]
   split
   · simp
   · rename_i y q hq
     rw [hq] at ih
     split
     · exact ih
     · rename_i hne
       rw [List.pairwise_cons]
       refine ⟨fun z hz => ?_, ih⟩
       have h1 : y ∈ r := (mem_cpt r y).1 (by rw [hq]; simp)
       have h2 := h.1 y h1
       rcases List.mem_cons.1 hz with rfl | hz
       · omega
       · have := (List.pairwise_cons.1 ih).1 z hz; omega
theorem strict_ext : ∀ {a b : List Int}, a.Pairwise (· < ·) → b.Pairwise (· < ·) → (∀ z, z ∈ a ↔ z ∈ b) → a = b
 | [], [], _, _, _ => rfl
 | [], y :: b, _, _, h => absurd ((h y).2 (by simp)) (by simp)
 | x :: a, [], _, _, h => absurd ((h x).1 (by simp)) (by simp)
 | x :: a, y :: b, ha, hb, h => by
   rw [List.pairwise_cons] at ha hb
   have e : x = y := by
     have h1 := (h x).1 (by simp)
     have h2 := (h y).2 (by simp)
     rcases List.mem_cons.1 h1 with h1 | h1
     · exact h1
     · rcases List.mem_cons.1 h2 with h2 | h2
       · exact h2.symm
       · have := hb.1 x h1; have := ha.1 y h2; omega
   subst e
   congr 1
   refine strict_ext ha.2 hb.2 fun z => ⟨fun hz => ?_, fun hz => ?_⟩
   · rcases List.mem_cons.1 ((h z).1 (by simp [hz])) with e | hz'
     · subst e; have := ha.1 z hz; omega
     · exact hz'
   · rcases List.mem_cons.1 ((h z).2 (by simp [hz])) with e | hz'
     · subst e; have := hb.1 z hz; omega
     · exact hz'
theorem compact_cpt {l : List Int} (h : l.Pairwise (· ≤ ·)) : Lib.compact l = cpt l := strict_ext (compact_strict h) (cpt_pair h) fun z => by rw [compact_mem, mem_cpt]
def Cf.lockR (r : Rt) : List Int := cpt (sorted (r.Overlap ++ r.Path.map St.Sec ++ r.Flank.map Nd.Sec))
def Cf.lockL (c : Cf) (i : Int) : List Int := match geti c.Rts i with
 | some r => Cf.lockR r
 | none => []
theorem mem_lockR {r : Rt} {z : Int} : z ∈ Cf.lockR r ↔ z ∈ r.Overlap ∨ z ∈ r.Path.map St.Sec ∨ z ∈ r.Flank.map Nd.Sec := by
 rw [Cf.lockR, mem_cpt, (sorted_perm _).mem_iff]; simp [or_assoc]
theorem lockR_pair (r : Rt) : (Cf.lockR r).Pairwise (· < ·) := cpt_pair (sorted_pair _)
theorem lockR_sec {c : Cf} {r : Rt} (h : RtOk c r) {z : Int} (hz : z ∈ Cf.lockR r) : ∃ y, geti c.Secs z = some y := by
 rcases mem_lockR.1 hz with hz | hz | hz
 · obtain ⟨y, hy, _⟩ := (h.ov hz).1; exact ⟨y, hy⟩
 · obtain ⟨s, hs, rfl⟩ := List.mem_map.1 hz
   obtain ⟨y, hy, _⟩ := (h.step s hs).1.sec; exact ⟨y, hy⟩
 · obtain ⟨n, hn, rfl⟩ := List.mem_map.1 hz
   obtain ⟨y, hy, _⟩ := (h.fl.1 n hn).sec; exact ⟨y, hy⟩
def insAt (out : List Int) (s : Int) : Nat → Nat
 | 0 => 0
 | n + 1 => match out[n]? with
   | some x => if s < x then insAt out s n else n + 1
   | none => n + 1
def insS (out : List Int) (s : Int) : List Int :=
 if s ∈ out then out else out.take (insAt out s out.length) ++ [s] ++ out.drop (insAt out s out.length)
theorem insAt_gt (out : List Int) (s : Int) : ∀ n, n ≤ out.length → ∀ i x, insAt out s n ≤ i → i < n → out[i]? = some x → s < x
 | 0, _, i, x, _, h, _ => by omega
 | n + 1, hn, i, x, h1, h2, h3 => by
   rw [insAt] at h1
   split at h1
   · rename_i y hy
     split at h1
     · rename_i hlt
       by_cases e : i = n
       · subst e; rw [hy] at h3; cases h3; exact hlt
       · exact insAt_gt out s n (by omega) i x h1 (by omega) h3
     · omega
   · omega
theorem insAt_le_of {out : List Int} {s : Int} (hp : out.Pairwise (· < ·)) : ∀ n, n ≤ out.length → ∀ i x, i < insAt out s n → out[i]? = some x → x ≤ s
 | 0, _, i, x, h, _ => by rw [insAt] at h; omega
 | n + 1, hn, i, x, h1, h3 => by
   rw [insAt] at h1
   split at h1
   · rename_i y hy
     split at h1
     · exact insAt_le_of hp n (by omega) i x h1 h3
     · rename_i hge
       by_cases e : i = n
       · subst e; rw [hy] at h3; cases h3; omega
       · have hlt : i < n := by omega
         obtain ⟨h4, h5⟩ := List.getElem?_eq_some_iff.1 h3
         obtain ⟨h6, h7⟩ := List.getElem?_eq_some_iff.1 hy
         have := List.pairwise_iff_getElem.1 hp i n h4 h6 hlt
         rw [h5, h7] at this; omega
   · rename_i hnone; rw [List.getElem?_eq_none_iff] at hnone; omega
theorem insS_pair {out : List Int} {s : Int} (hp : out.Pairwise (· < ·)) : (insS out s).Pairwise (· < ·) := by
 unfold insS
 split
 · exact hp
 · rename_i hs
   have hsplit := List.take_append_drop (insAt out s out.length) out
   have h1 : ∀ x ∈ out.take (insAt out s out.length), x < s := by
     intro x hx
     obtain ⟨i, hi, e⟩ := List.getElem_of_mem hx
     have h2 : out[i]? = some x := by rw [List.getElem_take] at e; rw [← e]; exact List.getElem?_eq_getElem _
     have h3 := insAt_le_of (s := s) hp out.length (Nat.le_refl _) i x (by rw [List.length_take] at hi; omega) h2
     have : x ≠ s := fun e => hs (e ▸ List.mem_of_getElem? h2)
     omega
   have h2 : ∀ x ∈ out.drop (insAt out s out.length), s < x := by
     intro x hx
     obtain ⟨i, hi, e⟩ := List.getElem_of_mem hx
     have h2 : out[insAt out s out.length + i]? = some x := by rw [List.getElem_drop] at e; rw [← e]; exact List.getElem?_eq_getElem _
     exact insAt_gt out s out.length (Nat.le_refl _) _ x (by omega) (by rw [List.length_drop] at hi; omega) h2
   rw [← hsplit, List.pairwise_append] at hp
   rw [List.append_assoc, List.pairwise_append]
   refine ⟨hp.1, ?_, fun a ha b hb => ?_⟩
   · rw [List.singleton_append, List.pairwise_cons]; exact ⟨h2, hp.2.1⟩
   · rcases List.mem_cons.1 hb with rfl | hb
     · exact h1 a ha
     · exact hp.2.2 a ha b hb
theorem mem_insS {out : List Int} {s z : Int} : z ∈ insS out s ↔ z ∈ out ∨ z = s := by
 unfold insS
 split
 · rename_i hs; exact ⟨.inl, fun h => h.elim id fun e => e ▸ hs⟩
 · have : z ∈ out ↔ z ∈ out.take (insAt out s out.length) ∨ z ∈ out.drop (insAt out s out.length) := by
     rw [← List.mem_append, List.take_append_drop]
   rw [this, List.append_assoc, List.mem_append, List.mem_append, List.mem_singleton]
   constructor
   · rintro (h | h | h) <;> simp [h]
   · rintro ((h | h) | h) <;> simp [h]
theorem insL_facts : ∀ (l out : List Int), out.Pairwise (· < ·) → (l.foldl insS out).Pairwise (· < ·) ∧ ∀ z, z ∈ l.foldl insS out ↔ z ∈ out ∨ z ∈ l
 | [], out, h => ⟨h, fun z => by simp⟩
 | s :: r, out, h => by
   obtain ⟨q1, q2⟩ := insL_facts r (insS out s) (insS_pair h)
   refine ⟨q1, fun z => ?_⟩
   rw [List.foldl_cons, q2, mem_insS, List.mem_cons, or_assoc]
theorem insL_lockR (r : Rt) : (r.Path.map St.Sec ++ r.Flank.map Nd.Sec ++ r.Overlap).foldl insS [] = Cf.lockR r := by
 obtain ⟨q1, q2⟩ := insL_facts (r.Path.map St.Sec ++ r.Flank.map Nd.Sec ++ r.Overlap) [] (by simp)
 refine strict_ext q1 (lockR_pair r) fun z => ?_
 rw [q2, mem_lockR]
 simp only [List.mem_append, List.not_mem_nil, false_or]
 constructor
 · rintro ((h | h) | h) <;> simp [h]
 · rintro (h | h | h) <;> simp [h]
theorem cpt_len : ∀ l : List Int, (cpt l).length ≤ l.length
 | [] => Nat.le_refl _
 | x :: r => by
   have ih := cpt_len r
   rw [cpt]
   split
   · simp
   · rename_i y q h
     rw [h] at ih
     split
     · simp at ih ⊢; omega
     · simp at ih ⊢; omega
def cmdM (m : Mv) (now cmd : Int) : Mv := if m.Cmd ≠ cmd then ⟨cmd, now⟩ else m
def Co.inh (c : Cf) (k : Co) (r s : Int) : Bool :=
 let o := (geti k.Own s).getD 0 - 1
 decide (0 ≤ o ∧ o ≠ r) && (decide ((c.rt o).Exit = (c.rt r).Entry) && inL (c.rt o).Overlap s)
def Co.blocked (c : Cf) (k : Co) (r : Int) (l : List Int) : Bool := l.any fun s => decide ((geti k.Own s).getD 0 ≠ 0) && !k.inh c r s
def Co.may (c : Cf) (k : Co) (r : Int) (l : List Int) : Int :=
 if apprS c l k.Routes 0 = true then 23 else if k.blocked c r l = true then 22 else 0
def lineF (c : Cf) : List St → Int
 | [] => 0
 | s :: r => let n := ((geti c.Secs s.Sec).getD ⟨0, 0, 0⟩).Line; if n > 0 then n else lineF c r
def ptsC (now : Int) (l : List Nd) (w : List Mv) : List Mv := l.foldl (fun w n => w.set n.Sec.toNat (cmdM ((geti w n.Sec).getD ⟨0, 0⟩) now n.Pos)) w
def xsC (now : Int) (l : List Int) (w : List Mv) : List Mv := l.foldl (fun w i => w.set i.toNat (cmdM ((geti w i).getD ⟨0, 0⟩) now 1)) w
def askC (n : Int) (w : List Ls) : List Ls := if n > 0 then w.set n.toNat { (geti w n).getD zLs with Ask := ((geti w n).getD zLs).Ask + 1 } else w
def Co.lockC (c : Cf) (k : Co) (now r : Int) : Co :=
 { k with Own := (c.lockL r).foldl (fun w s => w.set s.toNat ((r + 1))) k.Own, Routes := k.Routes.set r.toNat ⟨1, 0, 0, 0⟩, Points := ptsC now (c.Needs r) k.Points, Xs := xsC now (c.Cross r) k.Xs,
          Lines := askC (lineF c (c.rt r).Path) k.Lines, Dirty := true }
def Co.reqE (c : Cf) (k : Co) (r : Int) : Int :=
 match geti k.Routes r with
 | none => 20
 | some x => if x.State ≠ 0 then 28 else if k.may c r (c.lockL r) ≠ 0 then k.may c r (c.lockL r)
   else if lineF c (c.rt r).Path > 0 ∧ ((geti k.Lines (lineF c (c.rt r).Path)).getD zLs).Ask ≥ 4294967295 then 5 else 0
def Co.gate (c : Cf) (k : Co) (now : Int) (e : Int) : Int := if k.fits c = false then 21 else if tm 0 now = false then 32 else e
def Co.done (k : Co) (e : Int) (y : Co) : Co × Int := (if e = 0 then y else k, e)
def Co.requestC (c : Cf) (k : Co) (now r : Int) : Co × Int := k.done (k.gate c now (k.reqE c r)) (k.lockC c now r)
def Co.leadE (k : Co) (r : Int) (fr : List Int) : Int :=
 match geti k.Routes r with
 | none => 20
 | some x => if inL fr x.State = false then 28 else 0
def Co.leadY (k : Co) (r to now : Int) : Co :=
 let x := (geti k.Routes r).getD ⟨0, 0, 0, 0⟩
 if to = 4 then { k with Routes := k.Routes.set r.toNat { x with State := to, Since := now, Mark := 0 }, Dirty := true } else { k with Routes := k.Routes.set r.toNat { x with State := to } }
def Co.leadC (c : Cf) (k : Co) (r to now : Int) (fr : List Int) : Co × Int := k.done (k.gate c now (k.leadE r fr)) (k.leadY r to now)
def Co.cancelC (c : Cf) (k : Co) (now r : Int) : Co × Int := k.leadC c r 4 now [1, 2, 3]
end
section
theorem zip_all {α β : Type} {f : α × β → Bool} : ∀ {a : List α} {b : List β}, (a.zip b).all f = true ↔ ∀ (i : Nat) x y, a[i]? = some x → b[i]? = some y → f (x, y) = true
 | [], b => by simp
 | x :: a, [] => by simp
 | x :: a, y :: b => by
   rw [List.zip_cons_cons, List.all_cons, Bool.and_eq_true, zip_all (a := a) (b := b)]
   constructor
   · rintro ⟨h1, h2⟩ i p q hp hq
     cases i with
     | zero => cases hp; cases hq; exact h1
     | succ i => exact h2 i p q (by simpa using hp) (by simpa using hq)
   · intro h
     exact ⟨h 0 x y rfl rfl, fun i p q hp hq => h (i + 1) p q (by simpa using hp) (by simpa using hq)⟩
structure FitIs (c : Cf) (k : Co) : Prop where
 chk : c.check = 0
 lOwn : k.Own.length = c.Secs.length
 lPts : k.Points.length = c.Secs.length
 lRes : k.Resets.length = c.Secs.length
 lRts : k.Routes.length = c.Rts.length
 lXs : k.Xs.length = c.Xs.length
 lLn : k.Lines.length = 4
 own : ∀ o ∈ k.Own, -2 ≤ o ∧ o ≤ c.Rts.length
 rts : ∀ (i : Nat) x r, k.Routes[i]? = some x → c.Rts[i]? = some r → Rs.fits (x, r) = true
 pts : ∀ m ∈ k.Points, Mv.fits m = true
 xs : ∀ m ∈ k.Xs, Mv.fits m = true
 lns : ∀ l ∈ k.Lines, Ls.fits l = true
 res : ∀ z ∈ k.Resets, tm 1 z = true
theorem fits_iff {c : Cf} {k : Co} : k.fits c = true ↔ FitIs c k := by
 simp only [Co.fits, Co.lens, Co.parts, Bool.and_eq_true, decide_eq_true_eq, zip_all, List.all_eq_true, List.mem_append]
 constructor
 · rintro ⟨h1, ⟨a1, a2, a3, a4, a5, a6⟩, b1, b2, b3, b4, b5⟩
   exact ⟨h1, a1, a2, a3, a4, a5, a6, b1, zip_all.1 (List.all_eq_true.2 b2), fun m h => b3 m (.inl h), fun m h => b3 m (.inr h), b4, b5⟩
 · intro h
   exact ⟨h.chk, ⟨h.lOwn, h.lPts, h.lRes, h.lRts, h.lXs, h.lLn⟩, h.own, List.all_eq_true.1 (zip_all.2 h.rts), fun m hm => hm.elim (h.pts m) (h.xs m), h.lns, h.res⟩
theorem geti_mem {α : Type} {l : List α} {i : Int} {x : α} (h : geti l i = some x) : x ∈ l := List.mem_of_getElem? (geti_some h).2.2
theorem geti_d {α : Type} {l : List α} {i : Int} {p : α → Prop} {z : α} (hz : p z) (h : ∀ x ∈ l, p x) : p ((geti l i).getD z) := by
 cases hg : geti l i with
 | none => exact hz
 | some x => exact h x (geti_mem hg)
theorem cmd_fits {m : Mv} {now p : Int} (hm : Mv.fits m = true) (hn : tm 0 now = true) (hp : 1 ≤ p ∧ p ≤ 2) : Mv.fits (cmdM m now p) = true := by
 unfold cmdM
 split
 · simp only [tm, decide_eq_true_eq] at hn
   simp only [Mv.fits, Bool.and_eq_true, decide_eq_true_eq]; omega
 · exact hm
theorem ptsC_len (now : Int) : ∀ (l : List Nd) (w : List Mv), (ptsC now l w).length = w.length
 | [], w => rfl
 | n :: l, w => by unfold ptsC; rw [List.foldl_cons]; exact (ptsC_len now l _).trans (by simp)
theorem ptsC_fits {now : Int} (hn : tm 0 now = true) : ∀ (l : List Nd) (w : List Mv), (∀ n ∈ l, 1 ≤ n.Pos ∧ n.Pos ≤ 2) → (∀ m ∈ w, Mv.fits m = true) → ∀ m ∈ ptsC now l w, Mv.fits m = true
 | [], w, _, h => h
 | n :: l, w, hl, h => by
   unfold ptsC; rw [List.foldl_cons]
   refine ptsC_fits hn l _ (fun x hx => hl x (by simp [hx])) fun m hm => ?_
   rcases List.mem_or_eq_of_mem_set hm with hm | rfl
   · exact h m hm
   · exact cmd_fits (geti_d (p := fun m => Mv.fits m = true) rfl h) hn (hl n (by simp))
theorem xsC_len (now : Int) : ∀ (l : List Int) (w : List Mv), (xsC now l w).length = w.length
 | [], w => rfl
 | n :: l, w => by unfold xsC; rw [List.foldl_cons]; exact (xsC_len now l _).trans (by simp)
theorem xsC_fits {now : Int} (hn : tm 0 now = true) : ∀ (l : List Int) (w : List Mv), (∀ m ∈ w, Mv.fits m = true) → ∀ m ∈ xsC now l w, Mv.fits m = true
 | [], w, h => h
 | n :: l, w, h => by
   unfold xsC; rw [List.foldl_cons]
   refine xsC_fits hn l _ fun m hm => ?_
   rcases List.mem_or_eq_of_mem_set hm with hm | rfl
   · exact h m hm
   · exact cmd_fits (geti_d (p := fun m => Mv.fits m = true) rfl h) hn (by omega)
theorem ownC_len (o : Int) : ∀ (l w : List Int), (l.foldl (fun w s => w.set s.toNat o) w).length = w.length
 | [], w => rfl
 | s :: l, w => by rw [List.foldl_cons, ownC_len o l]; simp
theorem ownC_mem {o : Int} : ∀ (l w : List Int) {z : Int}, z ∈ l.foldl (fun w s => w.set s.toNat o) w → z ∈ w ∨ z = o
 | [], w, z, h => .inl h
 | s :: l, w, z, h => by
   rw [List.foldl_cons] at h
   rcases ownC_mem l _ h with h | h
   · rcases List.mem_or_eq_of_mem_set h with h | h
     · exact .inl h
     · exact .inr h
   · exact .inr h
theorem line_ok {c : Cf} (h : c.check = 0) (l : List St) : 0 ≤ lineF c l ∧ lineF c l ≤ 3 := by
 induction l with
 | nil => exact ⟨Int.le_refl _, by unfold lineF; omega⟩
 | cons s r ih =>
   rw [lineF]
   have hs : 0 ≤ ((geti c.Secs s.Sec).getD ⟨0, 0, 0⟩).Line ∧ ((geti c.Secs s.Sec).getD ⟨0, 0, 0⟩).Line ≤ 3 := by
     refine geti_d (p := fun y : Sec => 0 ≤ y.Line ∧ y.Line ≤ 3) (by decide) fun y hy => ?_
     obtain ⟨i, hi, e⟩ := List.getElem_of_mem hy
     exact topo_line (check_parts h).1 (i := i) (by rw [List.getElem?_eq_getElem hi, e])
   split
   · exact hs
   · exact ih
theorem req_zero {c : Cf} {k : Co} {r : Int} (h : k.reqE c r = 0) : (∃ x, geti k.Routes r = some x ∧ x.State = 0) ∧ apprS c (c.lockL r) k.Routes 0 = false ∧ k.blocked c r (c.lockL r) = false ∧
   (lineF c (c.rt r).Path > 0 → ((geti k.Lines (lineF c (c.rt r).Path)).getD zLs).Ask < 4294967295) := by
 unfold Co.reqE at h
 split at h
 · cases h
 · rename_i x hx
   split at h
   · cases h
   split at h
   · rename_i h2; exact absurd h h2
   rename_i h1 h2
   have h2 : k.may c r (c.lockL r) = 0 := Decidable.not_not.1 h2
   split at h
   · cases h
   rename_i h3
   unfold Co.may at h2
   split at h2
   · cases h2
   split at h2
   · cases h2
   rename_i h4 h5
   exact ⟨⟨x, hx, Decidable.not_not.1 h1⟩, by simpa using h4, by simpa using h5, fun hl => by have := fun ha => h3 ⟨hl, ha⟩; omega⟩
theorem rt_of {c : Cf} {k : Co} (hf : FitIs c k) {r : Int} {x : Rs} (hx : geti k.Routes r = some x) : ∃ y, geti c.Rts r = some y ∧ y ∈ c.Rts := by
 obtain ⟨h1, h2, h3⟩ := geti_some hx
 have := (List.getElem?_eq_some_iff.1 h3).1
 obtain ⟨y, hy⟩ := geti_ex (l := c.Rts) (i := r) (by omega) (by have := hf.lRts; omega)
 exact ⟨y, hy, geti_mem hy⟩
theorem lock_fits {c : Cf} {k : Co} {now r : Int} (h : k.fits c = true) (hn : tm 0 now = true) (he : k.reqE c r = 0) : (k.lockC c now r).fits c = true := by
 rw [fits_iff] at h ⊢
 obtain ⟨⟨x, hx, hs⟩, h2, h3, h4⟩ := req_zero he
 obtain ⟨y, hy, hm⟩ := rt_of h hx
 have hok := check_rt h.chk hm
 have hr := (geti_some hy)
 have hrl := (List.getElem?_eq_some_iff.1 hr.2.2).1
 refine ⟨h.chk, by simp only [Co.lockC, ownC_len]; exact h.lOwn, by simp only [Co.lockC, ptsC_len]; exact h.lPts, h.lRes, by simp only [Co.lockC, List.length_set]; exact h.lRts, by simp only [Co.lockC, xsC_len]; exact h.lXs, ?_, ?_, ?_, ?_, ?_, ?_, h.res⟩
 · simp only [Co.lockC, askC]; split <;> simp [h.lLn]
 · intro o ho
   simp only [Co.lockC] at ho
   rcases ownC_mem _ _ ho with ho | rfl
   · exact h.own o ho
   · omega
 · intro i z q hz hq
   simp only [Co.lockC, List.getElem?_set] at hz
   split at hz
   · split at hz
     · cases hz
       have : (0 : Int) ≤ q.Path.length := by omega
       simp only [Rs.fits, tm, Bool.and_eq_true, decide_eq_true_eq]; omega
     · cases hz
   · exact h.rts i z q hz hq
 · refine ptsC_fits hn _ _ (fun n hn' => ?_) h.pts
   rw [Cf.Needs, rt_some hy] at hn'
   exact (needs_sec hok hn').2
 · exact xsC_fits hn _ _ h.xs
 · intro l hl
   simp only [Co.lockC, askC] at hl
   split at hl
   · rename_i hg
     rcases List.mem_or_eq_of_mem_set hl with hl | rfl
     · exact h.lns l hl
     · have h5 := h4 hg
       have h6 := geti_d (i := lineF c (c.rt r).Path) (p := fun l => Ls.fits l = true) (z := zLs) rfl h.lns
       simp only [Ls.fits, tm, Bool.and_eq_true, decide_eq_true_eq] at h6 ⊢
       omega
   · exact h.lns l hl
theorem lead_fits {c : Cf} {k : Co} {r to now : Int} {fr : List Int} (h : k.fits c = true) (hn : tm 0 now = true) (ht : 0 ≤ to ∧ to ≤ 5) (he : k.leadE r fr = 0) : (k.leadY r to now).fits c = true := by
 rw [fits_iff] at h ⊢
 unfold Co.leadE at he
 split at he
 · cases he
 rename_i x hx
 have hfx : ∀ (q : Rt), c.Rts[r.toNat]? = some q → Rs.fits (x, q) = true := fun q hq => h.rts _ _ _ (geti_some hx).2.2 hq
 have key : ∀ x', (∀ q, Rs.fits (x, q) = true → Rs.fits (x', q) = true) → ∀ d, FitIs c { k with Routes := k.Routes.set r.toNat x', Dirty := d } := by
   intro x' hx' d
   refine ⟨h.chk, h.lOwn, h.lPts, h.lRes, by simp only [List.length_set]; exact h.lRts, h.lXs, h.lLn, h.own, fun i z q hz hq => ?_, h.pts, h.xs, h.lns, h.res⟩
   simp only [List.getElem?_set] at hz
   split at hz
   · rename_i e
     split at hz
     · cases hz; exact hx' q (hfx q (by rw [e]; exact hq))
     · cases hz
   · exact h.rts i z q hz hq
 unfold Co.leadY
 simp only [hx, Option.getD_some]
 split
 · refine key _ (fun q hq => ?_) true
   simp only [Rs.fits, tm, Bool.and_eq_true, decide_eq_true_eq] at hq hn ⊢; omega
 · refine key _ (fun q hq => ?_) k.Dirty
   simp only [Rs.fits, tm, Bool.and_eq_true, decide_eq_true_eq] at hq ⊢; omega
theorem new_fits {c : Cf} {now : Int} (h : c.check = 0) (hn : tm 0 now = true) : (newCo c now).fits c = true := by
 rw [fits_iff]
 simp only [tm, decide_eq_true_eq] at hn
 refine ⟨h, by simp [newCo], by simp [newCo], by simp [newCo], by simp [newCo], by simp [newCo], by simp [newCo], fun o ho => ?_, fun i x r hx hr => ?_, fun m hm => ?_, fun m hm => ?_, fun l hl => ?_, fun z hz => ?_⟩
 · obtain ⟨_, rfl⟩ := List.mem_replicate.1 ho; omega
 · obtain ⟨_, rfl⟩ := List.mem_replicate.1 (List.mem_of_getElem? hx)
   have : (0 : Int) ≤ r.Path.length := by omega
   simp only [Rs.fits, tm, Bool.and_eq_true, decide_eq_true_eq]; omega
 · obtain ⟨s, hs, rfl⟩ := List.mem_map.1 hm
   simp only [Mv.fits, Bool.and_eq_true, decide_eq_true_eq]; split <;> omega
 · obtain ⟨_, rfl⟩ := List.mem_replicate.1 hm
   simp only [Mv.fits, Bool.and_eq_true, decide_eq_true_eq]; omega
 · obtain ⟨_, rfl⟩ := List.mem_replicate.1 hl; rfl
 · obtain ⟨_, rfl⟩ := List.mem_replicate.1 hz; rfl
end
end Go.Fw
namespace Go.Proofs.YtdlnbehcnfjneaaGreat
open Go.Shelf Go.Proofs
section
def sortLays_ren : Go.Shelf.Ren := ⟨fun | 189 => 194 | 125 => 217 | 257 => 216 | 128 => 233 | 129 => 234 | 294 => 224 | 295 => 225 | 296 => 226 | 297 => 227 | 298 => 228 | 299 => 229 | 216 => 230 | 300 => 231 | 301 => 232 | 328 => 235 | 329 => 236 | 330 => 237 | 331 => 238 | 332 => 239 | 215 => 240 | 343 => 241 | n => n, fun | 28 => 25 | 3 => 3 | 46 => 60 | 0 => 0 | 51 => 248 | 53 => 251 | 4 => 4 | 183 => 286 | 182 => 285 | 131 => 201 | 5 => 5 | 9 => 9 | 218 => 293 | 222 => 297 | 228 => 299 | 229 => 300 | n => n, fun | n => n⟩
theorem sortLays : Go.Proofs.Lays.n189 Tryz.prog sortLays_ren := {
 mixed := by kernel_rfl
 f125 := Tryz.func217.trans (congrArg some (by kernel_rfl))
 f128 := Tryz.func233.trans (congrArg some (by kernel_rfl))
 f129 := Tryz.func234.trans (congrArg some (by kernel_rfl))
 f189 := Tryz.func194.trans (congrArg some (by kernel_rfl))
 f215 := Tryz.func240.trans (congrArg some (by kernel_rfl))
 f216 := Tryz.func230.trans (congrArg some (by kernel_rfl))
 f257 := Tryz.func216.trans (congrArg some (by kernel_rfl))
 f294 := Tryz.func224.trans (congrArg some (by kernel_rfl))
 f295 := Tryz.func225.trans (congrArg some (by kernel_rfl))
 f296 := Tryz.func226.trans (congrArg some (by kernel_rfl))
 f297 := Tryz.func227.trans (congrArg some (by kernel_rfl))
 f298 := Tryz.func228.trans (congrArg some (by kernel_rfl))
 f299 := Tryz.func229.trans (congrArg some (by kernel_rfl))
 f300 := Tryz.func231.trans (congrArg some (by kernel_rfl))
 f301 := Tryz.func232.trans (congrArg some (by kernel_rfl))
 f328 := Tryz.func235.trans (congrArg some (by kernel_rfl))
 f329 := Tryz.func236.trans (congrArg some (by kernel_rfl))
 f330 := Tryz.func237.trans (congrArg some (by kernel_rfl))
 f331 := Tryz.func238.trans (congrArg some (by kernel_rfl))
 f332 := Tryz.func239.trans (congrArg some (by kernel_rfl))
 f343 := Tryz.func241.trans (congrArg some (by kernel_rfl))
 t0 := Tryz.underlying0
 a0 := Tryz.isAgg0
 z0 := Tryz.sizeOf0
 v0 := Tryz.zeroValue0
 t3 := Tryz.underlying3
 a3 := Tryz.isAgg3
 z3 := Tryz.sizeOf3
 v3 := Tryz.zeroValue3
 t4 := Tryz.underlying4
 a4 := Tryz.isAgg4
 z4 := Tryz.sizeOf4
 v4 := Tryz.zeroValue4
 t5 := Tryz.underlying5
 a5 := Tryz.isAgg5
 z5 := Tryz.sizeOf5
 v5 := Tryz.zeroValue5
 t9 := Tryz.underlying9
 a9 := Tryz.isAgg9
 z9 := Tryz.sizeOf9
 v9 := Tryz.zeroValue9
 t28 := Tryz.underlying25
 a28 := Tryz.isAgg25
 z28 := Tryz.sizeOf25
 v28 := Tryz.zeroValue25
 t46 := Tryz.underlying60
 a46 := Tryz.isAgg60
 z46 := Tryz.sizeOf60
 v46 := Tryz.zeroValue60
 t51 := Tryz.underlying248
 a51 := Tryz.isAgg248
 z51 := Tryz.sizeOf248
 v51 := Tryz.zeroValue248
 t53 := Tryz.underlying251
 a53 := Tryz.isAgg251
 z53 := Tryz.sizeOf251
 v53 := Tryz.zeroValue251
 t131 := Tryz.underlying201
 a131 := Tryz.isAgg201
 z131 := Tryz.sizeOf201
 v131 := Tryz.zeroValue201
 t182 := Tryz.underlying285
 a182 := Tryz.isAgg285
 z182 := Tryz.sizeOf285
 v182 := Tryz.zeroValue285
 t183 := Tryz.underlying286
 a183 := Tryz.isAgg286
 z183 := Tryz.sizeOf286
 v183 := Tryz.zeroValue286
 t218 := Tryz.underlying293
 a218 := Tryz.isAgg293
 z218 := Tryz.sizeOf293
 v218 := Tryz.zeroValue293
 t222 := Tryz.underlying297
 a222 := Tryz.isAgg297
 z222 := Tryz.sizeOf297
 v222 := Tryz.zeroValue297
 t228 := Tryz.underlying299
 a228 := Tryz.isAgg299
 z228 := Tryz.sizeOf299
 v228 := Tryz.zeroValue299
 t229 := Tryz.underlying300
 a229 := Tryz.isAgg300
 z229 := Tryz.sizeOf300
 v229 := Tryz.zeroValue300 }
end
section
def compactLays_ren : Go.Shelf.Ren := ⟨fun | 20 => 195 | n => n, fun | 22 => 25 | 3 => 3 | 4 => 4 | 0 => 0 | n => n, fun | n => n⟩
theorem compactLays : Go.Proofs.Lays2.n20 Tryz.prog compactLays_ren := {
 mixed := by kernel_rfl
 f20 := Tryz.func195.trans (congrArg some (by kernel_rfl))
 t0 := Tryz.underlying0
 a0 := Tryz.isAgg0
 z0 := Tryz.sizeOf0
 v0 := Tryz.zeroValue0
 t3 := Tryz.underlying3
 a3 := Tryz.isAgg3
 z3 := Tryz.sizeOf3
 v3 := Tryz.zeroValue3
 t4 := Tryz.underlying4
 a4 := Tryz.isAgg4
 z4 := Tryz.sizeOf4
 v4 := Tryz.zeroValue4
 t22 := Tryz.underlying25
 a22 := Tryz.isAgg25
 z22 := Tryz.sizeOf25
 v22 := Tryz.zeroValue25
 i3 := by kernel_rfl }
end
end Go.Proofs.YtdlnbehcnfjneaaGreat
namespace Go.Proofs.YtdlnbehcnfjneaaGreat
open Go.Fw Go.Proofs Go.RowKit
section
variable {σ σ0 : Store}
theorem own_over {s : Store} {d : D} {l ys : List Int} (h : Own Tryz.prog σ0 s t_int d (l.map Go.Fw.encI)) (h0 : l ≠ []) (hl : ys.length = l.length) :
   ∃ id i0 t rows, d = .osl id i0 l.length ∧ s id = .live t rows ∧ Tryz.prog.cellsOf t = 1 ∧ i0 + l.length ≤ rows.length ∧ (rows.drop i0).take l.length = l.map intRow ∧ σ0 id = .free ∧
     Own Tryz.prog σ0 (s.set id (.live t (rows.take i0 ++ ys.map intRow ++ rows.drop (i0 + l.length)))) t_int d (ys.map Go.Fw.encI) := by
 have hr := h.at_.rows
 have hsz := h.at_.size
 rw [List.length_map] at hsz
 have hnz := h.nz
 have hns := h.nsl
 have hnew := h.new
 have hlen := h.at_.lenI
 rw [List.length_map] at hlen
 cases d <;> simp only [Go.Fw.Rows] at hr <;> try exact hr.elim
 · exact absurd (List.map_eq_nil_iff.1 hr) h0
 · exact absurd rfl hnz
 · exact absurd trivial hns
 · rename_i id i0 len
   obtain ⟨t, rows, a1, a2, a3, a4⟩ := hr
   have e : l.length = len := hlen
   subst e
   have ht : Tryz.prog.cellsOf t = 1 := by rw [a2]; exact c_int
   have hn := hnew _ _ _ rfl
   refine ⟨id, i0, t, rows, rfl, a1, ht, a3, a4.symm, hn, ⟨⟨⟨t, _, Store.set_same _ _ _, a2, ?_, ?_⟩, ?_, fun es rows e => by cases e⟩, ?_, hnew, fun h => h, by intro e; cases e⟩⟩
   · simp; omega
   · have hi0 : (rows.take i0).length = i0 := by simp; omega
     rw [List.append_assoc, List.drop_append_of_le_length (by omega), List.drop_of_length_le (by omega), List.nil_append, List.take_append_of_le_length (by simp; omega), List.take_of_length_le (by simp; omega)]
     rfl
   · rw [List.length_map]; omega
   · intro i hi
     rw [Store.set_ne _ _ (by intro e; subst e; exact hi hn)]
     exact h.ext i hi
theorem Sort_int_ok {s : Store} {d : D} {l : List Int} (h : Own Tryz.prog σ0 s t_int d (l.map Go.Fw.encI)) (h0 : l ≠ []) :
   DCalls Tryz.prog n_slices_Sort_int [.one d] s fun r s' => r = .tup [] ∧ Own Tryz.prog σ0 s' t_int d ((sorted l).map Go.Fw.encI) := by
 have hsz := h.at_.size
 rw [List.length_map] at hsz
 obtain ⟨id, i0, t, rows, rfl, a1, ht, a3, a4, hn, ho⟩ := own_over (ys := sorted l) h h0 (by simp [sorted])
 refine (sort_DCalls sortLays ht a1 a3 a4 (List.length_pos_iff.2 h0) (by omega)).mono ?_
 rintro r s' ⟨rfl, rfl⟩
 exact ⟨rfl, ho⟩
theorem Compact_int_ok {s : Store} {d : D} {l : List Int} (h : Own Tryz.prog σ0 s t_int d (l.map Go.Fw.encI)) (h0 : l ≠ []) (hp : l.Pairwise (· ≤ ·)) :
   DCalls Tryz.prog n_slices_Compact_int [.one d] s fun r s' => ∃ d', r = .a (.one d') ∧ Own Tryz.prog σ0 s' t_int d' ((cpt l).map Go.Fw.encI) := by
 have hsz := h.at_.size
 rw [List.length_map] at hsz
 have hc := compact_cpt hp
 have hle := cpt_len l
 obtain ⟨id, i0, t, rows, rfl, a1, ht, a3, a4, hn, ho⟩ := own_over (ys := Lib.compact l ++ List.replicate (l.length - (Lib.compact l).length) 0) h h0 (by rw [hc]; simp; omega)
 refine (compact_DCalls compactLays ht a1 a3 a4 (List.length_pos_iff.2 h0) (by omega)).mono ?_
 rintro r s' ⟨rfl, rfl⟩
 have := ho.sub (lo := 0) (hi := (cpt l).length) (by omega) (by rw [hc]; simp)
 rw [hc] at this ⊢
 refine ⟨_, rfl, ?_⟩
 have e : ((((cpt l ++ List.replicate (l.length - (cpt l).length) 0).map Go.Fw.encI).drop 0).take ((cpt l).length - 0)) = (cpt l).map Go.Fw.encI := by
   rw [List.drop_zero, Nat.sub_zero, List.map_append, List.take_append_of_le_length (by simp), List.take_of_length_le (by simp)]
 rw [e] at this
 exact this
def RtsNz : D → Prop
 | .sl _ rows => ∀ row ∈ rows, row[4]? ≠ some .zsl
 | _ => True
theorem nz_over {c4 : D} {rows : List (List D)} (hz : RtsNz c4) (hat : ∀ s, At Tryz.prog s t_Route c4 rows) {i : Nat} {row : List D} (hr : rows[i]? = some row) : row[4]? ≠ some .zsl := by
 have hx := (hat (fun _ => .free)).rows
 cases c4 <;> simp only [Go.Fw.Rows] at hx <;> try exact hx.elim
 · subst hx; simp at hr
 · subst hx; simp at hr
 · obtain ⟨rfl, _⟩ := hx; exact hz _ (List.mem_of_getElem? hr)
 · obtain ⟨t, rows', h1, _⟩ := hx; cases h1
section
variable {c0 c1 c2 c3 c4 : D} {c : Cf} (h : ∀ s, CfAt s c0 c1 c2 c3 c4 c) (hok : c.check = 0) (hz : RtsNz c4)
include h hok hz
theorem conf_Locks_ok (i : Int) : DCalls Tryz.prog n_conf_Locks [cfA c0 c1 c2 c3 c4 c, iA i] σ (SlPost σ t_int ((c.lockL i).map Go.Fw.encI)) := by
 refine (W_conf_Locks _ _ _ _ _ _ _ _ _ i σ _ ?_).ret (Q := fun r s => ∃ r' σ', Ret Tryz.prog σ s r σ' r' ∧ SlPost σ t_int ((c.lockL i).map Go.Fw.encI) r' σ') (fun r s h => h)
 intro R hR
 have nil : geti c.Rts i = none → ∃ r' σ', Ret Tryz.prog σ σ (.a (.one .nils)) σ' r' ∧ SlPost σ t_int ((c.lockL i).map Go.Fw.encI) r' σ' := fun e => by
   have : c.lockL i = [] := by unfold Cf.lockL; rw [e]
   rw [this]; exact own_fin (.nil _ (.refl _)) (flatI _)
 obtain ⟨rows, hat, hlen⟩ := rts_len (h σ)
 refine bcd (fun e => nil (geti_neg e)) (fun e0 => hat.lenK (bcd (fun e => nil (geti_ge (by omega))) (fun e1 => hR σ ?_)))
 obtain ⟨x, hx⟩ := geti_ex (l := c.Rts) (i := i) e0 (by omega)
 clear hR nil hat
 have hr := check_rt hok (geti_mem hx)
 have hll : c.lockL i = Cf.lockR x := by unfold Cf.lockL; rw [hx]
 rw [hll]
 obtain ⟨rows, d1, d2, d3, hat, hlen, hrow, q1, q2, q3⟩ := rt_frz h (geti_some hx).2.2
 have w1 := hr.len
 have w2 := hr.flen
 have w3 := hr.olen
 refine (hat σ).load hrow c_Route (by omega) ⟨_, _, _, _, _, _, rfl, (Clone_int_ok (q3 σ) ?_ (by rw [List.length_map]; omega)).mono ?_⟩
 · exact fun e => nz_over hz hat hrow (by rw [e]; rfl)
 rintro r s ⟨d, rfl, ho⟩
 refine ⟨d, rfl, (q1 σ).lenK ⟨fun d n s' => ∃ j : Nat, n = j ∧ j ≤ x.Path.length ∧ Own Tryz.prog σ s' t_int d ((x.Overlap ++ (x.Path.take j).map St.Sec).map Go.Fw.encI), fun _ n _ => x.Path.length - n.toNat, ⟨0, rfl, by omega, by simpa using ho⟩, ?_⟩⟩
 rintro d n s' ⟨j, rfl, hj, ho⟩
 rw [List.length_map]
 refine bcd (fun hlt => ?_) (fun hge => ?_)
 · obtain ⟨y, hy⟩ := get_of_lt (l := x.Path) (j := j) (by omega)
   refine (q1 s').load (map_get hy) c_Step rfl ⟨y.Sec, y.In, y.Out, rfl, newObj_intro fun id s2 hid _ he hs2 => ?_⟩
   refine (ho.ext' he).append (At.fresh hs2 (by simp) rfl) (by simp; omega) (by simp; omega) fun d4 s5 ho5 _ _ => ?_
   rw [w64_succ (by omega)]
   refine ⟨rfl, ⟨j + 1, rfl, by omega, ?_⟩, dec_lt (by omega)⟩
   have e : x.Overlap ++ (x.Path.take (j + 1)).map St.Sec = (x.Overlap ++ (x.Path.take j).map St.Sec) ++ [y.Sec] := by rw [List.take_add_one, hy]; simp
   rw [e, List.map_append]; exact ho5
 have e : j = x.Path.length := by omega
 rw [e, List.take_length] at ho
 refine (q2 s').lenK ⟨fun d n s' => ∃ j : Nat, n = j ∧ j ≤ x.Flank.length ∧ Own Tryz.prog σ s' t_int d ((x.Overlap ++ x.Path.map St.Sec ++ (x.Flank.take j).map Nd.Sec).map Go.Fw.encI), fun _ n _ => x.Flank.length - n.toNat, ⟨0, rfl, by omega, by simpa using ho⟩, ?_⟩
 rintro d n s' ⟨j, rfl, hj, ho⟩
 rw [List.length_map]
 refine bcd (fun hlt => ?_) (fun hge => ?_)
 · obtain ⟨y, hy⟩ := get_of_lt (l := x.Flank) (j := j) (by omega)
   refine (q2 s').load (map_get hy) c_Need rfl ⟨y.Sec, y.Pos, rfl, newObj_intro fun id s2 hid _ he hs2 => ?_⟩
   refine (ho.ext' he).append (At.fresh hs2 (by simp) rfl) (by simp; omega) (by simp; omega) fun d4 s5 ho5 _ _ => ?_
   rw [w64_succ (by omega)]
   refine ⟨⟨j + 1, rfl, by omega, ?_⟩, dec_lt (by omega)⟩
   have e : x.Overlap ++ x.Path.map St.Sec ++ (x.Flank.take (j + 1)).map Nd.Sec = (x.Overlap ++ x.Path.map St.Sec ++ (x.Flank.take j).map Nd.Sec) ++ [y.Sec] := by rw [List.take_add_one, hy]; simp
   rw [e, List.map_append]; exact ho5
 have e : j = x.Flank.length := by omega
 rw [e, List.take_length] at ho
 have hne : x.Overlap ++ x.Path.map St.Sec ++ x.Flank.map Nd.Sec ≠ [] := by
   intro e
   have := congrArg List.length e
   simp only [List.length_append, List.length_map, List.length_nil] at this; omega
 refine (Sort_int_ok ho hne).mono ?_
 rintro r s2 ⟨rfl, ho⟩
 refine ⟨rfl, (Compact_int_ok ho (fun e => hne (by
   have := congrArg List.length e
   simp only [sorted, List.length_mergeSort] at this
   exact List.length_eq_zero_iff.1 this)) (sorted_pair _)).mono ?_⟩
 rintro r s3 ⟨d', rfl, ho⟩
 exact ⟨d', rfl, own_fin ho (flatI _)⟩
end
end
section
variable {σ σ0 : Store}
def cfC (c0 c1 c2 c3 c4 : D) (c : Cf) : List D := [c0, c1, c2, c3, c4, iD c.Age, iD c.Brake, iD c.Hold, iD c.Budget]
theorem CoOwn.from {σ1 s : Store} {d0 d1 d2 d3 d4 d5 : D} {k : Co} (he : Ext σ σ1) (h : CoOwn σ1 s d0 d1 d2 d3 d4 d5 k) : CoOwn σ s d0 d1 d2 d3 d4 d5 k :=
 ⟨h.own.from he, h.routes.from he, h.points.from he, h.xs.from he, h.lines.from he, h.resets.from he, h.apart⟩
theorem CoAt.ext' {s : Store} {d0 d1 d2 d3 d4 d5 : D} {k : Co} (h : CoAt σ d0 d1 d2 d3 d4 d5 k) (he : Ext σ s) : CoAt s d0 d1 d2 d3 d4 d5 k :=
 ⟨h.own.ext he, h.routes.ext he, h.points.ext he, h.xs.ext he, h.lines.ext he, h.resets.ext he⟩
theorem locks_open_ok {c0 c1 c2 c3 c4 : D} {c : Cf} (hc : ∀ s, CfAt s c0 c1 c2 c3 c4 c) {k0 k1 k2 k3 k4 k5 : D} {k : Co} (h : CoAt σ k0 k1 k2 k3 k4 k5 k) (hf : CoFit k0 k1 k2 k3 k4 k5 k) :
   DCalls Tryz.prog n_locks_open [cfA c0 c1 c2 c3 c4 c, coA k0 k1 k2 k3 k4 k5 k.Dirty] σ fun r s =>
     ∃ id d0 d1 d2 d3 d4 d5, r = .tup [.one (.el (.osl id 0 1) 0 0), bA (k.fits c)] ∧ CoIn σ s id t_locks_desk (cfC c0 c1 c2 c3 c4 c) [] d0 d1 d2 d3 d4 d5 k := by
 refine W_locks_open _ _ _ _ _ _ _ _ _ k0 k1 k2 k3 k4 k5 k.Dirty σ _ (newObj_intro fun id a0 hid _ e0 q0 => ?_)
 have nid : ∀ {s0 s : Store} {el : TypeId} {d : D} {rs : List (List D)}, Own Tryz.prog s0 s el d rs → s0 id ≠ .free → idOf d ≠ some id := by
   intro s0 s el d rs ho hne he
   cases d with
   | osl i a n =>
     have : i = id := by simpa [idOf] using he
     subst this
     exact hne (ho.new _ _ _ rfl)
   | _ => simp [idOf] at he
 have n0 : a0 id ≠ .free := by rw [q0]; intro e; cases e
 refine (Clone_int_ok (h.own.ext e0) hf.n0 (by rw [List.length_map]; exact hf.b0)).mono ?_
 rintro r b0 ⟨d0, rfl, o0⟩
 refine ⟨d0, rfl, cell_store ((o0.ext id n0).trans q0) (by simp [patch]) fun a1 q1 f0 => ?_⟩
 have i0 := nid o0 n0
 have p0 := own_other (o0.from e0) hid i0 f0
 have e1 := p0.ext
 have n1 : a1 id ≠ .free := by rw [q1]; intro e; cases e
 refine (Clone_RouteState_ok (h.routes.ext e1) hf.n1 (by rw [List.length_map]; exact hf.b1)).mono ?_
 rintro r b1 ⟨d1, rfl, o1⟩
 refine ⟨d1, rfl, cell_store ((o1.ext id n1).trans q1) (by simp [patch]) fun a2 q2 f1 => ?_⟩
 have i1 := nid o1 n1
 have ap01 := o1.apart p0.at_
 have p0 := own_other (p0.ext' o1.ext) hid i0 f1
 have p1 := own_other (o1.from e1) hid i1 f1
 have e2 := p1.ext
 have n2 : a2 id ≠ .free := by rw [q2]; intro e; cases e
 refine (Clone_Mover_ok (h.points.ext e2) hf.n2 (by rw [List.length_map]; exact hf.b2)).mono ?_
 rintro r b2 ⟨d2, rfl, o2⟩
 refine ⟨d2, rfl, cell_store ((o2.ext id n2).trans q2) (by simp [patch]) fun a3 q3 f2 => ?_⟩
 have i2 := nid o2 n2
 have ap02 := o2.apart p0.at_
 have ap12 := o2.apart p1.at_
 have p0 := own_other (p0.ext' o2.ext) hid i0 f2
 have p1 := own_other (p1.ext' o2.ext) hid i1 f2
 have p2 := own_other (o2.from e2) hid i2 f2
 have e3 := p2.ext
 have n3 : a3 id ≠ .free := by rw [q3]; intro e; cases e
 refine (Clone_Mover_ok (h.xs.ext e3) hf.n3 (by rw [List.length_map]; exact hf.b3)).mono ?_
 rintro r b3 ⟨d3, rfl, o3⟩
 refine ⟨d3, rfl, cell_store ((o3.ext id n3).trans q3) (by simp [patch]) fun a4 q4 f3 => ?_⟩
 have i3 := nid o3 n3
 have ap03 := o3.apart p0.at_
 have ap13 := o3.apart p1.at_
 have ap23 := o3.apart p2.at_
 have p0 := own_other (p0.ext' o3.ext) hid i0 f3
 have p1 := own_other (p1.ext' o3.ext) hid i1 f3
 have p2 := own_other (p2.ext' o3.ext) hid i2 f3
 have p3 := own_other (o3.from e3) hid i3 f3
 have e4 := p3.ext
 have n4 : a4 id ≠ .free := by rw [q4]; intro e; cases e
 refine (Clone_LineState_ok (h.lines.ext e4) hf.n4 (by rw [List.length_map]; exact hf.b4)).mono ?_
 rintro r b4 ⟨d4, rfl, o4⟩
 refine ⟨d4, rfl, cell_store ((o4.ext id n4).trans q4) (by simp [patch]) fun a5 q5 f4 => ?_⟩
 have i4 := nid o4 n4
 have ap04 := o4.apart p0.at_
 have ap14 := o4.apart p1.at_
 have ap24 := o4.apart p2.at_
 have ap34 := o4.apart p3.at_
 have p0 := own_other (p0.ext' o4.ext) hid i0 f4
 have p1 := own_other (p1.ext' o4.ext) hid i1 f4
 have p2 := own_other (p2.ext' o4.ext) hid i2 f4
 have p3 := own_other (p3.ext' o4.ext) hid i3 f4
 have p4 := own_other (o4.from e4) hid i4 f4
 have e5 := p4.ext
 have n5 : a5 id ≠ .free := by rw [q5]; intro e; cases e
 refine (Clone_int_ok (h.resets.ext e5) hf.n5 (by rw [List.length_map]; exact hf.b5)).mono ?_
 rintro r b5 ⟨d5, rfl, o5⟩
 refine ⟨d5, rfl, cell_store ((o5.ext id n5).trans q5) (by simp [patch]) fun a6 q6 f5 => ?_⟩
 have i5 := nid o5 n5
 have ap05 := o5.apart p0.at_
 have ap15 := o5.apart p1.at_
 have ap25 := o5.apart p2.at_
 have ap35 := o5.apart p3.at_
 have ap45 := o5.apart p4.at_
 have p0 := own_other (p0.ext' o5.ext) hid i0 f5
 have p1 := own_other (p1.ext' o5.ext) hid i1 f5
 have p2 := own_other (p2.ext' o5.ext) hid i2 f5
 have p3 := own_other (p3.ext' o5.ext) hid i3 f5
 have p4 := own_other (p4.ext' o5.ext) hid i4 f5
 have p5 := own_other (o5.from e5) hid i5 f5
 have e6 := p5.ext
 have n6 : a6 id ≠ .free := by rw [q6]; intro e; cases e
 refine (locks_Fits_ok hc (h.ext' e6)).use ⟨_, rfl, id, d0, d1, d2, d3, d4, d5, rfl, hid, q6, ⟨p0, p1, p2, p3, p4, p5, ?_⟩, ?_⟩
 · simp only [List.pairwise_cons, List.mem_cons, List.not_mem_nil, or_false, forall_eq_or_imp, forall_eq, List.Pairwise.nil, and_true, false_imp_iff, implies_true]
   exact ⟨⟨ap01, ap02, ap03, ap04, ap05⟩, ⟨ap12, ap13, ap14, ap15⟩, ⟨ap23, ap24, ap25⟩, ⟨ap34, ap35⟩, ap45⟩
 · intro d hd
   simp only [List.mem_cons, List.not_mem_nil, or_false] at hd
   rcases hd with rfl | rfl | rfl | rfl | rfl | rfl <;> assumption
end
section
variable {σ σ0 : Store}
section
variable {c0 c1 c2 c3 c4 : D} {c : Cf} (hc : ∀ s, CfAt s c0 c1 c2 c3 c4 c)
def Does (σ0 : Store) (c0 c1 c2 c3 c4 : D) (c : Cf) (k : Co) (f : FuncId) (bs : List A) (E : Int) (Y : Co) (s : Store) : Prop :=
 ∀ id d0 d1 d2 d3 d4 d5 s1, Ext s s1 → CoIn σ0 s1 id t_locks_desk (cfC c0 c1 c2 c3 c4 c) [] d0 d1 d2 d3 d4 d5 k →
   DCalls Tryz.prog f ([] ++ [.one (.el (.osl id 0 1) 0 0)] ++ bs) s1 fun r s' => r = .a (iA E) ∧ Ext σ0 s' ∧ (E = 0 → CoIn σ0 s' id t_locks_desk (cfC c0 c1 c2 c3 c4 c) [] d0 d1 d2 d3 d4 d5 Y)
include hc
theorem locks_change_ok {k0 k1 k2 k3 k4 k5 : D} {k Y : Co} {E : Int} {f : FuncId} {b : List (Bool × List D)} {bs : List A} (h : CoAt σ k0 k1 k2 k3 k4 k5 k) (hf : CoFit k0 k1 k2 k3 k4 k5 k) (now : Int) (hb : capAs b = some bs)
   (hd : k.fits c = true → tm 0 now = true → Does σ c0 c1 c2 c3 c4 c k f bs E Y σ) :
   DCalls Tryz.prog n_locks_change [cfA c0 c1 c2 c3 c4 c, coA k0 k1 k2 k3 k4 k5 k.Dirty, iA now, .one (.fn f [] b)] σ (CoPost σ (k.done (k.gate c now E) Y)) := by
 refine W_locks_change _ _ _ _ _ _ _ _ _ k0 k1 k2 k3 k4 k5 k.Dirty now _ σ _ ((locks_open_ok hc h hf).mono ?_)
 rintro r s1 ⟨id, d0, d1, d2, d3, d4, d5, rfl, hI⟩
 refine ⟨_, _, rfl, ?_⟩
 intro R hR
 have bad : ∀ (e : Int) s, Ext σ s → e ≠ 0 → k.gate c now E = e → R e s := fun e s he hne hg => by
   refine hR e s ?_
   rw [show (e != 0) = true by simpa using hne]
   refine (locks_open_ok hc (h.ext' he) hf).mono ?_
   rintro r s2 ⟨id, d0, d1, d2, d3, d4, d5, rfl, hI2⟩
   refine ⟨_, _, rfl, trivial, _, _, _, rfl, _, box_row hI2.row, d0, d1, d2, d3, d4, d5, k.Dirty, rfl, ?_⟩
   rw [Co.done, hg, if_neg hne]
   exact ⟨d0, d1, d2, d3, d4, d5, rfl, hI2.co.from he⟩
 refine bcnot (fun e1 => ⟨rfl, bad 21 s1 hI.ext (by decide) (by rw [Co.gate, if_pos e1])⟩) (fun e1 => ?_)
 have hg1 : k.gate c now E = if tm 0 now = false then 32 else E := by rw [Co.gate, if_neg (by rw [e1]; decide)]
 refine newObj_intro fun id2 s2 hid2 _ he2 hs2 => ?_
 have hat : At Tryz.prog s2 t_int (.osl id2 0 1) ([now].map Go.Fw.encI) := At.fresh hs2 (by simp) rfl
 refine (locks_times_ok 0 (by omega) hat).use ⟨_, rfl, ?_⟩
 have ht : ([now].all fun n => decide (0 ≤ n ∧ n ≤ 4294967295 + 0)) = tm 0 now := by simp [tm]
 rw [ht]
 refine bcnot (fun e2 => ⟨rfl, bad 32 s2 (hI.ext.trans he2) (by decide) (by rw [hg1, if_pos e2])⟩) (fun e2 => ?_)
 rw [if_neg (by rw [e2]; decide)] at hg1
 have hI2 : CoIn σ s2 id t_locks_desk (cfC c0 c1 c2 c3 c4 c) [] d0 d1 d2 d3 d4 d5 k :=
   ⟨hI.new, (he2 id (by rw [hI.row]; intro e; cases e)).trans hI.row, ⟨hI.co.own.ext' he2, hI.co.routes.ext' he2, hI.co.points.ext' he2, hI.co.xs.ext' he2, hI.co.lines.ext' he2, hI.co.resets.ext' he2, hI.co.apart⟩, hI.ids⟩
 refine ⟨f, [], b, [], bs, rfl, rfl, hb, (hd e1 e2 id d0 d1 d2 d3 d4 d5 s2 (hI.ext.trans he2) hI2).mono ?_⟩
 rintro r s3 ⟨rfl, he3, hy⟩
 refine ⟨E, rfl, rfl, ?_⟩
 by_cases hE : E = 0
 · subst hE
   have hI3 := hy rfl
   refine hR 0 s3 ?_
   refine ⟨trivial, _, _, _, rfl, _, box_row hI3.row, d0, d1, d2, d3, d4, d5, Y.Dirty, rfl, ?_⟩
   rw [Co.done, hg1, if_pos rfl]
   exact ⟨d0, d1, d2, d3, d4, d5, rfl, hI3.co⟩
 · exact bad E s3 he3 hE hg1
omit hc
variable {id : Nat} {t : TypeId} {d0 d1 d2 d3 d4 d5 : D} {k : Co}
theorem desk_state_ok (hI : CoIn σ0 σ id t (cfC c0 c1 c2 c3 c4 c) [] d0 d1 d2 d3 d4 d5 k) (r : Int) :
   Pure Tryz.prog n_locks_desk_state [.one (.el (.osl id 0 1) 0 0), iA r] σ (match geti k.Routes r with | none => .tup [.one .nilp, iA 20] | some _ => .tup [.one (.el d1 r.toNat 0), iA 0]) := by
 have hs := hI.at.routes.size
 rw [List.length_map] at hs
 refine W_locks_desk_state _ r σ _ ⟨trivial, _, _, _, rfl, _, box_row hI.row, d1, rfl, hI.at.routes.lenK ((locks_between_ok _ _ _).use ⟨_, rfl, ?_⟩)⟩
 rw [List.length_map, w64_id (by omega) (by omega)]
 refine bcnot (fun e => ?_) (fun e => ?_)
 · have e := of_decide_eq_false e
   have : geti k.Routes r = none := by
     by_cases h0 : r < 0
     · exact geti_neg h0
     · exact geti_ge (by omega)
   rw [this]; exact ⟨rfl, rfl⟩
 · have e := of_decide_eq_true e
   obtain ⟨x, hx⟩ := geti_ex (l := k.Routes) (i := r) (by omega) (by omega)
   rw [hx]
   refine ⟨trivial, _, _, _, rfl, _, box_row hI.row, d1, rfl, hI.at.routes.idxK c_RouteState (Int.toNat_of_nonneg e.1).symm (by rw [List.length_map]; omega) ⟨rfl, rfl⟩⟩
include hc
theorem desk_inherits_ok (hI : CoIn σ0 σ id t (cfC c0 c1 c2 c3 c4 c) [] d0 d1 d2 d3 d4 d5 k) {r s o : Int} (ho : geti k.Own s = some o) (hlo : -2 ≤ o ∧ o ≤ c.Rts.length) (hr : 0 ≤ r ∧ r < c.Rts.length) :
   Pure Tryz.prog n_locks_desk_inherits [.one (.el (.osl id 0 1) 0 0), iA r, iA s] σ (.a (bA (k.inh c r s))) := by
 obtain ⟨g1, g2, g3⟩ := geti_some ho
 have w : w64 (o - 1) = o - 1 := w64_id (by omega) (by have := (rts_len (hc σ)); obtain ⟨rows, ha, hl⟩ := this; have := ha.size; omega)
 have hi : k.inh c r s = (decide (0 ≤ o - 1 ∧ o - 1 ≠ r) && (decide ((c.rt (o - 1)).Exit = (c.rt r).Entry) && inL (c.rt (o - 1)).Overlap s)) := by
   unfold Co.inh; rw [ho]; rfl
 have no : ¬ (0 ≤ o - 1 ∧ o - 1 ≠ r) → k.inh c r s = false := fun e => by rw [hi, decide_eq_false e]; rfl
 refine W_locks_desk_inherits _ r s σ _ ⟨trivial, _, _, _, rfl, _, box_row hI.row, d0, rfl, hI.at.own.load (map_get g3) c_int (Int.toNat_of_nonneg g1).symm ⟨o, rfl, ?_⟩⟩
 rw [w]
 refine bcd (fun e => by rw [no (by omega)]; exact ⟨rfl, rfl⟩) (fun e1 => bce (fun e => by rw [no (by omega)]; exact ⟨rfl, rfl⟩) (fun e2 => ?_))
 obtain ⟨q, hq⟩ := geti_ex (l := c.Rts) (i := o - 1) e1 (by omega)
 obtain ⟨x, hx⟩ := geti_ex (l := c.Rts) (i := r) (by omega) (by omega)
 obtain ⟨rows, q1, q2, q3, hat, hlen, hrow, f1, f2, f3⟩ := rt_frz hc (geti_some hq).2.2
 obtain ⟨rows', x1, x2, x3, hat', hlen', hrow', _, _, _⟩ := rt_frz hc (geti_some hx).2.2
 rw [hi, decide_eq_true (by omega), rt_some hq, rt_some hx, Bool.true_and]
 refine ⟨trivial, _, _, _, rfl, _, box_row hI.row, c4, rfl, (hat σ).load hrow c_Route (by omega) ⟨_, _, _, _, _, _, rfl, trivial, _, _, _, rfl, _, box_row hI.row, c4, rfl, (hat' σ).load hrow' c_Route (by omega) ⟨x.Entry, rfl, bce (fun e => ?_) (fun e => ?_)⟩⟩⟩
 · exact (Contains_int_ok s (f3 σ)).use ⟨_, rfl, by rw [decide_eq_true e]; exact ⟨rfl, rfl⟩⟩
 · rw [decide_eq_false e]; exact ⟨rfl, rfl⟩
theorem desk_may_ok' (hI : CoIn σ0 σ id t (cfC c0 c1 c2 c3 c4 c) [] d0 d1 d2 d3 d4 d5 k) {r : Int} {ds : D} {l : List Int} (hl : At Tryz.prog σ t_int ds (l.map Go.Fw.encI)) (hr : 0 ≤ r ∧ r < c.Rts.length)
   (hin : ∀ s ∈ l, ∃ o, geti k.Own s = some o) (hlo : ∀ o ∈ k.Own, -2 ≤ o ∧ o ≤ c.Rts.length) :
   Pure Tryz.prog n_locks_desk_may [.one (.el (.osl id 0 1) 0 0), iA r, .one ds] σ (.a (iA (k.may c r l))) := by
 have hs := hI.at.routes.size
 rw [List.length_map] at hs
 have hls := hl.size
 rw [List.length_map] at hls
 refine W_locks_desk_may _ r _ σ _ ⟨trivial, _, _, _, rfl, _, box_row hI.row, d1, rfl, hI.at.routes.lenK ⟨fun n s => s = σ ∧ Rng k.Routes (fun q => apprS c l q n.toNat = apprS c l k.Routes 0) n, fun n _ => k.Routes.length - n.toNat, ⟨rfl, .start rfl⟩, ?_⟩⟩
 rintro n s ⟨rfl, hq⟩
 rw [List.length_map]
 refine bcd (fun hlt => ?_) (fun hge => ?_)
 · obtain ⟨j, x, rfl, hx, hj, hF, nx⟩ := hq.step rfl (by omega) hlt
   rw [apprS, Int.toNat_natCast] at hF
   have next : (decide (x.State ≠ 0) && inL l (c.Approach j)) = false → (s = s ∧ Rng k.Routes (fun q => apprS c l q (w64 ((j : Int) + 1)).toNat = apprS c l k.Routes 0) (w64 ((j : Int) + 1))) ∧ k.Routes.length - (w64 ((j : Int) + 1)).toNat < k.Routes.length - (j : Int).toNat := fun e => by
     rw [e, Bool.false_or] at hF
     exact andl rfl (nx _ (by rw [w64_succ (by omega), Int.toNat_natCast]; exact hF))
   refine hI.at.routes.load (map_get hx) c_RouteState rfl ⟨x.State, x.Since, x.Next, x.Mark, rfl, bcn (fun e => ?_) (fun e => next (by rw [decide_eq_false (by simpa using e)]; rfl))⟩
   refine ⟨trivial, _, _, _, rfl, _, box_row hI.row, c0, c1, c2, c3, c4, _, _, _, _, rfl, (conf_Approach_ok (hc s) j).use ⟨_, rfl, (Contains_int_ok _ hl).use ⟨_, rfl, bc (fun e2 => ?_) (fun e2 => next (by rw [e2, Bool.and_false]))⟩⟩⟩
   have : apprS c l k.Routes 0 = true := by rw [← hF, e2, decide_eq_true e]; rfl
   rw [Co.may, if_pos this]; exact ⟨rfl, rfl⟩
 · have hF := hq.done rfl hge
   have hap : apprS c l k.Routes 0 = false := by rw [← hF]; rfl
   have hm : k.may c r l = if k.blocked c r l = true then 22 else 0 := by rw [Co.may, if_neg (by rw [hap]; decide)]
   rw [hm]
   refine hl.lenK ⟨fun n s' => s' = s ∧ Rng l (fun q => k.blocked c r q = k.blocked c r l) n, fun n _ => l.length - n.toNat, ⟨rfl, .start rfl⟩, ?_⟩
   rintro n s' ⟨rfl, hq⟩
   rw [List.length_map]
   refine bcd (fun hlt => ?_) (fun hge => ?_)
   · obtain ⟨j, v, rfl, hv, hj, hF, nx⟩ := hq.step rfl (by omega) hlt
     obtain ⟨o, ho⟩ := hin v (List.mem_of_getElem? hv)
     obtain ⟨g1, g2, g3⟩ := geti_some ho
     have hF : ((decide ((geti k.Own v).getD 0 ≠ 0) && !k.inh c r v) || k.blocked c r (l.drop (j + 1))) = k.blocked c r l := hF
     rw [ho, Option.getD_some] at hF
     refine hl.load (map_get hv) c_int rfl ⟨v, rfl, trivial, _, _, _, rfl, _, box_row hI.row, d0, rfl, hI.at.own.load (map_get g3) c_int (Int.toNat_of_nonneg g1).symm ⟨o, rfl, bcn (fun e => ?_) (fun e => ?_)⟩⟩
     · refine (desk_inherits_ok hc hI ho (hlo o (geti_mem ho)) hr).use ⟨_, rfl, bcnot (fun e2 => ?_) (fun e2 => ?_)⟩
       · rw [e2, decide_eq_true e] at hF
         rw [if_pos (by rw [← hF]; rfl)]; exact ⟨rfl, rfl⟩
       · rw [e2, Bool.not_true, Bool.and_false, Bool.false_or] at hF
         exact andl rfl (nx _ hF)
     · rw [decide_eq_false (by simpa using e), Bool.false_and, Bool.false_or] at hF
       exact andl rfl (nx _ hF)
   · have hF := hq.done rfl hge
     rw [if_neg (by rw [← hF]; show ¬ (false = true); decide)]; exact ⟨rfl, rfl⟩
end
end
section
variable {σ σ0 : Store}
def cmdPre (xs : List A) (s : Store) : Prop := ∃ (m : Mv) (now cmd : Int), xs = [.agg m.enc, iA now, iA cmd]
def cmdPost (xs : List A) (s : Store) (r : RV) (s' : Store) : Prop := ∃ (m : Mv) (now cmd : Int), xs = [.agg m.enc, iA now, iA cmd] ∧ r = .a (.agg (cmdM m now cmd).enc) ∧ s' = s
theorem mover_Command_ok (m : Mv) (now cmd : Int) : Pure Tryz.prog n_mover_Command [.agg m.enc, iA now, iA cmd] σ (.a (.agg (cmdM m now cmd).enc)) :=
 W_mover_Command m.Cmd m.Other now cmd σ _ (bcn (fun e => ⟨by rw [cmdM, if_pos e]; rfl, rfl⟩) (fun e => ⟨by rw [cmdM, if_neg (by simpa using e)]; rfl, rfl⟩))
theorem cmd_spec : SpecOk Tryz.prog n_mover_Command cmdPre cmdPost := by
 refine ⟨?_, ?_, ?_, ?_, ?_⟩
 · rintro xs s ⟨m, now, cmd, rfl⟩
   exact (mover_Command_ok m now cmd).use ⟨m, now, cmd, rfl, rfl, rfl⟩
 · rintro xs s ⟨m, now, cmd, rfl⟩ hf
   exact ⟨_, s, ⟨m, now, cmd, rfl, rfl, rfl⟩, hf⟩
 · rintro xs s r s' ⟨m, now, cmd, rfl, rfl, rfl⟩ hf
   exact hf
 · rintro xs s id so hid hso ⟨m, now, cmd, rfl⟩
   refine ⟨⟨m, now, cmd, rfl⟩, ?_⟩
   rintro r s' ⟨m, now, cmd, e, rfl, rfl⟩
   exact ⟨s, ⟨m, now, cmd, e, rfl, rfl⟩, hid, rfl⟩
 · rintro xs s r s' _ ⟨m, now, cmd, rfl, rfl, rfl⟩ i _
   rfl
theorem cmd_post {m : Mv} {now cmd : Int} {s s' : Store} {r : RV} (h : cmdPost [.agg m.enc, iA now, iA cmd] s r s') : r = .a (.agg (cmdM m now cmd).enc) ∧ s' = s := by
 obtain ⟨m', now', cmd', e, h1, h2⟩ := h
 injection e with e1 e2
 injection e2 with e2 e3
 injection e3 with e3 _
 injection e1 with e1
 injection e2 with e2
 injection e3 with e3
 injection e2 with _ e2
 injection e3 with _ e3
 subst e2 e3
 have : m = m' := by
   cases m; cases m'
   simp [Mv.enc, iD] at e1
   simp [e1]
 subst this
 exact ⟨h1, h2⟩
section
variable {c0 c1 c2 c3 c4 : D} {c : Cf} (hc : ∀ s, CfAt s c0 c1 c2 c3 c4 c) {id : Nat} {t : TypeId} {d0 d1 d2 d3 d4 d5 : D} {k : Co}
include hc
theorem desk_line_ok' (hI : CoIn σ0 σ id t (cfC c0 c1 c2 c3 c4 c) [] d0 d1 d2 d3 d4 d5 k) (hok : c.check = 0) (hl4 : k.Lines.length = 4) {r : Int} {x : Rt} (hx : geti c.Rts r = some x) :
   Pure Tryz.prog n_locks_desk_line [.one (.el (.osl id 0 1) 0 0), iA r] σ (.a (.one (if lineF c x.Path > 0 then .el d4 (lineF c x.Path).toNat 0 else .nilp))) := by
 have hr := check_rt hok (geti_mem hx)
 obtain ⟨rows, q1, q2, q3, hat, hlen, hrow, f1, f2, f3⟩ := rt_frz hc (geti_some hx).2.2
 have hg := geti_some hx
 have w1 := hr.len
 refine W_locks_desk_line _ r σ _ ⟨trivial, _, _, _, rfl, _, box_row hI.row, c4, rfl, (hat σ).load hrow c_Route (by omega) ⟨q1, rfl, (f1 σ).lenK ⟨fun n s => s = σ ∧ Rng x.Path (fun q => lineF c q = lineF c x.Path) n, fun n _ => x.Path.length - n.toNat, ⟨rfl, .start rfl⟩, ?_⟩⟩⟩
 rintro n s ⟨rfl, hq⟩
 rw [List.length_map]
 refine bcd (fun hlt => ?_) (fun hge => ?_)
 · obtain ⟨j, y, rfl, hy, hj, hF, nx⟩ := hq.step rfl (by omega) hlt
   obtain ⟨z, hz, _⟩ := (hr.step y (List.mem_of_getElem? hy)).1.sec
   have hgz := geti_some hz
   rw [lineF, hz, Option.getD_some] at hF
   refine (f1 s).load (map_get hy) c_Step rfl ⟨y.Sec, y.In, y.Out, rfl, trivial, _, _, _, rfl, _, box_row hI.row, c0, rfl, (hc s).secs.load (map_get hgz.2.2) c_Section (Int.toNat_of_nonneg hgz.1).symm ⟨z.Line, rfl, bcd (fun e => ?_) (fun e => ?_)⟩⟩
   · rw [if_pos e] at hF
     rw [← hF, if_pos e]
     have hz3 := topo_line (check_parts hok).1 hgz.2.2
     exact ⟨trivial, _, _, _, rfl, _, box_row hI.row, d4, rfl, hI.at.lines.idxK c_LineState (Int.toNat_of_nonneg (by omega)).symm (by rw [List.length_map]; omega) ⟨rfl, rfl⟩⟩
   · rw [if_neg e] at hF
     exact andl rfl (nx _ hF)
 · have hF := hq.done rfl hge
   rw [← hF]; exact ⟨rfl, rfl⟩
theorem desk_request_ok (hI : CoIn σ0 σ id t (cfC c0 c1 c2 c3 c4 c) [] d0 d1 d2 d3 d4 d5 k) (hz : RtsNz c4) (hfit : k.fits c = true) (now r : Int) :
   DCalls Tryz.prog n_locks_desk_request [.one (.el (.osl id 0 1) 0 0), iA now, iA r] σ fun q s' => q = .a (iA (k.reqE c r)) ∧ Ext σ0 s' ∧ (k.reqE c r = 0 → CoIn σ0 s' id t (cfC c0 c1 c2 c3 c4 c) [] d0 d1 d2 d3 d4 d5 (k.lockC c now r)) := by
 have hfi := fits_iff.1 hfit
 have hok := hfi.chk
 have err : ∀ e : Int, k.reqE c r = e → e ≠ 0 → (RV.a (iA e) = RV.a (iA (k.reqE c r)) ∧ Ext σ0 σ ∧ (k.reqE c r = 0 → CoIn σ0 σ id t (cfC c0 c1 c2 c3 c4 c) [] d0 d1 d2 d3 d4 d5 (k.lockC c now r))) := fun e h1 h2 =>
   ⟨by rw [h1], hI.ext, fun h3 => absurd (h1.symm.trans h3) h2⟩
 refine W_locks_desk_request _ now r σ _ ((desk_state_ok hI r).use ?_)
 cases hgr : geti k.Routes r with
 | none => exact ⟨_, _, rfl, err 20 (by rw [Co.reqE, hgr]) (by decide)⟩
 | some x =>
   have hgx := geti_some hgr
   have hsz := hI.at.routes.size
   rw [List.length_map] at hsz
   have hxl := (List.getElem?_eq_some_iff.1 hgx.2.2).1
   have hE : k.reqE c r = if x.State ≠ 0 then 28 else if k.may c r (c.lockL r) ≠ 0 then k.may c r (c.lockL r) else if lineF c (c.rt r).Path > 0 ∧ ((geti k.Lines (lineF c (c.rt r).Path)).getD zLs).Ask ≥ 4294967295 then 5 else 0 := by
     rw [Co.reqE, hgr]
   obtain ⟨y, hy, hym⟩ := rt_of hfi hgr
   have hrok := check_rt hok hym
   have hyl := (List.getElem?_eq_some_iff.1 (geti_some hy).2.2).1
   have hcl : c.Rts.length = k.Routes.length := hfi.lRts.symm
   have hll : c.lockL r = Cf.lockR y := by unfold Cf.lockL; rw [hy]
   have hsec : ∀ s ∈ c.lockL r, ∃ z, geti c.Secs s = some z := fun s hs => lockR_sec hrok (by rw [← hll]; exact hs)
   refine ⟨_, _, rfl, ?_⟩
   show bcase ((0 : Int) != 0) _ _
   rw [show ((0 : Int) != 0) = false from by decide]
   refine ⟨trivial, _, _, _, rfl, _, hI.at.routes.row (map_get hgx.2.2), x.State, rfl, bcn (fun e => err 28 (by rw [hE, if_pos e]) (by decide)) (fun e1 => ?_)⟩
   rw [if_neg (by simpa using e1)] at hE
   refine ⟨trivial, _, _, _, rfl, _, box_row hI.row, c0, c1, c2, c3, c4, _, _, _, _, rfl, (conf_Locks_ok hc hok hz r).mono ?_⟩
   rintro q s ⟨rfl, d7, rfl, h7⟩
   have hin : ∀ v ∈ c.lockL r, ∃ o, geti k.Own v = some o := fun v hv => by
     obtain ⟨z, hz⟩ := hsec v hv
     have hg := geti_some hz
     have := (List.getElem?_eq_some_iff.1 hg.2.2).1
     exact geti_ex (by omega) (by have := hfi.lOwn; omega)
   refine ⟨d7, rfl, (desk_may_ok' hc hI (h7 s) (by omega) hin hfi.own).use ⟨_, rfl, bcn (fun e => err _ (by rw [hE, if_pos e]) e) (fun e2 => ?_)⟩⟩
   rw [if_neg (by simpa using e2), rt_some hy] at hE
   intro R hR
   have body : (lineF c y.Path > 0 → ((geti k.Lines (lineF c y.Path)).getD zLs).Ask < 4294967295) → ∀ s3, CoIn σ0 s3 id t (cfC c0 c1 c2 c3 c4 c) [] d0 d1 d2 d3 d4 d5 { k with Lines := askC (lineF c y.Path) k.Lines } → R s3 := by
     intro hask s3 hI3
     have hE0 : k.reqE c r = 0 := by rw [hE, if_neg (by intro h; have := hask h.1; omega)]
     refine hR s3 ?_
     have hz7 := (h7 s3).size
     rw [List.length_map] at hz7
     refine (h7 s3).lenK ⟨fun n s => ∃ j : Nat, n = j ∧ j ≤ (c.lockL r).length ∧ CoIn σ0 s id t (cfC c0 c1 c2 c3 c4 c) [] d0 d1 d2 d3 d4 d5 { k with Lines := askC (lineF c y.Path) k.Lines, Own := ((c.lockL r).take j).foldl (fun w s => w.set s.toNat (r + 1)) k.Own },
       fun n _ => (c.lockL r).length - n.toNat, ⟨0, rfl, by omega, by simpa using hI3⟩, ?_⟩
     rintro n s4 ⟨j, rfl, hj, hI4⟩
     rw [List.length_map]
     refine bcd (fun hlt => ?_) (fun hge => ?_)
     · obtain ⟨v, hv⟩ := get_of_lt (l := c.lockL r) (j := j) (by omega)
       obtain ⟨o, ho⟩ := hin v (List.mem_of_getElem? hv)
       have hgo := geti_some ho
       have hvl := (List.getElem?_eq_some_iff.1 hgo.2.2).1
       have hlo := ownC_len (r + 1) ((c.lockL r).take j) k.Own
       obtain ⟨o', ho'⟩ := get_of_lt (l := ((c.lockL r).take j).foldl (fun w s => w.set s.toNat (r + 1)) k.Own) (j := v.toNat) (by omega)
       refine (h7 s4).load (map_get hv) c_int rfl ⟨v, rfl, trivial, _, _, _, rfl, _, box_row hI4.row, d0, rfl, hI4.at.own.idxK c_int (Int.toNat_of_nonneg hgo.1).symm (by simp only [List.length_map]; omega) ?_⟩
       rw [w64_id (n := r + 1) (by omega) (by omega)]
       refine hI4.putO (k := { k with Lines := askC (lineF c y.Path) k.Lines, Own := ((c.lockL r).take j).foldl (fun w s => w.set s.toNat (r + 1)) k.Own }) (y := r + 1) ho' rfl (by simp) rfl fun s5 hI5 _ => ?_
       rw [w64_succ (by omega)]
       refine ⟨⟨j + 1, rfl, by omega, ?_⟩, dec_lt (by omega)⟩
       rw [List.take_add_one, hv, List.foldl_append]
       exact hI5
     have e : j = (c.lockL r).length := by omega
     rw [e, List.take_length] at hI4
     have hxr := hgx.2.2
     refine ⟨trivial, _, _, _, rfl, hI4.putR (k := { k with Lines := askC (lineF c y.Path) k.Lines, Own := (c.lockL r).foldl (fun w s => w.set s.toNat (r + 1)) k.Own }) (y := ⟨1, 0, 0, 0⟩) hxr rfl (by simp) rfl fun s5 hI5 _ => ?_⟩
     have hyn : (c.rt r).Path.length ≤ 2 ^ 20 := by rw [rt_some hy]; have := hrok.len; omega
     have hyf : (c.rt r).Flank.length ≤ 2 ^ 20 := by rw [rt_some hy]; have := hrok.flen; omega
     refine ⟨trivial, _, _, _, rfl, _, box_row hI5.row, c0, c1, c2, c3, c4, _, _, _, _, rfl, (mover_Needs_ok hc r hyn hyf).mono ?_⟩
     rintro q s6 ⟨rfl, d13, rfl, h13⟩
     have hnl : (c.Needs r).length ≤ 41 := by
       rw [Cf.Needs, rt_some hy]
       have := needs_len c y
       have := hrok.len; have := hrok.flen; omega
     refine ⟨d13, rfl, (h13 s6).lenK ⟨fun n s => ∃ j : Nat, n = j ∧ j ≤ (c.Needs r).length ∧ CoIn σ0 s id t (cfC c0 c1 c2 c3 c4 c) [] d0 d1 d2 d3 d4 d5 { k with Lines := askC (lineF c y.Path) k.Lines, Own := (c.lockL r).foldl (fun w s => w.set s.toNat (r + 1)) k.Own, Routes := k.Routes.set r.toNat ⟨1, 0, 0, 0⟩, Points := ptsC now ((c.Needs r).take j) k.Points },
       fun n _ => (c.Needs r).length - n.toNat, ⟨0, rfl, by omega, hI5⟩, ?_⟩⟩
     rintro n s7 ⟨j, rfl, hj, hI7⟩
     rw [List.length_map]
     refine bcd (fun hlt => ?_) (fun hge => ?_)
     · obtain ⟨nd, hnd⟩ := get_of_lt (l := c.Needs r) (j := j) (by omega)
       have hnm := List.mem_of_getElem? hnd
       obtain ⟨⟨z, hz⟩, _⟩ := needs_sec hrok (by rw [Cf.Needs, rt_some hy] at hnm; exact hnm)
       have hgz := geti_some hz
       have hzl := (List.getElem?_eq_some_iff.1 hgz.2.2).1
       have hpl := ptsC_len now ((c.Needs r).take j) k.Points
       have hpl2 := hfi.lPts
       obtain ⟨m, hm⟩ := get_of_lt (l := ptsC now ((c.Needs r).take j) k.Points) (j := nd.Sec.toNat) (by omega)
       have hgm : geti (ptsC now ((c.Needs r).take j) k.Points) nd.Sec = some m := by unfold geti; rw [if_neg (by omega), hm]
       refine (h13 s7).load (map_get hnd) c_Need rfl ⟨nd.Sec, nd.Pos, rfl, cmdPre, cmdPost, cmd_spec, trivial, _, _, _, rfl, _, box_row hI7.row, d2, rfl, trivial, _, _, _, rfl, _, box_row hI7.row, d2, rfl,
         hI7.at.points.load (map_get hm) c_Mover (Int.toNat_of_nonneg hgz.1).symm ⟨m.Cmd, m.Other, rfl, ⟨m, now, nd.Pos, rfl⟩, ?_⟩⟩
       intro q s8 hq
       obtain ⟨rfl, rfl⟩ := cmd_post (m := m) hq
       refine ⟨_, _, rfl, hI7.at.points.idxK c_Mover (Int.toNat_of_nonneg hgz.1).symm (by simp only [List.length_map]; omega) ?_⟩
       refine hI7.putP (k := { k with Lines := askC (lineF c y.Path) k.Lines, Own := (c.lockL r).foldl (fun w s => w.set s.toNat (r + 1)) k.Own, Routes := k.Routes.set r.toNat ⟨1, 0, 0, 0⟩, Points := ptsC now ((c.Needs r).take j) k.Points }) (y := cmdM m now nd.Pos) hm rfl (by simp) rfl fun s9 hI9 _ => ?_
       rw [w64_succ (by omega)]
       refine ⟨⟨j + 1, rfl, by omega, ?_⟩, dec_lt (by omega)⟩
       have e : ptsC now ((c.Needs r).take (j + 1)) k.Points = (ptsC now ((c.Needs r).take j) k.Points).set nd.Sec.toNat (cmdM m now nd.Pos) := by
         rw [List.take_add_one, hnd, ptsC, List.foldl_append]
         show (ptsC now ((c.Needs r).take j) k.Points).set nd.Sec.toNat (cmdM ((geti (ptsC now ((c.Needs r).take j) k.Points) nd.Sec).getD ⟨0, 0⟩) now nd.Pos) = _
         rw [hgm]; rfl
       rw [e]; exact hI9
     have e : j = (c.Needs r).length := by omega
     rw [e, List.take_length] at hI7
     have hxs := (check_xs hok).2.2
     refine ⟨trivial, _, _, _, rfl, _, box_row hI7.row, c0, c1, c2, c3, c4, _, _, _, _, rfl, (mover_Crossings_ok hc r (by omega)).mono ?_⟩
     rintro q s8 ⟨rfl, d19, rfl, h19⟩
     have hcl2 : (c.Cross r).length ≤ c.Xs.length := crossL_len _ _ _
     refine ⟨d19, rfl, (h19 s8).lenK ⟨fun n s => ∃ j : Nat, n = j ∧ j ≤ (c.Cross r).length ∧ CoIn σ0 s id t (cfC c0 c1 c2 c3 c4 c) [] d0 d1 d2 d3 d4 d5 { k with Lines := askC (lineF c y.Path) k.Lines, Own := (c.lockL r).foldl (fun w s => w.set s.toNat (r + 1)) k.Own, Routes := k.Routes.set r.toNat ⟨1, 0, 0, 0⟩, Points := ptsC now (c.Needs r) k.Points, Xs := xsC now ((c.Cross r).take j) k.Xs },
       fun n _ => (c.Cross r).length - n.toNat, ⟨0, rfl, by omega, hI7⟩, ?_⟩⟩
     rintro n s9 ⟨j, rfl, hj, hI9⟩
     rw [List.length_map]
     refine bcd (fun hlt => ?_) (fun hge => ?_)
     · obtain ⟨v, hv⟩ := get_of_lt (l := c.Cross r) (j := j) (by omega)
       obtain ⟨i, xx, e3, hxx, _⟩ := crossL_mem _ _ _ _ (List.mem_of_getElem? hv)
       rw [Nat.zero_add] at e3
       subst e3
       have hil := (List.getElem?_eq_some_iff.1 hxx).1
       have hpl := xsC_len now ((c.Cross r).take j) k.Xs
       have hpl2 := hfi.lXs
       obtain ⟨m, hm⟩ := get_of_lt (l := xsC now ((c.Cross r).take j) k.Xs) (j := i) (by omega)
       have hgm : geti (xsC now ((c.Cross r).take j) k.Xs) (i : Int) = some m := by rw [geti_nat, hm]
       refine (h19 s9).load (map_get hv) c_int rfl ⟨(i : Int), rfl, cmdPre, cmdPost, cmd_spec, trivial, _, _, _, rfl, _, box_row hI9.row, d3, rfl, trivial, _, _, _, rfl, _, box_row hI9.row, d3, rfl,
         hI9.at.xs.load (map_get hm) c_Mover rfl ⟨m.Cmd, m.Other, rfl, ⟨m, now, 1, rfl⟩, ?_⟩⟩
       intro q s10 hq
       obtain ⟨rfl, rfl⟩ := cmd_post (m := m) hq
       refine ⟨_, _, rfl, hI9.at.xs.idxK c_Mover rfl (by simp only [List.length_map]; omega) ?_⟩
       refine hI9.putX (k := { k with Lines := askC (lineF c y.Path) k.Lines, Own := (c.lockL r).foldl (fun w s => w.set s.toNat (r + 1)) k.Own, Routes := k.Routes.set r.toNat ⟨1, 0, 0, 0⟩, Points := ptsC now (c.Needs r) k.Points, Xs := xsC now ((c.Cross r).take j) k.Xs }) (y := cmdM m now 1) hm (by rw [Int.toNat_natCast]) (by simp) rfl fun s11 hI11 _ => ?_
       rw [w64_succ (by omega)]
       refine ⟨⟨j + 1, rfl, by omega, ?_⟩, dec_lt (by omega)⟩
       have e : xsC now ((c.Cross r).take (j + 1)) k.Xs = (xsC now ((c.Cross r).take j) k.Xs).set i (cmdM m now 1) := by
         rw [List.take_add_one, hv, xsC, List.foldl_append]
         show (xsC now ((c.Cross r).take j) k.Xs).set ((i : Int)).toNat (cmdM ((geti (xsC now ((c.Cross r).take j) k.Xs) (i : Int)).getD ⟨0, 0⟩) now 1) = _
         rw [hgm]; rfl
       rw [e]; exact hI11
     have e : j = (c.Cross r).length := by omega
     rw [e, List.take_length] at hI9
     refine ⟨trivial, _, _, _, rfl, hI9.dirty (b := true) rfl fun s10 hI10 _ => ⟨by rw [hE0], hI10.ext, fun _ => ?_⟩⟩
     have : k.lockC c now r = { k with Lines := askC (lineF c y.Path) k.Lines, Own := (c.lockL r).foldl (fun w s => w.set s.toNat (r + 1)) k.Own, Routes := k.Routes.set r.toNat ⟨1, 0, 0, 0⟩, Points := ptsC now (c.Needs r) k.Points, Xs := xsC now (c.Cross r) k.Xs, Dirty := true } := by
       rw [Co.lockC, rt_some hy]
     rw [this]; exact hI10
   refine (desk_line_ok' hc hI hok hfi.lLn hy).use ⟨_, rfl, ?_⟩
   by_cases hl : lineF c y.Path > 0
   · rw [if_pos hl]
     have hl3 := (line_ok hok y.Path).2
     obtain ⟨u, hu⟩ := get_of_lt (l := k.Lines) (j := (lineF c y.Path).toNat) (by have := hfi.lLn; omega)
     have hgu : geti k.Lines (lineF c y.Path) = some u := by unfold geti; rw [if_neg (by omega), hu]
     refine ⟨false, rfl, ?_⟩
     show bcase (false != true) _ _
     rw [show (false != true) = true from by decide]
     refine ⟨trivial, _, _, _, rfl, _, hI.at.lines.row (map_get hu), u.Ask, rfl, bcd (fun e => err 5 (by rw [hE, if_pos ⟨hl, by rw [hgu]; exact e⟩]) (by decide)) (fun e3 => ?_)⟩
     refine ⟨trivial, _, _, _, rfl, _, hI.at.lines.row (map_get hu), u.Ask, rfl, trivial, _, _, _, rfl, ?_⟩
     have hua := (hfi.lns u (List.mem_of_getElem? hu))
     simp only [Ls.fits, tm, Bool.and_eq_true, decide_eq_true_eq] at hua
     rw [w64_id (n := u.Ask + 1) (by omega) (by omega)]
     refine hI.putL (y := { u with Ask := u.Ask + 1 }) hu rfl (by simp) rfl fun s4 hI4 _ => body (fun _ => by rw [hgu]; show u.Ask < 4294967295; omega) s4 ?_
     have : askC (lineF c y.Path) k.Lines = k.Lines.set (lineF c y.Path).toNat { u with Ask := u.Ask + 1 } := by rw [askC, if_pos hl, hgu]; rfl
     rw [this]; exact hI4
   · rw [if_neg hl]
     refine ⟨true, rfl, ?_⟩
     show bcase (true != true) _ _
     rw [show (true != true) = false from by decide]
     refine body (fun h => absurd h hl) s ?_
     have : askC (lineF c y.Path) k.Lines = k.Lines := by rw [askC, if_neg hl]
     rw [this]; exact hI
end
end
section
variable {σ σ0 : Store}
theorem live_ext {s s' : Store} {id : Nat} {t : TypeId} {rows : List (List D)} (h : s id = .live t rows) (he : Ext s s') : s' id = .live t rows := (he id (by rw [h]; intro e; cases e)).trans h
theorem CoPost.from {σ1 s : Store} {p : Co × Int} {r : RV} (he : Ext σ σ1) (h : CoPost σ1 p r s) : CoPost σ p r s := by
 obtain ⟨d0, d1, d2, d3, d4, d5, e, ho⟩ := h
 exact ⟨d0, d1, d2, d3, d4, d5, e, ho.from he⟩
theorem CoPost.pass {s : Store} {p : Co × Int} {r : RV} {Q : RV → Store → Prop} (h : CoPost σ p r s) (hq : Q r s) :
   ∃ d d1 d2 d3 d4 d5 : D, ∃ b : Bool, ∃ n1 : Int, r = .tup [.agg [d, d1, d2, d3, d4, d5, .bool b], .one (.int .i64 n1)] ∧ Q (.tup [.agg [d, d1, d2, d3, d4, d5, .bool b], .one (.int .i64 n1)]) s := by
 obtain ⟨d0, d1, d2, d3, d4, d5, e, ho⟩ := h
 refine ⟨d0, d1, d2, d3, d4, d5, p.1.Dirty, p.2, e, ?_⟩
 rw [← e]; exact hq
section
variable {c0 c1 c2 c3 c4 k0 k1 k2 k3 k4 k5 : D} {c : Cf} (hc : ∀ s, CfAt s c0 c1 c2 c3 c4 c) {k : Co} (h : CoAt σ k0 k1 k2 k3 k4 k5 k) (hf : CoFit k0 k1 k2 k3 k4 k5 k)
include hc h hf
theorem locks_Request_ok (hz : RtsNz c4) (now r : Int) : DCalls Tryz.prog n_locks_Request [cfA c0 c1 c2 c3 c4 c, coA k0 k1 k2 k3 k4 k5 k.Dirty, iA now, iA r] σ (CoPost σ (k.requestC c now r)) := by
 refine W_locks_Request _ _ _ _ _ _ _ _ _ k0 k1 k2 k3 k4 k5 k.Dirty now r σ _ (newObj_intro fun id s1 hid _ e1 q1 => newObj_intro fun id1 s2 hid1 _ e2 q2 => ?_)
 have q12 := live_ext q1 e2
 refine ⟨_, box_row q12, now, rfl, (locks_change_ok hc (h.ext' (e1.trans e2)) hf now (bs := [.one (.el (.osl id 0 1) 0 0), .one (.el (.osl id1 0 1) 0 0)]) (E := k.reqE c r) (Y := k.lockC c now r) rfl ?_).mono fun q s3 hp => hp.pass (hp.from (e1.trans e2))⟩
 intro hfit ht id' d0 d1 d2 d3 d4 d5 s3 he hI
 refine W_locks_Request_1 _ _ _ s3 _ ⟨_, _, _, rfl, _, box_row (live_ext q12 he), now, rfl, _, _, _, rfl, _, box_row (live_ext q2 he), r, rfl, (desk_request_ok hc hI hz hfit now r).mono ?_⟩
 rintro q s4 ⟨rfl, w1, w2⟩
 exact ⟨_, rfl, rfl, w1, w2⟩
theorem locks_lead_ok (r to now : Int) {fr : List Int} {fd : D} (hfr : At Tryz.prog σ t_int fd (fr.map Go.Fw.encI)) :
   DCalls Tryz.prog n_locks_lead [cfA c0 c1 c2 c3 c4 c, coA k0 k1 k2 k3 k4 k5 k.Dirty, iA r, iA to, iA now, .one fd] σ (CoPost σ (k.leadC c r to now fr)) := by
 refine W_locks_lead _ _ _ _ _ _ _ _ _ k0 k1 k2 k3 k4 k5 k.Dirty r to now fd σ _ (newObj_intro fun i1 s1 _ _ e1 q1 => newObj_intro fun i2 s2 _ _ e2 q2 => newObj_intro fun i3 s3 _ _ e3 q3 => newObj_intro fun i4 s4 _ _ e4 q4 => ?_)
 have g3 := live_ext q3 e4
 have g2 := live_ext (live_ext q2 e3) e4
 have g1 := live_ext (live_ext (live_ext q1 e2) e3) e4
 have eA : Ext σ s4 := ((e1.trans e2).trans e3).trans e4
 refine ⟨_, box_row g3, now, rfl, (locks_change_ok hc (h.ext' eA) hf now (bs := [.one (.el (.osl i1 0 1) 0 0), .one (.el (.osl i4 0 1) 0 0), .one (.el (.osl i2 0 1) 0 0), .one (.el (.osl i3 0 1) 0 0)]) (E := k.leadE r fr) (Y := k.leadY r to now) rfl ?_).mono fun q s5 hp => hp.pass (hp.from eA)⟩
 intro hfit ht id d0 d1 d2 d3 d4 d5 s he hI
 refine W_locks_lead_1 _ _ _ _ _ s _ ⟨_, _, _, rfl, _, box_row (live_ext g1 he), r, rfl, (desk_state_ok hI r).use ?_⟩
 have err : ∀ e : Int, k.leadE r fr = e → e ≠ 0 → (RV.a (iA e) = RV.a (iA (k.leadE r fr)) ∧ Ext s4 s ∧ (k.leadE r fr = 0 → CoIn s4 s id t_locks_desk (cfC c0 c1 c2 c3 c4 c) [] d0 d1 d2 d3 d4 d5 (k.leadY r to now))) := fun e h1 h2 =>
   ⟨by rw [h1], hI.ext, fun h3 => absurd (h1.symm.trans h3) h2⟩
 cases hgr : geti k.Routes r with
 | none => exact ⟨_, _, rfl, err 20 (by rw [Co.leadE, hgr]) (by decide)⟩
 | some x =>
   have hgx := geti_some hgr
   have hE : k.leadE r fr = if inL fr x.State = false then 28 else 0 := by rw [Co.leadE, hgr]
   have hxl := (List.getElem?_eq_some_iff.1 hgx.2.2).1
   refine ⟨_, _, rfl, ?_⟩
   show bcase ((0 : Int) != 0) _ _
   rw [show ((0 : Int) != 0) = false from by decide]
   refine ⟨_, _, _, rfl, _, box_row (live_ext q4 he), fd, rfl, trivial, _, _, _, rfl, _, hI.at.routes.row (map_get hgx.2.2), x.State, rfl, (Contains_int_ok x.State (hfr.ext (eA.trans he))).use ⟨_, rfl, bcnot (fun e => err 28 (by rw [hE, if_pos e]) (by decide)) (fun e1 => ?_)⟩⟩
   rw [if_neg (by rw [e1]; decide)] at hE
   refine ⟨_, _, _, rfl, _, box_row (live_ext g2 he), to, rfl, trivial, _, _, _, rfl, ?_⟩
   have ow : ∀ {s' : Store}, CoIn s4 s id t_locks_desk (cfC c0 c1 c2 c3 c4 c) [] d0 d1 d2 d3 d4 d5 k → (∀ i, idOf d1 ≠ some i → s' i = s i) → ∀ {j : Nat} {tt : TypeId} {rows : List (List D)}, s4 j = .live tt rows → s' j = .live tt rows := by
     intro s' _ hs j tt rows hj
     have hne : idOf d1 ≠ some j := by
       intro e
       have := own_id hI.co.routes e
       rw [hj] at this; cases this
     rw [hs j hne]; exact live_ext hj he
   refine hI.putR (y := { x with State := to }) hgx.2.2 rfl (by simp) rfl fun s5 hI5 f5 => ?_
   refine ⟨_, _, _, rfl, _, box_row (ow hI f5 g2), to, rfl, bce (fun e2 => ?_) (fun e2 => ?_)⟩
   · refine ⟨_, _, _, rfl, _, box_row (ow hI f5 g3), now, rfl, trivial, _, _, _, rfl, ?_⟩
     refine hI5.putR (x := { x with State := to }) (y := { x with State := to, Since := now }) (by show (k.Routes.set r.toNat _)[r.toNat]? = _; rw [List.getElem?_set, if_pos rfl, if_pos hxl]) rfl (by simp) rfl fun s6 hI6 f6 => ?_
     refine ⟨trivial, _, _, _, rfl, hI6.putR (x := { x with State := to, Since := now }) (y := { x with State := to, Since := now, Mark := 0 }) (by show ((k.Routes.set r.toNat _).set r.toNat _)[r.toNat]? = _; rw [List.getElem?_set, if_pos rfl, if_pos (by simpa using hxl)]) rfl (by simp) rfl fun s7 hI7 f7 => ?_⟩
     refine ⟨trivial, _, _, _, rfl, hI7.dirty (b := true) rfl fun s8 hI8 _ => ⟨by rw [hE], hI8.ext, fun _ => ?_⟩⟩
     have : k.leadY r to now = { k with Routes := ((k.Routes.set r.toNat { x with State := to }).set r.toNat { x with State := to, Since := now }).set r.toNat { x with State := to, Since := now, Mark := 0 }, Dirty := true } := by
       rw [List.set_set, List.set_set, Co.leadY, if_pos e2, hgr]; rfl
     rw [this]; exact hI8
   · refine ⟨by rw [hE], hI5.ext, fun _ => ?_⟩
     have : k.leadY r to now = { k with Routes := k.Routes.set r.toNat { x with State := to } } := by rw [Co.leadY, if_neg e2, hgr]; rfl
     rw [this]; exact hI5
theorem locks_Cancel_ok (now r : Int) : DCalls Tryz.prog n_locks_Cancel [cfA c0 c1 c2 c3 c4 c, coA k0 k1 k2 k3 k4 k5 k.Dirty, iA now, iA r] σ (CoPost σ (k.cancelC c now r)) :=
 W_locks_Cancel _ _ _ _ _ _ _ _ _ k0 k1 k2 k3 k4 k5 k.Dirty now r σ _ (newObj_intro fun i1 s1 _ _ e1 q1 =>
   (locks_lead_ok hc (h.ext' e1) hf r 4 now (fr := [1, 2, 3]) (At.fresh q1 (by simp) rfl)).mono fun q s5 hp => hp.pass (hp.from e1))
end
end
section
theorem ty_RouteZ {row : List D} {n : Nat} (h : tyD Tryz.prog n t_Route row) : ∃ r : Rt, ((∀ s, RtAt Tryz.prog t_Step t_Need t_int s row r) ∧ RtI r) ∧ row[4]? ≠ some .zsl := by
 obtain ⟨_, _, rfl, ⟨a, rfl, ha⟩, _, _, rfl, ⟨b, rfl, hb⟩, d1, _, rfl, h1, d2, _, rfl, h2, d3, _, rfl, h3, _, _, rfl, ⟨sh, rfl⟩, rfl⟩ := ty_sh n 5 _ _ [.int .i64, .int .i64, .sl t_Step, .sl t_Need, .sl t_int, .bool] h (by kernel_rfl)
 obtain ⟨l1, a1, b1, _, e1⟩ := sh_rows (bytes := 24) St.enc _ (fun row n h => ty_Step h) (by kernel_rfl) (by omega) h1
 obtain ⟨l2, a2, b2, _, e2⟩ := sh_rows (bytes := 16) Nd.enc _ (fun row n h => ty_Need h) (by kernel_rfl) (by omega) h2
 obtain ⟨l3, a3, b3, z3, e3⟩ := sh_rows (bytes := 8) Go.Fw.encI _ (fun row n h => ty_i h) (by kernel_rfl) (by omega) h3
 exact ⟨⟨a, b, l1, l2, l3, sh⟩, ⟨fun s => ⟨d1, d2, d3, rfl, a1 s, a2 s, a3 s⟩, wf_i64 ha, wf_i64 hb, b1, b2, b3, e1, e2, e3⟩, fun e => z3 (by injection e)⟩
theorem ty_ConfigZ {cs : List D} {n : Nat} (h : tyD Tryz.prog n t_Config cs) : ∃ c0 c1 c2 c3 c4 c, cs = [c0, c1, c2, c3, c4, iD c.Age, iD c.Brake, iD c.Hold, iD c.Budget] ∧ (∀ s, CfAt s c0 c1 c2 c3 c4 c) ∧ CfI c ∧ RtsNz c4 := by
 obtain ⟨c0, _, rfl, h0, c1, _, rfl, h1, c2, _, rfl, h2, c3, _, rfl, h3, c4, _, rfl, h4, _, _, rfl, ⟨a, rfl, ha⟩, _, _, rfl, ⟨b, rfl, hb⟩, _, _, rfl, ⟨ho, rfl, hho⟩, _, _, rfl, ⟨bu, rfl, hbu⟩, rfl⟩ :=
   ty_sh n 5 _ _ [.sl t_Section, .sl t_Joint, .sl t_Signal, .sl t_int, .sl t_Route, .int .i64, .int .i64, .int .i64, .int .i64] h (by kernel_rfl)
 obtain ⟨l0, a0, b0, _, e0⟩ := sh_rows (bytes := 24) Sec.enc _ (fun row n h => ty_Section h) (by kernel_rfl) (by omega) h0
 obtain ⟨l1, a1, b1, _, e1⟩ := sh_rows (bytes := 32) Jt.enc _ (fun row n h => ty_Joint h) (by kernel_rfl) (by omega) h1
 obtain ⟨l2, a2, b2, _, e2⟩ := sh_rows (bytes := 16) Sg.enc _ (fun row n h => ty_Signal h) (by kernel_rfl) (by omega) h2
 obtain ⟨l3, a3, b3, _, e3⟩ := sh_rows (bytes := 8) Go.Fw.encI _ (fun row n h => ty_i h) (by kernel_rfl) (by omega) h3
 obtain ⟨rows, l4, a4, q4, b4, _, e4⟩ := sh_rel (bytes := 96) (fun row r => ((∀ s, RtAt Tryz.prog t_Step t_Need t_int s row r) ∧ RtI r) ∧ row[4]? ≠ some .zsl) (fun row n h => ty_RouteZ h) (by kernel_rfl) (by omega) h4
 refine ⟨c0, c1, c2, c3, c4, ⟨l0, l1, l2, l3, l4, a, b, ho, bu⟩, rfl, fun s => ⟨a0 s, a1 s, a2 s, a3 s, rows, a4 s, q4, fun i row r x y => (b4 i row r x y).1.1 s⟩, ⟨b0, b1, b2, b3, ?_, wf_i64 ha, wf_i64 hb, wf_i64 hho, wf_i64 hbu, e0, e1, e2, e3, e4⟩, ?_⟩
 · intro r hr
   obtain ⟨i, hi⟩ := List.mem_iff_getElem?.1 hr
   have hi : l4[i]? = some r := hi
   have hlt := (List.getElem?_eq_some_iff.1 hi).1
   obtain ⟨row, hrow⟩ := get_of_lt (l := rows) (j := i) (by omega)
   exact (b4 i row r hrow hi).1.2
 · have hr := (a4 noS).rows
   cases c4 <;> first | trivial | skip
   obtain ⟨rfl, _⟩ := hr
   intro row hrow
   obtain ⟨i, hi⟩ := List.mem_iff_getElem?.1 hrow
   have hlt := (List.getElem?_eq_some_iff.1 hi).1
   obtain ⟨r, hr⟩ := get_of_lt (l := l4) (j := i) (by omega)
   exact (b4 i row r hi hr).2
end
section
variable {σ : Store}
theorem CoFz.fit {d0 d1 d2 d3 d4 d5 : D} {k : Co} (h : CoFz d0 d1 d2 d3 d4 d5 k) (hs : k.Own.length ≤ 2 ^ 20 ∧ k.Routes.length ≤ 2 ^ 20 ∧ k.Points.length ≤ 2 ^ 20 ∧ k.Xs.length ≤ 2 ^ 20 ∧ k.Lines.length ≤ 2 ^ 20 ∧ k.Resets.length ≤ 2 ^ 20) : CoFit d0 d1 d2 d3 d4 d5 k :=
 ⟨h.n0, h.n1, h.n2, h.n3, h.n4, h.n5, by omega, by omega, by omega, by omega, by omega, by omega⟩
end
section
variable {σ : Store}
def LawTrue (f : FuncId) (xs : List A) : Prop := DCalls Tryz.prog f xs noS fun r _ => r = .a (.one (.bool true))
end
section
variable {σ : Store}
def endK (o : Int) (x : Ls) (b : Bool) : Co := ⟨[o, 0], [⟨0, 0, 0, 0⟩], [⟨0, 0⟩, ⟨0, 0⟩], [], [zLs, x, zLs, zLs], [0, 0], b⟩
def endStep (occ stamp now : Int) (o : Int) (x : Ls) (b : Bool) : Co :=
 let m := decide (x.PAsk > (if x.PDone > x.Grant then x.PDone else x.Grant)) && decide (x.Ask = x.Done)
 let k' : Co := if o = -2 then
     if x.PDone < x.Grant then endK o { x with Since := 0 } b
     else if x.Since = 0 then endK o { x with Since := w64 (now + 1) } b
     else if occ = 0 ∧ x.Since ≤ stamp then endK 0 { x with Since := 0 } true
     else endK o x b
   else if o = 0 ∧ m = true then endK (-2) { x with Grant := x.PAsk, Since := 0 } true
   else endK o x b
 if b = true then k' else { k' with Lines := k'.Lines.set 1 { (k'.Lines[1]?).getD zLs with Told := x.Grant } }
end
section
variable {σ : Store}
theorem CoFz.fits {d0 d1 d2 d3 d4 d5 k0 k1 k2 k3 k4 k5 : D} {k : Co} (h : CoFz d0 d1 d2 d3 d4 d5 k) (hf : CoFit k0 k1 k2 k3 k4 k5 k) : CoFit d0 d1 d2 d3 d4 d5 k :=
 ⟨h.n0, h.n1, h.n2, h.n3, h.n4, h.n5, hf.b0, hf.b1, hf.b2, hf.b3, hf.b4, hf.b5⟩
theorem CoOwn.ext' {σ0 s s' : Store} {d0 d1 d2 d3 d4 d5 : D} {k : Co} (h : CoOwn σ0 s d0 d1 d2 d3 d4 d5 k) (he : Ext s s') : CoOwn σ0 s' d0 d1 d2 d3 d4 d5 k :=
 ⟨h.own.ext' he, h.routes.ext' he, h.points.ext' he, h.xs.ext' he, h.lines.ext' he, h.resets.ext' he, h.apart⟩
end
end Go.Proofs.YtdlnbehcnfjneaaGreat
namespace Go.Fw
section
theorem apprS_idle {c : Cf} {l : List Int} : ∀ (rs : List Rs) (j : Nat), (∀ x ∈ rs, x.State = 0) → apprS c l rs j = false
 | [], _, _ => rfl
 | x :: r, j, h => by
   rw [apprS, apprS_idle r _ fun y hy => h y (by simp [hy]), h x (by simp)]; rfl
end
end Go.Fw
namespace Go.Proofs.YtdlnbehcnfjneaaGreat
open Go.Fw Go.Proofs Go.RowKit
section
variable {σ σ0 : Store}
def litS : Cf := ⟨[⟨0, 0, 0⟩, ⟨1, 0, 0⟩, ⟨0, 0, 0⟩, ⟨0, 0, 0⟩, ⟨0, 0, 1⟩], [⟨0, 1, 1, 0⟩, ⟨1, 1, 2, 0⟩, ⟨1, 2, 3, 0⟩, ⟨2, 1, 4, 0⟩], [⟨0, 1⟩, ⟨2, 1⟩], [], [⟨0, 1, [⟨1, 0, 1⟩, ⟨2, 0, 1⟩], [], [], false⟩, ⟨1, -1, [⟨4, 0, 1⟩], [], [], false⟩], 2, 1, 4, 1000⟩
def sD0 : D := .sl 3 [[iD 0, iD 0, iD 0], [iD 1, iD 0, iD 0], [iD 0, iD 0, iD 0], [iD 0, iD 0, iD 0], [iD 0, iD 0, iD 1]]
def sD1 : D := .sl 4 [[iD 0, iD 1, iD 1, iD 0], [iD 1, iD 1, iD 2, iD 0], [iD 1, iD 2, iD 3, iD 0], [iD 2, iD 1, iD 4, iD 0]]
def sD2 : D := .sl 2 [[iD 0, iD 1], [iD 2, iD 1]]
def sD4 : D := .sl 6 [[iD 0, iD 1, .sl 3 [[iD 1, iD 0, iD 1], [iD 2, iD 0, iD 1]], .nils, .nils, .bool false], [iD 1, iD (-1), .sl 3 [[iD 4, iD 0, iD 1]], .nils, .nils, .bool false]]
theorem litS_at (s : Store) : CfAt s sD0 sD1 sD2 .nils sD4 litS :=
 ⟨at_lit c_Section (by simp), at_lit c_Joint (by simp), at_lit c_Signal (by simp), .nil, ⟨_, at_lit c_Route (by simp), rfl, fun i row r h1 h2 => by
   have hi : i = 0 ∨ i = 1 := by have := (List.getElem?_eq_some_iff.1 h1).1; simp at this; omega
   rcases hi with rfl | rfl
   · simp at h1; subst h1
     simp [litS] at h2; subst h2
     exact ⟨_, _, _, rfl, at_lit c_Step (by simp), .nil, .nil⟩
   · simp at h1; subst h1
     simp [litS] at h2; subst h2
     exact ⟨_, _, _, rfl, at_lit c_Step (by simp), .nil, .nil⟩⟩⟩
theorem litS_nz : RtsNz sD4 := by
 intro row hr
 simp only [List.mem_cons, List.not_mem_nil, or_false] at hr
 rcases hr with rfl | rfl <;> (intro e; cases e)
theorem law13_station_ok : Pure Tryz.prog n_law13_station [] σ (.a (cfA sD0 sD1 sD2 .nils sD4 litS)) := W_law13_station σ _ ⟨rfl, rfl⟩
theorem lockL0 : litS.lockL 0 = [1, 2] := by
 show Cf.lockR ⟨0, 1, [⟨1, 0, 1⟩, ⟨2, 0, 1⟩], [], [], false⟩ = [1, 2]
 rw [← insL_lockR]; decide +kernel
theorem req13_a : (newCo litS 5).requestC litS 5 0 = (newCo litS 5, 22) := by
 have h : (newCo litS 5).reqE litS 0 = 22 := by unfold Co.reqE; rw [lockL0]; decide +kernel
 have hg : (newCo litS 5).gate litS 5 22 = 22 := by decide +kernel
 rw [Co.requestC, h, hg]; rfl
def k13 : Co := { newCo litS 5 with Own := [-1, 0, 0, -1, -1] }
theorem req13_b : k13.requestC litS 5 0 = (k13.lockC litS 5 0, 0) := by
 have h : k13.reqE litS 0 = 0 := by unfold Co.reqE; rw [lockL0]; decide +kernel
 have hg : k13.gate litS 5 0 = 0 := by decide +kernel
 rw [Co.requestC, h, hg]; rfl
theorem req13_o : (k13.lockC litS 5 0).Own = [-1, 1, 1, -1, -1] := by unfold Co.lockC; rw [lockL0]; decide +kernel
theorem req13_r : (k13.lockC litS 5 0).Routes = [⟨1, 0, 0, 0⟩, ⟨0, 0, 0, 0⟩] := by unfold Co.lockC; rw [lockL0]; decide +kernel
theorem req13_p : (k13.lockC litS 5 0).Points[1]? = some ⟨1, 5⟩ := by unfold Co.lockC; rw [lockL0]; decide +kernel
theorem CoOwn.fit {s : Store} {d0 d1 d2 d3 d4 d5 : D} {k : Co} (h : CoOwn σ s d0 d1 d2 d3 d4 d5 k) (hl : k.Own.length ≤ 2 ^ 20 ∧ k.Routes.length ≤ 2 ^ 20 ∧ k.Points.length ≤ 2 ^ 20 ∧ k.Xs.length ≤ 2 ^ 20 ∧ k.Lines.length ≤ 2 ^ 20 ∧ k.Resets.length ≤ 2 ^ 20) : CoFit d0 d1 d2 d3 d4 d5 k :=
 ⟨h.own.nz, h.routes.nz, h.points.nz, h.xs.nz, h.lines.nz, h.resets.nz, by omega, by omega, by omega, by omega, by omega, by omega⟩
theorem law13_lives_ok : Pure Tryz.prog n_law13_lives [] σ (.a (bA true)) := by
 refine .of (W_law13_lives σ _ (law13_station_ok.use ⟨_, _, _, _, _, _, _, _, _, rfl, (locks_New_ok litS_at 5 (by decide) (by decide) (by decide)).mono ?_⟩)) (flat_b _)
 rintro r s ⟨k0, k1, k2, k3, k4, k5, rfl, hk⟩
 refine ⟨_, _, _, _, _, _, _, rfl, ?_⟩
 intro R hR
 refine hk.own.at_.lenK (bcn (fun e => absurd rfl e) (fun _ => law13_station_ok.use ⟨_, _, _, _, _, _, _, _, _, rfl, (locks_Fits_ok litS_at hk.at).use ⟨_, rfl, ?_⟩⟩))
 rw [show (newCo litS 5).fits litS = true from by decide +kernel]
 refine bcnot (fun e => by cases e) (fun _ => ⟨rfl, hR s ?_⟩)
 refine law13_station_ok.use ⟨_, _, _, _, _, _, _, _, _, rfl, (locks_Request_ok litS_at hk.at (hk.fit (by decide)) litS_nz 5 0).mono ?_⟩
 rintro r s1 ⟨a0, a1, a2, a3, a4, a5, rfl, ha⟩
 rw [req13_a] at ha ⊢
 refine ⟨_, _, _, _, _, _, _, _, rfl, ?_⟩
 have hk1 := hk.ext' ha.own.ext
 refine hk1.own.at_.idxK (j := 1) c_int rfl (by decide) (hk1.putO (j := 1) (x := -1) (y := 0) rfl rfl (by simp) rfl fun s2 hk2 _ => hk2.own.at_.idxK (j := 2) c_int rfl (by decide) (hk2.putO (j := 2) (x := -1) (y := 0) rfl rfl (by simp) rfl fun s3 hk3 _ => ?_))
 refine law13_station_ok.use ⟨_, _, _, _, _, _, _, _, _, rfl, (locks_Request_ok (k := k13) litS_at hk3.at (hk3.fit (by decide)) litS_nz 5 0).mono ?_⟩
 rintro r s4 ⟨b0, b1, b2, b3, b4, b5, rfl, hb⟩
 rw [req13_b] at hb ⊢
 refine ⟨_, _, _, _, _, _, _, _, rfl, bce (fun _ => bce (fun _ => ?_) (fun e => absurd rfl e)) (fun e => absurd rfl e)⟩
 have o := hb.own.at_
 have rr := hb.routes.at_
 rw [req13_o] at o
 rw [req13_r] at rr
 refine o.load (j := 1) (row := [iD 1]) rfl c_int rfl ⟨1, rfl, bce (fun _ => rr.load (j := 0) (row := [iD 1, iD 0, iD 0, iD 0]) rfl c_RouteState rfl ⟨1, rfl, bce (fun _ => ?_) (fun e => absurd rfl e)⟩) (fun e => absurd rfl e)⟩
 refine hb.points.at_.load (j := 1) (map_get req13_p) c_Mover rfl ⟨1, 5, rfl, rfl, ?_⟩
 exact hk3.own.ext.trans hb.own.ext
theorem place_ok {len : Nat} (h : 1 ≤ len ∧ len ≤ 2 ^ 20) (s : Int) : IntKind.wrap .u64 (len : Int) ≠ 0 ∧ ∃ j : Nat, w64 (Int.tmod (IntKind.wrap .u64 s) (IntKind.wrap .u64 (len : Int))) = j ∧ j < len := by
 have e1 : IntKind.wrap .u64 (len : Int) = len := by rw [IntKind.wrap_u64]; omega
 have e2 : 0 ≤ IntKind.wrap .u64 s := by rw [IntKind.wrap_u64]; omega
 rw [e1]
 refine ⟨by omega, (Int.tmod (IntKind.wrap .u64 s) (len : Int)).toNat, ?_⟩
 rw [Int.tmod_eq_emod_of_nonneg e2]
 have a := Int.emod_nonneg (IntKind.wrap .u64 s) (b := (len : Int)) (by omega)
 have b := Int.emod_lt_of_pos (IntKind.wrap .u64 s) (b := (len : Int)) (by omega)
 rw [w64_id (by omega) (by omega)]
 omega
end
end Go.Proofs.YtdlnbehcnfjneaaGreat
namespace Go.Fw
section
def openK (c : Cf) : Co := { newCo c 0 with Own := List.replicate c.Secs.length 0 }
theorem open_fits {c : Cf} (h : c.check = 0) : (openK c).fits c = true := by
 have h0 := fits_iff.1 (new_fits (c := c) (now := 0) h (by decide))
 rw [fits_iff]
 exact ⟨h0.chk, by simp [openK], h0.lPts, h0.lRes, h0.lRts, h0.lXs, h0.lLn, fun o ho => by
   have := (List.mem_replicate.1 ho).2
   omega, h0.rts, h0.pts, h0.xs, h0.lns, h0.res⟩
theorem open_req {c : Cf} (h : c.check = 0) {r : Int} {y : Rt} (hy : geti c.Rts r = some y) : (openK c).reqE c r = 0 := by
 have hr := check_rt h (geti_mem hy)
 have hgy := geti_some hy
 have hx : geti (openK c).Routes r = some ⟨0, 0, 0, 0⟩ := by
   unfold geti
   rw [if_neg (by omega)]
   show (List.replicate c.Rts.length (⟨0, 0, 0, 0⟩ : Rs))[r.toNat]? = _
   rw [List.getElem?_replicate, if_pos (by omega)]
 have hap : apprS c (c.lockL r) (openK c).Routes 0 = false := apprS_idle _ _ fun x hx => by rw [(List.mem_replicate.1 hx).2]
 have hb : (openK c).blocked c r (c.lockL r) = false := by
   refine List.any_eq_false.2 fun v hv => ?_
   have : (geti (openK c).Own v).getD 0 = 0 := geti_d (p := fun o : Int => o = 0) rfl fun o ho => (List.mem_replicate.1 ho).2
   rw [this]; simp
 have hl : ((geti (openK c).Lines (lineF c (c.rt r).Path)).getD zLs).Ask < 4294967295 := by
   refine geti_d (p := fun l : Ls => l.Ask < 4294967295) (by decide) fun l hl => ?_
   rw [(List.mem_replicate.1 hl).2]; decide
 rw [Co.reqE, hx]
 show (if (0 : Int) ≠ 0 then 28 else _) = 0
 rw [if_neg (by decide)]
 have hm : (openK c).may c r (c.lockL r) = 0 := by rw [Co.may, if_neg (by rw [hap]; decide), if_neg (by rw [hb]; decide)]
 rw [hm, if_neg (by decide), if_neg (by omega)]
theorem lock_state {c : Cf} {k : Co} {now a : Int} {x : Rs} (h : geti k.Routes a = some x) : geti (k.lockC c now a).Routes a = some ⟨1, 0, 0, 0⟩ := by
 have hg := geti_some h
 have hl := (List.getElem?_eq_some_iff.1 hg.2.2).1
 unfold geti
 rw [if_neg (by omega)]
 show (k.Routes.set a.toNat ⟨1, 0, 0, 0⟩)[a.toNat]? = _
 rw [List.getElem?_set, if_pos rfl, if_pos hl]
theorem fits_small' {c : Cf} {k : Co} (h : k.fits c = true) : k.Own.length ≤ 16 ∧ k.Routes.length ≤ 12 ∧ k.Points.length ≤ 16 ∧ k.Xs.length ≤ 4 ∧ k.Lines.length = 4 ∧ k.Resets.length ≤ 16 := by
 have hf := fits_iff.1 h
 have hs := check_small hf.chk
 have := hf.lOwn; have := hf.lRts; have := hf.lPts; have := hf.lXs; have := hf.lLn; have := hf.lRes
 omega
end
end Go.Fw
namespace Go.Proofs.YtdlnbehcnfjneaaGreat
open Go.Fw Go.Proofs Go.RowKit
section
variable {σ σ0 : Store}
theorem law13_opened_ok {c0 c1 c2 c3 c4 : D} {c : Cf} (hc : ∀ s, CfAt s c0 c1 c2 c3 c4 c) (hok : c.check = 0) :
   DCalls Tryz.prog n_law13_opened [cfA c0 c1 c2 c3 c4 c] σ fun r s => ∃ d0 d1 d2 d3 d4 d5, r = .a (coA d0 d1 d2 d3 d4 d5 true) ∧ CoOwn σ s d0 d1 d2 d3 d4 d5 (openK c) := by
 have hsm := check_small hok
 refine W_law13_opened _ _ _ _ _ _ _ _ _ σ _ ((locks_New_ok hc 0 (by omega) (by omega) (by omega)).mono ?_)
 rintro r s ⟨d0, d1, d2, d3, d4, d5, rfl, hk⟩
 refine ⟨_, _, _, _, _, _, _, rfl, ?_⟩
 have e0 : (newCo c 0).Own.length = c.Secs.length := by simp [newCo]
 refine hk.own.at_.lenK ⟨fun n s => ∃ j : Nat, n = j ∧ j ≤ c.Secs.length ∧ CoOwn σ s d0 d1 d2 d3 d4 d5 { newCo c 0 with Own := List.replicate j 0 ++ List.replicate (c.Secs.length - j) (-1) }, fun n _ => c.Secs.length - n.toNat, ⟨0, rfl, by omega, by simpa [newCo] using hk⟩, ?_⟩
 rintro n s1 ⟨j, rfl, hj, hk1⟩
 rw [List.length_map, e0]
 refine bcd (fun hlt => ?_) (fun hge => ?_)
 · have hx : (List.replicate j (0 : Int) ++ List.replicate (c.Secs.length - j) (-1))[j]? = some (-1) := by
     rw [List.getElem?_append_right (by simp), List.length_replicate, Nat.sub_self, List.getElem?_replicate, if_pos (by omega)]
   refine hk1.own.at_.idxK c_int rfl (by simp; omega) (hk1.putO (k := { newCo c 0 with Own := List.replicate j 0 ++ List.replicate (c.Secs.length - j) (-1) }) (y := 0) hx (by rw [Int.toNat_natCast]) (by simp) rfl fun s2 hk2 _ => ⟨rfl, ?_⟩)
   rw [w64_succ (by omega)]
   refine ⟨⟨j + 1, rfl, by omega, ?_⟩, dec_lt (by omega)⟩
   have e : (List.replicate j (0 : Int) ++ List.replicate (c.Secs.length - j) (-1)).set j 0 = List.replicate (j + 1) 0 ++ List.replicate (c.Secs.length - (j + 1)) (-1) := by
     apply List.ext_getElem?
     intro i
     rw [List.getElem?_set]
     by_cases h1 : j = i
     · subst h1
       rw [if_pos rfl, if_pos (by simp; omega), List.getElem?_append_left (by simp), List.getElem?_replicate, if_pos (by omega)]
     · rw [if_neg h1]
       by_cases h2 : i < j
       · rw [List.getElem?_append_left (by simpa using h2), List.getElem?_append_left (by simp; omega), List.getElem?_replicate, List.getElem?_replicate, if_pos h2, if_pos (by omega)]
       · rw [List.getElem?_append_right (by simp; omega), List.getElem?_append_right (by simp; omega), List.getElem?_replicate, List.getElem?_replicate]
         simp only [List.length_replicate]
         by_cases h3 : i < c.Secs.length
         · rw [if_pos (by omega), if_pos (by omega)]
         · rw [if_neg (by omega), if_neg (by omega)]
   rw [← e]; exact hk2
 · have e : j = c.Secs.length := by omega
   subst e
   rw [Nat.sub_self, List.replicate_zero, List.append_nil] at hk1
   exact ⟨d0, d1, d2, d3, d4, d5, rfl, hk1⟩
end
end Go.Proofs.YtdlnbehcnfjneaaGreat
namespace Go.Fw
section
def ofL (l : List UInt8) : ByteArray := ⟨l.toArray⟩
def encU (b : UInt8) : List D := [.int .u8 b.toNat]
theorem bytesD_ofL (l : List UInt8) : bytesD (ofL l) = l.map encU := rfl
theorem size_ofL (l : List UInt8) : (ofL l).size = l.length := by
 show l.toArray.size = _
 simp
theorem extract_ofL (l : List UInt8) (a b : Nat) : (ofL l).extract a b = ofL ((l.take b).drop a) := by
 apply ByteArray.ext
 simp [ofL, List.drop_take]
theorem toList_loop (bs : ByteArray) : ∀ (m i : Nat) (r : List UInt8), bs.size - i = m → ByteArray.toList.loop bs i r = r.reverse ++ bs.data.toList.drop i := by
 intro m
 induction m with
 | zero =>
   intro i r h
   have h' : ¬ i < bs.size := by omega
   rw [ByteArray.toList.loop, if_neg h', List.drop_eq_nil_of_le (by show bs.size ≤ i; omega), List.append_nil]
 | succ m ih =>
   intro i r h
   have h' : i < bs.size := by omega
   have h'' : i < bs.data.toList.length := h'
   rw [ByteArray.toList.loop, if_pos h', ih (i + 1) _ (by omega), List.drop_eq_getElem_cons h'']
   have e : bs.get! i = bs.data.toList[i] := by
     show bs.data[i]! = _
     rw [getElem!_pos bs.data i h']
     rfl
   rw [e]; simp
theorem toList_data (bs : ByteArray) : bs.toList = bs.data.toList := by
 rw [ByteArray.toList, toList_loop bs _ 0 [] rfl]; simp
def byteAt (n : Int) (s : Nat) : UInt8 := UInt8.ofNat ((n.fdiv (2 ^ s)) % 256).toNat
theorem byteAt_enc (n : Int) (s : Nat) : encU (byteAt n s) = [.int .u8 (IntKind.wrap .u8 (n.fdiv (2 ^ s)))] := by
 have e : IntKind.wrap .u8 (n.fdiv (2 ^ s)) = (n.fdiv (2 ^ s)) % 256 := rfl
 rw [e]
 unfold encU byteAt
 generalize n.fdiv (2 ^ s) = x
 have h1 : 0 ≤ x % 256 := Int.emod_nonneg _ (by omega)
 have h2 : x % 256 < 256 := Int.emod_lt_of_pos _ (by omega)
 obtain ⟨m, hm⟩ := Int.eq_ofNat_of_zero_le h1
 rw [hm] at h2 ⊢
 rw [Int.toNat_natCast, UInt8.toNat_ofNat', Nat.mod_eq_of_lt (by show m < 256; omega)]
def be : Nat → Int → List UInt8
 | 0, _ => []
 | k + 1, n => byteAt n (8 * k) :: be k n
theorem be_len (k : Nat) (n : Int) : (be k n).length = k := by
 induction k with
 | zero => rfl
 | succ k ih => rw [be, List.length_cons, ih]
def rdL (l : List UInt8) (x : Int) : Int := l.foldl (fun x c => x * 256 + (c.toNat : Int)) x
def rd (l : List UInt8) : Int := rdL l 0
theorem byteAt_nat {n : Nat} {s : Nat} : ((byteAt (n : Int) s).toNat : Int) = ((n / 2 ^ s % 256 : Nat) : Int) := by
 unfold byteAt
 have e : (n : Int).fdiv (2 ^ s) = ((n / 2 ^ s : Nat) : Int) := by
   rw [Int.fdiv_eq_ediv_of_nonneg _ (by exact Int.pow_nonneg (by omega))]
   simp
 rw [e]
 have h2 : n / 2 ^ s % 256 < 256 := Nat.mod_lt _ (by omega)
 have e2 : (((n / 2 ^ s : Nat) : Int) % 256).toNat = n / 2 ^ s % 256 := by omega
 rw [e2, UInt8.toNat_ofNat', Nat.mod_eq_of_lt (by show _ < 256; exact h2)]
theorem rdL_be : ∀ (k : Nat) (n : Nat) (x : Int), rdL (be k (n : Int)) x = x * 256 ^ k + ((n % 256 ^ k : Nat) : Int) := by
 intro k
 induction k with
 | zero => intro n x; simp [be, rdL, Nat.mod_one]
 | succ k ih =>
   intro n x
   rw [be, rdL, List.foldl_cons]
   have := ih n (x * 256 + ((byteAt (n : Int) (8 * k)).toNat : Int))
   rw [rdL] at this
   rw [this, byteAt_nat]
   have e : (2 : Nat) ^ (8 * k) = 256 ^ k := by rw [Nat.pow_mul]
   rw [e]
   have e2 : n % 256 ^ (k + 1) = n % 256 ^ k + 256 ^ k * (n / 256 ^ k % 256) := by rw [Nat.pow_succ, Nat.mod_mul]
   rw [e2, Int.pow_succ, Int.add_mul]
   simp only [Int.natCast_add, Int.natCast_mul, Int.natCast_pow]
   have e3 : x * 256 * 256 ^ k = x * (256 ^ k * 256) := by rw [Int.mul_assoc, Int.mul_comm 256]
   have e4 : ((n / 256 ^ k % 256 : Nat) : Int) * 256 ^ k = 256 ^ k * ((n / 256 ^ k % 256 : Nat) : Int) := Int.mul_comm _ _
   rw [e3, e4]
   simp only [Int.add_assoc]
   have : ∀ a b c : Int, a + (b + c) = a + (c + b) := fun a b c => by omega
   exact this _ _ _
theorem rd_be {k : Nat} {n : Int} (h0 : 0 ≤ n) (h1 : n < 256 ^ k) : rd (be k n) = n := by
 obtain ⟨m, rfl⟩ := Int.eq_ofNat_of_zero_le h0
 rw [rd, rdL_be, Int.zero_mul, Int.zero_add]
 have : m < 256 ^ k := by
   have e : ((256 ^ k : Nat) : Int) = (256 : Int) ^ k := by simp
   omega
 rw [Nat.mod_eq_of_lt this]
theorem rdL_lt : ∀ (l : List UInt8) (x : Int), 0 ≤ x → 0 ≤ rdL l x ∧ rdL l x < (x + 1) * 256 ^ l.length := by
 intro l
 induction l with
 | nil => intro x h; simp [rdL]; omega
 | cons c l ih =>
   intro x h
   have hc : (c.toNat : Int) < 256 := by have := c.toNat_lt; omega
   have := ih (x * 256 + c.toNat) (by omega)
   rw [rdL] at this ⊢
   rw [List.foldl_cons]
   refine ⟨this.1, Int.lt_of_lt_of_le this.2 ?_⟩
   rw [List.length_cons, Int.pow_succ]
   have e : (x + 1) * (256 ^ l.length * 256) = ((x + 1) * 256) * 256 ^ l.length := by rw [Int.mul_assoc, Int.mul_comm (256 ^ l.length)]
   rw [e]
   exact Int.mul_le_mul_of_nonneg_right (by omega) (Int.pow_nonneg (by omega))
theorem rdL_append (a b : List UInt8) (x : Int) : rdL (a ++ b) x = rdL b (rdL a x) := by unfold rdL; rw [List.foldl_append]
theorem or_byte {x c : Int} (hx0 : 0 ≤ x) (hx : x < 2 ^ 48) (hc0 : 0 ≤ c) (hc : c < 256) : w64 (BitVec.toNat ((BitVec.ofInt 64 (w64 (x * (2 ^ 8)))) ||| (BitVec.ofInt 64 (w64 c))) : Int) = x * 256 + c := by
 obtain ⟨m, rfl⟩ := Int.eq_ofNat_of_zero_le hx0
 obtain ⟨b, rfl⟩ := Int.eq_ofNat_of_zero_le hc0
 rw [w64_id (n := (m : Int) * 2 ^ 8) (by omega) (by omega), w64_id (n := (b : Int)) (by omega) (by omega)]
 have e : (m : Int) * 2 ^ 8 = ((m * 256 : Nat) : Int) := by simp
 rw [e, BitVec.ofInt_natCast, BitVec.ofInt_natCast, BitVec.toNat_or, BitVec.toNat_ofNat, BitVec.toNat_ofNat, Nat.mod_eq_of_lt (by omega), Nat.mod_eq_of_lt (by omega)]
 have := Nat.shiftLeft_add_eq_or_of_lt (a := m) (b := b) (i := 8) (by omega)
 rw [Nat.shiftLeft_eq] at this
 have h256 : (2 : Nat) ^ 8 = 256 := rfl
 rw [h256] at this
 rw [← this, w64_id (by omega) (by omega)]
 simp
structure Wr where
 e : Int
 out : List UInt8
 lim : Int
def Wr.note (w : Wr) (x : Int) : Wr := if w.e = 0 then { w with e := x } else w
def Wr.put (w : Wr) (b : List UInt8) : Wr :=
 let v := if (b.length : Int) > w.lim - w.out.length then w.note 2 else w
 if v.e = 0 then { v with out := v.out ++ b } else v
def Wr.num (w : Wr) (k : Nat) (n : Int) : Wr := (if n < 0 ∨ n.fdiv (2 ^ (8 * k)) ≠ 0 then w.note 32 else w).put (be k n)
theorem Wr.note_out (w : Wr) (x : Int) : (w.note x).out = w.out ∧ (w.note x).lim = w.lim := by unfold Wr.note; split <;> exact ⟨rfl, rfl⟩
theorem Wr.put_out (w : Wr) (b : List UInt8) : (w.put b).out.length ≤ w.out.length + b.length ∧ (w.put b).lim = w.lim := by
 unfold Wr.put
 have h : ∀ v : Wr, v.out = w.out ∧ v.lim = w.lim → (if v.e = 0 then { v with out := v.out ++ b } else v : Wr).out.length ≤ w.out.length + b.length ∧ (if v.e = 0 then { v with out := v.out ++ b } else v : Wr).lim = w.lim := by
   intro v hv
   split
   · exact ⟨by simp [hv.1], hv.2⟩
   · exact ⟨by rw [hv.1]; omega, hv.2⟩
 apply h
 split
 · exact w.note_out 2
 · exact ⟨rfl, rfl⟩
theorem Wr.num_out (w : Wr) (k : Nat) (n : Int) : (w.num k n).out.length ≤ w.out.length + k ∧ (w.num k n).lim = w.lim := by
 unfold Wr.num
 have h := Wr.put_out (if n < 0 ∨ n.fdiv (2 ^ (8 * k)) ≠ 0 then w.note 32 else w) (be k n)
 rw [be_len] at h
 have e : (if n < 0 ∨ n.fdiv (2 ^ (8 * k)) ≠ 0 then w.note 32 else w).out = w.out ∧ (if n < 0 ∨ n.fdiv (2 ^ (8 * k)) ≠ 0 then w.note 32 else w).lim = w.lim := by
   split
   · exact w.note_out 32
   · exact ⟨rfl, rfl⟩
 rw [e.1, e.2] at h
 exact h
theorem Wr.num_fit {w : Wr} {k : Nat} {n : Int} (he : w.e = 0) (h0 : 0 ≤ n) (h1 : n < 256 ^ k) (hl : (w.out.length : Int) + k ≤ w.lim) : w.num k n = ⟨0, w.out ++ be k n, w.lim⟩ := by
 have hd : n.fdiv (2 ^ (8 * k)) = 0 := by
   obtain ⟨m, rfl⟩ := Int.eq_ofNat_of_zero_le h0
   rw [Int.fdiv_eq_ediv_of_nonneg _ (Int.pow_nonneg (by omega)), Int.pow_mul]
   exact Int.ediv_eq_zero_of_lt (by omega) h1
 unfold Wr.num
 rw [if_neg (by rintro (h | h); · omega
                · exact h hd)]
 simp only [Wr.put, be_len]
 rw [if_neg (show ¬ ((k : Int) > w.lim - w.out.length) by omega)]
 simp only [he, if_true]
structure Rd where
 e : Int
 l : List UInt8
def Rd.short (r : Rd) (n : Nat) : Rd := if r.l.length < n then (if r.e = 0 then { r with e := 1 } else r) else r
def Rd.num (r : Rd) (n : Nat) : Int × Rd := if (r.short n).e = 0 then (rd ((r.short n).l.take n), ⟨0, (r.short n).l.drop n⟩) else (0, r.short n)
theorem Rd.short_l (r : Rd) (n : Nat) : (r.short n).l = r.l := by unfold Rd.short; split <;> (try split) <;> rfl
theorem Rd.num_be {k : Nat} {n : Int} (h0 : 0 ≤ n) (h1 : n < 256 ^ k) (l : List UInt8) : (⟨0, be k n ++ l⟩ : Rd).num k = (n, ⟨0, l⟩) := by
 have hs : (⟨0, be k n ++ l⟩ : Rd).short k = ⟨0, be k n ++ l⟩ := by
   unfold Rd.short
   rw [if_neg (by simp [be_len])]
 unfold Rd.num
 rw [hs]
 simp only [if_true]
 rw [List.take_left' (be_len k n), List.drop_left' (be_len k n), rd_be h0 h1]
end
end Go.Fw
namespace Go.Proofs.YtdlnbehcnfjneaaGreat
open Go.Fw Go.Proofs Go.RowKit
section
variable {σ σ0 : Store}
theorem live_idOf'' {s : Store} {el : TypeId} {d : D} {rs : List (List D)} (h : At Tryz.prog s el d rs) {i : Nat} (hi : idOf d = some i) : s i ≠ .free := by
 cases d with
 | osl id a n =>
   have e : id = i := by simpa [idOf] using hi
   subst e
   obtain ⟨t, rows, g1, _⟩ := h.rows
   rw [g1]; intro e; cases e
 | _ => simp [idOf] at hi
abbrev pO (id : Nat) : D := .el (.osl id 0 1) 0 0
structure WrIn (σ0 s : Store) (id : Nat) (w : Wr) : Prop where
 new : σ0 id = .free
 cell : ∃ d, s id = .live t_pack_Writer [[iD w.e, d, iD w.lim]] ∧ Own Tryz.prog σ0 s t_uint8 d (w.out.map encU) ∧ idOf d ≠ some id
theorem WrIn.ext {s : Store} {id : Nat} {w : Wr} (h : WrIn σ0 s id w) : Ext σ0 s := by
 obtain ⟨d, _, h, _⟩ := h.cell; exact h.ext
theorem WrIn.ext' {s s' : Store} {id : Nat} {w : Wr} (h : WrIn σ0 s id w) (he : Ext s s') : WrIn σ0 s' id w := by
 obtain ⟨d, h1, h2, h3⟩ := h.cell
 exact ⟨h.new, d, by rw [he id (by rw [h1]; intro e; cases e)]; exact h1, h2.ext' he, h3⟩
theorem pack_New_ok (n : Int) (hn : 0 ≤ n) : DCalls Tryz.prog n_pack_New [iA n] σ fun r s => ∃ id, r = .a (.one (pO id)) ∧ WrIn σ s id ⟨0, [], n⟩ := by
 refine W_pack_New n σ _ (newObj_intro fun id s hid _ he hs => ?_)
 rw [if_neg (by omega)] at hs
 exact ⟨id, rfl, hid, .nils, hs, .nil _ he, by intro e; cases e⟩
theorem trouble_note_ok {s : Store} {id : Nat} {t : TypeId} {e : Int} {rest : List D} (h : s id = .live t [iD e :: rest]) (x : Int) :
   DCalls Tryz.prog n_pack_trouble_note [.one (pO id), iA x] s fun r s' => r = .tup [] ∧ s' id = .live t [iD (if e = 0 then x else e) :: rest] ∧ ∀ i, i ≠ id → s' i = s i := by
 refine W_pack_trouble_note (pO id) x s _ ⟨trivial, _, _, _, rfl, _, box_row h, e, rfl, bce (fun e0 => ⟨trivial, _, _, _, rfl, cell_store h (by simp) fun s' hs ho => ⟨rfl, ?_, ho⟩⟩) (fun e0 => ⟨rfl, by rw [if_neg e0]; exact h, fun _ _ => rfl⟩)⟩
 rw [hs, if_pos e0]; rfl
theorem trouble_well_ok {s : Store} {id : Nat} {t : TypeId} {e : Int} {rest : List D} (h : s id = .live t [iD e :: rest]) :
   Pure Tryz.prog n_pack_trouble_well [.one (pO id)] s (.a (bA (e == 0))) :=
 W_pack_trouble_well (pO id) s _ ⟨trivial, _, _, _, rfl, _, box_row h, e, rfl, rfl, rfl⟩
theorem Writer_put_ok {s : Store} {id : Nat} {w : Wr} (h : WrIn σ0 s id w) {b : D} {l : List UInt8} (hb : At Tryz.prog s t_uint8 b (l.map encU)) (hs : w.out.length + l.length ≤ 2 ^ 40) (hlim : 0 ≤ w.lim ∧ w.lim ≤ 2 ^ 60) :
   DCalls Tryz.prog n_pack_Writer_put [.one (pO id), .one b] s fun r s' => r = .tup [] ∧ WrIn σ0 s' id (w.put l) := by
 obtain ⟨hn, d, h1, h2, h3⟩ := h
 have lay : ∀ (s1 : Store) (e : Int), s1 id = .live t_pack_Writer [[iD e, d, iD w.lim]] → (∀ i, i ≠ id → s1 i = s i) → e = 0 →
     ((NotNil (pO id)) ∧ ∃ (s4 : D) (i4 off4 : Nat), (pO id = (.el s4 i4 off4 : D)) ∧ ∃ row2 : List D, Row s1 s4 i4 row2 ∧ ∃ d1 : D, ((List.drop (off4 + 1) row2).take 1 = [d1]) ∧ appendTo Tryz.prog s1 t_uint8 1 d1 b fun d2 s2 =>
       (NotNil (pO id)) ∧ ∃ (s5 : D) (i5 off5 : Nat), (pO id = (.el s5 i5 off5 : D)) ∧ storeEl [d2] s2 s5 i5 (off5 + 1) fun s3 => (RV.tup [] = RV.tup [] ∧ WrIn σ0 s3 id ⟨e, w.out ++ l, w.lim⟩)) := by
   intro s1 e hs1 ho1 he
   have hd1 : Own Tryz.prog σ0 s1 t_uint8 d (w.out.map encU) := own_other h2 hn h3 ho1
   have hb1 : At Tryz.prog s1 t_uint8 b (l.map encU) := hb.same fun i a m e => ho1 i fun e2 => by
     subst e
     obtain ⟨t, rows, g1, g2, g3, g4⟩ := hb.rows
     rw [e2, h1] at g1
     injection g1 with g1 _
     rw [← g1] at g2
     rw [c_pack_Writer, c_uint8] at g2
     cases g2
   refine ⟨trivial, _, _, _, rfl, _, box_row hs1, d, rfl, hd1.append hb1 (by simp; omega) (by simp; omega) fun d2 s2 o2 k2 i2 => ⟨trivial, _, _, _, rfl, ?_⟩⟩
   have hs2 : s2 id = .live t_pack_Writer [[iD e, d, iD w.lim]] := by
     rw [k2 id (by rw [hs1]; intro e; cases e) (fun a b e => h3 (by rw [e]; rfl)), hs1]
   have hd2 : idOf d2 ≠ some id := fun hi => by
     cases d2 with
     | osl j a m =>
       have : j = id := by simpa [idOf] using hi
       subst this
       rcases i2 j a m rfl with g | ⟨a', b', g⟩
       · rw [hs1] at g; cases g
       · exact h3 (by rw [g]; rfl)
     | _ => simp [idOf] at hi
   rw [← List.map_append] at o2
   refine cell_store hs2 (by simp) fun s3 hs3 ho3 => ⟨rfl, hn, d2, by rw [hs3]; rfl, own_other o2 hn hd2 ho3, hd2⟩
 have hl := hb.size
 have ho := h2.at_.size
 rw [List.length_map] at hl ho
 have hrow : s id = .live t_pack_Writer [iD w.e :: [d, iD w.lim]] := h1
 refine W_pack_Writer_put (pO id) b s _ (hb.lenK ⟨trivial, _, _, _, rfl, _, box_row h1, w.lim, rfl, trivial, _, _, _, rfl, _, box_row h1, d, rfl, h2.at_.lenK ?_⟩)
 rw [List.length_map, List.length_map, w64_id (by omega) (by omega)]
 unfold Wr.put
 refine bcd (fun hg => ?_) (fun hg => ?_)
 · simp only [gt_iff_lt] at hg
   rw [if_pos (show (l.length : Int) > w.lim - w.out.length from hg)]
   refine ⟨trivial, _, _, _, rfl, (trouble_note_ok hrow 2).mono ?_⟩
   rintro r s1 ⟨rfl, hs1, ho1⟩
   have hnote : (w.note 2) = ⟨if w.e = 0 then 2 else w.e, w.out, w.lim⟩ := by unfold Wr.note; split <;> rfl
   refine ⟨rfl, trivial, _, _, _, rfl, (trouble_well_ok hs1).use ⟨_, rfl, ?_⟩⟩
   have hne : (if w.e = 0 then (2 : Int) else w.e) ≠ 0 := by split <;> omega
   rw [show ((if w.e = 0 then (2 : Int) else w.e) == 0) = false from by simpa using hne]
   refine bc (fun e => by cases e) (fun _ => ⟨rfl, ?_⟩)
   simp only [hnote]
   rw [if_neg hne]
   exact ⟨hn, d, hs1, own_other h2 hn h3 ho1, h3⟩
 · simp only [gt_iff_lt] at hg
   rw [if_neg (show ¬ ((l.length : Int) > w.lim - w.out.length) from hg)]
   refine ⟨trivial, _, _, _, rfl, (trouble_well_ok hrow).use ⟨_, rfl, bce (fun e0 => ?_) (fun e0 => ⟨rfl, ?_⟩)⟩⟩
   · have := lay s w.e h1 (fun _ _ => rfl) e0
     simp only [e0, if_true] at this ⊢
     exact this
   · simp only
     rw [if_neg e0]
     exact ⟨hn, d, h1, h2, h3⟩
theorem wu64 {n : Int} (h0 : 0 ≤ n) (h1 : n < 2 ^ 63) : IntKind.wrap .u64 n = n := by
 show n % 18446744073709551616 = n
 omega
theorem WrIn.newList {s : Store} {id : Nat} {w : Wr} (h : WrIn σ0 s id w) {i : Nat} {so : SO} (hi : s i = .free) (hso : so ≠ .free) :
   ∃ τ, WrIn τ (s.set i so) id w ∧ Ext σ0 τ ∧ τ i = so := by
 obtain ⟨hn, d, h1, h2, h3⟩ := h
 have hne : i ≠ id := fun e => by rw [e, h1] at hi; cases hi
 have hd : idOf d ≠ some i := fun e => live_idOf'' h2.at_ e hi
 have he : Ext s (s.set i so) := Ext.new hi so
 have h2' := h2.ext' he
 refine ⟨fun j => if j = id ∨ idOf d = some j then .free else (s.set i so) j, ⟨by simp, d, ?_, ⟨h2'.at_, fun j hj => ?_, fun j a b e => ?_, h2.nsl, h2.nz⟩, h3⟩, fun j hj => ?_, ?_⟩
 · rw [Store.set_ne _ _ (Ne.symm hne)]; exact h1
 · by_cases hc : j = id ∨ idOf d = some j
   · exact absurd (if_pos hc) hj
   · exact (if_neg hc).symm
 · subst e; simp [idOf]
 · have c1 : j ≠ id := fun e => hj (by rw [e]; exact hn)
   have c2 : idOf d ≠ some j := fun e => hj (own_id h2 e)
   exact (if_neg (show ¬ (j = id ∨ idOf d = some j) from fun g => g.elim c1 c2)).trans (h2'.ext j hj)
 · exact (if_neg (show ¬ (i = id ∨ idOf d = some i) from fun g => g.elim hne hd)).trans (Store.set_same _ _ _)
theorem Writer_fixed_ok {s : Store} {id : Nat} {w : Wr} (h : WrIn σ0 s id w) {k : Nat} (hk : 1 ≤ k ∧ k ≤ 4) {d : D} {ns : List Int} (hd : At Tryz.prog σ0 t_int d (ns.map Go.Fw.encI)) (hs : w.out.length + 4 * ns.length ≤ 2 ^ 40) (hlim : 0 ≤ w.lim ∧ w.lim ≤ 2 ^ 60) (bits : Int) (hb : bits = 8 * k) :
   DCalls Tryz.prog n_pack_Writer_fixed [.one (pO id), iA bits, .one d] s fun r s' => r = .tup [] ∧ WrIn σ0 s' id (ns.foldl (fun w n => w.num k n) w) := by
 have hl := hd.size
 rw [List.length_map] at hl
 have hfl : ∀ (l : List Int) (w : Wr), (l.foldl (fun w n => w.num k n) w).out.length ≤ w.out.length + k * l.length ∧ (l.foldl (fun w n => w.num k n) w).lim = w.lim := by
   intro l
   induction l with
   | nil => intro w; simp
   | cons n l ih =>
     intro w
     have h1 := ih (w.num k n)
     have h2 := w.num_out k n
     rw [List.foldl_cons]
     refine ⟨Nat.le_trans h1.1 ?_, h1.2.trans h2.2⟩
     rw [List.length_cons, Nat.mul_add]; omega
 refine W_pack_Writer_fixed (pO id) bits d s _ ((hd.ext h.ext).lenK ⟨fun n s' => ∃ j : Nat, n = j ∧ j ≤ ns.length ∧ WrIn σ0 s' id ((ns.take j).foldl (fun w n => w.num k n) w), fun n _ => ns.length - n.toNat, ⟨0, rfl, by omega, h⟩, ?_⟩)
 rintro _ s' ⟨j, rfl, hj, hw⟩
 rw [List.length_map]
 refine bcd (fun hlt => ?_) (fun hge => ?_)
 rotate_left
 · have e : j = ns.length := by omega
   subst e
   rw [List.take_length] at hw
   exact ⟨rfl, hw⟩
 have hlt : j < ns.length := by omega
 obtain ⟨x, hx⟩ := get_of_lt (l := ns) (j := j) hlt
 have htake : (ns.take (j + 1)).foldl (fun w n => w.num k n) w = ((ns.take j).foldl (fun w n => w.num k n) w).num k x := by
   rw [List.take_add_one, hx, Option.toList_some, List.foldl_append]; rfl
 have hout := hfl (ns.take j) w
 generalize (ns.take j).foldl (fun w n => w.num k n) w = w1 at *
 have hol : w1.out.length + 4 ≤ 2 ^ 40 := by
   have := hout.1
   rw [List.length_take, Nat.min_eq_left hj] at this
   have h4 : k * j ≤ 4 * j := Nat.mul_le_mul_right _ hk.2
   omega
 refine (hd.ext hw.ext).load (map_get hx) c_int rfl ⟨x, rfl, ?_⟩
 intro R hR
 have go : ∀ s1, WrIn σ0 s1 id (if x < 0 ∨ x.fdiv (2 ^ (8 * k)) ≠ 0 then w1.note 32 else w1) → R s1 := fun s1 hw1 => hR s1 (by
   have hnote : ∀ c : Prop, [Decidable c] → (if c then w1.note 32 else w1).out = w1.out ∧ (if c then w1.note 32 else w1).lim = w1.lim := fun c _ => by
     split
     · exact w1.note_out 32
     · exact ⟨rfl, rfl⟩
   have hn2 := hnote (x < 0 ∨ x.fdiv (2 ^ (8 * k)) ≠ 0)
   refine ⟨fun d2 n2 s2 => ∃ (m : Nat) (p : List UInt8), m ≤ k ∧ n2 = 8 * m - 8 ∧ p ++ be m x = be k x ∧ Own Tryz.prog s1 s2 t_uint8 d2 (p.map encU), fun _ n2 _ => (n2 + 8).toNat, ⟨k, [], Nat.le_refl _, by rw [hb, w64_id (by omega) (by omega)], rfl, .nil _ (.refl _)⟩, ?_⟩
   rintro d2 _ s2 ⟨m, p, hm, rfl, hp, ho⟩
   have hpl : p.length + m = k := by
     have := congrArg List.length hp
     rwa [List.length_append, be_len, be_len] at this
   refine bcd (fun hge0 => ?_) (fun hlt0 => ?_)
   · obtain ⟨m', rfl⟩ : ∃ m', m = m' + 1 := ⟨m - 1, by omega⟩
     rw [wu64 (by omega) (by omega)]
     refine ⟨by omega, newObj_intro fun i3 s3 hi3 _ he3 hs3 => (ho.ext' he3).append (At.fresh (rs := [encU (byteAt x (8 * m'))]) (by rw [hs3, byteAt_enc, show min (8 * ((m' + 1 : Nat) : Int) - 8).toNat 64 = 8 * m' by omega]) (by simp) rfl) (by simp; omega) (by simp; omega) fun d3 s4 o4 _ _ => ?_⟩
     rw [w64_id (by omega) (by omega)]
     have e1 : p.map encU ++ [encU (byteAt x (8 * m'))] = (p ++ [byteAt x (8 * m')]).map encU := by simp
     rw [e1] at o4
     refine ⟨⟨m', p ++ [byteAt x (8 * m')], by omega, by omega, ?_, o4⟩, by show (8 * ((m' + 1 : Nat) : Int) - 8 - 8 + 8).toNat < (8 * ((m' + 1 : Nat) : Int) - 8 + 8).toNat; omega⟩
     rw [← hp, be, List.append_assoc]; rfl
   · have hm0 : m = 0 := by omega
     subst hm0
     rw [be, List.append_nil] at hp
     subst hp
     refine (Writer_put_ok (hw1.ext' ho.ext) ho.at_ (by rw [hn2.1, be_len]; omega) (by rw [hn2.2, hout.2]; exact hlim)).mono ?_
     rintro r s3 ⟨rfl, hw3⟩
     refine ⟨rfl, ?_⟩
     rw [w64_succ (by omega)]
     refine ⟨⟨j + 1, rfl, hlt, ?_⟩, dec_lt hlt⟩
     rw [htake]; exact hw3)
 have note : ∀ c : x < 0 ∨ x.fdiv (2 ^ (8 * k)) ≠ 0, (NotNil (pO id)) ∧ ∃ (s : D) (i off : Nat), (pO id = (.el s i off : D)) ∧ DCalls Tryz.prog n_pack_trouble_note [.one (.el s i (off + 0)), iA 32] s' fun r s1 => (r = .tup []) ∧ R s1 := fun c => by
   obtain ⟨hn, wd, h1, h2, h3⟩ := hw
   refine ⟨trivial, _, _, _, rfl, (trouble_note_ok (e := w1.e) (rest := [wd, iD w1.lim]) h1 32).mono ?_⟩
   rintro r s1 ⟨rfl, hs1, ho1⟩
   refine ⟨rfl, go s1 ?_⟩
   rw [if_pos c]
   have hnote : (w1.note 32) = ⟨if w1.e = 0 then 32 else w1.e, w1.out, w1.lim⟩ := by unfold Wr.note; split <;> rfl
   rw [hnote]
   exact ⟨hn, wd, hs1, own_other h2 hn h3 ho1, h3⟩
 refine bcd (fun hneg => note (.inl hneg)) (fun hnn => ?_)
 have hsh : Int.fdiv x (2 ^ (min (IntKind.wrap .u64 bits).toNat 64)) = x.fdiv (2 ^ (8 * k)) := by
   rw [wu64 (by omega) (by omega)]
   congr 2; omega
 rw [hsh]
 refine ⟨by rw [wu64 (by omega) (by omega)]; omega, bcn (fun hf => note (.inr hf)) (fun hf => go s' ?_)⟩
 rw [if_neg (by rintro (c | c); · omega
                · exact c hf)]
 exact hw
theorem Writer_Byte_ok {s : Store} {id : Nat} {w : Wr} (h : WrIn σ0 s id w) {d : D} {ns : List Int} (hd : At Tryz.prog σ0 t_int d (ns.map Go.Fw.encI)) (hs : w.out.length + 4 * ns.length ≤ 2 ^ 40) (hlim : 0 ≤ w.lim ∧ w.lim ≤ 2 ^ 60) :
   DCalls Tryz.prog n_pack_Writer_Byte [.one (pO id), .one d] s fun r s' => r = .tup [] ∧ WrIn σ0 s' id (ns.foldl (fun w n => w.num 1 n) w) :=
 W_pack_Writer_Byte _ d s _ ((Writer_fixed_ok h (k := 1) (by omega) hd hs hlim 8 rfl).mono fun r s' ⟨h1, h2⟩ => ⟨h1, rfl, h2⟩)
theorem Writer_Word_ok {s : Store} {id : Nat} {w : Wr} (h : WrIn σ0 s id w) {d : D} {ns : List Int} (hd : At Tryz.prog σ0 t_int d (ns.map Go.Fw.encI)) (hs : w.out.length + 4 * ns.length ≤ 2 ^ 40) (hlim : 0 ≤ w.lim ∧ w.lim ≤ 2 ^ 60) :
   DCalls Tryz.prog n_pack_Writer_Word [.one (pO id), .one d] s fun r s' => r = .tup [] ∧ WrIn σ0 s' id (ns.foldl (fun w n => w.num 2 n) w) :=
 W_pack_Writer_Word _ d s _ ((Writer_fixed_ok h (k := 2) (by omega) hd hs hlim 16 rfl).mono fun r s' ⟨h1, h2⟩ => ⟨h1, rfl, h2⟩)
theorem Writer_Long_ok {s : Store} {id : Nat} {w : Wr} (h : WrIn σ0 s id w) {d : D} {ns : List Int} (hd : At Tryz.prog σ0 t_int d (ns.map Go.Fw.encI)) (hs : w.out.length + 4 * ns.length ≤ 2 ^ 40) (hlim : 0 ≤ w.lim ∧ w.lim ≤ 2 ^ 60) :
   DCalls Tryz.prog n_pack_Writer_Long [.one (pO id), .one d] s fun r s' => r = .tup [] ∧ WrIn σ0 s' id (ns.foldl (fun w n => w.num 4 n) w) :=
 W_pack_Writer_Long _ d s _ ((Writer_fixed_ok h (k := 4) (by omega) hd hs hlim 32 rfl).mono fun r s' ⟨h1, h2⟩ => ⟨h1, rfl, h2⟩)
theorem Writer_Done_ok {s : Store} {id : Nat} {w : Wr} (h : WrIn σ0 s id w) :
   Pure Tryz.prog n_pack_Writer_Done [.one (pO id)] s (.tup [.one (.str (ofL (if w.e = 0 then w.out else []))), iA w.e]) := by
 obtain ⟨hn, d, h1, h2, h3⟩ := h
 have hrow : s id = .live t_pack_Writer [iD w.e :: [d, iD w.lim]] := h1
 refine W_pack_Writer_Done (pO id) s _ ⟨trivial, _, _, _, rfl, (trouble_well_ok hrow).use ⟨_, rfl, bcnot (fun e => ?_) (fun e => ?_)⟩⟩
 · have hne : w.e ≠ 0 := by simpa using e
   refine ⟨trivial, _, _, _, rfl, _, box_row h1, w.e, rfl, ?_⟩
   rw [if_neg hne]; exact ⟨rfl, rfl⟩
 · have he : w.e = 0 := by simpa using e
   refine ⟨trivial, _, _, _, rfl, _, box_row h1, d, rfl, ofL w.out, ?_, ?_⟩
   · rw [bytesD_ofL]; exact h2.at_.rows
   · rw [if_pos he, he]; exact ⟨rfl, rfl⟩
def RdIn (s : Store) (id : Nat) (r : Rd) : Prop := s id = .live t_pack_Reader [[iD r.e, .str (ofL r.l)]]
theorem pack_Read_ok (l : List UInt8) : DCalls Tryz.prog n_pack_Read [.one (.str (ofL l))] σ fun r s => ∃ id, r = .a (.one (pO id)) ∧ σ id = .free ∧ RdIn s id ⟨0, l⟩ ∧ Ext σ s ∧ ∀ i, i ≠ id → s i = σ i :=
 W_pack_Read _ σ _ (newObj_intro fun id s hid hset he hs => ⟨id, rfl, hid, hs, he, fun i hi => by rw [hset, Store.set_ne _ _ hi]⟩)
theorem Reader_take_ok {s : Store} {id : Nat} {r : Rd} (h : RdIn s id r) {n : Nat} (hn : n ≤ 2 ^ 20) (hl : r.l.length ≤ 2 ^ 60) :
   DCalls Tryz.prog n_pack_Reader_take [.one (pO id), iA 0, iA n] s fun rr s' => rr = .a (.one (.str (ofL (if (r.short n).e = 0 then r.l.take n else [])))) ∧
     RdIn s' id (if (r.short n).e = 0 then ⟨0, r.l.drop n⟩ else r.short n) ∧ ∀ i, i ≠ id → s' i = s i := by
 have rest : ∀ (s1 : Store) (q : Rd), RdIn s1 id q → (∀ i, i ≠ id → s1 i = s i) → q = r.short n → (q.e = 0 → n ≤ q.l.length) →
     DCalls Tryz.prog n_pack_trouble_well [.one (pO id)] s1 fun r1 s2 => ∃ b, r1 = .a (bA b) ∧ bcase (!b) (RV.a (.one (.str (ByteArray.mk (List.toArray [])))) = .a (.one (.str (ofL (if (r.short n).e = 0 then r.l.take n else [])))) ∧
       RdIn s2 id (if (r.short n).e = 0 then ⟨0, r.l.drop n⟩ else r.short n) ∧ ∀ i, i ≠ id → s2 i = s i)
       ((NotNil (pO id)) ∧ ∃ (s3 : D) (i2 off2 : Nat), (pO id = (.el s3 i2 off2 : D)) ∧ ∃ row1 : List D, Row s2 s3 i2 row1 ∧ ∃ s4 : ByteArray, ((List.drop (off2 + 1) row1).take 1 = [.str s4]) ∧ ((0 : Int) ≤ 0) ∧ ((0 : Int) ≤ (w64 (0 + (n : Int)))) ∧ ((w64 (0 + (n : Int))) ≤ (ByteArray.size s4 : Int)) ∧
         (NotNil (pO id)) ∧ ∃ (s5 : D) (i3 off3 : Nat), (pO id = (.el s5 i3 off3 : D)) ∧ ∃ row2 : List D, Row s2 s5 i3 row2 ∧ ∃ s6 : ByteArray, ((List.drop (off3 + 1) row2).take 1 = [.str s6]) ∧ ((0 : Int) ≤ (w64 (0 + (n : Int)))) ∧ ((w64 (0 + (n : Int))) ≤ (ByteArray.size s6 : Int)) ∧
         (NotNil (pO id)) ∧ ∃ (s7 : D) (i4 off4 : Nat), (pO id = (.el s7 i4 off4 : D)) ∧ storeEl [.str (ByteArray.extract s6 (Int.toNat (w64 (0 + (n : Int)))) (ByteArray.size s6))] s2 s7 i4 (off4 + 1) fun s' =>
           (RV.a (.one (.str (ByteArray.extract s4 (Int.toNat 0) (Int.toNat (w64 (0 + (n : Int))))))) = .a (.one (.str (ofL (if (r.short n).e = 0 then r.l.take n else [])))) ∧
           RdIn s' id (if (r.short n).e = 0 then ⟨0, r.l.drop n⟩ else r.short n) ∧ ∀ i, i ≠ id → s' i = s i)) := by
   intro s1 q hq ho hqe hql
   refine (trouble_well_ok hq).use ⟨_, rfl, bcnot (fun e => ?_) (fun e => ?_)⟩
   · have hne : (r.short n).e ≠ 0 := by rw [← hqe]; simpa using e
     rw [if_neg hne, if_neg hne, ← hqe]
     exact ⟨rfl, hq, ho⟩
   · have he : q.e = 0 := by simpa using e
     have hlq := hql he
     have hqr : q.l = r.l := by rw [hqe, Rd.short_l]
     have hw : w64 (0 + (n : Int)) = n := by rw [w64_id (by omega) (by omega)]; omega
     rw [hw, if_pos (by rw [← hqe]; exact he), if_pos (by rw [← hqe]; exact he)]
     refine ⟨trivial, _, _, _, rfl, _, box_row hq, ofL q.l, rfl, by omega, by omega, by rw [size_ofL]; omega, trivial, _, _, _, rfl, _, box_row hq, ofL q.l, rfl, by omega, by rw [size_ofL]; omega, trivial, _, _, _, rfl, cell_store hq (by simp) fun s' hs' ho' => ⟨?_, ?_, fun i hi => (ho' i hi).trans (ho i hi)⟩⟩
     · rw [Int.toNat_natCast, extract_ofL, hqr]; rfl
     · unfold RdIn
       rw [hs', Int.toNat_natCast, size_ofL, extract_ofL, List.take_length, hqr, he]
       rfl
 refine W_pack_Reader_take (pO id) 0 n s _ ⟨trivial, _, _, _, rfl, _, box_row h, ofL r.l, rfl, ?_⟩
 rw [size_ofL, w64_id (by omega) (by omega)]
 refine bcd (fun hg => ?_) (fun hg => ?_)
 · simp only [gt_iff_lt] at hg
   have hsh : r.short n = ⟨if r.e = 0 then 1 else r.e, r.l⟩ := by
     unfold Rd.short
     rw [if_pos (by omega)]
     split <;> rfl
   refine ⟨trivial, _, _, _, rfl, (trouble_note_ok (e := r.e) (rest := [.str (ofL r.l)]) h 1).mono ?_⟩
   rintro r1 s1 ⟨rfl, hs1, ho1⟩
   refine ⟨rfl, trivial, _, _, _, rfl, rest s1 ⟨if r.e = 0 then 1 else r.e, r.l⟩ hs1 ho1 hsh.symm fun e => ?_⟩
   simp only at e
   split at e
   · cases e
   · rename_i hc; exact absurd e hc
 · simp only [gt_iff_lt] at hg
   have hsh : r.short n = r := by unfold Rd.short; rw [if_neg (by omega)]
   exact ⟨trivial, _, _, _, rfl, rest s r h (fun _ _ => rfl) hsh.symm fun _ => by omega⟩
theorem Reader_fixed_ok {s : Store} {id : Nat} {r : Rd} (h : RdIn s id r) {n : Nat} (hn : n ≤ 4) (hl : r.l.length ≤ 2 ^ 60) :
   DCalls Tryz.prog n_pack_Reader_fixed [.one (pO id), iA n] s fun rr s' => rr = .a (iA (r.num n).1) ∧ RdIn s' id (r.num n).2 ∧ ∀ i, i ≠ id → s' i = s i := by
 refine W_pack_Reader_fixed (pO id) n s _ ((Reader_take_ok h (by omega) hl).mono ?_)
 rintro rr s1 ⟨rfl, h1, ho1⟩
 have hnum : r.num n = (rd (if (r.short n).e = 0 then r.l.take n else []), if (r.short n).e = 0 then ⟨0, r.l.drop n⟩ else r.short n) := by
   unfold Rd.num
   split
   · rw [Rd.short_l]
   · rfl
 rw [hnum]
 have hll : (if (r.short n).e = 0 then r.l.take n else []).length ≤ 4 := by
   split
   · rw [List.length_take]; omega
   · simp
 generalize (if (r.short n).e = 0 then r.l.take n else []) = l at *
 refine ⟨_, rfl, ?_⟩
 rw [bytesD_ofL]
 have hat : ∀ s, At Tryz.prog s t_uint8 (.sl 1 (l.map encU)) (l.map encU) := fun s => ⟨⟨rfl, .inr c_uint8.symm⟩, by rw [List.length_map]; omega, fun es rows e => by injection e with e1 e2; rw [← e1]; exact c_uint8.symm⟩
 refine (hat s1).lenK ⟨fun x n2 s2 => s2 = s1 ∧ ∃ j : Nat, n2 = j ∧ j ≤ l.length ∧ x = rd (l.take j), fun _ n2 _ => l.length - n2.toNat, ⟨rfl, 0, rfl, by omega, rfl⟩, ?_⟩
 rintro _ _ s2 ⟨rfl, j, rfl, hj, rfl⟩
 rw [List.length_map]
 refine bcd (fun hlt => ?_) (fun hge => ?_)
 · have hlt : j < l.length := by omega
   obtain ⟨c, hc⟩ := get_of_lt (l := l) (j := j) hlt
   refine (hat s2).load (map_get hc) c_uint8 rfl ⟨(c.toNat : Int), rfl, ?_⟩
   have hx := rdL_lt (l.take j) 0 (by omega)
   have h256 : (256 : Int) ^ (l.take j).length ≤ 256 ^ 4 := by
     have e : ∀ m : Nat, (256 : Int) ^ m = ((256 ^ m : Nat) : Int) := fun m => by simp
     rw [e, e]
     exact Int.ofNat_le.2 (Nat.pow_le_pow_right (by omega) (by rw [List.length_take]; omega))
   have hb : rd (l.take j) < 2 ^ 48 := by
     unfold rd
     have := hx.2
     have h4 : (256 : Int) ^ 4 = 4294967296 := by decide
     rw [h4] at h256
     omega
   have hor := or_byte (x := rd (l.take j)) (c := (c.toNat : Int)) hx.1 hb (by omega) (by have := c.toNat_lt; omega)
   rw [w64_succ (by omega)]
   refine ⟨⟨rfl, j + 1, rfl, hlt, ?_⟩, dec_lt hlt⟩
   rw [hor, List.take_add_one, hc, Option.toList_some, rd, rd, rdL_append]; rfl
 · have e : j = l.length := by omega
   subst e
   rw [List.take_length]
   exact ⟨rfl, h1, ho1⟩
theorem Reader_Byte_ok {s : Store} {id : Nat} {r : Rd} (h : RdIn s id r) (hl : r.l.length ≤ 2 ^ 60) : DCalls Tryz.prog n_pack_Reader_Byte [.one (pO id)] s fun rr s' => rr = .a (iA (r.num 1).1) ∧ RdIn s' id (r.num 1).2 ∧ ∀ i, i ≠ id → s' i = s i :=
 W_pack_Reader_Byte _ s _ ((Reader_fixed_ok h (n := 1) (by omega) hl).mono fun rr s' ⟨h1, h2⟩ => ⟨_, h1, rfl, h2⟩)
theorem Reader_Word_ok {s : Store} {id : Nat} {r : Rd} (h : RdIn s id r) (hl : r.l.length ≤ 2 ^ 60) : DCalls Tryz.prog n_pack_Reader_Word [.one (pO id)] s fun rr s' => rr = .a (iA (r.num 2).1) ∧ RdIn s' id (r.num 2).2 ∧ ∀ i, i ≠ id → s' i = s i :=
 W_pack_Reader_Word _ s _ ((Reader_fixed_ok h (n := 2) (by omega) hl).mono fun rr s' ⟨h1, h2⟩ => ⟨_, h1, rfl, h2⟩)
theorem Reader_Long_ok {s : Store} {id : Nat} {r : Rd} (h : RdIn s id r) (hl : r.l.length ≤ 2 ^ 60) : DCalls Tryz.prog n_pack_Reader_Long [.one (pO id)] s fun rr s' => rr = .a (iA (r.num 4).1) ∧ RdIn s' id (r.num 4).2 ∧ ∀ i, i ≠ id → s' i = s i :=
 W_pack_Reader_Long _ s _ ((Reader_fixed_ok h (n := 4) (by omega) hl).mono fun rr s' ⟨h1, h2⟩ => ⟨_, h1, rfl, h2⟩)
theorem Reader_End_ok {s : Store} {id : Nat} {r : Rd} (h : RdIn s id r) : Pure Tryz.prog n_pack_Reader_End [.one (pO id)] s (.a (iA (if r.e = 0 ∧ r.l ≠ [] then 3 else r.e))) := by
 refine W_pack_Reader_End (pO id) s _ ⟨trivial, _, _, _, rfl, (trouble_well_ok (e := r.e) (rest := [.str (ofL r.l)]) h).use ⟨_, rfl, bce (fun e => ?_) (fun e => ?_)⟩⟩
 · refine ⟨trivial, _, _, _, rfl, _, box_row h, ofL r.l, rfl, bcnot (fun hs => ?_) (fun hs => ?_)⟩
   · have hne : r.l ≠ [] := fun hl => by
       rw [toList_data, toList_data, hl] at hs
       cases hs
     rw [if_pos ⟨e, hne⟩]
     exact ⟨rfl, rfl⟩
   · have hl : r.l = [] := by
       have := eq_of_beq hs
       rw [toList_data, toList_data] at this
       exact this
     refine ⟨trivial, _, _, _, rfl, _, box_row h, r.e, rfl, ?_⟩
     rw [if_neg (fun g => g.2 hl)]; exact ⟨rfl, rfl⟩
 · refine ⟨trivial, _, _, _, rfl, _, box_row h, r.e, rfl, ?_⟩
   rw [if_neg (fun g => e g.1)]; exact ⟨rfl, rfl⟩
end
end Go.Proofs.YtdlnbehcnfjneaaGreat
namespace Go.Fw
section
def ownW (w : Wr) (o : Int) : Wr := w.num 2 ((if 1048576 < o then 1048576 else o) + 2)
def rtW (w : Wr) (r : Rs) : Wr := (w.num 1 r.State).num 1 r.Next
def lnW (w : Wr) (l : Ls) : Wr := ((w.num 4 l.Ask).num 4 l.Done).num 4 l.Grant
def Co.saveW (k : Co) : Wr := ((k.Lines.drop 1).take 3).foldl lnW (k.Routes.foldl rtW (k.Own.foldl ownW ⟨0, [], 2 * (k.Own.length : Int) + 2 * k.Routes.length + 36⟩))
def Co.saveC (k : Co) : List UInt8 × Int := if k.Lines.length < 4 then ([], 32) else (if k.saveW.e = 0 then k.saveW.out else [], k.saveW.e)
def rdOwn : Nat → Rd → List Int × Rd
 | 0, r => ([], r)
 | n + 1, r => (((r.num 2).1 - 2) :: (rdOwn n (r.num 2).2).1, (rdOwn n (r.num 2).2).2)
def rdRts : Nat → Rd → List Rs × Rd
 | 0, r => ([], r)
 | n + 1, r => (⟨(r.num 1).1, 0, ((r.num 1).2.num 1).1, 0⟩ :: (rdRts n ((r.num 1).2.num 1).2).1, (rdRts n ((r.num 1).2.num 1).2).2)
def ln3 (a b g : Int) : Ls := ⟨a, b, g, g, 0, 0, 0, 0⟩
def rdLns : Nat → Rd → List Ls × Rd
 | 0, r => ([], r)
 | n + 1, r => (ln3 (r.num 4).1 ((r.num 4).2.num 4).1 (((r.num 4).2.num 4).2.num 4).1 :: (rdLns n (((r.num 4).2.num 4).2.num 4).2).1, (rdLns n (((r.num 4).2.num 4).2.num 4).2).2)
def Cf.loadQ (c : Cf) (now : Int) (l : List UInt8) : Co × Rd :=
 let a := rdOwn c.Secs.length ⟨0, l⟩
 let b := rdRts c.Rts.length a.2
 let d := rdLns 3 b.2
 (⟨a.1, b.1, (newCo c now).Points, (newCo c now).Xs, ⟨0, 0, 0, 0, 0, 0, 0, 0⟩ :: d.1, (newCo c now).Resets, true⟩, d.2)
def heldR (x : Rs) : Rs := if x.State = 0 then ⟨0, 0, 0, 0⟩ else ⟨5, 0, x.Next, 0⟩
def zCo : Co := ⟨[], [], [], [], [], [], false⟩
def Cf.loadC (c : Cf) (now : Int) (l : List UInt8) : Co × Int :=
 if (c.loadQ now l).2.e = 0 ∧ (c.loadQ now l).2.l = [] ∧ (c.loadQ now l).1.fits c = true ∧ tm 0 now = true then
   (let q := (c.loadQ now l).1; ⟨q.Own, q.Routes.map heldR, q.Points, q.Xs, q.Lines, q.Resets, false⟩, 0) else (zCo, 3)
theorem Rd.num_len (r : Rd) (n : Nat) : (r.num n).2.l.length ≤ r.l.length := by
 unfold Rd.num
 split
 · show ((r.short n).l.drop n).length ≤ _
   rw [List.length_drop, Rd.short_l]; omega
 · rw [Rd.short_l]; exact Nat.le_refl _
/-! what fits is written -/
def ownB (o : Int) : List UInt8 := be 2 (o + 2)
def rtB (r : Rs) : List UInt8 := be 1 r.State ++ be 1 r.Next
def lnB (l : Ls) : List UInt8 := be 4 l.Ask ++ (be 4 l.Done ++ be 4 l.Grant)
def Co.saveB (k : Co) : List UInt8 := (k.Own.map ownB).flatten ++ (k.Routes.map rtB).flatten ++ (((k.Lines.drop 1).take 3).map lnB).flatten
theorem flat_len {α : Type} {f : α → List UInt8} {m : Nat} (h : ∀ x, (f x).length = m) : ∀ l : List α, (l.map f).flatten.length = m * l.length := by
 intro l
 induction l with
 | nil => simp
 | cons x l ih => rw [List.map_cons, List.flatten_cons, List.length_append, h, ih, List.length_cons, Nat.mul_add]; omega
theorem ownB_len (o : Int) : (ownB o).length = 2 := be_len _ _
theorem rtB_len (r : Rs) : (rtB r).length = 2 := by unfold rtB; rw [List.length_append, be_len, be_len]
theorem lnB_len (l : Ls) : (lnB l).length = 12 := by unfold lnB; rw [List.length_append, List.length_append, be_len, be_len, be_len]
theorem fold_fit {α : Type} {f : Wr → α → Wr} {g : α → List UInt8} {m : Nat} {p : α → Prop} (hg : ∀ x, (g x).length = m)
   (hf : ∀ (w : Wr) x, p x → w.e = 0 → (w.out.length : Int) + m ≤ w.lim → f w x = ⟨0, w.out ++ g x, w.lim⟩) : ∀ (l : List α) (w : Wr), (∀ x ∈ l, p x) → w.e = 0 → (w.out.length : Int) + m * l.length ≤ w.lim →
     l.foldl f w = ⟨0, w.out ++ (l.map g).flatten, w.lim⟩ := by
 intro l
 induction l with
 | nil => intro w _ he _; cases w; simp at he ⊢; exact he
 | cons x l ih =>
   intro w hp he hl
   rw [List.length_cons] at hl
   have e : (m : Int) * ((l.length + 1 : Nat) : Int) = m * l.length + m := by rw [Int.natCast_add, Int.mul_add]; simp
   rw [e] at hl
   have hm0 : (0 : Int) ≤ m * l.length := Int.mul_nonneg (by omega) (by omega)
   rw [List.foldl_cons, hf w x (hp x (by simp)) he (by omega), ih _ (fun y hy => hp y (by simp [hy])) rfl (by simp only [List.length_append, hg]; omega)]
   simp [List.append_assoc]
theorem save_fit {c : Cf} {k : Co} (h : FitIs c k) : k.saveW = ⟨0, k.saveB, 2 * (k.Own.length : Int) + 2 * k.Routes.length + 36⟩ := by
 have hR : c.Rts.length ≤ 12 := (check_small h.chk).2.2.1
 have tm0 : ∀ {n : Int}, tm 0 n = true → 0 ≤ n ∧ n < 256 ^ 4 := fun h => by
   have := of_decide_eq_true h
   have e : (256 : Int) ^ 4 = 4294967296 := by decide
   rw [e]; omega
 have o1 := fold_fit (f := ownW) (g := ownB) (m := 2) (p := fun o => -2 ≤ o ∧ o ≤ 12) ownB_len (fun w x hx he hl => by
   have := Wr.num_fit (w := w) (k := 2) (n := x + 2) he (by omega) (by have e : (256 : Int) ^ 2 = 65536 := by decide
                                                                       rw [e]; omega) hl
   unfold ownW ownB
   rw [if_neg (by omega)]; exact this) k.Own ⟨0, [], 2 * (k.Own.length : Int) + 2 * k.Routes.length + 36⟩ (fun o ho => by have := h.own o ho; omega) rfl (by simp; omega)
 have o2 := fold_fit (f := rtW) (g := rtB) (m := 2) (p := fun r => (0 ≤ r.State ∧ r.State ≤ 5) ∧ 0 ≤ r.Next ∧ r.Next < 256) rtB_len (fun w x hx he hl => by
   have e : (256 : Int) ^ 1 = 256 := by decide
   have h1 := Wr.num_fit (w := w) (k := 1) (n := x.State) he hx.1.1 (by rw [e]; omega) (by omega)
   unfold rtW rtB
   rw [h1, Wr.num_fit (w := ⟨0, w.out ++ be 1 x.State, w.lim⟩) (k := 1) (n := x.Next) rfl hx.2.1 (by rw [e]; omega) (by simp [be_len]; omega)]
   simp [List.append_assoc]) k.Routes ⟨0, (k.Own.map ownB).flatten, 2 * (k.Own.length : Int) + 2 * k.Routes.length + 36⟩ (fun r hr => by
     obtain ⟨i, hi⟩ := List.mem_iff_getElem?.1 hr
     obtain ⟨y, hy⟩ := get_of_lt (l := c.Rts) (j := i) (by have := (List.getElem?_eq_some_iff.1 hi).1; have := h.lRts; omega)
     have := h.rts i r y hi hy
     simp only [Rs.fits, Bool.and_eq_true, decide_eq_true_eq] at this
     have hp : y.Path.length ≤ 8 := (check_rt h.chk (List.mem_of_getElem? hy)).len.2
     exact ⟨this.1.1, this.1.2.1, by have := this.1.2.2; omega⟩) rfl (by simp [flat_len ownB_len]; omega)
 have o3 := fold_fit (f := lnW) (g := lnB) (m := 12) (p := fun l => (0 ≤ l.Ask ∧ l.Ask < 256 ^ 4) ∧ (0 ≤ l.Done ∧ l.Done < 256 ^ 4) ∧ (0 ≤ l.Grant ∧ l.Grant < 256 ^ 4)) lnB_len (fun w x hx he hl => by
   have h1 := Wr.num_fit (w := w) (k := 4) (n := x.Ask) he hx.1.1 hx.1.2 (by omega)
   have h2 := Wr.num_fit (w := ⟨0, w.out ++ be 4 x.Ask, w.lim⟩) (k := 4) (n := x.Done) rfl hx.2.1.1 hx.2.1.2 (by simp [be_len]; omega)
   have h3 := Wr.num_fit (w := ⟨0, w.out ++ be 4 x.Ask ++ be 4 x.Done, w.lim⟩) (k := 4) (n := x.Grant) rfl hx.2.2.1 hx.2.2.2 (by simp [be_len]; omega)
   unfold lnW lnB
   rw [h1, h2, h3]
   simp [List.append_assoc]) ((k.Lines.drop 1).take 3) ⟨0, (k.Own.map ownB).flatten ++ (k.Routes.map rtB).flatten, 2 * (k.Own.length : Int) + 2 * k.Routes.length + 36⟩ (fun l hl => by
     have := h.lns l (List.mem_of_mem_drop (List.mem_of_mem_take hl))
     simp only [Ls.fits, Bool.and_eq_true] at this
     exact ⟨tm0 this.1.1, tm0 this.1.2.1, tm0 this.1.2.2.1⟩) rfl (by
     simp only [List.length_append, flat_len ownB_len, flat_len rtB_len, List.length_take, List.length_drop]
     omega)
 unfold Co.saveW
 rw [o1]
 simp only [List.nil_append]
 rw [o2, o3]
 rfl
theorem saveC_fit {c : Cf} {k : Co} (h : FitIs c k) : k.saveC = (k.saveB, 0) := by
 unfold Co.saveC
 rw [if_neg (by rw [h.lLn]; omega), save_fit h]
 rfl
theorem rdOwn_back : ∀ (l : List Int) (t : List UInt8), (∀ o ∈ l, -2 ≤ o ∧ o ≤ 12) → rdOwn l.length ⟨0, (l.map ownB).flatten ++ t⟩ = (l, ⟨0, t⟩) := by
 intro l
 induction l with
 | nil => intro t _; rfl
 | cons o l ih =>
   intro t h
   have ho := h o (by simp)
   have e : (⟨0, ((o :: l).map ownB).flatten ++ t⟩ : Rd).num 2 = (o + 2, ⟨0, (l.map ownB).flatten ++ t⟩) := by
     rw [List.map_cons, List.flatten_cons, List.append_assoc]
     exact Rd.num_be (by omega) (by have e : (256 : Int) ^ 2 = 65536 := by decide
                                    rw [e]; omega) _
   rw [List.length_cons, rdOwn, e, ih t fun y hy => h y (by simp [hy])]
   simp only [Prod.mk.injEq, List.cons.injEq, and_true]
   omega
theorem rdRts_back : ∀ (l : List Rs) (t : List UInt8), (∀ r ∈ l, (0 ≤ r.State ∧ r.State ≤ 5) ∧ 0 ≤ r.Next ∧ r.Next < 256) → rdRts l.length ⟨0, (l.map rtB).flatten ++ t⟩ = (l.map fun r => ⟨r.State, 0, r.Next, 0⟩, ⟨0, t⟩) := by
 intro l
 induction l with
 | nil => intro t _; rfl
 | cons r l ih =>
   intro t h
   have hr := h r (by simp)
   have e1 : (256 : Int) ^ 1 = 256 := by decide
   have e : (⟨0, ((r :: l).map rtB).flatten ++ t⟩ : Rd).num 1 = (r.State, ⟨0, be 1 r.Next ++ ((l.map rtB).flatten ++ t)⟩) := by
     rw [List.map_cons, List.flatten_cons, List.append_assoc, rtB, List.append_assoc]
     exact Rd.num_be (by omega) (by rw [e1]; omega) _
   have e2 := Rd.num_be (k := 1) hr.2.1 (by rw [e1]; omega) ((l.map rtB).flatten ++ t)
   rw [List.length_cons, rdRts, e]
   simp only
   rw [e2, ih t fun y hy => h y (by simp [hy])]
   rfl
theorem rdLns_back : ∀ (l : List Ls) (t : List UInt8), (∀ x ∈ l, (0 ≤ x.Ask ∧ x.Ask < 256 ^ 4) ∧ (0 ≤ x.Done ∧ x.Done < 256 ^ 4) ∧ (0 ≤ x.Grant ∧ x.Grant < 256 ^ 4)) →
   rdLns l.length ⟨0, (l.map lnB).flatten ++ t⟩ = (l.map fun x => ln3 x.Ask x.Done x.Grant, ⟨0, t⟩) := by
 intro l
 induction l with
 | nil => intro t _; rfl
 | cons x l ih =>
   intro t h
   have hx := h x (by simp)
   have e : (⟨0, ((x :: l).map lnB).flatten ++ t⟩ : Rd).num 4 = (x.Ask, ⟨0, be 4 x.Done ++ (be 4 x.Grant ++ ((l.map lnB).flatten ++ t))⟩) := by
     rw [List.map_cons, List.flatten_cons, List.append_assoc, lnB, List.append_assoc, List.append_assoc]
     exact Rd.num_be hx.1.1 hx.1.2 _
   have e2 := Rd.num_be hx.2.1.1 hx.2.1.2 (be 4 x.Grant ++ ((l.map lnB).flatten ++ t))
   have e3 := Rd.num_be hx.2.2.1 hx.2.2.2 ((l.map lnB).flatten ++ t)
   rw [List.length_cons, rdLns, e]
   simp only
   rw [e2]
   simp only
   rw [e3, ih t fun y hy => h y (by simp [hy])]
   rfl
def Co.backK (c : Cf) (k : Co) (now : Int) : Co :=
 ⟨k.Own, k.Routes.map (fun r => heldR ⟨r.State, 0, r.Next, 0⟩), (newCo c now).Points, (newCo c now).Xs, ⟨0, 0, 0, 0, 0, 0, 0, 0⟩ :: ((k.Lines.drop 1).take 3).map (fun x => ln3 x.Ask x.Done x.Grant), (newCo c now).Resets, false⟩
theorem load_back {c : Cf} {k : Co} (h : FitIs c k) {now : Int} (hn : tm 0 now = true) : c.loadC now k.saveB = (k.backK c now, 0) := by
 have hR : c.Rts.length ≤ 12 := (check_small h.chk).2.2.1
 have tm0 : ∀ {n : Int}, tm 0 n = true → 0 ≤ n ∧ n < 256 ^ 4 := fun h => by
   have := of_decide_eq_true h
   have e : (256 : Int) ^ 4 = 4294967296 := by decide
   rw [e]; omega
 have b1 := rdOwn_back k.Own ((k.Routes.map rtB).flatten ++ (((k.Lines.drop 1).take 3).map lnB).flatten) fun o ho => by have := h.own o ho; omega
 have hrt : ∀ r ∈ k.Routes, (0 ≤ r.State ∧ r.State ≤ 5) ∧ 0 ≤ r.Next ∧ r.Next < 256 := fun r hr => by
   obtain ⟨i, hi⟩ := List.mem_iff_getElem?.1 hr
   obtain ⟨y, hy⟩ := get_of_lt (l := c.Rts) (j := i) (by have := (List.getElem?_eq_some_iff.1 hi).1; have := h.lRts; omega)
   have := h.rts i r y hi hy
   simp only [Rs.fits, Bool.and_eq_true, decide_eq_true_eq] at this
   have hp : y.Path.length ≤ 8 := (check_rt h.chk (List.mem_of_getElem? hy)).len.2
   exact ⟨this.1.1, this.1.2.1, by have := this.1.2.2; omega⟩
 have b2 := rdRts_back k.Routes (((k.Lines.drop 1).take 3).map lnB).flatten hrt
 have hln : ∀ x ∈ (k.Lines.drop 1).take 3, (0 ≤ x.Ask ∧ x.Ask < 256 ^ 4) ∧ (0 ≤ x.Done ∧ x.Done < 256 ^ 4) ∧ (0 ≤ x.Grant ∧ x.Grant < 256 ^ 4) := fun x hx => by
   have := h.lns x (List.mem_of_mem_drop (List.mem_of_mem_take hx))
   simp only [Ls.fits, Bool.and_eq_true] at this
   exact ⟨tm0 this.1.1, tm0 this.1.2.1, tm0 this.1.2.2.1⟩
 have b3 := rdLns_back ((k.Lines.drop 1).take 3) [] hln
 rw [List.append_nil] at b3
 have l3 : ((k.Lines.drop 1).take 3).length = 3 := by rw [List.length_take, List.length_drop, h.lLn]; rfl
 rw [h.lOwn] at b1
 rw [h.lRts] at b2
 rw [l3] at b3
 have hq : c.loadQ now k.saveB = (⟨k.Own, k.Routes.map (fun r => ⟨r.State, 0, r.Next, 0⟩), (newCo c now).Points, (newCo c now).Xs, ⟨0, 0, 0, 0, 0, 0, 0, 0⟩ :: ((k.Lines.drop 1).take 3).map (fun x => ln3 x.Ask x.Done x.Grant), (newCo c now).Resets, true⟩, ⟨0, []⟩) := by
   unfold Cf.loadQ Co.saveB
   rw [List.append_assoc, b1]
   simp only
   rw [b2]
   simp only
   rw [b3]
 have hf : Co.fits c ⟨k.Own, k.Routes.map (fun r => ⟨r.State, 0, r.Next, 0⟩), (newCo c now).Points, (newCo c now).Xs, ⟨0, 0, 0, 0, 0, 0, 0, 0⟩ :: ((k.Lines.drop 1).take 3).map (fun x => ln3 x.Ask x.Done x.Grant), (newCo c now).Resets, true⟩ = true := by
   have hnew := fits_iff.1 (new_fits h.chk hn)
   refine fits_iff.2 ⟨h.chk, h.lOwn, hnew.lPts, hnew.lRes, by rw [List.length_map]; exact h.lRts, hnew.lXs, by rw [List.length_cons, List.length_map, l3], h.own, fun i x r hi hr => ?_, hnew.pts, hnew.xs, fun l hl => ?_, hnew.res⟩
   · simp only [List.getElem?_map, Option.map_eq_some_iff] at hi
     obtain ⟨y, hy, rfl⟩ := hi
     have := h.rts i y r hy hr
     simp only [Rs.fits, Bool.and_eq_true, decide_eq_true_eq] at this ⊢
     exact ⟨this.1, by decide⟩
   · simp only [List.mem_cons, List.mem_map] at hl
     rcases hl with rfl | ⟨x, hx, rfl⟩
     · decide
     · have := h.lns x (List.mem_of_mem_drop (List.mem_of_mem_take hx))
       simp only [Ls.fits, Bool.and_eq_true, ln3] at this ⊢
       exact ⟨⟨this.1.1, this.1.2.1, this.1.2.2.1, this.1.2.2.1, by decide, by decide, by decide⟩, by decide⟩
 unfold Cf.loadC
 rw [hq, if_pos ⟨rfl, rfl, hf, hn⟩]
 simp only [Prod.mk.injEq, and_true, Co.backK, List.map_map]
 rfl
end
end Go.Fw
namespace Go.Proofs.YtdlnbehcnfjneaaGreat
open Go.Fw Go.Proofs Go.RowKit
section
variable {σ σ0 : Store}
theorem fold_take {α β : Type} (f : β → α → β) (l : List α) (b : β) (j : Nat) (x : α) (hx : l[j]? = some x) : (l.take (j + 1)).foldl f b = f ((l.take j).foldl f b) x := by
 rw [List.take_add_one, hx, Option.toList_some, List.foldl_append]; rfl
theorem fold_out {α : Type} {f : Wr → α → Wr} {m : Nat} (hf : ∀ w x, (f w x).out.length ≤ w.out.length + m ∧ (f w x).lim = w.lim) : ∀ (l : List α) (w : Wr), (l.foldl f w).out.length ≤ w.out.length + m * l.length ∧ (l.foldl f w).lim = w.lim := by
 intro l
 induction l with
 | nil => intro w; simp
 | cons x l ih =>
   intro w
   have h1 := ih (f w x)
   have h2 := hf w x
   rw [List.foldl_cons]
   refine ⟨Nat.le_trans h1.1 ?_, h1.2.trans h2.2⟩
   rw [List.length_cons, Nat.mul_add]; omega
theorem ownW_out (w : Wr) (o : Int) : (ownW w o).out.length ≤ w.out.length + 2 ∧ (ownW w o).lim = w.lim := w.num_out 2 _
theorem rtW_out (w : Wr) (r : Rs) : (rtW w r).out.length ≤ w.out.length + 2 ∧ (rtW w r).lim = w.lim := by
 have h1 := w.num_out 1 r.State
 have h2 := (w.num 1 r.State).num_out 1 r.Next
 unfold rtW
 exact ⟨by omega, h2.2.trans h1.2⟩
theorem lnW_out (w : Wr) (l : Ls) : (lnW w l).out.length ≤ w.out.length + 12 ∧ (lnW w l).lim = w.lim := by
 have h1 := w.num_out 4 l.Ask
 have h2 := (w.num 4 l.Ask).num_out 4 l.Done
 have h3 := ((w.num 4 l.Ask).num 4 l.Done).num_out 4 l.Grant
 unfold lnW
 exact ⟨by omega, h3.2.trans (h2.2.trans h1.2)⟩
theorem word_new {f : FuncId} {m : Nat} {s : Store} {id : Nat} {w : Wr} (h : WrIn σ0 s id w) {ns : List Int} {n : Nat} (hn : n = ns.length)
   (hf : ∀ {τ s : Store} {w : Wr} {d : D} {ns : List Int}, WrIn τ s id w → At Tryz.prog τ t_int d (ns.map Go.Fw.encI) → w.out.length + 4 * ns.length ≤ 2 ^ 40 → 0 ≤ w.lim ∧ w.lim ≤ 2 ^ 60 → DCalls Tryz.prog f [.one (pO id), .one d] s fun r s' => r = .tup [] ∧ WrIn τ s' id (ns.foldl (fun w n => w.num m n) w))
   (hs : w.out.length + 4 * ns.length ≤ 2 ^ 40) (hlim : 0 ≤ w.lim ∧ w.lim ≤ 2 ^ 60) {K : Store → Prop} (hK : ∀ s', WrIn σ0 s' id (ns.foldl (fun w n => w.num m n) w) → K s') :
   Fw.newObj s (.live t_int (ns.map Go.Fw.encI)) fun i s1 => DCalls Tryz.prog f [.one (pO id), .one (.osl i 0 n)] s1 fun r s2 => (r = .tup []) ∧ K s2 := by
 refine newObj_intro fun i s1 hi hset he hs1 => ?_
 obtain ⟨τ, h1, h2, h3⟩ := h.newList (so := .live t_int (ns.map Go.Fw.encI)) hi (by intro e; cases e)
 rw [← hset] at h1
 refine (hf h1 (At.fresh h3 (by rw [List.length_map]; omega) (by rw [List.length_map]; exact hn)) hs hlim).mono ?_
 rintro r s2 ⟨rfl, h4⟩
 refine ⟨rfl, hK s2 ?_⟩
 obtain ⟨q1, d, q2, q3, q4⟩ := h4
 refine ⟨?_, d, q2, Own.from h2 q3, q4⟩
 by_cases hf : σ0 id = .free
 · exact hf
 · have := h2 id hf; rw [q1] at this; exact this.symm
theorem locks_Save_ok {k0 k1 k2 k3 k4 k5 : D} {k : Co} (hk : CoAt σ k0 k1 k2 k3 k4 k5 k) (h1 : k.Own.length ≤ 2 ^ 30) (h2 : k.Routes.length ≤ 2 ^ 30) (hI : ∀ o ∈ k.Own, -2 ^ 63 ≤ o) :
   Pure Tryz.prog n_locks_Save [coA k0 k1 k2 k3 k4 k5 k.Dirty] σ (.tup [.one (.str (ofL k.saveC.1)), iA k.saveC.2]) := by
 refine .of ?_ (.tup [.str (ofL k.saveC.1), iD k.saveC.2] (by simp only [List.mem_cons, List.not_mem_nil, or_false]; rintro d (rfl | rfl) <;> constructor))
 have hl4 := hk.lines.size
 rw [List.length_map] at hl4
 refine W_locks_Save k0 k1 k2 k3 k4 k5 k.Dirty σ _ (hk.lines.lenK ?_)
 rw [List.length_map]
 refine bcd (fun hlt => ?_) (fun hge => ?_)
 · rw [Co.saveC, if_pos (by omega)]
   exact ⟨rfl, .refl _⟩
 have hge : ¬ k.Lines.length < 4 := by omega
 refine hk.own.lenK (hk.routes.lenK ?_)
 rw [List.length_map, List.length_map]
 have hlim : w64 (w64 (w64 (2 * (k.Own.length : Int)) + w64 (2 * (k.Routes.length : Int))) + 36) = 2 * (k.Own.length : Int) + 2 * k.Routes.length + 36 := by
   rw [w64_id (n := 2 * (k.Own.length : Int)) (by omega) (by omega), w64_id (n := 2 * (k.Routes.length : Int)) (by omega) (by omega), w64_id (n := 2 * (k.Own.length : Int) + 2 * (k.Routes.length : Int)) (by omega) (by omega), w64_id (by omega) (by omega)]
 rw [hlim]
 refine (pack_New_ok _ (by omega)).mono ?_
 rintro r s ⟨id, rfl, hw⟩
 refine ⟨_, rfl, (hk.own.ext hw.ext).lenK ?_⟩
 rw [List.length_map]
 generalize hw0 : (⟨0, [], 2 * (k.Own.length : Int) + 2 * k.Routes.length + 36⟩ : Wr) = w0 at hw
 have l0 : w0.out.length = 0 ∧ w0.lim = 2 * (k.Own.length : Int) + 2 * k.Routes.length + 36 := by rw [← hw0]; exact ⟨rfl, rfl⟩
 refine ⟨fun n s => ∃ j : Nat, n = j ∧ j ≤ k.Own.length ∧ WrIn σ s id ((k.Own.take j).foldl ownW w0), fun n _ => k.Own.length - n.toNat, ⟨0, rfl, by omega, hw⟩, ?_⟩
 rintro _ s1 ⟨j, rfl, hj, hw1⟩
 refine bcd (fun hlt => ?_) (fun hge1 => ?_)
 · have hlt : j < k.Own.length := by omega
   obtain ⟨o, ho⟩ := get_of_lt (l := k.Own) (j := j) hlt
   have hof := fold_out ownW_out (k.Own.take j) w0
   rw [List.length_take, Nat.min_eq_left hj] at hof
   refine (hk.own.ext hw1.ext).load (map_get ho) c_int rfl ⟨o, rfl, ?_⟩
   have hoI := hI o (List.mem_of_getElem? ho)
   have hwo : w64 ((if (1048576 : Int) < o then 1048576 else o) + 2) = (if 1048576 < o then 1048576 else o) + 2 := by
     rw [w64_id] <;> split <;> omega
   rw [hwo]
   refine word_new (m := 2) (ns := [(if 1048576 < o then 1048576 else o) + 2]) hw1 rfl (fun h hd hs hl => Writer_Word_ok h hd hs hl) (by simp; omega) (by rw [hof.2]; omega) fun s2 hw2 => ?_
   rw [w64_succ (by omega)]
   exact ⟨⟨j + 1, rfl, hlt, by rw [fold_take _ _ _ _ _ ho]; exact hw2⟩, dec_lt hlt⟩
 have e : j = k.Own.length := by omega
 subst e
 rw [List.take_length] at hw1
 have hof := fold_out ownW_out k.Own w0
 generalize hw1e : k.Own.foldl ownW w0 = w1 at hw1 hof
 refine (hk.routes.ext hw1.ext).lenK ⟨fun n s => ∃ j : Nat, n = j ∧ j ≤ k.Routes.length ∧ WrIn σ s id ((k.Routes.take j).foldl rtW w1), fun n _ => k.Routes.length - n.toNat, ⟨0, rfl, by omega, hw1⟩, ?_⟩
 rintro _ s2 ⟨j, rfl, hj, hw2⟩
 rw [List.length_map]
 refine bcd (fun hlt => ?_) (fun hge2 => ?_)
 · have hlt : j < k.Routes.length := by omega
   obtain ⟨o, ho⟩ := get_of_lt (l := k.Routes) (j := j) hlt
   have hrf := fold_out rtW_out (k.Routes.take j) w1
   rw [List.length_take, Nat.min_eq_left hj] at hrf
   refine (hk.routes.ext hw2.ext).load (map_get ho) c_RouteState rfl ⟨o.State, o.Since, o.Next, o.Mark, rfl, ?_⟩
   refine word_new (m := 1) (ns := [o.State, o.Next]) hw2 rfl (fun h hd hs hl => Writer_Byte_ok h hd hs hl) (by simp; omega) (by rw [hrf.2, hof.2]; omega) fun s3 hw3 => ?_
   rw [w64_succ (by omega)]
   exact ⟨⟨j + 1, rfl, hlt, by rw [fold_take _ _ _ _ _ ho]; exact hw3⟩, dec_lt hlt⟩
 have e : j = k.Routes.length := by omega
 subst e
 rw [List.take_length] at hw2
 have hrf := fold_out rtW_out k.Routes w1
 generalize hw2e : k.Routes.foldl rtW w1 = w2 at hw2 hrf
 have hk4 := hk.lines.ext hw2.ext
 have hsub := hk4.sub (lo := 1) (hi := 4) (by omega) (by rw [List.length_map]; omega)
 rw [← List.map_drop, ← List.map_take] at hsub
 have hsl : ((k.Lines.drop 1).take (4 - 1)).length = 3 := by rw [List.length_take, List.length_drop]; omega
 refine hk4.sliceK (lo := 1) (hi := 4) c_LineState rfl rfl (by omega) (by rw [List.length_map]; omega) (hsub.lenK ⟨fun n s => ∃ j : Nat, n = j ∧ j ≤ 3 ∧ WrIn σ s id ((((k.Lines.drop 1).take 3).take j).foldl lnW w2), fun n _ => 3 - n.toNat, ⟨0, rfl, by omega, hw2⟩, ?_⟩)
 rintro _ s3 ⟨j, rfl, hj, hw3⟩
 rw [List.length_map, hsl]
 have hsub3 : At Tryz.prog s3 t_LineState (dsub k4 1 4) (((k.Lines.drop 1).take 3).map Ls.enc) := by
   have := (hk.lines.ext hw3.ext).sub (lo := 1) (hi := 4) (by omega) (by rw [List.length_map]; omega)
   rw [← List.map_drop, ← List.map_take] at this; exact this
 refine bcd (fun hlt => ?_) (fun hge3 => ?_)
 · have hlt : j < 3 := by omega
   obtain ⟨o, ho⟩ := get_of_lt (l := (k.Lines.drop 1).take 3) (j := j) (by rw [hsl]; exact hlt)
   have hlf := fold_out lnW_out (((k.Lines.drop 1).take 3).take j) w2
   rw [List.length_take, hsl, Nat.min_eq_left hj] at hlf
   refine hsub3.load (map_get ho) c_LineState rfl ⟨o.Ask, o.Done, o.Grant, o.Told, o.PAsk, o.PDone, o.PGrant, o.Since, rfl, ?_⟩
   refine word_new (m := 4) (ns := [o.Ask, o.Done, o.Grant]) hw3 rfl (fun h hd hs hl => Writer_Long_ok h hd hs hl) (by simp only [List.length_cons, List.length_nil]; omega) (by rw [hlf.2, hrf.2, hof.2]; omega) fun s4 hw4 => ?_
   rw [w64_succ (by omega)]
   exact ⟨⟨j + 1, rfl, hlt, by rw [fold_take _ _ _ _ _ ho]; exact hw4⟩, dec_lt hlt⟩
 have e : j = 3 := by omega
 subst e
 rw [List.take_take, Nat.min_self] at hw3
 have hsave : ((k.Lines.drop 1).take 3).foldl lnW w2 = k.saveW := by rw [Co.saveW, ← hw2e, ← hw1e, ← hw0]
 rw [hsave] at hw3
 refine (Writer_Done_ok hw3).use ⟨_, _, rfl, ?_⟩
 rw [Co.saveC, if_neg hge]
 exact ⟨rfl, hw3.ext⟩
/-! ### Load -/
theorem CoOwn.other {s s' : Store} {d0 d1 d2 d3 d4 d5 : D} {k : Co} {id : Nat} (h : CoOwn σ0 s d0 d1 d2 d3 d4 d5 k) (hn : σ0 id = .free) (hi : ∀ d ∈ [d0, d1, d2, d3, d4, d5], idOf d ≠ some id) (hs : ∀ i, i ≠ id → s' i = s i) : CoOwn σ0 s' d0 d1 d2 d3 d4 d5 k :=
 ⟨own_other h.own hn (hi _ (by simp)) hs, own_other h.routes hn (hi _ (by simp)) hs, own_other h.points hn (hi _ (by simp)) hs, own_other h.xs hn (hi _ (by simp)) hs, own_other h.lines hn (hi _ (by simp)) hs, own_other h.resets hn (hi _ (by simp)) hs, h.apart⟩
theorem set_mid {α : Type} (a b : List α) (x y : α) : (a ++ x :: b).set a.length y = a ++ y :: b := by
 rw [List.set_append_right _ _ (Nat.le_refl _), Nat.sub_self]; rfl
theorem locks_Load_ok {c0 c1 c2 c3 c4 : D} {c : Cf} (h : ∀ s, CfAt s c0 c1 c2 c3 c4 c) (now : Int) (h1 : c.Secs.length ≤ 2 ^ 20) (h2 : c.Xs.length ≤ 2 ^ 20) (h3 : c.Rts.length ≤ 2 ^ 20) {l : List UInt8} (hl : l.length ≤ 2 ^ 60) :
   DCalls Tryz.prog n_locks_Load [cfA c0 c1 c2 c3 c4 c, iA now, .one (.str (ofL l))] σ (CoPost σ (c.loadC now l)) := by
 refine W_locks_Load _ _ _ _ _ _ _ _ _ now (ofL l) σ _ ((locks_New_ok h now h1 h2 h3).mono ?_)
 rintro r s0 ⟨k0, k1, k2, k3, k4, k5, rfl, hk0⟩
 refine ⟨_, _, _, _, _, _, _, rfl, (pack_Read_ok l).mono ?_⟩
 rintro r s1 ⟨id, rfl, hid0, hr1, he1, ho1⟩
 have hid : σ id = .free := by
   by_cases hf : σ id = .free
   · exact hf
   · have := hk0.own.ext id hf; rw [hid0] at this; exact this.symm
 have hne : ∀ d ∈ [k0, k1, k2, k3, k4, k5], idOf d ≠ some id := by
   intro d hd hi
   simp only [List.mem_cons, List.not_mem_nil, or_false] at hd
   rcases hd with rfl | rfl | rfl | rfl | rfl | rfl
   · exact live_idOf'' hk0.own.at_ hi hid0
   · exact live_idOf'' hk0.routes.at_ hi hid0
   · exact live_idOf'' hk0.points.at_ hi hid0
   · exact live_idOf'' hk0.xs.at_ hi hid0
   · exact live_idOf'' hk0.lines.at_ hi hid0
   · exact live_idOf'' hk0.resets.at_ hi hid0
 have hk1 := hk0.other hid hne ho1
 have eO : (newCo c now).Own = List.replicate c.Secs.length (-1) := rfl
 have eR : (newCo c now).Routes = List.replicate c.Rts.length ⟨0, 0, 0, 0⟩ := rfl
 have eL : (newCo c now).Lines = List.replicate 4 ⟨0, 0, 0, 0, 0, 0, 0, 0⟩ := rfl
 have eD : (newCo c now).Dirty = true := rfl
 have nO : (newCo c now).Own.length = c.Secs.length := by simp [newCo]
 have nR : (newCo c now).Routes.length = c.Rts.length := by simp [newCo]
 generalize hkk : newCo c now = k at *
 refine ⟨_, rfl, hk1.own.at_.lenK ?_⟩
 rw [List.length_map, nO]
 refine ⟨fun n s => ∃ (j : Nat) (a : List Int) (q : Rd), n = j ∧ j ≤ c.Secs.length ∧ a.length = j ∧ CoOwn σ s k0 k1 k2 k3 k4 k5 { k with Own := a ++ List.replicate (c.Secs.length - j) (-1) } ∧ RdIn s id q ∧ q.l.length ≤ l.length ∧
     rdOwn c.Secs.length ⟨0, l⟩ = (a ++ (rdOwn (c.Secs.length - j) q).1, (rdOwn (c.Secs.length - j) q).2), fun n _ => c.Secs.length - n.toNat, ⟨0, [], ⟨0, l⟩, rfl, by omega, rfl, by rw [List.nil_append, Nat.sub_zero, ← eO]; exact hk1, hr1, Nat.le_refl _, rfl⟩, ?_⟩
 rintro _ s2 ⟨j, a, q, rfl, hj, ha, hk2, hr2, hq, hrd⟩
 refine bcd (fun hlt => ?_) (fun hge => ?_)
 · have hlt : j < c.Secs.length := by omega
   obtain ⟨m, hm⟩ : ∃ m, c.Secs.length - j = m + 1 := ⟨c.Secs.length - j - 1, by omega⟩
   have hm' : c.Secs.length - (j + 1) = m := by omega
   rw [hm] at hk2 hrd
   rw [List.replicate_succ] at hk2
   refine (Reader_Word_ok hr2 (by omega)).mono ?_
   rintro r s3 ⟨rfl, hr3, ho3⟩
   have hk3 := hk2.other hid hne ho3
   have hb := rdL_lt
   have hn2 : 0 ≤ (q.num 2).1 ∧ (q.num 2).1 < 2 ^ 60 := by
     unfold Rd.num
     split
     · have := rdL_lt ((q.short 2).l.take 2) 0 (by omega)
       refine ⟨this.1, Int.lt_of_lt_of_le this.2 ?_⟩
       have e : ∀ m : Nat, (0 + 1 : Int) * (256 : Int) ^ m = ((256 ^ m : Nat) : Int) := fun m => by simp
       rw [e]
       have : 256 ^ ((q.short 2).l.take 2).length ≤ 256 ^ 2 := Nat.pow_le_pow_right (by omega) (by rw [List.length_take]; omega)
       omega
     · exact ⟨Int.le_refl 0, by show (0 : Int) < 2 ^ 60; decide⟩
   refine ⟨_, rfl, ?_⟩
   rw [w64_id (n := (q.num 2).1 - 2) (by omega) (by omega)]
   refine hk3.own.at_.idxK (j := j) c_int rfl (by simp; omega) (hk3.putO (k := { k with Own := a ++ -1 :: List.replicate m (-1) }) (j := j) (x := -1) (y := (q.num 2).1 - 2) (by show (a ++ -1 :: List.replicate m (-1))[j]? = _; rw [← ha, List.getElem?_append_right (Nat.le_refl _), Nat.sub_self]; rfl) (by omega) (by simp) rfl fun s4 hk4 ho4 => ⟨by trivial, ?_⟩)
   rw [w64_succ (by omega)]
   refine ⟨⟨j + 1, a ++ [(q.num 2).1 - 2], (q.num 2).2, rfl, hlt, by simp [ha], ?_, (ho4 id (hne _ (by simp))).trans hr3, Nat.le_trans (q.num_len 2) hq, ?_⟩, dec_lt hlt⟩
   · rw [hm']
     have e : (a ++ -1 :: List.replicate m (-1)).set j ((q.num 2).1 - 2) = a ++ [(q.num 2).1 - 2] ++ List.replicate m (-1) := by rw [← ha, set_mid]; simp
     rw [← e]; exact hk4
   · rw [hm', hrd, rdOwn, List.append_assoc]; rfl
 have e : j = c.Secs.length := by omega
 subst e
 rw [Nat.sub_self, List.replicate_zero, List.append_nil] at hk2
 rw [Nat.sub_self, rdOwn, List.append_nil] at hrd
 refine hk2.routes.at_.lenK ?_
 rw [List.length_map, nR]
 refine ⟨fun n s => ∃ (j : Nat) (b : List Rs) (p : Rd), n = j ∧ j ≤ c.Rts.length ∧ b.length = j ∧ CoOwn σ s k0 k1 k2 k3 k4 k5 { k with Own := a, Routes := b ++ List.replicate (c.Rts.length - j) ⟨0, 0, 0, 0⟩ } ∧ RdIn s id p ∧ p.l.length ≤ l.length ∧
     rdRts c.Rts.length q = (b ++ (rdRts (c.Rts.length - j) p).1, (rdRts (c.Rts.length - j) p).2), fun n _ => c.Rts.length - n.toNat, ⟨0, [], q, rfl, by omega, rfl, by rw [List.nil_append, Nat.sub_zero, ← eR]; exact hk2, hr2, hq, rfl⟩, ?_⟩
 rintro _ s3 ⟨j, b, p, rfl, hj, hb, hk3, hr3, hp, hrt⟩
 refine bcd (fun hlt => ?_) (fun hge => ?_)
 · have hlt : j < c.Rts.length := by omega
   obtain ⟨m, hm⟩ : ∃ m, c.Rts.length - j = m + 1 := ⟨c.Rts.length - j - 1, by omega⟩
   have hm' : c.Rts.length - (j + 1) = m := by omega
   rw [hm] at hk3 hrt
   rw [List.replicate_succ] at hk3
   refine (Reader_Byte_ok hr3 (by omega)).mono ?_
   rintro r s4 ⟨rfl, hr4, ho4⟩
   refine ⟨_, rfl, (Reader_Byte_ok hr4 (by have := p.num_len 1; omega)).mono ?_⟩
   rintro r s5 ⟨rfl, hr5, ho5⟩
   have hk5 := (hk3.other hid hne ho4).other hid hne ho5
   refine ⟨_, rfl, hk5.routes.at_.idxK (j := j) c_RouteState rfl (by simp; omega) (hk5.putR (k := { k with Own := a, Routes := b ++ ⟨0, 0, 0, 0⟩ :: List.replicate m ⟨0, 0, 0, 0⟩ }) (j := j) (x := ⟨0, 0, 0, 0⟩) (y := ⟨(p.num 1).1, 0, ((p.num 1).2.num 1).1, 0⟩) (by show (b ++ (⟨0, 0, 0, 0⟩ : Rs) :: List.replicate m ⟨0, 0, 0, 0⟩)[j]? = _; rw [← hb, List.getElem?_append_right (Nat.le_refl _), Nat.sub_self]; rfl) (by omega) (by simp) rfl fun s6 hk6 ho6 => ⟨by trivial, ?_⟩)⟩
   rw [w64_succ (by omega)]
   refine ⟨⟨j + 1, b ++ [⟨(p.num 1).1, 0, ((p.num 1).2.num 1).1, 0⟩], ((p.num 1).2.num 1).2, rfl, hlt, by simp [hb], ?_, (ho6 id (hne _ (by simp))).trans hr5, Nat.le_trans ((p.num 1).2.num_len 1) (Nat.le_trans (p.num_len 1) hp), ?_⟩, dec_lt hlt⟩
   · rw [hm']
     have e : (b ++ (⟨0, 0, 0, 0⟩ : Rs) :: List.replicate m ⟨0, 0, 0, 0⟩).set j ⟨(p.num 1).1, 0, ((p.num 1).2.num 1).1, 0⟩ = b ++ [⟨(p.num 1).1, 0, ((p.num 1).2.num 1).1, 0⟩] ++ List.replicate m ⟨0, 0, 0, 0⟩ := by rw [← hb, set_mid]; simp
     rw [← e]; exact hk6
   · rw [hm', hrt, rdRts, List.append_assoc]; rfl
 have e : j = c.Rts.length := by omega
 subst e
 rw [Nat.sub_self, List.replicate_zero, List.append_nil] at hk3
 rw [Nat.sub_self, rdRts, List.append_nil] at hrt
 have hL4 : (k.Lines.map Ls.enc).length = 4 := by rw [eL]; rfl
 refine hk3.lines.at_.sliceFromK (lo := 1) c_LineState rfl (by rw [hL4]; omega) ?_
 rw [hL4]
 have hsub := hk3.lines.at_.sub (lo := 1) (hi := 4) (by omega) (by rw [hL4]; omega)
 refine hsub.lenK ?_
 have hsl : (((k.Lines.map Ls.enc).drop 1).take (4 - 1)).length = 3 := by rw [List.length_take, List.length_drop, hL4]; rfl
 rw [hsl]
 obtain ⟨N, hN⟩ : ∃ N : Nat, N = 3 := ⟨3, rfl⟩
 refine ⟨fun n s => ∃ (j : Nat) (d : List Ls) (p' : Rd), n = j ∧ j ≤ N ∧ d.length = j ∧ CoOwn σ s k0 k1 k2 k3 k4 k5 { k with Own := a, Routes := b, Lines := ⟨0, 0, 0, 0, 0, 0, 0, 0⟩ :: (d ++ List.replicate (N - j) ⟨0, 0, 0, 0, 0, 0, 0, 0⟩) } ∧ RdIn s id p' ∧ p'.l.length ≤ l.length ∧
     rdLns N p = (d ++ (rdLns (N - j) p').1, (rdLns (N - j) p').2), fun n _ => 3 - n.toNat, ⟨0, [], p, rfl, by omega, rfl, by rw [List.nil_append, Nat.sub_zero, ← List.replicate_succ, hN, ← eL]; exact hk3, hr3, hp, rfl⟩, ?_⟩
 rintro _ s4 ⟨j, d, p', rfl, hj, hd, hk4, hr4, hp', hln⟩
 refine bcd (fun hlt => ?_) (fun hge => ?_)
 · have hlt : j < N := by omega
   obtain ⟨m, hm⟩ : ∃ m, N - j = m + 1 := ⟨N - j - 1, by omega⟩
   have hm' : N - (j + 1) = m := by omega
   rw [hm] at hk4 hln
   rw [List.replicate_succ] at hk4
   refine (Reader_Long_ok hr4 (by omega)).mono ?_
   rintro r s5 ⟨rfl, hr5, ho5⟩
   have n1 := p'.num_len 4
   refine ⟨_, rfl, (Reader_Long_ok hr5 (by omega)).mono ?_⟩
   rintro r s6 ⟨rfl, hr6, ho6⟩
   have n2 := (p'.num 4).2.num_len 4
   refine ⟨_, rfl, (Reader_Long_ok hr6 (by omega)).mono ?_⟩
   rintro r s7 ⟨rfl, hr7, ho7⟩
   have n3 := ((p'.num 4).2.num 4).2.num_len 4
   have hk7 := ((hk4.other hid hne ho5).other hid hne ho6).other hid hne ho7
   refine ⟨_, rfl, ?_⟩
   rw [w64_succ (by omega)]
   refine hk7.lines.at_.idxK (j := j + 1) c_LineState rfl (by simp; omega) (hk7.putL (k := { k with Own := a, Routes := b, Lines := ⟨0, 0, 0, 0, 0, 0, 0, 0⟩ :: (d ++ ⟨0, 0, 0, 0, 0, 0, 0, 0⟩ :: List.replicate m ⟨0, 0, 0, 0, 0, 0, 0, 0⟩) }) (j := j + 1) (x := ⟨0, 0, 0, 0, 0, 0, 0, 0⟩) (y := ln3 (p'.num 4).1 ((p'.num 4).2.num 4).1 (((p'.num 4).2.num 4).2.num 4).1) (by show ((⟨0, 0, 0, 0, 0, 0, 0, 0⟩ : Ls) :: (d ++ ⟨0, 0, 0, 0, 0, 0, 0, 0⟩ :: List.replicate m ⟨0, 0, 0, 0, 0, 0, 0, 0⟩))[j + 1]? = _; rw [List.getElem?_cons_succ, ← hd, List.getElem?_append_right (Nat.le_refl _), Nat.sub_self]; rfl) (by omega) (by simp) rfl fun s8 hk8 ho8 => ⟨by trivial, ?_⟩)
   refine ⟨⟨j + 1, d ++ [ln3 (p'.num 4).1 ((p'.num 4).2.num 4).1 (((p'.num 4).2.num 4).2.num 4).1], (((p'.num 4).2.num 4).2.num 4).2, rfl, hlt, by simp [hd], ?_, (ho8 id (hne _ (by simp))).trans hr7, by omega, ?_⟩, dec_lt (by omega)⟩
   · rw [hm']
     have e : ((⟨0, 0, 0, 0, 0, 0, 0, 0⟩ : Ls) :: (d ++ ⟨0, 0, 0, 0, 0, 0, 0, 0⟩ :: List.replicate m ⟨0, 0, 0, 0, 0, 0, 0, 0⟩)).set (j + 1) (ln3 (p'.num 4).1 ((p'.num 4).2.num 4).1 (((p'.num 4).2.num 4).2.num 4).1) =
         ⟨0, 0, 0, 0, 0, 0, 0, 0⟩ :: (d ++ [ln3 (p'.num 4).1 ((p'.num 4).2.num 4).1 (((p'.num 4).2.num 4).2.num 4).1] ++ List.replicate m ⟨0, 0, 0, 0, 0, 0, 0, 0⟩) := by rw [List.set_cons_succ, ← hd, set_mid]; simp
     rw [← e]; exact hk8
   · rw [hm', hln, rdLns, List.append_assoc]; rfl
 have e : j = N := by omega
 subst e
 rw [Nat.sub_self, List.replicate_zero, List.append_nil] at hk4
 rw [Nat.sub_self, rdLns, List.append_nil] at hln
 subst hN
 have hQ : c.loadQ now l = (⟨a, b, k.Points, k.Xs, ⟨0, 0, 0, 0, 0, 0, 0, 0⟩ :: d, k.Resets, true⟩, p') := by
   simp only [Cf.loadQ, hkk, hrd, hrt, hln]
 have hkq : CoOwn σ s4 k0 k1 k2 k3 k4 k5 ⟨a, b, k.Points, k.Xs, ⟨0, 0, 0, 0, 0, 0, 0, 0⟩ :: d, k.Resets, true⟩ := ⟨hk4.own, hk4.routes, hk4.points, hk4.xs, hk4.lines, hk4.resets, hk4.apart⟩
 have bad : ∀ s, Ext σ s → ¬ (p'.e = 0 ∧ p'.l = [] ∧ Co.fits c ⟨a, b, k.Points, k.Xs, ⟨0, 0, 0, 0, 0, 0, 0, 0⟩ :: d, k.Resets, true⟩ = true ∧ tm 0 now = true) →
     CoPost σ (c.loadC now l) (.tup [.agg [.nils, .nils, .nils, .nils, .nils, .nils, .bool false], iA 3]) s := fun s he hn => by
   rw [Cf.loadC, hQ, if_neg hn]
   have ap : ∀ l : List D, (∀ d ∈ l, d = .nils) → l.Pairwise Apart := by
     intro l
     induction l with
     | nil => intro _; exact .nil
     | cons x l ih => intro h; exact .cons (fun y hy id h1 => by rw [h x (by simp)] at h1; cases h1) (ih fun d hd => h d (by simp [hd]))
   exact ⟨.nils, .nils, .nils, .nils, .nils, .nils, rfl, .nil _ he, .nil _ he, .nil _ he, .nil _ he, .nil _ he, .nil _ he, ap _ (by simp)⟩
 intro R hR
 refine (Reader_End_ok hr4).use ⟨_, rfl, bcn (fun e => bad s4 hkq.own.ext fun g => ?_) (fun e => ?_)⟩
 · rw [if_neg (fun g2 => g2.2 g.2.1)] at e; exact e g.1
 have hp0 : p'.e = 0 ∧ p'.l = [] := by
   by_cases h2 : p'.e = 0 ∧ p'.l ≠ []
   · rw [if_pos h2] at e; cases e
   · rw [if_neg h2] at e
     exact ⟨e, Classical.byContradiction fun h3 => h2 ⟨e, h3⟩⟩
 refine (locks_Fits_ok h hkq.at).use ⟨_, rfl, bcnot (fun e => bad s4 hkq.own.ext fun g => by rw [g.2.2.1] at e; cases e) (fun hfit => newObj_intro fun id5 s5 hid5 _ he5 hs5 => ?_)⟩
 have hk5 := hkq.ext' he5
 refine (locks_times_ok (l := [now]) 0 (by omega) (At.fresh (rs := [Go.Fw.encI now]) hs5 (by simp) rfl)).use ⟨_, rfl, ?_⟩
 rw [show ([now].all fun n => decide (0 ≤ n ∧ n ≤ 4294967295 + 0)) = tm 0 now by simp [tm]]
 refine bcnot (fun e => bad s5 hk5.own.ext fun g => by rw [g.2.2.2] at e; cases e) (fun htm => ⟨by trivial, hR _ _ _ _ _ _ _ s5 ?_⟩)
 refine hk5.routes.at_.lenK ?_
 rw [List.length_map, hb]
 refine ⟨fun n s => ∃ j : Nat, n = j ∧ j ≤ c.Rts.length ∧ CoOwn σ s k0 k1 k2 k3 k4 k5 ⟨a, (b.take j).map heldR ++ b.drop j, k.Points, k.Xs, ⟨0, 0, 0, 0, 0, 0, 0, 0⟩ :: d, k.Resets, true⟩, fun n _ => c.Rts.length - n.toNat, ⟨0, rfl, by omega, by simpa using hk5⟩, ?_⟩
 rintro _ s6 ⟨j, rfl, hj, hk6⟩
 refine bcd (fun hlt => ?_) (fun hge => ?_)
 · have hlt : j < c.Rts.length := by omega
   obtain ⟨x, hx⟩ := get_of_lt (l := b) (j := j) (by omega)
   have hln1 : ((b.take j).map heldR).length = j := by rw [List.length_map, List.length_take]; omega
   have hdx : b.drop j = x :: b.drop (j + 1) := by
     have hlt' := (List.getElem?_eq_some_iff.1 hx)
     rw [List.drop_eq_getElem_cons hlt'.1, hlt'.2]
   have hxj : ((b.take j).map heldR ++ b.drop j)[j]? = some x := by
     rw [List.getElem?_append_right (by omega), hln1, Nat.sub_self, hdx]; rfl
   have next : ∀ y : Rs, y = heldR x → ∀ s7, CoOwn σ s7 k0 k1 k2 k3 k4 k5 ⟨a, ((b.take j).map heldR ++ b.drop j).set j y, k.Points, k.Xs, ⟨0, 0, 0, 0, 0, 0, 0, 0⟩ :: d, k.Resets, true⟩ →
       (∃ j' : Nat, w64 ((j : Int) + 1) = j' ∧ j' ≤ c.Rts.length ∧ CoOwn σ s7 k0 k1 k2 k3 k4 k5 ⟨a, (b.take j').map heldR ++ b.drop j', k.Points, k.Xs, ⟨0, 0, 0, 0, 0, 0, 0, 0⟩ :: d, k.Resets, true⟩) ∧ c.Rts.length - (w64 ((j : Int) + 1)).toNat < c.Rts.length - (j : Int).toNat := fun y hy s7 h7 => by
     rw [w64_succ (by omega)]
     refine ⟨⟨j + 1, rfl, hlt, ?_⟩, dec_lt hlt⟩
     have e : ((b.take j).map heldR ++ b.drop j).set j y = (b.take (j + 1)).map heldR ++ b.drop (j + 1) := by
       rw [hdx, hy]
       have := set_mid ((b.take j).map heldR) (b.drop (j + 1)) x (heldR x)
       rw [hln1] at this
       rw [this, List.take_add_one, hx]; simp
     rw [← e]; exact h7
   refine hk6.routes.at_.load (map_get hxj) c_RouteState rfl ⟨x.State, x.Since, x.Next, x.Mark, rfl, bce (fun h0 => ?_) (fun h0 => ?_)⟩
   · exact hk6.routes.at_.idxK (j := j) c_RouteState rfl (by simp; omega) (hk6.putR (k := ⟨a, (b.take j).map heldR ++ b.drop j, k.Points, k.Xs, ⟨0, 0, 0, 0, 0, 0, 0, 0⟩ :: d, k.Resets, true⟩) (j := j) (x := x) (y := ⟨0, 0, 0, 0⟩) hxj (by omega) (by simp) rfl fun s7 h7 _ => ⟨by trivial, next _ (by rw [heldR, if_pos h0]) s7 h7⟩)
   · exact hk6.routes.at_.idxK (j := j) c_RouteState rfl (by simp; omega) (hk6.putR (k := ⟨a, (b.take j).map heldR ++ b.drop j, k.Points, k.Xs, ⟨0, 0, 0, 0, 0, 0, 0, 0⟩ :: d, k.Resets, true⟩) (j := j) (x := x) (y := ⟨5, 0, x.Next, 0⟩) hxj (by omega) (by simp) rfl fun s7 h7 _ => ⟨by trivial, next _ (by rw [heldR, if_neg h0]) s7 h7⟩)
 have e : j = c.Rts.length := by omega
 subst e
 rw [← hb, List.take_length, List.drop_length, List.append_nil] at hk6
 rw [Cf.loadC, hQ, if_pos ⟨hp0.1, hp0.2, hfit, htm⟩]
 exact ⟨_, _, _, _, _, _, rfl, hk6.own, hk6.routes, hk6.points, hk6.xs, hk6.lines, hk6.resets, hk6.apart⟩
end
end Go.Proofs.YtdlnbehcnfjneaaGreat
namespace Go.Fw
section
theorem heldR_fits {x : Rs} {r : Rt} (h : Rs.fits (x, r) = true) : Rs.fits (heldR ⟨x.State, 0, x.Next, 0⟩, r) = true := by
 simp only [Rs.fits, Bool.and_eq_true, decide_eq_true_eq] at h ⊢
 unfold heldR
 simp only
 split
 · exact ⟨⟨by decide, by simp⟩, by decide⟩
 · exact ⟨⟨by show (0 : Int) ≤ 5 ∧ (5 : Int) ≤ 5; decide, h.1.2⟩, by show tm 0 0 = true ∧ tm 0 0 = true; decide⟩
theorem back_fits {c : Cf} {k : Co} (h : FitIs c k) {now : Int} (hn : tm 0 now = true) : (k.backK c now).fits c = true := by
 have hnew := fits_iff.1 (new_fits h.chk hn)
 have l3 : ((k.Lines.drop 1).take 3).length = 3 := by rw [List.length_take, List.length_drop, h.lLn]; rfl
 refine fits_iff.2 ⟨h.chk, h.lOwn, hnew.lPts, hnew.lRes, by show (k.Routes.map _).length = _; rw [List.length_map]; exact h.lRts, hnew.lXs, by show (_ :: ((k.Lines.drop 1).take 3).map _ : List Ls).length = 4; rw [List.length_cons, List.length_map, l3], h.own, fun i x r hi hr => ?_, hnew.pts, hnew.xs, fun l hl => ?_, hnew.res⟩
 · have hi : (k.Routes.map (fun r => heldR ⟨r.State, 0, r.Next, 0⟩))[i]? = some x := hi
   rw [List.getElem?_map, Option.map_eq_some_iff] at hi
   obtain ⟨y, hy, rfl⟩ := hi
   exact heldR_fits (h.rts i y r hy hr)
 · have hl : l ∈ (⟨0, 0, 0, 0, 0, 0, 0, 0⟩ : Ls) :: ((k.Lines.drop 1).take 3).map (fun x => ln3 x.Ask x.Done x.Grant) := hl
   simp only [List.mem_cons, List.mem_map] at hl
   rcases hl with rfl | ⟨x, hx, rfl⟩
   · decide
   · have := h.lns x (List.mem_of_mem_drop (List.mem_of_mem_take hx))
     simp only [Ls.fits, Bool.and_eq_true, ln3] at this ⊢
     exact ⟨⟨this.1.1, this.1.2.1, this.1.2.2.1, this.1.2.2.1, by decide, by decide, by decide⟩, by decide⟩
theorem cancel_twice {c : Cf} {k : Co} {now a : Int} {x : Rs} (hf : k.fits c = true) (hn : tm 0 now = true) (hx : geti k.Routes a = some x) (hs : x.State = 1) :
   k.cancelC c now a = (k.leadY a 4 now, 0) ∧ (k.leadY a 4 now).fits c = true ∧ (k.leadY a 4 now).cancelC c now a = (k.leadY a 4 now, 28) ∧ geti (k.leadY a 4 now).Routes a = some ⟨4, now, x.Next, 0⟩ ∧ (k.leadY a 4 now).Own = k.Own ∧ (k.leadY a 4 now).Dirty = true := by
 have he : k.leadE a [1, 2, 3] = 0 := by unfold Co.leadE; rw [hx]; simp only [hs]; decide
 have hfit := lead_fits hf hn (to := 4) (by omega) he
 have hy : k.leadY a 4 now = { k with Routes := k.Routes.set a.toNat { x with State := 4, Since := now, Mark := 0 }, Dirty := true } := by
   unfold Co.leadY
   rw [hx, if_pos rfl]; rfl
 have hg := geti_some hx
 have hl := (List.getElem?_eq_some_iff.1 hg.2.2).1
 have hr : geti (k.leadY a 4 now).Routes a = some ⟨4, now, x.Next, 0⟩ := by
   rw [hy]
   unfold geti
   rw [if_neg (by omega)]
   show (k.Routes.set a.toNat _)[a.toNat]? = _
   rw [List.getElem?_set, if_pos rfl, if_pos hl]
 have gate : ∀ {q : Co} {e : Int}, q.fits c = true → q.gate c now e = e := fun hq => by
   unfold Co.gate
   rw [if_neg (by rw [hq]; decide), if_neg (by rw [hn]; decide)]
 have he2 : (k.leadY a 4 now).leadE a [1, 2, 3] = 28 := by unfold Co.leadE; rw [hr]; rfl
 refine ⟨?_, hfit, ?_, hr, by rw [hy], by rw [hy]⟩
 · unfold Co.cancelC Co.leadC Co.done
   rw [gate hf, he]; rfl
 · unfold Co.cancelC Co.leadC Co.done
   rw [gate hfit, he2]; rfl
end
end Go.Fw
namespace Go.Proofs.YtdlnbehcnfjneaaGreat
open Go.Fw Go.Proofs Go.RowKit
section
variable {σ σ0 : Store}
theorem law13_LocksTwice_ok {xs : List A} (h : TyAs Tryz.prog [t_Config, t_int, t_int] xs) : LawTrue n_law13_LocksTwice xs := by
 obtain ⟨a0, xs, rfl, h0, hr0⟩ := tys_cons h
 obtain ⟨a1, xs, rfl, h1, hr1⟩ := tys_cons hr0
 obtain ⟨a2, xs, rfl, h2, hr2⟩ := tys_cons hr1
 obtain rfl := tys_nil hr2
 obtain ⟨cs, _, rfl, p0⟩ := tya_agg h0 (by kernel_rfl)
 obtain ⟨c0, c1, c2, c3, c4, c, rfl, hc, hci, hz⟩ := ty_ConfigZ p0
 obtain ⟨ra, rfl, _⟩ := tya_int h1 (by kernel_rfl) (by kernel_rfl)
 obtain ⟨nw, rfl, _⟩ := tya_int h2 (by kernel_rfl) (by kernel_rfl)
 clear h h0 h1 h2 hr0 hr1 hr2 p0
 refine W_law13_LocksTwice _ _ _ _ _ _ _ _ _ ra nw noS _ (law13_lives_ok.use ⟨true, rfl, bcnot (fun e => by cases e) (fun _ => ?_)⟩)
 intro R hR
 refine (ref06_Check_ok hc).use ⟨_, rfl, bcn (fun _ => rfl) (fun hok => ?_)⟩
 have hsm := check_small hok
 obtain ⟨rows, hat, hlen⟩ := rts_len (hc noS)
 refine hat.lenK (bce (fun _ => rfl) (fun hne => hR noS ?_))
 rw [hlen] at hne
 obtain ⟨w1, a, ha, hal⟩ := place_ok (len := c.Rts.length) ⟨by omega, by omega⟩ ra
 obtain ⟨m, hm, hml⟩ : ∃ m : Nat, w64 (Int.tmod (IntKind.wrap .u64 nw) 1000000) = m ∧ m < 1000000 := by
   have e2 : 0 ≤ IntKind.wrap .u64 nw := by rw [IntKind.wrap_u64]; omega
   refine ⟨(Int.tmod (IntKind.wrap .u64 nw) 1000000).toNat, ?_, ?_⟩ <;> rw [Int.tmod_eq_emod_of_nonneg e2]
   · rw [w64_id (by omega) (by omega)]; omega
   · omega
 rw [hm]
 refine hat.lenK ?_
 rw [hlen, ha]
 refine ⟨w1, (law13_opened_ok hc hok).mono ?_⟩
 obtain ⟨x, hx⟩ := get_of_lt (l := c.Rts) (j := a) hal
 have gx : geti c.Rts (a : Int) = some x := by rw [geti_nat, hx]
 have hof := open_fits hok
 have hoi := fits_iff.1 hof
 have htm : tm 0 (m : Int) = true := by simp only [tm, decide_eq_true_eq]; omega
 have hre := open_req hok gx
 have hq1 : (openK c).requestC c m a = ((openK c).lockC c m a, 0) := by
   have gt : (openK c).gate c m 0 = 0 := by rw [Co.gate, if_neg (by rw [hof]; decide), if_neg (by rw [htm]; decide)]
   rw [Co.requestC, Co.done, hre, gt]; rfl
 have hf1 := lock_fits hof htm hre
 have fitO : ∀ {s0 s : Store} {d0 d1 d2 d3 d4 d5 : D} {k : Co}, k.fits c = true → CoOwn s0 s d0 d1 d2 d3 d4 d5 k → CoFit d0 d1 d2 d3 d4 d5 k := fun hf h => h.fit (by have := fits_small' hf; omega)
 have hstO : geti (openK c).Routes (a : Int) = some ⟨0, 0, 0, 0⟩ := by
   rw [geti_nat]
   show (List.replicate c.Rts.length (⟨0, 0, 0, 0⟩ : Rs))[a]? = _
   rw [List.getElem?_replicate, if_pos hal]
 have hst1 := lock_state (now := m) (c := c) hstO
 obtain ⟨hc1, hf2, hc2, hst2, hown, hdir⟩ := cancel_twice hf1 htm hst1 rfl
 generalize hK1 : (openK c).lockC c m a = K1 at *
 generalize hK2 : K1.leadY a 4 m = K2 at *
 rintro q s1 ⟨k0, k1, k2, k3, k4, k5, rfl, hk⟩
 refine ⟨_, _, _, _, _, _, _, rfl, (locks_Request_ok (k := openK c) hc hk.at (fitO hof hk) hz m a).mono ?_⟩
 rintro q s2 ⟨d0, d1, d2, d3, d4, d5, rfl, hd⟩
 rw [hq1] at hd ⊢
 have hd : CoOwn s1 s2 d0 d1 d2 d3 d4 d5 K1 := hd
 refine ⟨_, _, _, _, _, _, _, _, rfl, (locks_Cancel_ok (k := K1) hc hd.at (fitO hf1 hd) m a).mono ?_⟩
 rintro q s3 ⟨e0, e1, e2, e3, e4, e5, rfl, he⟩
 rw [hc1] at he ⊢
 have he : CoOwn s2 s3 e0 e1 e2 e3 e4 e5 K2 := he
 refine ⟨_, _, _, _, _, _, _, _, rfl, (locks_Cancel_ok (k := K2) hc he.at (fitO hf2 he) m a).mono ?_⟩
 rintro q s4 ⟨f0, f1, f2, f3, f4, f5, rfl, hf⟩
 rw [hc2] at hf ⊢
 have hf : CoOwn s3 s4 f0 f1 f2 f3 f4 f5 K2 := hf
 refine ⟨_, _, _, _, _, _, _, _, rfl, ?_⟩
 have he4 := he.at.ext hf.own.ext
 have hd4 := (hd.at.ext he.own.ext).ext hf.own.ext
 have hst2' := hst2
 rw [geti_nat] at hst2'
 have hfi := fits_iff.1 hf2
 have hsz := fits_small' hf2
 intro R1 hR1
 refine bcn (fun e => absurd rfl e) (fun _ => bcn (fun e => absurd rfl e) (fun _ => bce (fun e => by cases e) (fun _ => ?_)))
 refine he4.routes.load (map_get hst2') c_RouteState rfl ⟨4, rfl, bcn (fun e => absurd rfl e) (fun _ => ?_)⟩
 refine bcnot (fun e => by rw [show K2.Dirty = true from hdir] at e; cases e) (fun _ => (ref13_Same_ok hf.at he4).use ⟨_, rfl, ?_⟩)
 refine bcnot (fun e => by rw [decide_eq_true rfl] at e; cases e) (fun _ => ⟨by trivial, hR1 s4 ?_⟩)
 have hl1 : K1.Own.length ≤ 2 ^ 20 := by rw [← hown]; omega
 refine hd4.own.lenK ⟨fun n s => s = s4 ∧ ∃ j : Nat, n = j ∧ j ≤ K1.Own.length, fun n _ => K1.Own.length - n.toNat, ⟨rfl, 0, rfl, by omega⟩, ?_⟩
 rintro _ s ⟨rfl, j, rfl, hj⟩
 rw [List.length_map]
 refine bcd (fun hlt => ?_) (fun _ => ?_)
 · have hlt : j < K1.Own.length := by omega
   obtain ⟨o, ho⟩ := get_of_lt (l := K1.Own) (j := j) hlt
   have ho2 : K2.Own[j]? = some o := by rw [hown]; exact ho
   refine hd4.own.load (map_get ho) c_int rfl ⟨o, rfl, he4.own.load (map_get ho2) c_int rfl ⟨o, rfl, bcn (fun e => absurd rfl e) (fun _ => ⟨by trivial, ?_⟩)⟩⟩
   rw [w64_succ (by omega)]
   exact ⟨⟨rfl, j + 1, rfl, hlt⟩, dec_lt hlt⟩
 refine (locks_Save_ok (k := K2) he4 (by omega) (by omega) (fun o ho => by have := hfi.own o ho; omega)).use ⟨_, _, rfl, ?_⟩
 rw [saveC_fit hfi]
 have hbl : K2.saveB.length ≤ 2 ^ 60 := by
   unfold Co.saveB
   rw [List.length_append, List.length_append, flat_len ownB_len, flat_len rtB_len, flat_len lnB_len, List.length_take]
   omega
 refine (locks_Load_ok hc m (by omega) (by omega) (by omega) hbl).mono ?_
 rintro q s5 ⟨g0, g1, g2, g3, g4, g5, rfl, hg⟩
 rw [load_back hfi htm] at hg ⊢
 have hg : CoOwn s s5 g0 g1 g2 g3 g4 g5 (K2.backK c m) := hg
 have hr5 : (K2.backK c m).Routes[a]? = some ⟨5, 0, 0, 0⟩ := by
   show (K2.Routes.map (fun r => heldR ⟨r.State, 0, r.Next, 0⟩))[a]? = _
   rw [List.getElem?_map, hst2']; rfl
 refine ⟨_, _, _, _, _, _, _, _, rfl, bce (fun _ => bce (fun _ => ?_) (fun e => absurd rfl e)) (fun e => absurd rfl e)⟩
 refine hg.routes.at_.load (map_get hr5) c_RouteState rfl ⟨5, rfl, bce (fun _ => ?_) (fun e => absurd rfl e)⟩
 refine (locks_Fits_ok hc hg.at).use ⟨_, rfl, ?_⟩
 rw [back_fits hfi htm]
end
end Go.Proofs.YtdlnbehcnfjneaaGreat
