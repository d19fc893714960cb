/-
  Proofs that the statement of this claim leans on: part 4.
-/
import Derived.Test.YtjdpkjembijbeaaP3
set_option linter.unusedVariables false
set_option linter.unusedSimpArgs false
namespace Go.Proofs.Ytjdpkjembijbeaa
open Go.Fw Go.Proofs Go.RowKit
section
variable {σ : Store}
abbrev encP (p : Int × Int) : A := .agg [iD p.1, iD p.2]
theorem keys_spot : Keys Try.prog t_topo_spot encP := keys_int2 fun a b => by kernel_rfl
theorem keysI : Keys Try.prog t_int iA := ⟨fun x => by kernel_rfl, fun x y => by simp [eqA, eqCells, aCells, eqCell]⟩
theorem topo_Check_ok {d1 d2 : D} {secs : List Sec} {js : List Jt} (hs : ∀ s, At Try.prog s t_Section d1 (secs.map Sec.enc)) (hj : ∀ s, At Try.prog s t_Joint d2 (js.map Jt.enc)) :
   Pure Try.prog n_topo_Check [.one d1, .one d2] σ (.a (iA (if topoOk secs js = true then 0 else 6))) := by
 have hls := (hs σ).size
 have hlj := (hj σ).size
 rw [List.length_map] at hls hlj
 refine .of (W_topo_Check d1 d2 σ _ ?_) (flat_i _)
 intro R hR
 refine (hs σ).lenK ((topo_between_ok _ _ _).use ⟨_, rfl, bcnot (fun h => ?_) (fun h => (hj σ).lenK (bcd (fun h2 => ?_) (fun h2 => hR σ ?_)))⟩)
 · simp at h
   exact ⟨by rw [if_neg]; simp [topoOk]; omega, .refl _⟩
 · simp at h2
   exact ⟨by rw [if_neg]; simp [topoOk]; omega, .refl _⟩
 simp at h h2
 have hsize : decide (1 ≤ secs.length ∧ secs.length ≤ 16 ∧ js.length ≤ 24) = true := by simp; omega
 refine newObj_intro fun id σ1 hid _ he hs1 => (hj σ1).lenK ⟨fun n s => ∃ tk f, MapAt Try.prog t_topo_spot encP s id f ∧ (∀ z, f z = if z ∈ tk then some (iA 1) else none) ∧ Ext σ s ∧ Rng js (fun r => jrun secs r tk = jrun secs js []) n,
   fun n _ => js.length - n.toNat, ⟨[], _, .new hs1, fun z => by simp, he, .start rfl⟩, ?_⟩
 rintro n s ⟨tk, f, hm, hf, hes, hr⟩
 refine bcd (fun hlt => ?_) (fun hge => ?_)
 · obtain ⟨j, x, rfl, hx, hjl, hF, nx⟩ := hr.step (by simp) hlj hlt
   refine (hj s).load (map_get hx) c_Joint rfl ⟨x.A, x.AEnd, x.B, x.BEnd, rfl, ?_⟩
   refine newObj_intro fun id1 s1 hid1 _ he1 hs2 => ?_
   have hne : id ≠ id1 := fun e => by
     obtain ⟨c, es, h1, _⟩ := hm
     rw [e, hid1] at h1; cases h1
   have hbad : prun secs x.spots tk = none ∨ x.A = x.B → (if topoOk secs js = true then (0 : Int) else 6) = 6 := by
     intro hb
     have : jrun secs js [] = none := by
       rw [← hF, jrun]
       rcases hb with hb | hb
       · rw [hb]
       · cases prun secs x.spots tk with
         | none => rfl
         | some tk' => simp [hb]
     rw [if_neg]; simp [topoOk, this]
   have hloc : ∀ s', s' id1 = .live t_topo_spot [[iD x.A, iD x.AEnd], [iD x.B, iD x.BEnd]] → At Try.prog s' t_topo_spot (.osl id1 0 2) (x.spots.map fun p => [iD p.1, iD p.2]) := fun s' h => At.fresh h (by simp) rfl
   refine (hloc s1 hs2).lenK ⟨fun m s' => ∃ tk' f', MapAt Try.prog t_topo_spot encP s' id f' ∧ (∀ z, f' z = if z ∈ tk' then some (iA 1) else none) ∧ Ext σ s' ∧ s' id1 = .live t_topo_spot [[iD x.A, iD x.AEnd], [iD x.B, iD x.BEnd]] ∧
     Rng x.spots (fun q => prun secs q tk' = prun secs x.spots tk) m, fun m _ => x.spots.length - m.toNat, ⟨tk, f, hm.same (he1 id (fun e => hne (by
       obtain ⟨c, es, h1, _⟩ := hm
       rw [e] at h1; cases h1))), hf, hes.trans he1, hs2, .start rfl⟩, ?_⟩
   rintro m s' ⟨tk', f', hm', hf', hes', hs2', hr'⟩
   refine bcd (fun hlt' => ?_) (fun hge' => ?_)
   · obtain ⟨i, p, rfl, hp, hil, hG, nx'⟩ := hr'.step (by simp) (by simp [Jt.spots]) hlt'
     refine (hloc s' hs2').load (map_get hp) c_topo_spot rfl ⟨p.1, p.2, rfl, (hs s').lenK ?_⟩
     rw [prun] at hG
     have hw1 : w64 (((secs.map Sec.enc).length : Int) - 1) = (secs.length : Int) - 1 := by rw [List.length_map, w64_id (by omega) (by omega)]
     refine (topo_between_ok _ _ _).use ⟨_, rfl, ?_⟩
     rw [hw1]
     refine bcnot (fun h3 => ?_) (fun h3 => ?_)
     · exact ⟨by rw [hbad (.inl ?_)]; rw [← hG, if_neg]; simp only [spotOk, h3]; simp, hes'⟩
     · have h3' := of_decide_eq_true h3
       obtain ⟨y, hy⟩ := get_of_lt (l := secs) (j := p.1.toNat) (by omega)
       refine (hs s').load (map_get hy) c_Section (by omega) ⟨y.Kind, rfl, (topo_Ends_ok _).use ⟨_, rfl, (topo_between_ok _ _ _).use ⟨_, rfl, ?_⟩⟩⟩
       have hk : kindAt secs p.1 = y.Kind := by simp [kindAt, hy]
       have hn := nends_le y.Kind
       rw [w64_id (n := nends y.Kind - 1) (by omega) (by omega)]
       refine bcnot (fun h4 => ?_) (fun h4 => ?_)
       · exact ⟨by rw [hbad (.inl ?_)]; rw [← hG, if_neg]; simp only [spotOk, hk, h4]; simp, hes'⟩
       · have hok : spotOk secs p = true := by simp only [spotOk, hk, h3, h4]; rfl
         by_cases hin : p ∈ tk'
         · refine hm'.lookI keys_spot p (n := 1) (by rw [hf', if_pos hin]; rfl) (bcd (fun _ => ?_) (fun h => absurd (by decide) h))
           exact ⟨by rw [hbad (.inl ?_)]; rw [← hG, if_neg]; simp [hin], hes'⟩
         · refine hm'.lookI keys_spot p (n := 0) (by rw [hf', if_neg hin]; rfl) (bcd (fun h => absurd h (by decide)) (fun _ => ?_))
           refine hm'.lookI keys_spot p (n := 0) (by rw [hf', if_neg hin]; rfl) ?_
           rw [if_pos ⟨hok, hin⟩] at hG
           refine hm'.bump keys_spot p fun s3 f3 hm3 hf3 hf3' hs3 hs3' => ⟨rfl, ?_⟩
           have hn2 := nx' (fun q => prun secs q (p :: tk') = prun secs x.spots tk) hG
           refine ⟨⟨p :: tk', f3, hm3, fun z => ?_, fun i hi => ?_, ?_, hn2.1⟩, hn2.2⟩
           · by_cases hz : z = p
             · subst hz; rw [hf3']; simp; rfl
             · rw [hf3 z hz, hf']; simp [hz]
           · rw [hs3 i (fun e => ?_)]
             · exact hes' i hi
             · subst e; rw [hid] at hi; exact hi rfl
           · rw [hs3 _ (Ne.symm hne)]; exact hs2'
   · have hG := hr'.done (by simp) hge'
     rw [prun] at hG
     refine bce (fun h5 => ⟨by rw [hbad (.inr h5)], hes'⟩) (fun h5 => ?_)
     rw [jrun, ← hG] at hF
     simp only [if_neg h5] at hF
     have hn2 := nx (fun r => jrun secs r tk' = jrun secs js []) hF
     exact ⟨⟨tk', f', hm', hf', hes', hn2.1⟩, hn2.2⟩
 · have hF := hr.done (by simp) hge
   rw [jrun] at hF
   have htop : topoOk secs js = srun tk secs 0 [] := by simp only [topoOk, hsize, ← hF, Bool.true_and]
   rw [htop]
   clear htop hr hF hR
   refine newObj_intro fun id1 s1 hid1 _ he1 hs2 => ?_
   have hne : id ≠ id1 := fun e => by
     obtain ⟨c, es, h1, _⟩ := hm
     rw [e, hid1] at h1; cases h1
   refine (hs s1).lenK ⟨fun n s' => ∃ ls f2, MapAt Try.prog t_int iA s' id1 f2 ∧ (∀ z, z ∉ ls → f2 z = none) ∧ (∀ z, z ∈ ls → ∃ c : Int, 1 ≤ c ∧ c ≤ n ∧ f2 z = some (iA c)) ∧ MapAt Try.prog t_topo_spot encP s' id f ∧ Ext σ s' ∧
     Rng secs (fun r => srun tk r n ls = srun tk secs 0 []) n, fun n _ => secs.length - n.toNat, ⟨[], _, .new hs2, fun z _ => rfl, fun z hz => (by cases hz), hm.same (he1 id (fun e => by
       obtain ⟨c, es, h1, _⟩ := hm
       rw [e] at h1; cases h1)), hes.trans he1, .start rfl⟩, ?_⟩
   rintro n s' ⟨ls, f2, hm2, hf2, hf2', hm', hes', hr⟩
   refine bcd (fun hlt => ?_) (fun hge => ?_)
   · obtain ⟨j, x, rfl, hx, hjl, hF, nx⟩ := hr.step (by simp) hls hlt
     refine (hs s').load (map_get hx) c_Section rfl ⟨x.Kind, x.OC, x.Line, rfl, ?_⟩
     intro R1 hR1
     rw [srun] at hF
     have hbad : ∀ hc : (nends x.Kind = 0 ∨ ¬ (0 ≤ x.OC ∧ x.OC ≤ 3) ∨ ¬ (0 ≤ x.Line ∧ x.Line ≤ 3) ∨ x.Line ≠ 0 ∧ (x.Kind ≠ 0 ∨ ((j : Int), 1) ∈ tk ∨ x.Line ∈ ls)), (if srun tk secs 0 [] = true then (0 : Int) else 6) = 6 := by
       intro hc
       rw [if_pos hc] at hF
       rw [← hF]; rfl
     refine (topo_Ends_ok _).use ⟨_, rfl, bce (fun h1 => ⟨by rw [hbad (.inl h1)], hes'⟩) (fun h1 => (topo_between_ok _ _ _).use ⟨_, rfl, bcnot (fun h2 => ⟨by rw [hbad (.inr (.inl (of_decide_eq_false h2)))], hes'⟩) (fun h2 => (topo_between_ok _ _ _).use ⟨_, rfl, bcnot (fun h3 => ⟨by rw [hbad (.inr (.inr (.inl (of_decide_eq_false h3))))], hes'⟩) (fun h3 => ⟨rfl, hR1 s' ?_⟩)⟩)⟩)⟩
     have put : ∀ hc : ¬ (x.Line ≠ 0 ∧ (x.Kind ≠ 0 ∨ ((j : Int), 1) ∈ tk ∨ x.Line ∈ ls)), ∃ c : Int, (f2 x.Line).getD (iA 0) = iA c ∧ 0 ≤ c ∧ c ≤ j ∧ (x.Line ∉ ls → c = 0) ∧ ∀ (c' : Int), c' = c → MPut Try.prog t_int s' (.omap id1) (iA x.Line) (iA (w64 (c' + 1))) fun s6 =>
         (∃ ls f2, MapAt Try.prog t_int iA s6 id1 f2 ∧ (∀ z, z ∉ ls → f2 z = none) ∧ (∀ z, z ∈ ls → ∃ c : Int, 1 ≤ c ∧ c ≤ w64 ((j : Int) + 1) ∧ f2 z = some (iA c)) ∧ MapAt Try.prog t_topo_spot encP s6 id f ∧ Ext σ s6 ∧
           Rng secs (fun r => srun tk r (w64 ((j : Int) + 1)) ls = srun tk secs 0 []) (w64 ((j : Int) + 1))) ∧ secs.length - (w64 ((j : Int) + 1)).toNat < secs.length - (j : Int).toNat := by
       intro hc
       have hgo : ¬ (nends x.Kind = 0 ∨ ¬ (0 ≤ x.OC ∧ x.OC ≤ 3) ∨ ¬ (0 ≤ x.Line ∧ x.Line ≤ 3) ∨ x.Line ≠ 0 ∧ (x.Kind ≠ 0 ∨ ((j : Int), 1) ∈ tk ∨ x.Line ∈ ls)) := by
         rintro (h | h | h | h)
         · exact h1 h
         · exact h (of_decide_eq_true h2)
         · exact h (of_decide_eq_true h3)
         · exact hc h
       rw [if_neg hgo] at hF
       have hcount : ∃ c : Int, (f2 x.Line).getD (iA 0) = iA c ∧ 0 ≤ c ∧ c ≤ j ∧ (x.Line ∉ ls → c = 0) := by
         by_cases hin : x.Line ∈ ls
         · obtain ⟨c, c1, c2, c3⟩ := hf2' _ hin
           exact ⟨c, by rw [c3]; rfl, by omega, c2, fun h => absurd hin h⟩
         · exact ⟨0, by rw [hf2 _ hin]; rfl, by omega, by omega, fun _ => rfl⟩
       obtain ⟨c, k1, k2, k3, k4⟩ := hcount
       refine ⟨c, k1, k2, k3, k4, fun c' hc' => ?_⟩
       subst hc'
       refine hm2.put keysI x.Line fun s6 f6 g1 g2 g3 g4 g5 => ?_
       have hn2 := nx (fun r => srun tk r (w64 ((j : Int) + 1)) (x.Line :: ls) = srun tk secs 0 []) (by rw [w64_succ (by omega)]; simpa using hF)
       have hw : w64 ((j : Int) + 1) = (j : Int) + 1 := w64_id (by omega) (by omega)
       refine ⟨⟨x.Line :: ls, f6, g1, fun z hz => ?_, fun z hz => ?_, hm'.same (g4 _ hne), fun i hi => ?_, hn2.1⟩, hn2.2⟩
       · simp only [List.mem_cons, not_or] at hz
         rw [g2 z hz.1]; exact hf2 z hz.2
       · by_cases hzx : z = x.Line
         · subst hzx
           exact ⟨c' + 1, by omega, by omega, by rw [g3, w64_id (by omega) (by omega)]⟩
         · rw [g2 z hzx]
           obtain ⟨c2, q1, q2, q3⟩ := hf2' z ((List.mem_cons.1 hz).resolve_left hzx)
           exact ⟨c2, q1, by omega, q3⟩
       · rw [g4 i (fun e => ?_)]
         · exact hes' i hi
         · subst e
           have := hes _ hi
           rw [hid1] at this; exact hi this.symm
     refine bcn (fun h4 => bcn (fun h5 => ⟨by rw [hbad (.inr (.inr (.inr ⟨h4, .inl h5⟩)))], hes'⟩) (fun h5 => ?_)) (fun h4 => ?_)
     · by_cases hin : ((j : Int), (1 : Int)) ∈ tk
       · refine hm'.lookI keys_spot ((j : Int), (1 : Int)) (n := 1) (by rw [hf, if_pos hin]; rfl) (bcd (fun _ => ⟨by rw [hbad (.inr (.inr (.inr ⟨h4, .inr (.inl hin)⟩)))], hes'⟩) (fun h => absurd (by decide) h))
       · refine hm'.lookI keys_spot ((j : Int), (1 : Int)) (n := 0) (by rw [hf, if_neg hin]; rfl) (bcd (fun h => absurd h (by decide)) (fun _ => ?_))
         by_cases hin2 : x.Line ∈ ls
         · obtain ⟨c, c1, c2, c3⟩ := hf2' _ hin2
           exact hm2.lookI keysI x.Line (n := c) (by rw [c3]; rfl) (bcd (fun _ => ⟨by rw [hbad (.inr (.inr (.inr ⟨h4, .inr (.inr hin2)⟩)))], hes'⟩) (fun h => absurd (show c > 0 by omega) h))
         · obtain ⟨c, k1, k2, k3, k4, k5⟩ := put (by rintro ⟨_, h | h | h⟩; exact h h5; exact hin h; exact hin2 h)
           have := k4 hin2
           refine hm2.lookI keysI x.Line k1 (bcd (fun h => absurd h (by omega)) (fun _ => hm2.lookI keysI x.Line k1 (k5 c rfl)))
     · obtain ⟨c, k1, k2, k3, k4, k5⟩ := put (fun h => h.1 h4)
       exact hm2.lookI keysI x.Line k1 (k5 c rfl)
   · have hF := hr.done (by simp) hge
     rw [srun] at hF
     exact ⟨by rw [← hF]; rfl, hes'⟩
end
end Go.Proofs.Ytjdpkjembijbeaa
namespace Go.Fw
section
structure Rt where
 Entry : Int
 Exit : Int
 Path : List St
 Flank : List Nd
 Overlap : List Int
 Shunt : Bool
structure Cf where
 Secs : List Sec
 Jts : List Jt
 Sigs : List Sg
 Xs : List Int
 Rts : List Rt
 Age : Int
 Brake : Int
 Hold : Int
 Budget : Int
def FnIs {α : Type} (P : Program) (σ : Store) (f : D) (arg : α → A) (l : List α) (p : α → Bool) : Prop :=
 ∃ f1 a b as0' bs, f = .fn f1 a b ∧ capAs a = some as0' ∧ capAs b = some bs ∧ ∀ x ∈ l, DCalls P f1 (as0' ++ [arg x] ++ bs) σ fun r s => r = .a (bA (p x)) ∧ s = σ
def fidx {α : Type} (p : α → Bool) : List α → Nat → Int
 | [], _ => -1
 | x :: r, j => if p x = true then j else fidx p r (j + 1)
theorem fidx_any {α : Type} (p : α → Bool) (l : List α) : decide (fidx p l 0 ≥ 0) = l.any p := by
 have key : ∀ (l : List α) (j : Nat), decide (fidx p l j ≥ 0) = l.any p := by
   intro l
   induction l with
   | nil => intro j; simp [fidx]
   | cons x r ih =>
     intro j
     rw [fidx, List.any_cons]
     by_cases hp : p x = true
     · rw [if_pos hp, hp]; simp
     · rw [if_neg hp, ih]; simp [hp]
 exact key l 0
def geti {α : Type} (l : List α) (i : Int) : Option α := if i < 0 then none else l[i.toNat]?
theorem geti_some {α : Type} {l : List α} {i : Int} {x : α} (h : geti l i = some x) : 0 ≤ i ∧ i < l.length ∧ l[i.toNat]? = some x := by
 unfold geti at h
 split at h
 · cases h
 · have := (List.getElem?_eq_some_iff.1 h).1
   exact ⟨by omega, by omega, h⟩
theorem geti_neg {α : Type} {l : List α} {i : Int} (h : i < 0) : geti l i = none := if_pos h
theorem geti_ge {α : Type} {l : List α} {i : Int} (h : (l.length : Int) ≤ i) : geti l i = none := by
 unfold geti; rw [if_neg (by omega), List.getElem?_eq_none_iff]; omega
def secRV : Option Sec → RV
 | none => .tup [.agg [iD 0, iD 0, iD 0], bA false]
 | some s => .tup [.agg s.enc, bA true]
def sgRV : Option Sg → RV
 | none => .tup [.agg [iD 0, iD 0], bA false]
 | some s => .tup [.agg s.enc, bA true]
def Cf.approach (c : Cf) (r : Rt) : Int := ((geti c.Sigs r.Entry).map Sg.Sec).getD (-1)
def Cf.Approach (c : Cf) (i : Int) : Int := ((geti c.Rts i).map c.approach).getD (-1)
def hasSec (path : List St) (s : Int) : Bool := path.any fun x => x.Sec == s
def RtAt (P : Program) (tS tN tI : TypeId) (σ : Store) (cs : List D) (r : Rt) : Prop :=
 ∃ d1 d2 d3, cs = [iD r.Entry, iD r.Exit, d1, d2, d3, .bool r.Shunt] ∧ At P σ tS d1 (r.Path.map St.enc) ∧ At P σ tN d2 (r.Flank.map Nd.enc) ∧ At P σ tI d3 (r.Overlap.map encI)
def RtsAt (P : Program) (tR tS tN tI : TypeId) (σ : Store) (d : D) (l : List Rt) : Prop :=
 ∃ rows, At P σ tR d rows ∧ rows.length = l.length ∧ ∀ (i : Nat) row r, rows[i]? = some row → l[i]? = some r → RtAt P tS tN tI σ row r
def flankStep (c : Cf) (approach : Int) (path : List St) (s : St) (out : List Nd) (e : Int) : List Nd :=
 if e = s.In ∨ e = s.Out then out else
 match nxt c.Jts s.Sec e with
 | none => out
 | some (q, f) => match geti c.Secs q with
   | none => out
   | some y => if y.Kind = 1 ∧ (1 ≤ f ∧ f ≤ 2) ∧ q ≠ approach ∧ hasSec path q = false ∧ (out.any fun n => n.Sec == q) = false then out ++ [⟨q, 3 - f⟩] else out
def flankEnds (c : Cf) (approach : Int) (path : List St) (s : St) : Nat → Int → List Nd → List Nd
 | 0, _, out => out
 | n + 1, e, out => flankEnds c approach path s n (e + 1) (flankStep c approach path s out e)
def flankRun (c : Cf) (approach : Int) (path : List St) : List St → List Nd → List Nd
 | [], out => out
 | s :: r, out => flankRun c approach path r (match geti c.Secs s.Sec with
   | none => out
   | some x => flankEnds c approach path s (nends x.Kind).toNat 0 out)
def Cf.flank (c : Cf) (approach : Int) (path : List St) : List Nd := flankRun c approach path path []
theorem flankStep_len (c : Cf) (a : Int) (p : List St) (s : St) (out : List Nd) (e : Int) : out.length ≤ (flankStep c a p s out e).length ∧ (flankStep c a p s out e).length ≤ out.length + 1 := by
 unfold flankStep
 split
 · omega
 · split
   · omega
   · split
     · omega
     · split <;> simp
theorem flankEnds_len (c : Cf) (a : Int) (p : List St) (s : St) : ∀ (n : Nat) (e : Int) (out : List Nd), out.length ≤ (flankEnds c a p s n e out).length ∧ (flankEnds c a p s n e out).length ≤ out.length + n
 | 0, e, out => by simp [flankEnds]
 | n + 1, e, out => by
   have h1 := flankStep_len c a p s out e
   have h2 := flankEnds_len c a p s n (e + 1) (flankStep c a p s out e)
   rw [flankEnds]; omega
theorem flankRun_len (c : Cf) (a : Int) (p : List St) : ∀ (l : List St) (out : List Nd), out.length ≤ (flankRun c a p l out).length ∧ (flankRun c a p l out).length ≤ out.length + 4 * l.length
 | [], out => by simp [flankRun]
 | s :: r, out => by
   rw [flankRun]
   cases hg : geti c.Secs s.Sec with
   | none => have := flankRun_len c a p r out; simp only [List.length_cons]; omega
   | some x =>
     have h1 := flankEnds_len c a p s (nends x.Kind).toNat 0 out
     have h2 := flankRun_len c a p r (flankEnds c a p s (nends x.Kind).toNat 0 out)
     have h3 := nends_le x.Kind
     simp only [List.length_cons]
     omega
def Cf.overlap (c : Cf) (r : Rt) : List Int :=
 if r.Shunt = true then [] else
 match geti c.Sigs r.Exit with
 | none => []
 | some x => match nxt c.Jts x.Sec x.End_ with
   | none => []
   | some (q, _) => match geti c.Secs q with
     | none => []
     | some y => if y.Line = 0 ∧ hasSec r.Path q = false ∧ q ≠ c.approach r then [q] else []
def sgrun (js : List Jt) : List Sg → List Sg → Bool
 | [], _ => true
 | x :: r, seen => if (nxt js x.Sec x.End_).isSome = true ∧ x ∉ seen then sgrun js r (x :: seen) else false
def xrun (secs : List Sec) : List Int → List Int → Bool
 | [], _ => true
 | x :: r, seen => match geti secs x with
   | none => false
   | some s => if s.Line = 0 ∧ x ∉ seen then xrun secs r (x :: seen) else false
def Cf.sigsOk (c : Cf) : Bool := sgrun c.Jts c.Sigs [] && decide (c.Sigs.length ≤ 12)
def Cf.xsOk (c : Cf) : Bool := xrun c.Secs c.Xs [] && decide (c.Xs.length ≤ 4)
end
end Go.Fw
namespace Go.Proofs.Ytjdpkjembijbeaa
open Go.Fw Go.Proofs Go.RowKit
section
variable {σ : Store}
theorem IndexFunc_Step_ok {d f : D} {l : List St} {p : St → Bool} (h : At Try.prog σ t_Step d (l.map St.enc)) (hf : FnIs Try.prog σ f (fun x : St => .agg x.enc) l p) :
   Pure Try.prog n_slices_IndexFunc_Step [.one d, .one f] σ (.a (iA (fidx p l 0))) := by
 have hl := h.size
 rw [List.length_map] at hl
 obtain ⟨f1, a, b, as0', bs, rfl, ha, hb, hf⟩ := hf
 refine W_slices_IndexFunc_Step d _ σ _ (h.lenK ⟨fun n s => s = σ ∧ Rng l (fun r => ∀ j : Nat, n = j → fidx p r j = fidx p l 0) n, fun n _ => l.length - n.toNat, ⟨rfl, .start fun j hj => by cases j with | zero => rfl | succ j => omega⟩, ?_⟩)
 rintro n τ ⟨rfl, hr⟩
 refine bcd (fun hlt => ?_) (fun hge => ?_)
 · obtain ⟨j, x, rfl, hx, hj, hF, nx⟩ := hr.step (by simp) hl hlt
   refine h.load (map_get hx) c_Step rfl ⟨x.Sec, x.In, x.Out, rfl, f1, a, b, as0', bs, rfl, ha, hb, ?_⟩
   have hF := hF j rfl
   rw [fidx] at hF
   refine (hf x (List.mem_of_getElem? hx)).mono ?_
   rintro r s ⟨rfl, rfl⟩
   refine ⟨p x, rfl, bc (fun hp => ?_) (fun hp => ?_)⟩
   · rw [if_pos hp] at hF; exact ⟨by rw [← hF], rfl⟩
   · refine andl rfl (nx _ fun j' hj' => ?_)
     rw [w64_succ (by omega)] at hj'
     have : j' = j + 1 := by omega
     subst this
     rw [if_neg (by rw [hp]; simp)] at hF
     exact hF
 · refine ⟨?_, rfl⟩
   obtain ⟨j, hj, hj2, hF⟩ := hr
   have hF := hF j hj
   rw [List.length_map] at hge
   rw [drop_end (by omega)] at hF
   rw [← hF]; rfl
theorem ContainsFunc_Step_ok {d f : D} {l : List St} {p : St → Bool} (h : At Try.prog σ t_Step d (l.map St.enc)) (hf : FnIs Try.prog σ f (fun x : St => .agg x.enc) l p) :
   Pure Try.prog n_slices_ContainsFunc_Step [.one d, .one f] σ (.a (bA (l.any p))) :=
 W_slices_ContainsFunc_Step d f σ _ ((IndexFunc_Step_ok h hf).use ⟨_, rfl, by rw [fidx_any]; exact ⟨rfl, rfl⟩⟩)
theorem IndexFunc_Need_ok {d f : D} {l : List Nd} {p : Nd → Bool} (h : At Try.prog σ t_Need d (l.map Nd.enc)) (hf : FnIs Try.prog σ f (fun x : Nd => .agg x.enc) l p) :
   Pure Try.prog n_slices_IndexFunc_Need [.one d, .one f] σ (.a (iA (fidx p l 0))) := by
 have hl := h.size
 rw [List.length_map] at hl
 obtain ⟨f1, a, b, as0', bs, rfl, ha, hb, hf⟩ := hf
 refine W_slices_IndexFunc_Need d _ σ _ (h.lenK ⟨fun n s => s = σ ∧ Rng l (fun r => ∀ j : Nat, n = j → fidx p r j = fidx p l 0) n, fun n _ => l.length - n.toNat, ⟨rfl, .start fun j hj => by cases j with | zero => rfl | succ j => omega⟩, ?_⟩)
 rintro n τ ⟨rfl, hr⟩
 refine bcd (fun hlt => ?_) (fun hge => ?_)
 · obtain ⟨j, x, rfl, hx, hj, hF, nx⟩ := hr.step (by simp) hl hlt
   refine h.load (map_get hx) c_Need rfl ⟨x.Sec, x.Pos, rfl, f1, a, b, as0', bs, rfl, ha, hb, ?_⟩
   have hF := hF j rfl
   rw [fidx] at hF
   refine (hf x (List.mem_of_getElem? hx)).mono ?_
   rintro r s ⟨rfl, rfl⟩
   refine ⟨p x, rfl, bc (fun hp => ?_) (fun hp => ?_)⟩
   · rw [if_pos hp] at hF; exact ⟨by rw [← hF], rfl⟩
   · refine andl rfl (nx _ fun j' hj' => ?_)
     rw [w64_succ (by omega)] at hj'
     have : j' = j + 1 := by omega
     subst this
     rw [if_neg (by rw [hp]; simp)] at hF
     exact hF
 · refine ⟨?_, rfl⟩
   obtain ⟨j, hj, hj2, hF⟩ := hr
   have hF := hF j hj
   rw [List.length_map] at hge
   rw [drop_end (by omega)] at hF
   rw [← hF]; rfl
theorem ContainsFunc_Need_ok {d f : D} {l : List Nd} {p : Nd → Bool} (h : At Try.prog σ t_Need d (l.map Nd.enc)) (hf : FnIs Try.prog σ f (fun x : Nd => .agg x.enc) l p) :
   Pure Try.prog n_slices_ContainsFunc_Need [.one d, .one f] σ (.a (bA (l.any p))) :=
 W_slices_ContainsFunc_Need d f σ _ ((IndexFunc_Need_ok h hf).use ⟨_, rfl, by rw [fidx_any]; exact ⟨rfl, rfl⟩⟩)
theorem Index_Signal_ok {d : D} {l : List Sg} (v : Sg) (h : At Try.prog σ t_Signal d (l.map Sg.enc)) : Pure Try.prog n_slices_Index_Signal [.one d, .agg v.enc] σ (.a (iA (fidx (fun x => decide (v = x)) l 0))) := by
 have hl := h.size
 rw [List.length_map] at hl
 refine W_slices_Index_Signal d v.Sec v.End_ σ _ (h.lenK ⟨fun n s => s = σ ∧ Rng l (fun r => ∀ j : Nat, n = j → fidx (fun x => decide (v = x)) r j = fidx (fun x => decide (v = x)) l 0) n, fun n _ => l.length - n.toNat, ⟨rfl, .start fun j hj => by cases j with | zero => rfl | succ j => omega⟩, ?_⟩)
 rintro n τ ⟨rfl, hr⟩
 refine bcd (fun hlt => ?_) (fun hge => ?_)
 · obtain ⟨j, x, rfl, hx, hj, hF, nx⟩ := hr.step (by simp) hl hlt
   refine h.load (map_get hx) c_Signal rfl ⟨x.Sec, x.End_, rfl, ?_⟩
   have hF := hF j rfl
   rw [fidx] at hF
   have hd : ((v.Sec == x.Sec) && (v.End_ == x.End_)) = decide (v = x) := by
     rw [Bool.eq_iff_iff]; cases v; cases x; simp
   rw [hd]
   refine bc (fun hp => ?_) (fun hp => ?_)
   · rw [if_pos hp] at hF; exact ⟨by rw [← hF], rfl⟩
   · refine andl rfl (nx _ fun j' hj' => ?_)
     rw [w64_succ (by omega)] at hj'
     have : j' = j + 1 := by omega
     subst this
     rw [if_neg (by rw [hp]; simp)] at hF
     exact hF
 · refine ⟨?_, rfl⟩
   obtain ⟨j, hj, hj2, hF⟩ := hr
   have hF := hF j hj
   rw [List.length_map] at hge
   rw [drop_end (by omega)] at hF
   rw [← hF]; rfl
theorem Contains_Signal_ok {d : D} {l : List Sg} (v : Sg) (h : At Try.prog σ t_Signal d (l.map Sg.enc)) : Pure Try.prog n_slices_Contains_Signal [.one d, .agg v.enc] σ (.a (bA (l.any fun x => decide (v = x)))) :=
 W_slices_Contains_Signal d v.Sec v.End_ σ _ ((Index_Signal_ok v h).use ⟨_, rfl, by rw [fidx_any]; exact ⟨rfl, rfl⟩⟩)
theorem Equal_Need_ok {d1 d2 : D} {l1 l2 : List Nd} (h1 : At Try.prog σ t_Need d1 (l1.map Nd.enc)) (h2 : At Try.prog σ t_Need d2 (l2.map Nd.enc)) : Pure Try.prog n_slices_Equal_Need [.one d1, .one d2] σ (.a (bA (decide (l1 = l2)))) := by
 have hl1 := h1.size
 have hl2 := h2.size
 rw [List.length_map] at hl1 hl2
 refine W_slices_Equal_Need d1 d2 σ _ (h1.lenK (h2.lenK (bcn (fun hne => ?_) (fun heq => h1.lenK ?_))))
 · rw [List.length_map, List.length_map] at hne
   exact ⟨by rw [decide_eq_false (fun e => hne (by rw [e]))], rfl⟩
 rw [List.length_map, List.length_map] at heq
 refine ⟨fun n s => s = σ ∧ Rng l1 (fun r => ∀ j : Nat, n = j → (r = l2.drop j ↔ l1 = l2)) n, fun n _ => l1.length - n.toNat, ⟨rfl, .start fun j hj => by cases j with | zero => simp | succ j => omega⟩, ?_⟩
 rintro n τ ⟨rfl, hr⟩
 refine bcd (fun hlt => ?_) (fun hge => ?_)
 · obtain ⟨j, x, rfl, hx, hj, hF, nx⟩ := hr.step (by simp) hl1 hlt
   obtain ⟨y, hy⟩ := get_of_lt (l := l2) (j := j) (by omega)
   refine h1.load (map_get hx) c_Need rfl ⟨x.Sec, x.Pos, rfl, h2.load (map_get hy) c_Need rfl ⟨y.Sec, y.Pos, rfl, ?_⟩⟩
   have hF := hF j rfl
   rw [drop_get hy, List.cons.injEq] at hF
   have hd : ((x.Sec == y.Sec) && (x.Pos == y.Pos)) = decide (x = y) := by
     rw [Bool.eq_iff_iff]; cases x; cases y; simp
   rw [hd]
   refine bcnot (fun hp => ?_) (fun hp => ?_)
   · exact ⟨by rw [decide_eq_false (fun e => of_decide_eq_false hp (hF.2 e).1)], rfl⟩
   · refine andl rfl (nx _ fun j' hj' => ?_)
     rw [w64_succ (by omega)] at hj'
     have : j' = j + 1 := by omega
     subst this
     rw [← hF]; exact ⟨fun h => ⟨of_decide_eq_true hp, h⟩, fun h => h.2⟩
 · obtain ⟨j, hj, hj2, hF⟩ := hr
   rw [List.length_map] at hge
   have hF := hF j hj
   rw [drop_end (by omega), drop_end (by omega)] at hF
   exact ⟨by rw [decide_eq_true (hF.1 rfl)], rfl⟩
theorem Equal_int_ok {d1 d2 : D} {l1 l2 : List Int} (h1 : At Try.prog σ t_int d1 (l1.map Go.Fw.encI)) (h2 : At Try.prog σ t_int d2 (l2.map Go.Fw.encI)) : Pure Try.prog n_slices_Equal_int [.one d1, .one d2] σ (.a (bA (decide (l1 = l2)))) := by
 have hl1 := h1.size
 have hl2 := h2.size
 rw [List.length_map] at hl1 hl2
 refine W_slices_Equal_int d1 d2 σ _ (h1.lenK (h2.lenK (bcn (fun hne => ?_) (fun heq => h1.lenK ?_))))
 · rw [List.length_map, List.length_map] at hne
   exact ⟨by rw [decide_eq_false (fun e => hne (by rw [e]))], rfl⟩
 rw [List.length_map, List.length_map] at heq
 refine ⟨fun n s => s = σ ∧ Rng l1 (fun r => ∀ j : Nat, n = j → (r = l2.drop j ↔ l1 = l2)) n, fun n _ => l1.length - n.toNat, ⟨rfl, .start fun j hj => by cases j with | zero => simp | succ j => omega⟩, ?_⟩
 rintro n τ ⟨rfl, hr⟩
 refine bcd (fun hlt => ?_) (fun hge => ?_)
 · obtain ⟨j, x, rfl, hx, hj, hF, nx⟩ := hr.step (by simp) hl1 hlt
   obtain ⟨y, hy⟩ := get_of_lt (l := l2) (j := j) (by omega)
   refine h1.load (map_get hx) c_int rfl ⟨x, rfl, h2.load (map_get hy) c_int rfl ⟨y, rfl, ?_⟩⟩
   have hF := hF j rfl
   rw [drop_get hy, List.cons.injEq] at hF
   refine bcn (fun hp => ?_) (fun hp => ?_)
   · exact ⟨by rw [decide_eq_false (fun e => hp (hF.2 e).1)], rfl⟩
   · refine andl rfl (nx _ fun j' hj' => ?_)
     rw [w64_succ (by omega)] at hj'
     have : j' = j + 1 := by omega
     subst this
     rw [← hF]; exact ⟨fun h => ⟨hp, h⟩, fun h => h.2⟩
 · obtain ⟨j, hj, hj2, hF⟩ := hr
   rw [List.length_map] at hge
   have hF := hF j hj
   rw [drop_end (by omega), drop_end (by omega)] at hF
   exact ⟨by rw [decide_eq_true (hF.1 rfl)], rfl⟩
end
section
variable {σ : Store}
structure CfAt (σ : Store) (c0 c1 c2 c3 c4 : D) (c : Cf) : Prop where
 secs : At Try.prog σ t_Section c0 (c.Secs.map Sec.enc)
 jts : At Try.prog σ t_Joint c1 (c.Jts.map Jt.enc)
 sigs : At Try.prog σ t_Signal c2 (c.Sigs.map Sg.enc)
 xs : At Try.prog σ t_int c3 (c.Xs.map Go.Fw.encI)
 rts : RtsAt Try.prog t_Route t_Step t_Need t_int σ c4 c.Rts
abbrev cfA (c0 c1 c2 c3 c4 : D) (c : Cf) : A := .agg [c0, c1, c2, c3, c4, iD c.Age, iD c.Brake, iD c.Hold, iD c.Budget]
abbrev rtA (d1 d2 d3 : D) (r : Rt) : A := .agg [iD r.Entry, iD r.Exit, d1, d2, d3, .bool r.Shunt]
section
variable {c0 c1 c2 c3 c4 : D} {c : Cf} (h : CfAt σ c0 c1 c2 c3 c4 c)
include h
theorem plan_section_ok (s : Int) : Pure Try.prog n_conf_plan_section [cfA c0 c1 c2 c3 c4 c, iA s] σ (secRV (geti c.Secs s)) := by
 refine W_conf_plan_section _ _ _ _ _ _ _ _ _ s σ _ (bcd (fun h1 => ⟨by rw [geti_neg h1]; rfl, rfl⟩) (fun h1 => h.secs.lenK (bcd (fun h2 => ⟨by rw [List.length_map] at h2; rw [geti_ge h2]; rfl, rfl⟩) (fun h2 => ?_))))
 rw [List.length_map] at h2
 obtain ⟨x, hx⟩ := get_of_lt (l := c.Secs) (j := s.toNat) (by omega)
 refine h.secs.load (map_get hx) c_Section (by omega) ⟨x.Kind, x.OC, x.Line, rfl, ?_, rfl⟩
 have : geti c.Secs s = some x := by unfold geti; rw [if_neg h1, hx]
 rw [this]; rfl
theorem plan_signal_ok (s : Int) : Pure Try.prog n_conf_plan_signal [cfA c0 c1 c2 c3 c4 c, iA s] σ (sgRV (geti c.Sigs s)) := by
 refine W_conf_plan_signal _ _ _ _ _ _ _ _ _ s σ _ (bcd (fun h1 => ⟨by rw [geti_neg h1]; rfl, rfl⟩) (fun h1 => h.sigs.lenK (bcd (fun h2 => ⟨by rw [List.length_map] at h2; rw [geti_ge h2]; rfl, rfl⟩) (fun h2 => ?_))))
 rw [List.length_map] at h2
 obtain ⟨x, hx⟩ := get_of_lt (l := c.Sigs) (j := s.toNat) (by omega)
 refine h.sigs.load (map_get hx) c_Signal (by omega) ⟨x.Sec, x.End_, rfl, ?_, rfl⟩
 have : geti c.Sigs s = some x := by unfold geti; rw [if_neg h1, hx]
 rw [this]; rfl
theorem plan_approach_ok (r : Rt) (d1 d2 d3 : D) : Pure Try.prog n_conf_plan_approach [cfA c0 c1 c2 c3 c4 c, rtA d1 d2 d3 r] σ (.a (iA (c.approach r))) := by
 refine W_conf_plan_approach _ _ _ _ _ _ _ _ _ _ _ d1 d2 d3 _ σ _ ((plan_signal_ok h r.Entry).use ?_)
 cases hg : geti c.Sigs r.Entry with
 | none => exact ⟨0, 0, false, rfl, by simp [Cf.approach, hg], rfl⟩
 | some x => exact ⟨x.Sec, x.End_, true, rfl, by simp [Cf.approach, hg], rfl⟩
theorem rts_get {i : Nat} {r : Rt} (hr : c.Rts[i]? = some r) : ∃ rows, At Try.prog σ t_Route c4 rows ∧ rows.length = c.Rts.length ∧ ∃ d1 d2 d3, rows[i]? = some [iD r.Entry, iD r.Exit, d1, d2, d3, .bool r.Shunt] ∧ At Try.prog σ t_Step d1 (r.Path.map St.enc) ∧ At Try.prog σ t_Need d2 (r.Flank.map Nd.enc) ∧ At Try.prog σ t_int d3 (r.Overlap.map Go.Fw.encI) := by
 obtain ⟨rows, h1, h2, h3⟩ := h.rts
 have hlt := (List.getElem?_eq_some_iff.1 hr).1
 obtain ⟨row, hrow⟩ := get_of_lt (l := rows) (j := i) (by omega)
 obtain ⟨d1, d2, d3, rfl, q1, q2, q3⟩ := h3 i row r hrow hr
 exact ⟨rows, h1, h2, d1, d2, d3, hrow, q1, q2, q3⟩
theorem rts_len : ∃ rows, At Try.prog σ t_Route c4 rows ∧ rows.length = c.Rts.length := by
 obtain ⟨rows, h1, h2, h3⟩ := h.rts
 exact ⟨rows, h1, h2⟩
theorem conf_Approach_ok (i : Int) : Pure Try.prog n_conf_Approach [cfA c0 c1 c2 c3 c4 c, iA i] σ (.a (iA (c.Approach i))) := by
 obtain ⟨rows, hr, hl⟩ := rts_len h
 refine W_conf_Approach _ _ _ _ _ _ _ _ _ i σ _ (bcd (fun h1 => ⟨by rw [Cf.Approach, geti_neg h1]; rfl, rfl⟩) (fun h1 => hr.lenK (bcd (fun h2 => ⟨by rw [hl] at h2; rw [Cf.Approach, geti_ge h2]; rfl, rfl⟩) (fun h2 => ?_))))
 rw [hl] at h2
 obtain ⟨x, hx⟩ := get_of_lt (l := c.Rts) (j := i.toNat) (by omega)
 obtain ⟨rows', hr', _, d1, d2, d3, hrow, _⟩ := rts_get h hx
 refine hr'.load hrow c_Route (by omega) ⟨_, _, d1, d2, d3, _, rfl, (plan_approach_ok h x d1 d2 d3).use ⟨_, rfl, ?_, rfl⟩⟩
 have : geti c.Rts i = some x := by unfold geti; rw [if_neg h1, hx]
 rw [Cf.Approach, this]; rfl
end
theorem cap_fn {α : Type} {f1 : FuncId} {id : Nat} {t : TypeId} {n : Int} {arg : α → A} {l : List α} {p : α → Bool} (hs : σ id = .live t [[iD n]])
   (hf : ∀ x ∈ l, DCalls Try.prog f1 [arg x, .one (.el (.osl id 0 1) 0 0)] σ fun r s => r = .a (bA (p x)) ∧ s = σ) : FnIs Try.prog σ (.fn f1 [] [(false, [.el (.osl id 0 1) 0 0])]) arg l p :=
 ⟨f1, _, _, [], [.one (.el (.osl id 0 1) 0 0)], rfl, rfl, rfl, hf⟩
theorem box_row {id : Nat} {t : TypeId} {row : List D} (hs : σ id = .live t [row]) : Row σ (.osl id 0 1) 0 row := ⟨by omega, t, [row], hs, rfl⟩
theorem conf_has_ok {d : D} {path : List St} (s : Int) (h : At Try.prog σ t_Step d (path.map St.enc)) : Pure Try.prog n_conf_has [.one d, iA s] σ (.a (bA (hasSec path s))) := by
 refine .of (W_conf_has d s σ _ (newObj_intro fun id σ1 hid _ he hs => ?_)) (flat_b _)
 refine (ContainsFunc_Step_ok (p := fun x => x.Sec == s) (h.ext he) (cap_fn hs fun x _ => ?_)).use ⟨_, rfl, rfl, he⟩
 exact W_conf_has_1 x.Sec x.In x.Out _ σ1 _ ⟨_, _, _, rfl, _, box_row hs, s, rfl, rfl, rfl⟩
theorem hasNeed_ok {d : D} {l : List Nd} {id : Nat} {q : Int} (h : At Try.prog σ t_Need d (l.map Nd.enc)) (hs : σ id = .live t_int [[iD q]]) :
   Pure Try.prog n_slices_ContainsFunc_Need [.one d, .one (.fn n_conf_plan_flank_1 [] [(false, [.el (.osl id 0 1) 0 0])])] σ (.a (bA (l.any fun n => n.Sec == q))) :=
 ContainsFunc_Need_ok (p := fun x => x.Sec == q) h (cap_fn hs fun x _ => W_conf_plan_flank_1 x.Sec x.Pos _ σ _ ⟨_, _, _, rfl, _, box_row hs, q, rfl, rfl, rfl⟩)
end
end Go.Proofs.Ytjdpkjembijbeaa
namespace Go.Fw
section
theorem opt2_ex (o : Option (Int × Int)) {K : Int → Int → Bool → Prop} (h : K (o.getD (0, 0)).1 (o.getD (0, 0)).2 o.isSome) : ∃ n m : Int, ∃ b : Bool, opt2 o = .tup [iA n, iA m, bA b] ∧ K n m b := by
 cases o with
 | none => exact ⟨0, 0, false, rfl, h⟩
 | some p => exact ⟨p.1, p.2, true, rfl, h⟩
theorem opt1_ex (o : Option Int) {K : Int → Bool → Prop} (h : K (o.getD 0) o.isSome) : ∃ n : Int, ∃ b : Bool, opt1 o = .tup [iA n, bA b] ∧ K n b := by
 cases o with
 | none => exact ⟨0, false, rfl, h⟩
 | some p => exact ⟨p, true, rfl, h⟩
theorem sec_ex (o : Option Sec) {K : Int → Int → Int → Bool → Prop} (h : K (o.getD ⟨0, 0, 0⟩).Kind (o.getD ⟨0, 0, 0⟩).OC (o.getD ⟨0, 0, 0⟩).Line o.isSome) : ∃ n m k : Int, ∃ b : Bool, secRV o = .tup [.agg [iD n, iD m, iD k], bA b] ∧ K n m k b := by
 cases o with
 | none => exact ⟨0, 0, 0, false, rfl, h⟩
 | some p => exact ⟨p.Kind, p.OC, p.Line, true, rfl, h⟩
theorem sg_ex (o : Option Sg) {K : Int → Int → Bool → Prop} (h : K (o.getD ⟨0, 0⟩).Sec (o.getD ⟨0, 0⟩).End_ o.isSome) : ∃ n m : Int, ∃ b : Bool, sgRV o = .tup [.agg [iD n, iD m], bA b] ∧ K n m b := by
 cases o with
 | none => exact ⟨0, 0, false, rfl, h⟩
 | some p => exact ⟨p.Sec, p.End_, true, rfl, h⟩
def pstep (c : Cf) (r : Rt) (ex : Option Sg) (a : Sg) (s : St) (last : Bool) (seen : List Int) : Bool :=
 match nxt c.Jts a.Sec a.End_ with
 | none => false
 | some (q, i) => decide (q = s.Sec) && decide (i = s.In) && (wpos (wayL ((geti c.Secs q).getD ⟨0, 0, 0⟩).Kind) s.In s.Out).isSome && decide (q ∉ seen) &&
     (!(c.Sigs.any fun x => decide (⟨s.Sec, s.Out⟩ = x)) || (last && decide (ex = some ⟨s.Sec, s.Out⟩))) && !(r.Shunt && decide (((geti c.Secs q).getD ⟨0, 0, 0⟩).Line ≠ 0))
def prunA (c : Cf) (r : Rt) (ex : Option Sg) : List St → Sg → List Int → Bool
 | [], a, _ => match ex with
   | some x => decide (a = x)
   | none => !(nxt c.Jts a.Sec a.End_).isSome
 | s :: rest, a, seen => pstep c r ex a s rest.isEmpty seen && prunA c r ex rest ⟨s.Sec, s.Out⟩ (s.Sec :: seen)
def Cf.path (c : Cf) (r : Rt) : Bool :=
 match geti c.Sigs r.Entry with
 | none => false
 | some a => (decide (r.Exit = -1) || (geti c.Sigs r.Exit).isSome) && decide (1 ≤ r.Path.length ∧ r.Path.length ≤ 8) && prunA c r (geti c.Sigs r.Exit) r.Path a [a.Sec]
def Cf.route (c : Cf) (r : Rt) : Int :=
 if c.path r = false then 9 else if r.Flank ≠ c.flank (c.approach r) r.Path then 10 else if r.Overlap ≠ c.overlap r then 11 else 0
def Cf.routes (c : Cf) : List Rt → Int
 | [] => 0
 | r :: l => if c.route r ≠ 0 then c.route r else c.routes l
def Cf.timing (c : Cf) : Bool :=
 decide (1 ≤ c.Age ∧ c.Age ≤ 8) && decide (0 ≤ c.Brake ∧ c.Brake ≤ 8) && decide (c.Age + c.Brake + 1 ≤ c.Hold ∧ c.Hold ≤ 40) && decide (1 ≤ c.Budget ∧ c.Budget ≤ 1000000)
def Cf.check (c : Cf) : Int :=
 if topoOk c.Secs c.Jts = false then 6 else if c.sigsOk = false then 7 else if c.xsOk = false then 8 else if c.Rts.length > 12 then 9
 else if c.routes c.Rts ≠ 0 then c.routes c.Rts else if c.timing = true then 0 else 12
theorem Rows.det {P : Program} {s s' : Store} {el : TypeId} {d : D} {rs rs' : List (List D)} (h : Rows P s el d rs) (h' : Rows P s' el d rs') (hd : ∀ id i len, d ≠ .osl id i len) : rs = rs' := by
 cases d <;> simp only [Rows] at h h' <;> try exact h.elim
 · rw [h, h']
 · rw [h, h']
 · rw [h.1, h'.1]
 · exact absurd rfl (hd _ _ _)
theorem froz_plain {P : Program} {el : TypeId} {d : D} (h : ∀ s, ∃ rs, Rows P s el d rs) : ∀ id i len, d ≠ .osl id i len := by
 rintro id i len rfl
 obtain ⟨rs, t, rows, h1, _⟩ := h fun _ => .free
 cases h1
theorem rts_froz {P : Program} {tR tS tN tI : TypeId} {d : D} {l : List Rt} (h : ∀ s, RtsAt P tR tS tN tI s d l) :
   ∃ rows, (∀ s, At P s tR d rows) ∧ rows.length = l.length ∧ ∀ (i : Nat) row r, rows[i]? = some row → l[i]? = some r →
     ∃ d1 d2 d3, row = [iD r.Entry, iD r.Exit, d1, d2, d3, .bool r.Shunt] ∧ (∀ s, At P s tS d1 (r.Path.map St.enc)) ∧ (∀ s, At P s tN d2 (r.Flank.map Nd.enc)) ∧ (∀ s, At P s tI d3 (r.Overlap.map encI)) := by
 have hp := froz_plain (P := P) (el := tR) (d := d) fun s => by
   obtain ⟨rows, h1, _⟩ := h s
   exact ⟨rows, h1.rows⟩
 obtain ⟨rows, h1, h2, h3⟩ := h fun _ => .free
 have hall : ∀ s, At P s tR d rows ∧ ∀ (i : Nat) row r, rows[i]? = some row → l[i]? = some r → RtAt P tS tN tI s row r := fun s => by
   obtain ⟨rows', q1, q2, q3⟩ := h s
   have e := q1.rows.det h1.rows hp
   subst e
   exact ⟨q1, q3⟩
 refine ⟨rows, fun s => (hall s).1, h2, fun i row r hi hr => ?_⟩
 obtain ⟨d1, d2, d3, rfl, _⟩ := h3 i row r hi hr
 refine ⟨d1, d2, d3, rfl, fun s => ?_, fun s => ?_, fun s => ?_⟩ <;>
 · obtain ⟨e1, e2, e3, he, q1, q2, q3⟩ := (hall s).2 i _ r hi hr
   injection he with _ he; injection he with _ he; injection he with a1 he; injection he with a2 he; injection he with a3 he
   subst a1 a2 a3
   assumption
end
end Go.Fw
namespace Go.Proofs.Ytjdpkjembijbeaa
open Go.Fw Go.Proofs Go.RowKit
section
variable {σ : Store}
abbrev encSg (p : Sg) : A := .agg [iD p.Sec, iD p.End_]
theorem keys_sg : Keys Try.prog t_Signal encSg := by
 refine ⟨fun x => ?_, fun x y => ?_⟩
 · have : ∀ a b : Int, keyOk Try.prog t_Signal (.agg [iD a, iD b]) = true := fun a b => by kernel_rfl
   exact this _ _
 · cases x; cases y; simp [eqA, eqCells, aCells, eqCell]
theorem conf_between_ok (n lo hi : Int) : Pure Try.prog n_conf_between [iA n, iA lo, iA hi] σ (.a (bA (decide (lo ≤ n ∧ n ≤ hi)))) := by
 refine W_conf_between n lo hi σ _ (bcd (fun h => ⟨?_, rfl⟩) (fun h => ⟨?_, rfl⟩)) <;> simp [h]
section
variable {c0 c1 c2 c3 c4 : D} {c : Cf} (h : ∀ s, CfAt s c0 c1 c2 c3 c4 c)
include h
theorem plan_signals_ok : Pure Try.prog n_conf_plan_signals [cfA c0 c1 c2 c3 c4 c] σ (.a (bA c.sigsOk)) := by
 have hl := (h σ).sigs.size
 rw [List.length_map] at hl
 refine .of (W_conf_plan_signals _ _ _ _ _ _ _ _ _ σ _ ?_) (flat_b _)
 refine newObj_intro fun id σ1 hid _ he hs => (h σ1).sigs.lenK ⟨fun n s => ∃ seen f, MapAt Try.prog t_Signal encSg s id f ∧ (∀ z, f z = if z ∈ seen then some (iA 1) else none) ∧ Ext σ s ∧ Rng c.Sigs (fun r => sgrun c.Jts r seen = sgrun c.Jts c.Sigs []) n,
   fun n _ => c.Sigs.length - n.toNat, ⟨[], _, .new hs, fun z => by simp, he, .start rfl⟩, ?_⟩
 rintro n s ⟨seen, f, hm, hf, hes, hr⟩
 refine bcd (fun hlt => ?_) (fun hge => ?_)
 · obtain ⟨j, x, rfl, hx, hj, hF, nx⟩ := hr.step (by simp) hl hlt
   refine (h s).sigs.load (map_get hx) c_Signal rfl ⟨x.Sec, x.End_, rfl, (topo_Next_ok x.Sec x.End_ (h s).jts).use (opt2_ex _ ?_)⟩
   rw [sgrun] at hF
   have key : ∀ k : Int, f x = (if x ∈ seen then some (iA 1) else none) → ((f x).getD (iA 0) = iA (if x ∈ seen then 1 else 0)) := fun k e => by
     rw [e]; split <;> rfl
   refine hm.lookI keys_sg x (key 0 (hf x)) (hm.bump keys_sg x fun s' f' hm' hf' hfx hs' hne => ?_)
   have hes' : Ext σ s' := fun i hi => by
     rw [hs' i (fun e => hi (by rw [e]; exact hid))]; exact hes i hi
   refine bcnot (fun hb => ?_) (fun hb => ?_)
   · rw [if_neg (by rw [hb]; simp)] at hF
     exact ⟨by simp [Cf.sigsOk, ← hF], hes'⟩
   · refine hm'.lookI keys_sg x (by rw [hfx]; rfl) (bcd (fun h2 => ?_) (fun h2 => ?_))
     · have hin : x ∈ seen := by
         by_cases hin : x ∈ seen
         · exact hin
         · rw [if_neg hin] at h2; exact absurd h2 (by decide)
       rw [if_neg (by simp [hin])] at hF
       exact ⟨by simp [Cf.sigsOk, ← hF], hes'⟩
     · have hin : x ∉ seen := fun hin => h2 (by rw [if_pos hin]; decide)
       rw [if_pos ⟨hb, hin⟩] at hF
       have hn := nx (fun r => sgrun c.Jts r (x :: seen) = sgrun c.Jts c.Sigs []) hF
       refine ⟨⟨x :: seen, f', hm', fun z => ?_, hes', hn.1⟩, hn.2⟩
       by_cases hz : z = x
       · subst hz; rw [hfx, if_neg hin]; simp; rfl
       · rw [hf' z hz, hf]; simp [hz]
 · have hF := hr.done (by simp) hge
   rw [sgrun] at hF
   refine (h s).sigs.lenK ⟨?_, hes⟩
   rw [Cf.sigsOk, ← hF, List.length_map, Bool.true_and]
   congr 4; simp; omega
theorem plan_crossings_ok : Pure Try.prog n_conf_plan_crossings [cfA c0 c1 c2 c3 c4 c] σ (.a (bA c.xsOk)) := by
 have hl := (h σ).xs.size
 rw [List.length_map] at hl
 refine .of (W_conf_plan_crossings _ _ _ _ _ _ _ _ _ σ _ ?_) (flat_b _)
 refine newObj_intro fun id σ1 hid _ he hs => (h σ1).xs.lenK ⟨fun n s => ∃ seen f, MapAt Try.prog t_int iA s id f ∧ (∀ z, f z = if z ∈ seen then some (iA 1) else none) ∧ Ext σ s ∧ Rng c.Xs (fun r => xrun c.Secs r seen = xrun c.Secs c.Xs []) n,
   fun n _ => c.Xs.length - n.toNat, ⟨[], _, .new hs, fun z => by simp, he, .start rfl⟩, ?_⟩
 rintro n s ⟨seen, f, hm, hf, hes, hr⟩
 refine bcd (fun hlt => ?_) (fun hge => ?_)
 · obtain ⟨j, x, rfl, hx, hj, hF, nx⟩ := hr.step (by simp) hl hlt
   refine (h s).xs.load (map_get hx) c_int rfl ⟨x, rfl, (plan_section_ok (h s) x).use (sec_ex _ ?_)⟩
   rw [xrun] at hF
   have key : (f x).getD (iA 0) = iA (if x ∈ seen then 1 else 0) := by
     rw [hf]; split <;> rfl
   refine hm.lookI keysI x key (hm.put keysI x fun s' f' hm' hf' hfx hs' hne => ?_)
   have hes' : Ext σ s' := fun i hi => by
     rw [hs' i (fun e => hi (by rw [e]; exact hid))]; exact hes i hi
   refine bcnot (fun hb => ?_) (fun hb => ?_)
   · cases hg : geti c.Secs x with
     | some y => rw [hg] at hb; cases hb
     | none =>
       rw [hg] at hF
       exact ⟨by simp [Cf.xsOk, ← hF], hes'⟩
   · obtain ⟨y, hg⟩ := Option.isSome_iff_exists.1 hb
     rw [hg] at hF
     simp only [hg, Option.getD_some] at hF ⊢
     refine bcn (fun h3 => ?_) (fun h3 => ?_)
     · rw [if_neg (by simp [h3])] at hF
       exact ⟨by simp [Cf.xsOk, ← hF], hes'⟩
     refine hm'.lookI keysI x (by rw [hfx]; rfl) (bcd (fun h2 => ?_) (fun h2 => ?_))
     · have hin : x ∈ seen := by
         by_cases hin : x ∈ seen
         · exact hin
         · rw [if_neg hin] at h2; exact absurd h2 (by decide)
       rw [if_neg (by simp [hin])] at hF
       exact ⟨by simp [Cf.xsOk, ← hF], hes'⟩
     · have hin : x ∉ seen := fun hin => h2 (by rw [if_pos hin]; decide)
       rw [if_pos ⟨h3, hin⟩] at hF
       have hn := nx (fun r => xrun c.Secs r (x :: seen) = xrun c.Secs c.Xs []) hF
       refine ⟨⟨x :: seen, f', hm', fun z => ?_, hes', hn.1⟩, hn.2⟩
       by_cases hz : z = x
       · subst hz; rw [hfx, if_neg hin]; simp; rfl
       · rw [hf' z hz, hf]; simp [hz]
 · have hF := hr.done (by simp) hge
   rw [xrun] at hF
   refine (h s).xs.lenK ⟨?_, hes⟩
   rw [Cf.xsOk, ← hF, List.length_map, Bool.true_and]
   congr 4; simp; omega
end
end
section
variable {σ : Store}
def SlPost (σ : Store) (t : TypeId) (rows : List (List D)) (r : RV) (σ' : Store) : Prop := σ' = σ ∧ ∃ d, r = .a (.one d) ∧ ∀ s, At Try.prog s t d rows
theorem own_fin {t : TypeId} {d : D} {rows : List (List D)} {s : Store} (h : Own Try.prog σ s t d rows) (hf : ∀ row ∈ rows, ∀ x ∈ row, Flat x) :
   ∃ r' σ', Ret Try.prog σ s (.a (.one d)) σ' r' ∧ SlPost σ t rows r' σ' := by
 obtain ⟨d', h1, h2⟩ := ret_slice h.at_ h.ext h.new hf
 exact ⟨.a (.one d'), σ, .pure h.ext h1, rfl, d', rfl, h2⟩
theorem flatNd (l : List Nd) : ∀ row ∈ l.map Nd.enc, ∀ x ∈ row, Flat x := by
 intro row hrow x hx
 obtain ⟨w, _, rfl⟩ := List.mem_map.1 hrow
 simp [Nd.enc] at hx
 rcases hx with rfl | rfl <;> exact .int _ _
theorem flatI (l : List Int) : ∀ row ∈ l.map Go.Fw.encI, ∀ x ∈ row, Flat x := by
 intro row hrow x hx
 obtain ⟨w, _, rfl⟩ := List.mem_map.1 hrow
 simp [Go.Fw.encI] at hx
 subst hx; exact .int _ _
theorem box_store {s : Store} {id : Nat} {t : TypeId} {x y : D} {K : Store → Prop} (hs : s id = .live t [[x]]) (hK : ∀ s', s' id = .live t [[y]] → (∀ i, i ≠ id → s' i = s i) → K s') : storeEl [y] s (.osl id 0 1) 0 0 K :=
 ⟨id, 0, 1, t, [[x]], [x], rfl, by omega, hs, rfl, by simp, hK _ (Store.set_same _ _ _) fun i hi => Store.set_ne _ _ hi⟩
section
variable {c0 c1 c2 c3 c4 : D} {c : Cf} (h : ∀ s, CfAt s c0 c1 c2 c3 c4 c)
include h
theorem plan_flank_ok (a : Int) {d : D} {path : List St} (hp : ∀ s, At Try.prog s t_Step d (path.map St.enc)) (hpl : path.length ≤ 2 ^ 20) :
   DCalls Try.prog n_conf_plan_flank [cfA c0 c1 c2 c3 c4 c, iA a, .one d] σ (SlPost σ t_Need ((c.flank a path).map Nd.enc)) := by
 have hl := (hp σ).size
 rw [List.length_map] at hl
 refine (W_conf_plan_flank _ _ _ _ _ _ _ _ _ a d σ _ ?_).ret (Q := fun r s => ∃ r' σ', Ret Try.prog σ s r σ' r' ∧ SlPost σ t_Need ((c.flank a path).map Nd.enc) r' σ') (fun r s h => h)
 refine (hp σ).lenK ⟨fun d n s => ∃ out : List Nd, Own Try.prog σ s t_Need d (out.map Nd.enc) ∧ out.length ≤ 4 * n.toNat ∧ Rng path (fun r => flankRun c a path r out = c.flank a path) n, fun _ n _ => path.length - n.toNat,
   ⟨[], .nil _ (.refl _), by simp, .start rfl⟩, ?_⟩
 rintro d1 n s ⟨out, ho, hol, hr⟩
 refine bcd (fun hlt => ?_) (fun hge => ?_)
 · obtain ⟨j, x, rfl, hx, hj, hF, nx⟩ := hr.step (by simp) hl hlt
   refine (hp s).load (map_get hx) c_Step rfl ⟨x.Sec, x.In, x.Out, rfl, (plan_section_ok (h s) x.Sec).use (sec_ex _ ?_)⟩
   rw [flankRun] at hF
   refine bcnot (fun hb => ?_) (fun hb => ?_)
   · cases hg : geti c.Secs x.Sec with
     | some y => rw [hg] at hb; cases hb
     | none =>
       rw [hg] at hF
       have hn := nx (fun r => flankRun c a path r out = c.flank a path) hF
       exact ⟨⟨out, ho, by rw [w64_succ (by omega)]; omega, hn.1⟩, hn.2⟩
   · obtain ⟨y, hg⟩ := Option.isSome_iff_exists.1 hb
     rw [hg] at hF
     simp only [hg, Option.getD_some] at hF ⊢
     refine (topo_Ends_ok _).use ⟨_, rfl, ?_⟩
     have hne := nends_le y.Kind
     refine ⟨fun d m s' => ∃ out' : List Nd, Own Try.prog σ s' t_Need d (out'.map Nd.enc) ∧ 0 ≤ m ∧ m ≤ nends y.Kind ∧ out'.length ≤ 4 * j + m.toNat ∧ flankEnds c a path x (nends y.Kind - m).toNat m out' = flankEnds c a path x (nends y.Kind).toNat 0 out,
       fun _ m _ => (nends y.Kind - m).toNat, ⟨out, ho, by omega, hne.1, by simp at hol ⊢; omega, by rw [Int.sub_zero]⟩, ?_⟩
     rintro d2 m s' ⟨out', ho', hm0, hm1, hol', hE⟩
     refine bcd (fun hlt' => ?_) (fun hge' => ?_)
     · have hw : w64 (m + 1) = m + 1 := w64_id (by omega) (by omega)
       have hk : (nends y.Kind - m).toNat = (nends y.Kind - (m + 1)).toNat + 1 := by omega
       rw [hk, flankEnds] at hE
       have leaf : ∀ (out2 : List Nd) (d3 : D) (s2 : Store), flankStep c a path x out' m = out2 → Own Try.prog σ s2 t_Need d3 (out2.map Nd.enc) →
           (∃ out' : List Nd, Own Try.prog σ s2 t_Need d3 (out'.map Nd.enc) ∧ 0 ≤ w64 (m + 1) ∧ w64 (m + 1) ≤ nends y.Kind ∧ out'.length ≤ 4 * j + (w64 (m + 1)).toNat ∧ flankEnds c a path x (nends y.Kind - w64 (m + 1)).toNat (w64 (m + 1)) out' = flankEnds c a path x (nends y.Kind).toNat 0 out) ∧
           (nends y.Kind - w64 (m + 1)).toNat < (nends y.Kind - m).toNat := by
         intro out2 d3 s2 h1 h2
         have hlen := (flankStep_len c a path x out' m).2
         rw [hw]
         refine ⟨⟨out2, h2, by omega, by omega, by rw [← h1]; omega, by rw [← h1]; exact hE⟩, by omega⟩
       intro R hR
       refine bce (fun h1 => ⟨trivial, leaf out' d2 s' (by rw [flankStep, if_pos (.inl h1)]) ho'⟩) (fun h1 => bce (fun h2 => ⟨trivial, leaf out' d2 s' (by rw [flankStep, if_pos (.inr h2)]) ho'⟩) (fun h2 => ⟨trivial, hR s' ?_⟩))
       have hst : flankStep c a path x out' m = match nxt c.Jts x.Sec m with
         | none => out'
         | some (q, f) => match geti c.Secs q with
           | none => out'
           | some y => if y.Kind = 1 ∧ (1 ≤ f ∧ f ≤ 2) ∧ q ≠ a ∧ hasSec path q = false ∧ (out'.any fun n => n.Sec == q) = false then out' ++ [⟨q, 3 - f⟩] else out' := by
         rw [flankStep, if_neg (by rintro (e | e); exact h1 e; exact h2 e)] <;> rfl
       refine (topo_Next_ok x.Sec m (h s').jts).use (opt2_ex _ ?_)
       generalize nxt c.Jts x.Sec m = o at hst
       refine newObj_intro fun id s2 hid _ he hs2 => box_store hs2 fun s3 hs3 hs3' => ?_
       have he3 : Ext s' s3 := fun i hi => by
         rw [hs3' i (fun e => hi (by rw [e]; exact hid))]; exact he i hi
       have ho3 := ho'.ext' he3
       refine ⟨_, box_row hs3, _, rfl, (plan_section_ok (h s3) _).use (sec_ex _ ?_)⟩
       intro R1 hR1
       refine bcnot (fun hb1 => ?_) (fun hb1 => ?_)
       · cases o with
         | some p => cases hb1
         | none => exact ⟨trivial, leaf out' d2 s3 hst ho3⟩
       obtain ⟨⟨q, f⟩, rfl⟩ := Option.isSome_iff_exists.1 hb1
       simp only [Option.getD_some] at hst hR1 hs3 ⊢
       refine bcnot (fun hb2 => ?_) (fun hb2 => ?_)
       · cases hg2 : geti c.Secs q with
         | some p => rw [hg2] at hb2; cases hb2
         | none => rw [hg2] at hst; exact ⟨trivial, leaf out' d2 s3 hst ho3⟩
       obtain ⟨y2, hg2⟩ := Option.isSome_iff_exists.1 hb2
       rw [hg2] at hst
       simp only [hg2, Option.getD_some] at hst ⊢
       have no : ¬ (y2.Kind = 1 ∧ (1 ≤ f ∧ f ≤ 2) ∧ q ≠ a ∧ hasSec path q = false ∧ (out'.any fun n => n.Sec == q) = false) → flankStep c a path x out' m = out' := fun hn => by rw [hst, if_neg hn]
       refine bcn (fun h3 => ⟨trivial, leaf out' d2 s3 (no fun h => h3 h.1) ho3⟩) (fun h3 => ?_)
       refine bcd (fun h4 => ⟨trivial, leaf out' d2 s3 (no fun h => by omega) ho3⟩) (fun h4 => ?_)
       refine bcd (fun h5 => ⟨trivial, leaf out' d2 s3 (no fun h => by omega) ho3⟩) (fun h5 => ?_)
       refine ⟨_, box_row hs3, q, rfl, bce (fun h6 => ⟨trivial, leaf out' d2 s3 (no fun h => h.2.2.1 h6) ho3⟩) (fun h6 => ?_)⟩
       refine ⟨_, box_row hs3, q, rfl, (conf_has_ok q (hp s3)).use ⟨_, rfl, bc (fun h7 => ⟨trivial, leaf out' d2 s3 (no fun h => by rw [h.2.2.2.1] at h7; cases h7) ho3⟩) (fun h7 => ?_)⟩⟩
       refine (hasNeed_ok ho3.at_ hs3).use ⟨_, rfl, bc (fun h8 => ⟨trivial, leaf out' d2 s3 (no fun h => by rw [h.2.2.2.2] at h8; cases h8) ho3⟩) (fun h8 => ⟨trivial, hR1 s3 ?_⟩)⟩
       refine ⟨_, box_row hs3, q, rfl, newObj_intro fun id1 s4 hid1 _ he4 hs4 => ?_⟩
       have hw2 : w64 (3 - f) = 3 - f := w64_id (by omega) (by omega)
       have ho4 := ho3.ext' he4
       refine ho4.append (At.fresh hs4 (by simp) rfl) (by simp; omega) (by simp; omega) fun d4 s5 ho5 _ _ => ⟨trivial, leaf (out' ++ [⟨q, 3 - f⟩]) d4 s5 (by rw [hst, if_pos ⟨h3, ⟨by omega, by omega⟩, h6, h7, h8⟩]) ?_⟩
       rw [hw2] at ho5
       rw [List.map_append]
       exact ho5
     · have hz : (nends y.Kind - m).toNat = 0 := by omega
       rw [hz, flankEnds] at hE
       rw [← hE] at hF
       have hn := nx (fun r => flankRun c a path r out' = c.flank a path) hF
       exact ⟨⟨out', ho', by rw [w64_succ (by omega)]; omega, hn.1⟩, hn.2⟩
 · have hF := hr.done (by simp) hge
   rw [flankRun] at hF
   rw [← hF]
   exact own_fin ho (flatNd _)
theorem plan_overlap_ok (r : Rt) {d1 d2 d3 : D} (hp : ∀ s, At Try.prog s t_Step d1 (r.Path.map St.enc)) :
   DCalls Try.prog n_conf_plan_overlap [cfA c0 c1 c2 c3 c4 c, rtA d1 d2 d3 r] σ (SlPost σ t_int ((c.overlap r).map Go.Fw.encI)) := by
 refine (W_conf_plan_overlap _ _ _ _ _ _ _ _ _ _ _ d1 d2 d3 _ σ _ ?_).ret (Q := fun r' s => ∃ r'' σ', Ret Try.prog σ s r' σ' r'' ∧ SlPost σ t_int ((c.overlap r).map Go.Fw.encI) r'' σ') (fun r s h => h)
 refine (plan_signal_ok (h σ) _).use (sg_ex _ ?_)
 intro R hR
 have nil : c.overlap r = [] → ∃ r'' σ', Ret Try.prog σ σ (.a (.one .nils)) σ' r'' ∧ SlPost σ t_int ((c.overlap r).map Go.Fw.encI) r'' σ' := fun e => by
   rw [e]; exact own_fin (.nil _ (.refl _)) (flatI _)
 refine bc (fun h1 => nil (by rw [Cf.overlap, if_pos h1])) (fun h1 => bcnot (fun h2 => nil ?_) (fun h2 => ⟨rfl, hR σ ?_⟩))
 · rw [Cf.overlap, if_neg (by rw [h1]; simp)]
   cases hg : geti c.Sigs r.Exit with
   | none => rfl
   | some x => rw [hg] at h2; cases h2
 obtain ⟨x, hg⟩ := Option.isSome_iff_exists.1 h2
 simp only [hg, Option.getD_some] at hR ⊢
 have hov : c.overlap r = match nxt c.Jts x.Sec x.End_ with
   | none => []
   | some (q, _) => match geti c.Secs q with
     | none => []
     | some y => if y.Line = 0 ∧ hasSec r.Path q = false ∧ q ≠ c.approach r then [q] else [] := by
   rw [Cf.overlap, if_neg (by rw [h1]; simp), hg] <;> rfl
 refine (topo_Next_ok _ _ (h σ).jts).use (opt2_ex _ ((plan_section_ok (h σ) _).use (sec_ex _ ?_)))
 generalize nxt c.Jts x.Sec x.End_ = o at hov
 refine bcnot (fun hb1 => nil ?_) (fun hb1 => ?_)
 · cases o with
   | none => exact hov
   | some p => cases hb1
 obtain ⟨⟨q, f⟩, rfl⟩ := Option.isSome_iff_exists.1 hb1
 simp only [Option.getD_some] at hov ⊢
 refine bcnot (fun hb2 => nil ?_) (fun hb2 => ?_)
 · cases hg2 : geti c.Secs q with
   | none => rw [hg2] at hov; exact hov
   | some p => rw [hg2] at hb2; cases hb2
 obtain ⟨y, hg2⟩ := Option.isSome_iff_exists.1 hb2
 simp only [hg2, Option.getD_some] at hov ⊢
 have no : ¬ (y.Line = 0 ∧ hasSec r.Path q = false ∧ q ≠ c.approach r) → c.overlap r = [] := fun hn => by rw [hov, if_neg hn]
 refine bcn (fun h3 => nil (no fun h => h3 h.1)) (fun h3 => (conf_has_ok q (hp σ)).use ⟨_, rfl, bc (fun h4 => nil (no fun h => by rw [h.2.1] at h4; cases h4)) (fun h4 => (plan_approach_ok (h σ) r d1 d2 d3).use ⟨_, rfl, bce (fun h5 => nil (no fun h => h.2.2 h5)) (fun h5 => ?_)⟩)⟩)
 refine newObj_intro fun id s2 hid _ he hs2 => ?_
 rw [hov, if_pos ⟨h3, h4, h5⟩]
 exact own_fin ⟨At.fresh hs2 (by simp) rfl, he, osl_new hid, fun h => h, by intro e; cases e⟩ (flatI _)
end
end
section
variable {σ : Store}
section
variable {c0 c1 c2 c3 c4 : D} {c : Cf} (h : ∀ s, CfAt s c0 c1 c2 c3 c4 c)
include h
theorem plan_path_ok (r : Rt) {d1 d2 d3 : D} (hp : ∀ s, At Try.prog s t_Step d1 (r.Path.map St.enc)) :
   Pure Try.prog n_conf_plan_path [cfA c0 c1 c2 c3 c4 c, rtA d1 d2 d3 r] σ (.a (bA (c.path r))) := by
 have hl := (hp σ).size
 rw [List.length_map] at hl
 refine .of (W_conf_plan_path _ _ _ _ _ _ _ _ _ _ _ d1 d2 d3 _ σ _ ?_) (flat_b _)
 refine (plan_signal_ok (h σ) _).use (sg_ex _ ((plan_signal_ok (h σ) _).use (sg_ex _ ?_)))
 intro R hR
 refine bcnot (fun h1 => ?_) (fun h1 => ?_)
 · cases hg : geti c.Sigs r.Entry with
   | some x => rw [hg] at h1; cases h1
   | none => exact ⟨by rw [Cf.path, hg], .refl _⟩
 obtain ⟨a, hg⟩ := Option.isSome_iff_exists.1 h1
 have hpath : c.path r = ((decide (r.Exit = -1) || (geti c.Sigs r.Exit).isSome) && decide (1 ≤ r.Path.length ∧ r.Path.length ≤ 8) && prunA c r (geti c.Sigs r.Exit) r.Path a [a.Sec]) := by rw [Cf.path, hg]
 rw [hg, Option.getD_some] at hR
 generalize hex : geti c.Sigs r.Exit = ex at hpath hR
 have hlen : decide ((1 : Int) ≤ ((r.Path.map St.enc).length : Int) ∧ ((r.Path.map St.enc).length : Int) ≤ 8) = decide (1 ≤ r.Path.length ∧ r.Path.length ≤ 8) := by
   rw [List.length_map]; congr 1; apply propext; omega
 have hgo : decide (1 ≤ r.Path.length ∧ r.Path.length ≤ 8) = true → (decide (r.Exit = -1) || ex.isSome) = true → R σ := by
   intro hlen2 hexok
   rw [hlen2, hexok] at hpath
   simp only [Bool.true_and] at hpath
   refine hR σ (newObj_intro fun id s1 hid _ he1 hs1 => (MapAt.new hs1).put keysI a.Sec fun s2 f2 hm2 hf2 hfx2 hs2 hne2 => ?_)
   have he2 : Ext σ s2 := fun i hi => by
     rw [hs2 i (fun e => hi (by rw [e]; exact hid))]; exact he1 i hi
   refine (hp s2).lenK ⟨fun m e n s => ∃ seen f, MapAt Try.prog t_int iA s id f ∧ (∀ z, f z = if z ∈ seen then some (iA 1) else none) ∧ Ext σ s ∧ Rng r.Path (fun q => prunA c r ex q ⟨m, e⟩ seen = c.path r) n, fun _ _ n _ => r.Path.length - n.toNat,
     ⟨[a.Sec], f2, hm2, fun z => ?_, he2, .start hpath.symm⟩, ?_⟩
   · by_cases hz : z = a.Sec
     · subst hz; rw [hfx2]; simp
     · rw [hf2 z hz]; simp [hz]
   rintro m e n s ⟨seen, f, hm, hf, hes, hr⟩
   refine bcd (fun hlt => ?_) (fun hge => ?_)
   · obtain ⟨j, x, rfl, hx, hj, hF, nx⟩ := hr.step (by simp) hl hlt
     intro R1 hR1
     refine (hp s).load (map_get hx) c_Step rfl ⟨x.Sec, x.In, x.Out, rfl, (topo_Next_ok m e (h s).jts).use (opt2_ex _ ((plan_section_ok (h s) _).use (sec_ex _ ((topo_Pos_ok _ _ _).use (opt1_ex _ ?_)))))⟩
     rw [prunA] at hF
     have bad : pstep c r ex ⟨m, e⟩ x (r.Path.drop (j + 1)).isEmpty seen = false → ∀ s', Ext σ s' → (RV.a (.one (.bool false)) = .a (bA (c.path r)) ∧ Ext σ s') := fun hb s' he' => by
       rw [hb] at hF
       exact ⟨by rw [← hF]; rfl, he'⟩
     have good : pstep c r ex ⟨m, e⟩ x (r.Path.drop (j + 1)).isEmpty seen = true → ∀ s' f', MapAt Try.prog t_int iA s' id f' → (∀ z, f' z = if z ∈ x.Sec :: seen then some (iA 1) else none) → Ext σ s' → R1 x.Sec x.Out s' := fun hb s' f' hm' hf' he' => by
       rw [hb, Bool.true_and] at hF
       have hn := nx (fun q => prunA c r ex q ⟨x.Sec, x.Out⟩ (x.Sec :: seen) = c.path r) hF
       exact hR1 _ _ _ ⟨rfl, ⟨x.Sec :: seen, f', hm', hf', he', hn.1⟩, hn.2⟩
     have hst : pstep c r ex ⟨m, e⟩ x (r.Path.drop (j + 1)).isEmpty seen = match nxt c.Jts m e with
       | none => false
       | some (q, i) => decide (q = x.Sec) && decide (i = x.In) && (wpos (wayL ((geti c.Secs q).getD ⟨0, 0, 0⟩).Kind) x.In x.Out).isSome && decide (q ∉ seen) &&
         (!(c.Sigs.any fun y => decide (⟨x.Sec, x.Out⟩ = y)) || ((r.Path.drop (j + 1)).isEmpty && decide (ex = some ⟨x.Sec, x.Out⟩))) && !(r.Shunt && decide (((geti c.Secs q).getD ⟨0, 0, 0⟩).Line ≠ 0)) := rfl
     generalize nxt c.Jts m e = o at hst
     have key : (f (o.getD (0, 0)).1).getD (iA 0) = iA (if (o.getD (0, 0)).1 ∈ seen then 1 else 0) := by
       rw [hf]; split <;> rfl
     refine hm.lookI keysI _ key (hm.put keysI _ fun s' f' hm' hf' hfx hs' hne => ?_)
     have hes' : Ext σ s' := fun i hi => by
       rw [hs' i (fun e => hi (by rw [e]; exact hid))]; exact hes i hi
     refine (Contains_Signal_ok ⟨x.Sec, x.Out⟩ (h s').sigs).use ⟨_, rfl, ?_⟩
     intro R2 hR2
     have main : R2 ((r.Path.drop (j + 1)).isEmpty && decide (ex = some ⟨x.Sec, x.Out⟩)) s' := by
       refine hR2 _ _ (bcnot (fun k1 => bad ?_ s' hes') (fun k1 => ?_))
       · cases o with
         | none => exact hst
         | some p => cases k1
       obtain ⟨⟨q, i⟩, rfl⟩ := Option.isSome_iff_exists.1 k1
       simp only [Option.getD_some] at hst key hfx hf' ⊢
       refine bcn (fun k2 => bad (by rw [hst]; simp [k2]) s' hes') (fun k2 => ?_)
       refine bcn (fun k3 => bad (by rw [hst]; simp [k3]) s' hes') (fun k3 => ?_)
       refine bcnot (fun k4 => bad (by rw [hst, k4]; simp) s' hes') (fun k4 => ?_)
       refine hm'.lookI keysI q (by rw [hfx]; rfl) (bcd (fun k5 => ?_) (fun k5 => ?_))
       · have hin : q ∈ seen := by
           by_cases hin : q ∈ seen
           · exact hin
           · rw [if_neg hin] at k5; exact absurd k5 (by decide)
         exact bad (by rw [hst]; simp [hin]) s' hes'
       have hin : q ∉ seen := fun hin => k5 (by rw [if_pos hin]; decide)
       have hfin : pstep c r ex ⟨m, e⟩ x (r.Path.drop (j + 1)).isEmpty seen = true → R1 x.Sec x.Out s' := fun hb => good hb s' f' hm' (fun z => by
         by_cases hz : z = q
         · subst hz; rw [hfx, if_neg hin, k2]; simp; rfl
         · rw [hf' z hz, hf]; simp [k2 ▸ hz]) hes'
       have hpre : (decide (q = x.Sec) && decide (i = x.In) && (wpos (wayL ((geti c.Secs q).getD ⟨0, 0, 0⟩).Kind) x.In x.Out).isSome && decide (q ∉ seen)) = true := by
         rw [k4]; simp [k2, k3]; rw [← k2]; exact hin
       rw [hpre, Bool.true_and] at hst
       refine bc (fun k6 => bcnot (fun k7 => bad ?_ s' hes') (fun k7 => ?_)) (fun k6 => ?_)
       · rw [hst, k6, k7]; rfl
       · rw [k6, k7] at hst
         refine bc (fun k8 => bcn (fun k9 => bad ?_ s' hes') (fun k9 => ⟨trivial, hfin ?_⟩)) (fun k8 => ⟨trivial, hfin ?_⟩)
         · rw [hst, k8]; simp [k9]
         · rw [hst]; simp [k9]
         · rw [hst, k8]; rfl
       · rw [k6] at hst
         refine bc (fun k8 => bcn (fun k9 => bad ?_ s' hes') (fun k9 => ⟨trivial, hfin ?_⟩)) (fun k8 => ⟨trivial, hfin ?_⟩)
         · rw [hst, k8]; simp [k9]
         · rw [hst]; simp [k9]
         · rw [hst, k8]; rfl
     refine (hp s').lenK ?_
     have hw : w64 (((r.Path.map St.enc).length : Int) - 1) = (r.Path.length : Int) - 1 := by rw [List.length_map, w64_id (by omega) (by omega)]
     rw [hw]
     refine bce (fun q1 => bc (fun q2 => ⟨rfl, ?_⟩) (fun q2 => ⟨rfl, ?_⟩)) (fun q1 => ⟨rfl, ?_⟩)
     · have hemp : (r.Path.drop (j + 1)).isEmpty = true := by rw [drop_end (by omega)]; rfl
       obtain ⟨y, rfl⟩ := Option.isSome_iff_exists.1 q2
       rw [hemp, Bool.true_and] at main
       have hd : decide (some y = some (⟨x.Sec, x.Out⟩ : Sg)) = (x.Sec == y.Sec && x.Out == y.End_) := by
         cases y with
         | mk y1 y2 =>
           rw [Bool.eq_iff_iff]; simp
           exact ⟨fun ⟨a, b⟩ => ⟨a.symm, b.symm⟩, fun ⟨a, b⟩ => ⟨a.symm, b.symm⟩⟩
       rw [hd] at main
       exact main
     · have hd : ex = none := by cases ex; rfl; cases q2
       rw [hd] at main
       simpa using main
     · have hemp : (r.Path.drop (j + 1)).isEmpty = false := by
         cases hd : r.Path.drop (j + 1) with
         | nil => rw [List.drop_eq_nil_iff] at hd; omega
         | cons y l => rfl
       rw [hemp, Bool.false_and] at main
       exact main
   · have hF : (match (generalizing := false) ex with | some x => decide ((⟨m, e⟩ : Sg) = x) | none => !(nxt c.Jts m e).isSome) = c.path r := hr.done (by simp) hge
     refine bc (fun q2 => ?_) (fun q2 => ?_)
     · obtain ⟨y, rfl⟩ := Option.isSome_iff_exists.1 q2
       refine ⟨?_, hes⟩
       rw [← hF]
       cases y with
       | mk y1 y2 =>
         congr 4; rw [Bool.eq_iff_iff]; simp
     · have hd : ex = none := by cases ex; rfl; cases q2
       subst hd
       refine (topo_Next_ok m e (h s).jts).use (opt2_ex _ ⟨?_, hes⟩)
       rw [← hF]
 refine bcnot (fun h2 => bcn (fun h3 => ⟨?_, .refl _⟩) (fun h3 => (hp σ).lenK ((conf_between_ok _ _ _).use ⟨_, rfl, bcnot (fun h4 => ⟨?_, .refl _⟩) (fun h4 => ⟨rfl, hgo ?_ ?_⟩)⟩))) (fun h2 => (hp σ).lenK ((conf_between_ok _ _ _).use ⟨_, rfl, bcnot (fun h4 => ⟨?_, .refl _⟩) (fun h4 => ⟨rfl, hgo ?_ ?_⟩)⟩))
 · rw [hpath, h2]; simp [h3]
 · rw [hlen] at h4; rw [hpath, h4]; simp
 · rw [← hlen]; exact h4
 · simp [h3]
 · rw [hlen] at h4; rw [hpath, h4]; simp
 · rw [← hlen]; exact h4
 · simp [h2]
theorem plan_route_ok (r : Rt) {d1 d2 d3 : D} (hp : ∀ s, At Try.prog s t_Step d1 (r.Path.map St.enc)) (hf : ∀ s, At Try.prog s t_Need d2 (r.Flank.map Nd.enc)) (ho : ∀ s, At Try.prog s t_int d3 (r.Overlap.map Go.Fw.encI)) :
   Pure Try.prog n_conf_plan_route [cfA c0 c1 c2 c3 c4 c, rtA d1 d2 d3 r] σ (.a (iA (c.route r))) := by
 refine W_conf_plan_route _ _ _ _ _ _ _ _ _ _ _ d1 d2 d3 _ σ _ ((plan_path_ok h r hp).use ⟨_, rfl, bcnot (fun h1 => ⟨by rw [Cf.route, if_pos h1], rfl⟩) (fun h1 => ?_)⟩)
 have hpl : r.Path.length ≤ 8 := by
   unfold Cf.path at h1
   split at h1
   · cases h1
   · simp at h1; exact h1.1.2.2
 refine (plan_approach_ok (h σ) r d1 d2 d3).use ⟨_, rfl, (plan_flank_ok h _ hp (by omega)).mono ?_⟩
 rintro r1 s1 ⟨rfl, d, rfl, hd⟩
 refine ⟨d, rfl, (Equal_Need_ok (hf _) (hd _)).use ⟨_, rfl, bcnot (fun h2 => ⟨?_, rfl⟩) (fun h2 => (plan_overlap_ok h r hp).mono ?_)⟩⟩
 · rw [Cf.route, if_neg (by rw [h1]; simp), if_pos (of_decide_eq_false h2)]
 rintro r2 s2 ⟨rfl, d', rfl, hd'⟩
 have e2 := of_decide_eq_true h2
 refine ⟨d', rfl, (Equal_int_ok (ho _) (hd' _)).use ⟨_, rfl, bcnot (fun h3 => ⟨?_, rfl⟩) (fun h3 => ⟨?_, rfl⟩)⟩⟩
 · rw [Cf.route, if_neg (by rw [h1]; simp), if_neg (fun hn => hn e2), if_pos (of_decide_eq_false h3)]
 · rw [Cf.route, if_neg (by rw [h1]; simp), if_neg (fun hn => hn e2), if_neg (fun hn => hn (of_decide_eq_true h3))]
theorem conf_Check_ok : Pure Try.prog n_conf_Check [cfA c0 c1 c2 c3 c4 c] σ (.a (iA c.check)) := by
 refine W_conf_Check _ _ _ _ _ _ _ _ _ σ _ ((topo_Check_ok (fun s => (h s).secs) (fun s => (h s).jts)).use ⟨_, rfl, ?_⟩)
 have e6 : (if topoOk c.Secs c.Jts = true then (0 : Int) else 6) ≠ 0 ↔ topoOk c.Secs c.Jts = false := by
   cases topoOk c.Secs c.Jts <;> simp
 refine bcn (fun k1 => ⟨by rw [Cf.check, if_pos (e6.1 k1)], rfl⟩) (fun k1 => (plan_signals_ok h).use ⟨_, rfl, bcnot (fun k2 => ⟨?_, rfl⟩) (fun k2 => (plan_crossings_ok h).use ⟨_, rfl, bcnot (fun k3 => ⟨?_, rfl⟩) (fun k3 => ?_)⟩)⟩)
 all_goals have k1' : ¬ topoOk c.Secs c.Jts = false := fun e => e6.2 e k1
 · rw [Cf.check, if_neg k1', if_pos k2]
 · rw [Cf.check, if_neg k1', if_neg (by rw [k2]; simp), if_pos k3]
 have hck : c.check = if c.Rts.length > 12 then 9 else if c.routes c.Rts ≠ 0 then c.routes c.Rts else if c.timing = true then 0 else 12 := by
   rw [Cf.check, if_neg k1', if_neg (by rw [k2]; simp), if_neg (by rw [k3]; simp)]
 obtain ⟨rows, hat, hlen, hrow⟩ := rts_froz fun s => (h s).rts
 have hl := (hat σ).size
 refine (hat σ).lenK (bcd (fun k4 => ⟨by rw [hck, if_pos (by omega)], rfl⟩) (fun k4 => (hat σ).lenK ?_))
 rw [if_neg (by omega)] at hck
 refine ⟨fun n s => s = σ ∧ Rng c.Rts (fun l => c.routes l = c.routes c.Rts) n, fun n _ => c.Rts.length - n.toNat, ⟨rfl, .start rfl⟩, ?_⟩
 rintro n τ ⟨rfl, hr⟩
 refine bcd (fun hlt => ?_) (fun hge => ?_)
 · obtain ⟨j, x, rfl, hx, hj, hF, nx⟩ := hr.step hlen (by omega) hlt
   obtain ⟨row, hrw⟩ := get_of_lt (l := rows) (j := j) (by omega)
   obtain ⟨d1, d2, d3, rfl, q1, q2, q3⟩ := hrow j row x hrw hx
   refine (hat τ).load hrw c_Route rfl ⟨_, _, d1, d2, d3, _, rfl, (plan_route_ok h x q1 q2 q3).use ⟨_, rfl, ?_⟩⟩
   rw [Cf.routes] at hF
   refine bcn (fun k5 => ⟨?_, rfl⟩) (fun k5 => ?_)
   · rw [if_pos k5] at hF
     rw [hck, ← hF, if_pos k5]
   · rw [if_neg (by simp [k5])] at hF
     exact ⟨rfl, andl rfl (nx _ hF)⟩
 · have hF : 0 = c.routes c.Rts := hr.done hlen hge
   rw [← hF, if_neg (by simp)] at hck
   have hpos : c.timing = (decide (1 ≤ c.Age ∧ c.Age ≤ 8) && decide (0 ≤ c.Brake ∧ c.Brake ≤ 8) && decide (c.Age + c.Brake + 1 ≤ c.Hold ∧ c.Hold ≤ 40) && decide (1 ≤ c.Budget ∧ c.Budget ≤ 1000000)) := rfl
   refine (conf_between_ok _ _ _).use ⟨_, rfl, bcnot (fun k5 => ⟨?_, rfl⟩) (fun k5 => (conf_between_ok _ _ _).use ⟨_, rfl, bcnot (fun k6 => ⟨?_, rfl⟩) (fun k6 => (conf_between_ok _ _ _).use ⟨_, rfl, ?_⟩)⟩)⟩
   · rw [hck, hpos, k5]; simp
   · rw [hck, hpos, k6]; simp
   have a5 := of_decide_eq_true k5
   have a6 := of_decide_eq_true k6
   rw [w64_id (n := c.Age + c.Brake) (by omega) (by omega), w64_id (n := c.Age + c.Brake + 1) (by omega) (by omega)]
   refine bcnot (fun k7 => ⟨?_, rfl⟩) (fun k7 => (conf_between_ok _ _ _).use ⟨_, rfl, bcnot (fun k8 => ⟨?_, rfl⟩) (fun k8 => ⟨?_, rfl⟩)⟩)
   · rw [hck, hpos, k7]; simp
   · rw [hck, hpos, k8]; simp
   · rw [hck, hpos, k5, k6, k7, k8]; rfl
end
end
end Go.Proofs.Ytjdpkjembijbeaa
namespace Go.Fw
section
variable {P : Program} {σ : Store}
theorem u64_id {n : Int} (h1 : 0 ≤ n) (h2 : n ≤ 18446744073709551615) : IntKind.wrap .u64 n = n := by
 simp only [IntKind.wrap, IntKind.signed, IntKind.bits]; simp; omega
theorem and_mask {x : Int} (h1 : 0 ≤ x) (h2 : x < 2 ^ 32) : ((BitVec.toNat ((BitVec.ofInt 64 x) &&& (BitVec.ofInt 64 4294967295)) : Nat) : Int) = x := by
 rw [BitVec.toNat_and, BitVec.toNat_ofInt, BitVec.toNat_ofInt]
 have e1 : (x % ((2 ^ 64 : Nat) : Int)).toNat = x.toNat := by
   rw [Int.emod_eq_of_lt h1 (by omega)]
 have e2 : ((4294967295 : Int) % ((2 ^ 64 : Nat) : Int)).toNat = 2 ^ 32 - 1 := by decide
 rw [e1, e2, Nat.and_two_pow_sub_one_eq_mod, Nat.mod_eq_of_lt (by omega)]
 omega
theorem fdiv_small {x : Int} (h1 : 0 ≤ x) (h2 : x < 2 ^ 32) : Int.fdiv x (2 ^ 32) = 0 := by
 rw [Int.fdiv_eq_ediv_of_nonneg _ (by omega)]; omega
theorem set_set (i : Nat) (a b : SO) : (σ.set i a).set i b = σ.set i b := by
 funext j
 by_cases h : j = i
 · subst h; rw [Store.set_same, Store.set_same]
 · rw [Store.set_ne _ _ h, Store.set_ne _ _ h, Store.set_ne _ _ h]
def RepPost (t : TypeId) (n : Nat) (row : List D) (s : Store) (r : RV) (s' : Store) : Prop :=
 ∃ id, s id = .free ∧ r = .a (.one (.osl id 0 n)) ∧ s' = s.set id (.live t (List.replicate n row))
theorem rep_rows {row z : List D} {m k n : Nat} (h1 : k ≤ m) (h2 : m + k ≤ n) :
   (List.replicate m row ++ List.replicate (n - m) z).take m ++ (List.replicate m row).take k ++ (List.replicate m row ++ List.replicate (n - m) z).drop (m + k) = List.replicate (m + k) row ++ List.replicate (n - (m + k)) z := by
 rw [List.take_left' (by simp), List.take_replicate, Nat.min_eq_left h1, List.replicate_append_replicate, List.drop_append, List.drop_eq_nil_iff.2 (by simp), List.nil_append, List.drop_replicate]
 congr 2; simp; omega
theorem rep_ok {f : FuncId} {t : TypeId} {es bytes : Nat} {z row : List D} {x : D} {n : Nat} {Q : RV → Store → Prop}
   (hmul : ∀ s (a b : Int), 0 ≤ a → 0 ≤ b → a * b < 2 ^ 32 → a < 2 ^ 32 → b < 2 ^ 32 → Pure P f [.one (.int .u64 a), .one (.int .u64 b)] s (.tup [.one (.int .u64 0), .one (.int .u64 (a * b))]))
   (hes : P.cellsOf t = es) (hx : At P σ t x [row]) (hn : n ≤ 2 ^ 20) (hb : bytes ≤ 2 ^ 20) (hQ : ∀ r s, RepPost t n row σ r s → Q r s) :
   ∀ R : Store → Prop, (∀ σ' : Store, (∃ len : Nat, (Len x len) ∧ DCalls P f [.one (.int .u64 (IntKind.wrap .u64 (len : Int))), .one (.int .u64 (IntKind.wrap .u64 (n : Int)))] σ' (fun (r : RV) => fun (σ'1 : Store) => ∃ n : Int, ∃ n1 : Int, (r = (.tup [.one (.int .u64 n), .one (.int .u64 n1)] : RV)) ∧ ∀ R1 : Store → Prop, (∀ σ'2 : Store, (((0 : Int) ≤ (w64 n1)) ∧ ((w64 n1) ≤ (w64 n1)) ∧ (((bytes : Int) * (w64 n1)) ≤ (2 ^ 48)) ∧ Fw.newObj σ'2 (.live t (List.replicate (Int.toNat (w64 n1)) z)) (fun (id : Nat) => fun (σ'3 : Store) => copyTo P σ'3 t (.osl id 0 (Int.toNat (w64 n1))) x (fun (n2 : Int) => fun (σ'4 : Store) => ∃ I : Int → Store → Prop, ∃ μ : Int → Store → Nat, (I n2 σ'4) ∧ ∀ n3 : Int, ∀ σ'5 : Store, (I n3 σ'5) → ∃ len1 : Nat, (Len (.osl id 0 (Int.toNat (w64 n1))) len1) ∧ bcase (decide (n3 < (len1 : Int))) (∃ len2 : Nat, (IdxN P σ'5 (.osl id 0 (Int.toNat (w64 n1))) es len2) ∧ ((0 : Int) ≤ n3) ∧ (n3 ≤ (len2 : Int)) ∧ ∃ len3 : Nat, (IdxN P σ'5 (.osl id 0 (Int.toNat (w64 n1))) es len3) ∧ ((0 : Int) ≤ 0) ∧ ((0 : Int) ≤ n3) ∧ (n3 ≤ (len3 : Int)) ∧ copyTo P σ'5 t (.osl id (0 + (Int.toNat n3)) (len2 - (Int.toNat n3))) (.osl id 0 ((Int.toNat n3) - 0)) (fun (n4 : Int) => fun (σ'6 : Store) => (I (w64 (n3 + n4)) σ'6) ∧ ((μ (w64 (n3 + n4)) σ'6) < (μ n3 σ'5)))) (Q (.a (.one (.osl id 0 (Int.toNat (w64 n1))))) σ'5)))) → R1 σ'2) → bcase (decide (n > 0)) False (bcase (decide (n1 > 9223372036854775807)) False (R1 σ'1)))) → R σ') → bcase (decide ((n : Int) < 0)) False (R σ) := by
 intro R hR
 refine bcd (fun h => absurd h (by omega)) (fun _ => hR σ (hx.lenK ?_))
 rw [u64_id (by simp) (by simp), u64_id (by omega) (by omega)]
 have hw : w64 (((1 : Nat) : Int) * n) = n := by rw [w64_id (by omega) (by omega)]; omega
 refine (hmul σ _ _ (by simp) (by omega) (by simp; omega) (by simp) (by omega)).use ⟨0, _, rfl, fun R1 hR1 => bcd (fun h => absurd h (by decide)) (fun _ => bcd (fun h => absurd h (by simp; omega)) (fun _ => hR1 σ ?_))⟩
 show 0 ≤ w64 (((1 : Nat) : Int) * n) ∧ _
 simp only [List.length_singleton, hw, Int.toNat_natCast]
 refine ⟨by omega, Int.le_refl _, ?_, fun id hid => ?_⟩
 · have : bytes * n ≤ 2 ^ 20 * 2 ^ 20 := Nat.mul_le_mul hb hn
   have h2 : ((bytes * n : Nat) : Int) ≤ 2 ^ 48 := by omega
   rw [Int.natCast_mul] at h2; exact h2
 have hidx : ∀ (s : Store) (rows : List (List D)), s id = .live t rows → rows.length = n → IdxN P s (.osl id 0 n) es n := fun s rows h1 h2 => .inl ⟨by omega, t, rows, h1, hes⟩
 have hxr : Rows P (σ.set id (.live t (List.replicate n z))) t x [row] := (hx.ext (Ext.new hid _)).rows
 have hdr : ∀ (s : Store) (rows : List (List D)) (i len : Nat), s id = .live t rows → i + len ≤ rows.length → Rows P s t (.osl id i len) ((rows.drop i).take len) := fun s rows i len h1 h2 => ⟨t, rows, h1, rfl, h2, rfl⟩
 refine ⟨_, _, hdr _ _ 0 n (Store.set_same _ _ _) (by simp), hxr, ?_⟩
 have hmin : min [row].length ((List.replicate n z).drop 0 |>.take n).length = min 1 n := by simp
 have hminI : min (([row].length : Nat) : Int) ((((List.replicate n z).drop 0 |>.take n).length : Nat) : Int) = ((min 1 n : Nat) : Int) := by rw [← hmin]; omega
 rw [hmin, hminI]
 have hloop : ∀ (m : Nat) (s : Store), m ≤ n → (0 < n → 0 < m) → s = σ.set id (.live t (List.replicate m row ++ List.replicate (n - m) z)) → ∃ I : Int → Store → Prop, ∃ μ : Int → Store → Nat, (I m s) ∧ ∀ n3 : Int, ∀ σ'5 : Store, (I n3 σ'5) → ∃ len1 : Nat, (Len (.osl id 0 n) len1) ∧ bcase (decide (n3 < (len1 : Int))) (∃ len2 : Nat, (IdxN P σ'5 (.osl id 0 n) es len2) ∧ ((0 : Int) ≤ n3) ∧ (n3 ≤ (len2 : Int)) ∧ ∃ len3 : Nat, (IdxN P σ'5 (.osl id 0 n) es len3) ∧ ((0 : Int) ≤ 0) ∧ ((0 : Int) ≤ n3) ∧ (n3 ≤ (len3 : Int)) ∧ copyTo P σ'5 t (.osl id (0 + (Int.toNat n3)) (len2 - (Int.toNat n3))) (.osl id 0 ((Int.toNat n3) - 0)) (fun (n4 : Int) => fun (σ'6 : Store) => (I (w64 (n3 + n4)) σ'6) ∧ ((μ (w64 (n3 + n4)) σ'6) < (μ n3 σ'5)))) (Q (.a (.one (.osl id 0 n))) σ'5) := by
   intro m0 s0 hm0 hm0' hs0
   refine ⟨fun n3 s => ∃ m : Nat, n3 = m ∧ m ≤ n ∧ (0 < n → 0 < m) ∧ s = σ.set id (.live t (List.replicate m row ++ List.replicate (n - m) z)), fun n3 _ => n - n3.toNat, ⟨m0, rfl, hm0, hm0', hs0⟩, ?_⟩
   rintro _ s ⟨m, rfl, hm, hm', rfl⟩
   refine ⟨n, rfl, bcd (fun hlt => ?_) (fun hge => ?_)⟩
   · have hl : (List.replicate m row ++ List.replicate (n - m) z).length = n := by simp; omega
     refine ⟨n, hidx _ _ (Store.set_same _ _ _) hl, by omega, by omega, n, hidx _ _ (Store.set_same _ _ _) hl, by omega, by omega, by omega, ?_⟩
     rw [Int.toNat_natCast, Nat.zero_add, Nat.sub_zero]
     refine ⟨_, _, hdr _ _ m (n - m) (Store.set_same _ _ _) (by rw [hl]; omega), hdr _ _ 0 m (Store.set_same _ _ _) (by rw [hl]; omega), .inr ⟨id, m, n - m, t, _, rfl, Store.set_same _ _ _, ?_⟩⟩
     have e1 : ((List.replicate m row ++ List.replicate (n - m) z).drop 0).take m = List.replicate m row := by
       rw [List.drop_zero, List.take_left' (by simp)]
     have e2 : min (((List.replicate m row ++ List.replicate (n - m) z).drop 0).take m).length (((List.replicate m row ++ List.replicate (n - m) z).drop m).take (n - m)).length = min m (n - m) := by
       rw [e1, List.length_take, List.length_drop, hl]; simp
     have e3 : min (((((List.replicate m row ++ List.replicate (n - m) z).drop 0).take m).length : Nat) : Int) (((((List.replicate m row ++ List.replicate (n - m) z).drop m).take (n - m)).length : Nat) : Int) = ((min m (n - m) : Nat) : Int) := by
       rw [← e2]; omega
     rw [e3, e2, e1, rep_rows (by omega) (by omega), set_set]
     have hk : 0 < min m (n - m) := by have := hm' (by omega); omega
     have hw2 : w64 ((m : Int) + ((min m (n - m) : Nat) : Int)) = ((m + min m (n - m) : Nat) : Int) := by rw [w64_id (by omega) (by omega)]; omega
     show (∃ m' : Nat, w64 ((m : Int) + ((min m (n - m) : Nat) : Int)) = m' ∧ _) ∧ _
     rw [hw2]
     refine ⟨⟨m + min m (n - m), rfl, by omega, fun _ => by omega, rfl⟩, ?_⟩
     show n - ((m + min m (n - m) : Nat) : Int).toNat < n - ((m : Nat) : Int).toNat
     omega
   · have e : m = n := by omega
     subst e
     refine hQ _ _ ⟨id, hid, rfl, ?_⟩
     rw [Nat.sub_self, List.replicate_zero, List.append_nil]
 by_cases h0 : n = 0
 · subst h0
   exact .inl ⟨rfl, hloop 0 _ (by omega) (by omega) rfl⟩
 · refine .inr ⟨id, 0, n, t, _, rfl, Store.set_same _ _ _, ?_⟩
   have e1 : min 1 n = 1 := by omega
   rw [e1, set_set]
   refine hloop 1 _ (by omega) (by omega) ?_
   congr 2
   rw [List.drop_replicate]; simp
end
end Go.Fw
namespace Go.Proofs.Ytjdpkjembijbeaa
open Go.Fw Go.Proofs Go.RowKit
section
variable {σ : Store}
theorem Mul64_ok (x y : Int) (hx0 : 0 ≤ x) (hy0 : 0 ≤ y) (hxy : x * y < 2 ^ 32) (hx : x < 2 ^ 32) (hy : y < 2 ^ 32) : Pure Try.prog n_math_bits_Mul64 [.one (.int .u64 x), .one (.int .u64 y)] σ (.tup [.one (.int .u64 0), .one (.int .u64 (x * y))]) := by
 have h0 : 0 ≤ x * y := Int.mul_nonneg hx0 hy0
 refine W_math_bits_Mul64 x y σ _ ?_
 unfold V_math_bits_Mul64
 have z0 : IntKind.wrap .u64 0 = 0 := u64_id (by omega) (by omega)
 have m0 := and_mask (x := 0) (by omega) (by omega)
 have f0 := fdiv_small (x := 0) (by omega) (by omega)
 rw [and_mask hx0 hx, and_mask hy0 hy, fdiv_small hx0 hx, fdiv_small hy0 hy, u64_id (n := x) hx0 (by omega), u64_id (n := y) hy0 (by omega), u64_id (n := x * y) h0 (by omega), fdiv_small h0 hxy]
 simp only [Int.zero_mul, Int.mul_zero, Int.add_zero, Int.zero_add, z0, m0, f0]
 exact ⟨trivial, trivial⟩
theorem Mul_ok (s : Store) (x y : Int) (hx0 : 0 ≤ x) (hy0 : 0 ≤ y) (hxy : x * y < 2 ^ 32) (hx : x < 2 ^ 32) (hy : y < 2 ^ 32) : Pure Try.prog n_math_bits_Mul [.one (.int .u64 x), .one (.int .u64 y)] s (.tup [.one (.int .u64 0), .one (.int .u64 (x * y))]) :=
 W_math_bits_Mul x y s _ ((Mul64_ok x y hx0 hy0 hxy hx hy).use ⟨_, _, rfl, rfl, rfl⟩)
theorem Repeat_int_ok {x : D} {row : List D} {n : Nat} (hx : At Try.prog σ t_int x [row]) (hn : n ≤ 2 ^ 20) : DCalls Try.prog n_slices_Repeat_int [.one x, iA n] σ (RepPost t_int n row σ) :=
 W_slices_Repeat_int x n σ _ (rep_ok (bytes := 8) Mul_ok c_int hx hn (by omega) fun _ _ h => h)
theorem Repeat_Mover_ok {x : D} {row : List D} {n : Nat} (hx : At Try.prog σ t_Mover x [row]) (hn : n ≤ 2 ^ 20) : DCalls Try.prog n_slices_Repeat_Mover [.one x, iA n] σ (RepPost t_Mover n row σ) :=
 W_slices_Repeat_Mover x n σ _ (rep_ok (bytes := 16) Mul_ok c_Mover hx hn (by omega) fun _ _ h => h)
theorem Start_ok (now : Int) : Pure Try.prog n_mover_Start [iA now] σ (.a (.agg [iD 0, iD now])) := W_mover_Start now σ _ ⟨rfl, rfl⟩
theorem Grow_Mover_ok {n : Nat} (hn : n ≤ 2 ^ 40) : DCalls Try.prog n_slices_Grow_Mover [.one .nils, iA n] σ fun r s => ∃ d, r = .a (.one d) ∧ Own Try.prog σ s t_Mover d [] := by
 refine W_slices_Grow_Mover n σ _ (bcd (fun h => absurd h (by omega)) (fun _ => ⟨0, rfl, ?_⟩))
 have hw : w64 ((n : Int) - w64 (0 - ((0 : Nat) : Int))) = n := by
   have : w64 (0 - ((0 : Nat) : Int)) = 0 := by decide
   rw [this, w64_id (by omega) (by omega)]; omega
 rw [hw]
 refine bcd (fun h => ⟨0, .inr ⟨rfl, .inl rfl⟩, by omega, by omega, by omega, by omega, by omega, bcd (fun h0 => absurd h0 (by omega)) (fun _ => newObj_intro fun id s hid _ he hs => ?_)⟩) (fun h => ⟨_, rfl, .nil _ (.refl _)⟩)
 refine ⟨0, rfl, n, .inl ⟨by simp, _, _, hs, c_Mover⟩, by omega, by omega, by omega, _, rfl, ?_⟩
 exact ⟨⟨⟨_, _, hs, rfl, by simp, by simp⟩, by simp, fun es rows e => by cases e⟩, he, osl_new hid, fun h => h, by intro e; cases e⟩
theorem Concat_Mover_ok {d a b : D} {ra rb : List (List D)} (hd : At Try.prog σ t_sl_Mover d [[a], [b]]) (ha : At Try.prog σ t_Mover a ra) (hb : At Try.prog σ t_Mover b rb) (hla : ra.length ≤ 2 ^ 20) (hlb : rb.length ≤ 2 ^ 20) :
   DCalls Try.prog n_slices_Concat_Mover [.one d] σ fun r s => ∃ d, r = .a (.one d) ∧ Own Try.prog σ s t_Mover d (ra ++ rb) := by
 let L : List (D × List (List D)) := [(a, ra), (b, rb)]
 have hL : ∀ p ∈ L, At Try.prog σ t_Mover p.1 p.2 := fun p hp => by
   rcases List.mem_cons.1 hp with rfl | hp
   · exact ha
   · rcases List.mem_cons.1 hp with rfl | hp
     · exact hb
     · cases hp
 have hdL : At Try.prog σ t_sl_Mover d (L.map fun p => [p.1]) := hd
 have hl : L.length < 2 ^ 60 := by show 2 < 2 ^ 60; omega
 refine W_slices_Concat_Mover d σ _ (hdL.lenK ⟨fun m n s => s = σ ∧ 0 ≤ m ∧ Rng L (fun r => m + ((r.map fun p => p.2.length).sum : Nat) = ((ra.length + rb.length : Nat) : Int)) n, fun _ n _ => L.length - n.toNat, ⟨rfl, by omega, .start (by simp [L])⟩, ?_⟩)
 rintro m n s ⟨rfl, hm, hr⟩
 refine bcd (fun hlt => ?_) (fun hge => ?_)
 · obtain ⟨j, x, rfl, hx, hj, hF, nx⟩ := hr.step (by simp) hl hlt
   refine hdL.load (map_get hx) c_sl_Mover rfl ⟨x.1, rfl, (hL x (List.mem_of_getElem? hx)).lenK ?_⟩
   simp only [List.map_cons, List.sum_cons] at hF
   have hw : w64 (m + (x.2.length : Int)) = m + x.2.length := w64_id (by omega) (by omega)
   rw [hw]
   refine bcd (fun h => absurd h (by omega)) (fun _ => ?_)
   have hn := nx (fun r => m + x.2.length + ((r.map fun p => p.2.length).sum : Nat) = ((ra.length + rb.length : Nat) : Int)) (by omega)
   exact ⟨⟨rfl, by omega, hn.1⟩, hn.2⟩
 · have hF := hr.done (by simp) hge
   simp only [List.map_nil, List.sum_nil] at hF
   have hmn : m = ((ra.length + rb.length : Nat) : Int) := by omega
   subst hmn
   refine (Grow_Mover_ok (by omega)).mono ?_
   rintro r s1 ⟨d1, rfl, ho⟩
   refine ⟨d1, rfl, hdL.lenK ⟨fun d2 n s2 => ∃ out, Own Try.prog s s2 t_Mover d2 out ∧ Rng L (fun q => out ++ (q.map fun p => p.2).flatten = ra ++ rb) n, fun _ n _ => L.length - n.toNat, ⟨[], ho, .start (by simp [L])⟩, ?_⟩⟩
   rintro d2 n s2 ⟨out, ho2, hr2⟩
   refine bcd (fun hlt => ?_) (fun hge => ?_)
   · obtain ⟨j, x, rfl, hx, hj, hF2, nx⟩ := hr2.step (by simp) hl hlt
     refine (hdL.ext ho2.ext).load (map_get hx) c_sl_Mover rfl ⟨x.1, rfl, ?_⟩
     have hxa := (hL x (List.mem_of_getElem? hx)).ext ho2.ext
     simp only [List.map_cons, List.flatten_cons] at hF2
     have hlen := congrArg List.length hF2
     simp only [List.length_append] at hlen
     refine ho2.append hxa (by omega) (by omega) fun d3 s3 ho3 _ _ => ?_
     have hn := nx (fun q => out ++ x.2 ++ (q.map fun p => p.2).flatten = ra ++ rb) (by rw [List.append_assoc]; exact hF2)
     exact ⟨⟨_, ho3, hn.1⟩, hn.2⟩
   · have hF2 := hr2.done (by simp) hge
     simp only [List.map_nil, List.flatten_nil, List.append_nil] at hF2
     exact ⟨_, rfl, hF2 ▸ ho2⟩
theorem locks_between_ok (n lo hi : Int) : Pure Try.prog n_locks_between [iA n, iA lo, iA hi] σ (.a (bA (decide (lo ≤ n ∧ n ≤ hi)))) := by
 refine W_locks_between n lo hi σ _ (bcd (fun h => ⟨?_, rfl⟩) (fun h => ⟨?_, rfl⟩)) <;> simp [h]
theorem locks_times_ok {d : D} {l : List Int} (b : Int) (hb : 0 ≤ b ∧ b ≤ 1) (h : At Try.prog σ t_int d (l.map Go.Fw.encI)) : Pure Try.prog n_locks_times [iA b, .one d] σ (.a (bA (l.all fun n => decide (0 ≤ n ∧ n ≤ 4294967295 + b)))) := by
 have hl := h.size
 rw [List.length_map] at hl
 refine W_locks_times b d σ _ (h.lenK ⟨fun n s => s = σ ∧ Rng l (fun r => (r.all fun n => decide (0 ≤ n ∧ n ≤ 4294967295 + b)) = l.all fun n => decide (0 ≤ n ∧ n ≤ 4294967295 + b)) n, fun n _ => l.length - n.toNat, ⟨rfl, .start rfl⟩, ?_⟩)
 rintro n τ ⟨rfl, hr⟩
 refine bcd (fun hlt => ?_) (fun hge => ?_)
 · obtain ⟨j, x, rfl, hx, hj, hF, nx⟩ := hr.step (by simp) hl hlt
   rw [List.all_cons] at hF
   have hw : w64 (4294967295 + b) = 4294967295 + b := w64_id (by omega) (by omega)
   refine h.load (map_get hx) c_int rfl ⟨x, rfl, (locks_between_ok _ _ _).use ⟨_, rfl, ?_⟩⟩
   rw [hw]
   refine bcnot (fun h1 => ?_) (fun h1 => ?_)
   · rw [h1] at hF; exact ⟨by rw [← hF]; rfl, rfl⟩
   · rw [h1, Bool.true_and] at hF; exact andl rfl (nx _ hF)
 · have hF := hr.done (by simp) hge
   exact ⟨by rw [← hF]; rfl, rfl⟩
end
end Go.Proofs.Ytjdpkjembijbeaa
namespace Go.Fw
section
structure Rs where
 State : Int
 Since : Int
 Next : Int
 Mark : Int
 deriving DecidableEq
structure Mv where
 Cmd : Int
 Other : Int
 deriving DecidableEq
structure Ls where
 Ask : Int
 Done : Int
 Grant : Int
 Told : Int
 PAsk : Int
 PDone : Int
 PGrant : Int
 Since : Int
 deriving DecidableEq
structure Co where
 Own : List Int
 Routes : List Rs
 Points : List Mv
 Xs : List Mv
 Lines : List Ls
 Resets : List Int
 Dirty : Bool
 deriving DecidableEq
def Rs.enc (r : Rs) : List D := [iD r.State, iD r.Since, iD r.Next, iD r.Mark]
def Mv.enc (r : Mv) : List D := [iD r.Cmd, iD r.Other]
def Ls.enc (r : Ls) : List D := [iD r.Ask, iD r.Done, iD r.Grant, iD r.Told, iD r.PAsk, iD r.PDone, iD r.PGrant, iD r.Since]
def tm (b n : Int) : Bool := decide (0 ≤ n ∧ n ≤ 4294967295 + b)
def Rs.fits (p : Rs × Rt) : Bool := decide (0 ≤ p.1.State ∧ p.1.State ≤ 5) && decide (0 ≤ p.1.Next ∧ p.1.Next ≤ p.2.Path.length) && (tm 0 p.1.Since && tm 0 p.1.Mark)
def Mv.fits (m : Mv) : Bool := decide (0 ≤ m.Cmd ∧ m.Cmd ≤ 2) && decide (-1 ≤ m.Other ∧ m.Other ≤ 4294967295)
def Ls.fits (l : Ls) : Bool := (tm 0 l.Ask && (tm 0 l.Done && (tm 0 l.Grant && (tm 0 l.Told && (tm 0 l.PAsk && (tm 0 l.PDone && tm 0 l.PGrant)))))) && tm 1 l.Since
def Co.lens (c : Cf) (k : Co) : Bool := decide (k.Own.length = c.Secs.length ∧ k.Points.length = c.Secs.length ∧ k.Resets.length = c.Secs.length ∧ k.Routes.length = c.Rts.length ∧ k.Xs.length = c.Xs.length ∧ k.Lines.length = 4)
def Co.parts (c : Cf) (k : Co) : Bool :=
 (k.Own.all fun o => decide (-2 ≤ o ∧ o ≤ c.Rts.length)) && ((k.Routes.zip c.Rts).all Rs.fits && ((k.Points ++ k.Xs).all Mv.fits && (k.Lines.all Ls.fits && k.Resets.all (tm 1))))
def Co.fits (c : Cf) (k : Co) : Bool := decide (c.check = 0) && (k.lens c && k.parts c)
theorem check_small {c : Cf} (h : c.check = 0) : topoOk c.Secs c.Jts = true ∧ c.Secs.length ≤ 16 ∧ c.Rts.length ≤ 12 ∧ c.Xs.length ≤ 4 ∧ c.Sigs.length ≤ 12 ∧ c.Jts.length ≤ 24 := by
 unfold Cf.check at h
 split at h
 · cases h
 split at h
 · cases h
 split at h
 · cases h
 split at h
 · cases h
 rename_i h1 h2 h3 h4
 simp only [Bool.not_eq_false] at h1 h2 h3
 simp only [Cf.sigsOk, Cf.xsOk, Bool.and_eq_true, decide_eq_true_eq, topoOk] at h1 h2 h3
 exact ⟨by simp only [topoOk, Bool.and_eq_true, decide_eq_true_eq]; exact h1, h1.1.2.1, by omega, h3.2, h2.2, h1.1.2.2⟩
end
end Go.Fw
namespace Go.Proofs.Ytjdpkjembijbeaa
open Go.Fw Go.Proofs Go.RowKit
section
variable {σ : Store}
theorem clone_ok {t : TypeId} {bytes : Nat} {d : D} {rows : List (List D)} {Q : RV → Store → Prop} (h : At Try.prog σ t d rows) (hz : d ≠ .zsl) (hb : bytes * rows.length ≤ 140737488355328)
   (hQ : ∀ d' s, Own Try.prog σ s t d' rows → Q (.a (.one d')) s) :
   ∃ b : Bool, (IsNil .sl d b) ∧ bcase (b != false) (Q (.a (.one .nils)) σ) (Fw.newObj σ (.live t []) (fun (id : Nat) => fun (σ' : Store) => appendTo Try.prog σ' t bytes (.osl id 0 0) d (fun (d : D) => fun (σ'1 : Store) => Q (.a (.one d)) σ'1))) := by
 have new : ∀ b : Bool, b = false → bcase (b != false) (Q (.a (.one .nils)) σ) (Fw.newObj σ (.live t []) (fun (id : Nat) => fun (σ' : Store) => appendTo Try.prog σ' t bytes (.osl id 0 0) d (fun (d : D) => fun (σ'1 : Store) => Q (.a (.one d)) σ'1))) := by
   rintro b rfl
   rw [show (false != false) = false from by decide]
   refine (newObj_intro (K := fun id σ' => appendTo Try.prog σ' t bytes (.osl id 0 0) d fun d σ'1 => Q (.a (.one d)) σ'1) ?_ : Fw.newObj σ (.live t []) _)
   refine fun id s hid _ he hs => ?_
   have ho : Own Try.prog σ s t (.osl id 0 0) [] := ⟨At.fresh hs (by simp) rfl, he, osl_new hid, fun h => h, by intro e; cases e⟩
   exact ho.append (h.ext he) (by simpa using hb) (by have := h.size; simpa using this) fun d' s' ho' _ _ => hQ _ _ (by simpa using ho')
 have hr := h.rows
 cases d <;> simp only [Go.Fw.Rows] at hr <;> try exact hr.elim
 · subst hr; exact ⟨true, rfl, hQ _ _ (.nil _ (.refl _))⟩
 · exact absurd rfl hz
 · exact ⟨false, rfl, new _ rfl⟩
 · exact ⟨false, rfl, new _ rfl⟩
theorem Clone_int_ok {d : D} {rows : List (List D)} (h : At Try.prog σ t_int d rows) (hz : d ≠ .zsl) (hb : 8 * rows.length ≤ 140737488355328) : DCalls Try.prog n_slices_Clone_int [.one d] σ fun r s => ∃ d', r = .a (.one d') ∧ Own Try.prog σ s t_int d' rows :=
 W_slices_Clone_int d σ _ (clone_ok (Q := fun r s => ∃ d', r = .a (.one d') ∧ Own Try.prog σ s _ d' rows) h hz hb fun d' s ho => ⟨d', rfl, ho⟩)
theorem Clone_RouteState_ok {d : D} {rows : List (List D)} (h : At Try.prog σ t_RouteState d rows) (hz : d ≠ .zsl) (hb : 32 * rows.length ≤ 140737488355328) : DCalls Try.prog n_slices_Clone_RouteState [.one d] σ fun r s => ∃ d', r = .a (.one d') ∧ Own Try.prog σ s t_RouteState d' rows :=
 W_slices_Clone_RouteState d σ _ (clone_ok (Q := fun r s => ∃ d', r = .a (.one d') ∧ Own Try.prog σ s _ d' rows) h hz hb fun d' s ho => ⟨d', rfl, ho⟩)
theorem Clone_Mover_ok {d : D} {rows : List (List D)} (h : At Try.prog σ t_Mover d rows) (hz : d ≠ .zsl) (hb : 16 * rows.length ≤ 140737488355328) : DCalls Try.prog n_slices_Clone_Mover [.one d] σ fun r s => ∃ d', r = .a (.one d') ∧ Own Try.prog σ s t_Mover d' rows :=
 W_slices_Clone_Mover d σ _ (clone_ok (Q := fun r s => ∃ d', r = .a (.one d') ∧ Own Try.prog σ s _ d' rows) h hz hb fun d' s ho => ⟨d', rfl, ho⟩)
theorem Clone_LineState_ok {d : D} {rows : List (List D)} (h : At Try.prog σ t_LineState d rows) (hz : d ≠ .zsl) (hb : 64 * rows.length ≤ 140737488355328) : DCalls Try.prog n_slices_Clone_LineState [.one d] σ fun r s => ∃ d', r = .a (.one d') ∧ Own Try.prog σ s t_LineState d' rows :=
 W_slices_Clone_LineState d σ _ (clone_ok (Q := fun r s => ∃ d', r = .a (.one d') ∧ Own Try.prog σ s _ d' rows) h hz hb fun d' s ho => ⟨d', rfl, ho⟩)
structure CoAt (σ : Store) (k0 k1 k2 k3 k4 k5 : D) (k : Co) : Prop where
 own : At Try.prog σ t_int k0 (k.Own.map Go.Fw.encI)
 routes : At Try.prog σ t_RouteState k1 (k.Routes.map Rs.enc)
 points : At Try.prog σ t_Mover k2 (k.Points.map Mv.enc)
 xs : At Try.prog σ t_Mover k3 (k.Xs.map Mv.enc)
 lines : At Try.prog σ t_LineState k4 (k.Lines.map Ls.enc)
 resets : At Try.prog σ t_int k5 (k.Resets.map Go.Fw.encI)
theorem CoAt.ext {σ' : Store} {k0 k1 k2 k3 k4 k5 : D} {k : Co} (h : CoAt σ k0 k1 k2 k3 k4 k5 k) (he : Ext σ σ') : CoAt σ' k0 k1 k2 k3 k4 k5 k :=
 ⟨h.own.ext he, h.routes.ext he, h.points.ext he, h.xs.ext he, h.lines.ext he, h.resets.ext he⟩
abbrev coA (k0 k1 k2 k3 k4 k5 : D) (b : Bool) : A := .agg [k0, k1, k2, k3, k4, k5, .bool b]
theorem locks_Fits_ok {c0 c1 c2 c3 c4 : D} {c : Cf} (h : ∀ s, CfAt s c0 c1 c2 c3 c4 c) {k0 k1 k2 k3 k4 k5 : D} {k : Co} (hk : CoAt σ k0 k1 k2 k3 k4 k5 k) :
   Pure Try.prog n_locks_Fits [cfA c0 c1 c2 c3 c4 c, coA k0 k1 k2 k3 k4 k5 k.Dirty] σ (.a (bA (k.fits c))) := by
 have ls := (h σ).secs.size
 have lx := (h σ).xs.size
 have l0 := hk.own.size
 have l1 := hk.routes.size
 have l2 := hk.points.size
 have l3 := hk.xs.size
 have l4 := hk.lines.size
 have l5 := hk.resets.size
 simp only [List.length_map] at ls lx l0 l1 l2 l3 l4 l5
 refine .of (W_locks_Fits _ _ _ _ _ _ _ _ _ k0 k1 k2 k3 k4 k5 k.Dirty σ _ ((h σ).secs.lenK fun R hR => (conf_Check_ok h).use ⟨_, rfl, ?_⟩)) (flat_b _)
 obtain ⟨rows, hat, hlen, hrow⟩ := rts_froz fun s => (h s).rts
 have hl := (hat σ).size
 have bad : k.lens c = false → ∀ s, Ext σ s → (RV.a (.one (.bool false)) = .a (bA (k.fits c)) ∧ Ext σ s) := fun hb s he => ⟨by simp [Co.fits, hb], he⟩
 have nl : ∀ p : Prop, ¬ (k.Own.length = c.Secs.length ∧ k.Points.length = c.Secs.length ∧ k.Resets.length = c.Secs.length ∧ k.Routes.length = c.Rts.length ∧ k.Xs.length = c.Xs.length ∧ k.Lines.length = 4) → k.lens c = false := fun p hn => by
   rw [Co.lens, decide_eq_false hn]
 refine bcn (fun hc => ⟨by simp [Co.fits, hc], .refl _⟩) (fun hc => ?_)
 simp only [List.length_map]
 refine hk.own.lenK (bcn (fun e => bad (nl True fun g => by simp only [List.length_map] at e; omega) _ (.refl _)) (fun e0 => ?_))
 refine hk.points.lenK (bcn (fun e => bad (nl True fun g => by simp only [List.length_map] at e; omega) _ (.refl _)) (fun e1 => ?_))
 refine hk.resets.lenK (bcn (fun e => bad (nl True fun g => by simp only [List.length_map] at e; omega) _ (.refl _)) (fun e2 => ?_))
 refine hk.routes.lenK ((hat σ).lenK (bcn (fun e => bad (nl True fun g => by simp only [List.length_map] at e; omega) _ (.refl _)) (fun e3 => ?_)))
 refine hk.xs.lenK ((h σ).xs.lenK (bcn (fun e => bad (nl True fun g => by simp only [List.length_map] at e; omega) _ (.refl _)) (fun e4 => ?_)))
 refine hk.lines.lenK (bcn (fun e => bad (nl True fun g => by simp only [List.length_map] at e; omega) _ (.refl _)) (fun e5 => hR σ ?_))
 simp only [List.length_map] at e0 e1 e2 e3 e4 e5
 have hL : k.lens c = true := decide_eq_true ⟨by omega, by omega, by omega, by omega, by omega, by omega⟩
 have hfit : k.fits c = k.parts c := by simp [Co.fits, hc, hL]
 rw [hfit]
 obtain ⟨_, s1, s2, s3, _, _⟩ := check_small hc
 clear bad nl hfit hL hR
 unfold Co.parts
 refine hk.own.lenK ⟨fun n s => s = σ ∧ Rng k.Own (fun r => (r.all fun o => decide (-2 ≤ o ∧ o ≤ (c.Rts.length : Int))) = k.Own.all fun o => decide (-2 ≤ o ∧ o ≤ (c.Rts.length : Int))) n, fun n _ => k.Own.length - n.toNat, ⟨rfl, .start rfl⟩, ?_⟩
 rintro n τ ⟨rfl, hr⟩
 refine bcd (fun hlt => ?_) (fun hge => ?_)
 · obtain ⟨j, x, rfl, hx, hj, hF, nx⟩ := hr.step (by simp) l0 hlt
   rw [List.all_cons] at hF
   refine hk.own.load (map_get hx) c_int rfl ⟨x, rfl, (hat τ).lenK ((locks_between_ok _ _ _).use ⟨_, rfl, ?_⟩)⟩
   rw [hlen]
   refine bcnot (fun h1 => ?_) (fun h1 => ?_)
   · rw [h1] at hF; exact ⟨by rw [← hF]; rfl, .refl _⟩
   · rw [h1, Bool.true_and] at hF; exact andl rfl (nx _ hF)
 have hF0 := hr.done (by simp) hge
 rw [← hF0]
 show (∃ len2 : Nat, _)
 simp only [List.all_nil, Bool.true_and]
 clear hF0 hr hge
 have lz : (k.Routes.zip c.Rts).length = k.Routes.length := by rw [List.length_zip]; omega
 refine hk.routes.lenK ⟨fun n s => Ext τ s ∧ Rng (k.Routes.zip c.Rts) (fun r => r.all Rs.fits = (k.Routes.zip c.Rts).all Rs.fits) n, fun n _ => (k.Routes.zip c.Rts).length - n.toNat, ⟨.refl _, .start rfl⟩, ?_⟩
 rintro n s ⟨he, hr⟩
 refine bcd (fun hlt => ?_) (fun hge => ?_)
 · obtain ⟨j, x, rfl, hx, hj, hF, nx⟩ := hr.step (by rw [List.length_map, lz]) (by omega) hlt
   obtain ⟨g1, g2⟩ := List.getElem?_zip_eq_some.1 hx
   rw [List.all_cons] at hF
   refine (hk.ext he).routes.load (map_get g1) c_RouteState rfl ⟨x.1.State, x.1.Since, x.1.Next, x.1.Mark, rfl, (locks_between_ok _ _ _).use ⟨_, rfl, ?_⟩⟩
   have bad : Rs.fits x = false → ∀ s', Ext τ s' → (RV.a (.one (.bool false)) = .a (bA ((k.Routes.zip c.Rts).all Rs.fits && ((k.Points ++ k.Xs).all Mv.fits && (k.Lines.all Ls.fits && k.Resets.all (tm 1))))) ∧ Ext τ s') := fun hb s' he' => by
     rw [hb, Bool.false_and] at hF
     exact ⟨by rw [← hF]; rfl, he'⟩
   refine bcnot (fun h1 => bad (by unfold Rs.fits; rw [h1]; rfl) _ he) (fun h1 => ?_)
   obtain ⟨row, hrw⟩ := get_of_lt (l := rows) (j := j) (by rw [lz] at hj; omega)
   obtain ⟨d1, d2, d3, rfl, q1, q2, q3⟩ := hrow j row x.2 hrw g2
   refine (hat s).load hrw c_Route rfl ⟨d1, rfl, (q1 s).lenK ((locks_between_ok _ _ _).use ⟨_, rfl, ?_⟩)⟩
   rw [List.length_map]
   refine bcnot (fun h2 => bad (by unfold Rs.fits; rw [h1, h2]; rfl) _ he) (fun h2 => ?_)
   refine newObj_intro fun id s2 hid _ he2 hs2 => ?_
   refine (locks_times_ok (l := [x.1.Since, x.1.Mark]) 0 (by omega) (At.fresh hs2 (by simp) rfl)).use ⟨_, rfl, ?_⟩
   have e3 : ([x.1.Since, x.1.Mark].all fun n => decide (0 ≤ n ∧ n ≤ 4294967295 + (0 : Int))) = (tm 0 x.1.Since && tm 0 x.1.Mark) := by simp [tm]
   rw [e3]
   refine bcnot (fun h3 => bad (by unfold Rs.fits; rw [h1, h2, h3]; rfl) _ (he.trans he2)) (fun h3 => ?_)
   have hx : Rs.fits x = true := by unfold Rs.fits; rw [h1, h2, h3]; rfl
   rw [hx, Bool.true_and] at hF
   have hn := nx (fun r => r.all Rs.fits = (k.Routes.zip c.Rts).all Rs.fits) hF
   exact ⟨⟨he.trans he2, hn.1⟩, hn.2⟩
 have hF0 := hr.done (by rw [List.length_map, lz]) hge
 rw [← hF0]
 simp only [List.all_nil, Bool.true_and]
 clear hF0 hr hge
 refine newObj_intro fun id s2 hid _ he2 hs2 => ?_
 have het := he.trans he2
 have hkt := hk.ext het
 refine (Concat_Mover_ok (a := k2) (b := k3) (At.fresh hs2 (by simp) rfl) hkt.points hkt.xs (by rw [List.length_map]; omega) (by rw [List.length_map]; omega)).mono ?_
 rintro r s3 ⟨d, rfl, ho⟩
 rw [← List.map_append] at ho
 have he3 := het.trans ho.ext
 have lm : (k.Points ++ k.Xs).length < 2 ^ 60 := by rw [List.length_append]; omega
 refine ⟨d, rfl, ho.at_.lenK ⟨fun n s => s = s3 ∧ Rng (k.Points ++ k.Xs) (fun r => r.all Mv.fits = (k.Points ++ k.Xs).all Mv.fits) n, fun n _ => (k.Points ++ k.Xs).length - n.toNat, ⟨rfl, .start rfl⟩, ?_⟩⟩
 rintro n s4 ⟨rfl, hr⟩
 refine bcd (fun hlt => ?_) (fun hge => ?_)
 · obtain ⟨j, x, rfl, hx, hj, hF, nx⟩ := hr.step (by simp) lm hlt
   rw [List.all_cons] at hF
   refine ho.at_.load (map_get hx) c_Mover rfl ⟨x.Cmd, x.Other, rfl, (locks_between_ok _ _ _).use ⟨_, rfl, bcnot (fun h1 => ?_) (fun h1 => (locks_between_ok _ _ _).use ⟨_, rfl, bcnot (fun h2 => ?_) (fun h2 => ?_)⟩)⟩⟩
   · have : x.fits = false := by unfold Mv.fits; rw [h1]; rfl
     rw [this, Bool.false_and] at hF; exact ⟨by rw [← hF]; rfl, he3⟩
   · have : x.fits = false := by unfold Mv.fits; rw [h1, h2]; rfl
     rw [this, Bool.false_and] at hF; exact ⟨by rw [← hF]; rfl, he3⟩
   · have : x.fits = true := by unfold Mv.fits; rw [h1, h2]; rfl
     rw [this, Bool.true_and] at hF; exact andl rfl (nx _ hF)
 have hF0 := hr.done (by simp) hge
 rw [← hF0]
 simp only [List.all_nil, Bool.true_and]
 clear hF0 hr hge
 refine hk.lines.lenK ⟨fun n s => Ext τ s ∧ Rng k.Lines (fun r => r.all Ls.fits = k.Lines.all Ls.fits) n, fun n _ => k.Lines.length - n.toNat, ⟨he3, .start rfl⟩, ?_⟩
 rintro n s5 ⟨he5, hr⟩
 refine bcd (fun hlt => ?_) (fun hge => ?_)
 · obtain ⟨j, x, rfl, hx, hj, hF, nx⟩ := hr.step (by simp) l4 hlt
   rw [List.all_cons] at hF
   refine (hk.ext he5).lines.load (map_get hx) c_LineState rfl ⟨x.Ask, x.Done, x.Grant, x.Told, x.PAsk, x.PDone, x.PGrant, x.Since, rfl, newObj_intro fun id1 s6 hid1 _ he6 hs6 => ?_⟩
   have bad : Ls.fits x = false → ∀ s', Ext τ s' → (RV.a (.one (.bool false)) = .a (bA (k.Lines.all Ls.fits && k.Resets.all (tm 1))) ∧ Ext τ s') := fun hb s' he' => by
     rw [hb, Bool.false_and] at hF
     exact ⟨by rw [← hF]; rfl, he'⟩
   refine (locks_times_ok (l := [x.Ask, x.Done, x.Grant, x.Told, x.PAsk, x.PDone, x.PGrant]) 0 (by omega) (At.fresh hs6 (by simp) rfl)).use ⟨_, rfl, ?_⟩
   have e3 : ([x.Ask, x.Done, x.Grant, x.Told, x.PAsk, x.PDone, x.PGrant].all fun n => decide (0 ≤ n ∧ n ≤ 4294967295 + (0 : Int))) = (tm 0 x.Ask && (tm 0 x.Done && (tm 0 x.Grant && (tm 0 x.Told && (tm 0 x.PAsk && (tm 0 x.PDone && tm 0 x.PGrant)))))) := by simp [tm]
   rw [e3]
   refine bcnot (fun h1 => bad (by unfold Ls.fits; rw [h1]; rfl) _ (he5.trans he6)) (fun h1 => newObj_intro fun id2 s7 hid2 _ he7 hs7 => ?_)
   refine (locks_times_ok (l := [x.Since]) 1 (by omega) (At.fresh hs7 (by simp) rfl)).use ⟨_, rfl, ?_⟩
   have e4 : ([x.Since].all fun n => decide (0 ≤ n ∧ n ≤ 4294967295 + (1 : Int))) = tm 1 x.Since := by simp [tm]
   rw [e4]
   refine bcnot (fun h2 => bad (by unfold Ls.fits; rw [h1, h2]; rfl) _ ((he5.trans he6).trans he7)) (fun h2 => ?_)
   have hx : x.fits = true := by unfold Ls.fits; rw [h1, h2]; rfl
   rw [hx, Bool.true_and] at hF
   have hn := nx (fun r => r.all Ls.fits = k.Lines.all Ls.fits) hF
   exact ⟨⟨(he5.trans he6).trans he7, hn.1⟩, hn.2⟩
 have hF0 := hr.done (by simp) hge
 rw [← hF0]
 simp only [List.all_nil, Bool.true_and]
 exact (locks_times_ok 1 (by omega) (hk.ext he5).resets).use ⟨_, rfl, rfl, he5⟩
end
end Go.Proofs.Ytjdpkjembijbeaa
namespace Go.Fw
section
variable {P : Program} {σ : Store}
theorem rows_fun {s : Store} {el : TypeId} {d : D} {rs rs' : List (List D)} (h : Go.Fw.Rows P s el d rs) (h' : Go.Fw.Rows P s el d rs') : rs = rs' := by
 cases d <;> simp only [Go.Fw.Rows] at h h' <;> try exact h.elim
 · rw [h, h']
 · rw [h, h']
 · rw [h.1, h'.1]
 · obtain ⟨t, rows, a1, a2, a3, a4⟩ := h
   obtain ⟨t', rows', b1, b2, b3, b4⟩ := h'
   rw [a1] at b1
   injection b1 with e1 e2
   subst e1 e2
   rw [a4, b4]
def repPre (P : Program) (t : TypeId) (as0 : List A) (s : Store) : Prop := ∃ (d : D) (n : Nat) (row : List D), as0 = [.one d, iA n] ∧ At P s t d [row] ∧ n ≤ 2 ^ 20
def repPost (P : Program) (t : TypeId) (as0 : List A) (s : Store) (r : RV) (s' : Store) : Prop := ∃ (d : D) (n : Nat) (row : List D), as0 = [.one d, iA n] ∧ At P s t d [row] ∧ n ≤ 2 ^ 20 ∧ RepPost t n row s r s'
theorem Fin.set' {s : Store} (h : Fin s) (id : Nat) (so : SO) : Fin (s.set id so) := by
 obtain ⟨N, hN⟩ := h
 refine ⟨max N (id + 1), fun i hi => ?_⟩
 rw [Store.set_ne _ _ (by omega)]; exact hN i (by omega)
theorem rep_spec {f : FuncId} {t : TypeId} (h : ∀ (s : Store) (x : D) (row : List D) (n : Nat), At P s t x [row] → n ≤ 2 ^ 20 → DCalls P f [.one x, iA n] s (RepPost t n row s)) : SpecOk P f (repPre P t) (repPost P t) := by
 refine ⟨?_, ?_, ?_, ?_, ?_⟩
 · rintro as0 s ⟨d, n, row, rfl, h1, h2⟩
   exact (h s d row n h1 h2).mono fun r s' hr => ⟨d, n, row, rfl, h1, h2, hr⟩
 · rintro as0 s ⟨d, n, row, rfl, h1, h2⟩ ⟨N, hN⟩
   exact ⟨_, _, ⟨d, n, row, rfl, h1, h2, N, hN N (Nat.le_refl _), rfl, rfl⟩, Fin.set' ⟨N, hN⟩ _ _⟩
 · rintro as0 s r s' ⟨d, n, row, rfl, h1, h2, id, h3, rfl, rfl⟩ hf
   exact hf.set' _ _
 · rintro as0 s id so hid hso ⟨d, n, row, rfl, h1, h2⟩
   have he := Ext.new hid so
   refine ⟨⟨d, n, row, rfl, h1.ext he, h2⟩, ?_⟩
   rintro r s' ⟨d', n', row', e1, g1, g2, id', g3, rfl, rfl⟩
   injection e1 with e2 e3
   injection e2 with e2
   injection e3 with e3 _
   injection e3 with e3
   injection e3 with _ e3
   have e3 : n = n' := by omega
   subst e2 e3
   have e4 := rows_fun (h1.ext he).rows g1.rows
   injection e4 with e4 _
   subst e4
   have hne : id' ≠ id := fun e => by subst e; rw [Store.set_same] at g3; exact hso g3
   rw [Store.set_ne _ _ hne] at g3
   refine ⟨s.set id' (.live t (List.replicate n row)), ⟨d, n, row, rfl, h1, h2, id', g3, rfl, rfl⟩, ?_, set_comm (Ne.symm hne) _ _⟩
   rw [Store.set_ne _ _ (Ne.symm hne)]; exact hid
 · rintro as0 s r s' _ ⟨d, n, row, rfl, h1, h2, id, h3, rfl, rfl⟩ i hi
   exact Store.set_ne _ _ (fun e => hi (e ▸ h3))
def idOf : D → Option Nat
 | .osl id _ _ => some id
 | _ => none
def Apart (a b : D) : Prop := ∀ id, idOf a = some id → idOf b ≠ some id
theorem Apart.symm {a b : D} (h : Apart a b) : Apart b a := fun id h1 h2 => h id h2 h1
theorem Own.at_new {σ0 : Store} {el : TypeId} {id n : Nat} {rs : List (List D)} (hid : σ0 id = .free) (he : Ext σ0 σ) (h : σ id = .live el rs) (hsz : rs.length < 2 ^ 60) (hn : n = rs.length) : Own P σ0 σ el (.osl id 0 n) rs :=
 ⟨At.fresh h hsz hn, he, osl_new hid, fun h => h, by intro e; cases e⟩
theorem Own.apart {σ0 : Store} {el el' : TypeId} {d d' : D} {rs rs' : List (List D)} (h : Own P σ0 σ el d rs) (h' : At P σ0 el' d' rs') : Apart d' d := by
 intro id h1 h2
 cases d' with
 | osl i a n =>
   have e1 : i = id := by simpa [idOf] using h1
   subst e1
   cases d with
   | osl i' a' n' =>
     have e2 : i' = i := by simpa [idOf] using h2
     subst e2
     have := h.new _ _ _ rfl
     obtain ⟨t, rows, g1, _⟩ := h'.rows
     rw [this] at g1; cases g1
   | _ => simp [idOf] at h2
 | _ => simp [idOf] at h1
theorem Own.from {σ0 σ1 : Store} {el : TypeId} {d : D} {rs : List (List D)} (he : Ext σ0 σ1) (h : Own P σ1 σ el d rs) : Own P σ0 σ el d rs :=
 ⟨h.at_, he.trans h.ext, fun id i len e => by
   have h1 := h.new id i len e
   by_cases hf : σ0 id = .free
   · exact hf
   · have := he id hf; rw [h1] at this; exact this.symm, h.nsl, h.nz⟩
def newCo (c : Cf) (now : Int) : Co :=
 ⟨List.replicate c.Secs.length (-1), List.replicate c.Rts.length ⟨0, 0, 0, 0⟩, c.Secs.map fun s => ⟨0, if s.Kind = 1 then now else 0⟩, List.replicate c.Xs.length ⟨1, now⟩, List.replicate 4 ⟨0, 0, 0, 0, 0, 0, 0, 0⟩, List.replicate c.Secs.length 0, true⟩
end
end Go.Fw
namespace Go.Proofs.Ytjdpkjembijbeaa
open Go.Fw Go.Proofs Go.RowKit
section
variable {σ : Store}
def mvAt (now : Int) (s : Sec) : Mv := ⟨0, if s.Kind = 1 then now else 0⟩
theorem locks_movers_ok {c0 c1 c2 c3 c4 : D} {c : Cf} (h : ∀ s, CfAt s c0 c1 c2 c3 c4 c) (now : Int) (h1 : c.Secs.length ≤ 2 ^ 20) (h2 : c.Xs.length ≤ 2 ^ 20) :
   DCalls Try.prog n_locks_movers [cfA c0 c1 c2 c3 c4 c, iA now] σ fun r s => ∃ d1 d2, r = .tup [.one d1, .one d2] ∧ Own Try.prog σ s t_Mover d1 ((c.Secs.map (mvAt now)).map Mv.enc) ∧ Own Try.prog σ s t_Mover d2 ((List.replicate c.Xs.length (⟨1, now⟩ : Mv)).map Mv.enc) ∧ Apart d1 d2 := by
 refine W_locks_movers _ _ _ _ _ _ _ _ _ now σ _ ((h σ).secs.lenK ⟨by omega, by omega, by rw [List.length_map]; omega, newObj_intro fun id s1 hid _ he hs => (h s1).secs.lenK ?_⟩)
 rw [List.length_map, Int.toNat_natCast]
 refine ⟨fun n s => ∃ j : Nat, n = j ∧ j ≤ c.Secs.length ∧ Ext σ s ∧ s id = .live t_Mover (((c.Secs.take j).map (mvAt now)).map Mv.enc ++ List.replicate (c.Secs.length - j) [iD 0, iD 0]), fun n _ => c.Secs.length - n.toNat, ⟨0, rfl, by omega, he, by simpa using hs⟩, ?_⟩
 rintro _ s ⟨j, rfl, hj, hes, hl⟩
 refine bcd (fun hlt => ?_) (fun hge => ?_)
 · obtain ⟨x, hx⟩ := get_of_lt (l := c.Secs) (j := j) (by omega)
   refine (h s).secs.load (map_get hx) c_Section rfl ⟨x.Kind, x.OC, x.Line, rfl, ?_⟩
   have hw : w64 ((j : Int) + 1) = ((j + 1 : Nat) : Int) := w64_succ (by omega)
   have htake : c.Secs.take (j + 1) = c.Secs.take j ++ [x] := by rw [List.take_add_one, hx]; rfl
   have hlr : (((c.Secs.take j).map (mvAt now)).map Mv.enc ++ List.replicate (c.Secs.length - j) ([iD 0, iD 0] : List D)).length = c.Secs.length := by simp; omega
   have hsplit : List.replicate (c.Secs.length - j) ([iD 0, iD 0] : List D) = [iD 0, iD 0] :: List.replicate (c.Secs.length - (j + 1)) [iD 0, iD 0] := by
     rw [show c.Secs.length - j = (c.Secs.length - (j + 1)) + 1 by omega, List.replicate_succ]
   have hln : (((c.Secs.take j).map (mvAt now)).map Mv.enc).length = j := by rw [List.length_map, List.length_map, List.length_take]; omega
   have hmu : c.Secs.length - ((j + 1 : Nat) : Int).toNat < c.Secs.length - ((j : Nat) : Int).toNat := by omega
   refine bce (fun hk => (Start_ok now).use ⟨0, now, rfl, ?_⟩) (fun hk => ?_)
   · refine ⟨c.Secs.length, ⟨by omega, t_Mover, _, hl, c_Mover⟩, by omega, by omega, ?_⟩
     have hrowj : (((c.Secs.take j).map (mvAt now)).map Mv.enc ++ List.replicate (c.Secs.length - j) ([iD 0, iD 0] : List D))[0 + j]? = some [iD 0, iD 0] := by
       rw [Nat.zero_add, List.getElem?_append_right (by omega), hln, Nat.sub_self, hsplit]; rfl
     refine ⟨id, 0, c.Secs.length, t_Mover, _, [iD 0, iD 0], rfl, by omega, hl, hrowj, by simp, ?_⟩
     rw [hw]
     refine ⟨⟨j + 1, rfl, by omega, hes.set hid _, ?_⟩, hmu⟩
     rw [Store.set_same, htake, Int.toNat_natCast, Nat.zero_add, hsplit]
     congr 1
     rw [List.set_append_right _ _ (by omega), hln, Nat.sub_self, List.set_cons_zero]
     simp [mvAt, hk, Mv.enc, patch]
   · rw [hw]
     refine ⟨⟨j + 1, rfl, by omega, hes, ?_⟩, hmu⟩
     rw [hl, htake, hsplit]
     simp [mvAt, hk, Mv.enc]
 · have e : j = c.Secs.length := by omega
   subst e
   rw [List.take_length, Nat.sub_self, List.replicate_zero, List.append_nil] at hl
   refine newObj_intro fun id1 s2 hid1 _ he2 hs2 => (h s2).xs.lenK ?_
   rw [List.length_map]
   refine (Repeat_Mover_ok (At.fresh hs2 (by simp) rfl) h2).mono ?_
   rintro r s3 ⟨id3, hid3, rfl, rfl⟩
   have he3 : Ext s2 (s2.set id3 (.live t_Mover (List.replicate c.Xs.length [iD 1, iD now]))) := Ext.new hid3 _
   have hne : id ≠ id3 := fun e => by
     rw [← e] at hid3
     have := he2 id (by rw [hl]; intro e; cases e)
     rw [hid3, hl] at this; cases this
   have hf3 : σ id3 = .free := by
     by_cases hf : σ id3 = .free
     · exact hf
     · have := (hes.trans he2) id3 hf
       rw [hid3] at this; exact this.symm
   refine ⟨_, rfl, _, _, rfl, ?_, ?_, ?_⟩
   · refine Own.at_new hid ((hes.trans he2).trans he3) (rs := (c.Secs.map (mvAt now)).map Mv.enc) ?_ (by simp; omega) (by simp)
     rw [Store.set_ne _ _ hne, he2 id (by rw [hl]; intro e; cases e), hl]
   · refine Own.at_new hf3 ((hes.trans he2).trans he3) (rs := (List.replicate c.Xs.length (⟨1, now⟩ : Mv)).map Mv.enc) ?_ (by simp; omega) (by simp)
     rw [Store.set_same]
     simp [Mv.enc]
   · intro i e1 e2
     simp only [idOf, Option.some.injEq] at e1 e2
     exact hne (e1.trans e2.symm)
structure CoOwn (σ0 σ : Store) (k0 k1 k2 k3 k4 k5 : D) (k : Co) : Prop where
 own : Own Try.prog σ0 σ t_int k0 (k.Own.map Go.Fw.encI)
 routes : Own Try.prog σ0 σ t_RouteState k1 (k.Routes.map Rs.enc)
 points : Own Try.prog σ0 σ t_Mover k2 (k.Points.map Mv.enc)
 xs : Own Try.prog σ0 σ t_Mover k3 (k.Xs.map Mv.enc)
 lines : Own Try.prog σ0 σ t_LineState k4 (k.Lines.map Ls.enc)
 resets : Own Try.prog σ0 σ t_int k5 (k.Resets.map Go.Fw.encI)
 apart : [k0, k1, k2, k3, k4, k5].Pairwise Apart
theorem CoOwn.at {σ0 : Store} {k0 k1 k2 k3 k4 k5 : D} {k : Co} (h : CoOwn σ0 σ k0 k1 k2 k3 k4 k5 k) : CoAt σ k0 k1 k2 k3 k4 k5 k :=
 ⟨h.own.at_, h.routes.at_, h.points.at_, h.xs.at_, h.lines.at_, h.resets.at_⟩
theorem locks_New_ok {c0 c1 c2 c3 c4 : D} {c : Cf} (h : ∀ s, CfAt s c0 c1 c2 c3 c4 c) (now : Int) (h1 : c.Secs.length ≤ 2 ^ 20) (h2 : c.Xs.length ≤ 2 ^ 20) (h3 : c.Rts.length ≤ 2 ^ 20) :
   DCalls Try.prog n_locks_New [cfA c0 c1 c2 c3 c4 c, iA now] σ fun r s => ∃ k0 k1 k2 k3 k4 k5, r = .a (coA k0 k1 k2 k3 k4 k5 true) ∧ CoOwn σ s k0 k1 k2 k3 k4 k5 (newCo c now) := by
 obtain ⟨rows, hat, hlen⟩ := rts_len (h σ)
 refine W_locks_New _ _ _ _ _ _ _ _ _ now σ _ ⟨repPre Try.prog t_int, repPost Try.prog t_int, rep_spec fun s x row n q1 q2 => Repeat_int_ok q1 q2, (h σ).secs.lenK (hat.lenK ((h σ).secs.lenK (newObj_intro fun id s1 hid _ he1 hs1 => ?_)))⟩
 simp only [List.length_map, hlen]
 refine ⟨⟨_, _, [iD (-1)], rfl, At.fresh hs1 (by simp) rfl, h1⟩, ?_⟩
 rintro r s2 ⟨d, n, row, e1, g1, g2, id2, hid2, rfl, rfl⟩
 injection e1 with e2 e3
 injection e2 with e2
 injection e3 with e3 _
 injection e3 with e3
 injection e3 with _ e3
 have e3 : c.Secs.length = n := by omega
 subst e2 e3
 have e4 := rows_fun (At.fresh hs1 (by simp) rfl : At Try.prog s1 t_int (.osl id 0 1) _).rows g1.rows
 injection e4 with e4 _
 subst e4
 generalize hs2 : s1.set id2 (SO.live t_int (List.replicate c.Secs.length [D.int IntKind.i64 (-1)])) = s2
 have he2 : Ext s1 s2 := by rw [← hs2]; exact Ext.new hid2 _
 have hl2 : s2 id2 = .live t_int (List.replicate c.Secs.length [iD (-1)]) := by rw [← hs2]; exact Store.set_same _ _ _
 have o0 : Own Try.prog s1 s2 t_int (.osl id2 0 c.Secs.length) (List.replicate c.Secs.length [iD (-1)]) := .at_new hid2 he2 hl2 (by simp; omega) (by simp)
 refine ⟨_, rfl, by omega, by omega, by omega, newObj_intro fun id3 s3 hid3 _ he3 hs3 => ⟨by omega, by omega, by omega, newObj_intro fun id4 s4 hid4 _ he4 hs4 => ⟨by omega, by omega, by omega, newObj_intro fun id5 s5 hid5 _ he5 hs5 => ?_⟩⟩⟩
 simp only [Int.toNat_natCast] at hs3 hs5 ⊢
 have o1 : Own Try.prog s2 s3 t_RouteState (.osl id3 0 c.Rts.length) (List.replicate c.Rts.length [iD 0, iD 0, iD 0, iD 0]) := .at_new hid3 he3 hs3 (by simp; omega) (by simp)
 have o4 : Own Try.prog s3 s4 t_LineState (.osl id4 0 4) (List.replicate 4 [iD 0, iD 0, iD 0, iD 0, iD 0, iD 0, iD 0, iD 0]) := .at_new hid4 he4 hs4 (by simp) (by simp)
 have o5 : Own Try.prog s4 s5 t_int (.osl id5 0 c.Secs.length) (List.replicate c.Secs.length [iD 0]) := .at_new hid5 he5 hs5 (by simp; omega) (by simp)
 refine (locks_movers_ok h now h1 h2).mono ?_
 rintro r s6 ⟨d1, d2, rfl, o2, o3, hap⟩
 refine ⟨d1, d2, rfl, _, _, _, _, _, _, rfl, ?_⟩
 have a3 := o0.at_.ext he3
 have a4 := a3.ext he4
 have a5 := a4.ext he5
 have b4 := o1.at_.ext he4
 have b5 := b4.ext he5
 have c5 := o4.at_.ext he5
 have f1 := he1.trans he2
 have f2 := f1.trans he3
 have f3 := f2.trans he4
 have f4 := f3.trans he5
 refine ⟨?_, ?_, ?_, ?_, ?_, ?_, ?_⟩
 · have : List.map Go.Fw.encI (newCo c now).Own = List.replicate c.Secs.length [iD (-1)] := by simp [newCo, Go.Fw.encI]
   rw [this]; exact (((o0.ext' he3).ext' he4).ext' he5).ext' o2.ext |>.from he1
 · have : List.map Rs.enc (newCo c now).Routes = List.replicate c.Rts.length [iD 0, iD 0, iD 0, iD 0] := by simp [newCo, Rs.enc]
   rw [this]; exact ((o1.ext' he4).ext' he5).ext' o2.ext |>.from f1
 · exact o2.from f4
 · exact o3.from f4
 · have : List.map Ls.enc (newCo c now).Lines = List.replicate 4 [iD 0, iD 0, iD 0, iD 0, iD 0, iD 0, iD 0, iD 0] := by simp [newCo, Ls.enc]
   rw [this]; exact (o4.ext' he5).ext' o2.ext |>.from f2
 · have : List.map Go.Fw.encI (newCo c now).Resets = List.replicate c.Secs.length [iD 0] := by simp [newCo, Go.Fw.encI]
   rw [this]; exact (o5.ext' o2.ext).from f3
 · simp only [List.pairwise_cons, List.mem_cons, List.not_mem_nil, or_false, forall_eq_or_imp, forall_eq, List.Pairwise.nil, and_true, false_imp_iff, implies_true]
   exact ⟨⟨o1.apart o0.at_, o2.apart a5, o3.apart a5, o4.apart a3, o5.apart a4⟩, ⟨o2.apart b5, o3.apart b5, o4.apart o1.at_, o5.apart b4⟩, ⟨hap, (o2.apart c5).symm, (o2.apart o5.at_).symm⟩, ⟨(o3.apart c5).symm, (o3.apart o5.at_).symm⟩, o5.apart o4.at_⟩
end
end Go.Proofs.Ytjdpkjembijbeaa
namespace Go.Fw
section
variable {P : Program} {σ : Store}
theorem cell_store {s : Store} {id : Nat} {t : TypeId} {row xs : List D} {off : Nat} {K : Store → Prop} (hs : s id = .live t [row]) (ho : off + xs.length ≤ row.length)
   (hK : ∀ s', s' id = .live t [patch row off xs] → (∀ i, i ≠ id → s' i = s i) → K s') : storeEl xs s (.osl id 0 1) 0 off K :=
 ⟨id, 0, 1, t, [row], row, rfl, by omega, hs, rfl, ho, hK _ (Store.set_same _ _ _) fun i hi => Store.set_ne _ _ hi⟩
theorem At.store {el : TypeId} {d : D} {rs : List (List D)} {j off : Nat} {n : Nat} {row xs : List D} {K : Store → Prop} (h : At P σ el d rs) (hd : ¬ isSl d) (hr : rs[j]? = some row) (hn : n = j) (ho : off + xs.length ≤ row.length)
   (hK : ∀ s' id, idOf d = some id → At P s' el d (rs.set j (patch row off xs)) → (∀ i, i ≠ id → s' i = σ i) → s' id ≠ .free → K s') : storeEl xs σ d n off K := by
 subst hn
 have hrows := h.rows
 have hj := (List.getElem?_eq_some_iff.1 hr).1
 cases d <;> simp only [Go.Fw.Rows] at hrows <;> try exact hrows.elim
 · subst hrows; simp at hr
 · subst hrows; simp at hr
 · exact absurd trivial hd
 · obtain ⟨t, rows, h1, h2, h3, rfl⟩ := hrows
   rename_i id i0 len
   have hjl : n < len := by simp at hj; omega
   have hrow : rows[i0 + n]? = some row := by
     rw [List.getElem?_take, if_pos hjl, List.getElem?_drop] at hr; exact hr
   refine ⟨id, i0, len, t, rows, row, rfl, hjl, h1, hrow, ho, hK _ id rfl ⟨⟨t, _, Store.set_same _ _ _, h2, by simp; omega, ?_⟩, ?_, fun es rows e => by cases e⟩ (fun i hi => Store.set_ne _ _ hi) (by rw [Store.set_same]; intro e; cases e)⟩
   · rw [List.drop_set, if_neg (by omega), List.take_set]
     congr 1; omega
   · have := h.size; simpa using this
structure Lk where
 Value : Int
 Stamp : Int
 Valid : Bool
def Lk.enc (l : Lk) : List D := [iD l.Value, iD l.Stamp, .bool l.Valid]
end
end Go.Fw
namespace Go.Proofs.Ytjdpkjembijbeaa
open Go.Fw Go.Proofs Go.RowKit
section
variable {σ : Store}
section
variable {c0 c1 c2 c3 c4 : D} {c : Cf}
end
structure CoFit (k0 k1 k2 k3 k4 k5 : D) (k : Co) : Prop where
 n0 : k0 ≠ .zsl
 n1 : k1 ≠ .zsl
 n2 : k2 ≠ .zsl
 n3 : k3 ≠ .zsl
 n4 : k4 ≠ .zsl
 n5 : k5 ≠ .zsl
 b0 : 8 * k.Own.length ≤ 140737488355328
 b1 : 32 * k.Routes.length ≤ 140737488355328
 b2 : 16 * k.Points.length ≤ 140737488355328
 b3 : 16 * k.Xs.length ≤ 140737488355328
 b4 : 64 * k.Lines.length ≤ 140737488355328
 b5 : 8 * k.Resets.length ≤ 140737488355328
theorem own_other {σ0 s s' : Store} {el : TypeId} {d : D} {rs : List (List D)} {id : Nat} (h : Own Try.prog σ0 s el d rs) (hid : σ0 id = .free) (hd : idOf d ≠ some id) (hs : ∀ i, i ≠ id → s' i = s i) : Own Try.prog σ0 s' el d rs :=
 ⟨h.at_.same fun i a n e => hs i fun e2 => hd (by subst e; rw [← e2]; rfl), fun i hi => by
   have hne : i ≠ id := fun e => hi (by rw [e]; exact hid)
   rw [hs i hne]; exact h.ext i hi, h.new, h.nsl, h.nz⟩
end
end Go.Proofs.Ytjdpkjembijbeaa
namespace Go.Fw
section
def zLs : Ls := ⟨0, 0, 0, 0, 0, 0, 0, 0⟩
theorem map_set {α β : Type} (f : α → β) (l : List α) (i : Nat) (x : α) : (l.map f).set i (f x) = (l.set i x).map f := by simp
end
end Go.Fw
namespace Go.Proofs.Ytjdpkjembijbeaa
open Go.Fw Go.Proofs Go.RowKit
section
variable {σ : Store}
section
variable {σ0 : Store} {id : Nat} {d0 d1 d2 d3 d4 d5 c0 c1 c2 c3 c4 v0 v1 v2 v3 : D} {k : Co} {c : Cf} {now : Int} {was : Bool}
theorem own_id {s : Store} {el : TypeId} {d : D} {rs : List (List D)} {i : Nat} (h : Own Try.prog σ0 s el d rs) (hi : idOf d = some i) : σ0 i = .free := by
 cases d with
 | osl j a n =>
   have : j = i := by simpa [idOf] using hi
   subst this
   exact h.new _ _ _ rfl
 | _ => simp [idOf] at hi
theorem pw {l : List D} (h : l.Pairwise Apart) {i j : Nat} {a b : D} (hi : l[i]? = some a) (hj : l[j]? = some b) (hne : i ≠ j) : Apart a b := by
 obtain ⟨h1, rfl⟩ := List.getElem?_eq_some_iff.1 hi
 obtain ⟨h2, rfl⟩ := List.getElem?_eq_some_iff.1 hj
 rw [List.pairwise_iff_getElem] at h
 rcases Nat.lt_or_gt_of_ne hne with g | g
 · exact h i j h1 h2 g
 · exact (h j i h2 h1 g).symm
end
end
end Go.Proofs.Ytjdpkjembijbeaa
namespace Go.Fw
section
structure Vw where
 Occ : List Lk
 Pos : List Lk
 Shut : List Lk
 Lamp : List Lk
def Vw.fits (c : Cf) (v : Vw) : Bool := decide (v.Occ.length = c.Secs.length ∧ v.Pos.length = c.Secs.length ∧ v.Shut.length = c.Xs.length ∧ v.Lamp.length = c.Sigs.length)
theorem topo_line {secs : List Sec} {js : List Jt} (h : topoOk secs js = true) {i : Nat} {s : Sec} (hs : secs[i]? = some s) : 0 ≤ s.Line ∧ s.Line ≤ 3 := by
 unfold topoOk at h
 rw [Bool.and_eq_true] at h
 have h2 := h.2
 split at h2
 · cases h2
 · exact ((srun_iff _ _ _ _).1 h2 i s hs).2.2.1
end
end Go.Fw
namespace Go.Proofs.Ytjdpkjembijbeaa
open Go.Fw Go.Proofs Go.RowKit
section
variable {σ : Store}
structure VwAt (v0 v1 v2 v3 : D) (v : Vw) : Prop where
 occ : ∀ s, At Try.prog s t_Look v0 (v.Occ.map Lk.enc)
 pos : ∀ s, At Try.prog s t_Look v1 (v.Pos.map Lk.enc)
 shut : ∀ s, At Try.prog s t_Look v2 (v.Shut.map Lk.enc)
 lamp : ∀ s, At Try.prog s t_Look v3 (v.Lamp.map Lk.enc)
def CoPost (σ : Store) (p : Co × Int) (r : RV) (s : Store) : Prop :=
 ∃ d0 d1 d2 d3 d4 d5, r = .tup [coA d0 d1 d2 d3 d4 d5 p.1.Dirty, iA p.2] ∧ CoOwn σ s d0 d1 d2 d3 d4 d5 p.1
section
variable {c0 c1 c2 c3 c4 v0 v1 v2 v3 k0 k1 k2 k3 k4 k5 : D} {c : Cf} {k : Co} {v : Vw}
end
end
section
variable {σ : Store}
structure CoFz (d0 d1 d2 d3 d4 d5 : D) (k : Co) : Prop where
 at_ : ∀ s, CoAt s d0 d1 d2 d3 d4 d5 k
 n0 : d0 ≠ .zsl
 n1 : d1 ≠ .zsl
 n2 : d2 ≠ .zsl
 n3 : d3 ≠ .zsl
 n4 : d4 ≠ .zsl
 n5 : d5 ≠ .zsl
end
end Go.Proofs.Ytjdpkjembijbeaa
section
namespace Go.Fw
variable {P : Program}
inductive Cs
 | int (k : IntKind)
 | bool
 | str
 | sl (e : TypeId)
def fieldsSh (g : TypeId → Option (List Cs)) : List Field → Option (List Cs)
 | [] => some []
 | f :: fs => match g f.type, fieldsSh g fs with
   | some a, some b => some (a ++ b)
   | _, _ => none
def cellsSh (P : Program) : Nat → TypeId → Option (List Cs)
 | 0, _ => none
 | m + 1, t => match P.underlying t with
   | some .bool => some [.bool]
   | some (.int k) => some [.int k]
   | some .string => some [.str]
   | some (.slice e) => some [.sl e]
   | some (.struct fs) => fieldsSh (cellsSh P m) fs.toList
   | some (.array k e) => (cellsSh P m e).map fun l => (List.replicate k l).flatten
   | _ => none
def CsOk (P : Program) : Cs → D → Prop
 | .int k, d => ∃ m, d = .int k m ∧ (Lit.int k m).wf = true
 | .bool, d => ∃ b, d = .bool b
 | .str, d => ∃ s, d = .str s ∧ s.size ≤ 140737488351232
 | .sl e, d => d = .nils ∨ ∃ rows, d = .sl (P.cellsOf e) rows ∧ rows.length * P.bytesOf e ≤ 140737488351232 ∧ ∀ row ∈ rows, ∃ n, tyD P n e row
def CsL (P : Program) : List Cs → List D → Prop
 | [], ds => ds = []
 | s :: ss, ds => ∃ d r, ds = d :: r ∧ CsOk P s d ∧ CsL P ss r
theorem CsL.append {a b : List Cs} {x y : List D} (h1 : CsL P a x) (h2 : CsL P b y) : CsL P (a ++ b) (x ++ y) := by
 induction a generalizing x with
 | nil => simp only [CsL] at h1; subst h1; exact h2
 | cons s a ih =>
   obtain ⟨d, r, rfl, q1, q2⟩ := h1
   exact ⟨d, r ++ y, rfl, q1, ih q2⟩
theorem fields_sh {g : TypeId → Option (List Cs)} {ty : TypeId → List D → Prop} (ih : ∀ t ds shs, ty t ds → g t = some shs → CsL P shs ds) : ∀ (fs : List Field) (ds : List D) (shs : List Cs), tyF P ty fs ds → fieldsSh g fs = some shs → CsL P shs ds
 | [], ds, shs, h1, h2 => by
   simp only [tyF] at h1; simp only [fieldsSh] at h2
   cases h2; subst h1; rfl
 | f :: fs, ds, shs, h1, h2 => by
   obtain ⟨a, b, rfl, _, q1, q2⟩ := h1
   rw [fieldsSh] at h2
   split at h2
   · rename_i x y e1 e2
     cases h2
     exact (ih _ _ _ q1 e1).append (fields_sh ih fs b y q2 e2)
   · cases h2
theorem rep_sh {ty : TypeId → List D → Prop} {e : TypeId} {l : List Cs} (ih : ∀ ds, ty e ds → CsL P l ds) : ∀ (k : Nat) (ds : List D), tyR P ty e k ds → CsL P (List.replicate k l).flatten ds
 | 0, ds, h => by simp only [tyR] at h; subst h; rfl
 | k + 1, ds, h => by
   obtain ⟨a, b, rfl, _, q1, q2⟩ := h
   rw [List.replicate_succ, List.flatten_cons]
   exact (ih a q1).append (rep_sh ih k b q2)
theorem ty_sh : ∀ (n m : Nat) (t : TypeId) (ds : List D) (shs : List Cs), tyD P n t ds → cellsSh P m t = some shs → CsL P shs ds
 | 0, _, _, _, _, h, _ => h.elim
 | _ + 1, 0, _, _, _, _, h => by cases h
 | n + 1, m + 1, t, ds, shs, h1, h2 => by
   unfold tyD at h1
   unfold cellsSh at h2
   split at h1
   · rename_i hu
     rw [hu] at h2; cases h2
     obtain ⟨b, rfl⟩ := h1
     exact ⟨_, _, rfl, ⟨b, rfl⟩, rfl⟩
   · rename_i k hu
     rw [hu] at h2; cases h2
     obtain ⟨b, rfl, hw⟩ := h1
     exact ⟨_, _, rfl, ⟨b, rfl, hw⟩, rfl⟩
   · rename_i hu
     rw [hu] at h2; cases h2
     obtain ⟨b, rfl, hw⟩ := h1
     exact ⟨_, _, rfl, ⟨b, rfl, hw⟩, rfl⟩
   · rename_i e hu
     rw [hu] at h2; cases h2
     rcases h1 with rfl | ⟨rows, rfl, q1, q2⟩
     · exact ⟨_, _, rfl, .inl rfl, rfl⟩
     · exact ⟨_, _, rfl, .inr ⟨rows, rfl, q1, fun row hr => ⟨n, q2 row hr⟩⟩, rfl⟩
   · rename_i fs hu
     rw [hu] at h2
     exact fields_sh (fun t ds shs a b => ty_sh n m t ds shs a b) fs.toList ds shs h1 h2
   · rename_i k e hu
     rw [hu] at h2
     simp only [Option.map_eq_some_iff] at h2
     obtain ⟨l, e1, rfl⟩ := h2
     exact rep_sh (fun ds a => ty_sh n m e ds l a e1) k ds h1
   · exact h1.elim
def I64 (n : Int) : Prop := -9223372036854775808 ≤ n ∧ n ≤ 9223372036854775807
theorem wf_i64 {n : Int} (h : (Lit.int .i64 n).wf = true) : I64 n := by
 simp only [Lit.wf, IntKind.min, IntKind.max, IntKind.signed, IntKind.bits, Bool.and_eq_true, decide_eq_true_eq, if_true] at h
 unfold I64
 omega
theorem I64.w {n : Int} (h : I64 n) : w64 n = n := w64_id h.1 h.2
theorem sh_rel {α : Type} {e : TypeId} {d : D} {bytes : Nat} (R : List D → α → Prop) (hf : ∀ row n, tyD P n e row → ∃ a, R row a) (hb : P.bytesOf e = bytes) (hb0 : 0 < bytes) (h : CsOk P (.sl e) d) :
   ∃ (rows : List (List D)) (l : List α), (∀ s, At P s e d rows) ∧ rows.length = l.length ∧ (∀ (i : Nat) row a, rows[i]? = some row → l[i]? = some a → R row a) ∧ d ≠ .zsl ∧ bytes * l.length ≤ 140737488351232 := by
 rcases h with rfl | ⟨rows, rfl, q1, q2⟩
 · exact ⟨[], [], fun s => .nil, rfl, fun i row a h => by simp at h, (by intro e; cases e), by simp⟩
 · have key : ∀ rows : List (List D), (∀ row ∈ rows, ∃ n, tyD P n e row) → ∃ l : List α, rows.length = l.length ∧ ∀ (i : Nat) row a, rows[i]? = some row → l[i]? = some a → R row a := by
     intro rows
     induction rows with
     | nil => intro _; exact ⟨[], rfl, fun i row a h => by simp at h⟩
     | cons r rs ih =>
       intro hr
       obtain ⟨l, e1, e2⟩ := ih fun row h => hr row (by simp [h])
       obtain ⟨n, hn⟩ := hr r (by simp)
       obtain ⟨a, ha⟩ := hf r n hn
       refine ⟨a :: l, by simp [e1], fun i row b h1 h2 => ?_⟩
       cases i with
       | zero => simp at h1 h2; subst h1 h2; exact ha
       | succ i => exact e2 i row b (by simpa using h1) (by simpa using h2)
   obtain ⟨l, hl, hR⟩ := key rows q2
   rw [hb, hl] at q1
   have q3 : bytes * l.length ≤ 140737488351232 := by rw [Nat.mul_comm]; exact q1
   have h1 : 1 * l.length ≤ bytes * l.length := Nat.mul_le_mul_right _ hb0
   refine ⟨rows, l, fun s => ⟨⟨rfl, .inr rfl⟩, by omega, fun es rows e => ?_⟩, hl, hR, (by intro e; cases e), q3⟩
   injection e with e1 e2
   exact e1.symm
theorem sh_rows {α : Type} {e : TypeId} {d : D} {bytes : Nat} (f : α → List D) (Q : α → Prop) (hf : ∀ row n, tyD P n e row → ∃ a, row = f a ∧ Q a) (hb : P.bytesOf e = bytes) (hb0 : 0 < bytes) (h : CsOk P (.sl e) d) :
   ∃ l : List α, (∀ s, At P s e d (l.map f)) ∧ (∀ a ∈ l, Q a) ∧ d ≠ .zsl ∧ bytes * l.length ≤ 140737488351232 := by
 rcases h with rfl | ⟨rows, rfl, q1, q2⟩
 · exact ⟨[], fun s => .nil, fun a ha => by simp at ha, (by intro e; cases e), by simp⟩
 · have key : ∀ rows : List (List D), (∀ row ∈ rows, ∃ n, tyD P n e row) → ∃ l : List α, l.map f = rows ∧ ∀ a ∈ l, Q a := by
     intro rows
     induction rows with
     | nil => intro _; exact ⟨[], rfl, fun a ha => by simp at ha⟩
     | cons r rs ih =>
       intro hr
       obtain ⟨l, e1, e2⟩ := ih fun row h => hr row (by simp [h])
       obtain ⟨n, hn⟩ := hr r (by simp)
       obtain ⟨a, rfl, ha⟩ := hf r n hn
       refine ⟨a :: l, by simp [e1], fun b hb => ?_⟩
       simp only [List.mem_cons] at hb
       rcases hb with rfl | hb
       · exact ha
       · exact e2 b hb
   obtain ⟨l, rfl, hl⟩ := key rows q2
   rw [hb, List.length_map] at q1
   have q3 : bytes * l.length ≤ 140737488351232 := by rw [Nat.mul_comm]; exact q1
   have h1 : 1 * l.length ≤ bytes * l.length := Nat.mul_le_mul_right _ hb0
   refine ⟨l, fun s => ⟨⟨rfl, .inr rfl⟩, by rw [List.length_map]; omega, fun es rows e => ?_⟩, hl, (by intro e; cases e), q3⟩
   injection e with e1 e2
   exact e1.symm
theorem tya_one {t : TypeId} {x : A} (h : TyA P t x) (hg : isAggT P t = some false) : ∃ d n, x = .one d ∧ tyD P n t [d] := by
 cases x with
 | one d => exact ⟨d, 30, rfl, h.2⟩
 | agg cs => have := h.1; rw [hg] at this; cases this
theorem tya_agg {t : TypeId} {x : A} (h : TyA P t x) (hg : isAggT P t = some true) : ∃ cs n, x = .agg cs ∧ tyD P n t cs := by
 cases x with
 | one d => have := h.1; rw [hg] at this; cases this
 | agg cs => exact ⟨cs, 30, rfl, h.2⟩
theorem tys_cons {t : TypeId} {ts : List TypeId} {as0 : List A} (h : TyAs P (t :: ts) as0) : ∃ a r, as0 = a :: r ∧ TyA P t a ∧ TyAs P ts r := h
theorem tys_nil {as0 : List A} (h : TyAs P [] as0) : as0 = [] := h
def csZero : Cs → Value
 | .int k => .int k 0
 | .bool => .bool false
 | .str => .string .empty
 | .sl _ => .slice none 0 0
def zeroArg (P : Program) (t : TypeId) : Value := match isAggT P t, cellsSh P 9 t with
 | some true, some l => .agg (l.map csZero).toArray
 | _, some [c] => csZero c
 | _, _ => .int .i64 0
end Go.Fw
namespace Go.Fw
theorem law_fn2 {H : Type} {s : List (DataW H) → Left H} {ds : List (DataW H)} (h : ds.length = 2) (hs : ∀ a b, s [a, b] = { results := [.lit (.bool true)], args := [a, b] } := by intros; rfl) : s ds = { results := [.lit (.bool true)], args := ds } := by
 match ds, h with
 | [a, b], _ => exact hs a b
end Go.Fw
namespace Go.Fw
def EqR {α : Type} (la lb : List α) (n : Int) : Prop := ∃ j : Nat, n = j ∧ j ≤ la.length ∧ la.take j = lb.take j
theorem EqR.start {α : Type} (la lb : List α) : EqR la lb 0 := ⟨0, rfl, by omega, by simp⟩
theorem EqR.step {α : Type} {la lb : List α} {n : Int} {m : Nat} (h : EqR la lb n) (hl : la.length = lb.length) (hm : m = la.length) (hs : la.length < 2 ^ 60) (hlt : n < (m : Int)) :
   ∃ (j : Nat) (x y : α), n = j ∧ la[j]? = some x ∧ lb[j]? = some y ∧ (x ≠ y → la ≠ lb) ∧ (x = y → EqR la lb (w64 (n + 1)) ∧ la.length - (w64 (n + 1)).toNat < la.length - n.toNat) := by
 obtain ⟨j, rfl, hj, hF⟩ := h
 have hj' : j < la.length := by omega
 obtain ⟨x, hx⟩ := get_of_lt hj'
 obtain ⟨y, hy⟩ := get_of_lt (l := lb) (j := j) (by omega)
 refine ⟨j, x, y, rfl, hx, hy, fun hne e => ?_, fun e => ?_⟩
 · subst e; rw [hx] at hy; cases hy; exact hne rfl
 · rw [w64_succ (by omega)]
   refine ⟨⟨j + 1, rfl, by omega, ?_⟩, by omega⟩
   rw [List.take_add_one, List.take_add_one, hF, hx, hy, e]
theorem EqR.done {α : Type} {la lb : List α} {n : Int} {m : Nat} (h : EqR la lb n) (hl : la.length = lb.length) (hm : m = la.length) (hge : ¬ n < (m : Int)) : la = lb := by
 obtain ⟨j, rfl, hj, hF⟩ := h
 have : j = la.length := by omega
 rw [List.take_of_length_le (by omega), List.take_of_length_le (by omega)] at hF
 exact hF
end Go.Fw
namespace Go.Fw
theorem tya_cell {P : Program} {t : TypeId} {x : A} {c : Cs} (h : TyA P t x) (hg : isAggT P t = some false) (hs : cellsSh P 5 t = some [c]) : ∃ d, x = .one d ∧ CsOk P c d := by
 obtain ⟨d, n, rfl, h1⟩ := tya_one h hg
 obtain ⟨d', r, e, h2, h3⟩ := ty_sh n 5 t _ _ h1 hs
 have : d = d' := by injection e
 exact ⟨d, rfl, this ▸ h2⟩
theorem tya_int {P : Program} {t : TypeId} {x : A} (h : TyA P t x) (hg : isAggT P t = some false) (hs : cellsSh P 5 t = some [.int .i64]) : ∃ m, x = iA m ∧ I64 m := by
 obtain ⟨d, rfl, m, rfl, hm⟩ := tya_cell h hg hs
 exact ⟨m, rfl, wf_i64 hm⟩
end Go.Fw
end
namespace Go.Proofs.Ytjdpkjembijbeaa
open Go.Fw Go.Proofs Go.RowKit
section
theorem ty_i {row : List D} {n : Nat} (h : tyD Try.prog n t_int row) : ∃ m, row = Go.Fw.encI m ∧ I64 m := by
 obtain ⟨_, _, rfl, ⟨m, rfl, hm⟩, rfl⟩ := ty_sh n 2 _ _ [.int .i64] h (by kernel_rfl)
 exact ⟨m, rfl, wf_i64 hm⟩
theorem ty_i2 {t : TypeId} {row : List D} {n : Nat} (h : tyD Try.prog n t row) (hs : cellsSh Try.prog 5 t = some [.int .i64, .int .i64]) : ∃ a b, row = [iD a, iD b] ∧ I64 a ∧ I64 b := by
 obtain ⟨_, _, rfl, ⟨a, rfl, ha⟩, _, _, rfl, ⟨b, rfl, hb⟩, rfl⟩ := ty_sh n 5 _ _ _ h hs
 exact ⟨a, b, rfl, wf_i64 ha, wf_i64 hb⟩
theorem ty_i3 {t : TypeId} {row : List D} {n : Nat} (h : tyD Try.prog n t row) (hs : cellsSh Try.prog 5 t = some [.int .i64, .int .i64, .int .i64]) : ∃ a b c, row = [iD a, iD b, iD c] ∧ I64 a ∧ I64 b ∧ I64 c := by
 obtain ⟨_, _, rfl, ⟨a, rfl, ha⟩, _, _, rfl, ⟨b, rfl, hb⟩, _, _, rfl, ⟨c, rfl, hc⟩, rfl⟩ := ty_sh n 5 _ _ _ h hs
 exact ⟨a, b, c, rfl, wf_i64 ha, wf_i64 hb, wf_i64 hc⟩
theorem ty_i4 {t : TypeId} {row : List D} {n : Nat} (h : tyD Try.prog n t row) (hs : cellsSh Try.prog 5 t = some [.int .i64, .int .i64, .int .i64, .int .i64]) : ∃ a b c d, row = [iD a, iD b, iD c, iD d] ∧ I64 a ∧ I64 b ∧ I64 c ∧ I64 d := by
 obtain ⟨_, _, rfl, ⟨a, rfl, ha⟩, _, _, rfl, ⟨b, rfl, hb⟩, _, _, rfl, ⟨c, rfl, hc⟩, _, _, rfl, ⟨d, rfl, hd⟩, rfl⟩ := ty_sh n 5 _ _ _ h hs
 exact ⟨a, b, c, d, rfl, wf_i64 ha, wf_i64 hb, wf_i64 hc, wf_i64 hd⟩
theorem ty_Section {row : List D} {n : Nat} (h : tyD Try.prog n t_Section row) : ∃ s : Sec, row = s.enc ∧ I64 s.Kind ∧ I64 s.OC ∧ I64 s.Line := by
 obtain ⟨a, b, c, rfl, q⟩ := ty_i3 h (by kernel_rfl)
 exact ⟨⟨a, b, c⟩, rfl, q⟩
theorem ty_Joint {row : List D} {n : Nat} (h : tyD Try.prog n t_Joint row) : ∃ s : Jt, row = s.enc ∧ I64 s.A ∧ I64 s.AEnd ∧ I64 s.B ∧ I64 s.BEnd := by
 obtain ⟨a, b, c, d, rfl, q⟩ := ty_i4 h (by kernel_rfl)
 exact ⟨⟨a, b, c, d⟩, rfl, q⟩
theorem ty_Signal {row : List D} {n : Nat} (h : tyD Try.prog n t_Signal row) : ∃ s : Sg, row = s.enc ∧ I64 s.Sec ∧ I64 s.End_ := by
 obtain ⟨a, b, rfl, q⟩ := ty_i2 h (by kernel_rfl)
 exact ⟨⟨a, b⟩, rfl, q⟩
theorem ty_Step {row : List D} {n : Nat} (h : tyD Try.prog n t_Step row) : ∃ s : St, row = s.enc ∧ I64 s.Sec ∧ I64 s.In ∧ I64 s.Out := by
 obtain ⟨a, b, c, rfl, q⟩ := ty_i3 h (by kernel_rfl)
 exact ⟨⟨a, b, c⟩, rfl, q⟩
theorem ty_Need {row : List D} {n : Nat} (h : tyD Try.prog n t_Need row) : ∃ s : Nd, row = s.enc ∧ I64 s.Sec ∧ I64 s.Pos := by
 obtain ⟨a, b, rfl, q⟩ := ty_i2 h (by kernel_rfl)
 exact ⟨⟨a, b⟩, rfl, q⟩
structure RtI (r : Rt) : Prop where
 entry : I64 r.Entry
 exit : I64 r.Exit
 path : ∀ s ∈ r.Path, I64 s.Sec ∧ I64 s.In ∧ I64 s.Out
 flank : ∀ s ∈ r.Flank, I64 s.Sec ∧ I64 s.Pos
 over : ∀ o ∈ r.Overlap, I64 o
 np : 24 * r.Path.length ≤ 140737488351232
 nf : 16 * r.Flank.length ≤ 140737488351232
 no : 8 * r.Overlap.length ≤ 140737488351232
theorem ty_Route {row : List D} {n : Nat} (h : tyD Try.prog n t_Route row) : ∃ r : Rt, (∀ s, RtAt Try.prog t_Step t_Need t_int s row r) ∧ RtI r := by
 obtain ⟨_, _, rfl, ⟨a, rfl, ha⟩, _, _, rfl, ⟨b, rfl, hb⟩, d1, _, rfl, h1, d2, _, rfl, h2, d3, _, rfl, h3, _, _, rfl, ⟨sh, rfl⟩, rfl⟩ := ty_sh n 5 _ _ [.int .i64, .int .i64, .sl t_Step, .sl t_Need, .sl t_int, .bool] h (by kernel_rfl)
 obtain ⟨l1, a1, b1, _, e1⟩ := sh_rows (bytes := 24) St.enc _ (fun row n h => ty_Step h) (by kernel_rfl) (by omega) h1
 obtain ⟨l2, a2, b2, _, e2⟩ := sh_rows (bytes := 16) Nd.enc _ (fun row n h => ty_Need h) (by kernel_rfl) (by omega) h2
 obtain ⟨l3, a3, b3, _, e3⟩ := sh_rows (bytes := 8) Go.Fw.encI _ (fun row n h => ty_i h) (by kernel_rfl) (by omega) h3
 exact ⟨⟨a, b, l1, l2, l3, sh⟩, fun s => ⟨d1, d2, d3, rfl, a1 s, a2 s, a3 s⟩, wf_i64 ha, wf_i64 hb, b1, b2, b3, e1, e2, e3⟩
structure CfI (c : Cf) : Prop where
 secs : ∀ s ∈ c.Secs, I64 s.Kind ∧ I64 s.OC ∧ I64 s.Line
 jts : ∀ s ∈ c.Jts, I64 s.A ∧ I64 s.AEnd ∧ I64 s.B ∧ I64 s.BEnd
 sigs : ∀ s ∈ c.Sigs, I64 s.Sec ∧ I64 s.End_
 xs : ∀ s ∈ c.Xs, I64 s
 rts : ∀ r ∈ c.Rts, RtI r
 age : I64 c.Age
 brake : I64 c.Brake
 hold : I64 c.Hold
 budget : I64 c.Budget
 nsecs : 24 * c.Secs.length ≤ 140737488351232
 njts : 32 * c.Jts.length ≤ 140737488351232
 nsigs : 16 * c.Sigs.length ≤ 140737488351232
 nxs : 8 * c.Xs.length ≤ 140737488351232
 nrts : 96 * c.Rts.length ≤ 140737488351232
theorem ty_Config {cs : List D} {n : Nat} (h : tyD Try.prog n t_Config cs) : ∃ c0 c1 c2 c3 c4 c, cs = [c0, c1, c2, c3, c4, iD c.Age, iD c.Brake, iD c.Hold, iD c.Budget] ∧ (∀ s, CfAt s c0 c1 c2 c3 c4 c) ∧ CfI c := by
 obtain ⟨c0, _, rfl, h0, c1, _, rfl, h1, c2, _, rfl, h2, c3, _, rfl, h3, c4, _, rfl, h4, _, _, rfl, ⟨a, rfl, ha⟩, _, _, rfl, ⟨b, rfl, hb⟩, _, _, rfl, ⟨ho, rfl, hho⟩, _, _, rfl, ⟨bu, rfl, hbu⟩, rfl⟩ :=
   ty_sh n 5 _ _ [.sl t_Section, .sl t_Joint, .sl t_Signal, .sl t_int, .sl t_Route, .int .i64, .int .i64, .int .i64, .int .i64] h (by kernel_rfl)
 obtain ⟨l0, a0, b0, _, e0⟩ := sh_rows (bytes := 24) Sec.enc _ (fun row n h => ty_Section h) (by kernel_rfl) (by omega) h0
 obtain ⟨l1, a1, b1, _, e1⟩ := sh_rows (bytes := 32) Jt.enc _ (fun row n h => ty_Joint h) (by kernel_rfl) (by omega) h1
 obtain ⟨l2, a2, b2, _, e2⟩ := sh_rows (bytes := 16) Sg.enc _ (fun row n h => ty_Signal h) (by kernel_rfl) (by omega) h2
 obtain ⟨l3, a3, b3, _, e3⟩ := sh_rows (bytes := 8) Go.Fw.encI _ (fun row n h => ty_i h) (by kernel_rfl) (by omega) h3
 obtain ⟨rows, l4, a4, q4, b4, _, e4⟩ := sh_rel (bytes := 96) (fun row r => (∀ s, RtAt Try.prog t_Step t_Need t_int s row r) ∧ RtI r) (fun row n h => ty_Route h) (by kernel_rfl) (by omega) h4
 refine ⟨c0, c1, c2, c3, c4, ⟨l0, l1, l2, l3, l4, a, b, ho, bu⟩, rfl, fun s => ⟨a0 s, a1 s, a2 s, a3 s, rows, a4 s, q4, fun i row r x y => (b4 i row r x y).1 s⟩, b0, b1, b2, b3, ?_, wf_i64 ha, wf_i64 hb, wf_i64 hho, wf_i64 hbu, e0, e1, e2, e3, e4⟩
 intro r hr
 obtain ⟨i, hi⟩ := List.mem_iff_getElem?.1 hr
 have hi : l4[i]? = some r := hi
 have hlt := (List.getElem?_eq_some_iff.1 hi).1
 obtain ⟨row, hrow⟩ := get_of_lt (l := rows) (j := i) (by omega)
 exact (b4 i row r hrow hi).2
structure LsI (l : Ls) : Prop where
 ask : I64 l.Ask
 done : I64 l.Done
 grant : I64 l.Grant
 told : I64 l.Told
 pask : I64 l.PAsk
 pdone : I64 l.PDone
 pgrant : I64 l.PGrant
 since : I64 l.Since
structure CoI (k : Co) : Prop where
 own : ∀ o ∈ k.Own, I64 o
 routes : ∀ s ∈ k.Routes, I64 s.State ∧ I64 s.Since ∧ I64 s.Next ∧ I64 s.Mark
 points : ∀ s ∈ k.Points, I64 s.Cmd ∧ I64 s.Other
 xs : ∀ s ∈ k.Xs, I64 s.Cmd ∧ I64 s.Other
 lines : ∀ s ∈ k.Lines, LsI s
 resets : ∀ o ∈ k.Resets, I64 o
structure VwI (v : Vw) : Prop where
 occ : ∀ l ∈ v.Occ, I64 l.Value ∧ I64 l.Stamp
 pos : ∀ l ∈ v.Pos, I64 l.Value ∧ I64 l.Stamp
 shut : ∀ l ∈ v.Shut, I64 l.Value ∧ I64 l.Stamp
 lamp : ∀ l ∈ v.Lamp, I64 l.Value ∧ I64 l.Stamp
end
section
variable {σ : Store}
theorem ref01_SameInts_ok {a b : D} {la lb : List Int} (ha : At Try.prog σ t_int a (la.map Go.Fw.encI)) (hb : At Try.prog σ t_int b (lb.map Go.Fw.encI)) : Pure Try.prog n_ref01_SameInts [.one a, .one b] σ (.a (bA (decide (la = lb)))) := by
 have hs := ha.size
 rw [List.length_map] at hs
 refine W_ref01_SameInts a b σ _ (ha.lenK (hb.lenK ?_))
 rw [List.length_map, List.length_map]
 refine bcn (fun hne => ⟨?_, rfl⟩) (fun he => ha.lenK ?_)
 · rw [decide_eq_false (fun e => hne (by rw [e]))]
 have hl : la.length = lb.length := by omega
 rw [List.length_map]
 refine ⟨fun n s => s = σ ∧ EqR la lb n, fun n _ => la.length - n.toNat, ⟨rfl, .start _ _⟩, ?_⟩
 rintro n s ⟨rfl, hr⟩
 refine bcd (fun hlt => ?_) (fun hge => ⟨?_, rfl⟩)
 · obtain ⟨j, x, y, rfl, hx, hy, hn, hy2⟩ := hr.step hl rfl hs hlt
   refine ha.load (map_get hx) c_int rfl ⟨x, rfl, hb.load (map_get hy) c_int rfl ⟨y, rfl, bcn (fun e => ⟨?_, rfl⟩) (fun e => andl rfl (hy2 e))⟩⟩
   rw [decide_eq_false (hn e)]
 · rw [decide_eq_true (hr.done hl rfl hge)]
theorem ref13_Same_ok {a0 a1 a2 a3 a4 a5 b0 b1 b2 b3 b4 b5 : D} {k k' : Co} (ha : CoAt σ a0 a1 a2 a3 a4 a5 k) (hb : CoAt σ b0 b1 b2 b3 b4 b5 k') :
   Pure Try.prog n_ref13_Same [coA a0 a1 a2 a3 a4 a5 k.Dirty, coA b0 b1 b2 b3 b4 b5 k'.Dirty] σ (.a (bA (decide (k = k')))) := by
 have no : ∀ p : Prop, ¬ p → (k = k' → p) → (RV.a (bA false) = RV.a (bA (decide (k = k'))) ∧ σ = σ) := fun p h1 h2 => ⟨by rw [decide_eq_false (fun e => h1 (h2 e))], rfl⟩
 have s1 := ha.routes.size
 have s2 := ha.points.size
 have s3 := ha.xs.size
 have s4 := ha.lines.size
 rw [List.length_map] at s1 s2 s3 s4
 refine W_ref13_Same a0 a1 a2 a3 a4 a5 k.Dirty b0 b1 b2 b3 b4 b5 k'.Dirty σ _ ?_
 intro R hR
 refine (ref01_SameInts_ok ha.own hb.own).use ⟨_, rfl, bcnot (fun e => no _ (of_decide_eq_false e) (fun e => by rw [e])) (fun e1 => (ref01_SameInts_ok ha.resets hb.resets).use ⟨_, rfl, bcnot (fun e => no _ (of_decide_eq_false e) (fun e => by rw [e])) (fun e2 => bcnot (fun e => no (k.Dirty = k'.Dirty) (by simpa using e) (fun e => by rw [e])) (fun e3 => ?_))⟩)⟩
 refine ha.routes.lenK (hb.routes.lenK (bcn (fun e => no (k.Routes.length = k'.Routes.length) (by simp only [List.length_map] at e; omega) (fun e => by rw [e])) (fun e4 => ?_)))
 refine ha.points.lenK (hb.points.lenK (bcn (fun e => no (k.Points.length = k'.Points.length) (by simp only [List.length_map] at e; omega) (fun e => by rw [e])) (fun e5 => ?_)))
 refine ha.xs.lenK (hb.xs.lenK (bcn (fun e => no (k.Xs.length = k'.Xs.length) (by simp only [List.length_map] at e; omega) (fun e => by rw [e])) (fun e6 => ?_)))
 refine ha.lines.lenK (hb.lines.lenK (bcn (fun e => no (k.Lines.length = k'.Lines.length) (by simp only [List.length_map] at e; omega) (fun e => by rw [e])) (fun e7 => ?_)))
 have e1 := of_decide_eq_true e1
 have e2 := of_decide_eq_true e2
 have e3 : k.Dirty = k'.Dirty := by simpa using e3
 simp only [List.length_map] at e4 e5 e6 e7
 have e4 : k.Routes.length = k'.Routes.length := by omega
 have e5 : k.Points.length = k'.Points.length := by omega
 have e6 : k.Xs.length = k'.Xs.length := by omega
 have e7 : k.Lines.length = k'.Lines.length := by omega
 refine hR σ (ha.routes.lenK ?_)
 rw [List.length_map]
 refine ⟨fun n s => s = σ ∧ EqR k.Routes k'.Routes n, fun n _ => k.Routes.length - n.toNat, ⟨rfl, .start _ _⟩, ?_⟩
 rintro n s ⟨rfl, hr⟩
 refine bcd (fun hlt => ?_) (fun hge => ?_)
 · obtain ⟨j, x, y, rfl, hx, hy, hn, hy2⟩ := hr.step e4 rfl s1 hlt
   refine ha.routes.load (map_get hx) c_RouteState rfl ⟨_, _, _, _, rfl, hb.routes.load (map_get hy) c_RouteState rfl ⟨_, _, _, _, rfl, bcnot (fun e => no (x = y) (fun h => by subst h; simp at e) (fun h => Classical.not_not.1 fun g => hn g (by rw [h]))) (fun e => andl rfl (hy2 ?_))⟩⟩
   cases x; cases y; simp at e; simp [e]
 have e8 := hr.done e4 rfl hge
 refine ha.points.lenK ?_
 rw [List.length_map]
 refine ⟨fun n s' => s' = s ∧ EqR k.Points k'.Points n, fun n _ => k.Points.length - n.toNat, ⟨rfl, .start _ _⟩, ?_⟩
 rintro n s ⟨rfl, hr⟩
 refine bcd (fun hlt => ?_) (fun hge => ?_)
 · obtain ⟨j, x, y, rfl, hx, hy, hn, hy2⟩ := hr.step e5 rfl s2 hlt
   refine ha.points.load (map_get hx) c_Mover rfl ⟨_, _, rfl, hb.points.load (map_get hy) c_Mover rfl ⟨_, _, rfl, bcnot (fun e => no (x = y) (fun h => by subst h; simp at e) (fun h => Classical.not_not.1 fun g => hn g (by rw [h]))) (fun e => andl rfl (hy2 ?_))⟩⟩
   cases x; cases y; simp at e; simp [e]
 have e9 := hr.done e5 rfl hge
 refine ha.xs.lenK ?_
 rw [List.length_map]
 refine ⟨fun n s' => s' = s ∧ EqR k.Xs k'.Xs n, fun n _ => k.Xs.length - n.toNat, ⟨rfl, .start _ _⟩, ?_⟩
 rintro n s ⟨rfl, hr⟩
 refine bcd (fun hlt => ?_) (fun hge => ?_)
 · obtain ⟨j, x, y, rfl, hx, hy, hn, hy2⟩ := hr.step e6 rfl s3 hlt
   refine ha.xs.load (map_get hx) c_Mover rfl ⟨_, _, rfl, hb.xs.load (map_get hy) c_Mover rfl ⟨_, _, rfl, bcnot (fun e => no (x = y) (fun h => by subst h; simp at e) (fun h => Classical.not_not.1 fun g => hn g (by rw [h]))) (fun e => andl rfl (hy2 ?_))⟩⟩
   cases x; cases y; simp at e; simp [e]
 have e10 := hr.done e6 rfl hge
 refine ha.lines.lenK ?_
 rw [List.length_map]
 refine ⟨fun n s' => s' = s ∧ EqR k.Lines k'.Lines n, fun n _ => k.Lines.length - n.toNat, ⟨rfl, .start _ _⟩, ?_⟩
 rintro n s ⟨rfl, hr⟩
 refine bcd (fun hlt => ?_) (fun hge => ⟨?_, rfl⟩)
 · obtain ⟨j, x, y, rfl, hx, hy, hn, hy2⟩ := hr.step e7 rfl s4 hlt
   refine ha.lines.load (map_get hx) c_LineState rfl ⟨_, _, _, _, _, _, _, _, rfl, hb.lines.load (map_get hy) c_LineState rfl ⟨_, _, _, _, _, _, _, _, rfl, bcnot (fun e => no (x = y) (fun h => by subst h; simp at e) (fun h => Classical.not_not.1 fun g => hn g (by rw [h]))) (fun e => andl rfl (hy2 ?_))⟩⟩
   cases x; cases y; simp at e; simp [e]
 have e11 := hr.done e7 rfl hge
 have : k = k' := by
   cases k; cases k'
   simp only at e1 e2 e3 e8 e9 e10 e11
   simp only [e1, e2, e3, e8, e9, e10, e11]
 rw [decide_eq_true this]
end
end Go.Proofs.Ytjdpkjembijbeaa
section
namespace Go.Fw
theorem dec_lt {j n : Nat} (h : j < n) : n - ((j + 1 : Nat) : Int).toNat < n - ((j : Nat) : Int).toNat := by omega
def inL (l : List Int) (n : Int) : Bool := decide (n ∈ l)
theorem xrun_iff (secs : List Sec) : ∀ (l seen : List Int), xrun secs l seen = true ↔ (∀ x ∈ l, ∃ s, geti secs x = some s ∧ s.Line = 0) ∧ l.Nodup ∧ ∀ x ∈ l, x ∉ seen
 | [], seen => by simp [xrun]
 | x :: r, seen => by
   rw [xrun]
   cases hg : geti secs x with
   | none =>
     refine ⟨fun e => by simp at e, fun ⟨h1, _⟩ => ?_⟩
     obtain ⟨s, h, _⟩ := h1 x (by simp)
     rw [hg] at h; cases h
   | some s =>
     simp only
     by_cases h : s.Line = 0 ∧ x ∉ seen
     · rw [if_pos h, xrun_iff secs r (x :: seen)]
       constructor
       · rintro ⟨h1, h2, h3⟩
         refine ⟨fun y hy => ?_, ?_, fun y hy => ?_⟩
         · rcases List.mem_cons.1 hy with rfl | hy
           · exact ⟨s, hg, h.1⟩
           · exact h1 y hy
         · exact List.nodup_cons.2 ⟨fun hx => h3 x hx (by simp), h2⟩
         · rcases List.mem_cons.1 hy with rfl | hy
           · exact h.2
           · exact fun hs => h3 y hy (by simp [hs])
       · rintro ⟨h1, h2, h3⟩
         obtain ⟨h4, h5⟩ := List.nodup_cons.1 h2
         refine ⟨fun y hy => h1 y (by simp [hy]), h5, fun y hy hs => ?_⟩
         rcases List.mem_cons.1 hs with rfl | hs
         · exact h4 hy
         · exact h3 y (by simp [hy]) hs
     · rw [if_neg h]
       refine ⟨fun e => by simp at e, fun ⟨h1, h2, h3⟩ => ?_⟩
       obtain ⟨s', q1, q2⟩ := h1 x (by simp)
       rw [hg] at q1; cases q1
       exact absurd ⟨q2, h3 x (by simp)⟩ h
theorem nxt_mem {js : List Jt} {s e : Int} {p : Int × Int} (h : nxt js s e = some p) : ∃ j ∈ js, (j.B = p.1 ∧ j.BEnd = p.2) ∨ (j.A = p.1 ∧ j.AEnd = p.2) := by
 induction js with
 | nil => cases h
 | cons j r ih =>
   rw [nxt] at h
   split at h
   · cases h; exact ⟨j, by simp, .inl ⟨rfl, rfl⟩⟩
   split at h
   · cases h; exact ⟨j, by simp, .inr ⟨rfl, rfl⟩⟩
   · obtain ⟨k, h1, h2⟩ := ih h
     exact ⟨k, by simp [h1], h2⟩
theorem nxt_sec {c : Cf} (ht : topoOk c.Secs c.Jts = true) {s e q f : Int} (h : nxt c.Jts s e = some (q, f)) : ∃ y, geti c.Secs q = some y := by
 obtain ⟨j, hj, h1⟩ := nxt_mem h
 obtain ⟨_, _, h3⟩ := (topoOk_iff _ _).1 ht
 obtain ⟨a, b, _⟩ := h3 j hj
 have : 0 ≤ q ∧ q < c.Secs.length := by rcases h1 with ⟨e1, _⟩ | ⟨e1, _⟩ <;> simp only at e1 <;> omega
 obtain ⟨y, hy⟩ := get_of_lt (l := c.Secs) (j := q.toNat) (by omega)
 exact ⟨y, by unfold geti; rw [if_neg (by omega), hy]⟩
theorem geti_ex {α : Type} {l : List α} {i : Int} (h0 : ¬ i < 0) (h1 : ¬ i ≥ (l.length : Int)) : ∃ x, geti l i = some x := by
 obtain ⟨x, hx⟩ := get_of_lt (l := l) (j := i.toNat) (by omega)
 exact ⟨x, by unfold geti; rw [if_neg h0]; exact hx⟩
end Go.Fw
namespace Go.Fw
end Go.Fw
end
section
namespace Go.Fw
variable {P : Program} {σ σ' : Store}
theorem Apart.nil (d : D) : Apart .nils d := fun i h => by cases h
end Go.Fw
namespace Go.Fw
variable {P : Program} {σ σ' : Store}
theorem at_lit {s : Store} {el : TypeId} {es : Nat} {rows : List (List D)} (hes : P.cellsOf el = es) (hsz : rows.length < 2 ^ 60) : At P s el (.sl es rows) rows :=
 ⟨⟨rfl, .inr hes.symm⟩, hsz, fun es rows e => by injection e with e1 e2; rw [← e1, hes]⟩
theorem own_id' {σ0 s : Store} {el : TypeId} {d : D} {rs : List (List D)} {i : Nat} (h : Own P σ0 s el d rs) (hi : idOf d = some i) : σ0 i = .free := by
 cases d with
 | osl id a n =>
   have : id = i := by simpa [idOf] using hi
   subst this
   exact h.new _ _ _ rfl
 | _ => simp [idOf] at hi
end Go.Fw
namespace Go.Fw
variable {P : Program} {σ σ' : Store}
theorem Own.put {σ0 : Store} {el : TypeId} {d : D} {rs : List (List D)} {j off n : Nat} {row xs : List D} {K : Store → Prop} (h : Own P σ0 σ el d rs) (hr : rs[j]? = some row) (hn : n = j) (ho : off + xs.length ≤ row.length)
   (hK : ∀ s', Own P σ0 s' el d (rs.set j (patch row off xs)) → (∀ i, idOf d ≠ some i → s' i = σ i) → K s') : storeEl xs σ d n off K :=
 h.at_.store h.nsl hr hn ho fun s' id hid hat hs hne => hK s' ⟨hat, fun i hi => by
   have hne' : i ≠ id := fun e => hi (by rw [e]; exact own_id' h hid)
   rw [hs i hne']; exact h.ext i hi, h.new, h.nsl, h.nz⟩ fun i hi => hs i fun e => hi (by rw [e]; exact hid)
end Go.Fw
namespace Go.Fw
variable {P : Program} {σ σ' : Store}
theorem Own.copy {σ0 : Store} {el : TypeId} {d x : D} {rd rs : List (List D)} {K : Int → Store → Prop} (h : Own P σ0 σ el d rd) (hx : At P σ el x rs)
   (hK : ∀ s', Own P σ0 s' el d (rs.take (min rs.length rd.length) ++ rd.drop (min rs.length rd.length)) → (∀ i, idOf d ≠ some i → s' i = σ i) → K (min (rs.length : Int) (rd.length : Int)) s') : copyTo P σ el d x K := by
 refine ⟨rd, rs, h.at_.rows, hx.rows, ?_⟩
 by_cases hm : min rs.length rd.length = 0
 · refine .inl ⟨hm, ?_⟩
   have := hK σ (by rw [hm]; simpa using h) (fun _ _ => rfl)
   rw [show min (rs.length : Int) (rd.length : Int) = 0 by omega] at this; exact this
 · refine .inr ?_
   have hrow := h.at_.rows
   have hnew := h.new
   have hsz := h.at_.size
   cases d with
   | osl id i0 len =>
     obtain ⟨t, rows, h1, h2, h3, rfl⟩ := hrow
     have hml : min rs.length ((rows.drop i0).take len).length ≤ len := by simp; omega
     have hmr : min rs.length ((rows.drop i0).take len).length ≤ rs.length := Nat.min_le_left _ _
     have hmx : min rs.length ((rows.drop i0).take len).length ≤ ((rows.drop i0).take len).length := Nat.min_le_right _ _
     generalize min rs.length ((rows.drop i0).take len).length = m at *
     have hl : (rows.take i0 ++ rs.take m ++ rows.drop (i0 + m)).length = rows.length := by simp; omega
     refine ⟨id, i0, len, t, rows, rfl, h1, ?_⟩
     refine hK (σ.set id (.live t (rows.take i0 ++ rs.take m ++ rows.drop (i0 + m)))) ⟨⟨⟨t, _, Store.set_same _ _ _, h2, by rw [hl]; exact h3, ?_⟩, by rw [List.length_append, List.length_take, List.length_drop]; omega, fun es rows e => by cases e⟩, fun i hi => ?_, h.new, h.nsl, h.nz⟩ fun i hi => Store.set_ne _ _ fun e => hi (by rw [e]; rfl)
     · have hA : (rs.take m).length = m := by rw [List.length_take]; omega
       generalize rs.take m = A at *
       rw [List.append_assoc, List.drop_left' (by rw [List.length_take]; omega), List.take_append, List.take_of_length_le (show A.length ≤ len by omega), hA, List.drop_take, List.drop_drop]
     · rw [Store.set_ne _ _ (fun e => hi (by rw [e]; exact h.new _ _ _ rfl))]; exact h.ext i hi
   | nils => have : rd = [] := hrow; subst this; simp at hm
   | zsl => exact absurd rfl h.nz
   | sl es rows => exact absurd trivial h.nsl
   | _ => exact hrow.elim
end Go.Fw
namespace Go.Fw
variable {P : Program} {σ σ' : Store}
theorem Own.sub {σ0 : Store} {el : TypeId} {d : D} {rs : List (List D)} {lo hi : Nat} (h : Own P σ0 σ el d rs) (h1 : lo ≤ hi) (h2 : hi ≤ rs.length) : Own P σ0 σ el (dsub d lo hi) ((rs.drop lo).take (hi - lo)) := by
 have hr := h.at_.rows
 have hn := h.new
 have hl := h.nsl
 have hz := h.nz
 refine ⟨h.at_.sub h1 h2, h.ext, ?_, ?_, ?_⟩ <;> cases d <;> simp only [dsub, Rows] at * <;> first | (intro id i n e; cases e; exact hn _ _ _ rfl) | (intro id i n e; cases e; done) | exact hl | (intro e; cases e; done) | exact hr.elim | exact hz
end Go.Fw
end
namespace Go.Proofs.Ytjdpkjembijbeaa
open Go.Fw Go.Proofs Go.RowKit
section
variable {σ : Store}
section
variable {σ0 : Store} {d0 d1 d2 d3 d4 d5 : D} {k : Co}
theorem ext_other {s s' : Store} {i : Nat} (he : Ext σ0 s) (hf : σ0 i = .free) (hs : ∀ j, j ≠ i → s' j = s j) : Ext σ0 s' := fun j hj => by
 rw [hs j (fun e => hj (by rw [e]; exact hf))]; exact he j hj
end
end
section
variable {σ σ0 : Store} {d0 d1 d2 d3 d4 d5 : D} {k : Co}
theorem copy_ok {t : TypeId} {bytes : Nat} {d : D} {rows : List (List D)} {K : D → Store → Prop} (h : At Try.prog σ t d rows) (hb : bytes * rows.length ≤ 140737488355328)
   (hK : ∀ d' s, Own Try.prog σ s t d' rows → K d' s) : Fw.newObj σ (.live t []) fun id σ' => appendTo Try.prog σ' t bytes (.osl id 0 0) d K := by
 refine newObj_intro fun id s hid _ he hs => ?_
 have ho : Own Try.prog σ s t (.osl id 0 0) [] := .at_new hid he hs (by simp) rfl
 exact ho.append (h.ext he) (by simpa using hb) (by have := h.size; simpa using this) fun d' s' ho' _ _ => hK _ _ (by simpa using ho')
structure CoIn (σ0 σ : Store) (id : Nat) (t : TypeId) (pre post : List D) (d0 d1 d2 d3 d4 d5 : D) (k : Co) : Prop where
 new : σ0 id = .free
 row : σ id = .live t [pre ++ ([d0, d1, d2, d3, d4, d5, .bool k.Dirty] ++ post)]
 co : CoOwn σ0 σ d0 d1 d2 d3 d4 d5 k
 ids : ∀ d ∈ [d0, d1, d2, d3, d4, d5], idOf d ≠ some id
theorem CoIn.ext {id t pre post} (h : CoIn σ0 σ id t pre post d0 d1 d2 d3 d4 d5 k) : Ext σ0 σ := h.co.own.ext
theorem CoIn.at {id t pre post} (h : CoIn σ0 σ id t pre post d0 d1 d2 d3 d4 d5 k) : CoAt σ d0 d1 d2 d3 d4 d5 k := h.co.at
theorem CoIn.dirty {id t pre post} (h : CoIn σ0 σ id t pre post d0 d1 d2 d3 d4 d5 k) {b : Bool} {off : Nat} (ho : off = pre.length + 6) {K : Store → Prop}
   (hK : ∀ s', CoIn σ0 s' id t pre post d0 d1 d2 d3 d4 d5 { k with Dirty := b } → (∀ i, i ≠ id → s' i = σ i) → K s') : storeEl [.bool b] σ (.osl id 0 1) 0 off K := by
 refine cell_store h.row (by subst ho; simp; omega) fun s' hs hs' => hK s' ?_ hs'
 have al : ∀ {d : D} {el : TypeId} {rs : List (List D)}, d ∈ [d0, d1, d2, d3, d4, d5] → Own Try.prog σ0 σ el d rs → Own Try.prog σ0 s' el d rs := fun hd g => own_other g h.new (h.ids _ hd) hs'
 refine ⟨h.new, ?_, ⟨al (by simp) h.co.own, al (by simp) h.co.routes, al (by simp) h.co.points, al (by simp) h.co.xs, al (by simp) h.co.lines, al (by simp) h.co.resets, h.co.apart⟩, h.ids⟩
 rw [hs]
 have e : patch (pre ++ ([d0, d1, d2, d3, d4, d5, .bool k.Dirty] ++ post)) off [.bool b] = pre ++ ([d0, d1, d2, d3, d4, d5, .bool b] ++ post) := by
   subst ho
   unfold patch
   rw [List.take_length_add_append, List.length_singleton, Nat.add_assoc, List.drop_length_add_append]
   rw [List.append_assoc, List.append_assoc]; rfl
 rw [e]
theorem CoOwn.putO (h : CoOwn σ0 σ d0 d1 d2 d3 d4 d5 k) {j n off : Nat} {x y : Int} {ys : List D} (hj : k.Own[j]? = some x) (hn : n = j) (ho : off + ys.length ≤ 1) (hp : patch (Go.Fw.encI x) off ys = Go.Fw.encI y) {K : Store → Prop}
   (hK : ∀ s', CoOwn σ0 s' d0 d1 d2 d3 d4 d5 { k with Own := k.Own.set j y } → (∀ i, idOf d0 ≠ some i → s' i = σ i) → K s') : storeEl ys σ d0 n off K := by
 refine h.own.at_.store h.own.nsl (map_get hj) hn ho fun s' i hi hat hs hne => hK s' ?_ fun i' hi' => hs i' fun e => hi' (by rw [e]; exact hi)
 have hf := own_id h.own hi
 have ap : ∀ {m : Nat} {d : D}, [d0, d1, d2, d3, d4, d5][m]? = some d → m ≠ 0 → idOf d ≠ some i := fun hm hne0 => pw h.apart (i := 0) rfl hm (Ne.symm hne0) i hi
 refine ⟨⟨?_, ext_other h.own.ext hf hs, h.own.new, h.own.nsl, h.own.nz⟩, own_other h.routes hf (ap (m := 1) rfl (by omega)) hs, own_other h.points hf (ap (m := 2) rfl (by omega)) hs, own_other h.xs hf (ap (m := 3) rfl (by omega)) hs, own_other h.lines hf (ap (m := 4) rfl (by omega)) hs, own_other h.resets hf (ap (m := 5) rfl (by omega)) hs, h.apart⟩
 rw [hp, map_set (Go.Fw.encI) k.Own j y] at hat; exact hat
theorem CoIn.putO {id t pre post} (h : CoIn σ0 σ id t pre post d0 d1 d2 d3 d4 d5 k) {j n off : Nat} {x y : Int} {ys : List D} (hj : k.Own[j]? = some x) (hn : n = j) (ho : off + ys.length ≤ 1) (hp : patch (Go.Fw.encI x) off ys = Go.Fw.encI y) {K : Store → Prop}
   (hK : ∀ s', CoIn σ0 s' id t pre post d0 d1 d2 d3 d4 d5 { k with Own := k.Own.set j y } → (∀ i, idOf d0 ≠ some i → s' i = σ i) → K s') : storeEl ys σ d0 n off K :=
 h.co.putO hj hn ho hp fun s' h' hs => hK s' ⟨h.new, (hs id (h.ids _ (by simp))).trans h.row, h', h.ids⟩ hs
theorem CoOwn.putR (h : CoOwn σ0 σ d0 d1 d2 d3 d4 d5 k) {j n off : Nat} {x y : Rs} {ys : List D} (hj : k.Routes[j]? = some x) (hn : n = j) (ho : off + ys.length ≤ 4) (hp : patch (Rs.enc x) off ys = Rs.enc y) {K : Store → Prop}
   (hK : ∀ s', CoOwn σ0 s' d0 d1 d2 d3 d4 d5 { k with Routes := k.Routes.set j y } → (∀ i, idOf d1 ≠ some i → s' i = σ i) → K s') : storeEl ys σ d1 n off K := by
 refine h.routes.at_.store h.routes.nsl (map_get hj) hn ho fun s' i hi hat hs hne => hK s' ?_ fun i' hi' => hs i' fun e => hi' (by rw [e]; exact hi)
 have hf := own_id h.routes hi
 have ap : ∀ {m : Nat} {d : D}, [d0, d1, d2, d3, d4, d5][m]? = some d → m ≠ 1 → idOf d ≠ some i := fun hm hne0 => pw h.apart (i := 1) rfl hm (Ne.symm hne0) i hi
 refine ⟨own_other h.own hf (ap (m := 0) rfl (by omega)) hs, ⟨?_, ext_other h.routes.ext hf hs, h.routes.new, h.routes.nsl, h.routes.nz⟩, own_other h.points hf (ap (m := 2) rfl (by omega)) hs, own_other h.xs hf (ap (m := 3) rfl (by omega)) hs, own_other h.lines hf (ap (m := 4) rfl (by omega)) hs, own_other h.resets hf (ap (m := 5) rfl (by omega)) hs, h.apart⟩
 rw [hp, map_set (Rs.enc) k.Routes j y] at hat; exact hat
theorem CoIn.putR {id t pre post} (h : CoIn σ0 σ id t pre post d0 d1 d2 d3 d4 d5 k) {j n off : Nat} {x y : Rs} {ys : List D} (hj : k.Routes[j]? = some x) (hn : n = j) (ho : off + ys.length ≤ 4) (hp : patch (Rs.enc x) off ys = Rs.enc y) {K : Store → Prop}
   (hK : ∀ s', CoIn σ0 s' id t pre post d0 d1 d2 d3 d4 d5 { k with Routes := k.Routes.set j y } → (∀ i, idOf d1 ≠ some i → s' i = σ i) → K s') : storeEl ys σ d1 n off K :=
 h.co.putR hj hn ho hp fun s' h' hs => hK s' ⟨h.new, (hs id (h.ids _ (by simp))).trans h.row, h', h.ids⟩ hs
theorem CoOwn.putP (h : CoOwn σ0 σ d0 d1 d2 d3 d4 d5 k) {j n off : Nat} {x y : Mv} {ys : List D} (hj : k.Points[j]? = some x) (hn : n = j) (ho : off + ys.length ≤ 2) (hp : patch (Mv.enc x) off ys = Mv.enc y) {K : Store → Prop}
   (hK : ∀ s', CoOwn σ0 s' d0 d1 d2 d3 d4 d5 { k with Points := k.Points.set j y } → (∀ i, idOf d2 ≠ some i → s' i = σ i) → K s') : storeEl ys σ d2 n off K := by
 refine h.points.at_.store h.points.nsl (map_get hj) hn ho fun s' i hi hat hs hne => hK s' ?_ fun i' hi' => hs i' fun e => hi' (by rw [e]; exact hi)
 have hf := own_id h.points hi
 have ap : ∀ {m : Nat} {d : D}, [d0, d1, d2, d3, d4, d5][m]? = some d → m ≠ 2 → idOf d ≠ some i := fun hm hne0 => pw h.apart (i := 2) rfl hm (Ne.symm hne0) i hi
 refine ⟨own_other h.own hf (ap (m := 0) rfl (by omega)) hs, own_other h.routes hf (ap (m := 1) rfl (by omega)) hs, ⟨?_, ext_other h.points.ext hf hs, h.points.new, h.points.nsl, h.points.nz⟩, own_other h.xs hf (ap (m := 3) rfl (by omega)) hs, own_other h.lines hf (ap (m := 4) rfl (by omega)) hs, own_other h.resets hf (ap (m := 5) rfl (by omega)) hs, h.apart⟩
 rw [hp, map_set (Mv.enc) k.Points j y] at hat; exact hat
theorem CoIn.putP {id t pre post} (h : CoIn σ0 σ id t pre post d0 d1 d2 d3 d4 d5 k) {j n off : Nat} {x y : Mv} {ys : List D} (hj : k.Points[j]? = some x) (hn : n = j) (ho : off + ys.length ≤ 2) (hp : patch (Mv.enc x) off ys = Mv.enc y) {K : Store → Prop}
   (hK : ∀ s', CoIn σ0 s' id t pre post d0 d1 d2 d3 d4 d5 { k with Points := k.Points.set j y } → (∀ i, idOf d2 ≠ some i → s' i = σ i) → K s') : storeEl ys σ d2 n off K :=
 h.co.putP hj hn ho hp fun s' h' hs => hK s' ⟨h.new, (hs id (h.ids _ (by simp))).trans h.row, h', h.ids⟩ hs
theorem CoOwn.putX (h : CoOwn σ0 σ d0 d1 d2 d3 d4 d5 k) {j n off : Nat} {x y : Mv} {ys : List D} (hj : k.Xs[j]? = some x) (hn : n = j) (ho : off + ys.length ≤ 2) (hp : patch (Mv.enc x) off ys = Mv.enc y) {K : Store → Prop}
   (hK : ∀ s', CoOwn σ0 s' d0 d1 d2 d3 d4 d5 { k with Xs := k.Xs.set j y } → (∀ i, idOf d3 ≠ some i → s' i = σ i) → K s') : storeEl ys σ d3 n off K := by
 refine h.xs.at_.store h.xs.nsl (map_get hj) hn ho fun s' i hi hat hs hne => hK s' ?_ fun i' hi' => hs i' fun e => hi' (by rw [e]; exact hi)
 have hf := own_id h.xs hi
 have ap : ∀ {m : Nat} {d : D}, [d0, d1, d2, d3, d4, d5][m]? = some d → m ≠ 3 → idOf d ≠ some i := fun hm hne0 => pw h.apart (i := 3) rfl hm (Ne.symm hne0) i hi
 refine ⟨own_other h.own hf (ap (m := 0) rfl (by omega)) hs, own_other h.routes hf (ap (m := 1) rfl (by omega)) hs, own_other h.points hf (ap (m := 2) rfl (by omega)) hs, ⟨?_, ext_other h.xs.ext hf hs, h.xs.new, h.xs.nsl, h.xs.nz⟩, own_other h.lines hf (ap (m := 4) rfl (by omega)) hs, own_other h.resets hf (ap (m := 5) rfl (by omega)) hs, h.apart⟩
 rw [hp, map_set (Mv.enc) k.Xs j y] at hat; exact hat
theorem CoIn.putX {id t pre post} (h : CoIn σ0 σ id t pre post d0 d1 d2 d3 d4 d5 k) {j n off : Nat} {x y : Mv} {ys : List D} (hj : k.Xs[j]? = some x) (hn : n = j) (ho : off + ys.length ≤ 2) (hp : patch (Mv.enc x) off ys = Mv.enc y) {K : Store → Prop}
   (hK : ∀ s', CoIn σ0 s' id t pre post d0 d1 d2 d3 d4 d5 { k with Xs := k.Xs.set j y } → (∀ i, idOf d3 ≠ some i → s' i = σ i) → K s') : storeEl ys σ d3 n off K :=
 h.co.putX hj hn ho hp fun s' h' hs => hK s' ⟨h.new, (hs id (h.ids _ (by simp))).trans h.row, h', h.ids⟩ hs
theorem CoOwn.putL (h : CoOwn σ0 σ d0 d1 d2 d3 d4 d5 k) {j n off : Nat} {x y : Ls} {ys : List D} (hj : k.Lines[j]? = some x) (hn : n = j) (ho : off + ys.length ≤ 8) (hp : patch (Ls.enc x) off ys = Ls.enc y) {K : Store → Prop}
   (hK : ∀ s', CoOwn σ0 s' d0 d1 d2 d3 d4 d5 { k with Lines := k.Lines.set j y } → (∀ i, idOf d4 ≠ some i → s' i = σ i) → K s') : storeEl ys σ d4 n off K := by
 refine h.lines.at_.store h.lines.nsl (map_get hj) hn ho fun s' i hi hat hs hne => hK s' ?_ fun i' hi' => hs i' fun e => hi' (by rw [e]; exact hi)
 have hf := own_id h.lines hi
 have ap : ∀ {m : Nat} {d : D}, [d0, d1, d2, d3, d4, d5][m]? = some d → m ≠ 4 → idOf d ≠ some i := fun hm hne0 => pw h.apart (i := 4) rfl hm (Ne.symm hne0) i hi
 refine ⟨own_other h.own hf (ap (m := 0) rfl (by omega)) hs, own_other h.routes hf (ap (m := 1) rfl (by omega)) hs, own_other h.points hf (ap (m := 2) rfl (by omega)) hs, own_other h.xs hf (ap (m := 3) rfl (by omega)) hs, ⟨?_, ext_other h.lines.ext hf hs, h.lines.new, h.lines.nsl, h.lines.nz⟩, own_other h.resets hf (ap (m := 5) rfl (by omega)) hs, h.apart⟩
 rw [hp, map_set (Ls.enc) k.Lines j y] at hat; exact hat
theorem CoIn.putL {id t pre post} (h : CoIn σ0 σ id t pre post d0 d1 d2 d3 d4 d5 k) {j n off : Nat} {x y : Ls} {ys : List D} (hj : k.Lines[j]? = some x) (hn : n = j) (ho : off + ys.length ≤ 8) (hp : patch (Ls.enc x) off ys = Ls.enc y) {K : Store → Prop}
   (hK : ∀ s', CoIn σ0 s' id t pre post d0 d1 d2 d3 d4 d5 { k with Lines := k.Lines.set j y } → (∀ i, idOf d4 ≠ some i → s' i = σ i) → K s') : storeEl ys σ d4 n off K :=
 h.co.putL hj hn ho hp fun s' h' hs => hK s' ⟨h.new, (hs id (h.ids _ (by simp))).trans h.row, h', h.ids⟩ hs
end
end Go.Proofs.Ytjdpkjembijbeaa
namespace Go.Fw
section
section
variable {occ : List Lk} {now : Int} {was may : Bool} {x : Ls} {o : Int} {s : Nat} {lk : Lk}
end
structure SameBut (k k' : Co) (l s : Nat) : Prop where
 routes : k'.Routes = k.Routes
 lines : ∀ m, m ≠ l → k'.Lines[m]? = k.Lines[m]?
 own : ∀ t, t ≠ s → k'.Own[t]? = k.Own[t]?
end
section
def apprS (c : Cf) (l : List Int) : List Rs → Nat → Bool
 | [], _ => false
 | r :: rs, j => (decide (r.State ≠ 0) && inL l (c.Approach j)) || apprS c l rs (j + 1)
end
end Go.Fw
section
namespace Go.Fw
structure StOk (c : Cf) (r : Rt) (s : St) : Prop where
 sec : ∃ y, geti c.Secs s.Sec = some y ∧ (wpos (wayL y.Kind) s.In s.Out).isSome = true ∧ (r.Shunt = true → y.Line = 0)
theorem prunA_facts {c : Cf} (ht : topoOk c.Secs c.Jts = true) (r : Rt) (ex : Option Sg) : ∀ (l : List St) (a : Sg) (seen : List Int), prunA c r ex l a seen = true →
   (∀ s ∈ l, StOk c r s ∧ s.Sec ∉ seen) ∧ (l.map St.Sec).Nodup
 | [], a, seen, _ => ⟨fun s hs => by simp at hs, by simp⟩
 | s :: rest, a, seen, h => by
   rw [prunA, Bool.and_eq_true] at h
   obtain ⟨h1, h2⟩ := h
   obtain ⟨q1, q2⟩ := prunA_facts ht r ex rest _ _ h2
   unfold pstep at h1
   cases hn : nxt c.Jts a.Sec a.End_ with
   | none => rw [hn] at h1; cases h1
   | some p =>
     obtain ⟨q, i⟩ := p
     rw [hn] at h1
     obtain ⟨y, hy⟩ := nxt_sec ht hn
     simp only [hy, Option.getD_some, Bool.and_eq_true, decide_eq_true_eq, Bool.not_eq_true'] at h1
     obtain ⟨⟨⟨⟨⟨rfl, e2⟩, e3⟩, e4⟩, e5⟩, e6⟩ := h1
     refine ⟨fun x hx => ?_, ?_⟩
     · rcases List.mem_cons.1 hx with rfl | hx
       · refine ⟨⟨y, hy, e3, fun hs => ?_⟩, e4⟩
         rw [hs, Bool.true_and, decide_eq_false_iff_not] at e6
         exact Decidable.not_not.1 e6
       · obtain ⟨w1, w2⟩ := q1 x hx
         exact ⟨w1, fun hm => w2 (List.mem_cons_of_mem _ hm)⟩
     · rw [List.map_cons, List.nodup_cons]
       refine ⟨fun hm => ?_, q2⟩
       obtain ⟨x, hx, e⟩ := List.mem_map.1 hm
       exact (q1 x hx).2 (by rw [e]; simp)
structure RtOk (c : Cf) (r : Rt) : Prop where
 entry : ∃ a, geti c.Sigs r.Entry = some a
 exit_ : r.Exit = -1 ∨ ∃ x, geti c.Sigs r.Exit = some x
 len : 1 ≤ r.Path.length ∧ r.Path.length ≤ 8
 step : ∀ s ∈ r.Path, StOk c r s ∧ s.Sec ≠ c.approach r
 dup : (r.Path.map St.Sec).Nodup
 flank : r.Flank = c.flank (c.approach r) r.Path
 over : r.Overlap = c.overlap r
theorem routes_zero {c : Cf} : ∀ {l : List Rt}, c.routes l = 0 → ∀ r ∈ l, c.route r = 0
 | [], _, r, hr => by simp at hr
 | x :: l, h, r, hr => by
   rw [Cf.routes] at h
   split at h
   · rename_i hne; exact absurd h hne
   · rename_i he
     rcases List.mem_cons.1 hr with rfl | hr
     · simpa using he
     · exact routes_zero h r hr
theorem check_parts {c : Cf} (h : c.check = 0) : topoOk c.Secs c.Jts = true ∧ c.sigsOk = true ∧ c.xsOk = true ∧ c.Rts.length ≤ 12 ∧ c.routes c.Rts = 0 ∧ c.timing = true := by
 unfold Cf.check at h
 split at h
 · cases h
 split at h
 · cases h
 split at h
 · cases h
 split at h
 · cases h
 split at h
 · rename_i hne; exact absurd h hne
 split at h
 · rename_i h1 h2 h3 h4 h5 h6
   exact ⟨by simpa using h1, by simpa using h2, by simpa using h3, by omega, by simpa using h5, h6⟩
 · cases h
theorem path_ok {c : Cf} (ht : topoOk c.Secs c.Jts = true) {r : Rt} (h : c.route r = 0) : RtOk c r := by
 unfold Cf.route at h
 split at h
 · cases h
 split at h
 · cases h
 split at h
 · cases h
 rename_i h1 h2 h3
 have h1 : c.path r = true := by simpa using h1
 unfold Cf.path at h1
 cases hg : geti c.Sigs r.Entry with
 | none => rw [hg] at h1; cases h1
 | some a =>
   rw [hg] at h1
   simp only [Bool.and_eq_true, Bool.or_eq_true, decide_eq_true_eq] at h1
   obtain ⟨⟨e1, e2⟩, e3⟩ := h1
   obtain ⟨q1, q2⟩ := prunA_facts ht r _ _ _ _ e3
   have ha : c.approach r = a.Sec := by rw [Cf.approach, hg]; rfl
   refine ⟨⟨a, hg⟩, e1.imp id Option.isSome_iff_exists.1, e2, fun s hs => ⟨(q1 s hs).1, fun e => (q1 s hs).2 (by rw [e, ha]; simp)⟩, q2, Decidable.not_not.1 h2, Decidable.not_not.1 h3⟩
theorem check_rt {c : Cf} (h : c.check = 0) {r : Rt} (hr : r ∈ c.Rts) : RtOk c r := by
 obtain ⟨h1, _, _, _, h5, _⟩ := check_parts h
 exact path_ok h1 (routes_zero h5 r hr)
structure NdOk (c : Cf) (a : Int) (path : List St) (n : Nd) : Prop where
 sec : ∃ y, geti c.Secs n.Sec = some y ∧ y.Kind = 1
 pos : 1 ≤ n.Pos ∧ n.Pos ≤ 2
 app : n.Sec ≠ a
 path : hasSec path n.Sec = false
def FlOk (c : Cf) (a : Int) (path : List St) (out : List Nd) : Prop := (∀ n ∈ out, NdOk c a path n) ∧ (out.map Nd.Sec).Nodup
theorem flankStep_ok {c : Cf} {a : Int} {p : List St} {s : St} {out : List Nd} {e : Int} (h : FlOk c a p out) : FlOk c a p (flankStep c a p s out e) := by
 unfold flankStep
 split
 · exact h
 · split
   · exact h
   · split
     · exact h
     · rename_i y hy
       split
       · rename_i hc
         obtain ⟨c1, c2, c3, c4, c5⟩ := hc
         refine ⟨fun n hn => ?_, ?_⟩
         · rcases List.mem_append.1 hn with hn | hn
           · exact h.1 n hn
           · rw [List.mem_singleton] at hn; subst hn
             exact ⟨⟨y, hy, c1⟩, by simp only; omega, c3, c4⟩
         · rw [List.map_append, List.nodup_append]
           refine ⟨h.2, by simp, fun x hx z hz => ?_⟩
           simp only [List.map_cons, List.map_nil, List.mem_singleton] at hz
           subst hz
           intro e
           obtain ⟨n, hn, e2⟩ := List.mem_map.1 hx
           rw [List.any_eq_false] at c5
           exact c5 n hn (by rw [e2, e]; simp)
       · exact h
theorem flankEnds_ok {c : Cf} {a : Int} {p : List St} {s : St} : ∀ (n : Nat) (e : Int) (out : List Nd), FlOk c a p out → FlOk c a p (flankEnds c a p s n e out)
 | 0, _, _, h => h
 | n + 1, e, out, h => by rw [flankEnds]; exact flankEnds_ok n _ _ (flankStep_ok h)
theorem flankRun_ok {c : Cf} {a : Int} {p : List St} : ∀ (l : List St) (out : List Nd), FlOk c a p out → FlOk c a p (flankRun c a p l out)
 | [], _, h => h
 | s :: r, out, h => by
   rw [flankRun]
   refine flankRun_ok r _ ?_
   split
   · exact h
   · exact flankEnds_ok _ _ _ h
theorem flank_ok (c : Cf) (a : Int) (p : List St) : FlOk c a p (c.flank a p) := flankRun_ok p [] ⟨fun n h => by simp at h, by simp⟩
theorem flank_len (c : Cf) (a : Int) (p : List St) : (c.flank a p).length ≤ 4 * p.length := by
 have := (flankRun_len c a p p []).2
 simpa [Cf.flank] using this
theorem over_ok {c : Cf} {r : Rt} {q : Int} (h : q ∈ c.overlap r) : (∃ y, geti c.Secs q = some y ∧ y.Line = 0) ∧ hasSec r.Path q = false ∧ q ≠ c.approach r := by
 unfold Cf.overlap at h
 split at h
 · simp at h
 split at h
 · simp at h
 split at h
 · simp at h
 split at h
 · simp at h
 rename_i y hy
 split at h
 · rename_i hc
   rw [List.mem_singleton] at h; subst h
   exact ⟨⟨y, hy, hc.1⟩, hc.2.1, hc.2.2⟩
 · simp at h
theorem over_len (c : Cf) (r : Rt) : (c.overlap r).length ≤ 1 := by
 unfold Cf.overlap
 split
 · simp
 split
 · simp
 split
 · simp
 split
 · simp
 split <;> simp
theorem RtOk.fl {c : Cf} {r : Rt} (h : RtOk c r) : FlOk c (c.approach r) r.Path r.Flank := by rw [h.flank]; exact flank_ok _ _ _
theorem RtOk.flen {c : Cf} {r : Rt} (h : RtOk c r) : r.Flank.length ≤ 32 := by
 rw [h.flank]; have := flank_len c (c.approach r) r.Path; have := h.len; omega
theorem RtOk.olen {c : Cf} {r : Rt} (h : RtOk c r) : r.Overlap.length ≤ 1 := by rw [h.over]; exact over_len _ _
theorem RtOk.ov {c : Cf} {r : Rt} (h : RtOk c r) {q : Int} (hq : q ∈ r.Overlap) : (∃ y, geti c.Secs q = some y ∧ y.Line = 0) ∧ hasSec r.Path q = false ∧ q ≠ c.approach r := by rw [h.over] at hq; exact over_ok hq
theorem check_xs {c : Cf} (h : c.check = 0) : (∀ x ∈ c.Xs, ∃ s, geti c.Secs x = some s ∧ s.Line = 0) ∧ c.Xs.Nodup ∧ c.Xs.length ≤ 4 := by
 obtain ⟨_, _, h3, _⟩ := check_parts h
 rw [Cf.xsOk, Bool.and_eq_true, xrun_iff] at h3
 exact ⟨h3.1.1, h3.1.2.1, of_decide_eq_true h3.2⟩
theorem geti_nat {α : Type} {l : List α} {j : Nat} : geti l (j : Int) = l[j]? := by unfold geti; rw [if_neg (by omega), Int.toNat_natCast]
end Go.Fw
namespace Go.Fw
end Go.Fw
end
namespace Go.Fw
section
def zRt : Rt := ⟨0, 0, [], [], [], false⟩
def Cf.rt (c : Cf) (i : Int) : Rt := (geti c.Rts i).getD zRt
def needOf (c : Cf) (s : St) : Option Nd :=
 match geti c.Secs s.Sec with
 | none => none
 | some y => match wpos (wayL y.Kind) s.In s.Out with
   | none => none
   | some p => if p = 0 then none else some ⟨s.Sec, p⟩
def Cf.needs (c : Cf) (r : Rt) : List Nd := r.Path.filterMap (needOf c) ++ r.Flank
def Cf.Needs (c : Cf) (i : Int) : List Nd := c.needs (c.rt i)
def crossL (path : List St) : List Int → Nat → List Int
 | [], _ => []
 | x :: r, j => if hasSec path x = true then (j : Int) :: crossL path r (j + 1) else crossL path r (j + 1)
def Cf.Cross (c : Cf) (i : Int) : List Int := crossL (c.rt i).Path c.Xs 0
theorem rt_some {c : Cf} {i : Int} {r : Rt} (h : geti c.Rts i = some r) : c.rt i = r := by unfold Cf.rt; rw [h]; rfl
theorem rt_none {c : Cf} {i : Int} (h : geti c.Rts i = none) : c.rt i = zRt := by unfold Cf.rt; rw [h]; rfl
theorem crossL_len (path : List St) : ∀ (l : List Int) (j : Nat), (crossL path l j).length ≤ l.length
 | [], _ => by simp [crossL]
 | x :: r, j => by
   rw [crossL]; have := crossL_len path r (j + 1)
   split <;> simp <;> omega
theorem crossL_mem (path : List St) : ∀ (l : List Int) (j : Nat) (n : Int), n ∈ crossL path l j → ∃ (i : Nat) (x : Int), n = ((j + i : Nat) : Int) ∧ l[i]? = some x ∧ hasSec path x = true
 | [], j, n, h => by simp [crossL] at h
 | x :: r, j, n, h => by
   have go : n ∈ crossL path r (j + 1) → ∃ (i : Nat) (y : Int), n = ((j + i : Nat) : Int) ∧ (x :: r)[i]? = some y ∧ hasSec path y = true := fun h => by
     obtain ⟨i, y, h1, h2, h3⟩ := crossL_mem path r (j + 1) n h
     exact ⟨i + 1, y, by omega, by simpa using h2, h3⟩
   rw [crossL] at h
   split at h
   · rename_i hx
     rcases List.mem_cons.1 h with rfl | h
     · exact ⟨0, x, by simp, rfl, hx⟩
     · exact go h
   · exact go h
theorem needs_len (c : Cf) (r : Rt) : (c.needs r).length ≤ r.Path.length + r.Flank.length := by
 unfold Cf.needs
 rw [List.length_append]
 have := List.length_filterMap_le (needOf c) r.Path
 omega
theorem needs_sec {c : Cf} {r : Rt} (h : RtOk c r) {n : Nd} (hn : n ∈ c.needs r) : (∃ y, geti c.Secs n.Sec = some y) ∧ 1 ≤ n.Pos ∧ n.Pos ≤ 2 := by
 unfold Cf.needs at hn
 rcases List.mem_append.1 hn with hn | hn
 · obtain ⟨s, hs, e⟩ := List.mem_filterMap.1 hn
   obtain ⟨⟨y, hy, _⟩⟩ := (h.step s hs).1
   unfold needOf at e
   rw [hy] at e
   simp only at e
   cases hp : wpos (wayL y.Kind) s.In s.Out with
   | none => rw [hp] at e; cases e
   | some p =>
     rw [hp] at e
     simp only at e
     split at e
     · cases e
     · rename_i hp0
       injection e with e; subst e
       refine ⟨⟨y, hy⟩, ?_⟩
       have key : ∀ (l : List (Int × Int × Int)), (∀ w ∈ l, w.2.2 = 0 ∨ w.2.2 = 1 ∨ w.2.2 = 2) → ∀ p, wpos l s.In s.Out = some p → p = 0 ∨ p = 1 ∨ p = 2 := by
         intro l
         induction l with
         | nil => intro _ p h; cases h
         | cons w r ih =>
           intro hw p h
           rw [wpos] at h
           split at h
           · injection h with h; rw [← h]; exact hw w (by simp)
           · exact ih (fun w hw' => hw w (by simp [hw'])) p h
       have hw : ∀ w ∈ wayL y.Kind, w.2.2 = 0 ∨ w.2.2 = 1 ∨ w.2.2 = 2 := by
         unfold wayL
         split
         · simp
         split
         · simp
         split
         · simp
         · simp
       have := key _ hw p hp
       simp only
       omega
 · have := h.fl.1 n hn
   obtain ⟨y, hy, _⟩ := this.sec
   exact ⟨⟨y, hy⟩, this.pos⟩
end
end Go.Fw
namespace Go.Proofs.Ytjdpkjembijbeaa
open Go.Fw Go.Proofs Go.RowKit
section
variable {σ : Store}
section
variable {c0 c1 c2 c3 c4 : D} {c : Cf} (h : ∀ s, CfAt s c0 c1 c2 c3 c4 c)
include h
theorem rt_frz {i : Nat} {x : Rt} (hx : c.Rts[i]? = some x) : ∃ rows d1 d2 d3, (∀ s, At Try.prog s t_Route c4 rows) ∧ rows.length = c.Rts.length ∧ rows[i]? = some [iD x.Entry, iD x.Exit, d1, d2, d3, .bool x.Shunt] ∧
   (∀ s, At Try.prog s t_Step d1 (x.Path.map St.enc)) ∧ (∀ s, At Try.prog s t_Need d2 (x.Flank.map Nd.enc)) ∧ (∀ s, At Try.prog s t_int d3 (x.Overlap.map Go.Fw.encI)) := by
 obtain ⟨rows, hat, hlen, hrow⟩ := rts_froz fun s => (h s).rts
 obtain ⟨row, hrw⟩ := get_of_lt (l := rows) (j := i) (by have := (List.getElem?_eq_some_iff.1 hx).1; omega)
 obtain ⟨d1, d2, d3, rfl, q1, q2, q3⟩ := hrow i row x hrw hx
 exact ⟨rows, d1, d2, d3, hat, hlen, hrw, q1, q2, q3⟩
theorem mover_route_ok (i : Int) : DCalls Try.prog n_mover_route [cfA c0 c1 c2 c3 c4 c, iA i] σ fun r s => s = σ ∧ ∃ d1 d2 d3, r = .tup [rtA d1 d2 d3 (c.rt i), bA (geti c.Rts i).isSome] ∧
   (∀ s, At Try.prog s t_Step d1 ((c.rt i).Path.map St.enc)) ∧ (∀ s, At Try.prog s t_Need d2 ((c.rt i).Flank.map Nd.enc)) ∧ (∀ s, At Try.prog s t_int d3 ((c.rt i).Overlap.map Go.Fw.encI)) := by
 have no : geti c.Rts i = none → (σ = σ ∧ ∃ d1 d2 d3, RV.tup [.agg [iD 0, iD 0, .nils, .nils, .nils, .bool false], bA false] = .tup [rtA d1 d2 d3 (c.rt i), bA (geti c.Rts i).isSome] ∧
   (∀ s, At Try.prog s t_Step d1 ((c.rt i).Path.map St.enc)) ∧ (∀ s, At Try.prog s t_Need d2 ((c.rt i).Flank.map Nd.enc)) ∧ (∀ s, At Try.prog s t_int d3 ((c.rt i).Overlap.map Go.Fw.encI))) := fun e => by
   rw [rt_none e, e]
   exact ⟨rfl, _, _, _, rfl, fun _ => .nil, fun _ => .nil, fun _ => .nil⟩
 obtain ⟨rows, hat, hlen⟩ := rts_len (h σ)
 refine W_mover_route _ _ _ _ _ _ _ _ _ i σ _ (bcd (fun e => no (geti_neg e)) (fun e0 => hat.lenK (bcd (fun e => no (geti_ge (by omega))) (fun e1 => ?_))))
 obtain ⟨x, hx⟩ := geti_ex (l := c.Rts) (i := i) e0 (by omega)
 obtain ⟨rows, d1, d2, d3, hat, hlen, hrow, q1, q2, q3⟩ := rt_frz h (geti_some hx).2.2
 refine (hat σ).load hrow c_Route (by omega) ⟨_, _, _, _, _, _, rfl, ?_⟩
 rw [rt_some hx, hx]
 exact ⟨rfl, _, _, _, rfl, q1, q2, q3⟩
theorem mover_Needs_ok (i : Int) (h1 : (c.rt i).Path.length ≤ 2 ^ 20) (h2 : (c.rt i).Flank.length ≤ 2 ^ 20) :
   DCalls Try.prog n_mover_Needs [cfA c0 c1 c2 c3 c4 c, iA i] σ (SlPost σ t_Need ((c.Needs i).map Nd.enc)) := by
 refine (W_mover_Needs _ _ _ _ _ _ _ _ _ i σ _ ?_).ret (Q := fun r s => ∃ r' σ', Ret Try.prog σ s r σ' r' ∧ SlPost σ t_Need ((c.Needs i).map Nd.enc) r' σ') (fun r s h => h)
 refine (mover_route_ok h i).mono ?_
 rintro r s ⟨rfl, d1, d2, d3, rfl, q1, q2, q3⟩
 rw [Cf.Needs]
 generalize c.rt i = x at *
 refine ⟨_, _, _, _, _, _, _, rfl, (q1 s).lenK ⟨fun d n s' => ∃ out : List Nd, Own Try.prog s s' t_Need d (out.map Nd.enc) ∧ (out.length : Int) ≤ n ∧ Rng x.Path (fun r => out ++ r.filterMap (needOf c) = x.Path.filterMap (needOf c)) n,
   fun _ n _ => x.Path.length - n.toNat, ⟨[], .nil _ (.refl _), by simp, .start rfl⟩, ?_⟩⟩
 rintro d n s' ⟨out, ho, hol, hr⟩
 rw [List.length_map]
 refine bcd (fun hlt => ?_) (fun hge => ?_)
 · obtain ⟨j, y, rfl, hy, hj, hF, nx⟩ := hr.step rfl (by omega) hlt
   rw [List.filterMap_cons] at hF
   have skip : needOf c y = none → ∀ s2, Ext s' s2 → (∃ out : List Nd, Own Try.prog s s2 t_Need d (out.map Nd.enc) ∧ (out.length : Int) ≤ w64 ((j : Int) + 1) ∧ Rng x.Path (fun r => out ++ r.filterMap (needOf c) = x.Path.filterMap (needOf c)) (w64 ((j : Int) + 1))) ∧
       x.Path.length - (w64 ((j : Int) + 1)).toNat < x.Path.length - (j : Int).toNat := fun hn s2 he => by
     rw [hn] at hF
     have := nx (fun r => out ++ r.filterMap (needOf c) = x.Path.filterMap (needOf c)) hF
     exact ⟨⟨out, ho.ext' he, by rw [w64_succ (by omega)]; omega, this.1⟩, this.2⟩
   refine (q1 s').load (map_get hy) c_Step rfl ⟨y.Sec, y.In, y.Out, rfl, bcd (fun e => ⟨rfl, skip (by unfold needOf; rw [geti_neg e]) _ (.refl _)⟩) (fun e0 => (h s').secs.lenK ?_)⟩
   rw [List.length_map]
   refine bcd (fun e => ⟨rfl, skip (by unfold needOf; rw [geti_ge e]) _ (.refl _)⟩) (fun e1 => ?_)
   obtain ⟨z, hz⟩ := geti_ex e0 e1
   have hneed : needOf c y = match wpos (wayL z.Kind) y.In y.Out with | none => none | some p => if p = 0 then none else some ⟨y.Sec, p⟩ := by unfold needOf; rw [hz] <;> rfl
   refine (h s').secs.load (map_get (geti_some hz).2.2) c_Section (by omega) ⟨z.Kind, rfl, (topo_Pos_ok _ _ _).use (opt1_ex _ ?_)⟩
   cases hp : wpos (wayL z.Kind) y.In y.Out with
   | none => rw [hp] at hneed; exact bc (fun e => by cases e) (fun _ => ⟨rfl, skip hneed _ (.refl _)⟩)
   | some p =>
     rw [hp] at hneed
     refine bc (fun _ => bcn (fun e => ?_) (fun e => ⟨rfl, skip (by rw [hneed]; exact if_pos e) _ (.refl _)⟩)) (fun e => by cases e)
     have hsome : needOf c y = some ⟨y.Sec, p⟩ := by rw [hneed]; exact if_neg e
     rw [hsome] at hF
     refine newObj_intro fun id s2 hid _ he hs2 => (ho.ext' he).append (At.fresh hs2 (by simp) rfl) (by simp; omega) (by simp; omega) fun d4 s5 ho5 _ _ => ⟨rfl, ?_⟩
     have := nx (fun r => (out ++ [⟨y.Sec, p⟩]) ++ r.filterMap (needOf c) = x.Path.filterMap (needOf c)) (by rw [List.append_assoc]; exact hF)
     exact ⟨⟨out ++ [⟨y.Sec, p⟩], by rw [List.map_append]; exact ho5, by rw [w64_succ (by omega), List.length_append, List.length_singleton]; omega, this.1⟩, this.2⟩
 · have hF := hr.done rfl hge
   have hn : n ≤ x.Path.length := by obtain ⟨j, rfl, hj, _⟩ := hr; omega
   rw [List.filterMap_nil, List.append_nil] at hF
   subst hF
   refine ho.append (q2 s') (by simp only [List.length_map]; omega) (by simp only [List.length_map]; omega) fun d4 s5 ho5 _ _ => ?_
   rw [← List.map_append] at ho5
   exact own_fin ho5 (flatNd _)
theorem mover_Crossings_ok (i : Int) (h1 : c.Xs.length ≤ 2 ^ 20) :
   DCalls Try.prog n_mover_Crossings [cfA c0 c1 c2 c3 c4 c, iA i] σ (SlPost σ t_int ((c.Cross i).map Go.Fw.encI)) := by
 refine (W_mover_Crossings _ _ _ _ _ _ _ _ _ i σ _ ?_).ret (Q := fun r s => ∃ r' σ', Ret Try.prog σ s r σ' r' ∧ SlPost σ t_int ((c.Cross i).map Go.Fw.encI) r' σ') (fun r s h => h)
 refine (mover_route_ok h i).mono ?_
 rintro r s ⟨rfl, d1, d2, d3, rfl, q1, q2, q3⟩
 rw [Cf.Cross]
 generalize c.rt i = x at *
 refine ⟨_, _, _, _, _, _, _, rfl, (h s).xs.lenK ⟨fun d n s' => ∃ out : List Int, Own Try.prog s s' t_int d (out.map Go.Fw.encI) ∧ (out.length : Int) ≤ n ∧ Rng c.Xs (fun r => out ++ crossL x.Path r n.toNat = crossL x.Path c.Xs 0) n,
   fun _ n _ => c.Xs.length - n.toNat, ⟨[], .nil _ (.refl _), by simp, .start rfl⟩, ?_⟩⟩
 rintro d n s' ⟨out, ho, hol, hr⟩
 rw [List.length_map]
 refine bcd (fun hlt => ?_) (fun hge => ?_)
 · obtain ⟨j, y, rfl, hy, hj, hF, nx⟩ := hr.step rfl (by omega) hlt
   have hw : w64 ((j : Int) + 1) = ((j + 1 : Nat) : Int) := w64_succ (by omega)
   have go : ∀ out2 d2 s2, out2 ++ crossL x.Path (c.Xs.drop (j + 1)) (j + 1) = crossL x.Path c.Xs 0 → Own Try.prog s s2 t_int d2 (out2.map Go.Fw.encI) → out2.length ≤ j + 1 → (∃ out : List Int, Own Try.prog s s2 t_int d2 (out.map Go.Fw.encI) ∧ (out.length : Int) ≤ w64 ((j : Int) + 1) ∧ Rng c.Xs (fun r => out ++ crossL x.Path r (w64 ((j : Int) + 1)).toNat = crossL x.Path c.Xs 0) (w64 ((j : Int) + 1))) ∧
       c.Xs.length - (w64 ((j : Int) + 1)).toNat < c.Xs.length - (j : Int).toNat := fun out2 d2 s2 he ho2 hl => by
     have := nx (fun r => out2 ++ crossL x.Path r (w64 ((j : Int) + 1)).toNat = crossL x.Path c.Xs 0) (by rw [hw, Int.toNat_natCast]; exact he)
     exact ⟨⟨out2, ho2, by rw [hw]; omega, this.1⟩, this.2⟩
   rw [Int.toNat_natCast, crossL] at hF
   refine (h s').xs.load (map_get hy) c_int rfl ⟨y, rfl, newObj_intro fun id s2 hid _ he hs2 => box_store hs2 fun s3 hs3 hs3' => ?_⟩
   have he3 : Ext s' s3 := fun i hi => by
     rw [hs3' i (fun e => hi (by rw [e]; exact hid))]; exact he i hi
   have ho3 := ho.ext' he3
   refine (ContainsFunc_Step_ok (p := fun x => x.Sec == y) (q1 s3) (cap_fn hs3 fun x _ => W_mover_Crossings_1 x.Sec x.In x.Out _ s3 _ ⟨_, _, _, rfl, _, box_row hs3, y, rfl, rfl, rfl⟩)).use ⟨_, rfl, ?_⟩
   refine bc (fun e => ?_) (fun e => ⟨rfl, go out _ _ (by rw [if_neg (fun g => by have : hasSec x.Path y = false := e; rw [this] at g; cases g)] at hF; exact hF) ho3 (by omega)⟩)
   rw [if_pos (show hasSec x.Path y = true from e)] at hF
   refine newObj_intro fun id1 s4 hid1 _ he4 hs4 => (ho3.ext' he4).append (At.fresh hs4 (by simp) rfl) (by simp; omega) (by simp; omega) fun d4 s5 ho5 _ _ => ⟨rfl, go (out ++ [(j : Int)]) _ _ (by rw [List.append_assoc]; exact hF) (by rw [List.map_append]; exact ho5) (by simp; omega)⟩
 · have hF := hr.done rfl hge
   rw [crossL, List.append_nil] at hF
   subst hF
   exact own_fin ho (flatI _)
end
end
end Go.Proofs.Ytjdpkjembijbeaa
namespace Go.Fw
section
structure Br where
 Kind : Int
 Route : Int
 Sec : Int
 deriving DecidableEq
def Br.enc (b : Br) : List D := [iD b.Kind, iD b.Route, iD b.Sec]
end
end Go.Fw
namespace Go.Proofs.Ytjdpkjembijbeaa
open Go.Fw Go.Proofs Go.RowKit
section
variable {σ : Store}
theorem Contains_int_ok {d : D} {l : List Int} (v : Int) (h : At Try.prog σ t_int d (l.map Go.Fw.encI)) : Pure Try.prog n_slices_Contains_int [.one d, iA v] σ (.a (bA (inL l v))) := by
 refine W_slices_Contains_int d v σ _ ((slices_Index_int_ok v h).use ⟨_, rfl, ?_, rfl⟩)
 have key : ∀ (l : List Int) (j : Nat), decide (idxOf l v j ≥ 0) = inL l v := by
   intro l
   induction l with
   | nil => intro j; simp [idxOf, inL]
   | cons x r ih =>
     intro j
     rw [idxOf]
     by_cases hx : v = x
     · rw [if_pos hx]; simp [inL, hx]
     · rw [if_neg hx, ih, inL, inL]; simp [hx]
 rw [key]
section
variable {c0 c1 c2 c3 c4 : D} {c : Cf} {k0 k1 k2 k3 k4 k5 : D} {k : Co} {σ0 : Store} {b : Bool} {id : Nat} {d : D} {out : List Br}
variable (hc : ∀ s, CfAt s c0 c1 c2 c3 c4 c) (hk : CoAt σ0 k0 k1 k2 k3 k4 k5 k) (hfit : k.fits c = true)
include hc hk hfit
end
end
end Go.Proofs.Ytjdpkjembijbeaa
namespace Go.Fw
open Go.Shelf Go.Sort Go.Proofs
section
variable {P : Program} {ρ : Ren} {σ : Store}
def intRow (z : Int) : List D := [.int .i64 z]
def sorted (l : List Int) : List Int := l.mergeSort fun x y => decide (x ≤ y)
theorem ints_over {k : Nat → Prop} {β : Bk} {W : World} (hS : SRel P k β W σ) {id i0 : Nat} {t : TypeId} {rows : List (List D)} {ys : List Int} {bi : BI} (ht : P.cellsOf t = 1) (hl : σ id = .live t rows) (hb : β id = some bi)
   (hfit : i0 + ys.length ≤ rows.length) (n : Nat) (os : Array Obj) :
   SRel P k β (grow (putRow (Value.int .i64) (Sort.ahead W n) bi.blk (i0 * bi.es) ys.toArray) os) (σ.set id (.live t (rows.take i0 ++ ys.map intRow ++ rows.drop (i0 + ys.length)))) ∧
   Ghost k β σ W k β (σ.set id (.live t (rows.take i0 ++ ys.map intRow ++ rows.drop (i0 + ys.length)))) ∧
   Frm β σ W (grow (putRow (Value.int .i64) (Sort.ahead W n) bi.blk (i0 * bi.es) ys.toArray) os) := by
 obtain ⟨arr, g1, g2, g3, g4, g5, g6, g7⟩ := hS.obj id bi t rows hb hl
 have hes : bi.es = 1 := by rw [← g3, ht]
 have hsz2 : i0 + ys.length ≤ arr.size := by rw [hes] at g4; omega
 have hov := hS.over hb hl g1 (ns := ys.map intRow) (vx := ys.map (Value.int .i64)) i0 (by omega) (by omega) (by simp [hes])
   (by
     have e : ∀ l : List Int, ((l.map intRow).flatten) = l.map (D.int .i64) := by
       intro l; induction l with
       | nil => rfl
       | cons x r ih => simp only [List.map_cons, List.flatten_cons, ih]; rfl
     rw [e]
     refine ⟨by simp, fun i v d hv hd => ?_⟩
     rw [List.getElem?_map] at hv hd
     cases hx : ys[i]? with
     | none => rw [hx] at hv; cases hv
     | some x => rw [hx] at hv hd; cases hv; cases hd; exact .int _ _)
   (by
     intro i r hr
     rw [List.getElem?_map] at hr
     cases hx : ys[i]? with
     | none => rw [hx] at hr; cases hr
     | some x => rw [hx] at hr; cases hr; rw [hes]; rfl)
   (by simp only [hes, List.length_map]; omega)
 have hrl : (ys.map intRow).length = ys.length := by rw [List.length_map]
 rw [hrl] at hov
 have hG : Grow (W.setRow bi.blk (arr.toList.take (i0 * bi.es) ++ ys.map (Value.int .i64) ++ arr.toList.drop (i0 * bi.es + (ys.map (Value.int .i64)).length)).toArray)
     (grow (putRow (Value.int .i64) (Sort.ahead W n) bi.blk (i0 * bi.es) ys.toArray) os) := by
   refine ⟨rfl, rfl, rfl, by rw [setRow_size]; simp, fun b hb => ?_⟩
   rw [setRow_size] at hb
   rw [heap_grow_old _ _ (by simpa using hb)]
   by_cases he : b = bi.blk
   · subst he
     rw [setRow_heap _ _ _ _ _ _ g1]
     simp only [putRow, mapBlock, heap_ahead, Array.getElem?_modify, if_true, g1, Option.map_some, onCells]
     congr 2
     apply Array.ext_getElem?
     intro m
     simp only [putCells, Array.getElem?_mapIdx, List.getElem?_toArray, hes, Nat.mul_one, List.length_map, List.size_toArray]
     by_cases c1 : m < i0
     · rw [List.getElem?_append_left (by simp; omega), List.getElem?_append_left (by simp; omega), List.getElem?_take, if_pos c1, Array.getElem?_toList, Array.getElem?_eq_getElem (by omega), Option.map_some, if_neg (by omega)]
     · by_cases c2 : m < i0 + ys.length
       · rw [List.getElem?_append_left (by simp; omega), List.getElem?_append_right (by simp; omega), Array.getElem?_eq_getElem (by omega), Option.map_some, if_pos ⟨by omega, by omega⟩]
         have hl1 : (arr.toList.take i0).length = i0 := by simp; omega
         have hk : m - i0 < ys.length := by omega
         rw [hl1, List.getElem?_map, List.getElem?_eq_getElem hk]
         simp [hk]
       · rw [List.getElem?_append_right (by simp; omega), List.getElem?_drop, Array.getElem?_toList]
         have hl1 : i0 + ys.length + (m - (arr.toList.take i0 ++ ys.map (Value.int .i64)).length) = m := by simp; omega
         rw [hl1]
         cases arr[m]? with
         | none => rfl
         | some y => rw [Option.map_some, if_neg (by omega)]
   · rw [setRow_get _ _ _ _ he]
     simp only [putRow, mapBlock, heap_ahead, Array.getElem?_modify]
     rw [if_neg (fun e => he e.symm)]
 have hne : σ id ≠ .dead := by rw [hl]; intro e; cases e
 refine ⟨hov.grow hG, ⟨fun _ h => h, fun _ h => .inl h, fun _ _ h => h, fun _ _ h => .inl h, fun i hi => ?_⟩, ?_⟩
 · rw [Store.set_ne _ _ (by intro e; subst e; exact hne hi)]; exact hi
 · refine ⟨hG.os, hG.tape, hG.output, by have := hG.size; rwa [setRow_size] at this, fun b hb' hn => ?_⟩
   rw [hG.block b (by rw [setRow_size]; exact hb'), setRow_get _ _ _ _ (fun e => hn id bi hb hne e.symm)]
theorem ints_hold {k : Nat → Prop} {β : Bk} {W : World} (hS : SRel P k β W σ) {id i0 : Nat} {t : TypeId} {rows : List (List D)} {zs : List Int} {bi : BI} (ht : P.cellsOf t = 1) (hl : σ id = .live t rows) (hb : β id = some bi)
   (hrows : (rows.drop i0).take zs.length = zs.map intRow) : Holds (Value.int .i64) W bi.blk (i0 * bi.es) zs.toArray := by
 obtain ⟨arr, g1, g2, g3, g4, g5, g6, g7⟩ := hS.obj id bi t rows hb hl
 have hes : bi.es = 1 := by rw [← g3, ht]
 have hget : ∀ j, j < zs.length → arr[i0 + j]? = some (Value.int .i64 (zs.getD j 0)) := by
   intro j hj
   have h1 : ((rows.drop i0).take zs.length)[j]? = some (intRow (zs.getD j 0)) := by rw [hrows]; simp [hj]
   rw [List.getElem?_take_of_lt hj, List.getElem?_drop] at h1
   obtain ⟨u, hu, hVu⟩ := g7 _ _ 0 (.int .i64 (zs.getD j 0)) h1 rfl
   rw [hes, Nat.mul_one, Nat.add_zero] at hu
   rw [hu]; cases hVu; rfl
 intro j hj
 have hj : j < zs.length := by simpa using hj
 refine ⟨?_, by simp [World.frozen?, g1]⟩
 have := hget j hj
 simp only [World.cell?, g1, hes, Nat.mul_one, Option.isSome_none, Bool.false_eq_true, if_false]
 rw [this]
 simp [hj]
theorem one_arg {k : Nat → Prop} {β : Bk} {W : World} {x : A} {vs : Array Value} (hvs : vs.size = [x].length) (hargs : ∀ (i : Nat) v y, vs[i]? = some v → [x][i]? = some y → VA k β W v y) : ∃ v, vs = #[v] ∧ VA k β W v x := by
 have hvs : vs.size = 1 := hvs
 obtain ⟨l⟩ := vs
 match l, hvs with
 | [v], _ => exact ⟨v, rfl, hargs 0 v x rfl rfl⟩
theorem sort_DCalls (Ly : Lays.n189 P ρ) {id i0 : Nat} {t : TypeId} {rows : List (List D)} {zs : List Int} (ht : P.cellsOf t = 1) (hl : σ id = .live t rows)
   (hfit : i0 + zs.length ≤ rows.length) (hrows : (rows.drop i0).take zs.length = zs.map intRow) (h0 : 0 < zs.length) (hsz : zs.length < 4611686018427387904) :
   DCalls P (ρ.f 189) [.one (.osl id i0 zs.length)] σ fun r σ' => r = .tup [] ∧ σ' = σ.set id (.live t (rows.take i0 ++ (sorted zs).map intRow ++ rows.drop (i0 + zs.length))) := by
 refine ⟨by unfold callOk; rw [Ly.f189]; rfl, fun k β W vs hS hvs hargs => ?_⟩
 obtain ⟨v, rfl, hV⟩ := one_arg hvs hargs
 have hV : V k β W v (.osl id i0 zs.length) := hV
 cases hV with
 | osl _ _ _ cap a bi hb ha hc hs =>
   have ha := ha (by omega)
   subst ha
   refine (calls_of_every_depth fun D => Go.Proofs.AnyS.slices_Sort_int_in Ly D bi.blk (i0 * bi.es) cap zs W (ints_hold hS ht hl hb hrows) (hS.blt id bi hb) hsz).mono ?_
   rintro e W' ⟨rfl, n, os, rfl⟩
   have hlen : (sorted zs).length = zs.length := by simp [sorted]
   obtain ⟨h1, h2, h3⟩ := ints_over hS (i0 := i0) (ys := sorted zs) ht hl hb (by omega) n os
   rw [hlen] at h1 h2
   exact ⟨.tuple #[], .tup [], _, k, β, rfl, ⟨rfl, rfl⟩, ⟨#[], rfl, rfl, fun i u x hu => by simp at hu⟩, h1, h2, h3⟩
theorem compact_DCalls (Ly : Lays2.n20 P ρ) {id i0 : Nat} {t : TypeId} {rows : List (List D)} {zs : List Int} (ht : P.cellsOf t = 1) (hl : σ id = .live t rows)
   (hfit : i0 + zs.length ≤ rows.length) (hrows : (rows.drop i0).take zs.length = zs.map intRow) (h0 : 0 < zs.length) (hsz : zs.length < 4611686018427387904) :
   DCalls P (ρ.f 20) [.one (.osl id i0 zs.length)] σ fun r σ' => r = .a (.one (.osl id i0 (Lib.compact zs).length)) ∧
     σ' = σ.set id (.live t (rows.take i0 ++ (Lib.compact zs ++ List.replicate (zs.length - (Lib.compact zs).length) 0).map intRow ++ rows.drop (i0 + zs.length))) := by
 refine ⟨by unfold callOk; rw [Ly.f20]; rfl, fun k β W vs hS hvs hargs => ?_⟩
 obtain ⟨v, rfl, hV⟩ := one_arg hvs hargs
 have hV : V k β W v (.osl id i0 zs.length) := hV
 cases hV with
 | osl _ _ _ cap a bi hb ha hc hs =>
   have ha := ha (by omega)
   subst ha
   refine (Go.Proofs.Any.slices_Compact_int Ly bi.blk (i0 * bi.es) cap zs W (ints_hold hS ht hl hb hrows) (by omega) hc).mono ?_
   rintro e W' ⟨rfl, n, rfl⟩
   have hle : (Lib.compact zs).length ≤ zs.length := by
     unfold Lib.compact Lib.compactUpTo
     rw [List.length_map]
     exact Nat.le_trans (List.length_filter_le _ _) (by simp)
   have hlen : (Lib.compact zs ++ List.replicate (zs.length - (Lib.compact zs).length) 0).length = zs.length := by simp; omega
   obtain ⟨h1, h2, h3⟩ := ints_over hS (i0 := i0) (ys := Lib.compact zs ++ List.replicate (zs.length - (Lib.compact zs).length) 0) ht hl hb (by omega) n #[]
   rw [hlen] at h1 h2
   rw [grow_empty] at h1 h3
   exact ⟨_, .a (.one (.osl id i0 (Lib.compact zs).length)), _, k, β, rfl, ⟨rfl, rfl⟩, .osl id i0 _ cap _ bi hb (fun _ => rfl) (by omega) hs, h1, h2, h3⟩
theorem sorted_perm (l : List Int) : (sorted l).Perm l := List.mergeSort_perm _ _
theorem sorted_pair (l : List Int) : (sorted l).Pairwise (· ≤ ·) := by
 have := List.pairwise_mergeSort (le := fun x y : Int => decide (x ≤ y)) (by intro a b c; simp; omega) (by intro a b; simp; omega) l
 exact this.imp fun h => by simpa using h
theorem compact_mem {zs : List Int} {z : Int} : z ∈ Lib.compact zs ↔ z ∈ zs := by
 unfold Lib.compact Lib.compactUpTo
 rw [List.mem_map]
 constructor
 · rintro ⟨j, hj, rfl⟩
   have hj := List.mem_range.1 (List.mem_filter.1 hj).1
   simp [hj]
 · intro hz
   obtain ⟨j, hj, e⟩ := List.getElem_of_mem hz
   have key : ∀ j, (hj : j < zs.length) → zs[j] = z → ∃ a, a ∈ List.filter (Lib.keeps zs.toArray) (List.range zs.length) ∧ zs.toArray[a]! = z := by
     intro j
     induction j with
     | zero => exact fun hj e => ⟨0, List.mem_filter.2 ⟨List.mem_range.2 hj, by simp [Lib.keeps]⟩, by simp [hj, e]⟩
     | succ j ih =>
       intro hj e
       by_cases h : zs[j]'(by omega) = z
       · exact ih (by omega) h
       · refine ⟨j + 1, List.mem_filter.2 ⟨List.mem_range.2 hj, Lib.keeps_pos ?_⟩, by simp [hj, e]⟩
         simp only [Nat.add_sub_cancel]
         have : j < zs.length := by omega
         simp only [List.getElem!_toArray, hj, this, getElem!_pos, e]
         exact fun h' => h h'.symm
   exact key j hj e
theorem compact_strict {zs : List Int} (h : zs.Pairwise (· ≤ ·)) : (Lib.compact zs).Pairwise (· < ·) := by
 unfold Lib.compact Lib.compactUpTo
 rw [List.pairwise_map]
 have hr : (List.filter (Lib.keeps zs.toArray) (List.range zs.length)).Pairwise (· < ·) := List.Pairwise.filter _ List.pairwise_lt_range
 refine hr.imp_of_mem ?_
 intro i j hi hj hij
 obtain ⟨h1, _⟩ := List.mem_filter.1 hi
 obtain ⟨h2, h3⟩ := List.mem_filter.1 hj
 have h1 := List.mem_range.1 h1
 have h2 := List.mem_range.1 h2
 have hm : j - 1 < zs.length := by omega
 have hne : zs[j]'h2 ≠ zs[j - 1]'hm := by
   intro e
   have : Lib.keeps zs.toArray j = false := Lib.keeps_neg (by omega) (by simp only [List.getElem!_toArray, h2, hm, getElem!_pos, e])
   rw [h3] at this; cases this
 have hle1 : zs[j - 1]'hm ≤ zs[j]'h2 := List.pairwise_iff_getElem.1 h _ _ _ _ (by omega)
 have hle2 : zs[i]'h1 ≤ zs[j - 1]'hm := by
   by_cases e : i = j - 1
   · subst e; exact Int.le_refl _
   · exact List.pairwise_iff_getElem.1 h _ _ _ _ (by omega)
 simp only [List.getElem!_toArray, h1, h2, getElem!_pos]
 omega
end
end Go.Fw
namespace Go.Fw
section
def cpt : List Int → List Int
 | [] => []
 | x :: r => match cpt r with
   | [] => [x]
   | y :: q => if x = y then y :: q else x :: y :: q
theorem mem_cpt : ∀ (l : List Int) (z : Int), z ∈ cpt l ↔ z ∈ l
 | [], z => by simp [cpt]
 | x :: r, z => by
   have ih := mem_cpt r z
   rw [cpt]
   split
   · rename_i h; rw [h] at ih; simp at ih; simp [ih]
   · rename_i y q h
     rw [h] at ih
     split
     · rename_i e; rw [ih, List.mem_cons]; exact ⟨.inr, fun hz => hz.elim (fun e' => by rw [← ih, e', e]; simp) id⟩
     · rw [List.mem_cons, ih, List.mem_cons]
theorem cpt_pair : ∀ {l : List Int}, l.Pairwise (· ≤ ·) → (cpt l).Pairwise (· < ·)
 | [], _ => by simp [cpt]
 | x :: r, h => by
   rw [List.pairwise_cons] at h
   have ih := cpt_pair h.2
   rw [cpt]
   split
   · simp
   · rename_i y q hq
     rw [hq] at ih
     split
     · exact ih
     · rename_i hne
       rw [List.pairwise_cons]
       refine ⟨fun z hz => ?_, ih⟩
       have h1 : y ∈ r := (mem_cpt r y).1 (by rw [hq]; simp)
       have h2 := h.1 y h1
       rcases List.mem_cons.1 hz with rfl | hz
       · omega
       · have := (List.pairwise_cons.1 ih).1 z hz; omega
theorem strict_ext : ∀ {a b : List Int}, a.Pairwise (· < ·) → b.Pairwise (· < ·) → (∀ z, z ∈ a ↔ z ∈ b) → a = b
 | [], [], _, _, _ => rfl
 | [], y :: b, _, _, h => absurd ((h y).2 (by simp)) (by simp)
 | x :: a, [], _, _, h => absurd ((h x).1 (by simp)) (by simp)
 | x :: a, y :: b, ha, hb, h => by
   rw [List.pairwise_cons] at ha hb
   have e : x = y := by
     have h1 := (h x).1 (by simp)
     have h2 := (h y).2 (by simp)
     rcases List.mem_cons.1 h1 with h1 | h1
     · exact h1
     · rcases List.mem_cons.1 h2 with h2 | h2
       · exact h2.symm
       · have := hb.1 x h1; have := ha.1 y h2; omega
   subst e
   congr 1
   refine strict_ext ha.2 hb.2 fun z => ⟨fun hz => ?_, fun hz => ?_⟩
   · rcases List.mem_cons.1 ((h z).1 (by simp [hz])) with e | hz'
     · subst e; have := ha.1 z hz; omega
     · exact hz'
   · rcases List.mem_cons.1 ((h z).2 (by simp [hz])) with e | hz'
     · subst e; have := hb.1 z hz; omega
     · exact hz'
theorem compact_cpt {l : List Int} (h : l.Pairwise (· ≤ ·)) : Lib.compact l = cpt l := strict_ext (compact_strict h) (cpt_pair h) fun z => by rw [compact_mem, mem_cpt]
def Cf.lockR (r : Rt) : List Int := cpt (sorted (r.Overlap ++ r.Path.map St.Sec ++ r.Flank.map Nd.Sec))
def Cf.lockL (c : Cf) (i : Int) : List Int := match geti c.Rts i with
 | some r => Cf.lockR r
 | none => []
theorem mem_lockR {r : Rt} {z : Int} : z ∈ Cf.lockR r ↔ z ∈ r.Overlap ∨ z ∈ r.Path.map St.Sec ∨ z ∈ r.Flank.map Nd.Sec := by
 rw [Cf.lockR, mem_cpt, (sorted_perm _).mem_iff]; simp [or_assoc]
theorem lockR_pair (r : Rt) : (Cf.lockR r).Pairwise (· < ·) := cpt_pair (sorted_pair _)
theorem lockR_sec {c : Cf} {r : Rt} (h : RtOk c r) {z : Int} (hz : z ∈ Cf.lockR r) : ∃ y, geti c.Secs z = some y := by
 rcases mem_lockR.1 hz with hz | hz | hz
 · obtain ⟨y, hy, _⟩ := (h.ov hz).1; exact ⟨y, hy⟩
 · obtain ⟨s, hs, rfl⟩ := List.mem_map.1 hz
   obtain ⟨y, hy, _⟩ := (h.step s hs).1.sec; exact ⟨y, hy⟩
 · obtain ⟨n, hn, rfl⟩ := List.mem_map.1 hz
   obtain ⟨y, hy, _⟩ := (h.fl.1 n hn).sec; exact ⟨y, hy⟩
def insAt (out : List Int) (s : Int) : Nat → Nat
 | 0 => 0
 | n + 1 => match out[n]? with
   | some x => if s < x then insAt out s n else n + 1
   | none => n + 1
def insS (out : List Int) (s : Int) : List Int :=
 if s ∈ out then out else out.take (insAt out s out.length) ++ [s] ++ out.drop (insAt out s out.length)
theorem insAt_gt (out : List Int) (s : Int) : ∀ n, n ≤ out.length → ∀ i x, insAt out s n ≤ i → i < n → out[i]? = some x → s < x
 | 0, _, i, x, _, h, _ => by omega
 | n + 1, hn, i, x, h1, h2, h3 => by
   rw [insAt] at h1
   split at h1
   · rename_i y hy
     split at h1
     · rename_i hlt
       by_cases e : i = n
       · subst e; rw [hy] at h3; cases h3; exact hlt
       · exact insAt_gt out s n (by omega) i x h1 (by omega) h3
     · omega
   · omega
theorem insAt_le_of {out : List Int} {s : Int} (hp : out.Pairwise (· < ·)) : ∀ n, n ≤ out.length → ∀ i x, i < insAt out s n → out[i]? = some x → x ≤ s
 | 0, _, i, x, h, _ => by rw [insAt] at h; omega
 | n + 1, hn, i, x, h1, h3 => by
   rw [insAt] at h1
   split at h1
   · rename_i y hy
     split at h1
     · exact insAt_le_of hp n (by omega) i x h1 h3
     · rename_i hge
       by_cases e : i = n
       · subst e; rw [hy] at h3; cases h3; omega
       · have hlt : i < n := by omega
         obtain ⟨h4, h5⟩ := List.getElem?_eq_some_iff.1 h3
         obtain ⟨h6, h7⟩ := List.getElem?_eq_some_iff.1 hy
         have := List.pairwise_iff_getElem.1 hp i n h4 h6 hlt
         rw [h5, h7] at this; omega
   · rename_i hnone; rw [List.getElem?_eq_none_iff] at hnone; omega
theorem insS_pair {out : List Int} {s : Int} (hp : out.Pairwise (· < ·)) : (insS out s).Pairwise (· < ·) := by
 unfold insS
 split
 · exact hp
 · rename_i hs
   have hsplit := List.take_append_drop (insAt out s out.length) out
   have h1 : ∀ x ∈ out.take (insAt out s out.length), x < s := by
     intro x hx
     obtain ⟨i, hi, e⟩ := List.getElem_of_mem hx
     have h2 : out[i]? = some x := by rw [List.getElem_take] at e; rw [← e]; exact List.getElem?_eq_getElem _
     have h3 := insAt_le_of (s := s) hp out.length (Nat.le_refl _) i x (by rw [List.length_take] at hi; omega) h2
     have : x ≠ s := fun e => hs (e ▸ List.mem_of_getElem? h2)
     omega
   have h2 : ∀ x ∈ out.drop (insAt out s out.length), s < x := by
     intro x hx
     obtain ⟨i, hi, e⟩ := List.getElem_of_mem hx
     have h2 : out[insAt out s out.length + i]? = some x := by rw [List.getElem_drop] at e; rw [← e]; exact List.getElem?_eq_getElem _
     exact insAt_gt out s out.length (Nat.le_refl _) _ x (by omega) (by rw [List.length_drop] at hi; omega) h2
   rw [← hsplit, List.pairwise_append] at hp
   rw [List.append_assoc, List.pairwise_append]
   refine ⟨hp.1, ?_, fun a ha b hb => ?_⟩
   · rw [List.singleton_append, List.pairwise_cons]; exact ⟨h2, hp.2.1⟩
   · rcases List.mem_cons.1 hb with rfl | hb
     · exact h1 a ha
     · exact hp.2.2 a ha b hb
theorem mem_insS {out : List Int} {s z : Int} : z ∈ insS out s ↔ z ∈ out ∨ z = s := by
 unfold insS
 split
 · rename_i hs; exact ⟨.inl, fun h => h.elim id fun e => e ▸ hs⟩
 · have : z ∈ out ↔ z ∈ out.take (insAt out s out.length) ∨ z ∈ out.drop (insAt out s out.length) := by
     rw [← List.mem_append, List.take_append_drop]
   rw [this, List.append_assoc, List.mem_append, List.mem_append, List.mem_singleton]
   constructor
   · rintro (h | h | h) <;> simp [h]
   · rintro ((h | h) | h) <;> simp [h]
theorem insL_facts : ∀ (l out : List Int), out.Pairwise (· < ·) → (l.foldl insS out).Pairwise (· < ·) ∧ ∀ z, z ∈ l.foldl insS out ↔ z ∈ out ∨ z ∈ l
 | [], out, h => ⟨h, fun z => by simp⟩
 | s :: r, out, h => by
   obtain ⟨q1, q2⟩ := insL_facts r (insS out s) (insS_pair h)
   refine ⟨q1, fun z => ?_⟩
   rw [List.foldl_cons, q2, mem_insS, List.mem_cons, or_assoc]
theorem insL_lockR (r : Rt) : (r.Path.map St.Sec ++ r.Flank.map Nd.Sec ++ r.Overlap).foldl insS [] = Cf.lockR r := by
 obtain ⟨q1, q2⟩ := insL_facts (r.Path.map St.Sec ++ r.Flank.map Nd.Sec ++ r.Overlap) [] (by simp)
 refine strict_ext q1 (lockR_pair r) fun z => ?_
 rw [q2, mem_lockR]
 simp only [List.mem_append, List.not_mem_nil, false_or]
 constructor
 · rintro ((h | h) | h) <;> simp [h]
 · rintro (h | h | h) <;> simp [h]
theorem cpt_len : ∀ l : List Int, (cpt l).length ≤ l.length
 | [] => Nat.le_refl _
 | x :: r => by
   have ih := cpt_len r
   rw [cpt]
   split
   · simp
   · rename_i y q h
     rw [h] at ih
     split
     · simp at ih ⊢; omega
     · simp at ih ⊢; omega
def cmdM (m : Mv) (now cmd : Int) : Mv := if m.Cmd ≠ cmd then ⟨cmd, now⟩ else m
def Co.inh (c : Cf) (k : Co) (r s : Int) : Bool :=
 let o := (geti k.Own s).getD 0 - 1
 decide (0 ≤ o ∧ o ≠ r) && (decide ((c.rt o).Exit = (c.rt r).Entry) && inL (c.rt o).Overlap s)
def Co.blocked (c : Cf) (k : Co) (r : Int) (l : List Int) : Bool := l.any fun s => decide ((geti k.Own s).getD 0 ≠ 0) && !k.inh c r s
def Co.may (c : Cf) (k : Co) (r : Int) (l : List Int) : Int :=
 if apprS c l k.Routes 0 = true then 23 else if k.blocked c r l = true then 22 else 0
def lineF (c : Cf) : List St → Int
 | [] => 0
 | s :: r => let n := ((geti c.Secs s.Sec).getD ⟨0, 0, 0⟩).Line; if n > 0 then n else lineF c r
def ptsC (now : Int) (l : List Nd) (w : List Mv) : List Mv := l.foldl (fun w n => w.set n.Sec.toNat (cmdM ((geti w n.Sec).getD ⟨0, 0⟩) now n.Pos)) w
def xsC (now : Int) (l : List Int) (w : List Mv) : List Mv := l.foldl (fun w i => w.set i.toNat (cmdM ((geti w i).getD ⟨0, 0⟩) now 1)) w
def askC (n : Int) (w : List Ls) : List Ls := if n > 0 then w.set n.toNat { (geti w n).getD zLs with Ask := ((geti w n).getD zLs).Ask + 1 } else w
def Co.lockC (c : Cf) (k : Co) (now r : Int) : Co :=
 { k with Own := (c.lockL r).foldl (fun w s => w.set s.toNat ((r + 1))) k.Own, Routes := k.Routes.set r.toNat ⟨1, 0, 0, 0⟩, Points := ptsC now (c.Needs r) k.Points, Xs := xsC now (c.Cross r) k.Xs,
          Lines := askC (lineF c (c.rt r).Path) k.Lines, Dirty := true }
def Co.reqE (c : Cf) (k : Co) (r : Int) : Int :=
 match geti k.Routes r with
 | none => 20
 | some x => if x.State ≠ 0 then 28 else if k.may c r (c.lockL r) ≠ 0 then k.may c r (c.lockL r)
   else if lineF c (c.rt r).Path > 0 ∧ ((geti k.Lines (lineF c (c.rt r).Path)).getD zLs).Ask ≥ 4294967295 then 5 else 0
def Co.gate (c : Cf) (k : Co) (now : Int) (e : Int) : Int := if k.fits c = false then 21 else if tm 0 now = false then 32 else e
def Co.done (k : Co) (e : Int) (y : Co) : Co × Int := (if e = 0 then y else k, e)
def Co.requestC (c : Cf) (k : Co) (now r : Int) : Co × Int := k.done (k.gate c now (k.reqE c r)) (k.lockC c now r)
end
section
theorem zip_all {α β : Type} {f : α × β → Bool} : ∀ {a : List α} {b : List β}, (a.zip b).all f = true ↔ ∀ (i : Nat) x y, a[i]? = some x → b[i]? = some y → f (x, y) = true
 | [], b => by simp
 | x :: a, [] => by simp
 | x :: a, y :: b => by
   rw [List.zip_cons_cons, List.all_cons, Bool.and_eq_true, zip_all (a := a) (b := b)]
   constructor
   · rintro ⟨h1, h2⟩ i p q hp hq
     cases i with
     | zero => cases hp; cases hq; exact h1
     | succ i => exact h2 i p q (by simpa using hp) (by simpa using hq)
   · intro h
     exact ⟨h 0 x y rfl rfl, fun i p q hp hq => h (i + 1) p q (by simpa using hp) (by simpa using hq)⟩
structure FitIs (c : Cf) (k : Co) : Prop where
 chk : c.check = 0
 lOwn : k.Own.length = c.Secs.length
 lPts : k.Points.length = c.Secs.length
 lRes : k.Resets.length = c.Secs.length
 lRts : k.Routes.length = c.Rts.length
 lXs : k.Xs.length = c.Xs.length
 lLn : k.Lines.length = 4
 own : ∀ o ∈ k.Own, -2 ≤ o ∧ o ≤ c.Rts.length
 rts : ∀ (i : Nat) x r, k.Routes[i]? = some x → c.Rts[i]? = some r → Rs.fits (x, r) = true
 pts : ∀ m ∈ k.Points, Mv.fits m = true
 xs : ∀ m ∈ k.Xs, Mv.fits m = true
 lns : ∀ l ∈ k.Lines, Ls.fits l = true
 res : ∀ z ∈ k.Resets, tm 1 z = true
theorem fits_iff {c : Cf} {k : Co} : k.fits c = true ↔ FitIs c k := by
 simp only [Co.fits, Co.lens, Co.parts, Bool.and_eq_true, decide_eq_true_eq, zip_all, List.all_eq_true, List.mem_append]
 constructor
 · rintro ⟨h1, ⟨a1, a2, a3, a4, a5, a6⟩, b1, b2, b3, b4, b5⟩
   exact ⟨h1, a1, a2, a3, a4, a5, a6, b1, zip_all.1 (List.all_eq_true.2 b2), fun m h => b3 m (.inl h), fun m h => b3 m (.inr h), b4, b5⟩
 · intro h
   exact ⟨h.chk, ⟨h.lOwn, h.lPts, h.lRes, h.lRts, h.lXs, h.lLn⟩, h.own, List.all_eq_true.1 (zip_all.2 h.rts), fun m hm => hm.elim (h.pts m) (h.xs m), h.lns, h.res⟩
theorem geti_mem {α : Type} {l : List α} {i : Int} {x : α} (h : geti l i = some x) : x ∈ l := List.mem_of_getElem? (geti_some h).2.2
theorem geti_d {α : Type} {l : List α} {i : Int} {p : α → Prop} {z : α} (hz : p z) (h : ∀ x ∈ l, p x) : p ((geti l i).getD z) := by
 cases hg : geti l i with
 | none => exact hz
 | some x => exact h x (geti_mem hg)
theorem ptsC_len (now : Int) : ∀ (l : List Nd) (w : List Mv), (ptsC now l w).length = w.length
 | [], w => rfl
 | n :: l, w => by unfold ptsC; rw [List.foldl_cons]; exact (ptsC_len now l _).trans (by simp)
theorem xsC_len (now : Int) : ∀ (l : List Int) (w : List Mv), (xsC now l w).length = w.length
 | [], w => rfl
 | n :: l, w => by unfold xsC; rw [List.foldl_cons]; exact (xsC_len now l _).trans (by simp)
theorem ownC_len (o : Int) : ∀ (l w : List Int), (l.foldl (fun w s => w.set s.toNat o) w).length = w.length
 | [], w => rfl
 | s :: l, w => by rw [List.foldl_cons, ownC_len o l]; simp
theorem line_ok {c : Cf} (h : c.check = 0) (l : List St) : 0 ≤ lineF c l ∧ lineF c l ≤ 3 := by
 induction l with
 | nil => exact ⟨Int.le_refl _, by unfold lineF; omega⟩
 | cons s r ih =>
   rw [lineF]
   have hs : 0 ≤ ((geti c.Secs s.Sec).getD ⟨0, 0, 0⟩).Line ∧ ((geti c.Secs s.Sec).getD ⟨0, 0, 0⟩).Line ≤ 3 := by
     refine geti_d (p := fun y : Sec => 0 ≤ y.Line ∧ y.Line ≤ 3) (by decide) fun y hy => ?_
     obtain ⟨i, hi, e⟩ := List.getElem_of_mem hy
     exact topo_line (check_parts h).1 (i := i) (by rw [List.getElem?_eq_getElem hi, e])
   split
   · exact hs
   · exact ih
theorem rt_of {c : Cf} {k : Co} (hf : FitIs c k) {r : Int} {x : Rs} (hx : geti k.Routes r = some x) : ∃ y, geti c.Rts r = some y ∧ y ∈ c.Rts := by
 obtain ⟨h1, h2, h3⟩ := geti_some hx
 have := (List.getElem?_eq_some_iff.1 h3).1
 obtain ⟨y, hy⟩ := geti_ex (l := c.Rts) (i := r) (by omega) (by have := hf.lRts; omega)
 exact ⟨y, hy, geti_mem hy⟩
end
end Go.Fw
namespace Go.Proofs.Ytjdpkjembijbeaa
open Go.Shelf Go.Proofs
section
def sortLays_ren : Go.Shelf.Ren := ⟨fun | 189 => 100 | 125 => 113 | 257 => 112 | 128 => 125 | 129 => 126 | 294 => 116 | 295 => 117 | 296 => 118 | 297 => 119 | 298 => 120 | 299 => 121 | 216 => 122 | 300 => 123 | 301 => 124 | 328 => 127 | 329 => 128 | 330 => 129 | 331 => 130 | 332 => 131 | 215 => 132 | 343 => 133 | n => n, fun | 28 => 25 | 3 => 3 | 46 => 117 | 0 => 0 | 51 => 162 | 53 => 165 | 4 => 4 | 183 => 199 | 182 => 198 | 131 => 141 | 5 => 5 | 9 => 9 | 218 => 206 | 222 => 210 | 228 => 212 | 229 => 213 | n => n, fun | n => n⟩
theorem sortLays : Go.Proofs.Lays.n189 Try.prog sortLays_ren := {
 mixed := by kernel_rfl
 f125 := Try.func113.trans (congrArg some (by kernel_rfl))
 f128 := Try.func125.trans (congrArg some (by kernel_rfl))
 f129 := Try.func126.trans (congrArg some (by kernel_rfl))
 f189 := Try.func100.trans (congrArg some (by kernel_rfl))
 f215 := Try.func132.trans (congrArg some (by kernel_rfl))
 f216 := Try.func122.trans (congrArg some (by kernel_rfl))
 f257 := Try.func112.trans (congrArg some (by kernel_rfl))
 f294 := Try.func116.trans (congrArg some (by kernel_rfl))
 f295 := Try.func117.trans (congrArg some (by kernel_rfl))
 f296 := Try.func118.trans (congrArg some (by kernel_rfl))
 f297 := Try.func119.trans (congrArg some (by kernel_rfl))
 f298 := Try.func120.trans (congrArg some (by kernel_rfl))
 f299 := Try.func121.trans (congrArg some (by kernel_rfl))
 f300 := Try.func123.trans (congrArg some (by kernel_rfl))
 f301 := Try.func124.trans (congrArg some (by kernel_rfl))
 f328 := Try.func127.trans (congrArg some (by kernel_rfl))
 f329 := Try.func128.trans (congrArg some (by kernel_rfl))
 f330 := Try.func129.trans (congrArg some (by kernel_rfl))
 f331 := Try.func130.trans (congrArg some (by kernel_rfl))
 f332 := Try.func131.trans (congrArg some (by kernel_rfl))
 f343 := Try.func133.trans (congrArg some (by kernel_rfl))
 t0 := Try.underlying0
 a0 := Try.isAgg0
 z0 := Try.sizeOf0
 v0 := Try.zeroValue0
 t3 := Try.underlying3
 a3 := Try.isAgg3
 z3 := Try.sizeOf3
 v3 := Try.zeroValue3
 t4 := Try.underlying4
 a4 := Try.isAgg4
 z4 := Try.sizeOf4
 v4 := Try.zeroValue4
 t5 := Try.underlying5
 a5 := Try.isAgg5
 z5 := Try.sizeOf5
 v5 := Try.zeroValue5
 t9 := Try.underlying9
 a9 := Try.isAgg9
 z9 := Try.sizeOf9
 v9 := Try.zeroValue9
 t28 := Try.underlying25
 a28 := Try.isAgg25
 z28 := Try.sizeOf25
 v28 := Try.zeroValue25
 t46 := Try.underlying117
 a46 := Try.isAgg117
 z46 := Try.sizeOf117
 v46 := Try.zeroValue117
 t51 := Try.underlying162
 a51 := Try.isAgg162
 z51 := Try.sizeOf162
 v51 := Try.zeroValue162
 t53 := Try.underlying165
 a53 := Try.isAgg165
 z53 := Try.sizeOf165
 v53 := Try.zeroValue165
 t131 := Try.underlying141
 a131 := Try.isAgg141
 z131 := Try.sizeOf141
 v131 := Try.zeroValue141
 t182 := Try.underlying198
 a182 := Try.isAgg198
 z182 := Try.sizeOf198
 v182 := Try.zeroValue198
 t183 := Try.underlying199
 a183 := Try.isAgg199
 z183 := Try.sizeOf199
 v183 := Try.zeroValue199
 t218 := Try.underlying206
 a218 := Try.isAgg206
 z218 := Try.sizeOf206
 v218 := Try.zeroValue206
 t222 := Try.underlying210
 a222 := Try.isAgg210
 z222 := Try.sizeOf210
 v222 := Try.zeroValue210
 t228 := Try.underlying212
 a228 := Try.isAgg212
 z228 := Try.sizeOf212
 v228 := Try.zeroValue212
 t229 := Try.underlying213
 a229 := Try.isAgg213
 z229 := Try.sizeOf213
 v229 := Try.zeroValue213 }
end
section
def compactLays_ren : Go.Shelf.Ren := ⟨fun | 20 => 101 | n => n, fun | 22 => 25 | 3 => 3 | 4 => 4 | 0 => 0 | n => n, fun | n => n⟩
theorem compactLays : Go.Proofs.Lays2.n20 Try.prog compactLays_ren := {
 mixed := by kernel_rfl
 f20 := Try.func101.trans (congrArg some (by kernel_rfl))
 t0 := Try.underlying0
 a0 := Try.isAgg0
 z0 := Try.sizeOf0
 v0 := Try.zeroValue0
 t3 := Try.underlying3
 a3 := Try.isAgg3
 z3 := Try.sizeOf3
 v3 := Try.zeroValue3
 t4 := Try.underlying4
 a4 := Try.isAgg4
 z4 := Try.sizeOf4
 v4 := Try.zeroValue4
 t22 := Try.underlying25
 a22 := Try.isAgg25
 z22 := Try.sizeOf25
 v22 := Try.zeroValue25
 i3 := by kernel_rfl }
end
end Go.Proofs.Ytjdpkjembijbeaa
namespace Go.Proofs.Ytjdpkjembijbeaa
open Go.Fw Go.Proofs Go.RowKit
section
variable {σ σ0 : Store}
theorem own_over {s : Store} {d : D} {l ys : List Int} (h : Own Try.prog σ0 s t_int d (l.map Go.Fw.encI)) (h0 : l ≠ []) (hl : ys.length = l.length) :
   ∃ id i0 t rows, d = .osl id i0 l.length ∧ s id = .live t rows ∧ Try.prog.cellsOf t = 1 ∧ i0 + l.length ≤ rows.length ∧ (rows.drop i0).take l.length = l.map intRow ∧ σ0 id = .free ∧
     Own Try.prog σ0 (s.set id (.live t (rows.take i0 ++ ys.map intRow ++ rows.drop (i0 + l.length)))) t_int d (ys.map Go.Fw.encI) := by
 have hr := h.at_.rows
 have hsz := h.at_.size
 rw [List.length_map] at hsz
 have hnz := h.nz
 have hns := h.nsl
 have hnew := h.new
 have hlen := h.at_.lenI
 rw [List.length_map] at hlen
 cases d <;> simp only [Go.Fw.Rows] at hr <;> try exact hr.elim
 · exact absurd (List.map_eq_nil_iff.1 hr) h0
 · exact absurd rfl hnz
 · exact absurd trivial hns
 · rename_i id i0 len
   obtain ⟨t, rows, a1, a2, a3, a4⟩ := hr
   have e : l.length = len := hlen
   subst e
   have ht : Try.prog.cellsOf t = 1 := by rw [a2]; exact c_int
   have hn := hnew _ _ _ rfl
   refine ⟨id, i0, t, rows, rfl, a1, ht, a3, a4.symm, hn, ⟨⟨⟨t, _, Store.set_same _ _ _, a2, ?_, ?_⟩, ?_, fun es rows e => by cases e⟩, ?_, hnew, fun h => h, by intro e; cases e⟩⟩
   · simp; omega
   · have hi0 : (rows.take i0).length = i0 := by simp; omega
     rw [List.append_assoc, List.drop_append_of_le_length (by omega), List.drop_of_length_le (by omega), List.nil_append, List.take_append_of_le_length (by simp; omega), List.take_of_length_le (by simp; omega)]
     rfl
   · rw [List.length_map]; omega
   · intro i hi
     rw [Store.set_ne _ _ (by intro e; subst e; exact hi hn)]
     exact h.ext i hi
theorem Sort_int_ok {s : Store} {d : D} {l : List Int} (h : Own Try.prog σ0 s t_int d (l.map Go.Fw.encI)) (h0 : l ≠ []) :
   DCalls Try.prog n_slices_Sort_int [.one d] s fun r s' => r = .tup [] ∧ Own Try.prog σ0 s' t_int d ((sorted l).map Go.Fw.encI) := by
 have hsz := h.at_.size
 rw [List.length_map] at hsz
 obtain ⟨id, i0, t, rows, rfl, a1, ht, a3, a4, hn, ho⟩ := own_over (ys := sorted l) h h0 (by simp [sorted])
 refine (sort_DCalls sortLays ht a1 a3 a4 (List.length_pos_iff.2 h0) (by omega)).mono ?_
 rintro r s' ⟨rfl, rfl⟩
 exact ⟨rfl, ho⟩
theorem Compact_int_ok {s : Store} {d : D} {l : List Int} (h : Own Try.prog σ0 s t_int d (l.map Go.Fw.encI)) (h0 : l ≠ []) (hp : l.Pairwise (· ≤ ·)) :
   DCalls Try.prog n_slices_Compact_int [.one d] s fun r s' => ∃ d', r = .a (.one d') ∧ Own Try.prog σ0 s' t_int d' ((cpt l).map Go.Fw.encI) := by
 have hsz := h.at_.size
 rw [List.length_map] at hsz
 have hc := compact_cpt hp
 have hle := cpt_len l
 obtain ⟨id, i0, t, rows, rfl, a1, ht, a3, a4, hn, ho⟩ := own_over (ys := Lib.compact l ++ List.replicate (l.length - (Lib.compact l).length) 0) h h0 (by rw [hc]; simp; omega)
 refine (compact_DCalls compactLays ht a1 a3 a4 (List.length_pos_iff.2 h0) (by omega)).mono ?_
 rintro r s' ⟨rfl, rfl⟩
 have := ho.sub (lo := 0) (hi := (cpt l).length) (by omega) (by rw [hc]; simp)
 rw [hc] at this ⊢
 refine ⟨_, rfl, ?_⟩
 have e : ((((cpt l ++ List.replicate (l.length - (cpt l).length) 0).map Go.Fw.encI).drop 0).take ((cpt l).length - 0)) = (cpt l).map Go.Fw.encI := by
   rw [List.drop_zero, Nat.sub_zero, List.map_append, List.take_append_of_le_length (by simp), List.take_of_length_le (by simp)]
 rw [e] at this
 exact this
def RtsNz : D → Prop
 | .sl _ rows => ∀ row ∈ rows, row[4]? ≠ some .zsl
 | _ => True
theorem nz_over {c4 : D} {rows : List (List D)} (hz : RtsNz c4) (hat : ∀ s, At Try.prog s t_Route c4 rows) {i : Nat} {row : List D} (hr : rows[i]? = some row) : row[4]? ≠ some .zsl := by
 have hx := (hat (fun _ => .free)).rows
 cases c4 <;> simp only [Go.Fw.Rows] at hx <;> try exact hx.elim
 · subst hx; simp at hr
 · subst hx; simp at hr
 · obtain ⟨rfl, _⟩ := hx; exact hz _ (List.mem_of_getElem? hr)
 · obtain ⟨t, rows', h1, _⟩ := hx; cases h1
section
variable {c0 c1 c2 c3 c4 : D} {c : Cf} (h : ∀ s, CfAt s c0 c1 c2 c3 c4 c) (hok : c.check = 0) (hz : RtsNz c4)
include h hok hz
theorem conf_Locks_ok (i : Int) : DCalls Try.prog n_conf_Locks [cfA c0 c1 c2 c3 c4 c, iA i] σ (SlPost σ t_int ((c.lockL i).map Go.Fw.encI)) := by
 refine (W_conf_Locks _ _ _ _ _ _ _ _ _ i σ _ ?_).ret (Q := fun r s => ∃ r' σ', Ret Try.prog σ s r σ' r' ∧ SlPost σ t_int ((c.lockL i).map Go.Fw.encI) r' σ') (fun r s h => h)
 intro R hR
 have nil : geti c.Rts i = none → ∃ r' σ', Ret Try.prog σ σ (.a (.one .nils)) σ' r' ∧ SlPost σ t_int ((c.lockL i).map Go.Fw.encI) r' σ' := fun e => by
   have : c.lockL i = [] := by unfold Cf.lockL; rw [e]
   rw [this]; exact own_fin (.nil _ (.refl _)) (flatI _)
 obtain ⟨rows, hat, hlen⟩ := rts_len (h σ)
 refine bcd (fun e => nil (geti_neg e)) (fun e0 => hat.lenK (bcd (fun e => nil (geti_ge (by omega))) (fun e1 => hR σ ?_)))
 obtain ⟨x, hx⟩ := geti_ex (l := c.Rts) (i := i) e0 (by omega)
 clear hR nil hat
 have hr := check_rt hok (geti_mem hx)
 have hll : c.lockL i = Cf.lockR x := by unfold Cf.lockL; rw [hx]
 rw [hll]
 obtain ⟨rows, d1, d2, d3, hat, hlen, hrow, q1, q2, q3⟩ := rt_frz h (geti_some hx).2.2
 have w1 := hr.len
 have w2 := hr.flen
 have w3 := hr.olen
 refine (hat σ).load hrow c_Route (by omega) ⟨_, _, _, _, _, _, rfl, (Clone_int_ok (q3 σ) ?_ (by rw [List.length_map]; omega)).mono ?_⟩
 · exact fun e => nz_over hz hat hrow (by rw [e]; rfl)
 rintro r s ⟨d, rfl, ho⟩
 refine ⟨d, rfl, (q1 σ).lenK ⟨fun d n s' => ∃ j : Nat, n = j ∧ j ≤ x.Path.length ∧ Own Try.prog σ s' t_int d ((x.Overlap ++ (x.Path.take j).map St.Sec).map Go.Fw.encI), fun _ n _ => x.Path.length - n.toNat, ⟨0, rfl, by omega, by simpa using ho⟩, ?_⟩⟩
 rintro d n s' ⟨j, rfl, hj, ho⟩
 rw [List.length_map]
 refine bcd (fun hlt => ?_) (fun hge => ?_)
 · obtain ⟨y, hy⟩ := get_of_lt (l := x.Path) (j := j) (by omega)
   refine (q1 s').load (map_get hy) c_Step rfl ⟨y.Sec, y.In, y.Out, rfl, newObj_intro fun id s2 hid _ he hs2 => ?_⟩
   refine (ho.ext' he).append (At.fresh hs2 (by simp) rfl) (by simp; omega) (by simp; omega) fun d4 s5 ho5 _ _ => ?_
   rw [w64_succ (by omega)]
   refine ⟨rfl, ⟨j + 1, rfl, by omega, ?_⟩, dec_lt (by omega)⟩
   have e : x.Overlap ++ (x.Path.take (j + 1)).map St.Sec = (x.Overlap ++ (x.Path.take j).map St.Sec) ++ [y.Sec] := by rw [List.take_add_one, hy]; simp
   rw [e, List.map_append]; exact ho5
 have e : j = x.Path.length := by omega
 rw [e, List.take_length] at ho
 refine (q2 s').lenK ⟨fun d n s' => ∃ j : Nat, n = j ∧ j ≤ x.Flank.length ∧ Own Try.prog σ s' t_int d ((x.Overlap ++ x.Path.map St.Sec ++ (x.Flank.take j).map Nd.Sec).map Go.Fw.encI), fun _ n _ => x.Flank.length - n.toNat, ⟨0, rfl, by omega, by simpa using ho⟩, ?_⟩
 rintro d n s' ⟨j, rfl, hj, ho⟩
 rw [List.length_map]
 refine bcd (fun hlt => ?_) (fun hge => ?_)
 · obtain ⟨y, hy⟩ := get_of_lt (l := x.Flank) (j := j) (by omega)
   refine (q2 s').load (map_get hy) c_Need rfl ⟨y.Sec, y.Pos, rfl, newObj_intro fun id s2 hid _ he hs2 => ?_⟩
   refine (ho.ext' he).append (At.fresh hs2 (by simp) rfl) (by simp; omega) (by simp; omega) fun d4 s5 ho5 _ _ => ?_
   rw [w64_succ (by omega)]
   refine ⟨⟨j + 1, rfl, by omega, ?_⟩, dec_lt (by omega)⟩
   have e : x.Overlap ++ x.Path.map St.Sec ++ (x.Flank.take (j + 1)).map Nd.Sec = (x.Overlap ++ x.Path.map St.Sec ++ (x.Flank.take j).map Nd.Sec) ++ [y.Sec] := by rw [List.take_add_one, hy]; simp
   rw [e, List.map_append]; exact ho5
 have e : j = x.Flank.length := by omega
 rw [e, List.take_length] at ho
 have hne : x.Overlap ++ x.Path.map St.Sec ++ x.Flank.map Nd.Sec ≠ [] := by
   intro e
   have := congrArg List.length e
   simp only [List.length_append, List.length_map, List.length_nil] at this; omega
 refine (Sort_int_ok ho hne).mono ?_
 rintro r s2 ⟨rfl, ho⟩
 refine ⟨rfl, (Compact_int_ok ho (fun e => hne (by
   have := congrArg List.length e
   simp only [sorted, List.length_mergeSort] at this
   exact List.length_eq_zero_iff.1 this)) (sorted_pair _)).mono ?_⟩
 rintro r s3 ⟨d', rfl, ho⟩
 exact ⟨d', rfl, own_fin ho (flatI _)⟩
end
end
section
variable {σ σ0 : Store}
def cfC (c0 c1 c2 c3 c4 : D) (c : Cf) : List D := [c0, c1, c2, c3, c4, iD c.Age, iD c.Brake, iD c.Hold, iD c.Budget]
theorem CoOwn.from {σ1 s : Store} {d0 d1 d2 d3 d4 d5 : D} {k : Co} (he : Ext σ σ1) (h : CoOwn σ1 s d0 d1 d2 d3 d4 d5 k) : CoOwn σ s d0 d1 d2 d3 d4 d5 k :=
 ⟨h.own.from he, h.routes.from he, h.points.from he, h.xs.from he, h.lines.from he, h.resets.from he, h.apart⟩
theorem CoAt.ext' {s : Store} {d0 d1 d2 d3 d4 d5 : D} {k : Co} (h : CoAt σ d0 d1 d2 d3 d4 d5 k) (he : Ext σ s) : CoAt s d0 d1 d2 d3 d4 d5 k :=
 ⟨h.own.ext he, h.routes.ext he, h.points.ext he, h.xs.ext he, h.lines.ext he, h.resets.ext he⟩
theorem locks_open_ok {c0 c1 c2 c3 c4 : D} {c : Cf} (hc : ∀ s, CfAt s c0 c1 c2 c3 c4 c) {k0 k1 k2 k3 k4 k5 : D} {k : Co} (h : CoAt σ k0 k1 k2 k3 k4 k5 k) (hf : CoFit k0 k1 k2 k3 k4 k5 k) :
   DCalls Try.prog n_locks_open [cfA c0 c1 c2 c3 c4 c, coA k0 k1 k2 k3 k4 k5 k.Dirty] σ fun r s =>
     ∃ id d0 d1 d2 d3 d4 d5, r = .tup [.one (.el (.osl id 0 1) 0 0), bA (k.fits c)] ∧ CoIn σ s id t_locks_desk (cfC c0 c1 c2 c3 c4 c) [] d0 d1 d2 d3 d4 d5 k := by
 refine W_locks_open _ _ _ _ _ _ _ _ _ k0 k1 k2 k3 k4 k5 k.Dirty σ _ (newObj_intro fun id a0 hid _ e0 q0 => ?_)
 have nid : ∀ {s0 s : Store} {el : TypeId} {d : D} {rs : List (List D)}, Own Try.prog s0 s el d rs → s0 id ≠ .free → idOf d ≠ some id := by
   intro s0 s el d rs ho hne he
   cases d with
   | osl i a n =>
     have : i = id := by simpa [idOf] using he
     subst this
     exact hne (ho.new _ _ _ rfl)
   | _ => simp [idOf] at he
 have n0 : a0 id ≠ .free := by rw [q0]; intro e; cases e
 refine (Clone_int_ok (h.own.ext e0) hf.n0 (by rw [List.length_map]; exact hf.b0)).mono ?_
 rintro r b0 ⟨d0, rfl, o0⟩
 refine ⟨d0, rfl, cell_store ((o0.ext id n0).trans q0) (by simp [patch]) fun a1 q1 f0 => ?_⟩
 have i0 := nid o0 n0
 have p0 := own_other (o0.from e0) hid i0 f0
 have e1 := p0.ext
 have n1 : a1 id ≠ .free := by rw [q1]; intro e; cases e
 refine (Clone_RouteState_ok (h.routes.ext e1) hf.n1 (by rw [List.length_map]; exact hf.b1)).mono ?_
 rintro r b1 ⟨d1, rfl, o1⟩
 refine ⟨d1, rfl, cell_store ((o1.ext id n1).trans q1) (by simp [patch]) fun a2 q2 f1 => ?_⟩
 have i1 := nid o1 n1
 have ap01 := o1.apart p0.at_
 have p0 := own_other (p0.ext' o1.ext) hid i0 f1
 have p1 := own_other (o1.from e1) hid i1 f1
 have e2 := p1.ext
 have n2 : a2 id ≠ .free := by rw [q2]; intro e; cases e
 refine (Clone_Mover_ok (h.points.ext e2) hf.n2 (by rw [List.length_map]; exact hf.b2)).mono ?_
 rintro r b2 ⟨d2, rfl, o2⟩
 refine ⟨d2, rfl, cell_store ((o2.ext id n2).trans q2) (by simp [patch]) fun a3 q3 f2 => ?_⟩
 have i2 := nid o2 n2
 have ap02 := o2.apart p0.at_
 have ap12 := o2.apart p1.at_
 have p0 := own_other (p0.ext' o2.ext) hid i0 f2
 have p1 := own_other (p1.ext' o2.ext) hid i1 f2
 have p2 := own_other (o2.from e2) hid i2 f2
 have e3 := p2.ext
 have n3 : a3 id ≠ .free := by rw [q3]; intro e; cases e
 refine (Clone_Mover_ok (h.xs.ext e3) hf.n3 (by rw [List.length_map]; exact hf.b3)).mono ?_
 rintro r b3 ⟨d3, rfl, o3⟩
 refine ⟨d3, rfl, cell_store ((o3.ext id n3).trans q3) (by simp [patch]) fun a4 q4 f3 => ?_⟩
 have i3 := nid o3 n3
 have ap03 := o3.apart p0.at_
 have ap13 := o3.apart p1.at_
 have ap23 := o3.apart p2.at_
 have p0 := own_other (p0.ext' o3.ext) hid i0 f3
 have p1 := own_other (p1.ext' o3.ext) hid i1 f3
 have p2 := own_other (p2.ext' o3.ext) hid i2 f3
 have p3 := own_other (o3.from e3) hid i3 f3
 have e4 := p3.ext
 have n4 : a4 id ≠ .free := by rw [q4]; intro e; cases e
 refine (Clone_LineState_ok (h.lines.ext e4) hf.n4 (by rw [List.length_map]; exact hf.b4)).mono ?_
 rintro r b4 ⟨d4, rfl, o4⟩
 refine ⟨d4, rfl, cell_store ((o4.ext id n4).trans q4) (by simp [patch]) fun a5 q5 f4 => ?_⟩
 have i4 := nid o4 n4
 have ap04 := o4.apart p0.at_
 have ap14 := o4.apart p1.at_
 have ap24 := o4.apart p2.at_
 have ap34 := o4.apart p3.at_
 have p0 := own_other (p0.ext' o4.ext) hid i0 f4
 have p1 := own_other (p1.ext' o4.ext) hid i1 f4
 have p2 := own_other (p2.ext' o4.ext) hid i2 f4
 have p3 := own_other (p3.ext' o4.ext) hid i3 f4
 have p4 := own_other (o4.from e4) hid i4 f4
 have e5 := p4.ext
 have n5 : a5 id ≠ .free := by rw [q5]; intro e; cases e
 refine (Clone_int_ok (h.resets.ext e5) hf.n5 (by rw [List.length_map]; exact hf.b5)).mono ?_
 rintro r b5 ⟨d5, rfl, o5⟩
 refine ⟨d5, rfl, cell_store ((o5.ext id n5).trans q5) (by simp [patch]) fun a6 q6 f5 => ?_⟩
 have i5 := nid o5 n5
 have ap05 := o5.apart p0.at_
 have ap15 := o5.apart p1.at_
 have ap25 := o5.apart p2.at_
 have ap35 := o5.apart p3.at_
 have ap45 := o5.apart p4.at_
 have p0 := own_other (p0.ext' o5.ext) hid i0 f5
 have p1 := own_other (p1.ext' o5.ext) hid i1 f5
 have p2 := own_other (p2.ext' o5.ext) hid i2 f5
 have p3 := own_other (p3.ext' o5.ext) hid i3 f5
 have p4 := own_other (p4.ext' o5.ext) hid i4 f5
 have p5 := own_other (o5.from e5) hid i5 f5
 have e6 := p5.ext
 have n6 : a6 id ≠ .free := by rw [q6]; intro e; cases e
 refine (locks_Fits_ok hc (h.ext' e6)).use ⟨_, rfl, id, d0, d1, d2, d3, d4, d5, rfl, hid, q6, ⟨p0, p1, p2, p3, p4, p5, ?_⟩, ?_⟩
 · simp only [List.pairwise_cons, List.mem_cons, List.not_mem_nil, or_false, forall_eq_or_imp, forall_eq, List.Pairwise.nil, and_true, false_imp_iff, implies_true]
   exact ⟨⟨ap01, ap02, ap03, ap04, ap05⟩, ⟨ap12, ap13, ap14, ap15⟩, ⟨ap23, ap24, ap25⟩, ⟨ap34, ap35⟩, ap45⟩
 · intro d hd
   simp only [List.mem_cons, List.not_mem_nil, or_false] at hd
   rcases hd with rfl | rfl | rfl | rfl | rfl | rfl <;> assumption
end
section
variable {σ σ0 : Store}
section
variable {c0 c1 c2 c3 c4 : D} {c : Cf} (hc : ∀ s, CfAt s c0 c1 c2 c3 c4 c)
def Does (σ0 : Store) (c0 c1 c2 c3 c4 : D) (c : Cf) (k : Co) (f : FuncId) (bs : List A) (E : Int) (Y : Co) (s : Store) : Prop :=
 ∀ id d0 d1 d2 d3 d4 d5 s1, Ext s s1 → CoIn σ0 s1 id t_locks_desk (cfC c0 c1 c2 c3 c4 c) [] d0 d1 d2 d3 d4 d5 k →
   DCalls Try.prog f ([] ++ [.one (.el (.osl id 0 1) 0 0)] ++ bs) s1 fun r s' => r = .a (iA E) ∧ Ext σ0 s' ∧ (E = 0 → CoIn σ0 s' id t_locks_desk (cfC c0 c1 c2 c3 c4 c) [] d0 d1 d2 d3 d4 d5 Y)
include hc
theorem locks_change_ok {k0 k1 k2 k3 k4 k5 : D} {k Y : Co} {E : Int} {f : FuncId} {b : List (Bool × List D)} {bs : List A} (h : CoAt σ k0 k1 k2 k3 k4 k5 k) (hf : CoFit k0 k1 k2 k3 k4 k5 k) (now : Int) (hb : capAs b = some bs)
   (hd : k.fits c = true → tm 0 now = true → Does σ c0 c1 c2 c3 c4 c k f bs E Y σ) :
   DCalls Try.prog n_locks_change [cfA c0 c1 c2 c3 c4 c, coA k0 k1 k2 k3 k4 k5 k.Dirty, iA now, .one (.fn f [] b)] σ (CoPost σ (k.done (k.gate c now E) Y)) := by
 refine W_locks_change _ _ _ _ _ _ _ _ _ k0 k1 k2 k3 k4 k5 k.Dirty now _ σ _ ((locks_open_ok hc h hf).mono ?_)
 rintro r s1 ⟨id, d0, d1, d2, d3, d4, d5, rfl, hI⟩
 refine ⟨_, _, rfl, ?_⟩
 intro R hR
 have bad : ∀ (e : Int) s, Ext σ s → e ≠ 0 → k.gate c now E = e → R e s := fun e s he hne hg => by
   refine hR e s ?_
   rw [show (e != 0) = true by simpa using hne]
   refine (locks_open_ok hc (h.ext' he) hf).mono ?_
   rintro r s2 ⟨id, d0, d1, d2, d3, d4, d5, rfl, hI2⟩
   refine ⟨_, _, rfl, trivial, _, _, _, rfl, _, box_row hI2.row, d0, d1, d2, d3, d4, d5, k.Dirty, rfl, ?_⟩
   rw [Co.done, hg, if_neg hne]
   exact ⟨d0, d1, d2, d3, d4, d5, rfl, hI2.co.from he⟩
 refine bcnot (fun e1 => ⟨rfl, bad 21 s1 hI.ext (by decide) (by rw [Co.gate, if_pos e1])⟩) (fun e1 => ?_)
 have hg1 : k.gate c now E = if tm 0 now = false then 32 else E := by rw [Co.gate, if_neg (by rw [e1]; decide)]
 refine newObj_intro fun id2 s2 hid2 _ he2 hs2 => ?_
 have hat : At Try.prog s2 t_int (.osl id2 0 1) ([now].map Go.Fw.encI) := At.fresh hs2 (by simp) rfl
 refine (locks_times_ok 0 (by omega) hat).use ⟨_, rfl, ?_⟩
 have ht : ([now].all fun n => decide (0 ≤ n ∧ n ≤ 4294967295 + 0)) = tm 0 now := by simp [tm]
 rw [ht]
 refine bcnot (fun e2 => ⟨rfl, bad 32 s2 (hI.ext.trans he2) (by decide) (by rw [hg1, if_pos e2])⟩) (fun e2 => ?_)
 rw [if_neg (by rw [e2]; decide)] at hg1
 have hI2 : CoIn σ s2 id t_locks_desk (cfC c0 c1 c2 c3 c4 c) [] d0 d1 d2 d3 d4 d5 k :=
   ⟨hI.new, (he2 id (by rw [hI.row]; intro e; cases e)).trans hI.row, ⟨hI.co.own.ext' he2, hI.co.routes.ext' he2, hI.co.points.ext' he2, hI.co.xs.ext' he2, hI.co.lines.ext' he2, hI.co.resets.ext' he2, hI.co.apart⟩, hI.ids⟩
 refine ⟨f, [], b, [], bs, rfl, rfl, hb, (hd e1 e2 id d0 d1 d2 d3 d4 d5 s2 (hI.ext.trans he2) hI2).mono ?_⟩
 rintro r s3 ⟨rfl, he3, hy⟩
 refine ⟨E, rfl, rfl, ?_⟩
 by_cases hE : E = 0
 · subst hE
   have hI3 := hy rfl
   refine hR 0 s3 ?_
   refine ⟨trivial, _, _, _, rfl, _, box_row hI3.row, d0, d1, d2, d3, d4, d5, Y.Dirty, rfl, ?_⟩
   rw [Co.done, hg1, if_pos rfl]
   exact ⟨d0, d1, d2, d3, d4, d5, rfl, hI3.co⟩
 · exact bad E s3 he3 hE hg1
omit hc
variable {id : Nat} {t : TypeId} {d0 d1 d2 d3 d4 d5 : D} {k : Co}
theorem desk_state_ok (hI : CoIn σ0 σ id t (cfC c0 c1 c2 c3 c4 c) [] d0 d1 d2 d3 d4 d5 k) (r : Int) :
   Pure Try.prog n_locks_desk_state [.one (.el (.osl id 0 1) 0 0), iA r] σ (match geti k.Routes r with | none => .tup [.one .nilp, iA 20] | some _ => .tup [.one (.el d1 r.toNat 0), iA 0]) := by
 have hs := hI.at.routes.size
 rw [List.length_map] at hs
 refine W_locks_desk_state _ r σ _ ⟨trivial, _, _, _, rfl, _, box_row hI.row, d1, rfl, hI.at.routes.lenK ((locks_between_ok _ _ _).use ⟨_, rfl, ?_⟩)⟩
 rw [List.length_map, w64_id (by omega) (by omega)]
 refine bcnot (fun e => ?_) (fun e => ?_)
 · have e := of_decide_eq_false e
   have : geti k.Routes r = none := by
     by_cases h0 : r < 0
     · exact geti_neg h0
     · exact geti_ge (by omega)
   rw [this]; exact ⟨rfl, rfl⟩
 · have e := of_decide_eq_true e
   obtain ⟨x, hx⟩ := geti_ex (l := k.Routes) (i := r) (by omega) (by omega)
   rw [hx]
   refine ⟨trivial, _, _, _, rfl, _, box_row hI.row, d1, rfl, hI.at.routes.idxK c_RouteState (Int.toNat_of_nonneg e.1).symm (by rw [List.length_map]; omega) ⟨rfl, rfl⟩⟩
include hc
theorem desk_inherits_ok (hI : CoIn σ0 σ id t (cfC c0 c1 c2 c3 c4 c) [] d0 d1 d2 d3 d4 d5 k) {r s o : Int} (ho : geti k.Own s = some o) (hlo : -2 ≤ o ∧ o ≤ c.Rts.length) (hr : 0 ≤ r ∧ r < c.Rts.length) :
   Pure Try.prog n_locks_desk_inherits [.one (.el (.osl id 0 1) 0 0), iA r, iA s] σ (.a (bA (k.inh c r s))) := by
 obtain ⟨g1, g2, g3⟩ := geti_some ho
 have w : w64 (o - 1) = o - 1 := w64_id (by omega) (by have := (rts_len (hc σ)); obtain ⟨rows, ha, hl⟩ := this; have := ha.size; omega)
 have hi : k.inh c r s = (decide (0 ≤ o - 1 ∧ o - 1 ≠ r) && (decide ((c.rt (o - 1)).Exit = (c.rt r).Entry) && inL (c.rt (o - 1)).Overlap s)) := by
   unfold Co.inh; rw [ho]; rfl
 have no : ¬ (0 ≤ o - 1 ∧ o - 1 ≠ r) → k.inh c r s = false := fun e => by rw [hi, decide_eq_false e]; rfl
 refine W_locks_desk_inherits _ r s σ _ ⟨trivial, _, _, _, rfl, _, box_row hI.row, d0, rfl, hI.at.own.load (map_get g3) c_int (Int.toNat_of_nonneg g1).symm ⟨o, rfl, ?_⟩⟩
 rw [w]
 refine bcd (fun e => by rw [no (by omega)]; exact ⟨rfl, rfl⟩) (fun e1 => bce (fun e => by rw [no (by omega)]; exact ⟨rfl, rfl⟩) (fun e2 => ?_))
 obtain ⟨q, hq⟩ := geti_ex (l := c.Rts) (i := o - 1) e1 (by omega)
 obtain ⟨x, hx⟩ := geti_ex (l := c.Rts) (i := r) (by omega) (by omega)
 obtain ⟨rows, q1, q2, q3, hat, hlen, hrow, f1, f2, f3⟩ := rt_frz hc (geti_some hq).2.2
 obtain ⟨rows', x1, x2, x3, hat', hlen', hrow', _, _, _⟩ := rt_frz hc (geti_some hx).2.2
 rw [hi, decide_eq_true (by omega), rt_some hq, rt_some hx, Bool.true_and]
 refine ⟨trivial, _, _, _, rfl, _, box_row hI.row, c4, rfl, (hat σ).load hrow c_Route (by omega) ⟨_, _, _, _, _, _, rfl, trivial, _, _, _, rfl, _, box_row hI.row, c4, rfl, (hat' σ).load hrow' c_Route (by omega) ⟨x.Entry, rfl, bce (fun e => ?_) (fun e => ?_)⟩⟩⟩
 · exact (Contains_int_ok s (f3 σ)).use ⟨_, rfl, by rw [decide_eq_true e]; exact ⟨rfl, rfl⟩⟩
 · rw [decide_eq_false e]; exact ⟨rfl, rfl⟩
theorem desk_may_ok' (hI : CoIn σ0 σ id t (cfC c0 c1 c2 c3 c4 c) [] d0 d1 d2 d3 d4 d5 k) {r : Int} {ds : D} {l : List Int} (hl : At Try.prog σ t_int ds (l.map Go.Fw.encI)) (hr : 0 ≤ r ∧ r < c.Rts.length)
   (hin : ∀ s ∈ l, ∃ o, geti k.Own s = some o) (hlo : ∀ o ∈ k.Own, -2 ≤ o ∧ o ≤ c.Rts.length) :
   Pure Try.prog n_locks_desk_may [.one (.el (.osl id 0 1) 0 0), iA r, .one ds] σ (.a (iA (k.may c r l))) := by
 have hs := hI.at.routes.size
 rw [List.length_map] at hs
 have hls := hl.size
 rw [List.length_map] at hls
 refine W_locks_desk_may _ r _ σ _ ⟨trivial, _, _, _, rfl, _, box_row hI.row, d1, rfl, hI.at.routes.lenK ⟨fun n s => s = σ ∧ Rng k.Routes (fun q => apprS c l q n.toNat = apprS c l k.Routes 0) n, fun n _ => k.Routes.length - n.toNat, ⟨rfl, .start rfl⟩, ?_⟩⟩
 rintro n s ⟨rfl, hq⟩
 rw [List.length_map]
 refine bcd (fun hlt => ?_) (fun hge => ?_)
 · obtain ⟨j, x, rfl, hx, hj, hF, nx⟩ := hq.step rfl (by omega) hlt
   rw [apprS, Int.toNat_natCast] at hF
   have next : (decide (x.State ≠ 0) && inL l (c.Approach j)) = false → (s = s ∧ Rng k.Routes (fun q => apprS c l q (w64 ((j : Int) + 1)).toNat = apprS c l k.Routes 0) (w64 ((j : Int) + 1))) ∧ k.Routes.length - (w64 ((j : Int) + 1)).toNat < k.Routes.length - (j : Int).toNat := fun e => by
     rw [e, Bool.false_or] at hF
     exact andl rfl (nx _ (by rw [w64_succ (by omega), Int.toNat_natCast]; exact hF))
   refine hI.at.routes.load (map_get hx) c_RouteState rfl ⟨x.State, x.Since, x.Next, x.Mark, rfl, bcn (fun e => ?_) (fun e => next (by rw [decide_eq_false (by simpa using e)]; rfl))⟩
   refine ⟨trivial, _, _, _, rfl, _, box_row hI.row, c0, c1, c2, c3, c4, _, _, _, _, rfl, (conf_Approach_ok (hc s) j).use ⟨_, rfl, (Contains_int_ok _ hl).use ⟨_, rfl, bc (fun e2 => ?_) (fun e2 => next (by rw [e2, Bool.and_false]))⟩⟩⟩
   have : apprS c l k.Routes 0 = true := by rw [← hF, e2, decide_eq_true e]; rfl
   rw [Co.may, if_pos this]; exact ⟨rfl, rfl⟩
 · have hF := hq.done rfl hge
   have hap : apprS c l k.Routes 0 = false := by rw [← hF]; rfl
   have hm : k.may c r l = if k.blocked c r l = true then 22 else 0 := by rw [Co.may, if_neg (by rw [hap]; decide)]
   rw [hm]
   refine hl.lenK ⟨fun n s' => s' = s ∧ Rng l (fun q => k.blocked c r q = k.blocked c r l) n, fun n _ => l.length - n.toNat, ⟨rfl, .start rfl⟩, ?_⟩
   rintro n s' ⟨rfl, hq⟩
   rw [List.length_map]
   refine bcd (fun hlt => ?_) (fun hge => ?_)
   · obtain ⟨j, v, rfl, hv, hj, hF, nx⟩ := hq.step rfl (by omega) hlt
     obtain ⟨o, ho⟩ := hin v (List.mem_of_getElem? hv)
     obtain ⟨g1, g2, g3⟩ := geti_some ho
     have hF : ((decide ((geti k.Own v).getD 0 ≠ 0) && !k.inh c r v) || k.blocked c r (l.drop (j + 1))) = k.blocked c r l := hF
     rw [ho, Option.getD_some] at hF
     refine hl.load (map_get hv) c_int rfl ⟨v, rfl, trivial, _, _, _, rfl, _, box_row hI.row, d0, rfl, hI.at.own.load (map_get g3) c_int (Int.toNat_of_nonneg g1).symm ⟨o, rfl, bcn (fun e => ?_) (fun e => ?_)⟩⟩
     · refine (desk_inherits_ok hc hI ho (hlo o (geti_mem ho)) hr).use ⟨_, rfl, bcnot (fun e2 => ?_) (fun e2 => ?_)⟩
       · rw [e2, decide_eq_true e] at hF
         rw [if_pos (by rw [← hF]; rfl)]; exact ⟨rfl, rfl⟩
       · rw [e2, Bool.not_true, Bool.and_false, Bool.false_or] at hF
         exact andl rfl (nx _ hF)
     · rw [decide_eq_false (by simpa using e), Bool.false_and, Bool.false_or] at hF
       exact andl rfl (nx _ hF)
   · have hF := hq.done rfl hge
     rw [if_neg (by rw [← hF]; show ¬ (false = true); decide)]; exact ⟨rfl, rfl⟩
end
end
section
variable {σ σ0 : Store}
def cmdPre (xs : List A) (s : Store) : Prop := ∃ (m : Mv) (now cmd : Int), xs = [.agg m.enc, iA now, iA cmd]
def cmdPost (xs : List A) (s : Store) (r : RV) (s' : Store) : Prop := ∃ (m : Mv) (now cmd : Int), xs = [.agg m.enc, iA now, iA cmd] ∧ r = .a (.agg (cmdM m now cmd).enc) ∧ s' = s
theorem mover_Command_ok (m : Mv) (now cmd : Int) : Pure Try.prog n_mover_Command [.agg m.enc, iA now, iA cmd] σ (.a (.agg (cmdM m now cmd).enc)) :=
 W_mover_Command m.Cmd m.Other now cmd σ _ (bcn (fun e => ⟨by rw [cmdM, if_pos e]; rfl, rfl⟩) (fun e => ⟨by rw [cmdM, if_neg (by simpa using e)]; rfl, rfl⟩))
theorem cmd_spec : SpecOk Try.prog n_mover_Command cmdPre cmdPost := by
 refine ⟨?_, ?_, ?_, ?_, ?_⟩
 · rintro xs s ⟨m, now, cmd, rfl⟩
   exact (mover_Command_ok m now cmd).use ⟨m, now, cmd, rfl, rfl, rfl⟩
 · rintro xs s ⟨m, now, cmd, rfl⟩ hf
   exact ⟨_, s, ⟨m, now, cmd, rfl, rfl, rfl⟩, hf⟩
 · rintro xs s r s' ⟨m, now, cmd, rfl, rfl, rfl⟩ hf
   exact hf
 · rintro xs s id so hid hso ⟨m, now, cmd, rfl⟩
   refine ⟨⟨m, now, cmd, rfl⟩, ?_⟩
   rintro r s' ⟨m, now, cmd, e, rfl, rfl⟩
   exact ⟨s, ⟨m, now, cmd, e, rfl, rfl⟩, hid, rfl⟩
 · rintro xs s r s' _ ⟨m, now, cmd, rfl, rfl, rfl⟩ i _
   rfl
theorem cmd_post {m : Mv} {now cmd : Int} {s s' : Store} {r : RV} (h : cmdPost [.agg m.enc, iA now, iA cmd] s r s') : r = .a (.agg (cmdM m now cmd).enc) ∧ s' = s := by
 obtain ⟨m', now', cmd', e, h1, h2⟩ := h
 injection e with e1 e2
 injection e2 with e2 e3
 injection e3 with e3 _
 injection e1 with e1
 injection e2 with e2
 injection e3 with e3
 injection e2 with _ e2
 injection e3 with _ e3
 subst e2 e3
 have : m = m' := by
   cases m; cases m'
   simp [Mv.enc, iD] at e1
   simp [e1]
 subst this
 exact ⟨h1, h2⟩
section
variable {c0 c1 c2 c3 c4 : D} {c : Cf} (hc : ∀ s, CfAt s c0 c1 c2 c3 c4 c) {id : Nat} {t : TypeId} {d0 d1 d2 d3 d4 d5 : D} {k : Co}
include hc
theorem desk_line_ok' (hI : CoIn σ0 σ id t (cfC c0 c1 c2 c3 c4 c) [] d0 d1 d2 d3 d4 d5 k) (hok : c.check = 0) (hl4 : k.Lines.length = 4) {r : Int} {x : Rt} (hx : geti c.Rts r = some x) :
   Pure Try.prog n_locks_desk_line [.one (.el (.osl id 0 1) 0 0), iA r] σ (.a (.one (if lineF c x.Path > 0 then .el d4 (lineF c x.Path).toNat 0 else .nilp))) := by
 have hr := check_rt hok (geti_mem hx)
 obtain ⟨rows, q1, q2, q3, hat, hlen, hrow, f1, f2, f3⟩ := rt_frz hc (geti_some hx).2.2
 have hg := geti_some hx
 have w1 := hr.len
 refine W_locks_desk_line _ r σ _ ⟨trivial, _, _, _, rfl, _, box_row hI.row, c4, rfl, (hat σ).load hrow c_Route (by omega) ⟨q1, rfl, (f1 σ).lenK ⟨fun n s => s = σ ∧ Rng x.Path (fun q => lineF c q = lineF c x.Path) n, fun n _ => x.Path.length - n.toNat, ⟨rfl, .start rfl⟩, ?_⟩⟩⟩
 rintro n s ⟨rfl, hq⟩
 rw [List.length_map]
 refine bcd (fun hlt => ?_) (fun hge => ?_)
 · obtain ⟨j, y, rfl, hy, hj, hF, nx⟩ := hq.step rfl (by omega) hlt
   obtain ⟨z, hz, _⟩ := (hr.step y (List.mem_of_getElem? hy)).1.sec
   have hgz := geti_some hz
   rw [lineF, hz, Option.getD_some] at hF
   refine (f1 s).load (map_get hy) c_Step rfl ⟨y.Sec, y.In, y.Out, rfl, trivial, _, _, _, rfl, _, box_row hI.row, c0, rfl, (hc s).secs.load (map_get hgz.2.2) c_Section (Int.toNat_of_nonneg hgz.1).symm ⟨z.Line, rfl, bcd (fun e => ?_) (fun e => ?_)⟩⟩
   · rw [if_pos e] at hF
     rw [← hF, if_pos e]
     have hz3 := topo_line (check_parts hok).1 hgz.2.2
     exact ⟨trivial, _, _, _, rfl, _, box_row hI.row, d4, rfl, hI.at.lines.idxK c_LineState (Int.toNat_of_nonneg (by omega)).symm (by rw [List.length_map]; omega) ⟨rfl, rfl⟩⟩
   · rw [if_neg e] at hF
     exact andl rfl (nx _ hF)
 · have hF := hq.done rfl hge
   rw [← hF]; exact ⟨rfl, rfl⟩
theorem desk_request_ok (hI : CoIn σ0 σ id t (cfC c0 c1 c2 c3 c4 c) [] d0 d1 d2 d3 d4 d5 k) (hz : RtsNz c4) (hfit : k.fits c = true) (now r : Int) :
   DCalls Try.prog n_locks_desk_request [.one (.el (.osl id 0 1) 0 0), iA now, iA r] σ fun q s' => q = .a (iA (k.reqE c r)) ∧ Ext σ0 s' ∧ (k.reqE c r = 0 → CoIn σ0 s' id t (cfC c0 c1 c2 c3 c4 c) [] d0 d1 d2 d3 d4 d5 (k.lockC c now r)) := by
 have hfi := fits_iff.1 hfit
 have hok := hfi.chk
 have err : ∀ e : Int, k.reqE c r = e → e ≠ 0 → (RV.a (iA e) = RV.a (iA (k.reqE c r)) ∧ Ext σ0 σ ∧ (k.reqE c r = 0 → CoIn σ0 σ id t (cfC c0 c1 c2 c3 c4 c) [] d0 d1 d2 d3 d4 d5 (k.lockC c now r))) := fun e h1 h2 =>
   ⟨by rw [h1], hI.ext, fun h3 => absurd (h1.symm.trans h3) h2⟩
 refine W_locks_desk_request _ now r σ _ ((desk_state_ok hI r).use ?_)
 cases hgr : geti k.Routes r with
 | none => exact ⟨_, _, rfl, err 20 (by rw [Co.reqE, hgr]) (by decide)⟩
 | some x =>
   have hgx := geti_some hgr
   have hsz := hI.at.routes.size
   rw [List.length_map] at hsz
   have hxl := (List.getElem?_eq_some_iff.1 hgx.2.2).1
   have hE : k.reqE c r = if x.State ≠ 0 then 28 else if k.may c r (c.lockL r) ≠ 0 then k.may c r (c.lockL r) else if lineF c (c.rt r).Path > 0 ∧ ((geti k.Lines (lineF c (c.rt r).Path)).getD zLs).Ask ≥ 4294967295 then 5 else 0 := by
     rw [Co.reqE, hgr]
   obtain ⟨y, hy, hym⟩ := rt_of hfi hgr
   have hrok := check_rt hok hym
   have hyl := (List.getElem?_eq_some_iff.1 (geti_some hy).2.2).1
   have hcl : c.Rts.length = k.Routes.length := hfi.lRts.symm
   have hll : c.lockL r = Cf.lockR y := by unfold Cf.lockL; rw [hy]
   have hsec : ∀ s ∈ c.lockL r, ∃ z, geti c.Secs s = some z := fun s hs => lockR_sec hrok (by rw [← hll]; exact hs)
   refine ⟨_, _, rfl, ?_⟩
   show bcase ((0 : Int) != 0) _ _
   rw [show ((0 : Int) != 0) = false from by decide]
   refine ⟨trivial, _, _, _, rfl, _, hI.at.routes.row (map_get hgx.2.2), x.State, rfl, bcn (fun e => err 28 (by rw [hE, if_pos e]) (by decide)) (fun e1 => ?_)⟩
   rw [if_neg (by simpa using e1)] at hE
   refine ⟨trivial, _, _, _, rfl, _, box_row hI.row, c0, c1, c2, c3, c4, _, _, _, _, rfl, (conf_Locks_ok hc hok hz r).mono ?_⟩
   rintro q s ⟨rfl, d7, rfl, h7⟩
   have hin : ∀ v ∈ c.lockL r, ∃ o, geti k.Own v = some o := fun v hv => by
     obtain ⟨z, hz⟩ := hsec v hv
     have hg := geti_some hz
     have := (List.getElem?_eq_some_iff.1 hg.2.2).1
     exact geti_ex (by omega) (by have := hfi.lOwn; omega)
   refine ⟨d7, rfl, (desk_may_ok' hc hI (h7 s) (by omega) hin hfi.own).use ⟨_, rfl, bcn (fun e => err _ (by rw [hE, if_pos e]) e) (fun e2 => ?_)⟩⟩
   rw [if_neg (by simpa using e2), rt_some hy] at hE
   intro R hR
   have body : (lineF c y.Path > 0 → ((geti k.Lines (lineF c y.Path)).getD zLs).Ask < 4294967295) → ∀ s3, CoIn σ0 s3 id t (cfC c0 c1 c2 c3 c4 c) [] d0 d1 d2 d3 d4 d5 { k with Lines := askC (lineF c y.Path) k.Lines } → R s3 := by
     intro hask s3 hI3
     have hE0 : k.reqE c r = 0 := by rw [hE, if_neg (by intro h; have := hask h.1; omega)]
     refine hR s3 ?_
     have hz7 := (h7 s3).size
     rw [List.length_map] at hz7
     refine (h7 s3).lenK ⟨fun n s => ∃ j : Nat, n = j ∧ j ≤ (c.lockL r).length ∧ CoIn σ0 s id t (cfC c0 c1 c2 c3 c4 c) [] d0 d1 d2 d3 d4 d5 { k with Lines := askC (lineF c y.Path) k.Lines, Own := ((c.lockL r).take j).foldl (fun w s => w.set s.toNat (r + 1)) k.Own },
       fun n _ => (c.lockL r).length - n.toNat, ⟨0, rfl, by omega, by simpa using hI3⟩, ?_⟩
     rintro n s4 ⟨j, rfl, hj, hI4⟩
     rw [List.length_map]
     refine bcd (fun hlt => ?_) (fun hge => ?_)
     · obtain ⟨v, hv⟩ := get_of_lt (l := c.lockL r) (j := j) (by omega)
       obtain ⟨o, ho⟩ := hin v (List.mem_of_getElem? hv)
       have hgo := geti_some ho
       have hvl := (List.getElem?_eq_some_iff.1 hgo.2.2).1
       have hlo := ownC_len (r + 1) ((c.lockL r).take j) k.Own
       obtain ⟨o', ho'⟩ := get_of_lt (l := ((c.lockL r).take j).foldl (fun w s => w.set s.toNat (r + 1)) k.Own) (j := v.toNat) (by omega)
       refine (h7 s4).load (map_get hv) c_int rfl ⟨v, rfl, trivial, _, _, _, rfl, _, box_row hI4.row, d0, rfl, hI4.at.own.idxK c_int (Int.toNat_of_nonneg hgo.1).symm (by simp only [List.length_map]; omega) ?_⟩
       rw [w64_id (n := r + 1) (by omega) (by omega)]
       refine hI4.putO (k := { k with Lines := askC (lineF c y.Path) k.Lines, Own := ((c.lockL r).take j).foldl (fun w s => w.set s.toNat (r + 1)) k.Own }) (y := r + 1) ho' rfl (by simp) rfl fun s5 hI5 _ => ?_
       rw [w64_succ (by omega)]
       refine ⟨⟨j + 1, rfl, by omega, ?_⟩, dec_lt (by omega)⟩
       rw [List.take_add_one, hv, List.foldl_append]
       exact hI5
     have e : j = (c.lockL r).length := by omega
     rw [e, List.take_length] at hI4
     have hxr := hgx.2.2
     refine ⟨trivial, _, _, _, rfl, hI4.putR (k := { k with Lines := askC (lineF c y.Path) k.Lines, Own := (c.lockL r).foldl (fun w s => w.set s.toNat (r + 1)) k.Own }) (y := ⟨1, 0, 0, 0⟩) hxr rfl (by simp) rfl fun s5 hI5 _ => ?_⟩
     have hyn : (c.rt r).Path.length ≤ 2 ^ 20 := by rw [rt_some hy]; have := hrok.len; omega
     have hyf : (c.rt r).Flank.length ≤ 2 ^ 20 := by rw [rt_some hy]; have := hrok.flen; omega
     refine ⟨trivial, _, _, _, rfl, _, box_row hI5.row, c0, c1, c2, c3, c4, _, _, _, _, rfl, (mover_Needs_ok hc r hyn hyf).mono ?_⟩
     rintro q s6 ⟨rfl, d13, rfl, h13⟩
     have hnl : (c.Needs r).length ≤ 41 := by
       rw [Cf.Needs, rt_some hy]
       have := needs_len c y
       have := hrok.len; have := hrok.flen; omega
     refine ⟨d13, rfl, (h13 s6).lenK ⟨fun n s => ∃ j : Nat, n = j ∧ j ≤ (c.Needs r).length ∧ CoIn σ0 s id t (cfC c0 c1 c2 c3 c4 c) [] d0 d1 d2 d3 d4 d5 { k with Lines := askC (lineF c y.Path) k.Lines, Own := (c.lockL r).foldl (fun w s => w.set s.toNat (r + 1)) k.Own, Routes := k.Routes.set r.toNat ⟨1, 0, 0, 0⟩, Points := ptsC now ((c.Needs r).take j) k.Points },
       fun n _ => (c.Needs r).length - n.toNat, ⟨0, rfl, by omega, hI5⟩, ?_⟩⟩
     rintro n s7 ⟨j, rfl, hj, hI7⟩
     rw [List.length_map]
     refine bcd (fun hlt => ?_) (fun hge => ?_)
     · obtain ⟨nd, hnd⟩ := get_of_lt (l := c.Needs r) (j := j) (by omega)
       have hnm := List.mem_of_getElem? hnd
       obtain ⟨⟨z, hz⟩, _⟩ := needs_sec hrok (by rw [Cf.Needs, rt_some hy] at hnm; exact hnm)
       have hgz := geti_some hz
       have hzl := (List.getElem?_eq_some_iff.1 hgz.2.2).1
       have hpl := ptsC_len now ((c.Needs r).take j) k.Points
       have hpl2 := hfi.lPts
       obtain ⟨m, hm⟩ := get_of_lt (l := ptsC now ((c.Needs r).take j) k.Points) (j := nd.Sec.toNat) (by omega)
       have hgm : geti (ptsC now ((c.Needs r).take j) k.Points) nd.Sec = some m := by unfold geti; rw [if_neg (by omega), hm]
       refine (h13 s7).load (map_get hnd) c_Need rfl ⟨nd.Sec, nd.Pos, rfl, cmdPre, cmdPost, cmd_spec, trivial, _, _, _, rfl, _, box_row hI7.row, d2, rfl, trivial, _, _, _, rfl, _, box_row hI7.row, d2, rfl,
         hI7.at.points.load (map_get hm) c_Mover (Int.toNat_of_nonneg hgz.1).symm ⟨m.Cmd, m.Other, rfl, ⟨m, now, nd.Pos, rfl⟩, ?_⟩⟩
       intro q s8 hq
       obtain ⟨rfl, rfl⟩ := cmd_post (m := m) hq
       refine ⟨_, _, rfl, hI7.at.points.idxK c_Mover (Int.toNat_of_nonneg hgz.1).symm (by simp only [List.length_map]; omega) ?_⟩
       refine hI7.putP (k := { k with Lines := askC (lineF c y.Path) k.Lines, Own := (c.lockL r).foldl (fun w s => w.set s.toNat (r + 1)) k.Own, Routes := k.Routes.set r.toNat ⟨1, 0, 0, 0⟩, Points := ptsC now ((c.Needs r).take j) k.Points }) (y := cmdM m now nd.Pos) hm rfl (by simp) rfl fun s9 hI9 _ => ?_
       rw [w64_succ (by omega)]
       refine ⟨⟨j + 1, rfl, by omega, ?_⟩, dec_lt (by omega)⟩
       have e : ptsC now ((c.Needs r).take (j + 1)) k.Points = (ptsC now ((c.Needs r).take j) k.Points).set nd.Sec.toNat (cmdM m now nd.Pos) := by
         rw [List.take_add_one, hnd, ptsC, List.foldl_append]
         show (ptsC now ((c.Needs r).take j) k.Points).set nd.Sec.toNat (cmdM ((geti (ptsC now ((c.Needs r).take j) k.Points) nd.Sec).getD ⟨0, 0⟩) now nd.Pos) = _
         rw [hgm]; rfl
       rw [e]; exact hI9
     have e : j = (c.Needs r).length := by omega
     rw [e, List.take_length] at hI7
     have hxs := (check_xs hok).2.2
     refine ⟨trivial, _, _, _, rfl, _, box_row hI7.row, c0, c1, c2, c3, c4, _, _, _, _, rfl, (mover_Crossings_ok hc r (by omega)).mono ?_⟩
     rintro q s8 ⟨rfl, d19, rfl, h19⟩
     have hcl2 : (c.Cross r).length ≤ c.Xs.length := crossL_len _ _ _
     refine ⟨d19, rfl, (h19 s8).lenK ⟨fun n s => ∃ j : Nat, n = j ∧ j ≤ (c.Cross r).length ∧ CoIn σ0 s id t (cfC c0 c1 c2 c3 c4 c) [] d0 d1 d2 d3 d4 d5 { k with Lines := askC (lineF c y.Path) k.Lines, Own := (c.lockL r).foldl (fun w s => w.set s.toNat (r + 1)) k.Own, Routes := k.Routes.set r.toNat ⟨1, 0, 0, 0⟩, Points := ptsC now (c.Needs r) k.Points, Xs := xsC now ((c.Cross r).take j) k.Xs },
       fun n _ => (c.Cross r).length - n.toNat, ⟨0, rfl, by omega, hI7⟩, ?_⟩⟩
     rintro n s9 ⟨j, rfl, hj, hI9⟩
     rw [List.length_map]
     refine bcd (fun hlt => ?_) (fun hge => ?_)
     · obtain ⟨v, hv⟩ := get_of_lt (l := c.Cross r) (j := j) (by omega)
       obtain ⟨i, xx, e3, hxx, _⟩ := crossL_mem _ _ _ _ (List.mem_of_getElem? hv)
       rw [Nat.zero_add] at e3
       subst e3
       have hil := (List.getElem?_eq_some_iff.1 hxx).1
       have hpl := xsC_len now ((c.Cross r).take j) k.Xs
       have hpl2 := hfi.lXs
       obtain ⟨m, hm⟩ := get_of_lt (l := xsC now ((c.Cross r).take j) k.Xs) (j := i) (by omega)
       have hgm : geti (xsC now ((c.Cross r).take j) k.Xs) (i : Int) = some m := by rw [geti_nat, hm]
       refine (h19 s9).load (map_get hv) c_int rfl ⟨(i : Int), rfl, cmdPre, cmdPost, cmd_spec, trivial, _, _, _, rfl, _, box_row hI9.row, d3, rfl, trivial, _, _, _, rfl, _, box_row hI9.row, d3, rfl,
         hI9.at.xs.load (map_get hm) c_Mover rfl ⟨m.Cmd, m.Other, rfl, ⟨m, now, 1, rfl⟩, ?_⟩⟩
       intro q s10 hq
       obtain ⟨rfl, rfl⟩ := cmd_post (m := m) hq
       refine ⟨_, _, rfl, hI9.at.xs.idxK c_Mover rfl (by simp only [List.length_map]; omega) ?_⟩
       refine hI9.putX (k := { k with Lines := askC (lineF c y.Path) k.Lines, Own := (c.lockL r).foldl (fun w s => w.set s.toNat (r + 1)) k.Own, Routes := k.Routes.set r.toNat ⟨1, 0, 0, 0⟩, Points := ptsC now (c.Needs r) k.Points, Xs := xsC now ((c.Cross r).take j) k.Xs }) (y := cmdM m now 1) hm (by rw [Int.toNat_natCast]) (by simp) rfl fun s11 hI11 _ => ?_
       rw [w64_succ (by omega)]
       refine ⟨⟨j + 1, rfl, by omega, ?_⟩, dec_lt (by omega)⟩
       have e : xsC now ((c.Cross r).take (j + 1)) k.Xs = (xsC now ((c.Cross r).take j) k.Xs).set i (cmdM m now 1) := by
         rw [List.take_add_one, hv, xsC, List.foldl_append]
         show (xsC now ((c.Cross r).take j) k.Xs).set ((i : Int)).toNat (cmdM ((geti (xsC now ((c.Cross r).take j) k.Xs) (i : Int)).getD ⟨0, 0⟩) now 1) = _
         rw [hgm]; rfl
       rw [e]; exact hI11
     have e : j = (c.Cross r).length := by omega
     rw [e, List.take_length] at hI9
     refine ⟨trivial, _, _, _, rfl, hI9.dirty (b := true) rfl fun s10 hI10 _ => ⟨by rw [hE0], hI10.ext, fun _ => ?_⟩⟩
     have : k.lockC c now r = { k with Lines := askC (lineF c y.Path) k.Lines, Own := (c.lockL r).foldl (fun w s => w.set s.toNat (r + 1)) k.Own, Routes := k.Routes.set r.toNat ⟨1, 0, 0, 0⟩, Points := ptsC now (c.Needs r) k.Points, Xs := xsC now (c.Cross r) k.Xs, Dirty := true } := by
       rw [Co.lockC, rt_some hy]
     rw [this]; exact hI10
   refine (desk_line_ok' hc hI hok hfi.lLn hy).use ⟨_, rfl, ?_⟩
   by_cases hl : lineF c y.Path > 0
   · rw [if_pos hl]
     have hl3 := (line_ok hok y.Path).2
     obtain ⟨u, hu⟩ := get_of_lt (l := k.Lines) (j := (lineF c y.Path).toNat) (by have := hfi.lLn; omega)
     have hgu : geti k.Lines (lineF c y.Path) = some u := by unfold geti; rw [if_neg (by omega), hu]
     refine ⟨false, rfl, ?_⟩
     show bcase (false != true) _ _
     rw [show (false != true) = true from by decide]
     refine ⟨trivial, _, _, _, rfl, _, hI.at.lines.row (map_get hu), u.Ask, rfl, bcd (fun e => err 5 (by rw [hE, if_pos ⟨hl, by rw [hgu]; exact e⟩]) (by decide)) (fun e3 => ?_)⟩
     refine ⟨trivial, _, _, _, rfl, _, hI.at.lines.row (map_get hu), u.Ask, rfl, trivial, _, _, _, rfl, ?_⟩
     have hua := (hfi.lns u (List.mem_of_getElem? hu))
     simp only [Ls.fits, tm, Bool.and_eq_true, decide_eq_true_eq] at hua
     rw [w64_id (n := u.Ask + 1) (by omega) (by omega)]
     refine hI.putL (y := { u with Ask := u.Ask + 1 }) hu rfl (by simp) rfl fun s4 hI4 _ => body (fun _ => by rw [hgu]; show u.Ask < 4294967295; omega) s4 ?_
     have : askC (lineF c y.Path) k.Lines = k.Lines.set (lineF c y.Path).toNat { u with Ask := u.Ask + 1 } := by rw [askC, if_pos hl, hgu]; rfl
     rw [this]; exact hI4
   · rw [if_neg hl]
     refine ⟨true, rfl, ?_⟩
     show bcase (true != true) _ _
     rw [show (true != true) = false from by decide]
     refine body (fun h => absurd h hl) s ?_
     have : askC (lineF c y.Path) k.Lines = k.Lines := by rw [askC, if_neg hl]
     rw [this]; exact hI
end
end
section
variable {σ σ0 : Store}
theorem live_ext {s s' : Store} {id : Nat} {t : TypeId} {rows : List (List D)} (h : s id = .live t rows) (he : Ext s s') : s' id = .live t rows := (he id (by rw [h]; intro e; cases e)).trans h
theorem CoPost.from {σ1 s : Store} {p : Co × Int} {r : RV} (he : Ext σ σ1) (h : CoPost σ1 p r s) : CoPost σ p r s := by
 obtain ⟨d0, d1, d2, d3, d4, d5, e, ho⟩ := h
 exact ⟨d0, d1, d2, d3, d4, d5, e, ho.from he⟩
theorem CoPost.pass {s : Store} {p : Co × Int} {r : RV} {Q : RV → Store → Prop} (h : CoPost σ p r s) (hq : Q r s) :
   ∃ d d1 d2 d3 d4 d5 : D, ∃ b : Bool, ∃ n1 : Int, r = .tup [.agg [d, d1, d2, d3, d4, d5, .bool b], .one (.int .i64 n1)] ∧ Q (.tup [.agg [d, d1, d2, d3, d4, d5, .bool b], .one (.int .i64 n1)]) s := by
 obtain ⟨d0, d1, d2, d3, d4, d5, e, ho⟩ := h
 refine ⟨d0, d1, d2, d3, d4, d5, p.1.Dirty, p.2, e, ?_⟩
 rw [← e]; exact hq
section
variable {c0 c1 c2 c3 c4 k0 k1 k2 k3 k4 k5 : D} {c : Cf} (hc : ∀ s, CfAt s c0 c1 c2 c3 c4 c) {k : Co} (h : CoAt σ k0 k1 k2 k3 k4 k5 k) (hf : CoFit k0 k1 k2 k3 k4 k5 k)
include hc h hf
theorem locks_Request_ok (hz : RtsNz c4) (now r : Int) : DCalls Try.prog n_locks_Request [cfA c0 c1 c2 c3 c4 c, coA k0 k1 k2 k3 k4 k5 k.Dirty, iA now, iA r] σ (CoPost σ (k.requestC c now r)) := by
 refine W_locks_Request _ _ _ _ _ _ _ _ _ k0 k1 k2 k3 k4 k5 k.Dirty now r σ _ (newObj_intro fun id s1 hid _ e1 q1 => newObj_intro fun id1 s2 hid1 _ e2 q2 => ?_)
 have q12 := live_ext q1 e2
 refine ⟨_, box_row q12, now, rfl, (locks_change_ok hc (h.ext' (e1.trans e2)) hf now (bs := [.one (.el (.osl id 0 1) 0 0), .one (.el (.osl id1 0 1) 0 0)]) (E := k.reqE c r) (Y := k.lockC c now r) rfl ?_).mono fun q s3 hp => hp.pass (hp.from (e1.trans e2))⟩
 intro hfit ht id' d0 d1 d2 d3 d4 d5 s3 he hI
 refine W_locks_Request_1 _ _ _ s3 _ ⟨_, _, _, rfl, _, box_row (live_ext q12 he), now, rfl, _, _, _, rfl, _, box_row (live_ext q2 he), r, rfl, (desk_request_ok hc hI hz hfit now r).mono ?_⟩
 rintro q s4 ⟨rfl, w1, w2⟩
 exact ⟨_, rfl, rfl, w1, w2⟩
end
end
section
variable {σ : Store}
theorem CoFz.fit {d0 d1 d2 d3 d4 d5 : D} {k : Co} (h : CoFz d0 d1 d2 d3 d4 d5 k) (hs : k.Own.length ≤ 2 ^ 20 ∧ k.Routes.length ≤ 2 ^ 20 ∧ k.Points.length ≤ 2 ^ 20 ∧ k.Xs.length ≤ 2 ^ 20 ∧ k.Lines.length ≤ 2 ^ 20 ∧ k.Resets.length ≤ 2 ^ 20) : CoFit d0 d1 d2 d3 d4 d5 k :=
 ⟨h.n0, h.n1, h.n2, h.n3, h.n4, h.n5, by omega, by omega, by omega, by omega, by omega, by omega⟩
end
section
variable {σ : Store}
def LawTrue (f : FuncId) (xs : List A) : Prop := DCalls Try.prog f xs noS fun r _ => r = .a (.one (.bool true))
end
section
variable {σ : Store}
def endK (o : Int) (x : Ls) (b : Bool) : Co := ⟨[o, 0], [⟨0, 0, 0, 0⟩], [⟨0, 0⟩, ⟨0, 0⟩], [], [zLs, x, zLs, zLs], [0, 0], b⟩
def endStep (occ stamp now : Int) (o : Int) (x : Ls) (b : Bool) : Co :=
 let m := decide (x.PAsk > (if x.PDone > x.Grant then x.PDone else x.Grant)) && decide (x.Ask = x.Done)
 let k' : Co := if o = -2 then
     if x.PDone < x.Grant then endK o { x with Since := 0 } b
     else if x.Since = 0 then endK o { x with Since := w64 (now + 1) } b
     else if occ = 0 ∧ x.Since ≤ stamp then endK 0 { x with Since := 0 } true
     else endK o x b
   else if o = 0 ∧ m = true then endK (-2) { x with Grant := x.PAsk, Since := 0 } true
   else endK o x b
 if b = true then k' else { k' with Lines := k'.Lines.set 1 { (k'.Lines[1]?).getD zLs with Told := x.Grant } }
end
section
variable {σ : Store}
theorem CoFz.fits {d0 d1 d2 d3 d4 d5 k0 k1 k2 k3 k4 k5 : D} {k : Co} (h : CoFz d0 d1 d2 d3 d4 d5 k) (hf : CoFit k0 k1 k2 k3 k4 k5 k) : CoFit d0 d1 d2 d3 d4 d5 k :=
 ⟨h.n0, h.n1, h.n2, h.n3, h.n4, h.n5, hf.b0, hf.b1, hf.b2, hf.b3, hf.b4, hf.b5⟩
theorem CoOwn.ext' {σ0 s s' : Store} {d0 d1 d2 d3 d4 d5 : D} {k : Co} (h : CoOwn σ0 s d0 d1 d2 d3 d4 d5 k) (he : Ext s s') : CoOwn σ0 s' d0 d1 d2 d3 d4 d5 k :=
 ⟨h.own.ext' he, h.routes.ext' he, h.points.ext' he, h.xs.ext' he, h.lines.ext' he, h.resets.ext' he, h.apart⟩
end
section
variable {σ σ0 : Store}
def litS : Cf := ⟨[⟨0, 0, 0⟩, ⟨1, 0, 0⟩, ⟨0, 0, 0⟩, ⟨0, 0, 0⟩, ⟨0, 0, 1⟩], [⟨0, 1, 1, 0⟩, ⟨1, 1, 2, 0⟩, ⟨1, 2, 3, 0⟩, ⟨2, 1, 4, 0⟩], [⟨0, 1⟩, ⟨2, 1⟩], [], [⟨0, 1, [⟨1, 0, 1⟩, ⟨2, 0, 1⟩], [], [], false⟩, ⟨1, -1, [⟨4, 0, 1⟩], [], [], false⟩], 2, 1, 4, 1000⟩
def sD0 : D := .sl 3 [[iD 0, iD 0, iD 0], [iD 1, iD 0, iD 0], [iD 0, iD 0, iD 0], [iD 0, iD 0, iD 0], [iD 0, iD 0, iD 1]]
def sD1 : D := .sl 4 [[iD 0, iD 1, iD 1, iD 0], [iD 1, iD 1, iD 2, iD 0], [iD 1, iD 2, iD 3, iD 0], [iD 2, iD 1, iD 4, iD 0]]
def sD2 : D := .sl 2 [[iD 0, iD 1], [iD 2, iD 1]]
def sD4 : D := .sl 6 [[iD 0, iD 1, .sl 3 [[iD 1, iD 0, iD 1], [iD 2, iD 0, iD 1]], .nils, .nils, .bool false], [iD 1, iD (-1), .sl 3 [[iD 4, iD 0, iD 1]], .nils, .nils, .bool false]]
theorem litS_at (s : Store) : CfAt s sD0 sD1 sD2 .nils sD4 litS :=
 ⟨at_lit c_Section (by simp), at_lit c_Joint (by simp), at_lit c_Signal (by simp), .nil, ⟨_, at_lit c_Route (by simp), rfl, fun i row r h1 h2 => by
   have hi : i = 0 ∨ i = 1 := by have := (List.getElem?_eq_some_iff.1 h1).1; simp at this; omega
   rcases hi with rfl | rfl
   · simp at h1; subst h1
     simp [litS] at h2; subst h2
     exact ⟨_, _, _, rfl, at_lit c_Step (by simp), .nil, .nil⟩
   · simp at h1; subst h1
     simp [litS] at h2; subst h2
     exact ⟨_, _, _, rfl, at_lit c_Step (by simp), .nil, .nil⟩⟩⟩
theorem litS_nz : RtsNz sD4 := by
 intro row hr
 simp only [List.mem_cons, List.not_mem_nil, or_false] at hr
 rcases hr with rfl | rfl <;> (intro e; cases e)
theorem law13_station_ok : Pure Try.prog n_law13_station [] σ (.a (cfA sD0 sD1 sD2 .nils sD4 litS)) := W_law13_station σ _ ⟨rfl, rfl⟩
theorem lockL0 : litS.lockL 0 = [1, 2] := by
 show Cf.lockR ⟨0, 1, [⟨1, 0, 1⟩, ⟨2, 0, 1⟩], [], [], false⟩ = [1, 2]
 rw [← insL_lockR]; decide +kernel
theorem req13_a : (newCo litS 5).requestC litS 5 0 = (newCo litS 5, 22) := by
 have h : (newCo litS 5).reqE litS 0 = 22 := by unfold Co.reqE; rw [lockL0]; decide +kernel
 have hg : (newCo litS 5).gate litS 5 22 = 22 := by decide +kernel
 rw [Co.requestC, h, hg]; rfl
def k13 : Co := { newCo litS 5 with Own := [-1, 0, 0, -1, -1] }
theorem req13_b : k13.requestC litS 5 0 = (k13.lockC litS 5 0, 0) := by
 have h : k13.reqE litS 0 = 0 := by unfold Co.reqE; rw [lockL0]; decide +kernel
 have hg : k13.gate litS 5 0 = 0 := by decide +kernel
 rw [Co.requestC, h, hg]; rfl
theorem req13_o : (k13.lockC litS 5 0).Own = [-1, 1, 1, -1, -1] := by unfold Co.lockC; rw [lockL0]; decide +kernel
theorem req13_r : (k13.lockC litS 5 0).Routes = [⟨1, 0, 0, 0⟩, ⟨0, 0, 0, 0⟩] := by unfold Co.lockC; rw [lockL0]; decide +kernel
theorem req13_p : (k13.lockC litS 5 0).Points[1]? = some ⟨1, 5⟩ := by unfold Co.lockC; rw [lockL0]; decide +kernel
theorem CoOwn.fit {s : Store} {d0 d1 d2 d3 d4 d5 : D} {k : Co} (h : CoOwn σ s d0 d1 d2 d3 d4 d5 k) (hl : k.Own.length ≤ 2 ^ 20 ∧ k.Routes.length ≤ 2 ^ 20 ∧ k.Points.length ≤ 2 ^ 20 ∧ k.Xs.length ≤ 2 ^ 20 ∧ k.Lines.length ≤ 2 ^ 20 ∧ k.Resets.length ≤ 2 ^ 20) : CoFit d0 d1 d2 d3 d4 d5 k :=
 ⟨h.own.nz, h.routes.nz, h.points.nz, h.xs.nz, h.lines.nz, h.resets.nz, by omega, by omega, by omega, by omega, by omega, by omega⟩
theorem law13_lives_ok : Pure Try.prog n_law13_lives [] σ (.a (bA true)) := by
 refine .of (W_law13_lives σ _ (law13_station_ok.use ⟨_, _, _, _, _, _, _, _, _, rfl, (locks_New_ok litS_at 5 (by decide) (by decide) (by decide)).mono ?_⟩)) (flat_b _)
 rintro r s ⟨k0, k1, k2, k3, k4, k5, rfl, hk⟩
 refine ⟨_, _, _, _, _, _, _, rfl, ?_⟩
 intro R hR
 refine hk.own.at_.lenK (bcn (fun e => absurd rfl e) (fun _ => law13_station_ok.use ⟨_, _, _, _, _, _, _, _, _, rfl, (locks_Fits_ok litS_at hk.at).use ⟨_, rfl, ?_⟩⟩))
 rw [show (newCo litS 5).fits litS = true from by decide +kernel]
 refine bcnot (fun e => by cases e) (fun _ => ⟨rfl, hR s ?_⟩)
 refine law13_station_ok.use ⟨_, _, _, _, _, _, _, _, _, rfl, (locks_Request_ok litS_at hk.at (hk.fit (by decide)) litS_nz 5 0).mono ?_⟩
 rintro r s1 ⟨a0, a1, a2, a3, a4, a5, rfl, ha⟩
 rw [req13_a] at ha ⊢
 refine ⟨_, _, _, _, _, _, _, _, rfl, ?_⟩
 have hk1 := hk.ext' ha.own.ext
 refine hk1.own.at_.idxK (j := 1) c_int rfl (by decide) (hk1.putO (j := 1) (x := -1) (y := 0) rfl rfl (by simp) rfl fun s2 hk2 _ => hk2.own.at_.idxK (j := 2) c_int rfl (by decide) (hk2.putO (j := 2) (x := -1) (y := 0) rfl rfl (by simp) rfl fun s3 hk3 _ => ?_))
 refine law13_station_ok.use ⟨_, _, _, _, _, _, _, _, _, rfl, (locks_Request_ok (k := k13) litS_at hk3.at (hk3.fit (by decide)) litS_nz 5 0).mono ?_⟩
 rintro r s4 ⟨b0, b1, b2, b3, b4, b5, rfl, hb⟩
 rw [req13_b] at hb ⊢
 refine ⟨_, _, _, _, _, _, _, _, rfl, bce (fun _ => bce (fun _ => ?_) (fun e => absurd rfl e)) (fun e => absurd rfl e)⟩
 have o := hb.own.at_
 have rr := hb.routes.at_
 rw [req13_o] at o
 rw [req13_r] at rr
 refine o.load (j := 1) (row := [iD 1]) rfl c_int rfl ⟨1, rfl, bce (fun _ => rr.load (j := 0) (row := [iD 1, iD 0, iD 0, iD 0]) rfl c_RouteState rfl ⟨1, rfl, bce (fun _ => ?_) (fun e => absurd rfl e)⟩) (fun e => absurd rfl e)⟩
 refine hb.points.at_.load (j := 1) (map_get req13_p) c_Mover rfl ⟨1, 5, rfl, rfl, ?_⟩
 exact hk3.own.ext.trans hb.own.ext
end
end Go.Proofs.Ytjdpkjembijbeaa
