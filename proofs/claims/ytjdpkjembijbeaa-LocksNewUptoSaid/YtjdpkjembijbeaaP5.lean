/-
  Proofs that the statement of this claim leans on: part 5.
-/
import Derived.Test.YtjdpkjembijbeaaP4
set_option linter.unusedVariables false
set_option linter.unusedSimpArgs false
namespace Go.Proofs.Ytjdpkjembijbeaa
open Go.Fw Go.Proofs Go.RowKit
section
variable {σ σ0 : Store}
theorem sm_lenN {B : Nat} {d : D} {el : TypeId} {rs : List (List D)} (h : ∀ s, At Try.prog s el d rs) (hs : SlSm B d) : rs.length ≤ B := by
 have hp := froz_plain (P := Try.prog) (el := el) (d := d) fun s => ⟨rs, (h s).rows⟩
 have hr := (h noS).rows
 cases d <;> simp only [Go.Fw.Rows] at hr <;> try exact hr.elim
 · subst hr; simp
 · subst hr; simp
 · obtain ⟨rfl, _⟩ := hr; exact hs _ _ rfl
 · exact absurd rfl (hp _ _ _)
theorem ref13_movers_ok {c0 c1 c2 c3 c4 : D} {c : Cf} (h : ∀ s, CfAt s c0 c1 c2 c3 c4 c) (now : Int) (h1 : c.Secs.length ≤ 2 ^ 20) (h2 : c.Xs.length ≤ 2 ^ 20) :
   DCalls Try.prog n_ref13_movers [cfA c0 c1 c2 c3 c4 c, iA now] σ fun r s => ∃ d1 d2, r = .tup [.one d1, .one d2] ∧ Own Try.prog σ s t_Mover d1 ((c.Secs.map (mvAt now)).map Mv.enc) ∧ At Try.prog s t_Mover d2 ((List.replicate c.Xs.length (⟨1, now⟩ : Mv)).map Mv.enc) := by
 refine W_ref13_movers _ _ _ _ _ _ _ _ _ now σ _ ((h σ).secs.lenK ⟨fun d n s => ∃ j : Nat, n = j ∧ j ≤ c.Secs.length ∧ Own Try.prog σ s t_Mover d (((c.Secs.take j).map (mvAt now)).map Mv.enc), fun _ n _ => c.Secs.length - n.toNat, ⟨0, rfl, by omega, .nil _ (.refl _)⟩, ?_⟩)
 rintro d _ s ⟨j, rfl, hj, ho⟩
 rw [List.length_map]
 refine bcd (fun hlt => ?_) (fun hge => ?_)
 · have hlt : j < c.Secs.length := by omega
   obtain ⟨x, hx⟩ := get_of_lt (l := c.Secs) (j := j) hlt
   have htake : ((c.Secs.take (j + 1)).map (mvAt now)).map Mv.enc = ((c.Secs.take j).map (mvAt now)).map Mv.enc ++ [(mvAt now x).enc] := by rw [List.take_add_one, hx]; simp
   refine (h s).secs.load (map_get hx) c_Section rfl ⟨x.Kind, x.OC, x.Line, rfl, ?_⟩
   have go : ∀ row : List D, row = (mvAt now x).enc → Fw.newObj s (.live t_Mover [row]) fun id s' => appendTo Try.prog s' t_Mover 16 d (.osl id 0 1) fun d1 s2 => (∃ j' : Nat, w64 ((j : Int) + 1) = j' ∧ j' ≤ c.Secs.length ∧ Own Try.prog σ s2 t_Mover d1 (((c.Secs.take j').map (mvAt now)).map Mv.enc)) ∧
       c.Secs.length - (w64 ((j : Int) + 1)).toNat < c.Secs.length - ((j : Nat) : Int).toNat := fun row hrow => newObj_intro fun id s1 hid _ he hs => (ho.ext' he).append (At.fresh (rs := [row]) hs (by simp) rfl) (by simp; omega) (by simp; omega) fun d' s2 ho' _ _ => by
     rw [w64_succ (by omega)]
     rw [hrow, ← htake] at ho'
     exact ⟨⟨j + 1, rfl, hlt, ho'⟩, dec_lt hlt⟩
   exact bce (fun hk => go _ (by simp [mvAt, hk, Mv.enc])) (fun hk => go _ (by simp [mvAt, hk, Mv.enc]))
 have e : j = c.Secs.length := by omega
 subst e
 rw [List.take_length] at ho
 refine (h s).xs.lenK ⟨fun d1 n s' => ∃ j : Nat, n = j ∧ j ≤ c.Xs.length ∧ Own Try.prog s s' t_Mover d1 ((List.replicate j (⟨1, now⟩ : Mv)).map Mv.enc), fun _ n _ => c.Xs.length - n.toNat, ⟨0, rfl, by omega, .nil _ (.refl _)⟩, ?_⟩
 rintro d1 _ s1 ⟨j, rfl, hj, ho1⟩
 rw [List.length_map]
 refine bcd (fun hlt => ?_) (fun hge => ?_)
 · have hlt : j < c.Xs.length := by omega
   refine newObj_intro fun id s2 hid _ he hs => (ho1.ext' he).append (At.fresh (rs := [Mv.enc ⟨1, now⟩]) hs (by simp) rfl) (by simp; omega) (by simp; omega) fun d' s3 ho' _ _ => ?_
   rw [w64_succ (by omega)]
   have e1 : (List.replicate j (⟨1, now⟩ : Mv)).map Mv.enc ++ [Mv.enc ⟨1, now⟩] = (List.replicate (j + 1) (⟨1, now⟩ : Mv)).map Mv.enc := by rw [List.replicate_succ']; simp
   rw [e1] at ho'
   exact ⟨⟨j + 1, rfl, hlt, ho'⟩, dec_lt hlt⟩
 have e : j = c.Xs.length := by omega
 subst e
 exact ⟨d, d1, rfl, ho.ext' ho1.ext, ho1.at_⟩
theorem ref13_New_ok {c0 c1 c2 c3 c4 : D} {c : Cf} (h : ∀ s, CfAt s c0 c1 c2 c3 c4 c) (now : Int) (h1 : c.Secs.length ≤ 2 ^ 20) (h2 : c.Xs.length ≤ 2 ^ 20) (h3 : c.Rts.length ≤ 2 ^ 20) :
   DCalls Try.prog n_ref13_New [cfA c0 c1 c2 c3 c4 c, iA now] σ fun r s => ∃ k0 k1 k2 k3 k4 k5, r = .a (coA k0 k1 k2 k3 k4 k5 true) ∧ CoAt s k0 k1 k2 k3 k4 k5 (newCo c now) ∧ Ext σ s := by
 obtain ⟨rows, hat, hlen⟩ := rts_len (h σ)
 refine W_ref13_New _ _ _ _ _ _ _ _ _ now σ _ (hat.lenK ((h σ).secs.lenK ⟨by omega, by omega, by omega, newObj_intro fun id s1 hid _ he1 hs1 => ?_⟩))
 simp only [List.length_map, hlen]
 refine ⟨by omega, by omega, by omega, newObj_intro fun id1 s2 hid1 _ he2 hs2 => ⟨by omega, by omega, by omega, newObj_intro fun id2 s3 hid2 _ he3 hs3 => (h s3).secs.lenK ?_⟩⟩
 simp only [Int.toNat_natCast, List.length_map] at hs2 hs3 ⊢
 have he13 := (he1.trans he2).trans he3
 have a4 : At Try.prog s3 t_LineState (.osl id 0 4) ((newCo c now).Lines.map Ls.enc) := (At.fresh hs1 (by simp) rfl : At Try.prog s1 t_LineState (.osl id 0 4) _).ext (he2.trans he3)
 have a1 : At Try.prog s3 t_RouteState (.osl id1 0 c.Rts.length) ((newCo c now).Routes.map Rs.enc) := by
   have := (At.fresh hs2 (by simp; omega) (by simp) : At Try.prog s2 t_RouteState (.osl id1 0 c.Rts.length) (List.replicate c.Rts.length [iD 0, iD 0, iD 0, iD 0])).ext he3
   simpa [newCo, Rs.enc] using this
 have a5 : At Try.prog s3 t_int (.osl id2 0 c.Secs.length) ((newCo c now).Resets.map Go.Fw.encI) := by
   have := (At.fresh hs3 (by simp; omega) (by simp) : At Try.prog s3 t_int (.osl id2 0 c.Secs.length) (List.replicate c.Secs.length [iD 0]))
   simpa [newCo, Go.Fw.encI] using this
 refine ⟨fun d d1 d2 d3 d4 d5 b n s => ∃ j : Nat, n = j ∧ j ≤ c.Secs.length ∧ d1 = .osl id1 0 c.Rts.length ∧ d4 = .osl id 0 4 ∧ d5 = .osl id2 0 c.Secs.length ∧ b = true ∧ Own Try.prog s3 s t_int d ((List.replicate j (-1)).map Go.Fw.encI), fun _ _ _ _ _ _ _ n _ => c.Secs.length - n.toNat,
   ⟨0, rfl, by omega, rfl, rfl, rfl, rfl, .nil _ (.refl _)⟩, ?_⟩
 rintro d _ d2 d3 _ _ _ _ s ⟨j, rfl, hj, rfl, rfl, rfl, rfl, ho⟩
 refine bcd (fun hlt => ?_) (fun hge => ?_)
 · have hlt : j < c.Secs.length := by omega
   refine newObj_intro fun id3 s4 hid3 _ he4 hs4 => (ho.ext' he4).append (At.fresh (rs := [Go.Fw.encI (-1)]) hs4 (by simp) rfl) (by simp; omega) (by simp; omega) fun d' s5 ho' _ _ => ?_
   rw [w64_succ (by omega)]
   have e1 : (List.replicate j (-1 : Int)).map Go.Fw.encI ++ [Go.Fw.encI (-1)] = (List.replicate (j + 1) (-1 : Int)).map Go.Fw.encI := by rw [List.replicate_succ']; simp
   rw [e1] at ho'
   exact ⟨by trivial, ⟨j + 1, rfl, hlt, rfl, rfl, rfl, rfl, ho'⟩, dec_lt hlt⟩
 have e : j = c.Secs.length := by omega
 subst e
 refine (ref13_movers_ok h now h1 h2).mono ?_
 rintro r s6 ⟨e1, e2, rfl, o1, o2⟩
 have hx := ho.ext.trans o1.ext
 exact ⟨e1, e2, rfl, _, _, _, _, _, _, rfl, ⟨ho.at_.ext o1.ext, a1.ext hx, o1.at_, o2, a4.ext hx, a5.ext hx⟩, he13.trans hx⟩
theorem law13_LocksNew_ok {xs : List A} (h : TyAs Try.prog [t_Config, t_int] xs) (hsm : ∀ a ∈ xs, SmA 1048576 a) : LawTrue n_law13_LocksNew xs := by
 obtain ⟨a0, xs, rfl, h0, hr0⟩ := tys_cons h
 obtain ⟨a1, xs, rfl, h1, hr1⟩ := tys_cons hr0
 obtain rfl := tys_nil hr1
 obtain ⟨cs, _, rfl, p0⟩ := tya_agg h0 (by kernel_rfl)
 obtain ⟨c0, c1, c2, c3, c4, c, rfl, hc, hci⟩ := ty_Config p0
 obtain ⟨now, rfl, _⟩ := tya_int h1 (by kernel_rfl) (by kernel_rfl)
 have hs0 := hsm _ (List.mem_cons_self ..)
 have z1 : c.Secs.length ≤ 2 ^ 20 := by have := sm_lenN (fun s => (hc s).secs) (hs0 c0 (by simp)); rw [List.length_map] at this; omega
 have z2 : c.Xs.length ≤ 2 ^ 20 := by have := sm_lenN (fun s => (hc s).xs) (hs0 c3 (by simp)); rw [List.length_map] at this; omega
 have z3 : c.Rts.length ≤ 2 ^ 20 := by
   obtain ⟨rows, hat, hlen, _⟩ := rts_froz fun s => (hc s).rts
   have := sm_lenN hat (hs0 c4 (by simp)); omega
 clear h h0 h1 hr0 hr1 p0 hs0 hsm
 refine W_law13_LocksNew _ _ _ _ _ _ _ _ _ now noS _ (law13_lives_ok.use ⟨true, rfl, bc (fun _ => (locks_New_ok hc now z1 z2 z3).mono ?_) (fun e => by cases e)⟩)
 rintro r s ⟨k0, k1, k2, k3, k4, k5, rfl, hk⟩
 refine ⟨_, _, _, _, _, _, _, rfl, (ref13_New_ok hc now z1 z2 z3).mono ?_⟩
 rintro r s2 ⟨m0, m1, m2, m3, m4, m5, rfl, hm, he⟩
 refine ⟨_, _, _, _, _, _, _, rfl, (ref13_Same_ok (hk.at.ext he) hm).use ⟨_, rfl, ?_⟩⟩
 rw [decide_eq_true rfl]
end
end Go.Proofs.Ytjdpkjembijbeaa
