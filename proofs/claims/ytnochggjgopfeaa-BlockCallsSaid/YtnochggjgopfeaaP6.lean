/-
  Proofs that the statement of this claim leans on: part 6.
-/
import Derived.Test.YtnochggjgopfeaaP5
section
set_option linter.unusedVariables false
set_option linter.unusedSimpArgs false
namespace Go.Proofs.Ytnochggjgopfeaa
open Go.Fw Go.Proofs Go.RowKit
variable {σ : Store}

/-- A copy that is handed back as plain data. -/
theorem ref13_Copied_z {k0 k1 k2 k3 k4 k5 : D} {k : Co} (hk : CoAt σ k0 k1 k2 k3 k4 k5 k) (b0 : 8 * k.Own.length ≤ 140737488355328) (b1 : 32 * k.Routes.length ≤ 140737488355328) (b2 : 16 * k.Points.length ≤ 140737488355328)
    (b3 : 16 * k.Xs.length ≤ 140737488355328) (b4 : 64 * k.Lines.length ≤ 140737488355328) (b5 : 8 * k.Resets.length ≤ 140737488355328) : DCalls Try.prog n_ref13_Copied [coA k0 k1 k2 k3 k4 k5 k.Dirty] σ (CoZ σ k) := by
  refine (ref13_Copied_ok hk b0 b1 b2 b3 b4 b5).ret ?_
  rintro r s ⟨d0, d1, d2, d3, d4, d5, rfl, hco⟩
  obtain ⟨e0, e1, e2, e3, e4, e5, hfz, hz⟩ := co_frz hco
  exact ⟨.a (coA e0 e1 e2 e3 e4 e5 k.Dirty), σ, .pure hco.own.ext hfz, rfl, _, _, _, _, _, _, rfl, hz⟩

theorem CoFz.fits {d0 d1 d2 d3 d4 d5 k0 k1 k2 k3 k4 k5 : D} {k : Co} (h : CoFz d0 d1 d2 d3 d4 d5 k) (hf : CoFit k0 k1 k2 k3 k4 k5 k) : CoFit d0 d1 d2 d3 d4 d5 k :=
  ⟨h.n0, h.n1, h.n2, h.n3, h.n4, h.n5, hf.b0, hf.b1, hf.b2, hf.b3, hf.b4, hf.b5⟩

theorem CoOwn.ext' {σ0 s s' : Store} {d0 d1 d2 d3 d4 d5 : D} {k : Co} (h : CoOwn σ0 s d0 d1 d2 d3 d4 d5 k) (he : Ext s s') : CoOwn σ0 s' d0 d1 d2 d3 d4 d5 k :=
  ⟨h.own.ext' he, h.routes.ext' he, h.points.ext' he, h.xs.ext' he, h.lines.ext' he, h.resets.ext' he, h.apart⟩

/-- All owners of a state of the call's own are written. -/
theorem spoil_own {σ0 : Store} {d0 d1 d2 d3 d4 d5 : D} {k : Co} (h : CoOwn σ0 σ d0 d1 d2 d3 d4 d5 k) {T : Prop} (hT : T) {X : Store → Prop} (hX : ∀ (k' : Co) (s : Store), CoOwn σ0 s d0 d1 d2 d3 d4 d5 k' → k'.Lines = k.Lines → X s) :
    ∃ len : Nat, Len d0 len ∧ ∃ I : Int → Store → Prop, ∃ μ : Int → Store → Nat, I 0 σ ∧ ∀ n : Int, ∀ σ8 : Store, I n σ8 → bcase (decide (n < (len : Int))) (∃ len1 : Nat, Idx Try.prog σ8 d0 1 len1 ∧ (0 : Int) ≤ n ∧ n < (len1 : Int) ∧ storeEl [iD (-9)] σ8 d0 (Int.toNat n) 0 (fun σ9 => T ∧ I (w64 (n + 1)) σ9 ∧ μ (w64 (n + 1)) σ9 < μ n σ8)) (X σ8) := by
  have hs := h.own.at_.size
  rw [List.length_map] at hs
  refine h.own.at_.lenK ⟨fun n s => ∃ (j : Nat) (k' : Co), n = j ∧ j ≤ k.Own.length ∧ CoOwn σ0 s d0 d1 d2 d3 d4 d5 k' ∧ k'.Own.length = k.Own.length ∧ k'.Lines = k.Lines, fun n _ => k.Own.length - n.toNat, ⟨0, k, rfl, by omega, h, rfl, rfl⟩, ?_⟩
  rintro _ s ⟨j, k', rfl, hj, h', hl, hll⟩
  rw [List.length_map]
  refine bcd (fun hlt => ?_) (fun _ => hX k' s h' hll)
  have hlt : j < k.Own.length := by omega
  obtain ⟨o, ho⟩ := get_of_lt (l := k'.Own) (j := j) (by omega)
  refine h'.own.at_.idxK (j := j) c_int rfl (by rw [List.length_map]; omega) (h'.putO ho (by omega) (by simp) (y := -9) rfl fun s' h2 _ => ⟨hT, ?_⟩)
  rw [w64_succ (by omega)]
  exact ⟨⟨j + 1, _, rfl, by omega, h2, by simpa using hl, hll⟩, dec_lt hlt⟩

theorem spoil_lines {σ0 : Store} {d0 d1 d2 d3 d4 d5 : D} {k : Co} (h : CoOwn σ0 σ d0 d1 d2 d3 d4 d5 k) {T : Prop} (hT : T) {X : Store → Prop} (hX : ∀ (k' : Co) (s : Store), CoOwn σ0 s d0 d1 d2 d3 d4 d5 k' → X s) :
    ∃ len : Nat, Len d4 len ∧ ∃ I : Int → Store → Prop, ∃ μ : Int → Store → Nat, I 0 σ ∧ ∀ n : Int, ∀ σ8 : Store, I n σ8 → bcase (decide (n < (len : Int))) (∃ len1 : Nat, Idx Try.prog σ8 d4 8 len1 ∧ (0 : Int) ≤ n ∧ n < (len1 : Int) ∧ storeEl [iD (-9)] σ8 d4 (Int.toNat n) 0 (fun σ9 => T ∧ I (w64 (n + 1)) σ9 ∧ μ (w64 (n + 1)) σ9 < μ n σ8)) (X σ8) := by
  have hs := h.lines.at_.size
  rw [List.length_map] at hs
  refine h.lines.at_.lenK ⟨fun n s => ∃ (j : Nat) (k' : Co), n = j ∧ j ≤ k.Lines.length ∧ CoOwn σ0 s d0 d1 d2 d3 d4 d5 k' ∧ k'.Lines.length = k.Lines.length, fun n _ => k.Lines.length - n.toNat, ⟨0, k, rfl, by omega, h, rfl⟩, ?_⟩
  rintro _ s ⟨j, k', rfl, hj, h', hl⟩
  rw [List.length_map]
  refine bcd (fun hlt => ?_) (fun _ => hX k' s h')
  have hlt : j < k.Lines.length := by omega
  obtain ⟨o, ho⟩ := get_of_lt (l := k'.Lines) (j := j) (by omega)
  refine h'.lines.at_.idxK (j := j) c_LineState rfl (by rw [List.length_map]; omega) (h'.putL ho (by omega) (by simp) (y := { o with Ask := -9 }) rfl fun s' h2 _ => ⟨hT, ?_⟩)
  rw [w64_succ (by omega)]
  exact ⟨⟨j + 1, _, rfl, by omega, h2, by simpa using hl⟩, dec_lt hlt⟩

theorem law15_BlockCalls_ok {xs : List A} (h : TyAs Try.prog [t_Config, t_Core, t_law15_Cycle] xs) : LawTrue n_law15_BlockCalls xs := by
  obtain ⟨a0, xs, rfl, h0, hr0⟩ := tys_cons h
  obtain ⟨a1, xs, rfl, h1, hr1⟩ := tys_cons hr0
  obtain ⟨a2, xs, rfl, h2, hr2⟩ := tys_cons hr1
  obtain rfl := tys_nil hr2
  obtain ⟨cs, _, rfl, p0⟩ := tya_agg h0 (by kernel_rfl)
  obtain ⟨c0, c1, c2, c3, c4, c, rfl, hc, hci⟩ := ty_Config p0
  obtain ⟨cs, _, rfl, p1⟩ := tya_agg h1 (by kernel_rfl)
  obtain ⟨k0, k1, k2, k3, k4, k5, k, rfl, hk, hf, hki⟩ := ty_Core p1
  obtain ⟨cs, _, rfl, p2⟩ := tya_agg h2 (by kernel_rfl)
  obtain ⟨_, _, rfl, ⟨x0, rfl, hx0⟩, _, _, rfl, ⟨x1, rfl, hx1⟩, _, _, rfl, ⟨x2, rfl, hx2⟩, _, _, rfl, ⟨x3, rfl, hx3⟩, v0, _, rfl, q0, v1, _, rfl, q1, v2, _, rfl, q2, v3, _, rfl, q3, _, _, rfl, ⟨now, rfl, hnow⟩, rfl⟩ :=
    ty_sh _ 5 _ _ [.int .i64, .int .i64, .int .i64, .int .i64, .sl t_Look, .sl t_Look, .sl t_Look, .sl t_Look, .int .i64] p2 (by kernel_rfl)
  clear h h0 h1 h2 hr0 hr1 hr2 p0 p1 p2
  obtain ⟨v, hv, hvi⟩ := sh_View q0 q1 q2 q3
  refine W_law15_BlockCalls _ _ _ _ _ _ _ _ _ k0 k1 k2 k3 k4 k5 k.Dirty x0 x1 x2 x3 v0 v1 v2 v3 now noS _ (law15_lives_ok.use ⟨true, rfl, bcnot (fun e => by cases e) (fun _ => (ref13_Copied_z (hk.at_ noS) hf.b0 hf.b1 hf.b2 hf.b3 hf.b4 hf.b5).mono ?_)⟩)
  rintro r s ⟨rfl, d0, d1, d2, d3, d4, d5, rfl, hd⟩
  have hdf := hd.fits hf
  refine ⟨_, _, _, _, _, _, _, rfl, (block_Hear_ok hc (hd.at_ _) hdf x0 x1 x2 x3).mono ?_⟩
  rintro r s1 ⟨e0, e1, e2, e3, e4, e5, rfl, ha⟩
  refine ⟨_, _, _, _, _, _, _, _, rfl, (ref15_Hear_ok hc hk hf x0 x1 x2 x3).mono ?_⟩
  rintro r s2 ⟨rfl, f0, f1, f2, f3, f4, f5, rfl, hb⟩
  refine ⟨_, _, _, _, _, _, _, _, rfl, ?_⟩
  intro R hR
  refine bcn (fun e => absurd rfl e) (fun _ => (ref13_Same_ok ha.at (hb.at_ _)).use ⟨_, rfl, bcnot (fun e => absurd rfl (of_decide_eq_false e)) (fun _ => (block_Tell_ok (hd.at_ _) _ _).use ⟨_, _, _, rfl, (ref15_Tell_ok (hk.at_ _) _ _).use ⟨_, _, _, rfl, bcnot (fun e => by simp at e) (fun _ => ⟨rfl, hR _ ?_⟩)⟩⟩)⟩)
  refine (block_Step_ok hc (hd.at_ _) hdf hv now).mono ?_
  rintro r s3 ⟨m0, m1, m2, m3, m4, m5, rfl, hm⟩
  refine ⟨_, _, _, _, _, _, _, _, rfl, (ref15_Step_ok hc hk hf hv now).mono ?_⟩
  rintro r s4 ⟨rfl, n0, n1, n2, n3, n4, n5, rfl, hn⟩
  refine ⟨_, _, _, _, _, _, _, _, rfl, ?_⟩
  intro R1 hR1
  have goR : R1 s4 := by
    refine hR1 _ (spoil_own hm (by rfl) fun m' s5 hm' _ => spoil_lines hm' (by rfl) fun m'' s6 hm'' => spoil_own (ha.ext' hm''.own.ext) (by rfl) fun a' s7 _ _ => ?_)
    refine (ref13_Same_ok (hd.at_ _) (hk.at_ _)).use ⟨_, rfl, ?_⟩
    rw [decide_eq_true rfl]
  refine bcn (fun e => absurd rfl e) (fun _ => (ref13_Same_ok hm.at (hn.at_ _)).use ⟨_, rfl, bcnot (fun e => absurd rfl (of_decide_eq_false e)) (fun _ => (ref13_Same_ok (hd.at_ _) (hk.at_ _)).use ⟨_, rfl, bcnot (fun e => absurd rfl (of_decide_eq_false e)) (fun _ => ⟨rfl, goR⟩)⟩)⟩)
end Go.Proofs.Ytnochggjgopfeaa
end
