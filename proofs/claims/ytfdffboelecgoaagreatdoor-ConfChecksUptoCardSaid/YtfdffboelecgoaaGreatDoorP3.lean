/-
  Proofs that the statement of this claim leans on: part 3.
-/
import Derived.Test.YtfdffboelecgoaaGreatDoorP2
set_option linter.unusedVariables false
set_option linter.unusedSimpArgs false
namespace Go.Fw
section
section
variable {df : List Deferred} {P : Program} {k0 : Nat → Prop} {β0 : Bk} {σ0 : Store} {W0 : World} {n : Nat} {k : Nat → Prop} {β : Bk} {γ : Nat → Nat}
 {tmps : Array Value} {W W' : World} {env : Env} {σ σ' : Store} {a : Act} {o : Oper} {K : Kont}
abbrev Cl (an : Ann) (c : Code) : Nat → Prop := fun s => pres an s c = false
theorem pres_region {an : Ann} {id : Nat} {ops : Array Oper} {dr : Bool} {o : Oper} (ho : o ∈ ops.toList) {d : Nat} (hd : o.dst = some d) : Cl an (.region id ops dr) d := by
 unfold Cl pres
 rw [Bool.not_eq_false']
 exact List.any_eq_true.2 ⟨o, ho, by rw [hd]; exact Nat.beq_refl d⟩
theorem OutX.mono {S S' : Nat → Prop} {env env' : Env} {Q Q' : Exit → Kont} {e : Exit} (h : OutX df P k0 β0 σ0 W0 n S env Q e a W) (hf : ∀ s, ¬ S' s → FrS env' env s) (hS : ∀ s, S s → S' s)
   (hq : ∀ env σ, Q e env σ → Q' e env σ) : OutX df P k0 β0 σ0 W0 n S' env' Q' e a W := by
 obtain ⟨e1, σ1, h1, h2, h3⟩ := h
 exact ⟨e1, σ1, hq _ _ h1, h2, fun s hs => (hf s hs).trans (h3 s (fun hc => hs (hS s hc)))⟩
theorem wk_keep {mods : List (Nat × SlotSh)} {keep : List Nat} {env0 env' : Env} (h : ∀ s ∈ keep, get env' s = get env0 s) : ∀ s, WkE (get env' s) (get (keepL env0 keep Fw.env0) s) := by
 intro s
 rw [get_keepL]
 by_cases hs : s ∈ keep
 · rw [if_pos hs]; exact .inr (.inl (h s hs))
 · rw [if_neg hs]; exact .inl rfl
theorem exL_mono : ∀ (ss : List Sh) {R R' : Type} {f : CurL ss R} {g : CurL ss R'} {ac : List D → List D} {K K' : List D → R → R' → Prop}, (∀ ds f g, K ds f g → K' ds f g) → exL ss f g ac K → exL ss f g ac K'
 | [], _, _, f, g, ac, K, K', hk, h => hk _ _ _ h
 | .int q :: ss, _, _, f, g, ac, K, K', hk, ⟨m, h⟩ => ⟨m, exL_mono ss hk h⟩
 | .bool :: ss, _, _, f, g, ac, K, K', hk, ⟨m, h⟩ => ⟨m, exL_mono ss hk h⟩
 | .str :: ss, _, _, f, g, ac, K, K', hk, ⟨m, h⟩ => ⟨m, exL_mono ss hk h⟩
 | .any :: ss, _, _, f, g, ac, K, K', hk, ⟨m, h⟩ => ⟨m, exL_mono ss hk h⟩
theorem exM_mono : ∀ (ms : List (Nat × SlotSh)) {R R' : Type} {f : CurM ms R} {g : CurM ms R'} {ac : Env} {K K' : Env → R → R' → Prop}, (∀ e i m, K e i m → K' e i m) → exM ms f g ac K → exM ms f g ac K'
 | [], _, _, f, g, ac, K, K', hk, h => hk _ _ _ h
 | m :: ms, _, _, f, g, ac, K, K', hk, h => exL_mono _ (fun ds f g hh => exM_mono ms hk hh) h
theorem exL_pull {Y : Type} : ∀ (ss : List Sh) {R R' : Type} {f : CurL ss R} {g : CurL ss R'} {ac : List D → List D} {K : Y → List D → R → R' → Prop}, exL ss f g ac (fun ds i m => ∃ y, K y ds i m) → ∃ y, exL ss f g ac (K y)
 | [], _, _, f, g, ac, K, h => h
 | .int q :: ss, _, _, f, g, ac, K, ⟨m, h⟩ => by obtain ⟨y, h⟩ := exL_pull ss h; exact ⟨y, m, h⟩
 | .bool :: ss, _, _, f, g, ac, K, ⟨m, h⟩ => by obtain ⟨y, h⟩ := exL_pull ss h; exact ⟨y, m, h⟩
 | .str :: ss, _, _, f, g, ac, K, ⟨m, h⟩ => by obtain ⟨y, h⟩ := exL_pull ss h; exact ⟨y, m, h⟩
 | .any :: ss, _, _, f, g, ac, K, ⟨m, h⟩ => by obtain ⟨y, h⟩ := exL_pull ss h; exact ⟨y, m, h⟩
theorem exM_pull {Y : Type} : ∀ (ms : List (Nat × SlotSh)) {R R' : Type} {f : CurM ms R} {g : CurM ms R'} {ac : Env} {K : Y → Env → R → R' → Prop}, exM ms f g ac (fun e i m => ∃ y, K y e i m) → ∃ y, exM ms f g ac (K y)
 | [], _, _, f, g, ac, K, h => h
 | m :: ms, _, _, f, g, ac, K, h => by
   have h : exL (shL m.2) f g (fun r => r) fun ds f' g' => exM ms f' g' (setE ac m.1 (slotE m.2 ds)) (fun e i m => ∃ y, K y e i m) := h
   have h2 := exL_mono _ (K' := fun ds f' g' => ∃ y, exM ms f' g' (setE ac m.1 (slotE m.2 ds)) (K y)) (fun ds f g hh => exM_pull ms hh) h
   exact exL_pull _ h2
theorem exM_keep {s : Nat} : ∀ (ms : List (Nat × SlotSh)) {R R' : Type} {f : CurM ms R} {g : CurM ms R'} {acc : Env} {K : Env → R → R' → Prop}, (∀ m ∈ ms, m.1 ≠ s) → exM ms f g acc K →
   exM ms f g acc fun e i m => K e i m ∧ get e s = get acc s
 | [], _, _, f, g, acc, K, _, h => ⟨h, rfl⟩
 | m :: ms, _, _, f, g, acc, K, hne, h => by
   refine exL_mono _ (fun ds f' g' hh => ?_) h
   have := exM_keep ms (fun m' hm' => hne m' (by simp [hm'])) hh
   refine exM_mono ms (fun e i mm hh => ?_) this
   rw [get_ne _ _ (fun e => hne m (by simp) e.symm)] at hh
   exact hh
theorem exM_keeps {ms : List (Nat × SlotSh)} {R R' : Type} {f : CurM ms R} {g : CurM ms R'} {acc : Env} {K : Env → R → R' → Prop} (h : exM ms f g acc K) :
   ∀ (l : List Nat), (∀ s ∈ l, ∀ m ∈ ms, m.1 ≠ s) → exM ms f g acc fun e i m => K e i m ∧ ∀ s ∈ l, get e s = get acc s
 | [], _ => exM_mono ms (fun e i m hh => ⟨hh, fun s hs => by cases hs⟩) h
 | s :: l, hl => by
   have h1 := exM_keeps h l (fun s hs => hl s (by simp [hs]))
   have h2 := exM_keep (s := s) ms (hl s (by simp)) h1
   refine exM_mono ms (fun e i m hh => ⟨hh.1.1, fun s' hs' => ?_⟩) h2
   rcases List.mem_cons.1 hs' with rfl | hs'
   · exact hh.2
   · exact hh.1.2 s' hs'
theorem appL_mono : ∀ (ss : List Sh) {R : Type} {ds : List D} {f : CurL ss R} {p q : R → Prop}, (∀ r, p r → q r) → appL ss ds f p → appL ss ds f q
 | [], _, [], f, p, q, hk, h => hk _ h
 | [], _, _ :: _, f, p, q, hk, h => by simp [appL] at h
 | .int q1 :: ss, _, ds, f, p, q, hk, h => by
   cases ds with
   | nil => simp [appL] at h
   | cons d ds =>
     cases d <;> try (simp [appL] at h; done)
     simp only [appL] at h ⊢
     split at h
     · exact appL_mono ss hk h
     · exact h.elim
 | .bool :: ss, _, ds, f, p, q, hk, h => by
   cases ds with
   | nil => simp [appL] at h
   | cons d ds =>
     cases d <;> try (simp [appL] at h; done)
     exact appL_mono ss hk h
 | .str :: ss, _, ds, f, p, q, hk, h => by
   cases ds with
   | nil => simp [appL] at h
   | cons d ds =>
     cases d <;> try (simp [appL] at h; done)
     exact appL_mono ss hk h
 | .any :: ss, _, ds, f, p, q, hk, h => by
   cases ds with
   | nil => simp [appL] at h
   | cons d ds => simp only [appL] at h ⊢; exact appL_mono ss hk h
theorem appL_other : ∀ (ss : List Sh) {R R' : Type} {ds : List D} {f : CurL ss R} (g : CurL ss R') {p : R → Prop} {q : R' → Prop}, (∀ r, q r) → appL ss ds f p → appL ss ds g q
 | [], _, _, [], f, g, p, q, hk, h => hk _
 | [], _, _, _ :: _, f, g, p, q, hk, h => by simp [appL] at h
 | .int q1 :: ss, _, _, ds, f, g, p, q, hk, h => by
   cases ds with
   | nil => simp [appL] at h
   | cons d ds =>
     cases d <;> try (simp [appL] at h; done)
     simp only [appL] at h ⊢
     split at h
     · exact appL_other ss _ hk h
     · exact h.elim
 | .bool :: ss, _, _, ds, f, g, p, q, hk, h => by
   cases ds with
   | nil => simp [appL] at h
   | cons d ds =>
     cases d <;> try (simp [appL] at h; done)
     exact appL_other ss (f := f _) (g _) hk h
 | .str :: ss, _, _, ds, f, g, p, q, hk, h => by
   cases ds with
   | nil => simp [appL] at h
   | cons d ds =>
     cases d <;> try (simp [appL] at h; done)
     exact appL_other ss (f := f _) (g _) hk h
 | .any :: ss, _, _, ds, f, g, p, q, hk, h => by
   cases ds with
   | nil => simp [appL] at h
   | cons d ds => simp only [appL] at h ⊢; exact appL_other ss _ hk h
theorem appM_mono : ∀ (ms : List (Nat × SlotSh)) {R : Type} {env : Env} {f : CurM ms R} {p q : R → Prop}, (∀ r, p r → q r) → appM ms env f p → appM ms env f q
 | [], _, env, f, p, q, hk, h => hk _ h
 | m :: ms, _, env, f, p, q, hk, h => by
   simp only [appM] at h ⊢
   split at h
   · exact appL_mono _ (fun r hr => appM_mono ms hk hr) h
   · exact h.elim
theorem appL_const : ∀ (ss : List Sh) {R : Type} {ds : List D} {f : CurL ss R} {X : Prop}, appL ss ds f (fun _ => X) → X
 | [], _, [], f, X, h => h
 | [], _, _ :: _, f, X, h => by simp [appL] at h
 | .int q1 :: ss, _, ds, f, X, h => by
   cases ds with
   | nil => simp [appL] at h
   | cons d ds =>
     cases d <;> try (simp [appL] at h; done)
     simp only [appL] at h
     split at h
     · exact appL_const ss h
     · exact h.elim
 | .bool :: ss, _, ds, f, X, h => by
   cases ds with
   | nil => simp [appL] at h
   | cons d ds =>
     cases d <;> try (simp [appL] at h; done)
     exact appL_const ss (f := f _) h
 | .str :: ss, _, ds, f, X, h => by
   cases ds with
   | nil => simp [appL] at h
   | cons d ds =>
     cases d <;> try (simp [appL] at h; done)
     exact appL_const ss (f := f _) h
 | .any :: ss, _, ds, f, X, h => by
   cases ds with
   | nil => simp [appL] at h
   | cons d ds => simp only [appL] at h; exact appL_const ss h
theorem appM_const : ∀ (ms : List (Nat × SlotSh)) {R : Type} {env : Env} {f : CurM ms R} {X : Prop}, appM ms env f (fun _ => X) → X
 | [], _, env, f, X, h => h
 | m :: ms, _, env, f, X, h => by
   simp only [appM] at h
   split at h
   · exact appL_const _ (appL_mono _ (fun r hr => appM_const ms hr) h)
   · exact h.elim
theorem appM_other : ∀ (ms : List (Nat × SlotSh)) {R R' : Type} {env : Env} {f : CurM ms R} (g : CurM ms R') {p : R → Prop}, appM ms env f p → appM ms env g (fun _ => True)
 | [], _, _, env, f, g, p, h => trivial
 | m :: ms, R, R', env, f, g, p, h => by
   have h : (match slotDs m.2 (get env m.1) with | some ds => appL (R := CurM ms R) (shL m.2) ds f fun g => appM ms env g p | none => False) := h
   show (match slotDs m.2 (get env m.1) with | some ds => appL (R := CurM ms R') (shL m.2) ds g fun g' => appM ms env g' (fun _ => True) | none => False)
   cases hd : slotDs m.2 (get env m.1) with
   | none => rw [hd] at h; exact h.elim
   | some ds =>
     rw [hd] at h
     have key : ∀ (ss : List Sh) {R R' : Type} {ds : List D} {f : CurL ss R} {g : CurL ss R'} {p : R → Prop} {q : R' → Prop}, (∀ r r', p r → q r') → appL ss ds f p → appL ss ds g q := by
       intro ss R R' ds f g p q hk h
       by_cases hq : ∀ r, q r
       · exact appL_other ss g hq h
       · -- p is empty then
         have hp : ∀ r, ¬ p r := fun r hr => hq (fun r' => hk r r' hr)
         exact (appL_const ss (appL_mono ss (q := fun _ => False) (fun r hr => hp r hr) h)).elim
     exact key _ (fun r r' hr => appM_other ms r' hr) h
def mkL : (ss : List Sh) → {R : Type} → (List D → List D) → (List D → R) → CurL ss R
 | [], _, acc, F => F (acc [])
 | .int q :: ss, _, acc, F => fun m => mkL ss (fun r => acc (.int q m :: r)) F
 | .bool :: ss, _, acc, F => fun b => mkL ss (fun r => acc (.bool b :: r)) F
 | .str :: ss, _, acc, F => fun s => mkL ss (fun r => acc (.str s :: r)) F
 | .any :: ss, _, acc, F => fun d => mkL ss (fun r => acc (d :: r)) F
def mkM : (ms : List (Nat × SlotSh)) → {R : Type} → Env → (Env → R) → CurM ms R
 | [], _, acc, F => F acc
 | m :: ms, _, acc, F => mkL (shL m.2) (fun r => r) fun ds => mkM ms (setE acc m.1 (slotE m.2 ds)) F
theorem allL_mkL : ∀ (ss : List Sh) {R : Type} (acc : List D → List D) (F : List D → R) (K : List D → R → R → Prop), (∀ ds, K ds (F ds) (F ds)) → allL ss (mkL ss acc F) (mkL ss acc F) acc K
 | [], _, acc, F, K, h => h _
 | .int q :: ss, _, acc, F, K, h => fun m => allL_mkL ss _ F K h
 | .bool :: ss, _, acc, F, K, h => fun m => allL_mkL ss _ F K h
 | .str :: ss, _, acc, F, K, h => fun m => allL_mkL ss _ F K h
 | .any :: ss, _, acc, F, K, h => fun m => allL_mkL ss _ F K h
theorem allM_mkM : ∀ (ms : List (Nat × SlotSh)) {R : Type} (acc : Env) (F : Env → R) (K : Env → R → R → Prop), (∀ e, K e (F e) (F e)) → allM ms (mkM ms acc F) (mkM ms acc F) acc K
 | [], _, acc, F, K, h => h _
 | m :: ms, _, acc, F, K, h => by
   simp only [allM, mkM]
   exact allL_mkL _ _ _ _ fun ds => allM_mkM ms _ F K h
theorem exL_mkL : ∀ (ss : List Sh) {R : Type} (acc : List D → List D) (F : List D → R) (K K' : List D → R → R → Prop), exL ss (mkL ss acc F) (mkL ss acc F) acc K → ∃ ds, K ds (F ds) (F ds)
 | [], _, acc, F, K, _, h => ⟨_, h⟩
 | .int q :: ss, _, acc, F, K, K', ⟨m, h⟩ => exL_mkL ss _ F K K' h
 | .bool :: ss, _, acc, F, K, K', ⟨m, h⟩ => exL_mkL ss _ F K K' h
 | .str :: ss, _, acc, F, K, K', ⟨m, h⟩ => exL_mkL ss _ F K K' h
 | .any :: ss, _, acc, F, K, K', ⟨m, h⟩ => exL_mkL ss _ F K K' h
theorem exM_mkM : ∀ (ms : List (Nat × SlotSh)) {R : Type} (acc : Env) (F : Env → R) (K : Env → R → R → Prop), exM ms (mkM ms acc F) (mkM ms acc F) acc K → ∃ e, K e (F e) (F e)
 | [], _, acc, F, K, h => ⟨_, h⟩
 | m :: ms, _, acc, F, K, h => by
   simp only [exM, mkM] at h
   obtain ⟨ds, h⟩ := exL_mkL _ _ _ _ (fun _ _ _ => True) h
   exact exM_mkM ms _ F K h
theorem exL_some : ∀ (ss : List Sh) {R R' : Type} {f : CurL ss R} {g : CurL ss R'} {ac : List D → List D} {K : List D → R → R' → Prop}, exL ss f g ac K → ∃ ds i m, K ds i m
 | [], _, _, f, g, ac, K, h => ⟨_, _, _, h⟩
 | .int q :: ss, _, _, f, g, ac, K, ⟨m, h⟩ => exL_some ss h
 | .bool :: ss, _, _, f, g, ac, K, ⟨m, h⟩ => exL_some ss h
 | .str :: ss, _, _, f, g, ac, K, ⟨m, h⟩ => exL_some ss h
 | .any :: ss, _, _, f, g, ac, K, ⟨m, h⟩ => exL_some ss h
theorem exM_some : ∀ (ms : List (Nat × SlotSh)) {R R' : Type} {f : CurM ms R} {g : CurM ms R'} {ac : Env} {K : Env → R → R' → Prop}, exM ms f g ac K → ∃ e i m, K e i m
 | [], _, _, f, g, ac, K, h => ⟨_, _, _, h⟩
 | m :: ms, _, _, f, g, ac, K, h => by
   obtain ⟨ds, i, mm, h⟩ := exL_some _ h
   exact exM_some ms h
theorem evalBool (h : Rel df P k0 β0 σ0 W0 n a W env σ) {c : Operand} {t : Bool} (hc : opE env c = .val (.one (.bool t))) : a.eval c = .bool t := by
 obtain ⟨_, k, β, γ, hX⟩ := h
 have := (opE_ev hX a rfl c 0).1
 rw [hc] at this; exact V.inv_bool this
theorem exM_bp : ∀ (ms : List (Nat × SlotSh)) {R R' : Type} {f : CurM ms R} {g : CurM ms R'} {acc : Env} {K : Env → R → R' → Prop}, exM ms f g acc K →
   exM ms f g acc fun e i m => K e i m ∧ ∀ s, get e s = get acc s ∨ ∀ d off, get e s ≠ .bp d off
 | [], _, _, f, g, acc, K, h => ⟨h, fun s => .inl rfl⟩
 | m :: ms, _, _, f, g, acc, K, h => by
   refine exL_mono _ (fun ds f' g' hh => ?_) h
   refine exM_mono ms (fun e i mm hh => ⟨hh.1, fun s => ?_⟩) (exM_bp ms hh)
   rcases hh.2 s with h1 | h1
   · by_cases hs : s = m.1
     · right
       subst hs
       rw [h1, get_same]
       intro d off hc
       unfold slotE at hc
       split at hc <;> cases hc
     · left; rw [h1, get_ne _ _ hs]
   · exact .inr h1
theorem nd_keep {keep : List Nat} {e : Env} (hr : okRefs env keep = true) (hk : ∀ s ∈ keep, get e s = get env s) (hb : ∀ s, get e s = get (keepL env keep env0) s ∨ ∀ d off, get e s ≠ .bp d off) : ND e := by
 intro s d off hg
 rcases hb s with h1 | h1
 · rw [h1, get_keepL] at hg
   by_cases hs : s ∈ keep
   · rw [if_pos hs] at hg
     unfold okRefs at hr
     have h2 := List.all_eq_true.1 hr s hs
     rw [hg] at h2
     simp only at h2
     split at h2
     · rename_i hany
       obtain ⟨x, hx, hxd⟩ := List.any_eq_true.1 hany
       have := Nat.eq_of_beq_eq_true hxd
       subst this
       rw [hk _ hx]; exact h2
     · cases h2
   · rw [if_neg hs] at hg; cases hg
 · exact absurd hg (h1 d off)
theorem specs_ok {ops : Array Oper} : ∀ (l : List Nat) (k : (Nat → Option CSpec) → Prop), withSpecs P ops l k →
   ∃ cs : Nat → Option CSpec, (∀ i c, cs i = some c → SpecLaw c) ∧ (∀ i o c f, ops[i]? = some o → cs i = some c → callF o.op = some f → ∀ as0 s, c.pre as0 s → DCalls P f as0 s (c.post as0 s)) ∧ k cs
 | [], k, h => ⟨_, fun i c hc => by (cases hc), fun i o c f _ hc => by (cases hc), h⟩
 | j :: r, k, h => by
   unfold withSpecs at h
   cases hf : (ops[j]?).bind fun o => callF o.op with
   | none => rw [hf] at h; exact h.elim
   | some f0 =>
     rw [hf] at h
     obtain ⟨pre, post, ⟨g1, g2⟩, h⟩ := h
     obtain ⟨cs, h1, h2, h3⟩ := specs_ok r _ h
     refine ⟨_, ?_, ?_, h3⟩
     · intro i c hc
       cases hb : Nat.beq i j with
       | true => simp only [hb] at hc; injection hc with hc; rw [← hc]; exact g2
       | false => simp only [hb] at hc; exact h1 i c hc
     · intro i o c f ho hc hcf as0 s hp
       cases hb : Nat.beq i j with
       | true =>
         simp only [hb] at hc
         injection hc with hc
         have := Nat.eq_of_beq_eq_true hb
         subst this
         rw [ho] at hf
         have hf : callF o.op = some f0 := hf
         rw [hcf] at hf; injection hf with hf
         subst hf hc
         exact g1 as0 s hp
       | false => simp only [hb] at hc; exact h2 i o c f ho hc hcf as0 s hp
theorem checkGo_cs (an : Ann) (ops : Array Oper) (da : DAnn) (cs : Nat → Option CSpec) : ∀ (l : List Nat) (acc : List (Nat × Nat)), checkGo P an ops { ord := da.ord, nb := da.nb, av := da.av, dir := da.dir, sp := da.sp, cs := cs } l acc = checkGo P an ops da l acc
 | [], acc => rfl
 | x :: r, acc => by
   unfold checkGo
   simp only [checkGo_cs an ops da cs r]
   rfl
theorem raceFree_cs (an : Ann) (ops : Array Oper) (da : DAnn) (cs : Nat → Option CSpec) : raceFree P an ops { ord := da.ord, nb := da.nb, av := da.av, dir := da.dir, sp := da.sp, cs := cs } = raceFree P an ops da := by
 unfold raceFree
 rw [checkGo_cs]
theorem leaf_ok (an : Ann) (S : Nat → Prop) (da : DAnn) (ops : Array Oper) (Qx : Exit → Kont) (a : Act) (W : World) (env : Env) (σ : Store) (hd : ∀ o ∈ ops.toList, ∀ d, o.dst = some d → d < n ∧ S d)
   (hr : Rel df P k0 β0 σ0 W0 n a W env σ) (hnd : ND env) (h : dleaf P an da ops (Qx .normal) env σ) : wpAny P .any ops (OutX df P k0 β0 σ0 W0 n S env Qx) ops.size (Array.replicate ops.size false) a { W with drawn := W.drawn + 1 } := by
 have h : (match raceFree P an ops da with | true => fun env σ => withSpecs P ops da.sp fun cs => dopsI P an ops { ord := da.ord, nb := da.nb, av := da.av, dir := da.dir, sp := da.sp, cs := cs } da.ord (Qx .normal) env σ | false => fun _ _ => False) env σ := h
 cases hrf : raceFree P an ops da with
 | false => rw [hrf] at h; exact h.elim
 | true =>
   rw [hrf] at h
   have h : withSpecs P ops da.sp fun cs => dopsI P an ops { ord := da.ord, nb := da.nb, av := da.av, dir := da.dir, sp := da.sp, cs := cs } da.ord (Qx .normal) env σ := h
   obtain ⟨cs, hsl, hsp, h⟩ := specs_ok _ _ h
   have hrf : raceFree P an ops { ord := da.ord, nb := da.nb, av := da.av, dir := da.dir, sp := da.sp, cs := cs } = true := (raceFree_cs an ops da cs).trans hrf
   have hsl : ∀ i c, ({ ord := da.ord, nb := da.nb, av := da.av, dir := da.dir, sp := da.sp, cs := cs } : DAnn).cs i = some c → SpecLaw c := hsl
   have hsp : ∀ i o c f, ops[i]? = some o → ({ ord := da.ord, nb := da.nb, av := da.av, dir := da.dir, sp := da.sp, cs := cs } : DAnn).cs i = some c → callF o.op = some f → ∀ as0 s, c.pre as0 s → DCalls P f as0 s (c.post as0 s) := hsp
   revert h hrf hsl hsp
   generalize hda' : ({ ord := da.ord, nb := da.nb, av := da.av, dir := da.dir, sp := da.sp, cs := cs } : DAnn) = da'
   have hord : da.ord = da'.ord := by rw [← hda']
   rw [hord]
   clear hda' hord
   intro h hrf hsl hsp
   have hg : ∀ j, (Array.replicate ops.size false).getD j false = false := fun j => by
     by_cases hj : j < ops.size <;> simp [hj]
   refine any_ok (da := da') hsl hsp hrf _ (fun o ho d hod => hd o ho d hod) env ops.size _ a _ (by simp) (fun j oj _ hl => by rw [hg] at hl; cases hl) ?_ ?_
   · unfold raceFree at hrf
     simp only [Bool.and_eq_true] at hrf
     exact Nat.le_trans (List.length_filter_le _ _) (Nat.le_of_ble_eq_true hrf.1.1)
   · obtain ⟨hdef, k, β, γ, hX⟩ := hr
     refine ⟨env, σ, ?_, ⟨⟨hdef, k, β, γ, hX.grow (Grow.drew W)⟩, hnd⟩, fun s _ => .of_eq rfl⟩
     have hall : (da'.ord.filter fun j => !(Array.replicate ops.size false).getD j true) = da'.ord := by
       refine List.filter_eq_self.2 fun j hj => ?_
       have hgo : checkGo P an ops da' da'.ord [] = true := by
         unfold raceFree at hrf
         simp only [Bool.and_eq_true] at hrf
         exact hrf.2
       obtain ⟨c1, c2, hc⟩ := List.append_of_mem hj
       obtain ⟨oj, _, hoj, _⟩ := checkGo_spec hgo (fun p hp => by cases hp) c1 j c2 hc
       have hlt := (Array.getElem?_eq_some_iff.1 hoj).1
       simp [hlt]
     rw [hall]; exact h
theorem tree_ok (an : Ann) (S : Nat → Prop) (Qx : Exit → Kont) (a : Act) (W : World) (env : Env) (σ : Store) (hr : Rel df P k0 β0 σ0 W0 n a W env σ) (hnd : ND env) :
   ∀ (t : DT) (ops : Array Oper), (∀ o ∈ ops.toList, ∀ d, o.dst = some d → d < n ∧ S d) → dtree P an t ops (Qx .normal) env σ →
     ∀ L, ValidL ops (Array.replicate ops.size false) L → wpOps P ops (OutX df P k0 β0 σ0 W0 n S env Qx) L a { W with drawn := W.drawn + 1 }
 | .leaf da, ops, hd, h, L, hL => any_list L _ _ _ _ (leaf_ok an S da ops Qx a W env σ hd hr hnd h) hL
 | .split i j x y, ops, hd, h, L, hL => by
   have h : (match Nat.beq i j with
     | true => fun _ _ => False
     | false => fun env σ => dtree P an x (withEdge ops i j) (Qx .normal) env σ ∧ dtree P an y (withEdge ops j i) (Qx .normal) env σ) env σ := h
   cases hb : Nat.beq i j with
   | true => rw [hb] at h; exact h.elim
   | false =>
     rw [hb] at h
     have hij : i ≠ j := fun e => by subst e; rw [Nat.beq_refl] at hb; cases hb
     have hdd : ∀ i j, ∀ o ∈ (withEdge ops i j).toList, ∀ d, o.dst = some d → d < n ∧ S d := fun i j o ho d hod => by
       obtain ⟨o', h1, h2⟩ := we_mem ho
       exact hd o' h1 d (h2.trans hod)
     rcases valid_split hij L _ hL with hv | hv
     · exact we_ops i j L _ _ (tree_ok an S Qx a W env σ hr hnd x _ (hdd i j) h.1 L (by rw [we_size]; exact hv))
     · exact we_ops j i L _ _ (tree_ok an S Qx a W env σ hr hnd y _ (hdd j i) h.2 L (by rw [we_size]; exact hv))
structure WL (P : Program) (wp : Code → (Exit → Act → World → Prop) → Act → World → Prop) : Prop where
 mono : ∀ {c : Code} {Q Q' : Exit → Act → World → Prop} {a : Act} {w : World}, (∀ e a w, Q e a w → Q' e a w) → wp c Q a w → wp c Q' a w
 skip : ∀ {Q : Exit → Act → World → Prop} {a : Act} {w : World}, Q .normal a w → wp .skip Q a w
 label : ∀ {l : Nat} {Q : Exit → Act → World → Prop} {a : Act} {w : World}, Q .normal a w → wp (.label l) Q a w
 exit : ∀ {id : Nat} {Q : Exit → Act → World → Prop} {a : Act} {w : World}, Q (.exit id) a w → wp (.exit id) Q a w
 ret : ∀ {Q : Exit → Act → World → Prop} {a : Act} {w : World}, Q .ret a w → wp .ret Q a w
 condT : ∀ {c : Operand} {x y : Code} {Q : Exit → Act → World → Prop} {a : Act} {w : World}, a.eval c = .bool true → wp x Q a w → wp (.cond c x y) Q a w
 condF : ∀ {c : Operand} {x y : Code} {Q : Exit → Act → World → Prop} {a : Act} {w : World}, a.eval c = .bool false → wp y Q a w → wp (.cond c x y) Q a w
 block : ∀ {id : Nat} {c : Code} {Q : Exit → Act → World → Prop} {a : Act} {w : World}, wp c (Exit.inBlock id Q) a w → wp (.block id c) Q a w
 seq : ∀ {x y : Code} {Q : Exit → Act → World → Prop} {a : Act} {w : World}, wp x (Exit.then (fun a w => wp y Q a w) Q) a w → wp (.seq x y) Q a w
 loop : ∀ {c : Code} {Q : Exit → Act → World → Prop} {a : Act} {w : World} (I : Nat → Act → World → Prop) (n₀ : Nat), I n₀ a w →
   (∀ n a w, I n a w → wp c (Exit.then (fun a' w' => ∃ n', n' < n ∧ I n' a' w') Q) a w) → wp (.loop c) Q a w
 region : ∀ {id : Nat} {ops : Array Oper} {Q : Exit → Act → World → Prop} {a : Act} {w : World}, wpList P ops Q ops.toList a w → wp (.region id ops false) Q a w
 draw : ∀ {id : Nat} {ops : Array Oper} {Q : Exit → Act → World → Prop} {a : Act} {w : World},
   (∀ L, ValidL ops (Array.replicate ops.size false) L → wpOps P ops Q L a { w with drawn := w.drawn + 1 }) → wp (.region id ops true) Q a w
theorem wl_wide (hm : P.follows .mixedOrders = true) : WL P fun c Q a w => c.wp P Q a w where
 mono h h2 := Code.wp_mono h h2
 skip := wp_skip
 label := wp_label
 exit := wp_exit
 ret := wp_ret
 condT := wp_cond_true
 condF := wp_cond_false
 block := wp_block
 seq := wp_seq
 loop := wp_loop_ghost
 region := wp_region_list
 draw := region_list hm
theorem draw_ok {wp : Code → (Exit → Act → World → Prop) → Act → World → Prop} (hw : WL P wp) (an : Ann) (id : Nat) (ops : Array Oper) (Qx : Exit → Kont) (a : Act) (W : World) (env : Env) (σ : Store) (hd : ∀ o ∈ ops.toList, ∀ d, o.dst = some d → d < n)
   (hr : Rel df P k0 β0 σ0 W0 n a W env σ) (hnd : ND env) (h : ddraw P an id ops (Qx .normal) env σ) : wp (Code.region id ops true) (OutX df P k0 β0 σ0 W0 n (Cl an (.region id ops true)) env Qx) a W := by
 have hall : ∀ o ∈ ops.toList, ∀ d, o.dst = some d → d < n ∧ Cl an (.region id ops true) d := fun o ho d hod => ⟨hd o ho d hod, pres_region ho hod⟩
 unfold ddraw at h
 cases ht : findT id an.splits with
 | some t =>
   rw [ht] at h
   exact hw.draw fun L hL => tree_ok an _ Qx a W env σ hr hnd t ops hall h L hL
 | none =>
   rw [ht] at h
   cases hda : findD id an.draws with
   | none => simp only [hda] at h
   | some da =>
     simp only [hda] at h
     exact hw.draw fun L hL => any_list L _ _ _ _ (leaf_ok an _ da ops Qx a W env σ hall hr hnd h) hL
theorem dwp_okW {wp : Code → (Exit → Act → World → Prop) → Act → World → Prop} (hw : WL P wp) (an : Ann) :
   ∀ (c : Code) (Qx : Exit → Kont) (a : Act) (W : World) (env : Env) (σ : Store), (∀ d ∈ dsts c, d < n) → Rel df P k0 β0 σ0 W0 n a W env σ ∧ ND env → dwp P an c Qx env σ →
     wp c (OutX df P k0 β0 σ0 W0 n (Cl an c) env Qx) a W
 | .skip, Qx, a, W, env, σ, _, hr, h => hw.skip ⟨env, σ, h, hr, fun s _ => .of_eq rfl⟩
 | .label l, Qx, a, W, env, σ, _, hr, h => hw.label ⟨env, σ, h, hr, fun s _ => .of_eq rfl⟩
 | .exit id, Qx, a, W, env, σ, _, hr, h => hw.exit ⟨env, σ, h, hr, fun s _ => .of_eq rfl⟩
 | .ret, Qx, a, W, env, σ, _, hr, h => hw.ret ⟨env, σ, h, hr, fun s _ => .of_eq rfl⟩
 | .region id ops false, Qx, a, W, env, σ, hd, hr, h => by
   refine hw.region (dops_ok ops an (Cl an (.region id ops false)) (fun o ho d hod => ⟨?_, pres_region ho hod⟩) env ops.toList a W (fun o ho => ho) ⟨env, σ, h, hr, fun s _ => .of_eq rfl⟩)
   exact hd d (by simp only [dsts, List.mem_filterMap]; exact ⟨o, ho, hod⟩)
 | .region id ops true, Qx, a, W, env, σ, hd, hr, h =>
   draw_ok hw an id ops Qx a W env σ (fun o ho d hod => hd d (by simp only [dsts, List.mem_filterMap]; exact ⟨o, ho, hod⟩)) hr.1 hr.2 h
 | .cond c x y, Qx, a, W, env, σ, hd, hr, h => by
   have hx := fun Q a W env σ => dwp_okW hw an x Q a W env σ (fun d hd' => hd d (by simp [dsts, hd']))
   have hy := fun Q a W env σ => dwp_okW hw an y Q a W env σ (fun d hd' => hd d (by simp [dsts, hd']))
   have h : dcond (opE env c) (dwp P an x Qx env σ) (dwp P an y Qx env σ) := h
   have sx : ∀ s, Cl an x s → Cl an (.cond c x y) s := by intro s hs; unfold Cl pres; rw [hs]
   have sy : ∀ s, Cl an y s → Cl an (.cond c x y) s := by intro s hs; unfold Cl pres; rw [hs]; split <;> rfl
   have go : ∀ t : Bool, a.eval c = .bool t → (t = true → dwp P an x Qx env σ) → (t = false → dwp P an y Qx env σ) → wp (Code.cond c x y) (OutX df P k0 β0 σ0 W0 n (Cl an (.cond c x y)) env Qx) a W := by
     intro t ht h1 h2
     cases t with
     | true => exact hw.condT ht (hw.mono (fun e a W q => q.mono (fun _ _ => .of_eq rfl) sx (fun _ _ h => h)) (hx Qx a W env σ hr (h1 rfl)))
     | false => exact hw.condF ht (hw.mono (fun e a W q => q.mono (fun _ _ => .of_eq rfl) sy (fun _ _ h => h)) (hy Qx a W env σ hr (h2 rfl)))
   unfold dcond at h
   split at h
   · rename_i t hc
     exact go t (evalBool hr.1 hc) (fun e => by subst e; exact h) (fun e => by subst e; exact h)
   · exact h.elim
 | .block id c, Qx, a, W, env, σ, hd, hr, h => by
   have hc := dwp_okW hw an c (inBlockX id Qx) a W env σ hd hr h
   refine hw.block (hw.mono (fun e a W q => ?_) hc)
   obtain ⟨env', σ', q1, q2, q3⟩ := q
   cases e with
   | exit id' =>
     simp only [Exit.inBlock]
     simp only [inBlockX] at q1
     by_cases he : id' = id
     · rw [if_pos he]
       simp only [he, decide_true] at q1
       exact ⟨env', σ', q1, q2, q3⟩
     · rw [if_neg he]
       simp only [he, decide_false] at q1
       exact ⟨env', σ', q1, q2, q3⟩
   | _ => exact ⟨env', σ', q1, q2, q3⟩
 | .seq x y, Qx, a, W, env, σ, hd, hr, h => by
   have hx := fun Q a W env σ => dwp_okW hw an x Q a W env σ (fun d hd' => hd d (by simp [dsts, hd']))
   have hy := fun Q a W env σ => dwp_okW hw an y Q a W env σ (fun d hd' => hd d (by simp [dsts, hd']))
   have sx : ∀ s, Cl an x s → Cl an (.seq x y) s := by intro s hs; simp only [Cl, pres, hs]
   have sy : ∀ s, Cl an y s → Cl an (.seq x y) s := by intro s hs; simp only [Cl, pres, hs]; cases pres an s x <;> rfl
   cases hj : findAnn (firstReg y) an.joins with
   | some j =>
     have h : djoin j (fun s => pres an s x) (dwp P an x) (dwp P an y Qx) Qx env σ := by simpa only [dwp, hj] using h
     unfold djoin at h
     split at h
     · rename_i hok hrefs
       have h := h (mkM j.mods (keepL env j.keep env0) (fun e σ => dwp P an y Qx e σ)) (by
         rw [keepE_iff]
         exact allM_mkM _ _ _ _ fun e σ' hh => hh)
       refine hw.seq (hw.mono (fun e a1 W1 q => ?_) (hx _ a W env σ hr h))
       obtain ⟨env1, σ1, q1, q2, q3⟩ := q
       cases e with
       | normal =>
         simp only [thenX] at q1
         obtain ⟨q1, q4⟩ := sameBx_spec q1 (fun s hs => q3 s (by rw [show Cl an x s = (pres an s x = false) from rfl, (okKeep_spec hok hs).1]; simp))
         have hex := appM_exM j.mods env1 _ _ (keepL env j.keep env0) _ _ (fun e' r r' => r σ1 ∧ (∀ s, WkE (get env1 s) (get e' s))) q1 q1 (wk_keep (mods := j.mods) q4) (fun e' f' g' hw h1 _ => ⟨h1, hw⟩)
         obtain ⟨e', ⟨⟨h1, h2⟩, h4⟩, h3⟩ := exM_mkM _ _ _ _ (exM_keeps (exM_bp _ hex) j.keep (fun s hs => (okKeep_spec hok hs).2))
         have hnd : ND e' := nd_keep hrefs (fun s hs => by rw [h3 s hs, get_keepL, if_pos hs]) h4
         refine hw.mono (fun e a2 W2 q => q.mono (fun s hs => ?_) sy (fun _ _ h => h)) (hy Qx a1 W1 e' σ1 ⟨q2.1.weaken h2, hnd⟩ h1)
         have hsk : s ∈ j.keep := by
           have hs : pres an s (.seq x y) = true := by simpa using hs
           simp only [pres, hj] at hs
           split at hs
           · rename_i j' _ _ hj'
             injection hj' with hj'; subst hj'
             obtain ⟨d, hd, hb⟩ := List.any_eq_true.1 hs
             rw [← Nat.eq_of_beq_eq_true hb]; exact hd
           · rename_i hj'; cases hj'
           · cases hs
         refine .of_eq ?_
         rw [h3 s hsk, get_keepL, if_pos hsk]
       | _ => exact ⟨env1, σ1, q1, q2, fun s hs => q3 s (fun hc => hs (sx s hc))⟩
     · exact h.elim
   | none =>
     have h : dwp P an x (thenX (dwp P an y Qx) Qx) env σ := by simpa only [dwp, hj] using h
     refine hw.seq (hw.mono (fun e a1 W1 q => ?_) (hx _ a W env σ hr h))
     obtain ⟨env1, σ1, q1, q2, q3⟩ := q
     cases e with
     | normal =>
       refine hw.mono (fun e a2 W2 q => q.mono (fun s hs => q3 s (fun hc => hs (sx s hc))) sy (fun _ _ h => h)) (hy Qx a1 W1 env1 σ1 q2 q1)
     | _ => exact ⟨env1, σ1, q1, q2, fun s hs => q3 s (fun hc => hs (sx s hc))⟩
 | .loop c, Qx, a, W, env, σ, hd, hr, h => by
   have hc := fun Q a W env σ => dwp_okW hw an c Q a W env σ hd
   cases hl : findAnn (firstReg c) an.loops with
   | none =>
     exfalso
     simp only [dwp, hl] at h
   | some l =>
     have sx : ∀ s, Cl an c s → Cl an (.loop c) s := by intro s hs; simp only [Cl, pres, hs]
     have hcase : l.un = 0 ∨ ∃ m0, l.un = m0 + 1 := by cases l.un; exact .inl rfl; exact .inr ⟨_, rfl⟩
     rcases hcase with hun | ⟨m0, hun⟩
     rotate_left
     · skip
       have h : dunroll (dwp P an c) Qx (m0 + 1) env σ := by simpa only [dwp, hl, hun] using h
       let J : Nat → Act → World → Prop := fun m a1 W1 => ∃ env1 σ1, Rel df P k0 β0 σ0 W0 n a1 W1 env1 σ1 ∧ ND env1 ∧ dunroll (dwp P an c) Qx m env1 σ1 ∧ ∀ s, ¬ Cl an (.loop c) s → FrS env env1 s
       refine hw.loop J (m0 + 1) ⟨env, σ, hr.1, hr.2, h, fun s _ => .of_eq rfl⟩ fun m a1 W1 hJ => ?_
       obtain ⟨env1, σ1, r1, r2, h1, h2⟩ := hJ
       cases m with
       | zero => exact h1.elim
       | succ m =>
       refine hw.mono (fun e a2 W2 q => ?_) (hc _ a1 W1 env1 σ1 ⟨r1, r2⟩ h1)
       obtain ⟨env2, σ2, q1, q2, q3⟩ := q
       have fr : ∀ s, ¬ Cl an (.loop c) s → FrS env env2 s := fun s hs => (h2 s hs).trans (q3 s (fun hc => hs (sx s hc)))
       cases e with
       | normal =>
         simp only [thenX] at q1
         exact ⟨m, by omega, env2, σ2, q2.1, q2.2, q1, fr⟩
       | _ => exact ⟨env2, σ2, q1, q2, fr⟩
     have h : dloop l (fun s => pres an s c) (dwp P an c) Qx env σ := by simpa only [dwp, hl, hun] using h
     unfold dloop at h
     split at h
     · rename_i hok hrefs
       obtain ⟨I, μ, h0, hround⟩ := h
       rw [keepE_iff] at hround
       have hne : ∀ s ∈ l.keep, ∀ m ∈ l.mods, m.1 ≠ s := fun s hs => (okKeep_spec hok hs).2
       let J : Nat → Act → World → Prop := fun m a W => exM l.mods I μ (keepL env l.keep env0) fun e i mm =>
         (∃ σ', i σ' ∧ mm σ' = m ∧ Rel df P k0 β0 σ0 W0 n a W e σ' ∧ ND e) ∧ ∀ s ∈ l.keep, get e s = get env s
       have arrive : ∀ (env1 : Env) (σ1 : Store) (a1 : Act) (W1 : World) (q : (Store → Nat) → Prop), Rel df P k0 β0 σ0 W0 n a1 W1 env1 σ1 → (∀ s ∈ l.keep, get env1 s = get env s) →
           appM l.mods env1 I (fun i => i σ1) → appM l.mods env1 μ q → ∃ m, J m a1 W1 ∧ ∃ mm : Store → Nat, q mm ∧ mm σ1 = m := by
         intro env1 σ1 a1 W1 q hr1 hk1 h1 h2
         have hex := appM_exM l.mods env1 I μ (keepL env l.keep env0) _ _ (fun e' i mm => i σ1 ∧ q mm ∧ (∀ s, WkE (get env1 s) (get e' s))) h1 h2 (wk_keep (mods := l.mods) hk1) (fun e' f' g' hw h1 h2 => ⟨h1, h2, hw⟩)
         have hex2 := exM_mono l.mods (K' := fun e i mm => ∃ m, ((∃ σ', i σ' ∧ mm σ' = m ∧ Rel df P k0 β0 σ0 W0 n a1 W1 e σ' ∧ ND e) ∧ ∀ s ∈ l.keep, get e s = get env s) ∧ ∃ mm : Store → Nat, q mm ∧ mm σ1 = m)
           (fun e i mm hh => ⟨mm σ1, ⟨⟨σ1, hh.1.1.1, rfl, hr1.weaken hh.1.1.2.2, nd_keep hrefs (fun s hs => by rw [hh.2 s hs, get_keepL, if_pos hs]) hh.1.2⟩, fun s hs => by rw [hh.2 s hs, get_keepL, if_pos hs]⟩, mm, hh.1.1.2.1, rfl⟩) (exM_keeps (exM_bp _ hex) l.keep hne)
         obtain ⟨m, hm⟩ := exM_pull l.mods hex2
         refine ⟨m, exM_mono l.mods (fun e i mm hh => hh.1) hm, ?_⟩
         obtain ⟨_, _, _, hh⟩ := exM_some l.mods hm
         exact hh.2
       obtain ⟨m0, hJ0, _⟩ := arrive env σ a W (fun _ => True) hr.1 (fun s hs => rfl) h0 (appM_other l.mods μ h0)
       have sx : ∀ s, Cl an c s → Cl an (.loop c) s := by intro s hs; simp only [Cl, pres, hs]
       refine hw.loop J m0 hJ0 fun m a1 W1 hJ => ?_
       obtain ⟨envH, i, mm, g1, ⟨σ1, g2, g3, g4⟩, g5⟩ := allM_exM l.mods I μ _ _ _ hround hJ
       refine hw.mono (fun e a2 W2 q => ?_) (hc _ a1 W1 envH σ1 g4 (g1 σ1 g2))
       obtain ⟨env2, σ2, q1, q2, q3⟩ := q
       cases e with
       | normal =>
         simp only [thenX] at q1
         obtain ⟨q1, q4⟩ := sameBx_spec q1 (fun s hs => q3 s (by rw [show Cl an c s = (pres an s c = false) from rfl, (okKeep_spec hok hs).1]; simp))
         obtain ⟨m', hJ', mm', hlt, he⟩ := arrive env2 σ2 a2 W2 (fun m' => m' σ2 < mm σ1) q2.1 (fun s hs => by rw [q4 s hs, g5 s hs]) (appM_mono l.mods (fun r hr => hr.1) q1)
           (appM_const l.mods (appM_mono l.mods (fun r hr => hr.2) q1))
         exact ⟨m', by omega, hJ'⟩
       | _ =>
         refine ⟨env2, σ2, q1, q2, fun s hs => ?_⟩
         have hsk : s ∈ l.keep := by
           have hs : pres an s (.loop c) = true := by simpa using hs
           simp only [pres, hl] at hs
           split at hs
           · rename_i l' _ hl'
             injection hl' with hl'; subst hl'
             obtain ⟨d, hd, hb⟩ := List.any_eq_true.1 hs
             rw [← Nat.eq_of_beq_eq_true hb]; exact hd
           · cases hs
         exact (FrS.of_eq (g5 s hsk)).trans (q3 s (fun hc => hs (sx s hc)))
     · exact h.elim
 | .rangeFunc .., Qx, a, W, env, σ, _, hr, h => h.elim
 | .scope _, Qx, a, W, env, σ, _, hr, h => h.elim
 | .goto _, Qx, a, W, env, σ, _, hr, h => h.elim
 | .refuse _, Qx, a, W, env, σ, _, hr, h => h.elim
theorem dwp_ok (hm : P.follows .mixedOrders = true) (an : Ann) (c : Code) (Qx : Exit → Kont) (a : Act) (W : World) (env : Env) (σ : Store) (hd : ∀ d ∈ dsts c, d < n) (hr : Rel df P k0 β0 σ0 W0 n a W env σ ∧ ND env) (h : dwp P an c Qx env σ) :
   c.wp P (OutX df P k0 β0 σ0 W0 n (Cl an c) env Qx) a W := dwp_okW (wl_wide hm) an c Qx a W env σ hd hr h
end
end
section
section
variable {df : List Deferred} {P : Program} {k0 : Nat → Prop} {β0 : Bk} {σ0 : Store} {W0 : World} {n : Nat} {k : Nat → Prop} {β : Bk} {γ : Nat → Nat}
 {tmps : Array Value} {W W' : World} {env : Env} {σ σ' : Store} {a : Act} {o : Oper} {K : Kont}
theorem get_args : ∀ (as0 : List A) (i s : Nat), get (argsEnv i as0) s = if i ≤ s then (match as0[s - i]? with | some x => .val x | none => .undef) else .undef
 | [], i, s => by simp [argsEnv, env0, get]
 | x :: r, i, s => by
   have ih := get_args r (i + 1) s
   have e1 : argsEnv i (x :: r) = setE (argsEnv (i + 1) r) i (.val x) := by cases x <;> rfl
   rw [e1]
   by_cases hs : s = i
   · subst hs; rw [get_same]; simp
   · rw [get_ne _ _ hs, ih]
     by_cases hle : i ≤ s
     · have h1 : i + 1 ≤ s := by omega
       have h2 : s - i = (s - (i + 1)) + 1 := by omega
       rw [if_pos h1, if_pos hle, h2, List.getElem?_cons_succ]
     · rw [if_neg hle, if_neg (by omega)]
theorem rel_args (hS : SRel P k β W σ) {args : List A} {vs : Array Value} {m : Nat} (hm : args.length ≤ m) (hsz : vs.size = args.length)
   (hv : ∀ (i : Nat) v x, vs[i]? = some v → args[i]? = some x → VA k β W v x) :
   Rel [] P k β σ W m { tmps := vs ++ Array.replicate (m - vs.size) undef, defers := [] } W (argsEnv 0 args) σ ∧ ND (argsEnv 0 args) := by
 have hg : ∀ s, get (argsEnv 0 args) s = match args[s]? with | some x => .val x | none => .undef := fun s => by
   rw [get_args]; simp
 have hnb : ∀ s cs, ¬ IsBox (get (argsEnv 0 args) s) cs := by
   intro s cs
   rw [hg]
   cases args[s]? <;> rintro (h | h) <;> cases h
 refine ⟨⟨rfl, k, β, fun _ => 0, ?_⟩, fun s d off h => by rw [hg] at h; cases hx : args[s]? <;> rw [hx] at h <;> cases h⟩
 exact {
   srel := hS
   slot := fun s => by
     rw [hg]
     cases hx : args[s]? with
     | none => trivial
     | some x =>
       have hlt : s < vs.size := by rw [hsz]; exact (List.getElem?_eq_some_iff.1 hx).1
       have e1 : (vs ++ Array.replicate (m - vs.size) undef).getD s undef = vs[s] := by
         simp [Array.getElem?_append_left hlt, hlt]
       show VA k β W _ x
       rw [e1]
       exact hv s _ x (Array.getElem?_eq_getElem hlt) hx
   box := fun s cs hb => absurd hb (hnb s cs)
   inj := fun s s' cs cs' hb => absurd hb (hnb s cs)
   ghost := Ghost.refl _ _ _ _
   frm := Frm.refl _ _ _
   size := by simp; omega }
def rrun (tmps : Array Value) (r : ResultVar) : Sem Value :=
 match r with
 | .tmp t => pure (tmps.getD t undef)
 | .cell b t => do loadVar t (← asAddr (tmps.getD b undef))
theorem mapM_run_cons {α : Type} {f : α → Sem Value} {r : α} {rs : List α} {v : Value} {vs : List Value} (h1 : (f r).run P W = .ok v W) (h2 : (rs.mapM f).run P W = .ok vs W) :
   ((r :: rs).mapM f).run P W = .ok (v :: vs) W := by
 rw [List.mapM_cons, Sem.run_bind, h1]
 show ((rs.mapM f) >>= fun as0 => pure (v :: as0)).run P W = _
 rw [Sem.run_bind, h2]
 rfl
theorem dres_run (h : RelX P k0 β0 σ0 W0 n k β γ tmps W env σ) : ∀ (rs : List ResultVar) (as0 : List A), dres P env rs = some as0 →
   ∃ vs : List Value, (rs.mapM (rrun tmps)).run P W = .ok vs W ∧ vs.length = as0.length ∧ ∀ (i : Nat) v x, vs[i]? = some v → as0[i]? = some x → VA k β W v x
 | [], as0, hd => by simp [dres] at hd; subst hd; exact ⟨[], rfl, rfl, fun i v x hv => by simp at hv⟩
 | r :: rs, as0, hd => by
   have fin : ∀ (u : Value) (x : A) (xs : List A), dres P env rs = some xs → (rrun tmps r).run P W = .ok u W → VA k β W u x → some (x :: xs) = some as0 →
       ∃ vs : List Value, ((r :: rs).mapM (rrun tmps)).run P W = .ok vs W ∧ vs.length = as0.length ∧ ∀ (i : Nat) v x, vs[i]? = some v → as0[i]? = some x → VA k β W v x := by
     intro u x xs h2 hu hva hd
     injection hd with hd; subst hd
     obtain ⟨vs, q1, q2, q3⟩ := dres_run h rs xs h2
     refine ⟨u :: vs, mapM_run_cons hu q1, by simp [q2], fun i v y hv hy => ?_⟩
     cases i with
     | zero => simp only [List.getElem?_cons_zero, Option.some.injEq] at hv hy; subst hv hy; exact hva
     | succ i => exact q3 i v y (by simpa using hv) (by simpa using hy)
   cases r with
   | tmp t =>
     unfold dres at hd
     split at hd
     · rename_i x xs h1 h2
       exact fin _ x xs h2 rfl (toA_va (opE_ev h { tmps := tmps, defers := [] } rfl (.tmp t) 0).1 h1) hd
     · cases hd
   | cell t ty =>
     unfold dres at hd
     split at hd
     · rename_i s off agg he hagg
       split at hd
       · rename_i cs hg
         split at hd
         · rename_i hle
           have hle := of_decide_eq_true hle
           have hev := (opE_ev h { tmps := tmps, defers := [] } rfl (.tmp t) 0).1
           rw [he] at hev
           have hev : tmps.getD t undef = .pointer (some ⟨γ s, off, none⟩) := hev
           obtain ⟨_, _, _, _, arr, t', hheap, _, hVL⟩ := h.box s cs (.inl hg)
           have hsz : arr.size = cs.length := by simpa using hVL.1
           have hvl := hVL.drop_take off (P.cellsOf ty)
           obtain ⟨r1, r2⟩ := loadVar_run (P := P) (W := W) hagg (b := γ s) (o' := off) (vals := (arr.toList.drop off).take (P.cellsOf ty)) (by simp; omega) (fun j v hv => by
             rw [cell_of_heap hheap]
             rw [List.getElem?_take] at hv
             split at hv
             · simpa using hv
             · cases hv)
           have hrun : ∀ u, (loadVar ty ⟨γ s, off, none⟩).run P W = .ok u W → (rrun tmps (.cell t ty)).run P W = .ok u W := by
             intro u hu
             unfold rrun
             simp only [hev, asAddr, pure_bind]
             exact hu
           split at hd
           · rename_i c as0' h2
             exact fin _ (.agg _) _ h2 (hrun _ (r1 rfl)) ⟨_, rfl, hvl⟩ hd
           · rename_i d as0' hc h2
             rw [hc] at hvl
             have hl := hvl.1
             cases hvs : (arr.toList.drop off).take (P.cellsOf ty) with
             | nil => rw [hvs] at hl; simp at hl
             | cons u us =>
               cases us with
               | cons => rw [hvs] at hl; simp at hl
               | nil =>
                 rw [hvs] at hvl
                 exact fin u (.one d) _ h2 (hrun _ (r2 u rfl hvs)) (hvl.2 0 u d rfl rfl) hd
           · cases hd
         · cases hd
       · cases hd
     · cases hd
theorem dcalls_of_body {f : FuncId} {fn : Func} {args : List A} {Q : RV → Store → Prop} (hm : P.follows .mixedOrders = true) (hok : callOk P f = true) (hf : P.funcs[f]? = some fn) (an : Ann)
   (h : dbody P fn an args σ Q) : DCalls P f args σ Q := by
 refine ⟨hok, fun k β W vs hS hsz hv => ?_⟩
 unfold dbody at h
 split at h
 · rename_i c hb
   split at h
   · rename_i hd hm'
     have hm' := Nat.le_of_ble_eq_true hm'
     obtain ⟨hr, hnd⟩ := rel_args hS hm' hsz hv
     have hw := dwp_ok hm an c (retX P fn Q) _ W (argsEnv 0 args) σ (fun d hd' => by
       have := List.all_eq_true.1 hd d hd'
       exact Nat.lt_of_succ_le (Nat.le_of_ble_eq_true this)) ⟨hr, hnd⟩ h
     refine calls_of_wp hf hb (Code.wp_mono (fun e a' W' hq => ?_) hw)
     have fin : ∀ e, (e = .normal ∨ e = .ret) → OutX [] P k β σ W fn.ntmps (Cl an c) (argsEnv 0 args) (retX P fn Q) e a' W' →
         a'.defers = [] ∧ ∃ v, (results fn a'.tmps).run P W' = .ok v W' ∧ ∃ v' r σ' k' β', Ending.returned v = .returned v' ∧ Q r σ' ∧ VR k' β' W' v' r ∧ SRel P k' β' W' σ' ∧ Ghost k β σ W k' β' σ' ∧ Frm β σ W W' := by
       intro e he hq
       obtain ⟨env', σ', q1, ⟨⟨q2, k', β', γ', q3⟩, _⟩, _⟩ := hq
       refine ⟨q2, ?_⟩
       have q1 : (match dres P env' fn.results.toList with | some [x] => Q (.a x) σ' | some as0 => Q (.tup as0) σ' | none => False) := by
         rcases he with rfl | rfl <;> exact q1
       cases hres : dres P env' fn.results.toList with
       | none => rw [hres] at q1; exact q1.elim
       | some as0 =>
         rw [hres] at q1
         obtain ⟨vs', r1, r2, r3⟩ := dres_run q3 fn.results.toList as0 hres
         have hrun : (fn.results.mapM (rrun a'.tmps)).run P W' = .ok vs'.toArray W' := by
           have e1 : fn.results = fn.results.toList.toArray := by simp
           rw [e1, List.mapM_toArray]
           show ((fn.results.toList.mapM (rrun a'.tmps)) >>= fun x => pure x.toArray).run P W' = _
           rw [Sem.run_bind, r1]
           rfl
         have hrr : (results fn a'.tmps).run P W' = .ok (if h : vs'.toArray.size = 1 then vs'.toArray[0] else .tuple vs'.toArray) W' := by
           show ((fn.results.mapM (rrun a'.tmps)) >>= fun vs => pure (if h : vs.size = 1 then vs[0] else .tuple vs)).run P W' = _
           rw [Sem.run_bind, hrun]
           rfl
         refine ⟨_, hrr, ?_⟩
         match as0, r2, r3, q1 with
         | [x], r2, r3, q1 =>
           match vs', r2, r3 with
           | [v], _, r3 =>
             exact ⟨v, .a x, σ', k', β', rfl, q1, r3 0 v x rfl rfl, q3.srel, q3.ghost, q3.frm⟩
         | [], r2, r3, q1 =>
           match vs', r2 with
           | [], _ => exact ⟨.tuple #[], .tup [], σ', k', β', rfl, q1, ⟨#[], rfl, rfl, fun i u y hu => by simp at hu⟩, q3.srel, q3.ghost, q3.frm⟩
         | x :: y :: r, r2, r3, q1 =>
           match vs', r2, r3 with
           | v :: u :: w, r2, r3 =>
             refine ⟨.tuple (v :: u :: w).toArray, .tup (x :: y :: r), σ', k', β', ?_, q1, ⟨_, rfl, by simpa using r2, fun i u' z hu hz => r3 i u' z (by simpa using hu) hz⟩, q3.srel, q3.ghost, q3.frm⟩
             rw [dif_neg (by simp)]
     cases e with
     | normal => exact fin _ (.inl rfl) hq
     | ret => exact fin _ (.inr rfl) hq
     | _ =>
       obtain ⟨env', σ', q1, _⟩ := hq
       exact q1.elim
   · exact h.elim
 · exact h.elim
end
end
section
abbrev w64 (n : Int) : Int := IntKind.i64.wrap n
inductive Fz (P : Program) (σ : Store) (S : Nat → Prop) : D → D → Prop
 | int (q n) : Fz P σ S (.int q n) (.int q n)
 | bool (b) : Fz P σ S (.bool b) (.bool b)
 | str (s) : Fz P σ S (.str s) (.str s)
 | nils : Fz P σ S .nils .nils
 | zsl : Fz P σ S .zsl .zsl
 | sl (es : Nat) (rows rows' : List (List D)) (hl : rows'.length = rows.length) (hr : ∀ (i : Nat) row row', rows[i]? = some row → rows'[i]? = some row' → row'.length = row.length)
     (hc : ∀ (i : Nat) row row' (j : Nat) d d', rows[i]? = some row → rows'[i]? = some row' → row[j]? = some d → row'[j]? = some d' → Fz P σ S d d') : Fz P σ S (.sl es rows) (.sl es rows')
 | keep (id i len) (h : S id) : Fz P σ S (.osl id i len) (.osl id i len)
 | osl (id i len : Nat) (t : TypeId) (rows rows' : List (List D)) (hn : ¬ S id) (hs : σ id = .live t rows) (hi : i + len ≤ rows.length) (hl : rows'.length = len)
     (hr : ∀ (j : Nat) row row', rows[i + j]? = some row → rows'[j]? = some row' → row'.length = row.length)
     (hc : ∀ (j : Nat) row row' (m : Nat) d d', rows[i + j]? = some row → rows'[j]? = some row' → row[m]? = some d → row'[m]? = some d' → Fz P σ S d d') : Fz P σ S (.osl id i len) (.sl (P.cellsOf t) rows')
 | nilp : Fz P σ S .nilp .nilp
 | el (s i off) (h : Fz P σ S s s) : Fz P σ S (.el s i off) (.el s i off)
 | nilf : Fz P σ S .nilf .nilf
 | fn0 (f) : Fz P σ S (.fn f [] []) (.fn f [] [])
 | nilm : Fz P σ S .nilm .nilm
 | omap (id) (h : S id) : Fz P σ S (.omap id) (.omap id)
 | ifc (b) : Fz P σ S (.ifc b) (.ifc b)
def FzL (P : Program) (σ : Store) (S : Nat → Prop) (ds ds' : List D) : Prop :=
 ds'.length = ds.length ∧ ∀ (i : Nat) d d', ds[i]? = some d → ds'[i]? = some d' → Fz P σ S d d'
def FzA (P : Program) (σ : Store) (S : Nat → Prop) : A → A → Prop
 | .one d, .one d' => Fz P σ S d d'
 | .agg cs, .agg cs' => FzL P σ S cs cs'
 | _, _ => False
def FzR (P : Program) (σ : Store) (S : Nat → Prop) : RV → RV → Prop
 | .a x, .a y => FzA P σ S x y
 | .tup xs, .tup ys => ys.length = xs.length ∧ ∀ (i : Nat) x y, xs[i]? = some x → ys[i]? = some y → FzA P σ S x y
 | _, _ => False
def FzO (P : Program) (σ0 σ : Store) (S : Nat → Prop) (i : Nat) (so' : SO) : Prop :=
 (so' = σ i ∧ σ i = σ0 i) ∨
 match σ i, so' with
 | .free, .free => True
 | .dead, .dead => True
 | .live t rows, .live t' rows' => t' = t ∧ rows'.length = rows.length ∧ ∀ (j : Nat) row row', rows[j]? = some row → rows'[j]? = some row' → FzL P σ S row row'
 | .mp c es, .mp c' es' => c' = c ∧ es'.length = es.length ∧ ∀ (j : Nat) e e', es[j]? = some e → es'[j]? = some e' → e'.1 = e.1 ∧ FzA P σ S e.2.1 e'.2.1 ∧ FzA P σ S e.2.2 e'.2.2
 | _, _ => False
def Ret (P : Program) (σ0 σ : Store) (r : RV) (σ' : Store) (r' : RV) : Prop :=
 ∃ S : Nat → Prop, (∀ i, σ0 i ≠ .free → S i) ∧ (∀ i, ¬ S i → σ' i = .free) ∧ (∀ i, S i → FzO P σ0 σ S i (σ' i)) ∧ FzR P σ S r r'
section
variable {P : Program} {k k0 : Nat → Prop} {β β0 : Bk} {σ σ0 σ' : Store} {W W0 : World} {S : Nat → Prop} {β2 : Bk}
def IsRest (β : Bk) (S : Nat → Prop) (β2 : Bk) : Prop := (∀ i, S i → β2 i = β i) ∧ ∀ i, ¬ S i → β2 i = none
theorem rest_exists (β : Bk) (S : Nat → Prop) : ∃ β2, IsRest β S β2 := by
 have h : ∀ i, ∃ b : Option BI, (S i → b = β i) ∧ (¬ S i → b = none) := fun i => by
   by_cases hs : S i
   · exact ⟨β i, fun _ => rfl, fun h => absurd hs h⟩
   · exact ⟨none, fun h => absurd h hs, fun _ => rfl⟩
 obtain ⟨f, hf⟩ := Classical.axiomOfChoice h
 exact ⟨f, fun i hi => (hf i).1 hi, fun i hi => (hf i).2 hi⟩
def restK (k : Nat → Prop) (β : Bk) (σ : Store) (S : Nat → Prop) : Nat → Prop := fun b => k b ∨ ∃ i bi t rows, β i = some bi ∧ ¬ S i ∧ σ i = .live t rows ∧ bi.blk = b
theorem restB_some {β2 : Bk} (hB : IsRest β S β2) {i : Nat} {bi : BI} (h : β2 i = some bi) : S i ∧ β i = some bi := by
 by_cases hs : S i
 · rw [hB.1 i hs] at h; exact ⟨hs, h⟩
 · rw [hB.2 i hs] at h; cases h
theorem restB_of {β2 : Bk} (hB : IsRest β S β2) {i : Nat} {bi : BI} (hs : S i) (h : β i = some bi) : β2 i = some bi := by rw [hB.1 i hs]; exact h
theorem Fz.ok (hB : IsRest β S β2) (h : SRel P k β W σ) {v : Value} {d d' : D} (hf : Fz P σ S d d') : V k β W v d → V (restK k β σ S) β2 W v d' := by
 induction hf generalizing v with
 | int q n => intro hv; cases hv; exact .int q n
 | bool b => intro hv; cases hv; exact .bool b
 | str s => intro hv; cases hv; exact .str s
 | nils => intro hv; cases hv; exact .nils
 | zsl => intro hv; cases hv; exact .zsl _
 | sl es rows rows' hl hr hc ih =>
   intro hv
   cases hv with
   | sl a len cap _ _ f hk hlen hcap hes hcell hval =>
     have back : ∀ (i : Nat) row', rows'[i]? = some row' → ∃ row, rows[i]? = some row ∧ row'.length = row.length := fun i row' hi => by
       have hlt := (List.getElem?_eq_some_iff.1 hi).1
       have := List.getElem?_eq_getElem (l := rows) (i := i) (by omega)
       exact ⟨_, this, hr i _ _ this hi⟩
     refine .sl a len cap es rows' f (fun hne => ?_) (by omega) hcap (fun i row' hi => ?_) (fun i row' j d hi hj => ?_) (fun i row' j d hi hj => ?_)
     · have := hk (fun e => by subst e; simp at hl; exact hne hl)
       exact ⟨.inl this.1, this.2⟩
     · obtain ⟨row, h1, h2⟩ := back i row' hi
       rw [h2]; exact hes i row h1
     · obtain ⟨row, h1, h2⟩ := back i row' hi
       have hlt := (List.getElem?_eq_some_iff.1 hj).1
       exact hcell i row j _ h1 (List.getElem?_eq_getElem (by omega))
     · obtain ⟨row, h1, h2⟩ := back i row' hi
       have hlt := (List.getElem?_eq_some_iff.1 hj).1
       have hd := List.getElem?_eq_getElem (l := row) (i := j) (by omega)
       exact ih i row row' j _ d h1 hi hd hj (hval i row j _ h1 hd)
 | keep id i len hs =>
   intro hv
   cases hv with
   | osl _ _ _ cap a bi hb ha hc hsz hcm => exact .osl id i len cap a bi (restB_of hB hs hb) ha hc hsz hcm
 | osl id i len t rows rows' hn hs hi hl hr hc ih =>
   intro hv
   cases hv with
   | osl _ _ _ cap a bi hb ha hcap hsz hcm =>
     obtain ⟨arr, g1, g2, g3, g4, g5, g6, g7⟩ := h.obj id bi t rows hb hs
     have back : ∀ (j : Nat) row', rows'[j]? = some row' → j < len ∧ ∃ row, rows[i + j]? = some row ∧ row'.length = row.length := fun j row' hj => by
       have hlt := (List.getElem?_eq_some_iff.1 hj).1
       have := List.getElem?_eq_getElem (l := rows) (i := i + j) (by omega)
       exact ⟨by omega, _, this, hr j _ _ this hj⟩
     refine .sl a len cap (P.cellsOf t) rows' (fun j m => arr.getD ((i + j) * bi.es + m) undef) (fun hne => ?_) hl hcap (fun j row' hj => ?_) (fun j row' m d hj hm => ?_) (fun j row' m d hj hm => ?_)
     · have hpos : 0 < len := by
         rw [← hl]
         cases rows' with
         | nil => exact absurd rfl hne
         | cons => simp
       have := ha (by omega)
       subst this
       exact ⟨.inr ⟨id, bi, t, rows, hb, hn, hs, rfl⟩, rfl⟩
     · obtain ⟨_, row, h1, h2⟩ := back j row' hj
       rw [h2, g3]; exact g6 _ row h1
     · obtain ⟨hlt, row, h1, h2⟩ := back j row' hj
       have hmlt := (List.getElem?_eq_some_iff.1 hm).1
       obtain ⟨v, q1, _⟩ := g7 (i + j) row m _ h1 (List.getElem?_eq_getElem (by omega))
       have := ha (by omega)
       subst this
       have e1 : i * bi.es + j * P.cellsOf t + m = (i + j) * bi.es + m := by rw [g3, Nat.add_mul]
       show W.cell? ⟨bi.blk, i * bi.es + j * P.cellsOf t + m, none⟩ = _
       rw [cell_of_heap g1, e1, q1, Array.getD_eq_getD_getElem?, q1]; rfl
     · obtain ⟨hlt, row, h1, h2⟩ := back j row' hj
       have hmlt := (List.getElem?_eq_some_iff.1 hm).1
       have hd := List.getElem?_eq_getElem (l := row) (i := m) (by omega)
       obtain ⟨v, q1, q2⟩ := g7 (i + j) row m _ h1 hd
       have := ih j row row' m _ d h1 hj hd hm q2
       rw [Array.getD_eq_getD_getElem?, q1]; exact this
 | nilp => intro hv; cases hv; exact .nilp
 | el s i off hs ih =>
   intro hv
   cases hv with
   | elsl a len cap es rows _ _ hs' hi => exact .elsl a len cap es rows i off (ih hs') hi
   | elosl id i0 len _ _ bi hb hi =>
     cases hs with
     | keep _ _ _ hs => exact .elosl id i0 len i off bi (restB_of hB hs hb) hi
 | nilf => intro hv; cases hv; exact .nilf
 | fn0 f =>
   intro hv
   cases hv with
   | fn _ first caps _ _ g g' h1 h2 h3 h4 h5 h6 => exact .fn f first caps [] [] g g' h1 h2 (fun i b cs j d hi => by simp at hi) h4 h5 (fun i b cs j d hi => by simp at hi)
 | nilm => intro hv; cases hv; exact .nilm
 | omap id hs =>
   intro hv
   cases hv with
   | omap _ bi hb => exact .omap id bi (restB_of hB hs hb)
 | ifc b =>
   intro hv
   cases hv with
   | nili => exact .nili
   | ifv t v => exact .ifv t v
theorem FzL.ok (hB : IsRest β S β2) (h : SRel P k β W σ) {vs : List Value} {ds ds' : List D} (hf : FzL P σ S ds ds') (hv : VL k β W vs ds) : VL (restK k β σ S) β2 W vs ds' := by
 refine ⟨by rw [hv.1, hf.1], fun i v d' h1 h2 => ?_⟩
 have hlt := (List.getElem?_eq_some_iff.1 h2).1
 have hd := List.getElem?_eq_getElem (l := ds) (i := i) (by rw [← hf.1]; exact hlt)
 exact (hf.2 i _ d' hd h2).ok hB h (hv.2 i v _ h1 hd)
theorem FzA.ok (hB : IsRest β S β2) (h : SRel P k β W σ) {v : Value} {x y : A} (hf : FzA P σ S x y) (hv : VA k β W v x) : VA (restK k β σ S) β2 W v y := by
 cases x with
 | one d => cases y with
   | one d' => exact Fz.ok hB h hf hv
   | agg => exact hf.elim
 | agg cs => cases y with
   | one => exact hf.elim
   | agg cs' => obtain ⟨vs, e, hv⟩ := hv; exact ⟨vs, e, FzL.ok hB h hf hv⟩
theorem FzR.ok (hB : IsRest β S β2) (h : SRel P k β W σ) {v : Value} {x y : RV} (hf : FzR P σ S x y) (hv : VR k β W v x) : VR (restK k β σ S) β2 W v y := by
 cases x with
 | a x => cases y with
   | a y => exact FzA.ok hB h hf hv
   | tup => exact hf.elim
 | tup xs => cases y with
   | a => exact hf.elim
   | tup ys =>
     obtain ⟨vs, e, hs, hv⟩ := hv
     refine ⟨vs, e, by rw [hs, hf.1], fun i u y h1 h2 => ?_⟩
     have hlt := (List.getElem?_eq_some_iff.1 h2).1
     have hd := List.getElem?_eq_getElem (l := xs) (i := i) (by rw [← hf.1]; exact hlt)
     exact (hf.2 i _ y hd h2).ok hB h (hv i u _ h1 hd)
theorem V.rest (hB : IsRest β S β2) {v : Value} {d : D} (hd : Dom β0 d) (hbb : ∀ i bi, β0 i = some bi → S i ∧ β i = some bi) (hv : V k β W v d) : V (restK k β σ S) β2 W v d := by
 have h1 := V.restrict (β := β0) (fun i bi h => (hbb i bi h).2) hv hd
 exact h1.mono (fun b h => .inl h) (fun i bi h => restB_of hB (hbb i bi h).1 (hbb i bi h).2) (fun b _ => rfl)
def DomA (β : Bk) : A → Prop
 | .one d => Dom β d
 | .agg cs => ∀ d ∈ cs, Dom β d
theorem VA.dom {v : Value} {x : A} (h : VA k β W v x) : DomA β x := by
 cases x with
 | one d => exact V.dom h
 | agg cs =>
   obtain ⟨vs, _, hl, hv⟩ := h
   intro d hd
   obtain ⟨i, hi⟩ := List.mem_iff_getElem?.1 hd
   have hlt := (List.getElem?_eq_some_iff.1 hi).1
   exact (hv i _ d (List.getElem?_eq_getElem (by omega)) hi).dom
theorem VA.rest (hB : IsRest β S β2) {v : Value} {x : A} (hd : DomA β0 x) (hbb : ∀ i bi, β0 i = some bi → S i ∧ β i = some bi) (hv : VA k β W v x) : VA (restK k β σ S) β2 W v x := by
 cases x with
 | one d => exact V.rest hB hd hbb hv
 | agg cs =>
   obtain ⟨vs, e, hl, hv⟩ := hv
   exact ⟨vs, e, hl, fun i v d h1 h2 => V.rest hB (hd d (List.mem_of_getElem? h2)) hbb (hv i v d h1 h2)⟩
theorem SRel.rest (hB : IsRest β S β2) (h : SRel P k β W σ) (h0 : SRel P k0 β0 W0 σ0) (hbb : ∀ i bi, β0 i = some bi → β i = some bi) (hS0 : ∀ i, σ0 i ≠ .free → S i) (hfree : ∀ i, ¬ S i → σ' i = .free) (ho : ∀ i, S i → FzO P σ0 σ S i (σ' i)) :
   SRel P (restK k β σ S) β2 W σ' := by
 have hSb : ∀ i bi, β0 i = some bi → S i ∧ β i = some bi := fun i bi hi => ⟨hS0 i ((h0.dom i).1 (by rw [hi]; rfl)), hbb i bi hi⟩
 have hfr : ∀ i, S i → (σ' i = .free ↔ σ i = .free) := fun i hi => by
   rcases ho i hi with ⟨h1, _⟩ | hm
   · rw [h1]
   · cases hs : σ i <;> cases hs' : σ' i <;> rw [hs, hs'] at hm <;> first | exact hm.elim | simp
 have hdd : ∀ i, S i → (σ' i = .dead ↔ σ i = .dead) := fun i hi => by
   rcases ho i hi with ⟨h1, _⟩ | hm
   · rw [h1]
   · cases hs : σ i <;> cases hs' : σ' i <;> rw [hs, hs'] at hm <;> first | exact hm.elim | simp
 exact {
   gl := h.gl.mono (fun _ h => .inl h) fun _ _ => rfl
   fin := by
     obtain ⟨N, hN⟩ := h.fin
     refine ⟨N, fun i hi => ?_⟩
     by_cases hs : S i
     · exact (hfr i hs).2 (hN i hi)
     · exact hfree i hs
   dom := fun i => by
     by_cases hs : S i
     · rw [Ne, hfr i hs, ← Ne, ← h.dom i, hB.1 i hs]
     · rw [hB.2 i hs, hfree i hs]; simp
   klt := fun b hb => by
     rcases hb with hb | ⟨i, bi, t, rows, hi, _, _, he⟩
     · exact h.klt b hb
     · rw [← he]; exact h.blt i bi hi
   blt := fun i bi hi => h.blt i bi (restB_some hB hi).2
   inj := fun i j bi bj hi hj h1 h2 he => h.inj i j bi bj (restB_some hB hi).2 (restB_some hB hj).2 (fun hd => h1 ((hdd i (restB_some hB hi).1).2 hd)) (fun hd => h2 ((hdd j (restB_some hB hj).1).2 hd)) he
   notk := fun i bi hi h1 hk => by
     obtain ⟨hs, hi⟩ := restB_some hB hi
     have h1 : σ i ≠ .dead := fun hd => h1 ((hdd i hs).2 hd)
     rcases hk with hk | ⟨j, bj, t, rows, hj, hn, hl, he⟩
     · exact h.notk i bi hi h1 hk
     · have := h.inj j i bj bi hj hi (by rw [hl]; intro e; cases e) h1 he
       exact hn (this ▸ hs)
   obj := fun i bi t rows' hi hs' => by
     obtain ⟨hs, hi⟩ := restB_some hB hi
     rcases ho i hs with ⟨h1, h2⟩ | hm
     · rw [h1] at hs'
       obtain ⟨arr, g1, g2, g3, g4, g5, g6, g7⟩ := h.obj i bi t rows' hi hs'
       refine ⟨arr, g1, g2, g3, g4, g5, g6, fun r row j d hr hj => ?_⟩
       obtain ⟨v, hv, hV⟩ := g7 r row j d hr hj
       have hb0 : ∃ b0, β0 i = some b0 := Option.isSome_iff_exists.1 ((h0.dom i).2 (by rw [← h2, hs']; intro e; cases e))
       obtain ⟨b0, hb0⟩ := hb0
       obtain ⟨_, _, _, _, _, _, _, k7⟩ := h0.obj i b0 t rows' hb0 (by rw [← h2, hs'])
       obtain ⟨v0, _, hV0⟩ := k7 r row j d hr hj
       exact ⟨v, hv, hV.rest hB hV0.dom hSb⟩
     · rw [hs'] at hm
       cases hsi : σ i with
       | live t0 rows =>
         rw [hsi] at hm
         obtain ⟨rfl, hl, hc⟩ := hm
         obtain ⟨arr, g1, g2, g3, g4, g5, g6, g7⟩ := h.obj i bi t rows hi hsi
         have back : ∀ (r : Nat) row', rows'[r]? = some row' → ∃ row, rows[r]? = some row ∧ FzL P σ S row row' := fun r row' hr => by
           have hlt := (List.getElem?_eq_some_iff.1 hr).1
           have := List.getElem?_eq_getElem (l := rows) (i := r) (by omega)
           exact ⟨_, this, hc r _ _ this hr⟩
         refine ⟨arr, g1, g2, g3, by rw [hl]; exact g4, g5, fun r row' hr => ?_, fun r row' j d hr hj => ?_⟩
         · obtain ⟨row, q1, q2⟩ := back r row' hr
           rw [q2.1]; exact g6 r row q1
         · obtain ⟨row, q1, q2⟩ := back r row' hr
           have hlt := (List.getElem?_eq_some_iff.1 hj).1
           have hd := List.getElem?_eq_getElem (l := row) (i := j) (by rw [← q2.1]; exact hlt)
           obtain ⟨v, hv, hV⟩ := g7 r row j _ q1 hd
           exact ⟨v, hv, (q2.2 j _ d hd hj).ok hB h hV⟩
       | _ => rw [hsi] at hm; exact hm.elim
   omap := fun i bi clock es' hi hs' => by
     obtain ⟨hs, hi⟩ := restB_some hB hi
     rcases ho i hs with ⟨h1, h2⟩ | hm
     · rw [h1] at hs'
       obtain ⟨ents, g1, g2, g3, g4, g5⟩ := h.omap i bi clock es' hi hs'
       refine ⟨ents, g1, g2, g3, g4, fun r e b ks vs hr he => ?_⟩
       obtain ⟨q0, q1, q2⟩ := g5 r e b ks vs hr he
       have hb0 : ∃ b0, β0 i = some b0 := Option.isSome_iff_exists.1 ((h0.dom i).2 (by rw [← h2, hs']; intro e; cases e))
       obtain ⟨b0, hb0⟩ := hb0
       obtain ⟨ents0, _, k2, _, _, k5⟩ := h0.omap i b0 clock es' hb0 (by rw [← h2, hs'])
       have hlt := (List.getElem?_eq_some_iff.1 he).1
       obtain ⟨_, p1, p2⟩ := k5 r ents0[r] b ks vs (Array.getElem?_eq_getElem (by omega)) he
       exact ⟨q0, q1.rest hB p1.dom hSb, q2.rest hB p2.dom hSb⟩
     · rw [hs'] at hm
       cases hsi : σ i with
       | mp c es =>
         rw [hsi] at hm
         obtain ⟨rfl, hl, hc⟩ := hm
         obtain ⟨ents, g1, g2, g3, g4, g5⟩ := h.omap i bi clock es hi hsi
         have hborn : es'.map (·.1) = es.map (·.1) := by
           apply List.ext_getElem?
           intro j
           simp only [List.getElem?_map]
           cases he' : es'[j]? with
           | none =>
             have : es[j]? = none := by rw [List.getElem?_eq_none_iff] at he' ⊢; omega
             rw [this]
           | some e' =>
             have hlt := (List.getElem?_eq_some_iff.1 he').1
             have hj := List.getElem?_eq_getElem (l := es) (i := j) (by omega)
             rw [hj]
             simp [(hc j _ e' hj he').1]
         refine ⟨ents, g1, by rw [hl]; exact g2, fun e he => ?_, by rw [hborn]; exact g4, fun r e b ks vs hr he => ?_⟩
         · have : e.1 ∈ es'.map (·.1) := List.mem_map.2 ⟨e, he, rfl⟩
           rw [hborn] at this
           obtain ⟨w, hw, e1⟩ := List.mem_map.1 this
           rw [← e1]; exact g3 w hw
         · have hlt := (List.getElem?_eq_some_iff.1 he).1
           have hj := List.getElem?_eq_getElem (l := es) (i := r) (by omega)
           obtain ⟨c1, c2, c3⟩ := hc r _ _ hj he
           obtain ⟨q0, q1, q2⟩ := g5 r e es[r].1 es[r].2.1 es[r].2.2 hr hj
           exact ⟨q0.trans c1.symm, c2.ok hB h q1, c3.ok hB h q2⟩
       | _ => rw [hsi] at hm; exact hm.elim }
theorem DCalls.ret {f : FuncId} {args : List A} {Q Q' : RV → Store → Prop} (h : DCalls P f args σ0 Q) (hq : ∀ r σ, Q r σ → ∃ r' σ', Ret P σ0 σ r σ' r' ∧ Q' r' σ') : DCalls P f args σ0 Q' := by
 refine ⟨h.1, fun k β W vs h1 h2 h3 => (h.2 k β W vs h1 h2 h3).mono fun e W' ⟨v, r, σ, k', β', q1, q2, q3, q4, q5, q6⟩ => ?_⟩
 obtain ⟨r', σ', ⟨S, s1, s2, s3, s4⟩, hQ⟩ := hq r σ q2
 obtain ⟨β2, hB⟩ := rest_exists β' S
 refine ⟨v, r', σ', restK k' β' σ S, β2, q1, hQ, s4.ok hB q4 q3, q4.rest hB h1 q5.bb s1 s2 s3, ?_, q6⟩
 have hS0 : ∀ i bi, β i = some bi → S i := fun i bi hi => s1 i ((h1.dom i).1 (by rw [hi]; rfl))
 exact {
   kk := fun b hb => .inl (q5.kk b hb)
   kn := fun b hb => by
     rcases hb with hb | ⟨i, bi, t, rows, hi, hn, hl, he⟩
     · exact q5.kn b hb
     · rcases q5.bn i bi hi with g | g | ⟨j, bj, g1, g2, g3⟩
       · exact absurd (hS0 i bi g) hn
       · exact .inr (.inl (he ▸ g))
       · exact .inr (.inr ⟨j, bj, g1, g2, g3.trans he⟩)
   bb := fun i bi hi => restB_of hB (hS0 i bi hi) (q5.bb i bi hi)
   bn := fun i bi hi => q5.bn i bi (restB_some hB hi).2
   dd := fun i hi => by
     have hs : S i := s1 i (by rw [hi]; intro e; cases e)
     have hd := q5.dd i hi
     rcases s3 i hs with ⟨h1, _⟩ | hm
     · rw [h1, hd]
     · rw [hd] at hm
       cases hs' : σ' i <;> rw [hs'] at hm <;> first | rfl | exact hm.elim }
end
end
end Go.Fw
namespace Go.Fw
open Go.ChangeShapes Go.WideShapes Go.RowKit
section
def tyF (P : Program) (ty : TypeId → List D → Prop) : List Field → List D → Prop
 | [], ds => ds = []
 | f :: fs, ds => ∃ a b, ds = a ++ b ∧ a.length = P.cellsOf f.type ∧ ty f.type a ∧ tyF P ty fs b
def tyR (P : Program) (ty : TypeId → List D → Prop) (e : TypeId) : Nat → List D → Prop
 | 0, ds => ds = []
 | n + 1, ds => ∃ a b, ds = a ++ b ∧ a.length = P.cellsOf e ∧ ty e a ∧ tyR P ty e n b
def tyD (P : Program) : Nat → TypeId → List D → Prop
 | 0, _, _ => False
 | n + 1, t, ds => match P.underlying t with
   | some .bool => ∃ b, ds = [.bool b]
   | some (.int k) => ∃ m, ds = [.int k m] ∧ (Lit.int k m).wf = true
   | some .string => ∃ s, ds = [.str s] ∧ s.size ≤ 140737488351232
   | some (.slice e) => ds = [.nils] ∨ ∃ rows, ds = [.sl (P.cellsOf e) rows] ∧ rows.length * P.bytesOf e ≤ 140737488351232 ∧ ∀ row ∈ rows, tyD P n e row
   | some (.struct fs) => tyF P (tyD P n) fs.toList ds
   | some (.array m e) => tyR P (tyD P n) e m ds
   | _ => False
def tilesB (P : Program) : Nat → List Field → Nat → Bool
 | o, [], n => Nat.beq o n
 | o, f :: fs, n => Nat.beq f.offset o && tilesB P (o + P.cellsOf f.type) fs n
def plainT (P : Program) : Nat → TypeId → Bool
 | 0, _ => false
 | n + 1, t => match P.underlying t with
   | some .bool => true
   | some (.int _) => true
   | some .string => true
   | some (.slice e) => plainT P n e && decide (0 < P.cellsOf e)
   | some (.struct fs) => tilesB P 0 fs.toList (P.cellsOf t) && fs.toList.all fun f => plainT P n f.type
   | some (.array m e) => plainT P n e && Nat.beq (m * P.cellsOf e) (P.cellsOf t)
   | _ => false
def TyA (P : Program) (t : TypeId) : A → Prop
 | .one d => isAggT P t = some false ∧ tyD P 30 t [d]
 | .agg cs => isAggT P t = some true ∧ tyD P 30 t cs
def TyAs (P : Program) : List TypeId → List A → Prop
 | [], as0 => as0 = []
 | t :: ts, as0 => ∃ a r, as0 = a :: r ∧ TyA P t a ∧ TyAs P ts r
section
variable {H : Type} {enc : TypeId × Value → H} {P : Program} {w : World}
abbrev allK (w : World) : Nat → Prop := fun b => b < w.heap.size
abbrev noB : Bk := fun _ => none
abbrev noS : Store := fun _ => .free
theorem srel0 (hgl : Gl P (allK w) w) : SRel P (allK w) noB w noS where
 gl := hgl
 fin := ⟨0, fun _ _ => rfl⟩
 dom i := by simp
 klt b hb := hb
 blt i bi h := by cases h
 inj i j bi bj h := by cases h
 notk i bi h := by cases h
 obj i bi t rows h := by cases h
 omap i bi c es h := by cases h
theorem cells?_spec {base : Nat} {a : Addr} {n : Nat} {cs : List Value} (h : w.cells? base a n = some cs) : cs.length = n ∧ ∀ (j : Nat) v, cs[j]? = some v → w.cell? (a.add j) = some v := by
 unfold World.cells? at h
 split at h
 · have hl := mapM_some_length h
   refine ⟨by simpa using hl, fun j v hv => ?_⟩
   have hlt := (List.getElem?_eq_some_iff.1 hv).1
   have hn : cs.length = n := by simpa using hl
   have := mapM_some_get h j j (by simp [show j < n by omega])
   rw [this, hv]
 · cases h
theorem cell_lt {a : Addr} {v : Value} (h : w.cell? a = some v) : a.block < w.heap.size ∧ a.spot = none := by
 unfold World.cell? at h
 split at h
 · rename_i c t fr hb
   refine ⟨(Array.getElem?_eq_some_iff.1 hb).1, ?_⟩
   split at h
   · cases h
   · rename_i hs; simpa using hs
 · cases h
theorem weightsAll_mem {e : TypeId} : ∀ {ds : List (DataW H)} {d : DataW H} {m : Nat}, d ∈ ds → m ∈ d.weights P e → m ∈ DataW.weightsAll P e ds
 | x :: r, d, m, hd, hm => by
   simp only [DataW.weightsAll, List.mem_append]
   rcases List.mem_cons.1 hd with rfl | hd
   · exact .inl hm
   · exact .inr (weightsAll_mem hd hm)
theorem ty_one {n : Nat} {t : TypeId} {v : Value} {W : World} {base : Nat} (hp : plainT P (n + 1) t = true) (hok : Value.okWide P W .any base t v) :
   (isAggT P t = some false ∧ v.cells = #[v]) ∨ (isAggT P t = some true ∧ ∃ cs, v = .agg cs) := by
 unfold plainT at hp
 unfold isAggT
 split at hp
 · rename_i hu; obtain ⟨b, rfl⟩ := okWide_bool hu hok; rw [hu]; exact .inl ⟨rfl, rfl⟩
 · rename_i hu; obtain ⟨b, rfl⟩ := okWide_int hu hok; rw [hu]; exact .inl ⟨rfl, rfl⟩
 · rename_i hu
   rw [hu]
   simp only [Value.okWide, hu, Cell.okWide] at hok
   cases v <;> simp [Cell.ok, hu] at hok <;> exact .inl ⟨rfl, rfl⟩
 · rename_i e hu
   rw [hu]
   simp only [Value.okWide, hu, Cell.okWide] at hok
   cases v <;> simp [Cell.ok, hu] at hok <;> exact .inl ⟨rfl, rfl⟩
 · rename_i fs hu; obtain ⟨cs, rfl, _⟩ := okWide_struct hu hok; rw [hu]; exact .inr ⟨rfl, cs, rfl⟩
 · rename_i m e hu
   rw [hu]
   simp only [Value.okWide, hu] at hok
   obtain ⟨cs, rfl, _⟩ := hok
   exact .inr ⟨rfl, cs, rfl⟩
 · cases hp
theorem trodAll_stays (hl : laidOutB P = true) {W W' : World} (hb : Below W.heap.size W W') (sp : Nat → Bool) : ∀ {ts : List TypeId} {vs : List Value} {ds : List (DataW H)} {ps : List MemPlace},
   (∀ t ∈ ts, P.readableRec t = true ∧ t < P.types.size) → DataW.TrodAll enc P W 0 (fun _ => true) true ts vs ds ps → (∀ p ∈ ps, p.block < W.heap.size) → (∀ p ∈ ps, sp p.block = true) → DataW.TrodAll enc P W' 0 sp true ts vs ds ps
 | [], vs, ds, ps, _, h, _, _ => by
   obtain ⟨rfl, rfl, rfl⟩ := trodAll_nil h
   rfl
 | t :: ts, vs, ds, ps, hr, h, hlt, hs => by
   obtain ⟨v, vs1, d, ds1, a, b, rfl, rfl, rfl, h1, h2⟩ := trodAll_cons h
   exact ⟨a, b, WideElems.Trod_stays hl (hr t (by simp)).1 (hr t (by simp)).2 h1 (fun x hx => hb.same (hlt x (by simp [hx]))) (fun x hx => hs x (by simp [hx])),
     trodAll_stays hl hb sp (fun t ht => hr t (by simp [ht])) h2 (fun x hx => hlt x (by simp [hx])) (fun x hx => hs x (by simp [hx])), rfl⟩
theorem law_post {f : Func} {s : ChangeSpec} {W W' : World} {args : Array Value} {ds gs : List (DataW H)} {before : List MemPlace} {tb : TypeId} (hl : laidOutB P = true)
   (hr : ∀ t ∈ f.params.toList, P.readableRec t = true ∧ t < P.types.size) (hvars : s.vars = []) (hres : f.resultTypes = #[tb]) (htb : P.underlying tb = some .bool)
   (hfn : (s.fn H ds) = { results := [.lit (.bool true)], args := ds }) (hW : DataW.Whole enc P f.params.toList s.vars false W args.toList ds gs before) (hb : Below W.heap.size W W') :
   s.post enc P f false true false false W args (.bool true) W' := by
 have hlt : ∀ p ∈ before, p.block < W.heap.size := fun p hp => hW.lt p hp
 have hW' := hW
 obtain ⟨p, q, hA, hV, rfl, hz, _⟩ := hW'
 rw [hvars] at hV
 obtain ⟨rfl, rfl⟩ := trodVars_none hV
 have hres' : (s.fn H (ds ++ [])).results = [.lit (.bool true)] := by rw [List.append_nil, hfn]
 have hargs' : (s.fn H (ds ++ [])).args = ds := by rw [List.append_nil, hfn]
 have hvars' : (s.fn H (ds ++ [])).vars = [] := by rw [List.append_nil, hfn]
 have hst : ∀ sp : Nat → Bool, (∀ x ∈ p, sp x.block = true) → DataW.TrodAll enc P W' 0 sp true f.params.toList args.toList ds p := fun sp hs =>
   trodAll_stays hl hb sp hr hA (fun x hx => hlt x (by simp [hx])) hs
 refine ⟨ds, [], p ++ [], [], p, [], hW, ?_, ?_, ?_, ?_, fun h => by cases h⟩
 · rw [hres', hres]
   exact trodAll_mk1 (shut_bool htb true)
 · rw [hargs']; exact hst _ (fun x hx => by simpa using hlt x (by simp [hx]))
 · rw [hvars', hvars]; rfl
 · refine World.keptBut_mono (fun x hx => ⟨hx, .inr (.inl (by simpa using hx))⟩) (hb.frame (· ∈ p ++ []))
end
end
section
theorem joined_of {P : Program} {f : FuncId} {fn : Func} {s : ChangeSpec} {c : OpenClaim} (a0 : laidOutB P = true)
   (a1 : (c.wf (OpenSpec.ofChange s) && mapsRowed P && fn.params.all (P.readableRec ·) && namedTie P c.named s.vars && (c.stops == []) && (P.stops == []) && (c.knobs == []) && (P.stopKnobs == []) && (c.inPlace == P.inPlace f)) = true)
   (a2 : (c.unfollowed == P.unfollowed f) = true) (a3 : (c.recurses == P.recurses f) = true) (a4 : (c.named == P.varsNamed f) = true)
   (a5 : ((c.maps == (fn.params.toList ++ s.plain.varTypes P).any (P.mapsRec ·)) && (c.ifaces == (fn.params.toList ++ s.plain.varTypes P).any (P.ifacesRec ·)) && (c.mapsOut == P.mapsAmong fn.resultTypes.toList) && (c.loops == (fn.params.toList ++ s.plain.varTypes P).any (P.loopsFrom ·)) && (c.wideKeys == (fn.params.toList ++ s.plain.varTypes P ++ fn.resultTypes.toList).any (P.wideKeysFrom ·))) = true)
   (a6 : (s.vars.all (P.varReadable ·) && fn.resultTypes.all (fun t => P.readableRec t && decide (t < P.types.size)) && (c.ifacesOut == fn.resultTypes.toList.any (P.ifacesRec ·)) && (c.loopsOut == fn.resultTypes.toList.any (P.loopsFrom ·))) = true)
   (a7 : ((c.plainKeys == P.plainKeys) && c.shortTexts.isNone && P.stopsHeard && P.mayEnter && (c.lifted == P.liftsFinal) && (P.make == some c.make) && (c.kinds == (if c.domain.isEmpty then [] else fn.params.toList.map fun t => match P.underlying t with | some (.int k) => some k | _ => none)) && (c.pinned == c.pinnedBy)) = true)
   (a8 : ((c.veiled == (fn.params.toList ++ s.plain.varTypes P ++ fn.resultTypes.toList).any (P.veiledRec ·)) && c.veiledFits P fn.params.toList (fn.params.toList ++ s.plain.varTypes P ++ fn.resultTypes.toList)) = true) :
   joinedFacts P f fn s c = true := by
 rw [Bool.and_eq_true] at a8
 repeat rw [Bool.and_eq_true] at a7
 repeat rw [Bool.and_eq_true] at a6
 repeat rw [Bool.and_eq_true] at a5
 repeat rw [Bool.and_eq_true] at a1
 obtain ⟨⟨⟨⟨⟨⟨⟨⟨b1, b2⟩, b3⟩, b4⟩, b5⟩, b6⟩, b7⟩, b8⟩, b9⟩ := a1
 obtain ⟨⟨⟨⟨c1, c2⟩, c3⟩, c4⟩, c5⟩ := a5
 obtain ⟨⟨⟨d1, d2⟩, d3⟩, d4⟩ := a6
 obtain ⟨⟨⟨⟨⟨⟨⟨e1, e2⟩, e3⟩, e4⟩, e5⟩, e6⟩, e7⟩, e8⟩ := a7
 obtain ⟨f1, f2⟩ := a8
 unfold joinedFacts
 rw [b1, a0, b2, b3, b4, b5, b6, b7, b8, b9, a2, a3, a4, c1, c2, c3, c4, c5, d1, d2, d3, d4, e1, e2, e3, e4, e5, e6]
 exact Bool.and_eq_true_iff.2 ⟨Bool.and_eq_true_iff.2 ⟨Bool.and_eq_true_iff.2 ⟨Bool.and_eq_true_iff.2 ⟨rfl, e7⟩, e8⟩, f1⟩, f2⟩
end
section
mutual
def wtD : D → Nat
 | .sl _ rows => 1 + wtLL rows
 | .str s => s.size + 1
 | _ => 1
def wtL : List D → Nat
 | [] => 0
 | d :: r => wtD d + wtL r
def wtLL : List (List D) → Nat
 | [] => 0
 | row :: r => wtL row + wtLL r
end
def wtA : A → Nat
 | .one d => wtD d
 | .agg cs => wtL cs
theorem wtL_app : ∀ a b : List D, wtL (a ++ b) = wtL a + wtL b
 | [], b => by simp [wtL]
 | d :: a, b => by rw [List.cons_append, wtL, wtL, wtL_app a b]; omega
theorem wt_sum : ∀ (rows : List (List D)) (ns : List Nat), rows.length = ns.length → (∀ (i : Nat) row n, rows[i]? = some row → ns[i]? = some n → wtL row ≤ n) → wtLL rows ≤ ns.sum
 | [], _, _, _ => by simp [wtLL]
 | row :: rows, [], hl, _ => by cases hl
 | row :: rows, n :: ns, hl, h => by
   have h1 := h 0 row n rfl rfl
   have h2 := wt_sum rows ns (by simpa using hl) fun i a b ha hb => h (i + 1) a b (by simpa using ha) (by simpa using hb)
   rw [wtLL, List.sum_cons]; omega
section
variable {H : Type} {enc : TypeId × Value → H} {P : Program} {w : World}
structure Bulk (bulk : DataW H → Nat) : Prop where
 one : ∀ d, 1 ≤ bulk d
 str : ∀ l, l.length + 1 ≤ bulk (.lit (.string l))
 sl : ∀ elems rest, (elems.map bulk).sum + 1 ≤ bulk (.slice elems rest)
 agg : ∀ parts, (parts.map bulk).sum ≤ bulk (.agg parts)
theorem fields_bk {bulk : DataW H → Nat} {β : Bk} (n : Nat) (ih : ∀ (t : TypeId) (cs : List Value), plainT P n t = true → ∀ (fuel : Nat) (x : DataW H × List MemPlace), DataW.trod enc P w 0 (fun _ => true) true fuel t cs = some x →
     (∀ m ∈ x.1.weights P t, m ≤ 140737488351232) → ∃ ds, VL (allK w) β w cs ds ∧ tyD P n t ds ∧ wtL ds ≤ bulk x.1) (cs : List Value) (m : Nat) :
   ∀ (fs : List Field) (o : Nat) (xs : List (DataW H × List MemPlace)), tilesB P o fs cs.length = true → (∀ f ∈ fs, plainT P n f.type = true) → xs.length = fs.length →
     (∀ (i : Nat) (f : Field), fs[i]? = some f → DataW.trod enc P w 0 (fun _ => true) true m f.type ((cs.drop f.offset).take (P.cellsOf f.type)) = xs[i]?) →
     (∀ q ∈ DataW.weightsEach P (fs.map (·.type)) (xs.map (·.1)), q ≤ 140737488351232) → o ≤ cs.length → ∃ ds, VL (allK w) β w (cs.drop o) ds ∧ tyF P (tyD P n) fs ds ∧ wtL ds ≤ (xs.map fun x => bulk x.1).sum
 | [], o, xs, ht, _, _, _, _, ho => by
   have : o = cs.length := Nat.eq_of_beq_eq_true ht
   subst this
   exact ⟨[], by simp [VL], rfl, by simp [wtL]⟩
 | f :: fs, o, xs, ht, hp, hl, he, hw, ho => by
   simp only [tilesB, Bool.and_eq_true] at ht
   have hfo := Nat.eq_of_beq_eq_true ht.1
   cases xs with
   | nil => simp at hl
   | cons x xs =>
     have h0 := he 0 f rfl
     rw [hfo] at h0
     simp only [List.map_cons, DataW.weightsEach, List.mem_append] at hw
     have tl : ∀ (fs : List Field) (o : Nat), tilesB P o fs cs.length = true → o ≤ cs.length := by
       intro fs
       induction fs with
       | nil => intro o h; exact Nat.le_of_eq (Nat.eq_of_beq_eq_true h)
       | cons g gs ihg => intro o h; simp only [tilesB, Bool.and_eq_true] at h; have := ihg _ h.2; omega
     have hle := tl _ _ ht.2
     obtain ⟨a, hva, hta, hwa⟩ := ih f.type _ (hp f (by simp)) m x (by simpa using h0) (fun q hq => hw q (.inl hq))
     obtain ⟨b, hvb, htb, hwb⟩ := fields_bk n ih cs m fs (o + P.cellsOf f.type) xs ht.2 (fun g hg => hp g (by simp [hg])) (by simpa using hl) (fun i g hg => by have := he (i + 1) g (by simpa using hg); simpa using this)
       (fun q hq => hw q (.inr hq)) hle
     refine ⟨a ++ b, ?_, ⟨a, b, rfl, ?_, hta, htb⟩, by rw [wtL_app]; simp only [List.map_cons, List.sum_cons]; omega⟩
     · have := hva.append hvb
       have e1 : List.take (P.cellsOf f.type) (cs.drop o) ++ cs.drop (o + P.cellsOf f.type) = cs.drop o := by
         rw [← List.drop_drop]; exact List.take_append_drop _ _
       rw [e1] at this; exact this
     · rw [← hva.1, List.length_take, List.length_drop]; omega
theorem arr_bk {bulk : DataW H → Nat} {β : Bk} (n : Nat) (ih : ∀ (t : TypeId) (cs : List Value), plainT P n t = true → ∀ (fuel : Nat) (x : DataW H × List MemPlace), DataW.trod enc P w 0 (fun _ => true) true fuel t cs = some x →
     (∀ m ∈ x.1.weights P t, m ≤ 140737488351232) → ∃ ds, VL (allK w) β w cs ds ∧ tyD P n t ds ∧ wtL ds ≤ bulk x.1) (e : TypeId) (hp : plainT P n e = true) (fuel : Nat) :
   ∀ (m : Nat) (cs : List Value) (xs : List (DataW H × List MemPlace)), cs.length = m * P.cellsOf e → xs.length = m →
     (∀ i, i < m → DataW.trod enc P w 0 (fun _ => true) true fuel e ((cs.drop (i * P.cellsOf e)).take (P.cellsOf e)) = xs[i]?) → (∀ q ∈ DataW.weightsAll P e (xs.map (·.1)), q ≤ 140737488351232) →
     ∃ ds, VL (allK w) β w cs ds ∧ tyR P (tyD P n) e m ds ∧ wtL ds ≤ (xs.map fun x => bulk x.1).sum
 | 0, cs, xs, hl, hx, _, _ => by
   have : cs = [] := List.eq_nil_of_length_eq_zero (by simpa using hl)
   subst this
   exact ⟨[], by simp [VL], rfl, by simp [wtL]⟩
 | m + 1, cs, xs, hl, hx, he, hw => by
   cases xs with
   | nil => simp at hx
   | cons x xs =>
     have h0 := he 0 (by omega)
     simp only [List.map_cons, DataW.weightsAll, List.mem_append] at hw
     rw [Nat.add_mul] at hl
     obtain ⟨a, hva, hta, hwa⟩ := ih e _ hp fuel x (by simpa using h0) (fun q hq => hw q (.inl hq))
     obtain ⟨b, hvb, htb, hwb⟩ := arr_bk n ih e hp fuel m (cs.drop (P.cellsOf e)) xs (by rw [List.length_drop]; omega) (by simpa using hx) (fun i hi => by
       have := he (i + 1) (by omega)
       rw [List.drop_drop, show P.cellsOf e + i * P.cellsOf e = (i + 1) * P.cellsOf e by rw [Nat.add_mul]; omega, this]; rfl) (fun q hq => hw q (.inr hq))
     refine ⟨a ++ b, ?_, ⟨a, b, rfl, ?_, hta, htb⟩, by rw [wtL_app]; simp only [List.map_cons, List.sum_cons]; omega⟩
     · have := hva.append hvb
       rw [List.take_append_drop] at this; exact this
     · rw [← hva.1, List.length_take]; omega
theorem trod_bk {bulk : DataW H → Nat} (B : Bulk bulk) {β : Bk} : ∀ (n : Nat) (t : TypeId) (cs : List Value), plainT P n t = true → ∀ (fuel : Nat) (x : DataW H × List MemPlace), DataW.trod enc P w 0 (fun _ => true) true fuel t cs = some x →
     (∀ m ∈ x.1.weights P t, m ≤ 140737488351232) → ∃ ds, VL (allK w) β w cs ds ∧ tyD P n t ds ∧ wtL ds ≤ bulk x.1
 | 0, t, cs, hp => by simp [plainT] at hp
 | n + 1, t, cs, hp => by
   intro fuel x h hw
   have one : ∀ {v : Value} {d : D}, V (allK w) β w v d → VL (allK w) β w [v] [d] := fun hv => ⟨rfl, fun i u y h1 h2 => by
     cases i with
     | zero => simp at h1 h2; subst h1 h2; exact hv
     | succ i => simp at h1⟩
   unfold plainT at hp
   unfold tyD
   split at hp
   · rename_i hu
     obtain ⟨b, rfl, rfl⟩ := DataW.trod_bool hu h
     exact ⟨[.bool b], one (.bool b), ⟨b, rfl⟩, by simpa [wtL, wtD] using B.one _⟩
   · rename_i q hu
     obtain ⟨m, rfl, rfl, hm⟩ := DataW.trod_int hu h
     exact ⟨[.int q m], one (.int q m), ⟨m, rfl, hm⟩, by simpa [wtL, wtD] using B.one _⟩
   · rename_i hu
     obtain ⟨s, rfl, rfl, hm⟩ := DataW.trod_string hu h
     exact ⟨[.str s], one (.str s), ⟨s, rfl, by have := hw s.data.toList.length (by simp [DataW.weights]); simpa using this⟩, by have := B.str s.data.toList; simpa [wtL, wtD] using this⟩
   · rename_i e hu
     simp only [Bool.and_eq_true, decide_eq_true_eq] at hp
     obtain ⟨hpe, hpos⟩ := hp
     rcases DataW.trod_slice hu h with ⟨rfl, rfl⟩ | ⟨a, len, cap, elems, rest, m, _, rfl, rfl, _, hlc, hcm, hel, hr, _, _⟩
     · exact ⟨[.nils], one .nils, .inl rfl, by simpa [wtL, wtD] using B.one _⟩
     · simp only [DataW.weights, hu, List.mem_cons, List.mem_append] at hw
       have each : ∀ i, i < len → ∃ cs row, w.cells? 0 (a.add (i * P.cellsOf e)) (P.cellsOf e) = some cs ∧ VL (allK w) β w cs row ∧ tyD P n e row ∧ ∀ x, elems[i]? = some x → wtL row ≤ bulk x.1 := by
         intro i hi
         have h1 := hr i hi
         have h2 := List.getElem?_eq_getElem (l := elems) (i := i) (by omega)
         rw [h2] at h1
         cases hc : w.cells? 0 (a.add (i * P.cellsOf e)) (P.cellsOf e) with
         | none => rw [hc] at h1; cases h1
         | some cs =>
           rw [hc] at h1
           obtain ⟨row, r1, r2, r3⟩ := trod_bk B n e cs hpe m _ h1 (fun q hq => hw q (.inr (.inl (weightsAll_mem (List.mem_map.2 ⟨_, List.getElem_mem (h := by omega), rfl⟩) hq))))
           exact ⟨cs, row, rfl, r1, r2, fun x hx => by rw [h2] at hx; injection hx with hx; rw [← hx]; exact r3⟩
       have each' : ∀ i, ∃ row, i < len → ∃ cs, w.cells? 0 (a.add (i * P.cellsOf e)) (P.cellsOf e) = some cs ∧ VL (allK w) β w cs row ∧ tyD P n e row ∧ ∀ x, elems[i]? = some x → wtL row ≤ bulk x.1 := fun i => by
         by_cases hi : i < len
         · obtain ⟨cs, row, h⟩ := each i hi
           exact ⟨row, fun _ => ⟨cs, h⟩⟩
         · exact ⟨[], fun h => absurd h hi⟩
       obtain ⟨F, hF⟩ := Classical.axiomOfChoice each'
       have hget : ∀ (i : Nat) row, ((List.range len).map F)[i]? = some row → i < len ∧ row = F i := fun i row hi => by
         have hlt := (List.getElem?_eq_some_iff.1 hi).1
         simp at hlt
         simp [List.getElem?_map, List.getElem?_range hlt] at hi
         exact ⟨hlt, hi.symm⟩
       have hsp : 0 < len → a.block < w.heap.size ∧ a.spot = none := fun h0 => by
         obtain ⟨cs, c1, _, _⟩ := hF 0 h0
         obtain ⟨c2, c3⟩ := cells?_spec c1
         have := c3 0 cs[0] (List.getElem?_eq_getElem (by omega))
         simp [Addr.add] at this
         exact cell_lt this
       have hcell : ∀ i j, i < len → j < P.cellsOf e → ∃ v, w.cell? ⟨a.block, a.off + i * P.cellsOf e + j, none⟩ = some v ∧ ∀ d, (F i)[j]? = some d → V (allK w) β w v d := by
         intro i j hi hj
         obtain ⟨cs, c1, c2, _⟩ := hF i hi
         obtain ⟨c3, c4⟩ := cells?_spec c1
         have hg := List.getElem?_eq_getElem (l := cs) (i := j) (by omega)
         have := c4 j _ hg
         have hsp := (hsp (by omega)).2
         have e1 : (a.add (i * P.cellsOf e)).add j = ⟨a.block, a.off + i * P.cellsOf e + j, none⟩ := by
           obtain ⟨b, o', sp⟩ := a
           simp at hsp; subst hsp
           rw [add_mk, add_mk]
         rw [e1] at this
         exact ⟨_, this, fun d hd => c2.2 j _ d hg hd⟩
       refine ⟨[.sl (P.cellsOf e) ((List.range len).map F)], one (.sl a len cap (P.cellsOf e) _ (fun i j => (w.cell? ⟨a.block, a.off + i * P.cellsOf e + j, none⟩).getD undef) (fun hne => hsp (by
         cases len with
         | zero => simp at hne
         | succ => omega)) (by simp) hlc (fun i row hi => ?_) (fun i row j d hi hj => ?_) (fun i row j d hi hj => ?_)), .inr ⟨_, rfl, ?_, fun row hrow => ?_⟩, ?_⟩
       · obtain ⟨hi', rfl⟩ := hget i row hi
         obtain ⟨cs, c1, c2, _⟩ := hF i hi'
         rw [← c2.1, (cells?_spec c1).1]
       · obtain ⟨hi', rfl⟩ := hget i row hi
         obtain ⟨cs, c1, c2, _⟩ := hF i hi'
         have hlt := (List.getElem?_eq_some_iff.1 hj).1
         rw [← c2.1, (cells?_spec c1).1] at hlt
         obtain ⟨v, v1, _⟩ := hcell i j hi' hlt
         rw [v1]; rfl
       · obtain ⟨hi', rfl⟩ := hget i row hi
         obtain ⟨cs, c1, c2, _⟩ := hF i hi'
         have hlt := (List.getElem?_eq_some_iff.1 hj).1
         rw [← c2.1, (cells?_spec c1).1] at hlt
         obtain ⟨v, v1, v2⟩ := hcell i j hi' hlt
         rw [v1]; exact v2 d hj
       · have := hw _ (.inl rfl)
         simp only [List.length_map, List.length_range] at this ⊢
         have h2 : len * P.bytesOf e ≤ (elems.length + rest.length) * P.bytesOf e := Nat.mul_le_mul_right _ (by omega)
         omega
       · obtain ⟨i, hi, rfl⟩ := List.mem_map.1 hrow
         obtain ⟨cs, _, _, c3, _⟩ := hF i (by simpa using hi)
         exact c3
       · have h1 : wtLL ((List.range len).map F) ≤ (elems.map fun x => bulk x.1).sum := wt_sum _ _ (by simp; omega) fun i row k hi hk => by
           obtain ⟨hi', rfl⟩ := hget i row hi
           obtain ⟨cs, _, _, _, c4⟩ := hF i hi'
           rw [List.getElem?_map, Option.map_eq_some_iff] at hk
           obtain ⟨x, hx, rfl⟩ := hk
           exact c4 x hx
         have h2 := B.sl (elems.map (·.1)) (rest.map (·.1))
         rw [List.map_map] at h2
         have h3 : (elems.map (bulk ∘ fun x => x.1)).sum = (elems.map fun x => bulk x.1).sum := rfl
         show wtD _ + wtL [] ≤ bulk (.slice (elems.map (·.1)) (rest.map (·.1)))
         show (1 + wtLL ((List.range len).map F)) + 0 ≤ _
         omega
   · rename_i fs hu
     simp only [Bool.and_eq_true, List.all_eq_true] at hp
     obtain ⟨xs, m, _, rfl, hl, hlen, hf⟩ := DataW.trod_struct hu h
     simp only [DataW.weights, hu] at hw
     have := fields_bk (β := β) (bulk := bulk) n (fun t cs hp fuel x => trod_bk B n t cs hp fuel x) cs m fs.toList 0 xs (by rw [hl]; exact hp.1) (fun f hf => hp.2 f hf) (by simpa using hlen) (fun i f hi => hf i f (by simpa using hi)) hw (by omega)
     obtain ⟨ds, g1, g2, g3⟩ := this
     rw [List.drop_zero] at g1
     have h2 := B.agg (xs.map (·.1))
     rw [List.map_map] at h2
     exact ⟨ds, g1, g2, Nat.le_trans g3 h2⟩
   · rename_i m e hu
     simp only [Bool.and_eq_true] at hp
     cases fuel with
     | zero => simp [DataW.trod] at h
     | succ fuel =>
       unfold DataW.trod at h
       rw [hu] at h
       have h : (if cs.length = P.cellsOf t then ((List.range m).mapM fun i => DataW.trod enc P w 0 (fun _ => true) true fuel e ((cs.drop (i * P.cellsOf e)).take (P.cellsOf e))).map fun xs => ((.agg (xs.map (·.1)) : DataW H), xs.flatMap (·.2)) else none) = some x := by
         cases cs <;> simpa using h
       split at h
       · rename_i hl
         rw [Option.map_eq_some_iff] at h
         obtain ⟨xs, hx, rfl⟩ := h
         simp only [DataW.weights, hu] at hw
         have hxl := mapM_some_length hx
         have h2 := B.agg (xs.map (·.1))
         rw [List.map_map] at h2
         obtain ⟨ds, g1, g2, g3⟩ := arr_bk (β := β) (bulk := bulk) n (fun t cs hp fuel x => trod_bk B n t cs hp fuel x) e hp.1 fuel m cs xs (by rw [hl]; exact (Nat.eq_of_beq_eq_true hp.2).symm) (by simpa using hxl) (fun i hi => mapM_some_get hx i i (by simp [hi])) hw
         exact ⟨ds, g1, g2, Nat.le_trans g3 h2⟩
       · cases h
   · cases hp
theorem arg_bk {bulk : DataW H → Nat} (B : Bulk bulk) {t : TypeId} {v : Value} {d : DataW H} {ps : List MemPlace} {base : Nat} (hp : plainT P 30 t = true) (hok : Value.okWide P w .any base t v) (h : DataW.Trod enc P w 0 (fun _ => true) true t v d ps)
   (hw : ∀ m ∈ d.weights P t, m ≤ 140737488351232) : ∃ x, TyA P t x ∧ VA (allK w) noB w v x ∧ wtA x ≤ bulk d := by
 obtain ⟨fuel, h⟩ := h
 obtain ⟨ds, h1, h2, h3⟩ := trod_bk B (β := noB) 30 t _ hp fuel _ h hw
 rcases ty_one hp hok with ⟨q1, q2⟩ | ⟨q1, cs, rfl⟩
 · rw [q2] at h1
   have hl := h1.1
   match ds, hl with
   | [d'], _ => exact ⟨.one d', ⟨q1, h2⟩, h1.2 0 v d' rfl rfl, by simpa [wtL, wtA] using h3⟩
 · exact ⟨.agg ds, ⟨q1, h2⟩, ⟨cs, rfl, h1⟩, h3⟩
theorem args_bk {bulk : DataW H → Nat} (B : Bulk bulk) {base : Nat} : ∀ {ts : List TypeId} {vs : List Value} {ds : List (DataW H)} {ps : List MemPlace}, (∀ t ∈ ts, plainT P 30 t = true) → (∀ (j : Nat) t v, ts[j]? = some t → vs[j]? = some v → Value.okWide P w .any base t v) →
   DataW.TrodAll enc P w 0 (fun _ => true) true ts vs ds ps → (∀ m ∈ DataW.weightsEach P ts ds, m ≤ 140737488351232) →
   ∃ as0, TyAs P ts as0 ∧ vs.length = as0.length ∧ (∀ (i : Nat) v x, vs[i]? = some v → as0[i]? = some x → VA (allK w) noB w v x) ∧ (as0.map wtA).sum ≤ (ds.map bulk).sum
 | [], vs, ds, ps, _, _, h, _ => by
   obtain ⟨rfl, rfl, rfl⟩ := trodAll_nil h
   exact ⟨[], rfl, rfl, fun i v x hv => by simp at hv, by simp⟩
 | t :: ts, vs, ds, ps, hp, hok, h, hw => by
   obtain ⟨v, vs1, d, ds1, a, b, rfl, rfl, rfl, h1, h2⟩ := trodAll_cons h
   simp only [DataW.weightsEach, List.mem_append] at hw
   obtain ⟨x, x1, x2, x3⟩ := arg_bk B (hp t (by simp)) (hok 0 t v rfl rfl) h1 (fun m hm => hw m (.inl hm))
   obtain ⟨as0, a1, a2, a3, a4⟩ := args_bk B (fun t ht => hp t (by simp [ht])) (fun j t v h1 h2 => hok (j + 1) t v (by simpa using h1) (by simpa using h2)) h2 (fun m hm => hw m (.inr hm))
   refine ⟨x :: as0, ⟨x, as0, rfl, x1, a1⟩, by simp [a2], fun i u y hu hy => ?_, by simp only [List.map_cons, List.sum_cons]; omega⟩
   cases i with
   | zero => simp at hu hy; subst hu hy; exact x2
   | succ i => exact a3 i u y (by simpa using hu) (by simpa using hy)
theorem law_calls_bulk {bulk : DataW H → Nat} {N : Nat} (B : Bulk bulk)
   {f : FuncId} {fn : Func} {s : ChangeSpec} {W : World} {base : Nat} {args : Array Value} {ds gs : List (DataW H)} {before : List MemPlace} {tb : TypeId} (hl : laidOutB P = true)
   (hp : (fn.params.toList.all fun t => plainT P 30 t && P.readableRec t && decide (t < P.types.size)) = true) (hvars : s.vars = []) (hres : fn.resultTypes = #[tb]) (htb : P.underlying tb = some .bool)
   (hfn : ds.length = fn.params.size → (s.fn H ds) = { results := [.lit (.bool true)], args := ds })
   (law : ∀ as0, TyAs P fn.params.toList as0 → (as0.map wtA).sum ≤ N → DCalls P f as0 noS fun r _ => r = .a (.one (.bool true)))
   (hgl : Gl P (allK W) W)
   (hval : ∀ (j : Nat) t v, fn.params[j]? = some t → args[j]? = some v → Value.okWide P W .any base t v)
   (hW : DataW.Whole enc P fn.params.toList s.vars false W args.toList ds gs before) (hbk : ((ds ++ gs).map bulk).sum ≤ N)
   (hw : ((DataW.weightsEach P (fn.params.toList ++ s.plain.varTypes P) (ds ++ gs)).all (· ≤ reachBytes)) = true) :
   Calls P f args W fun e W' => ∃ v, e = .returned v ∧ s.post enc P fn false true false false W args v W' := by
 simp only [List.all_eq_true, Bool.and_eq_true, decide_eq_true_eq] at hp
 have hW' := hW
 obtain ⟨p, q, hA, hV, rfl, hz, _⟩ := hW'
 have hg : gs = [] := by rw [hvars] at hV; exact (trodVars_none hV).1
 subst hg
 have hvt : s.plain.varTypes P = [] := by
   have : s.plain.vars = [] := hvars
   simp [DataSpec.varTypes, this]
 rw [hvt, List.append_nil, List.append_nil] at hw
 rw [List.append_nil] at hbk
 obtain ⟨as0, a1, a2, a3, a4⟩ := args_bk B (base := base) (fun t ht => (hp t ht).1.1) (fun j t v h1 h2 => hval j t v (by simpa using h1) (by simpa using h2)) hA (fun m hm => by
   have := of_decide_eq_true (List.all_eq_true.1 hw m hm)
   simpa [reachBytes] using this)
 have hlen : ds.length = fn.params.size := by
   have key : ∀ {ts : List TypeId} {vs : List Value} {ds : List (DataW H)} {ps : List MemPlace}, DataW.TrodAll enc P W 0 (fun _ => true) true ts vs ds ps → ds.length = ts.length := by
     intro ts
     induction ts with
     | nil => intro vs ds ps h; obtain ⟨_, rfl, _⟩ := trodAll_nil h; rfl
     | cons t ts ih => intro vs ds ps h; obtain ⟨v, vs1, d, ds1, a, b, _, rfl, _, _, h2⟩ := trodAll_cons h; simp [ih h2]
   simpa using key hA
 have hd := (law as0 a1 (Nat.le_trans a4 hbk)).2 (allK W) noB W args (srel0 hgl) (by simpa using a2) (fun i v x h1 h2 => a3 i v x (by simpa using h1) h2)
 refine hd.mono fun e W' ⟨v, r, σ', k', β', q1, q2, q3, q4, q5, q6⟩ => ⟨v, q1, ?_⟩
 subst q2
 have hv : v = .bool true := V.inv_bool q3
 subst hv
 exact law_post hl (fun t ht => ⟨(hp t ht).1.2, (hp t ht).2⟩) hvars hres htb (hfn hlen) hW ⟨q6.os, q6.tape, q6.output, q6.size, fun b hb => q6.block b hb (fun i bi hi => by cases hi)⟩
end
end
end Go.Fw
namespace Go.Fw
section
variable {P : Program} {σ σ' : Store} {el : TypeId} {d : D} {rs : List (List D)}
theorem w64_id {n : Int} (h1 : -9223372036854775808 ≤ n) (h2 : n ≤ 9223372036854775807) : w64 n = n := by
 simp only [w64, IntKind.wrap, IntKind.signed, IntKind.bits]; simp; omega
theorem w64_succ {j : Nat} (h : j < 2 ^ 62) : w64 ((j : Int) + 1) = ((j + 1 : Nat) : Int) := by
 rw [w64_id (by omega) (by omega)]; omega
abbrev iD (n : Int) : D := .int .i64 n
abbrev iA (n : Int) : A := .one (.int .i64 n)
abbrev bA (b : Bool) : A := .one (.bool b)
structure At (P : Program) (σ : Store) (el : TypeId) (d : D) (rs : List (List D)) : Prop where
 rows : Rows P σ el d rs
 size : rs.length < 2 ^ 60
 es : ∀ es rows, d = .sl es rows → es = P.cellsOf el
theorem At.lenI (h : At P σ el d rs) : Len d rs.length := by
 have hr := h.rows
 cases d <;> simp only [Rows] at hr <;> try exact hr.elim
 · subst hr; rfl
 · subst hr; rfl
 · rw [hr.1]; rfl
 · obtain ⟨t, rows, h1, h2, h3, rfl⟩ := hr
   show _ = _
   simp; omega
theorem At.len {n : Nat} (h : At P σ el d rs) (hl : Len d n) : n = rs.length := by
 have hr := h.rows
 cases d <;> simp only [Rows] at hr <;> try exact hr.elim
 · subst hr; exact hl
 · subst hr; exact hl
 · rw [hr.1]; exact hl
 · obtain ⟨t, rows, h1, h2, h3, rfl⟩ := hr
   have : n = _ := hl
   simp; omega
theorem At.lenK {K : Nat → Prop} (h : At P σ el d rs) (hk : K rs.length) : ∃ len : Nat, Len d len ∧ K len := ⟨_, h.lenI, hk⟩
theorem At.row {i : Nat} {row : List D} (h : At P σ el d rs) (hi : rs[i]? = some row) : Row σ d i row := by
 have hr := h.rows
 have hlt := (List.getElem?_eq_some_iff.1 hi).1
 cases d <;> simp only [Rows] at hr <;> try exact hr.elim
 · subst hr; simp at hi
 · subst hr; simp at hi
 · rw [hr.1] at hi; exact hi
 · obtain ⟨t, rows, h1, h2, h3, rfl⟩ := hr
   refine ⟨?_, t, rows, h1, ?_⟩
   · simp at hlt; omega
   · rw [List.getElem?_take] at hi
     split at hi
     · rw [List.getElem?_drop] at hi; exact hi
     · cases hi
theorem At.idx {es : Nat} (h : At P σ el d rs) (hes : P.cellsOf el = es) (hne : 0 < rs.length) : Idx P σ d es rs.length := by
 have hr := h.rows
 subst hes
 cases d <;> simp only [Rows] at hr <;> try exact hr.elim
 · subst hr; simp at hne
 · subst hr; simp at hne
 · obtain ⟨rfl, h2⟩ := hr
   refine ⟨h2.resolve_left (fun e => by subst e; simp at hne), rfl⟩
 · obtain ⟨t, rows, h1, h2, h3, rfl⟩ := hr
   exact ⟨by simp; omega, t, rows, h1, h2⟩
theorem At.idxN {es : Nat} (h : At P σ el d rs) (hes : P.cellsOf el = es) : IdxN P σ d es rs.length := by
 by_cases hne : 0 < rs.length
 · exact .inl (h.idx hes hne)
 · have hr := h.rows
   have h0 : rs = [] := List.eq_nil_of_length_eq_zero (by omega)
   subst hes
   cases d <;> simp only [Rows] at hr <;> try exact hr.elim
   · exact .inr ⟨by omega, .inl rfl⟩
   · exact .inr ⟨by omega, .inr rfl⟩
   · exact .inl ⟨h.es _ _ rfl, by rw [hr.1]⟩
   · obtain ⟨t, rows, h1, h2, h3, rfl⟩ := hr
     exact .inl ⟨by simp; omega, t, rows, h1, h2⟩
theorem At.idxK {es : Nat} {n : Int} {j : Nat} {K : Prop} (h : At P σ el d rs) (hes : P.cellsOf el = es) (hn : n = j) (hj : j < rs.length) (hk : K) :
   ∃ len : Nat, Idx P σ d es len ∧ 0 ≤ n ∧ n < (len : Int) ∧ K := ⟨_, h.idx hes (by omega), by omega, by omega, hk⟩
theorem At.rowK {i : Nat} {j : Nat} {row : List D} {K : List D → Prop} (h : At P σ el d rs) (hi : rs[j]? = some row) (hij : i = j) (hk : K row) : ∃ row, Row σ d i row ∧ K row := ⟨row, h.row (hij ▸ hi), hk⟩
theorem At.load {es : Nat} {n : Int} {j : Nat} {row : List D} {K : List D → Prop} (h : At P σ el d rs) (hi : rs[j]? = some row) (hes : P.cellsOf el = es) (hn : n = j) (hk : K row) :
   ∃ len : Nat, Idx P σ d es len ∧ 0 ≤ n ∧ n < (len : Int) ∧ ∃ row, Row σ d n.toNat row ∧ K row :=
 h.idxK hes hn (List.getElem?_eq_some_iff.1 hi).1 (h.rowK hi (by omega) hk)
theorem At.sub {lo hi : Nat} (h : At P σ el d rs) (h1 : lo ≤ hi) (h2 : hi ≤ rs.length) : At P σ el (dsub d lo hi) ((rs.drop lo).take (hi - lo)) := by
 have hr := h.rows
 have hs := h.size
 have hl : ((rs.drop lo).take (hi - lo)).length < 2 ^ 60 := by simp; omega
 cases d <;> simp only [Rows] at hr <;> try exact hr.elim
 · subst hr; exact ⟨by simp [dsub, Rows], hl, fun es rows e => by cases e⟩
 · subst hr; exact ⟨by simp [dsub, Rows], hl, fun es rows e => by cases e⟩
 · rename_i es rows
   obtain ⟨rfl, h3⟩ := hr
   refine ⟨⟨rfl, .inr (h.es _ _ rfl)⟩, hl, fun es' rows' e => ?_⟩
   have e : D.sl es _ = D.sl es' rows' := e
   injection e with e1 e2
   rw [← e1]; exact h.es _ _ rfl
 · obtain ⟨t, rows, q1, q2, q3, rfl⟩ := hr
   refine ⟨⟨t, rows, q1, q2, ?_, ?_⟩, hl, fun es rows e => by cases e⟩
   · simp at h2; omega
   · rw [List.drop_take, List.take_take, List.drop_drop]
     simp at h2
     congr 1; omega
theorem At.sliceK {es lo hi : Nat} {l m : Int} {K : Prop} (h : At P σ el d rs) (hes : P.cellsOf el = es) (hl : l = lo) (hm : m = hi) (h1 : lo ≤ hi) (h2 : hi ≤ rs.length) (hk : K) :
   ∃ len : Nat, IdxN P σ d es len ∧ 0 ≤ l ∧ l ≤ m ∧ m ≤ (len : Int) ∧ K := ⟨_, h.idxN hes, by omega, by omega, by omega, hk⟩
theorem At.sliceFromK {es lo : Nat} {l : Int} {K : Nat → Prop} (h : At P σ el d rs) (hes : P.cellsOf el = es) (hl : l = lo) (h1 : lo ≤ rs.length) (hk : K rs.length) :
   ∃ len : Nat, IdxN P σ d es len ∧ 0 ≤ l ∧ l ≤ (len : Int) ∧ K len := ⟨_, h.idxN hes, by omega, by omega, hk⟩
def Ext (σ σ' : Store) : Prop := ∀ i, σ i ≠ .free → σ' i = σ i
theorem Ext.refl (σ : Store) : Ext σ σ := fun _ _ => rfl
theorem Ext.trans {σ1 σ2 σ3 : Store} (h : Ext σ1 σ2) (h' : Ext σ2 σ3) : Ext σ1 σ3 := fun i hi => by
 have := h i hi
 rw [h' i (by rw [this]; exact hi), this]
theorem Ext.new {id : Nat} (h : σ id = .free) (so : SO) : Ext σ (σ.set id so) := fun i hi => Store.set_ne _ _ (fun e => hi (e ▸ h))
theorem Ext.set {σ0 : Store} {id : Nat} (h : Ext σ0 σ) (hid : σ0 id = .free) (so : SO) : Ext σ0 (σ.set id so) := fun i hi => by
 have hne : i ≠ id := fun e => hi (by rw [e]; exact hid)
 rw [Store.set_ne _ _ hne]; exact h i hi
theorem Rows.same (h : Rows P σ el d rs) (hs : ∀ id i len, d = .osl id i len → σ' id = σ id) : Rows P σ' el d rs := by
 cases d <;> first | exact h | skip
 obtain ⟨t, rows, h1, h2⟩ := h
 exact ⟨t, rows, by rw [hs _ _ _ rfl]; exact h1, h2⟩
theorem At.same (h : At P σ el d rs) (hs : ∀ id i len, d = .osl id i len → σ' id = σ id) : At P σ' el d rs := ⟨h.rows.same hs, h.size, h.es⟩
theorem At.ext (h : At P σ el d rs) (he : Ext σ σ') : At P σ' el d rs := h.same fun id i len e => he id (by
 have := h.rows; subst e
 obtain ⟨t, rows, h1, _⟩ := this
 rw [h1]; intro e; cases e)
theorem At.lt_live {id i len : Nat} (h : At P σ el (.osl id i len) rs) : ∃ t rows, σ id = .live t rows ∧ P.cellsOf t = P.cellsOf el ∧ i + len ≤ rows.length ∧ rs = (rows.drop i).take len := h.rows
theorem At.nil : At P σ el .nils [] := ⟨rfl, by simp, fun es rows e => by cases e⟩
theorem At.new {t : TypeId} {id : Nat} (rs : List (List D)) (h : σ id = .live t rs) (hes : P.cellsOf t = P.cellsOf el) (hsz : rs.length < 2 ^ 60) {n : Nat} (hn : n = rs.length) : At P σ el (.osl id 0 n) rs :=
 ⟨⟨t, rs, h, hes, by omega, by subst hn; simp⟩, hsz, fun es rows e => by cases e⟩
theorem At.fresh {id : Nat} {rs : List (List D)} (h : σ id = .live el rs) (hsz : rs.length < 2 ^ 60) {n : Nat} (hn : n = rs.length) : At P σ el (.osl id 0 n) rs := .new rs h rfl hsz hn
theorem newObj_intro {so : SO} {K : Nat → Store → Prop} (h : ∀ id σ', σ id = .free → σ' = σ.set id so → Ext σ σ' → σ' id = so → K id σ') : Fw.newObj σ so K :=
 fun id hid => h id _ hid rfl (Ext.new hid so) (Store.set_same _ _ _)
/-! ### cases -/
theorem bc {b : Bool} {x y : Prop} (h1 : b = true → x) (h2 : b = false → y) : bcase b x y := by cases b; exact h2 rfl; exact h1 rfl
theorem bcd {p : Prop} [Decidable p] {x y : Prop} (h1 : p → x) (h2 : ¬ p → y) : bcase (decide p) x y := bc (fun h => h1 (of_decide_eq_true h)) (fun h => h2 (of_decide_eq_false h))
theorem bce {a b : Int} {x y : Prop} (h1 : a = b → x) (h2 : a ≠ b → y) : bcase (a == b) x y := bc (fun h => h1 (by simpa using h)) (fun h => h2 (by simpa using h))
theorem bcn {a b : Int} {x y : Prop} (h1 : a ≠ b → x) (h2 : a = b → y) : bcase (a != b) x y := bc (fun h => h1 (by simpa using h)) (fun h => h2 (by simpa using h))
theorem bcnot {b : Bool} {x y : Prop} (h1 : b = false → x) (h2 : b = true → y) : bcase (!b) x y := by cases b; exact h1 rfl; exact h2 rfl
/-! ### calls -/
def Pure (P : Program) (f : FuncId) (as0 : List A) (σ : Store) (r : RV) : Prop := DCalls P f as0 σ fun r' σ' => r' = r ∧ σ' = σ
theorem Pure.use {f : FuncId} {as0 : List A} {r : RV} {Q : RV → Store → Prop} (h : Pure P f as0 σ r) (hq : Q r σ) : DCalls P f as0 σ Q := h.mono fun r' s ⟨h1, h2⟩ => by subst h1 h2; exact hq
/-! ### what a call hands back -/
theorem Fz.refl {S : Nat → Prop} {es : Nat} {rows : List (List D)} (h : ∀ row ∈ rows, ∀ d ∈ row, Fz P σ S d d) : Fz P σ S (.sl es rows) (.sl es rows) :=
 .sl es rows rows rfl (fun i row row' h1 h2 => by rw [h1] at h2; injection h2 with h2; rw [h2]) (fun i row row' j d d' h1 h2 h3 h4 => by
   rw [h1] at h2; injection h2 with h2; subst h2
   rw [h3] at h4; injection h4 with h4; subst h4
   exact h row (List.mem_of_getElem? h1) d (List.mem_of_getElem? h3))
inductive Flat : D → Prop
 | int (q n) : Flat (.int q n)
 | bool (b) : Flat (.bool b)
 | str (s) : Flat (.str s)
 | ifc (b) : Flat (.ifc b)
theorem Flat.fz {S : Nat → Prop} {d : D} (h : Flat d) : Fz P σ S d d := by cases h <;> constructor
theorem Fz.osl_flat {S : Nat → Prop} {id i len : Nat} {rows' : List (List D)} {t : TypeId} {rows : List (List D)} (hn : ¬ S id) (hs : σ id = .live t rows) (hi : i + len ≤ rows.length) (hr : rows' = (rows.drop i).take len)
   (hf : ∀ row ∈ rows', ∀ d ∈ row, Flat d) : Fz P σ S (.osl id i len) (.sl (P.cellsOf t) rows') := by
 have hl : rows'.length = len := by rw [hr]; simp; omega
 have key : ∀ (j : Nat) row row', rows[i + j]? = some row → rows'[j]? = some row' → row' = row := fun j row row' h1 h2 => by
   have hlt := (List.getElem?_eq_some_iff.1 h2).1
   rw [hr, List.getElem?_take, if_pos (by omega), List.getElem?_drop, h1] at h2
   injection h2 with h2; exact h2.symm
 exact .osl id i len t rows rows' hn hs hi hl (fun j row row' h1 h2 => by rw [key j row row' h1 h2]) (fun j row row' m d d' h1 h2 h3 h4 => by
   have e := key j row row' h1 h2
   subst e
   rw [h3] at h4; injection h4 with h4; subst h4
   exact (hf row' (List.mem_of_getElem? h2) d (List.mem_of_getElem? h3)).fz)
theorem Ret.pure {σ0 : Store} {r r' : RV} (he : Ext σ0 σ) (hr : FzR P σ (fun i => σ0 i ≠ .free) r r') : Ret P σ0 σ r σ0 r' :=
 ⟨fun i => σ0 i ≠ .free, fun i h => h, fun i h => Classical.not_not.1 h, fun i h => .inl ⟨(he i h).symm, he i h⟩, hr⟩
theorem FzL.cons {S : Nat → Prop} {d d' : D} {ds ds' : List D} (h : Fz P σ S d d') (ht : FzL P σ S ds ds') : FzL P σ S (d :: ds) (d' :: ds') :=
 ⟨by simp [ht.1], fun i x y h1 h2 => by
   cases i with
   | zero => simp at h1 h2; subst h1 h2; exact h
   | succ i => exact ht.2 i x y (by simpa using h1) (by simpa using h2)⟩
theorem FzL.nil {S : Nat → Prop} : FzL P σ S [] [] := ⟨rfl, fun i x y h => by simp at h⟩
theorem FzL.flat {S : Nat → Prop} {ds : List D} (h : ∀ d ∈ ds, Flat d) : FzL P σ S ds ds :=
 ⟨rfl, fun i x y h1 h2 => by rw [h1] at h2; injection h2 with h2; subst h2; exact (h x (List.mem_of_getElem? h1)).fz⟩
theorem ret_slice {σ0 : Store} {rs : List (List D)} (h : At P σ el d rs) (he : Ext σ0 σ) (hid : ∀ id i len, d = .osl id i len → σ0 id = .free) (hf : ∀ row ∈ rs, ∀ x ∈ row, Flat x) :
   ∃ d', Fz P σ (fun i => σ0 i ≠ .free) d d' ∧ (∀ σ'', At P σ'' el d' rs) := by
 have hr := h.rows
 cases d <;> simp only [Rows] at hr <;> try exact hr.elim
 · subst hr; exact ⟨.nils, .nils, fun _ => .nil⟩
 · subst hr; exact ⟨.zsl, .zsl, fun _ => ⟨rfl, by simp, fun es rows e => by cases e⟩⟩
 · rename_i es rows
   obtain ⟨rfl, h3⟩ := hr
   exact ⟨_, .refl fun row hrow x hx => (hf row hrow x hx).fz, fun σ'' => ⟨⟨rfl, h3⟩, h.size, h.es⟩⟩
 · obtain ⟨t, rows, q1, q2, q3, rfl⟩ := hr
   rename_i id i len
   refine ⟨.sl (P.cellsOf t) ((rows.drop i).take len), .osl_flat (fun hn => hn (hid _ _ _ rfl)) q1 q3 rfl hf, fun σ'' => ⟨⟨rfl, .inr q2⟩, h.size, fun es rows e => ?_⟩⟩
   injection e with e1 e2
   rw [← e1]; exact q2
/-! ### slices that grow -/
structure Own (P : Program) (σ0 σ : Store) (el : TypeId) (d : D) (rs : List (List D)) : Prop where
 at_ : At P σ el d rs
 ext : Ext σ0 σ
 new : ∀ id i len, d = .osl id i len → σ0 id = .free
 nsl : ¬ isSl d
 nz : d ≠ .zsl
theorem Own.nil (σ0 : Store) (h : Ext σ0 σ) : Own P σ0 σ el .nils [] := ⟨.nil, h, fun id i len e => (by cases e), fun h => h, by intro e; cases e⟩
theorem Own.ext' {σ0 : Store} (h : Own P σ0 σ el d rs) (he : Ext σ σ') : Own P σ0 σ' el d rs := ⟨h.at_.ext he, h.ext.trans he, h.new, h.nsl, h.nz⟩
theorem Own.append {σ0 : Store} {x : D} {ns : List (List D)} {bytes : Nat} {K : D → Store → Prop} (h : Own P σ0 σ el d rs) (hx : At P σ el x ns) (hb : bytes * (rs.length + ns.length) ≤ 140737488355328)
   (hsz : rs.length + ns.length < 2 ^ 60) (hk : ∀ d' σ', Own P σ0 σ' el d' (rs ++ ns) → (∀ i, σ i ≠ .free → (∀ a b, d ≠ .osl i a b) → σ' i = σ i) → (∀ i a b, d' = .osl i a b → σ i = .free ∨ ∃ a b, d = .osl i a b) → K d' σ') : appendTo P σ el bytes d x K := by
 refine ⟨rs, ns, h.at_.rows, hx.rows, hb, fun hs => absurd hs h.nsl, fun d' σ' ha => ?_⟩
 have hl : (rs ++ ns).length < 2 ^ 60 := by simp; omega
 rcases ha with ⟨rfl, rfl, rfl⟩ | ⟨hne, id, hid, rfl, rfl⟩ | ⟨hne, id, i0, len, t, rows, rfl, hlive, rfl, rfl⟩
 · refine hk _ _ ?_ (fun i _ _ => rfl) (fun i a b e => .inr ⟨a, b, e⟩)
   rw [List.append_nil]; exact h
 · refine hk _ _ ⟨.new (t := el) _ (Store.set_same _ _ _) rfl hl (by simp), fun i hi => ?_, fun id' i len e => ?_, fun h => h, by intro e; cases e⟩ (fun i hi _ => ?_) (fun i a b e => .inl ?_)
   · rw [Store.set_ne _ _ (fun e => ?_)]
     · exact h.ext i hi
     · subst e
       have := h.ext i hi
       rw [hid] at this; exact hi this.symm
   · injection e with e1; subst e1
     by_cases hf : σ0 id = .free
     · exact hf
     · have := h.ext id hf
       rw [hid] at this; exact this.symm
   · exact Store.set_ne _ _ (fun e => hi (e ▸ hid))
   · injection e with e1; subst e1; exact hid
 · have hrow := h.at_.rows
   obtain ⟨t', rows', q1, q2, q3, hrs⟩ := hrow
   rw [hlive] at q1; injection q1 with q1 q1'; subst q1 q1'
   have hnew := h.new id i0 len rfl
   have hlen : rs.length = len := by rw [hrs]; simp; omega
   refine hk _ _ ⟨⟨⟨t, _, Store.set_same _ _ _, q2, ?_, ?_⟩, hl, fun es rows e => by cases e⟩, h.ext.set hnew _, fun id' i l e => ?_, fun h => h, by intro e; cases e⟩ (fun i hi hd => Store.set_ne _ _ (fun e => hd i0 len (by rw [e]))) (fun i a b e => .inr ?_)
   · simp; omega
   · have e1 : rows.take (i0 + len) = rows.take i0 ++ rs := by
       rw [List.take_add, hrs]
     rw [e1, List.append_assoc, List.append_assoc, List.drop_append_of_le_length (by simp; omega)]
     have e2 : (rows.take i0).drop i0 = [] := by rw [List.drop_eq_nil_iff]; simp; omega
     rw [e2, List.nil_append, ← List.append_assoc, List.take_append_of_le_length (by simp; omega), List.take_of_length_le (by simp; omega)]
   · injection e with e1; subst e1; exact hnew
   · injection e with e1; subst e1; exact ⟨_, _, rfl⟩
/-! ### ranges -/
theorem drop_get {α : Type} {l : List α} {j : Nat} {x : α} (h : l[j]? = some x) : l.drop j = x :: l.drop (j + 1) := by
 obtain ⟨h1, h2⟩ := List.getElem?_eq_some_iff.1 h
 rw [List.drop_eq_getElem_cons h1, h2]
theorem drop_end {α : Type} {l : List α} {j : Nat} (h : l.length ≤ j) : l.drop j = [] := List.drop_eq_nil_iff.2 h
theorem get_of_lt {α : Type} {l : List α} {j : Nat} (h : j < l.length) : ∃ x, l[j]? = some x := ⟨l[j], List.getElem?_eq_getElem h⟩
theorem map_get {α β : Type} {f : α → β} {l : List α} {j : Nat} {x : α} (h : l[j]? = some x) : (l.map f)[j]? = some (f x) := by simp [h]
def Rng {α : Type} (l : List α) (F : List α → Prop) (n : Int) : Prop := ∃ j : Nat, n = j ∧ j ≤ l.length ∧ F (l.drop j)
theorem Rng.start {α : Type} {l : List α} {F : List α → Prop} (h : F l) : Rng l F 0 := ⟨0, rfl, by omega, h⟩
theorem Rng.step {α : Type} {l : List α} {F : List α → Prop} {n : Int} {m : Nat} (h : Rng l F n) (hm : m = l.length) (hl : l.length < 2 ^ 60) (hlt : n < (m : Int)) :
   ∃ (j : Nat) (x : α), n = j ∧ l[j]? = some x ∧ j < l.length ∧ F (x :: l.drop (j + 1)) ∧
     ∀ F' : List α → Prop, F' (l.drop (j + 1)) → Rng l F' (w64 (n + 1)) ∧ l.length - (w64 (n + 1)).toNat < l.length - n.toNat := by
 obtain ⟨j, rfl, hj, hF⟩ := h
 have hj' : j < l.length := by omega
 obtain ⟨x, hx⟩ := get_of_lt hj'
 refine ⟨j, x, rfl, hx, hj', by rw [← drop_get hx]; exact hF, fun F' h' => ?_⟩
 rw [w64_succ (by omega)]
 exact ⟨⟨j + 1, rfl, by omega, h'⟩, by omega⟩
theorem Rng.done {α : Type} {l : List α} {F : List α → Prop} {n : Int} {m : Nat} (h : Rng l F n) (hm : m = l.length) (hge : ¬ n < (m : Int)) : F [] := by
 obtain ⟨j, rfl, hj, hF⟩ := h
 rw [drop_end (by omega)] at hF; exact hF
theorem andl {p a b : Prop} (hp : p) (h : a ∧ b) : (p ∧ a) ∧ b := ⟨⟨hp, h.1⟩, h.2⟩
/-! ### maps -/
def MapAt {κ : Type} (P : Program) (kt : TypeId) (enc : κ → A) (σ : Store) (id : Nat) (f : κ → Option A) : Prop :=
 ∃ clock es, σ id = .mp clock es ∧ keysOk P kt es ∧ ∀ x, findM (enc x) es = f x
def Keys {κ : Type} (P : Program) (kt : TypeId) (enc : κ → A) : Prop := (∀ x, keyOk P kt (enc x) = true) ∧ ∀ x y, eqA (enc x) (enc y) = true ↔ x = y
variable {κ : Type} {kt : TypeId} {enc : κ → A} {id : Nat} {f : κ → Option A}
theorem MapAt.new (h : σ id = .mp 0 []) : MapAt P kt enc σ id fun _ => none := ⟨0, [], h, fun e he => (by cases he), fun x => rfl⟩
theorem MapAt.same (h : MapAt P kt enc σ id f) (hs : σ' id = σ id) : MapAt P kt enc σ' id f := by
 obtain ⟨c, es, h1, h2⟩ := h
 exact ⟨c, es, hs.trans h1, h2⟩
theorem MapAt.look (hk : Keys P kt enc) (h : MapAt P kt enc σ id f) (x : κ) : MLook P kt σ (.omap id) (enc x) (f x) := by
 obtain ⟨c, es, h1, h2, h3⟩ := h
 exact ⟨hk.1 x, .inr ⟨id, c, es, rfl, h1, h2, (h3 x).symm⟩⟩
theorem MapAt.lookI (hk : Keys P kt enc) (h : MapAt P kt enc σ id f) (x : κ) {n : Int} {K : Int → Prop} (hn : (f x).getD (iA 0) = iA n) (hK : K n) :
   ∃ r : Option A, MLook P kt σ (.omap id) (enc x) r ∧ ∃ n : Int, Option.getD r (iA 0) = iA n ∧ K n := ⟨_, h.look hk x, n, hn, hK⟩
theorem MapAt.put (hk : Keys P kt enc) (h : MapAt P kt enc σ id f) (x : κ) {v : A} {K : Store → Prop}
   (hK : ∀ σ' f', MapAt P kt enc σ' id f' → (∀ z, z ≠ x → f' z = f z) → f' x = some v → (∀ i, i ≠ id → σ' i = σ i) → σ' id ≠ .free → K σ') : MPut P kt σ (.omap id) (enc x) v K := by
 obtain ⟨c, es, h1, h2, h3⟩ := h
 refine ⟨id, c, es, ⟨hk.1 x, rfl, h1, h2⟩, fun c' es' e2 e3 => ?_⟩
 exact hK _ (fun z => findM (enc z) es') ⟨c', es', Store.set_same _ _ _, e2, fun z => rfl⟩ (fun z hz => by rw [e3, if_neg (fun h => hz ((hk.2 z x).1 h)), h3]) (by rw [e3, if_pos ((hk.2 x x).2 rfl)])
   (fun i hi => Store.set_ne _ _ hi) (by rw [Store.set_same]; intro e; cases e)
theorem MapAt.bump (hk : Keys P kt enc) (h : MapAt P kt enc σ id f) (x : κ) {z v : A} {K : Store → Prop}
   (hK : ∀ σ' f', MapAt P kt enc σ' id f' → (∀ z, z ≠ x → f' z = f z) → f' x = some v → (∀ i, i ≠ id → σ' i = σ i) → σ' id ≠ .free → K σ') :
   MEntry P kt σ (.omap id) (enc x) z fun _ n σ' => MStamp σ' (.omap id) n v K := by
 obtain ⟨c, es, h1, h2, h3⟩ := h
 refine ⟨id, c, es, ⟨hk.1 x, rfl, h1, h2⟩, fun hb => ?_⟩
 have fin : ∀ (c' : Nat) (es1 : List Ent), keysOk P kt es1 → (∀ y, findM y (stampL (mstamp c es (enc x)) v es1) = if eqA y (enc x) = true then some v else findM y es) → keysOk P kt (stampL (mstamp c es (enc x)) v es1) →
     mput c es (enc x) ((findM (enc x) es).getD z) = .mp c' es1 → (∃ e ∈ es1, (e.1 : Int) = (mstamp c es (enc x) : Nat)) →
     MStamp (σ.set id (mput c es (enc x) ((findM (enc x) es).getD z))) (.omap id) (mstamp c es (enc x) : Nat) v K := by
   intro c' es1 hk1 hf hk2 he hm
   refine ⟨id, c', es1, rfl, by rw [Store.set_same, he], hm, ?_⟩
   exact hK _ (fun y => findM (enc y) (stampL (mstamp c es (enc x)) v es1)) ⟨c', _, Store.set_same _ _ _, hk2, fun y => rfl⟩ (fun y hy => by rw [hf, if_neg (fun h => hy ((hk.2 y x).1 h)), h3]) (by rw [hf, if_pos ((hk.2 x x).2 rfl)])
     (fun i hi => by rw [Store.set_ne _ _ hi, Store.set_ne _ _ hi]) (by rw [Store.set_same]; intro e; cases e)
 rcases put_cases c es (enc x) ((findM (enc x) es).getD z) with ⟨hn, e1, e2, e3⟩ | ⟨j, e, hf, e1, e2, e3⟩
 · rw [e2, Option.getD_none] at e1
   have hst : stampL (mstamp c es (enc x)) v (es ++ [(c, enc x, z)]) = es ++ [(c, enc x, v)] := by
     have hj : (es ++ [(c, enc x, z)])[es.length]? = some (c, enc x, z) := by simp
     rw [stampL_at (hb.push (enc x) z).2 hj (by rw [e3])]
     simp
   refine fin (c + 1) (es ++ [(c, enc x, z)]) (fun w hw => ?_) (fun y => ?_) ?_ (by rw [e2, Option.getD_none]; exact e1) ⟨(c, enc x, z), List.mem_append_right _ (List.mem_singleton.2 rfl), by rw [e3]⟩
   · rcases List.mem_append.1 hw with hw | hw
     · exact h2 w hw
     · simp at hw; subst hw; exact hk.1 x
   · rw [hst, findM_append]
     by_cases hxy : eqA y (enc x) = true
     · have hnx : findM y es = none := findM_none fun e he => by
         have h1 := hn e he
         have := eqA_congr (by rw [eqA_symm]; exact hxy : eqA (enc x) y = true) e.2.1
         rw [eqA_symm e.2.1 (enc x), h1, eqA_symm e.2.1 y] at this
         exact this.symm
       simp [hxy, hnx]
     · simp [hxy]
   · rw [hst]
     intro w hw
     rcases List.mem_append.1 hw with hw | hw
     · exact h2 w hw
     · simp at hw; subst hw; exact hk.1 x
 · rw [e2, Option.getD_some] at e1
   have hlt := (List.getElem?_eq_some_iff.1 hf.1).1
   have hj : (es.set j (e.1, enc x, e.2.2))[j]? = some (e.1, enc x, e.2.2) := by simp [hlt]
   have hst : stampL (mstamp c es (enc x)) v (es.set j (e.1, enc x, e.2.2)) = es.set j (e.1, enc x, v) := by
     rw [stampL_at (hb.set hf.1 (enc x) e.2.2).2 hj (by rw [e3]), List.set_set]
   refine fin c (es.set j (e.1, enc x, e.2.2)) (fun w hw => ?_) (fun y => by rw [hst]; exact findM_set hf) ?_ (by rw [e2, Option.getD_some]; exact e1) ⟨_, List.mem_of_getElem? hj, by rw [e3]⟩
   · rcases List.mem_or_eq_of_mem_set hw with hw | hw
     · exact h2 w hw
     · subst hw; exact hk.1 x
   · rw [hst]
     intro w hw
     rcases List.mem_or_eq_of_mem_set hw with hw | hw
     · exact h2 w hw
     · subst hw; exact hk.1 x
theorem osl_new {σ0 : Store} {id i0 n : Nat} (h : σ0 id = .free) : ∀ id' i len, D.osl id i0 n = .osl id' i len → σ0 id' = .free := fun id' i len e => by
 have := (D.osl.inj e).1
 rw [← this]; exact h
inductive FlatR : RV → Prop
 | one (x : D) (h : Flat x) : FlatR (.a (.one x))
 | agg (ds : List D) (h : ∀ d ∈ ds, Flat d) : FlatR (.a (.agg ds))
 | tup (ds : List D) (h : ∀ d ∈ ds, Flat d) : FlatR (.tup (ds.map .one))
theorem FlatR.fz {S : Nat → Prop} {r : RV} (h : FlatR r) : FzR P σ S r r := by
 cases h with
 | one d h => exact h.fz
 | agg ds h => exact FzL.flat h
 | tup ds h =>
   refine ⟨rfl, fun i x y h1 h2 => ?_⟩
   rw [h1] at h2; injection h2 with h2; subst h2
   simp only [List.getElem?_map, Option.map_eq_some_iff] at h1
   obtain ⟨d, h1, rfl⟩ := h1
   exact (h d (List.mem_of_getElem? h1)).fz
theorem Pure.of {f : FuncId} {as0 : List A} {r : RV} (h : DCalls P f as0 σ fun r' s => r' = r ∧ Ext σ s) (hf : FlatR r) : Pure P f as0 σ r :=
 h.ret fun r' s ⟨h1, h2⟩ => by subst h1; exact ⟨r', σ, .pure h2 hf.fz, rfl, rfl⟩
theorem flat_i (n : Int) : FlatR (.a (iA n)) := .one _ (.int _ _)
theorem flat_b (b : Bool) : FlatR (.a (bA b)) := .one _ (.bool _)
theorem keys_int2 (h : ∀ a b : Int, keyOk P kt (.agg [iD a, iD b]) = true) : Keys P kt fun p : Int × Int => .agg [iD p.1, iD p.2] :=
 ⟨fun x => h _ _, fun x y => by simp [eqA, eqCells, aCells, eqCell, Prod.ext_iff]⟩
end
end Go.Fw
namespace Go.Fw
open Go.Shelf Go.Sort Go.Proofs
section
variable {P : Program} {ρ : Ren} {σ : Store}
def intRow (z : Int) : List D := [.int .i64 z]
def sorted (l : List Int) : List Int := l.mergeSort fun x y => decide (x ≤ y)
theorem ints_over {k : Nat → Prop} {β : Bk} {W : World} (hS : SRel P k β W σ) {id i0 : Nat} {t : TypeId} {rows : List (List D)} {ys : List Int} {bi : BI} (ht : P.cellsOf t = 1) (hl : σ id = .live t rows) (hb : β id = some bi)
   (hfit : i0 + ys.length ≤ rows.length) (n : Nat) (os : Array Obj) :
   SRel P k β (grow (putRow (Value.int .i64) (Sort.ahead W n) bi.blk (i0 * bi.es) ys.toArray) os) (σ.set id (.live t (rows.take i0 ++ ys.map intRow ++ rows.drop (i0 + ys.length)))) ∧
   Ghost k β σ W k β (σ.set id (.live t (rows.take i0 ++ ys.map intRow ++ rows.drop (i0 + ys.length)))) ∧
   Frm β σ W (grow (putRow (Value.int .i64) (Sort.ahead W n) bi.blk (i0 * bi.es) ys.toArray) os) := by
 obtain ⟨arr, g1, g2, g3, g4, g5, g6, g7⟩ := hS.obj id bi t rows hb hl
 have hes : bi.es = 1 := by rw [← g3, ht]
 have hsz2 : i0 + ys.length ≤ arr.size := by rw [hes] at g4; omega
 have hov := hS.over hb hl g1 (ns := ys.map intRow) (vx := ys.map (Value.int .i64)) i0 (by omega) (by omega) (by simp [hes])
   (by
     have e : ∀ l : List Int, ((l.map intRow).flatten) = l.map (D.int .i64) := by
       intro l; induction l with
       | nil => rfl
       | cons x r ih => simp only [List.map_cons, List.flatten_cons, ih]; rfl
     rw [e]
     refine ⟨by simp, fun i v d hv hd => ?_⟩
     rw [List.getElem?_map] at hv hd
     cases hx : ys[i]? with
     | none => rw [hx] at hv; cases hv
     | some x => rw [hx] at hv hd; cases hv; cases hd; exact .int _ _)
   (by
     intro i r hr
     rw [List.getElem?_map] at hr
     cases hx : ys[i]? with
     | none => rw [hx] at hr; cases hr
     | some x => rw [hx] at hr; cases hr; rw [hes]; rfl)
   (by simp only [hes, List.length_map]; omega)
 have hrl : (ys.map intRow).length = ys.length := by rw [List.length_map]
 rw [hrl] at hov
 have hG : Grow (W.setRow bi.blk (arr.toList.take (i0 * bi.es) ++ ys.map (Value.int .i64) ++ arr.toList.drop (i0 * bi.es + (ys.map (Value.int .i64)).length)).toArray)
     (grow (putRow (Value.int .i64) (Sort.ahead W n) bi.blk (i0 * bi.es) ys.toArray) os) := by
   refine ⟨rfl, rfl, rfl, by rw [setRow_size]; simp, fun b hb => ?_⟩
   rw [setRow_size] at hb
   rw [heap_grow_old _ _ (by simpa using hb)]
   by_cases he : b = bi.blk
   · subst he
     rw [setRow_heap _ _ _ _ _ _ g1]
     simp only [putRow, mapBlock, heap_ahead, Array.getElem?_modify, if_true, g1, Option.map_some, onCells]
     congr 2
     apply Array.ext_getElem?
     intro m
     simp only [putCells, Array.getElem?_mapIdx, List.getElem?_toArray, hes, Nat.mul_one, List.length_map, List.size_toArray]
     by_cases c1 : m < i0
     · rw [List.getElem?_append_left (by simp; omega), List.getElem?_append_left (by simp; omega), List.getElem?_take, if_pos c1, Array.getElem?_toList, Array.getElem?_eq_getElem (by omega), Option.map_some, if_neg (by omega)]
     · by_cases c2 : m < i0 + ys.length
       · rw [List.getElem?_append_left (by simp; omega), List.getElem?_append_right (by simp; omega), Array.getElem?_eq_getElem (by omega), Option.map_some, if_pos ⟨by omega, by omega⟩]
         have hl1 : (arr.toList.take i0).length = i0 := by simp; omega
         have hk : m - i0 < ys.length := by omega
         rw [hl1, List.getElem?_map, List.getElem?_eq_getElem hk]
         simp [hk]
       · rw [List.getElem?_append_right (by simp; omega), List.getElem?_drop, Array.getElem?_toList]
         have hl1 : i0 + ys.length + (m - (arr.toList.take i0 ++ ys.map (Value.int .i64)).length) = m := by simp; omega
         rw [hl1]
         cases arr[m]? with
         | none => rfl
         | some y => rw [Option.map_some, if_neg (by omega)]
   · rw [setRow_get _ _ _ _ he]
     simp only [putRow, mapBlock, heap_ahead, Array.getElem?_modify]
     rw [if_neg (fun e => he e.symm)]
 have hne : σ id ≠ .dead := by rw [hl]; intro e; cases e
 refine ⟨hov.grow hG, ⟨fun _ h => h, fun _ h => .inl h, fun _ _ h => h, fun _ _ h => .inl h, fun i hi => ?_⟩, ?_⟩
 · rw [Store.set_ne _ _ (by intro e; subst e; exact hne hi)]; exact hi
 · refine ⟨hG.os, hG.tape, hG.output, by have := hG.size; rwa [setRow_size] at this, fun b hb' hn => ?_⟩
   rw [hG.block b (by rw [setRow_size]; exact hb'), setRow_get _ _ _ _ (fun e => hn id bi hb hne e.symm)]
theorem ints_hold {k : Nat → Prop} {β : Bk} {W : World} (hS : SRel P k β W σ) {id i0 : Nat} {t : TypeId} {rows : List (List D)} {zs : List Int} {bi : BI} (ht : P.cellsOf t = 1) (hl : σ id = .live t rows) (hb : β id = some bi)
   (hrows : (rows.drop i0).take zs.length = zs.map intRow) : Holds (Value.int .i64) W bi.blk (i0 * bi.es) zs.toArray := by
 obtain ⟨arr, g1, g2, g3, g4, g5, g6, g7⟩ := hS.obj id bi t rows hb hl
 have hes : bi.es = 1 := by rw [← g3, ht]
 have hget : ∀ j, j < zs.length → arr[i0 + j]? = some (Value.int .i64 (zs.getD j 0)) := by
   intro j hj
   have h1 : ((rows.drop i0).take zs.length)[j]? = some (intRow (zs.getD j 0)) := by rw [hrows]; simp [hj]
   rw [List.getElem?_take_of_lt hj, List.getElem?_drop] at h1
   obtain ⟨u, hu, hVu⟩ := g7 _ _ 0 (.int .i64 (zs.getD j 0)) h1 rfl
   rw [hes, Nat.mul_one, Nat.add_zero] at hu
   rw [hu]; cases hVu; rfl
 intro j hj
 have hj : j < zs.length := by simpa using hj
 refine ⟨?_, by simp [World.frozen?, g1]⟩
 have := hget j hj
 simp only [World.cell?, g1, hes, Nat.mul_one, Option.isSome_none, Bool.false_eq_true, if_false]
 rw [this]
 simp [hj]
theorem one_arg {k : Nat → Prop} {β : Bk} {W : World} {x : A} {vs : Array Value} (hvs : vs.size = [x].length) (hargs : ∀ (i : Nat) v y, vs[i]? = some v → [x][i]? = some y → VA k β W v y) : ∃ v, vs = #[v] ∧ VA k β W v x := by
 have hvs : vs.size = 1 := hvs
 obtain ⟨l⟩ := vs
 match l, hvs with
 | [v], _ => exact ⟨v, rfl, hargs 0 v x rfl rfl⟩
theorem sort_DCalls (Ly : Lays.n189 P ρ) {id i0 : Nat} {t : TypeId} {rows : List (List D)} {zs : List Int} (ht : P.cellsOf t = 1) (hl : σ id = .live t rows)
   (hfit : i0 + zs.length ≤ rows.length) (hrows : (rows.drop i0).take zs.length = zs.map intRow) (h0 : 0 < zs.length) (hsz : zs.length < 4611686018427387904) :
   DCalls P (ρ.f 189) [.one (.osl id i0 zs.length)] σ fun r σ' => r = .tup [] ∧ σ' = σ.set id (.live t (rows.take i0 ++ (sorted zs).map intRow ++ rows.drop (i0 + zs.length))) := by
 refine ⟨by unfold callOk; rw [Ly.f189]; rfl, fun k β W vs hS hvs hargs => ?_⟩
 obtain ⟨v, rfl, hV⟩ := one_arg hvs hargs
 have hV : V k β W v (.osl id i0 zs.length) := hV
 cases hV with
 | osl _ _ _ cap a bi hb ha hc hs hcm =>
   have ha := ha (by omega)
   subst ha
   refine (calls_of_every_depth fun D => Go.Proofs.AnyS.slices_Sort_int_in Ly D bi.blk (i0 * bi.es) cap zs W (ints_hold hS ht hl hb hrows) (hS.blt id bi hb) hsz).mono ?_
   rintro e W' ⟨rfl, n, os, rfl⟩
   have hlen : (sorted zs).length = zs.length := by simp [sorted]
   obtain ⟨h1, h2, h3⟩ := ints_over hS (i0 := i0) (ys := sorted zs) ht hl hb (by omega) n os
   rw [hlen] at h1 h2
   exact ⟨.tuple #[], .tup [], _, k, β, rfl, ⟨rfl, rfl⟩, ⟨#[], rfl, rfl, fun i u x hu => by simp at hu⟩, h1, h2, h3⟩
theorem compact_DCalls (Ly : Lays2.n20 P ρ) {id i0 : Nat} {t : TypeId} {rows : List (List D)} {zs : List Int} (ht : P.cellsOf t = 1) (hl : σ id = .live t rows)
   (hfit : i0 + zs.length ≤ rows.length) (hrows : (rows.drop i0).take zs.length = zs.map intRow) (h0 : 0 < zs.length) (hsz : zs.length < 4611686018427387904) :
   DCalls P (ρ.f 20) [.one (.osl id i0 zs.length)] σ fun r σ' => r = .a (.one (.osl id i0 (Lib.compact zs).length)) ∧
     σ' = σ.set id (.live t (rows.take i0 ++ (Lib.compact zs ++ List.replicate (zs.length - (Lib.compact zs).length) 0).map intRow ++ rows.drop (i0 + zs.length))) := by
 refine ⟨by unfold callOk; rw [Ly.f20]; rfl, fun k β W vs hS hvs hargs => ?_⟩
 obtain ⟨v, rfl, hV⟩ := one_arg hvs hargs
 have hV : V k β W v (.osl id i0 zs.length) := hV
 cases hV with
 | osl _ _ _ cap a bi hb ha hc hs hcm =>
   have ha := ha (by omega)
   subst ha
   refine (Go.Proofs.Any.slices_Compact_int Ly bi.blk (i0 * bi.es) cap zs W (ints_hold hS ht hl hb hrows) (by omega) hc).mono ?_
   rintro e W' ⟨rfl, n, rfl⟩
   have hle : (Lib.compact zs).length ≤ zs.length := by
     unfold Lib.compact Lib.compactUpTo
     rw [List.length_map]
     exact Nat.le_trans (List.length_filter_le _ _) (by simp)
   have hlen : (Lib.compact zs ++ List.replicate (zs.length - (Lib.compact zs).length) 0).length = zs.length := by simp; omega
   obtain ⟨h1, h2, h3⟩ := ints_over hS (i0 := i0) (ys := Lib.compact zs ++ List.replicate (zs.length - (Lib.compact zs).length) 0) ht hl hb (by omega) n #[]
   rw [hlen] at h1 h2
   rw [grow_empty] at h1 h3
   exact ⟨_, .a (.one (.osl id i0 (Lib.compact zs).length)), _, k, β, rfl, ⟨rfl, rfl⟩, .osl id i0 _ cap _ bi hb (fun _ => rfl) (by omega) hs hcm, h1, h2, h3⟩
theorem sorted_perm (l : List Int) : (sorted l).Perm l := List.mergeSort_perm _ _
theorem sorted_pair (l : List Int) : (sorted l).Pairwise (· ≤ ·) := by
 have := List.pairwise_mergeSort (le := fun x y : Int => decide (x ≤ y)) (by intro a b c; simp; omega) (by intro a b; simp; omega) l
 exact this.imp fun h => by simpa using h
theorem compact_mem {zs : List Int} {z : Int} : z ∈ Lib.compact zs ↔ z ∈ zs := by
 unfold Lib.compact Lib.compactUpTo
 rw [List.mem_map]
 constructor
 · rintro ⟨j, hj, rfl⟩
   have hj := List.mem_range.1 (List.mem_filter.1 hj).1
   simp [hj]
 · intro hz
   obtain ⟨j, hj, e⟩ := List.getElem_of_mem hz
   have key : ∀ j, (hj : j < zs.length) → zs[j] = z → ∃ a, a ∈ List.filter (Lib.keeps zs.toArray) (List.range zs.length) ∧ zs.toArray[a]! = z := by
     intro j
     induction j with
     | zero => exact fun hj e => ⟨0, List.mem_filter.2 ⟨List.mem_range.2 hj, by simp [Lib.keeps]⟩, by simp [hj, e]⟩
     | succ j ih =>
       intro hj e
       by_cases h : zs[j]'(by omega) = z
       · exact ih (by omega) h
       · refine ⟨j + 1, List.mem_filter.2 ⟨List.mem_range.2 hj, Lib.keeps_pos ?_⟩, by simp [hj, e]⟩
         simp only [Nat.add_sub_cancel]
         have : j < zs.length := by omega
         simp only [List.getElem!_toArray, hj, this, getElem!_pos, e]
         exact fun h' => h h'.symm
   exact key j hj e
theorem compact_strict {zs : List Int} (h : zs.Pairwise (· ≤ ·)) : (Lib.compact zs).Pairwise (· < ·) := by
 unfold Lib.compact Lib.compactUpTo
 rw [List.pairwise_map]
 have hr : (List.filter (Lib.keeps zs.toArray) (List.range zs.length)).Pairwise (· < ·) := List.Pairwise.filter _ List.pairwise_lt_range
 refine hr.imp_of_mem ?_
 intro i j hi hj hij
 obtain ⟨h1, _⟩ := List.mem_filter.1 hi
 obtain ⟨h2, h3⟩ := List.mem_filter.1 hj
 have h1 := List.mem_range.1 h1
 have h2 := List.mem_range.1 h2
 have hm : j - 1 < zs.length := by omega
 have hne : zs[j]'h2 ≠ zs[j - 1]'hm := by
   intro e
   have : Lib.keeps zs.toArray j = false := Lib.keeps_neg (by omega) (by simp only [List.getElem!_toArray, h2, hm, getElem!_pos, e])
   rw [h3] at this; cases this
 have hle1 : zs[j - 1]'hm ≤ zs[j]'h2 := List.pairwise_iff_getElem.1 h _ _ _ _ (by omega)
 have hle2 : zs[i]'h1 ≤ zs[j - 1]'hm := by
   by_cases e : i = j - 1
   · subst e; exact Int.le_refl _
   · exact List.pairwise_iff_getElem.1 h _ _ _ _ (by omega)
 simp only [List.getElem!_toArray, h1, h2, getElem!_pos]
 omega
end
section
variable {P : Program} {ρ : Ren} {σ : Store}
theorem Grow.of_below {W W' : World} (h : Go.RowKit.Below W.heap.size W W') : Grow W W' := ⟨h.os, h.tape, h.output, h.size, h.block⟩
theorem Grow.of_grow (W : World) (k : Nat) (os : Array Obj) : Grow W (Sort.grow (W.drewN k) os) :=
 ⟨rfl, rfl, rfl, by simp [Sort.grow, World.drewN], fun b hb => by simp [Sort.grow, World.drewN, Array.getElem?_append, hb]⟩
theorem pure_call {f : FuncId} {xs : List A} {r : RV} (hok : callOk P f = true)
   (h : ∀ k β W (vs : Array Value), SRel P k β W σ → vs.size = xs.length → (∀ (i : Nat) v x, vs[i]? = some v → xs[i]? = some x → VA k β W v x) →
     Calls P f vs W fun e W' => ∃ v, e = .returned v ∧ (∀ k β, VR k β W' v r) ∧ Grow W W') : Pure P f xs σ r := by
 refine ⟨hok, fun k β W vs hS hsz hv => (h k β W vs hS hsz hv).mono ?_⟩
 rintro e W' ⟨v, rfl, hr, hg⟩
 exact ⟨v, r, σ, k, β, rfl, ⟨rfl, rfl⟩, hr k β, hS.grow hg, Ghost.refl _ _ _ _, hg.frm β σ⟩
theorem one_int {k : Nat → Prop} {β : Bk} {W : World} {n : Int} {vs : Array Value} (hsz : vs.size = [iA n].length) (hv : ∀ (i : Nat) v x, vs[i]? = some v → [iA n][i]? = some x → VA k β W v x) : vs = #[.int .i64 n] := by
 obtain ⟨v, rfl, h⟩ := one_arg hsz hv
 rw [V.inv_int h]
theorem one_str {k : Nat → Prop} {β : Bk} {W : World} {s : ByteArray} {vs : Array Value} (hsz : vs.size = [A.one (.str s)].length) (hv : ∀ (i : Nat) v x, vs[i]? = some v → [A.one (.str s)][i]? = some x → VA k β W v x) : vs = #[.string s] := by
 obtain ⟨v, rfl, h⟩ := one_arg hsz hv
 rw [V.inv_str h]
theorem SRel.tab {k : Nat → Prop} {β : Bk} {W : World} (h : SRel P k β W σ) {g : Nat} (hg : P.globalNamed "internal/strconv.uint64pow10" = some g) : Lib.TabIs P W "internal/strconv.uint64pow10" .u64 Lib.pow10Tab := by
 obtain ⟨_, arr, t, fz, h1, h2⟩ := h.gl _ (List.mem_cons_self ..) g hg
 have h2 : arr = (Lib.pow10Tab.map fun z => Value.int .u64 z).toArray := h2
 unfold Lib.TabIs World.var?
 rw [hg]
 show (match W.heap[g]? with | some (.cells cs _ _) => some cs | _ => none) = _
 rw [h1, h2]
theorem SRel.errv {k : Nat → Prop} {β : Bk} {W : World} (h : SRel P k β W σ) {nm : String} (hn : nm = "strconv.ErrSyntax" ∨ nm = "strconv.ErrRange") {g : Nat} (hg : P.globalNamed nm = some g) : ∃ t p, W.cell? ⟨g, 0, none⟩ = some (.iface t p) := by
 have hm : (nm, fun arr : Array Value => ∃ t p, arr = #[.iface t p]) ∈ glVars := by
   unfold glVars
   rcases hn with rfl | rfl <;> simp
 obtain ⟨_, arr, t, fz, h1, t', p, h2⟩ := h.gl _ hm g hg
 have h2 : arr = #[.iface t' p] := h2
 exact ⟨t', p, by simp [World.cell?, h1, h2]⟩
def baOf (l : List UInt8) : ByteArray := ⟨l.toArray⟩
def sA (s : ByteArray) : A := .one (.str s)
theorem itoa_Pure (L : LaysM.n171 P ρ) {g : Nat} (hg : P.globalNamed "internal/strconv.uint64pow10" = some g) {n : Int} (h0 : -9223372036854775808 ≤ n) (h1 : n ≤ 9223372036854775807) :
   Pure P (ρ.f 171) [iA n] σ (.a (sA (baOf (Lib.itoa n)))) := by
 refine pure_call (by unfold callOk; rw [L.f171]; rfl) fun k β W vs hS hsz hv => ?_
 rw [one_int hsz hv]
 refine (Any.strconv_Itoa L n h0 h1 W (hS.tab hg)).mono ?_
 rintro e W' ⟨rfl, j, os, rfl⟩
 exact ⟨_, rfl, fun k β => V.str _, Grow.of_grow _ _ _⟩
def atoiR (l : List UInt8) : Int × Bool :=
 match Lib.atoiAll l with
 | .ok v => (v, false)
 | .range => (Lib.atoiSat l, true)
 | _ => (0, true)
theorem atoi_Pure (L : LaysC.n172 P ρ) (h15 : P.globalNamed "strconv.ErrSyntax" = some (ρ.g 15)) (h16 : P.globalNamed "strconv.ErrRange" = some (ρ.g 16)) {s : ByteArray} (hs : s.size ≤ 281474976710656) :
   Pure P (ρ.f 172) [sA s] σ (.tup [iA (atoiR s.data.toList).1, .one (.ifc (atoiR s.data.toList).2)]) := by
 refine pure_call (by unfold callOk; rw [L.f172]; rfl) fun k β W vs hS hsz hv => ?_
 rw [one_str hsz hv]
 have two : ∀ (W' : World) (v1 v2 : Value) (x1 x2 : D), (∀ k β, V k β W' v1 x1) → (∀ k β, V k β W' v2 x2) → ∀ k β, VR k β W' (.tuple #[v1, v2]) (.tup [.one x1, .one x2]) := by
   intro W' v1 v2 x1 x2 h1 h2 k β
   refine ⟨#[v1, v2], rfl, rfl, fun i u x hu hx => ?_⟩
   match i, hu, hx with
   | 0, hu, hx => cases hu; cases hx; exact h1 k β
   | 1, hu, hx => cases hu; cases hx; exact h2 k β
   | i + 2, hu, hx => simp at hx
 obtain ⟨t1, p1, hc1⟩ := hS.errv (.inl rfl) h15
 obtain ⟨t2, p2, hc2⟩ := hS.errv (.inr rfl) h16
 unfold atoiR
 cases h : Lib.atoiAll s.data.toList with
 | ok v =>
   refine (Any.strconv_Atoi_ok L s (by omega) v h W).mono ?_
   rintro e W' ⟨rfl, hw⟩
   refine ⟨_, rfl, two _ _ _ _ _ (fun k β => .int _ _) (fun k β => .nili), ?_⟩
   rcases hw with rfl | ⟨t, rfl⟩
   · exact Grow.refl _
   · exact Grow.of_below (Lib.bytesWorld_below _ _ _)
 | range =>
   refine (Any.strconv_Atoi_range L s hs h _ W hc2 (.inr ⟨_, _, rfl⟩)).mono ?_
   rintro e W' ⟨N, rfl, _, _, hb⟩
   exact ⟨_, rfl, two _ _ _ _ _ (fun k β => .int _ _) (fun k β => .ifv _ _), Grow.of_below hb⟩
 | _ =>
   refine (Any.strconv_Atoi_syntax L s hs h _ W hc1 (.inr ⟨_, _, rfl⟩)).mono ?_
   rintro e W' ⟨N, rfl, _, _, hb⟩
   exact ⟨_, rfl, two _ _ _ _ _ (fun k β => .int _ _) (fun k β => .ifv _ _), Grow.of_below hb⟩
def pieces (c : UInt8) (s : ByteArray) : List ByteArray := Lib.splitB ⟨#[c]⟩ 0 (Lib.countB s ⟨#[c]⟩) s
def strRow (s : ByteArray) : List D := [.str s]
theorem genSplit_DCalls (L : Lays.n221 P ρ) (hi9 : (P.info? (ρ.t 9)).map (fun i => (i.zero, i.size, i.bytes)) = some (some (.string ByteArray.empty), 1, 16)) {s : ByteArray} {c : UInt8} (hs : s.size < 4294967281) :
   DCalls P (ρ.f 221) [sA s, sA ⟨#[c]⟩, iA 0, iA (-1)] σ fun r σ' => ∃ id, σ id = .free ∧ r = .a (.one (.osl id 0 (pieces c s).length)) ∧ σ' = σ.set id (.live (ρ.t 9) ((pieces c s).map strRow)) := by
 refine ⟨by unfold callOk; rw [L.f221]; rfl, fun k β W vs hS hsz hv => ?_⟩
 have hvs : vs = #[.string s, .string ⟨#[c]⟩, .int .i64 0, .int .i64 (-1)] := by
   have hsz : vs.size = 4 := hsz
   obtain ⟨l⟩ := vs
   match l, hsz with
   | [a, b, d, e], _ =>
     have h0 : V k β W a (.str s) := hv 0 a _ rfl rfl
     have h1 : V k β W b (.str ⟨#[c]⟩) := hv 1 b _ rfl rfl
     have h2 : V k β W d (.int .i64 0) := hv 2 d _ rfl rfl
     have h3 : V k β W e (.int .i64 (-1)) := hv 3 e _ rfl rfl
     rw [V.inv_str h0, V.inv_str h1, V.inv_int h2, V.inv_int h3]
 subst hvs
 have h1 : 1 ≤ (⟨#[c]⟩ : ByteArray).size := Nat.le_refl _
 have hle := Lib.countB_le ⟨#[c]⟩ h1 s.size s (Nat.le_refl _)
 have hlen : (pieces c s).length = Lib.countB s ⟨#[c]⟩ + 1 := Lib.splitB_all ⟨#[c]⟩ h1 0 _ s rfl
 have hc := Any.strings_genSplit_core L hi9 s ⟨#[c]⟩ 0 (-1) (Lib.countB s ⟨#[c]⟩ + 1) W hs h1 (Nat.zero_le _)
   (fun x cc _ => (Any.strings_Index_one { L with } x c _).mono fun e w' ⟨he, hw⟩ => ⟨by
     rw [he, ← Lib.index_one], hw⟩)
   ((Any.strings_Count_one { L with } s c W).mono fun e w' ⟨he, hw⟩ => ⟨by
     rw [he]
     show _ = Ending.returned (Value.int .i64 ((Lib.count s.data.toList [c] : Nat) : Int))
     rw [Lib.count_one]
     rfl, hw⟩) (by decide) (by decide) (by rw [if_pos (by decide)]; omega)
 rw [Nat.add_sub_cancel] at hc
 refine hc.mono ?_
 rintro e W' ⟨rfl, rfl⟩
 obtain ⟨id, hid⟩ := hS.someFree
 have ht9 : P.cellsOf (ρ.t 9) = 1 := by
   cases hi : P.info? (ρ.t 9) with
   | none => rw [hi] at hi9; cases hi9
   | some i =>
     rw [hi] at hi9
     simp only [Option.map_some, Option.some.injEq, Prod.mk.injEq] at hi9
     simp [Program.cellsOf, hi, hi9.2.1]
 have e2 : Lib.cellsOf (pieces c s) (Lib.countB s ⟨#[c]⟩ + 1) = ((pieces c s).map Value.string).toArray := by rw [← hlen]; exact Lib.cellsOf_full _
 have e3 : Lib.splitB ⟨#[c]⟩ 0 (Lib.countB s ⟨#[c]⟩) s = pieces c s := rfl
 rw [e3, e2, hlen]
 have hasz : ((pieces c s).map Value.string).toArray.size = Lib.countB s ⟨#[c]⟩ + 1 := by simp [hlen]
 obtain ⟨hS2, hG⟩ := hS.newRows hid (arr := ((pieces c s).map Value.string).toArray) (t := ρ.t 9) (rows := (pieces c s).map strRow)
   (fun r row hr => by
     rw [List.getElem?_map] at hr
     cases hx : (pieces c s)[r]? with
     | none => rw [hx] at hr; cases hr
     | some x => rw [hx] at hr; cases hr; rw [ht9]; rfl)
   (by rw [ht9]; simp) (fun v hv => by
     obtain ⟨x, _, rfl⟩ := List.mem_map.1 (List.mem_toArray.1 hv)
     rfl)
   (fun r row j d hr hj => by
     rw [List.getElem?_map] at hr
     cases hx : (pieces c s)[r]? with
     | none => rw [hx] at hr; cases hr
     | some x =>
       rw [hx] at hr; cases hr
       match j, hj with
       | 0, hj =>
         cases hj
         refine ⟨.string x, ?_, .str x⟩
         rw [ht9]
         simp [hx])
 refine ⟨_, _, _, _, _, rfl, ⟨id, hid, rfl, rfl⟩, V.osl id 0 _ _ _ ⟨W.heap.size, P.cellsOf (ρ.t 9), ((pieces c s).map Value.string).toArray.size⟩ (by simp) (fun _ => by simp) (Nat.le_refl _) (by rw [ht9]; simp [hlen]) (by omega), hS2, hG, ?_⟩
 exact (Grow.push W _).frm β σ
end
end Go.Fw
namespace Go.Proofs.YtfdffboelecgoaaGreatDoor
open Go.Fw
section
theorem mixed : Go.Proofs.Tryz.prog.follows .mixedOrders = true := Go.Proofs.Tryz.checked.mixed
abbrev n_law06_ConfChecks : FuncId := 3
abbrev n_law06_lives : FuncId := 10
abbrev n_ref06_Text : FuncId := 11
abbrev n_conf_Check : FuncId := 12
abbrev n_ref06_Check : FuncId := 13
abbrev n_conf_Text : FuncId := 14
abbrev n_conf_Read : FuncId := 15
abbrev n_law06_same : FuncId := 16
abbrev n_ref01_SameInts : FuncId := 19
abbrev n_conf_Locks : FuncId := 20
abbrev n_conf_Approach : FuncId := 21
abbrev n_ref06_Approach : FuncId := 22
abbrev n_conf_Conflict : FuncId := 23
abbrev n_ref06_SameNeeds : FuncId := 26
abbrev n_ref06_Flank : FuncId := 28
abbrev n_ref06_Overlap : FuncId := 30
abbrev n_topo_Next : FuncId := 32
abbrev n_topo_Pos : FuncId := 33
abbrev n_law06_small : FuncId := 35
abbrev n_ref06_words : FuncId := 36
abbrev n_topo_Check : FuncId := 37
abbrev n_conf_plan_signals : FuncId := 38
abbrev n_conf_plan_crossings : FuncId := 39
abbrev n_conf_plan_route : FuncId := 40
abbrev n_conf_between : FuncId := 41
abbrev n_ref05_Check : FuncId := 42
abbrev n_ref06_signals : FuncId := 43
abbrev n_ref06_crossings : FuncId := 44
abbrev n_ref06_path : FuncId := 45
abbrev n_ref06_sameInts : FuncId := 46
abbrev n_conf_printer_line : FuncId := 47
abbrev n_conf_printer_route : FuncId := 48
abbrev n_strings_Builder_String : FuncId := 49
abbrev n_strings_CutSuffix : FuncId := 50
abbrev n_strings_SplitSeq : FuncId := 51
abbrev n_strings_Split : FuncId := 52
abbrev n_conf_words_line : FuncId := 53
abbrev n_slices_Clone_int : FuncId := 57
abbrev n_slices_Sort_int : FuncId := 58
abbrev n_slices_Compact_int : FuncId := 59
abbrev n_conf_plan_approach : FuncId := 60
abbrev n_slices_ContainsFunc_int : FuncId := 61
abbrev n_conf_Conflict_1 : FuncId := 62
abbrev n_slices_Contains_int : FuncId := 63
abbrev n_ref06_in : FuncId := 64
abbrev n_ref06_Sections : FuncId := 65
abbrev n_conf_plan_flank : FuncId := 66
abbrev n_ref06_kind : FuncId := 67
abbrev n_ref05_Ends : FuncId := 68
abbrev n_ref05_Next : FuncId := 69
abbrev n_conf_plan_overlap : FuncId := 70
abbrev n_topo_ways : FuncId := 71
abbrev n_topo_way_other : FuncId := 72
abbrev n_topo_between : FuncId := 73
abbrev n_topo_Ends : FuncId := 74
abbrev n_strconv_Itoa : FuncId := 76
abbrev n_conf_plan_section : FuncId := 77
abbrev n_conf_plan_path : FuncId := 78
abbrev n_slices_Equal_Need : FuncId := 79
abbrev n_slices_Equal_int : FuncId := 80
abbrev n_ref05_count : FuncId := 81
abbrev n_ref06_at : FuncId := 82
abbrev n_ref05_Pos : FuncId := 83
abbrev n_conf_printer_say : FuncId := 84
abbrev n_strings_Builder_WriteByte : FuncId := 85
abbrev n_internal_stringslite_CutSuffix : FuncId := 86
abbrev n_strings_splitSeq : FuncId := 87
abbrev n_strings_genSplit : FuncId := 88
abbrev n_conf_words_next : FuncId := 89
abbrev n_conf_words_num : FuncId := 90
abbrev n_conf_words_route : FuncId := 91
abbrev n_strconv_Atoi : FuncId := 92
abbrev n_conf_plan_signal : FuncId := 97
abbrev n_slices_IndexFunc_int : FuncId := 98
abbrev n_slices_Index_int : FuncId := 99
abbrev n_conf_has : FuncId := 100
abbrev n_slices_ContainsFunc_Need : FuncId := 101
abbrev n_conf_plan_flank_1 : FuncId := 102
abbrev n_ref05_ways : FuncId := 103
abbrev n_slices_Contains_Signal : FuncId := 105
abbrev n_strings_Builder_WriteString : FuncId := 106
abbrev n_strings_Builder_copyCheck : FuncId := 107
abbrev n_internal_stringslite_HasSuffix : FuncId := 108
abbrev n_strings_splitSeq_1 : FuncId := 109
abbrev n_conf_words_each : FuncId := 114
abbrev n_conf_words_route_1 : FuncId := 115
abbrev n_conf_words_route_2 : FuncId := 116
abbrev n_conf_words_route_3 : FuncId := 117
abbrev n_slices_ContainsFunc_Step : FuncId := 131
abbrev n_conf_has_1 : FuncId := 132
abbrev n_slices_IndexFunc_Need : FuncId := 133
abbrev n_slices_Index_Signal : FuncId := 135
abbrev n_slices_IndexFunc_Step : FuncId := 152
abbrev t_int : TypeId := 3
abbrev t_bool : TypeId := 4
abbrev t_uint8 : TypeId := 5
abbrev t_string : TypeId := 9
abbrev t_sl_int : TypeId := 25
abbrev t_Config : TypeId := 30
abbrev t_Errno : TypeId := 33
abbrev t_Route : TypeId := 44
abbrev t_Need : TypeId := 47
abbrev t_Joint : TypeId := 50
abbrev t_Step : TypeId := 55
abbrev t_Section : TypeId := 57
abbrev t_Signal : TypeId := 65
abbrev t_conf_printer : TypeId := 85
abbrev t_p_conf_words : TypeId := 94
abbrev t_conf_words : TypeId := 98
abbrev t_topo_way : TypeId := 121
abbrev t_topo_spot : TypeId := 127
abbrev t_error : TypeId := 136
abbrev t_ref05_way : TypeId := 157
abbrev t_uint64 : TypeId := 177
abbrev t__20_uint64 : TypeId := 218
theorem c_int : Go.Proofs.Tryz.prog.cellsOf t_int = 1 := by kernel_rfl
theorem c_uint8 : Go.Proofs.Tryz.prog.cellsOf t_uint8 = 1 := by kernel_rfl
theorem c_string : Go.Proofs.Tryz.prog.cellsOf t_string = 1 := by kernel_rfl
theorem c_Config : Go.Proofs.Tryz.prog.cellsOf t_Config = 9 := by kernel_rfl
theorem c_Route : Go.Proofs.Tryz.prog.cellsOf t_Route = 6 := by kernel_rfl
theorem c_Need : Go.Proofs.Tryz.prog.cellsOf t_Need = 2 := by kernel_rfl
theorem c_Joint : Go.Proofs.Tryz.prog.cellsOf t_Joint = 4 := by kernel_rfl
theorem c_Step : Go.Proofs.Tryz.prog.cellsOf t_Step = 3 := by kernel_rfl
theorem c_Section : Go.Proofs.Tryz.prog.cellsOf t_Section = 3 := by kernel_rfl
theorem c_Signal : Go.Proofs.Tryz.prog.cellsOf t_Signal = 2 := by kernel_rfl
theorem c_topo_way : Go.Proofs.Tryz.prog.cellsOf t_topo_way = 3 := by kernel_rfl
theorem c_topo_spot : Go.Proofs.Tryz.prog.cellsOf t_topo_spot = 2 := by kernel_rfl
theorem c_ref05_way : Go.Proofs.Tryz.prog.cellsOf t_ref05_way = 3 := by kernel_rfl
end
end Go.Proofs.YtfdffboelecgoaaGreatDoor
namespace Go.Proofs.YtfdffboelecgoaaGreatDoor
open Go.Fw Go.Proofs Go.RowKit
section
theorem var_heap {P : Program} {W : World} {n : String} {g : Nat} {cs : Array Value} (hg : P.globalNamed n = some g) (h : W.var? P n = some cs) : ∃ t fz, W.heap[g]? = some (.cells cs t fz) := by
 unfold World.var? at h
 rw [hg] at h
 simp only [Option.bind_some, Option.bind_eq_bind] at h
 split at h
 · rename_i c t fz hh
   injection h with h
   subst h
   exact ⟨t, fz, hh⟩
 · cases h
theorem iface_of {P : Program} {w : World} {fuel : Nat} {t : TypeId} {cs : List Value} {nm : String} {d : DataW Unit} {p : List MemPlace} (h : DataW.trod (fun _ => ()) P w 0 (fun _ => true) false fuel t cs = some (.iface nm d, p)) (ht : ∃ x, P.underlying t = some (.interface x)) : ∃ u v, cs = [.iface u v] := by
 obtain ⟨x, ht⟩ := ht
 cases fuel with
 | zero => simp [DataW.trod] at h
 | succ fuel =>
   match cs with
   | [.iface u v] => exact ⟨u, v, rfl⟩
   | [.nilIface] => simp [DataW.trod, ht] at h
   | [] => simp [DataW.trod, ht] at h
   | _ :: _ :: _ => simp [DataW.trod, ht] at h
   | [.int _ _] => simp [DataW.trod, ht] at h
   | [.bool _] => simp [DataW.trod, ht] at h
   | [.string _] => simp [DataW.trod, ht] at h
   | [v] => cases v <;> first | exact ⟨_, _, rfl⟩ | simp [DataW.trod, ht] at h
def isIface : Option TypeDesc → Bool
 | some (.interface _) => true
 | _ => false
theorem iface_ex {o : Option TypeDesc} (h : isIface o = true) : ∃ x, o = some (.interface x) := by
 unfold isIface at h
 split at h
 · exact ⟨_, rfl⟩
 · cases h
theorem errT : ∃ x, Tryz.prog.underlying t_error = some (.interface x) := iface_ex (by kernel_rfl)
theorem gl_laid {W : World} (h : laidMet Tryz.prog Rows.confChecksRow.laid W) : Gl Tryz.prog (allK W) W := by
 have lt : ∀ {g : Nat} {o : Obj}, W.heap[g]? = some o → allK W g := fun {g o} hg => (Array.getElem?_eq_some_iff.1 hg).1
 have err : ∀ (n : String) (d : DataW Unit), Lib.VarReads Tryz.prog W n d → (∃ nm d', d = .iface nm d') → (Tryz.prog.globalNamed n).bind (fun g => (Tryz.prog.globals[g]?).map (·.type)) = some t_error →
     ∀ g, Tryz.prog.globalNamed n = some g → allK W g ∧ ∃ arr t fz, W.heap[g]? = some (.cells arr t fz) ∧ ∃ t p, arr = #[.iface t p] := by
   rintro n _ ⟨g', t, cs, fuel, p, h1, h2, h3, h4⟩ ⟨nm, d', rfl⟩ hty g hg
   obtain rfl : g' = g := by rw [hg] at h1; injection h1 with h1; exact h1.symm
   obtain ⟨t', fz, hh⟩ := var_heap h1 h3
   rw [h1] at hty
   have hty : (Tryz.prog.globals[g']?).map (·.type) = some t_error := hty
   rw [h2] at hty
   obtain rfl : t = t_error := by injection hty
   obtain ⟨u, v, hcs⟩ := iface_of h4 errT
   refine ⟨lt hh, cs, t', fz, hh, u, v, ?_⟩
   have := congrArg List.toArray hcs
   simpa using this
 intro x hx g hg
 simp only [glVars, List.mem_cons, List.not_mem_nil, or_false] at hx
 rcases hx with rfl | rfl | rfl
 · obtain ⟨g', t, cs, fuel, p, h1, h2, h3, h4⟩ := Lib.laidMet.reads h (n := "internal/strconv.uint64pow10") (d := Rows.laid_internal_strconv_uint64pow10) (.tail _ (.tail _ (.head _)))
   obtain rfl : g' = g := by rw [hg] at h1; injection h1 with h1; exact h1.symm
   obtain ⟨t', fz, hh⟩ := var_heap h1 h3
   refine ⟨lt hh, cs, t', fz, hh, ?_⟩
   have e1 : (Tryz.prog.globalNamed "internal/strconv.uint64pow10").bind (fun g => (Tryz.prog.globals[g]?).map (·.type)) = some t__20_uint64 := by kernel_rfl
   rw [h1] at e1
   have e1 : (Tryz.prog.globals[g']?).map (·.type) = some t__20_uint64 := e1
   rw [h2] at e1
   obtain rfl : t = t__20_uint64 := by injection e1
   have := Lib.cells_of_tab (e := t_uint64) (n := 20) (k := .u64) (zs := Lib.pow10Tab) (by kernel_rfl) (by kernel_rfl) (by kernel_rfl) (by kernel_rfl) h4
   have := congrArg List.toArray this
   simpa using this
 · exact err _ _ (Lib.laidMet.reads h (d := Rows.laid_strconv_ErrSyntax) (.tail _ (.tail _ (.tail _ (.tail _ (.tail _ (.head _))))))) ⟨_, _, rfl⟩ (by kernel_rfl) g hg
 · exact err _ _ (Lib.laidMet.reads h (d := Rows.laid_strconv_ErrRange) (.tail _ (.tail _ (.tail _ (.tail _ (.head _)))))) ⟨_, _, rfl⟩ (by kernel_rfl) g hg
end
end Go.Proofs.YtfdffboelecgoaaGreatDoor
namespace Go.Fw
section
structure Sec where
 Kind : Int
 OC : Int
 Line : Int
structure Jt where
 A : Int
 AEnd : Int
 B : Int
 BEnd : Int
structure Sg where
 Sec : Int
 End_ : Int
 deriving DecidableEq
structure St where
 Sec : Int
 In : Int
 Out : Int
structure Nd where
 Sec : Int
 Pos : Int
 deriving DecidableEq
def Sec.enc (s : Sec) : List D := [iD s.Kind, iD s.OC, iD s.Line]
def Jt.enc (s : Jt) : List D := [iD s.A, iD s.AEnd, iD s.B, iD s.BEnd]
def Sg.enc (s : Sg) : List D := [iD s.Sec, iD s.End_]
def St.enc (s : St) : List D := [iD s.Sec, iD s.In, iD s.Out]
def Nd.enc (s : Nd) : List D := [iD s.Sec, iD s.Pos]
def encI (n : Int) : List D := [iD n]
def wayL (k : Int) : List (Int × Int × Int) :=
 if k = 0 then [(0, 1, 0)] else if k = 1 then [(0, 1, 1), (0, 2, 2)] else if k = 2 then [(0, 1, 0), (2, 3, 0)] else []
def encW (w : Int × Int × Int) : List D := [iD w.1, iD w.2.1, iD w.2.2]
def nends (k : Int) : Int := if k = 0 then 2 else if k = 1 then 3 else if k = 2 then 4 else 0
def endStep (n : Int) (w : Int × Int × Int) : Int :=
 ite (w64 (w.2.1 + 1) > ite (w64 (w.1 + 1) > n) (w64 (w.1 + 1)) n) (w64 (w.2.1 + 1)) (ite (w64 (w.1 + 1) > n) (w64 (w.1 + 1)) n)
theorem ends_eq (k : Int) : (wayL k).foldl endStep 0 = nends k := by
 unfold wayL nends
 split
 · decide
 · split
   · decide
   · split
     · decide
     · rfl
def wpos : List (Int × Int × Int) → Int → Int → Option Int
 | [], _, _ => none
 | w :: r, i, o => if (w.1 = i ∧ w.2.1 = o) ∨ (w.2.1 = i ∧ w.1 = o) then some w.2.2 else wpos r i o
def nxt : List Jt → Int → Int → Option (Int × Int)
 | [], _, _ => none
 | j :: r, s, e => if j.A = s ∧ j.AEnd = e then some (j.B, j.BEnd) else if j.B = s ∧ j.BEnd = e then some (j.A, j.AEnd) else nxt r s e
def opt2 : Option (Int × Int) → RV
 | none => .tup [iA 0, iA 0, bA false]
 | some p => .tup [iA p.1, iA p.2, bA true]
def opt1 : Option Int → RV
 | none => .tup [iA 0, bA false]
 | some p => .tup [iA p, bA true]
def cnt : List Jt → Int → Int → Int
 | [], _, _ => 0
 | j :: r, s, e => (if j.A = s ∧ j.AEnd = e then 1 else 0) + (if j.B = s ∧ j.BEnd = e then 1 else 0) + cnt r s e
def idxOf : List Int → Int → Nat → Int
 | [], _, _ => -1
 | x :: r, v, j => if v = x then j else idxOf r v (j + 1)
/-! ### is the plan right? -/
def kindAt (secs : List Sec) (i : Int) : Int := (secs[i.toNat]?.map Sec.Kind).getD (-1)
def spotOk (secs : List Sec) (p : Int × Int) : Bool := decide (0 ≤ p.1 ∧ p.1 ≤ (secs.length : Int) - 1) && decide (0 ≤ p.2 ∧ p.2 ≤ nends (kindAt secs p.1) - 1)
def prun (secs : List Sec) : List (Int × Int) → List (Int × Int) → Option (List (Int × Int))
 | [], tk => some tk
 | p :: r, tk => if spotOk secs p = true ∧ p ∉ tk then prun secs r (p :: tk) else none
def Jt.spots (j : Jt) : List (Int × Int) := [(j.A, j.AEnd), (j.B, j.BEnd)]
def jrun (secs : List Sec) : List Jt → List (Int × Int) → Option (List (Int × Int))
 | [], tk => some tk
 | j :: r, tk => match prun secs j.spots tk with
   | none => none
   | some tk' => if j.A = j.B then none else jrun secs r tk'
def srun (tk : List (Int × Int)) : List Sec → Int → List Int → Bool
 | [], _, _ => true
 | s :: r, i, ls => if nends s.Kind = 0 ∨ ¬ (0 ≤ s.OC ∧ s.OC ≤ 3) ∨ ¬ (0 ≤ s.Line ∧ s.Line ≤ 3) ∨ s.Line ≠ 0 ∧ (s.Kind ≠ 0 ∨ (i, 1) ∈ tk ∨ s.Line ∈ ls) then false else srun tk r (i + 1) (s.Line :: ls)
def topoOk (secs : List Sec) (js : List Jt) : Bool :=
 decide (1 ≤ secs.length ∧ secs.length ≤ 16 ∧ js.length ≤ 24) && match jrun secs js [] with
   | none => false
   | some tk => srun tk secs 0 []
theorem nends_le (k : Int) : 0 ≤ nends k ∧ nends k ≤ 4 := by unfold nends; split <;> (try split) <;> (try split) <;> omega
end
section
def allSpots (js : List Jt) : List (Int × Int) := js.flatMap Jt.spots
theorem prun_iff (secs : List Sec) : ∀ (l tk tk' : List (Int × Int)), prun secs l tk = some tk' ↔ (∀ p ∈ l, spotOk secs p = true) ∧ l.Nodup ∧ (∀ p ∈ l, p ∉ tk) ∧ tk' = l.reverse ++ tk
 | [], tk, tk' => by simp [prun]; exact eq_comm
 | p :: r, tk, tk' => by
   rw [prun]
   by_cases h : spotOk secs p = true ∧ p ∉ tk
   · rw [if_pos h, prun_iff secs r (p :: tk) tk']
     simp only [List.mem_cons, forall_eq_or_imp, List.nodup_cons, List.reverse_cons, List.append_assoc, List.singleton_append]
     constructor
     · rintro ⟨h1, h2, h3, h4⟩
       exact ⟨⟨h.1, h1⟩, ⟨fun hp => (h3 p hp) (.inl rfl), h2⟩, ⟨h.2, fun q hq hqt => h3 q hq (.inr hqt)⟩, h4⟩
     · rintro ⟨⟨_, h1⟩, ⟨h2, h3⟩, ⟨_, h4⟩, h5⟩
       exact ⟨h1, h3, fun q hq hqt => hqt.elim (fun e => h2 (e ▸ hq)) (h4 q hq), h5⟩
   · rw [if_neg h]
     simp only [List.mem_cons, forall_eq_or_imp]
     constructor
     · intro h'; cases h'
     · rintro ⟨⟨h1, _⟩, _, ⟨h2, _⟩, _⟩; exact absurd ⟨h1, h2⟩ h
theorem jrun_iff (secs : List Sec) : ∀ (js : List Jt) (tk tk' : List (Int × Int)), jrun secs js tk = some tk' ↔
   (∀ p ∈ allSpots js, spotOk secs p = true) ∧ (allSpots js).Nodup ∧ (∀ p ∈ allSpots js, p ∉ tk) ∧ (∀ j ∈ js, j.A ≠ j.B) ∧ tk' = (allSpots js).reverse ++ tk
 | [], tk, tk' => by simp [jrun, allSpots]; exact eq_comm
 | j :: r, tk, tk' => by
   rw [jrun]
   have hall : allSpots (j :: r) = j.spots ++ allSpots r := by simp [allSpots]
   rw [hall]
   cases hp : prun secs j.spots tk with
   | none =>
     have hno : ¬ ∃ t, prun secs j.spots tk = some t := by rw [hp]; rintro ⟨t, h⟩; cases h
     constructor
     · intro h; cases h
     · rintro ⟨h1, h2, h3, _, _⟩
       exact absurd ⟨_, (prun_iff secs j.spots tk _).2 ⟨fun p hp => h1 p (List.mem_append_left _ hp), (List.nodup_append.1 h2).1, fun p hp => h3 p (List.mem_append_left _ hp), rfl⟩⟩ hno
   | some t =>
     obtain ⟨a1, a2, a3, a4⟩ := (prun_iff secs j.spots tk t).1 hp
     by_cases hAB : j.A = j.B
     · simp only [hAB, if_true]
       constructor
       · intro h; cases h
       · rintro ⟨_, _, _, h4, _⟩; exact absurd hAB (h4 j (by simp))
     · simp only [hAB, if_false]
       rw [jrun_iff secs r t tk', a4]
       constructor
       · rintro ⟨h1, h2, h3, h4, h5⟩
         refine ⟨fun p hp => (List.mem_append.1 hp).elim (a1 p) (h1 p), List.nodup_append.2 ⟨a2, h2, fun a ha b hb e => ?_⟩, fun p hp => (List.mem_append.1 hp).elim (a3 p) (fun hp ht => h3 p hp (by simp [ht])), fun x hx => ?_, by rw [h5]; simp⟩
         · subst e; exact h3 a hb (by simp [ha])
         · rcases List.mem_cons.1 hx with rfl | hx
           · exact hAB
           · exact h4 x hx
       · rintro ⟨h1, h2, h3, h4, h5⟩
         obtain ⟨b1, b2, b3⟩ := List.nodup_append.1 h2
         refine ⟨fun p hp => h1 p (List.mem_append_right _ hp), b2, fun p hp ht => ?_, fun x hx => h4 x (List.mem_cons_of_mem _ hx), by rw [h5]; simp⟩
         rcases List.mem_append.1 ht with ht | ht
         · exact b3 p (by simpa using ht) p hp rfl
         · exact h3 p (List.mem_append_right _ hp) ht
theorem cnt_count (s e : Int) : ∀ js : List Jt, cnt js s e = ((allSpots js).count (s, e) : Int)
 | [] => by simp [cnt, allSpots]
 | j :: r => by
   have hall : allSpots (j :: r) = (j.A, j.AEnd) :: (j.B, j.BEnd) :: allSpots r := by simp [allSpots, Jt.spots]
   rw [hall, cnt, cnt_count s e r, List.count_cons, List.count_cons]
   simp only [beq_iff_eq, Prod.mk.injEq]
   split <;> split <;> omega
theorem srun_iff (tk : List (Int × Int)) : ∀ (secs : List Sec) (i : Int) (ls : List Int), srun tk secs i ls = true ↔
   ∀ (k : Nat) s, secs[k]? = some s → nends s.Kind ≠ 0 ∧ (0 ≤ s.OC ∧ s.OC ≤ 3) ∧ (0 ≤ s.Line ∧ s.Line ≤ 3) ∧ (s.Line ≠ 0 → s.Kind = 0 ∧ (i + k, 1) ∉ tk ∧ s.Line ∉ ls ∧ ∀ k' s', k' < k → secs[k']? = some s' → s'.Line ≠ s.Line)
 | [], i, ls => by simp [srun]
 | x :: r, i, ls => by
   rw [srun]
   by_cases hc : nends x.Kind = 0 ∨ ¬ (0 ≤ x.OC ∧ x.OC ≤ 3) ∨ ¬ (0 ≤ x.Line ∧ x.Line ≤ 3) ∨ x.Line ≠ 0 ∧ (x.Kind ≠ 0 ∨ (i, 1) ∈ tk ∨ x.Line ∈ ls)
   · rw [if_pos hc]
     constructor
     · intro h; cases h
     · intro h
       obtain ⟨h1, h2, h3, h4⟩ := h 0 x rfl
       rcases hc with hc | hc | hc | ⟨hc, hd⟩
       · exact absurd hc h1
       · exact absurd h2 hc
       · exact absurd h3 hc
       · obtain ⟨g1, g2, g3, _⟩ := h4 hc
         rcases hd with hd | hd | hd
         · exact absurd g1 hd
         · exact absurd hd (by simpa using g2)
         · exact absurd hd g3
   · rw [if_neg hc, srun_iff tk r (i + 1) (x.Line :: ls)]
     have hx : nends x.Kind ≠ 0 ∧ (0 ≤ x.OC ∧ x.OC ≤ 3) ∧ (0 ≤ x.Line ∧ x.Line ≤ 3) ∧ (x.Line ≠ 0 → x.Kind = 0 ∧ (i, 1) ∉ tk ∧ x.Line ∉ ls) := by
       refine ⟨fun h => hc (.inl h), Classical.not_not.1 fun h => hc (.inr (.inl h)), Classical.not_not.1 fun h => hc (.inr (.inr (.inl h))), fun hl => ⟨Classical.not_not.1 fun h => hc (.inr (.inr (.inr ⟨hl, .inl h⟩))), fun h => hc (.inr (.inr (.inr ⟨hl, .inr (.inl h)⟩))), fun h => hc (.inr (.inr (.inr ⟨hl, .inr (.inr h)⟩)))⟩⟩
     constructor
     · intro h k s hk
       cases k with
       | zero =>
         simp at hk; subst hk
         exact ⟨hx.1, hx.2.1, hx.2.2.1, fun hl => by
           obtain ⟨a, b, c⟩ := hx.2.2.2 hl
           exact ⟨a, by simpa using b, c, fun k' s' hk' => by omega⟩⟩
       | succ k =>
         obtain ⟨h1, h2, h3, h4⟩ := h k s (by simpa using hk)
         refine ⟨h1, h2, h3, fun hl => ?_⟩
         obtain ⟨a, b, c, d⟩ := h4 hl
         refine ⟨a, by rw [show i + ((k + 1 : Nat) : Int) = i + 1 + k by omega]; exact b, fun hm => c (by simp [hm]), fun k' s' hk' hs' => ?_⟩
         cases k' with
         | zero => simp at hs'; subst hs'; exact fun e => c (by simp [e])
         | succ k' => exact d k' s' (by omega) (by simpa using hs')
     · intro h k s hk
       obtain ⟨h1, h2, h3, h4⟩ := h (k + 1) s (by simpa using hk)
       refine ⟨h1, h2, h3, fun hl => ?_⟩
       obtain ⟨a, b, c, d⟩ := h4 hl
       refine ⟨a, by rw [show i + 1 + (k : Int) = i + ((k + 1 : Nat) : Int) by omega]; exact b, fun hm => ?_, fun k' s' hk' hs' => d (k' + 1) s' (by omega) (by simpa using hs')⟩
       rcases List.mem_cons.1 hm with hm | hm
       · exact d 0 x (by omega) rfl hm.symm
       · exact c hm
def secOk (secs : List Sec) (js : List Jt) (k : Nat) (s : Sec) : Prop :=
 nends s.Kind ≠ 0 ∧ (0 ≤ s.OC ∧ s.OC ≤ 3) ∧ (0 ≤ s.Line ∧ s.Line ≤ 3) ∧ (s.Line ≠ 0 → s.Kind = 0 ∧ cnt js k 1 ≤ 0 ∧ ∀ k' s', k' < k → secs[k']? = some s' → s'.Line ≠ s.Line)
def jtOk (secs : List Sec) (js : List Jt) (j : Jt) : Prop :=
 (0 ≤ j.A ∧ j.A < secs.length) ∧ (0 ≤ j.B ∧ j.B < secs.length) ∧ j.A ≠ j.B ∧ (0 ≤ j.AEnd ∧ j.AEnd < nends (kindAt secs j.A)) ∧ (0 ≤ j.BEnd ∧ j.BEnd < nends (kindAt secs j.B)) ∧ cnt js j.A j.AEnd ≤ 1 ∧ cnt js j.B j.BEnd ≤ 1
theorem spotOk_iff (secs : List Sec) (p : Int × Int) : spotOk secs p = true ↔ (0 ≤ p.1 ∧ p.1 < secs.length) ∧ (0 ≤ p.2 ∧ p.2 < nends (kindAt secs p.1)) := by
 simp only [spotOk, Bool.and_eq_true, decide_eq_true_eq]; omega
theorem mem_spots {js : List Jt} {p : Int × Int} : p ∈ allSpots js ↔ ∃ j ∈ js, p = (j.A, j.AEnd) ∨ p = (j.B, j.BEnd) := by
 simp [allSpots, Jt.spots]
theorem topoOk_iff (secs : List Sec) (js : List Jt) : topoOk secs js = true ↔
   (1 ≤ secs.length ∧ secs.length ≤ 16 ∧ js.length ≤ 24) ∧ (∀ (k : Nat) s, secs[k]? = some s → secOk secs js k s) ∧ ∀ j ∈ js, jtOk secs js j := by
 simp only [topoOk, Bool.and_eq_true, decide_eq_true_eq]
 refine and_congr_right fun _ => ?_
 have hnd : (allSpots js).Nodup ↔ ∀ j ∈ js, cnt js j.A j.AEnd ≤ 1 ∧ cnt js j.B j.BEnd ≤ 1 := by
   rw [List.nodup_iff_count]
   constructor
   · intro h j _
     rw [cnt_count, cnt_count]
     have h1 := h (j.A, j.AEnd)
     have h2 := h (j.B, j.BEnd)
     omega
   · intro h p
     by_cases hp : p ∈ allSpots js
     · obtain ⟨j, hj, rfl | rfl⟩ := mem_spots.1 hp
       · have := (h j hj).1; rw [cnt_count] at this; omega
       · have := (h j hj).2; rw [cnt_count] at this; omega
     · rw [List.count_eq_zero_of_not_mem hp]; omega
 have hsp : (∀ p ∈ allSpots js, spotOk secs p = true) ↔ ∀ j ∈ js, ((0 ≤ j.A ∧ j.A < secs.length) ∧ (0 ≤ j.AEnd ∧ j.AEnd < nends (kindAt secs j.A))) ∧ ((0 ≤ j.B ∧ j.B < secs.length) ∧ (0 ≤ j.BEnd ∧ j.BEnd < nends (kindAt secs j.B))) := by
   constructor
   · intro h j hj
     exact ⟨(spotOk_iff _ _).1 (h (j.A, j.AEnd) (mem_spots.2 ⟨j, hj, .inl rfl⟩)), (spotOk_iff _ _).1 (h (j.B, j.BEnd) (mem_spots.2 ⟨j, hj, .inr rfl⟩))⟩
   · intro h p hp
     obtain ⟨j, hj, rfl | rfl⟩ := mem_spots.1 hp
     · exact (spotOk_iff _ _).2 (h j hj).1
     · exact (spotOk_iff _ _).2 (h j hj).2
 have hcz : ∀ k : Nat, cnt js k 1 ≤ 0 ↔ ((k : Int), (1 : Int)) ∉ (allSpots js).reverse ++ [] := fun k => by
   rw [cnt_count, List.append_nil, List.mem_reverse, ← List.count_eq_zero]; omega
 constructor
 · intro h
   cases hj : jrun secs js [] with
   | none => rw [hj] at h; cases h
   | some tk =>
     rw [hj] at h
     obtain ⟨h1, h2, _, h4, rfl⟩ := (jrun_iff secs js [] tk).1 hj
     have h5 := (srun_iff _ secs 0 []).1 h
     refine ⟨fun k s hk => ?_, fun j hj => ?_⟩
     · obtain ⟨a, b, c, d⟩ := h5 k s hk
       refine ⟨a, b, c, fun hl => ?_⟩
       obtain ⟨d1, d2, _, d4⟩ := d hl
       exact ⟨d1, (hcz k).2 (by simpa using d2), d4⟩
     · obtain ⟨⟨a1, a2⟩, b1, b2⟩ := hsp.1 h1 j hj
       exact ⟨a1, b1, h4 j hj, a2, b2, hnd.1 h2 j hj⟩
 · rintro ⟨h1, h2⟩
   have hj : jrun secs js [] = some ((allSpots js).reverse ++ []) := (jrun_iff secs js [] _).2 ⟨hsp.2 fun j hj => by obtain ⟨a, b, c, d, e, f⟩ := h2 j hj; exact ⟨⟨a, d⟩, b, e⟩, hnd.2 fun j hj => (h2 j hj).2.2.2.2.2, by simp, fun j hj => (h2 j hj).2.2.1, rfl⟩
   rw [hj]
   refine (srun_iff _ secs 0 []).2 fun k s hk => ?_
   obtain ⟨a, b, c, d⟩ := h1 k s hk
   refine ⟨a, b, c, fun hl => ?_⟩
   obtain ⟨d1, d2, d3⟩ := d hl
   exact ⟨d1, by simpa using (hcz k).1 d2, by simp, d3⟩
end
section
structure Rt where
 Entry : Int
 Exit : Int
 Path : List St
 Flank : List Nd
 Overlap : List Int
 Shunt : Bool
structure Cf where
 Secs : List Sec
 Jts : List Jt
 Sigs : List Sg
 Xs : List Int
 Rts : List Rt
 Age : Int
 Brake : Int
 Hold : Int
 Budget : Int
def FnIs {α : Type} (P : Program) (σ : Store) (f : D) (arg : α → A) (l : List α) (p : α → Bool) : Prop :=
 ∃ f1 a b as0' bs, f = .fn f1 a b ∧ capAs a = some as0' ∧ capAs b = some bs ∧ ∀ x ∈ l, DCalls P f1 (as0' ++ [arg x] ++ bs) σ fun r s => r = .a (bA (p x)) ∧ s = σ
def fidx {α : Type} (p : α → Bool) : List α → Nat → Int
 | [], _ => -1
 | x :: r, j => if p x = true then j else fidx p r (j + 1)
theorem fidx_any {α : Type} (p : α → Bool) (l : List α) : decide (fidx p l 0 ≥ 0) = l.any p := by
 have key : ∀ (l : List α) (j : Nat), decide (fidx p l j ≥ 0) = l.any p := by
   intro l
   induction l with
   | nil => intro j; simp [fidx]
   | cons x r ih =>
     intro j
     rw [fidx, List.any_cons]
     by_cases hp : p x = true
     · rw [if_pos hp, hp]; simp
     · rw [if_neg hp, ih]; simp [hp]
 exact key l 0
def geti {α : Type} (l : List α) (i : Int) : Option α := if i < 0 then none else l[i.toNat]?
theorem geti_some {α : Type} {l : List α} {i : Int} {x : α} (h : geti l i = some x) : 0 ≤ i ∧ i < l.length ∧ l[i.toNat]? = some x := by
 unfold geti at h
 split at h
 · cases h
 · have := (List.getElem?_eq_some_iff.1 h).1
   exact ⟨by omega, by omega, h⟩
theorem geti_neg {α : Type} {l : List α} {i : Int} (h : i < 0) : geti l i = none := if_pos h
theorem geti_ge {α : Type} {l : List α} {i : Int} (h : (l.length : Int) ≤ i) : geti l i = none := by
 unfold geti; rw [if_neg (by omega), List.getElem?_eq_none_iff]; omega
def secRV : Option Sec → RV
 | none => .tup [.agg [iD 0, iD 0, iD 0], bA false]
 | some s => .tup [.agg s.enc, bA true]
def sgRV : Option Sg → RV
 | none => .tup [.agg [iD 0, iD 0], bA false]
 | some s => .tup [.agg s.enc, bA true]
def Cf.approach (c : Cf) (r : Rt) : Int := ((geti c.Sigs r.Entry).map Sg.Sec).getD (-1)
def Cf.Approach (c : Cf) (i : Int) : Int := ((geti c.Rts i).map c.approach).getD (-1)
def hasSec (path : List St) (s : Int) : Bool := path.any fun x => x.Sec == s
def RtAt (P : Program) (tS tN tI : TypeId) (σ : Store) (cs : List D) (r : Rt) : Prop :=
 ∃ d1 d2 d3, cs = [iD r.Entry, iD r.Exit, d1, d2, d3, .bool r.Shunt] ∧ At P σ tS d1 (r.Path.map St.enc) ∧ At P σ tN d2 (r.Flank.map Nd.enc) ∧ At P σ tI d3 (r.Overlap.map encI)
def RtsAt (P : Program) (tR tS tN tI : TypeId) (σ : Store) (d : D) (l : List Rt) : Prop :=
 ∃ rows, At P σ tR d rows ∧ rows.length = l.length ∧ ∀ (i : Nat) row r, rows[i]? = some row → l[i]? = some r → RtAt P tS tN tI σ row r
def flankStep (c : Cf) (approach : Int) (path : List St) (s : St) (out : List Nd) (e : Int) : List Nd :=
 if e = s.In ∨ e = s.Out then out else
 match nxt c.Jts s.Sec e with
 | none => out
 | some (q, f) => match geti c.Secs q with
   | none => out
   | some y => if y.Kind = 1 ∧ (1 ≤ f ∧ f ≤ 2) ∧ q ≠ approach ∧ hasSec path q = false ∧ (out.any fun n => n.Sec == q) = false then out ++ [⟨q, 3 - f⟩] else out
def flankEnds (c : Cf) (approach : Int) (path : List St) (s : St) : Nat → Int → List Nd → List Nd
 | 0, _, out => out
 | n + 1, e, out => flankEnds c approach path s n (e + 1) (flankStep c approach path s out e)
def flankRun (c : Cf) (approach : Int) (path : List St) : List St → List Nd → List Nd
 | [], out => out
 | s :: r, out => flankRun c approach path r (match geti c.Secs s.Sec with
   | none => out
   | some x => flankEnds c approach path s (nends x.Kind).toNat 0 out)
def Cf.flank (c : Cf) (approach : Int) (path : List St) : List Nd := flankRun c approach path path []
theorem flankStep_len (c : Cf) (a : Int) (p : List St) (s : St) (out : List Nd) (e : Int) : out.length ≤ (flankStep c a p s out e).length ∧ (flankStep c a p s out e).length ≤ out.length + 1 := by
 unfold flankStep
 split
 · omega
 · split
   · omega
   · split
     · omega
     · split <;> simp
theorem flankEnds_len (c : Cf) (a : Int) (p : List St) (s : St) : ∀ (n : Nat) (e : Int) (out : List Nd), out.length ≤ (flankEnds c a p s n e out).length ∧ (flankEnds c a p s n e out).length ≤ out.length + n
 | 0, e, out => by simp [flankEnds]
 | n + 1, e, out => by
   have h1 := flankStep_len c a p s out e
   have h2 := flankEnds_len c a p s n (e + 1) (flankStep c a p s out e)
   rw [flankEnds]; omega
theorem flankRun_len (c : Cf) (a : Int) (p : List St) : ∀ (l : List St) (out : List Nd), out.length ≤ (flankRun c a p l out).length ∧ (flankRun c a p l out).length ≤ out.length + 4 * l.length
 | [], out => by simp [flankRun]
 | s :: r, out => by
   rw [flankRun]
   cases hg : geti c.Secs s.Sec with
   | none => have := flankRun_len c a p r out; simp only [List.length_cons]; omega
   | some x =>
     have h1 := flankEnds_len c a p s (nends x.Kind).toNat 0 out
     have h2 := flankRun_len c a p r (flankEnds c a p s (nends x.Kind).toNat 0 out)
     have h3 := nends_le x.Kind
     simp only [List.length_cons]
     omega
def Cf.overlap (c : Cf) (r : Rt) : List Int :=
 if r.Shunt = true then [] else
 match geti c.Sigs r.Exit with
 | none => []
 | some x => match nxt c.Jts x.Sec x.End_ with
   | none => []
   | some (q, _) => match geti c.Secs q with
     | none => []
     | some y => if y.Line = 0 ∧ hasSec r.Path q = false ∧ q ≠ c.approach r then [q] else []
def sgrun (js : List Jt) : List Sg → List Sg → Bool
 | [], _ => true
 | x :: r, seen => if (nxt js x.Sec x.End_).isSome = true ∧ x ∉ seen then sgrun js r (x :: seen) else false
def xrun (secs : List Sec) : List Int → List Int → Bool
 | [], _ => true
 | x :: r, seen => match geti secs x with
   | none => false
   | some s => if s.Line = 0 ∧ x ∉ seen then xrun secs r (x :: seen) else false
def Cf.sigsOk (c : Cf) : Bool := sgrun c.Jts c.Sigs [] && decide (c.Sigs.length ≤ 12)
def Cf.xsOk (c : Cf) : Bool := xrun c.Secs c.Xs [] && decide (c.Xs.length ≤ 4)
end
section
theorem opt2_ex (o : Option (Int × Int)) {K : Int → Int → Bool → Prop} (h : K (o.getD (0, 0)).1 (o.getD (0, 0)).2 o.isSome) : ∃ n m : Int, ∃ b : Bool, opt2 o = .tup [iA n, iA m, bA b] ∧ K n m b := by
 cases o with
 | none => exact ⟨0, 0, false, rfl, h⟩
 | some p => exact ⟨p.1, p.2, true, rfl, h⟩
theorem opt1_ex (o : Option Int) {K : Int → Bool → Prop} (h : K (o.getD 0) o.isSome) : ∃ n : Int, ∃ b : Bool, opt1 o = .tup [iA n, bA b] ∧ K n b := by
 cases o with
 | none => exact ⟨0, false, rfl, h⟩
 | some p => exact ⟨p, true, rfl, h⟩
theorem sec_ex (o : Option Sec) {K : Int → Int → Int → Bool → Prop} (h : K (o.getD ⟨0, 0, 0⟩).Kind (o.getD ⟨0, 0, 0⟩).OC (o.getD ⟨0, 0, 0⟩).Line o.isSome) : ∃ n m k : Int, ∃ b : Bool, secRV o = .tup [.agg [iD n, iD m, iD k], bA b] ∧ K n m k b := by
 cases o with
 | none => exact ⟨0, 0, 0, false, rfl, h⟩
 | some p => exact ⟨p.Kind, p.OC, p.Line, true, rfl, h⟩
theorem sg_ex (o : Option Sg) {K : Int → Int → Bool → Prop} (h : K (o.getD ⟨0, 0⟩).Sec (o.getD ⟨0, 0⟩).End_ o.isSome) : ∃ n m : Int, ∃ b : Bool, sgRV o = .tup [.agg [iD n, iD m], bA b] ∧ K n m b := by
 cases o with
 | none => exact ⟨0, 0, false, rfl, h⟩
 | some p => exact ⟨p.Sec, p.End_, true, rfl, h⟩
def pstep (c : Cf) (r : Rt) (ex : Option Sg) (a : Sg) (s : St) (last : Bool) (seen : List Int) : Bool :=
 match nxt c.Jts a.Sec a.End_ with
 | none => false
 | some (q, i) => decide (q = s.Sec) && decide (i = s.In) && (wpos (wayL ((geti c.Secs q).getD ⟨0, 0, 0⟩).Kind) s.In s.Out).isSome && decide (q ∉ seen) &&
     (!(c.Sigs.any fun x => decide (⟨s.Sec, s.Out⟩ = x)) || (last && decide (ex = some ⟨s.Sec, s.Out⟩))) && !(r.Shunt && decide (((geti c.Secs q).getD ⟨0, 0, 0⟩).Line ≠ 0))
def prunA (c : Cf) (r : Rt) (ex : Option Sg) : List St → Sg → List Int → Bool
 | [], a, _ => match ex with
   | some x => decide (a = x)
   | none => !(nxt c.Jts a.Sec a.End_).isSome
 | s :: rest, a, seen => pstep c r ex a s rest.isEmpty seen && prunA c r ex rest ⟨s.Sec, s.Out⟩ (s.Sec :: seen)
def Cf.path (c : Cf) (r : Rt) : Bool :=
 match geti c.Sigs r.Entry with
 | none => false
 | some a => (decide (r.Exit = -1) || (geti c.Sigs r.Exit).isSome) && decide (1 ≤ r.Path.length ∧ r.Path.length ≤ 8) && prunA c r (geti c.Sigs r.Exit) r.Path a [a.Sec]
def Cf.route (c : Cf) (r : Rt) : Int :=
 if c.path r = false then 9 else if r.Flank ≠ c.flank (c.approach r) r.Path then 10 else if r.Overlap ≠ c.overlap r then 11 else 0
def Cf.routes (c : Cf) : List Rt → Int
 | [] => 0
 | r :: l => if c.route r ≠ 0 then c.route r else c.routes l
def Cf.timing (c : Cf) : Bool :=
 decide (1 ≤ c.Age ∧ c.Age ≤ 8) && decide (0 ≤ c.Brake ∧ c.Brake ≤ 8) && decide (c.Age + c.Brake + 1 ≤ c.Hold ∧ c.Hold ≤ 40) && decide (1 ≤ c.Budget ∧ c.Budget ≤ 1000000)
def Cf.check (c : Cf) : Int :=
 if topoOk c.Secs c.Jts = false then 6 else if c.sigsOk = false then 7 else if c.xsOk = false then 8 else if c.Rts.length > 12 then 9
 else if c.routes c.Rts ≠ 0 then c.routes c.Rts else if c.timing = true then 0 else 12
theorem Rows.det {P : Program} {s s' : Store} {el : TypeId} {d : D} {rs rs' : List (List D)} (h : Rows P s el d rs) (h' : Rows P s' el d rs') (hd : ∀ id i len, d ≠ .osl id i len) : rs = rs' := by
 cases d <;> simp only [Rows] at h h' <;> try exact h.elim
 · rw [h, h']
 · rw [h, h']
 · rw [h.1, h'.1]
 · exact absurd rfl (hd _ _ _)
theorem froz_plain {P : Program} {el : TypeId} {d : D} (h : ∀ s, ∃ rs, Rows P s el d rs) : ∀ id i len, d ≠ .osl id i len := by
 rintro id i len rfl
 obtain ⟨rs, t, rows, h1, _⟩ := h fun _ => .free
 cases h1
theorem rts_froz {P : Program} {tR tS tN tI : TypeId} {d : D} {l : List Rt} (h : ∀ s, RtsAt P tR tS tN tI s d l) :
   ∃ rows, (∀ s, At P s tR d rows) ∧ rows.length = l.length ∧ ∀ (i : Nat) row r, rows[i]? = some row → l[i]? = some r →
     ∃ d1 d2 d3, row = [iD r.Entry, iD r.Exit, d1, d2, d3, .bool r.Shunt] ∧ (∀ s, At P s tS d1 (r.Path.map St.enc)) ∧ (∀ s, At P s tN d2 (r.Flank.map Nd.enc)) ∧ (∀ s, At P s tI d3 (r.Overlap.map encI)) := by
 have hp := froz_plain (P := P) (el := tR) (d := d) fun s => by
   obtain ⟨rows, h1, _⟩ := h s
   exact ⟨rows, h1.rows⟩
 obtain ⟨rows, h1, h2, h3⟩ := h fun _ => .free
 have hall : ∀ s, At P s tR d rows ∧ ∀ (i : Nat) row r, rows[i]? = some row → l[i]? = some r → RtAt P tS tN tI s row r := fun s => by
   obtain ⟨rows', q1, q2, q3⟩ := h s
   have e := q1.rows.det h1.rows hp
   subst e
   exact ⟨q1, q3⟩
 refine ⟨rows, fun s => (hall s).1, h2, fun i row r hi hr => ?_⟩
 obtain ⟨d1, d2, d3, rfl, _⟩ := h3 i row r hi hr
 refine ⟨d1, d2, d3, rfl, fun s => ?_, fun s => ?_, fun s => ?_⟩ <;>
 · obtain ⟨e1, e2, e3, he, q1, q2, q3⟩ := (hall s).2 i _ r hi hr
   injection he with _ he; injection he with _ he; injection he with a1 he; injection he with a2 he; injection he with a3 he
   subst a1 a2 a3
   assumption
end
section
variable {P : Program} {σ : Store}
theorem set_set (i : Nat) (a b : SO) : (σ.set i a).set i b = σ.set i b := by
 funext j
 by_cases h : j = i
 · subst h; rw [Store.set_same, Store.set_same]
 · rw [Store.set_ne _ _ h, Store.set_ne _ _ h, Store.set_ne _ _ h]
end
section
structure Rs where
 State : Int
 Since : Int
 Next : Int
 Mark : Int
 deriving DecidableEq
structure Mv where
 Cmd : Int
 Other : Int
 deriving DecidableEq
structure Ls where
 Ask : Int
 Done : Int
 Grant : Int
 Told : Int
 PAsk : Int
 PDone : Int
 PGrant : Int
 Since : Int
 deriving DecidableEq
structure Co where
 Own : List Int
 Routes : List Rs
 Points : List Mv
 Xs : List Mv
 Lines : List Ls
 Resets : List Int
 Dirty : Bool
 deriving DecidableEq
def Rs.enc (r : Rs) : List D := [iD r.State, iD r.Since, iD r.Next, iD r.Mark]
def Mv.enc (r : Mv) : List D := [iD r.Cmd, iD r.Other]
def Ls.enc (r : Ls) : List D := [iD r.Ask, iD r.Done, iD r.Grant, iD r.Told, iD r.PAsk, iD r.PDone, iD r.PGrant, iD r.Since]
def tm (b n : Int) : Bool := decide (0 ≤ n ∧ n ≤ 4294967295 + b)
def Rs.fits (p : Rs × Rt) : Bool := decide (0 ≤ p.1.State ∧ p.1.State ≤ 5) && decide (0 ≤ p.1.Next ∧ p.1.Next ≤ p.2.Path.length) && (tm 0 p.1.Since && tm 0 p.1.Mark)
def Mv.fits (m : Mv) : Bool := decide (0 ≤ m.Cmd ∧ m.Cmd ≤ 2) && decide (-1 ≤ m.Other ∧ m.Other ≤ 4294967295)
def Ls.fits (l : Ls) : Bool := (tm 0 l.Ask && (tm 0 l.Done && (tm 0 l.Grant && (tm 0 l.Told && (tm 0 l.PAsk && (tm 0 l.PDone && tm 0 l.PGrant)))))) && tm 1 l.Since
def Co.lens (c : Cf) (k : Co) : Bool := decide (k.Own.length = c.Secs.length ∧ k.Points.length = c.Secs.length ∧ k.Resets.length = c.Secs.length ∧ k.Routes.length = c.Rts.length ∧ k.Xs.length = c.Xs.length ∧ k.Lines.length = 4)
def Co.parts (c : Cf) (k : Co) : Bool :=
 (k.Own.all fun o => decide (-2 ≤ o ∧ o ≤ c.Rts.length)) && ((k.Routes.zip c.Rts).all Rs.fits && ((k.Points ++ k.Xs).all Mv.fits && (k.Lines.all Ls.fits && k.Resets.all (tm 1))))
def Co.fits (c : Cf) (k : Co) : Bool := decide (c.check = 0) && (k.lens c && k.parts c)
end
section
variable {P : Program} {σ : Store}
def idOf : D → Option Nat
 | .osl id _ _ => some id
 | _ => none
def Apart (a b : D) : Prop := ∀ id, idOf a = some id → idOf b ≠ some id
theorem Apart.symm {a b : D} (h : Apart a b) : Apart b a := fun id h1 h2 => h id h2 h1
theorem Own.at_new {σ0 : Store} {el : TypeId} {id n : Nat} {rs : List (List D)} (hid : σ0 id = .free) (he : Ext σ0 σ) (h : σ id = .live el rs) (hsz : rs.length < 2 ^ 60) (hn : n = rs.length) : Own P σ0 σ el (.osl id 0 n) rs :=
 ⟨At.fresh h hsz hn, he, osl_new hid, fun h => h, by intro e; cases e⟩
theorem Own.apart {σ0 : Store} {el el' : TypeId} {d d' : D} {rs rs' : List (List D)} (h : Own P σ0 σ el d rs) (h' : At P σ0 el' d' rs') : Apart d' d := by
 intro id h1 h2
 cases d' with
 | osl i a n =>
   have e1 : i = id := by simpa [idOf] using h1
   subst e1
   cases d with
   | osl i' a' n' =>
     have e2 : i' = i := by simpa [idOf] using h2
     subst e2
     have := h.new _ _ _ rfl
     obtain ⟨t, rows, g1, _⟩ := h'.rows
     rw [this] at g1; cases g1
   | _ => simp [idOf] at h2
 | _ => simp [idOf] at h1
theorem Own.from {σ0 σ1 : Store} {el : TypeId} {d : D} {rs : List (List D)} (he : Ext σ0 σ1) (h : Own P σ1 σ el d rs) : Own P σ0 σ el d rs :=
 ⟨h.at_, he.trans h.ext, fun id i len e => by
   have h1 := h.new id i len e
   by_cases hf : σ0 id = .free
   · exact hf
   · have := he id hf; rw [h1] at this; exact this.symm, h.nsl, h.nz⟩
end
section
variable {P : Program} {σ : Store}
theorem At.store {el : TypeId} {d : D} {rs : List (List D)} {j off : Nat} {n : Nat} {row xs : List D} {K : Store → Prop} (h : At P σ el d rs) (hd : ¬ isSl d) (hr : rs[j]? = some row) (hn : n = j) (ho : off + xs.length ≤ row.length)
   (hK : ∀ s' id, idOf d = some id → At P s' el d (rs.set j (patch row off xs)) → (∀ i, i ≠ id → s' i = σ i) → s' id ≠ .free → K s') : storeEl xs σ d n off K := by
 subst hn
 have hrows := h.rows
 have hj := (List.getElem?_eq_some_iff.1 hr).1
 cases d <;> simp only [Go.Fw.Rows] at hrows <;> try exact hrows.elim
 · subst hrows; simp at hr
 · subst hrows; simp at hr
 · exact absurd trivial hd
 · obtain ⟨t, rows, h1, h2, h3, rfl⟩ := hrows
   rename_i id i0 len
   have hjl : n < len := by simp at hj; omega
   have hrow : rows[i0 + n]? = some row := by
     rw [List.getElem?_take, if_pos hjl, List.getElem?_drop] at hr; exact hr
   refine ⟨id, i0, len, t, rows, row, rfl, hjl, h1, hrow, ho, hK _ id rfl ⟨⟨t, _, Store.set_same _ _ _, h2, by simp; omega, ?_⟩, ?_, fun es rows e => by cases e⟩ (fun i hi => Store.set_ne _ _ hi) (by rw [Store.set_same]; intro e; cases e)⟩
   · rw [List.drop_set, if_neg (by omega), List.take_set]
     congr 1; omega
   · have := h.size; simpa using this
structure Lk where
 Value : Int
 Stamp : Int
 Valid : Bool
def Lk.enc (l : Lk) : List D := [iD l.Value, iD l.Stamp, .bool l.Valid]
end
end Go.Fw
section
namespace Go.Fw
variable {P : Program} {σ σ' : Store}
theorem Own.stay {σ0 : Store} {el : TypeId} {e d : D} {qs : List (List D)} (g : Own P σ0 σ el e qs) (hs : ∀ i, σ i ≠ .free → idOf d ≠ some i → σ' i = σ i) (ha : Apart e d) (he : Ext σ0 σ') : Own P σ0 σ' el e qs :=
 ⟨g.at_.same fun i a n h => hs i (by
   have := g.at_.rows; subst h
   obtain ⟨t, rows, h1, _⟩ := this
   rw [h1]; intro e; cases e) (ha i (by subst h; rfl)), he, g.new, g.nsl, g.nz⟩
theorem Own.append2 {σ0 : Store} {el el' : TypeId} {d e x : D} {rs qs ns : List (List D)} {bytes : Nat} {K : D → Store → Prop} (h : Own P σ0 σ el d rs) (g : Own P σ0 σ el' e qs) (ha : Apart e d) (hx : At P σ el x ns)
   (hb : bytes * (rs.length + ns.length) ≤ 140737488355328) (hsz : rs.length + ns.length < 2 ^ 60) (hk : ∀ d' σ', Own P σ0 σ' el d' (rs ++ ns) → Own P σ0 σ' el' e qs → Apart e d' → K d' σ') : appendTo P σ el bytes d x K :=
 h.append hx hb hsz fun d' s' ho h1 h2 => hk d' s' ho (g.stay (d := d) (fun i hi hd => h1 i hi fun a b hab => hd (by rw [hab]; rfl)) ha ho.ext) fun i hi hd => by
   have hn := g.at_.rows
   cases e with
   | osl i' a n =>
     have e1 : i' = i := by simpa [idOf] using hi
     subst e1
     obtain ⟨t, rows, h3, _⟩ := hn
     cases d' with
     | osl j a' n' =>
       have e2 : j = i' := by simpa [idOf] using hd
       subst e2
       rcases h2 j a' n' rfl with q | ⟨a2, b2, q⟩
       · rw [h3] at q; cases q
       · exact ha j rfl (by rw [q]; rfl)
     | _ => simp [idOf] at hd
   | _ => simp [idOf] at hi
theorem Apart.nil (d : D) : Apart .nils d := fun i h => by cases h
end Go.Fw
namespace Go.Fw
variable {P : Program} {σ σ' : Store}
theorem at_lit {s : Store} {el : TypeId} {es : Nat} {rows : List (List D)} (hes : P.cellsOf el = es) (hsz : rows.length < 2 ^ 60) : At P s el (.sl es rows) rows :=
 ⟨⟨rfl, .inr hes.symm⟩, hsz, fun es rows e => by injection e with e1 e2; rw [← e1, hes]⟩
theorem own_id' {σ0 s : Store} {el : TypeId} {d : D} {rs : List (List D)} {i : Nat} (h : Own P σ0 s el d rs) (hi : idOf d = some i) : σ0 i = .free := by
 cases d with
 | osl id a n =>
   have : id = i := by simpa [idOf] using hi
   subst this
   exact h.new _ _ _ rfl
 | _ => simp [idOf] at hi
end Go.Fw
namespace Go.Fw
variable {P : Program} {σ σ' : Store}
theorem Own.put {σ0 : Store} {el : TypeId} {d : D} {rs : List (List D)} {j off n : Nat} {row xs : List D} {K : Store → Prop} (h : Own P σ0 σ el d rs) (hr : rs[j]? = some row) (hn : n = j) (ho : off + xs.length ≤ row.length)
   (hK : ∀ s', Own P σ0 s' el d (rs.set j (patch row off xs)) → (∀ i, idOf d ≠ some i → s' i = σ i) → K s') : storeEl xs σ d n off K :=
 h.at_.store h.nsl hr hn ho fun s' id hid hat hs hne => hK s' ⟨hat, fun i hi => by
   have hne' : i ≠ id := fun e => hi (by rw [e]; exact own_id' h hid)
   rw [hs i hne']; exact h.ext i hi, h.new, h.nsl, h.nz⟩ fun i hi => hs i fun e => hi (by rw [e]; exact hid)
end Go.Fw
namespace Go.Fw
variable {P : Program} {σ σ' : Store}
theorem Own.copy {σ0 : Store} {el : TypeId} {d x : D} {rd rs : List (List D)} {K : Int → Store → Prop} (h : Own P σ0 σ el d rd) (hx : At P σ el x rs)
   (hK : ∀ s', Own P σ0 s' el d (rs.take (min rs.length rd.length) ++ rd.drop (min rs.length rd.length)) → (∀ i, idOf d ≠ some i → s' i = σ i) → K (min (rs.length : Int) (rd.length : Int)) s') : copyTo P σ el d x K := by
 refine ⟨rd, rs, h.at_.rows, hx.rows, ?_⟩
 by_cases hm : min rs.length rd.length = 0
 · refine .inl ⟨hm, ?_⟩
   have := hK σ (by rw [hm]; simpa using h) (fun _ _ => rfl)
   rw [show min (rs.length : Int) (rd.length : Int) = 0 by omega] at this; exact this
 · refine .inr ?_
   have hrow := h.at_.rows
   have hnew := h.new
   have hsz := h.at_.size
   cases d with
   | osl id i0 len =>
     obtain ⟨t, rows, h1, h2, h3, rfl⟩ := hrow
     have hml : min rs.length ((rows.drop i0).take len).length ≤ len := by simp; omega
     have hmr : min rs.length ((rows.drop i0).take len).length ≤ rs.length := Nat.min_le_left _ _
     have hmx : min rs.length ((rows.drop i0).take len).length ≤ ((rows.drop i0).take len).length := Nat.min_le_right _ _
     generalize min rs.length ((rows.drop i0).take len).length = m at *
     have hl : (rows.take i0 ++ rs.take m ++ rows.drop (i0 + m)).length = rows.length := by simp; omega
     refine ⟨id, i0, len, t, rows, rfl, h1, ?_⟩
     refine hK (σ.set id (.live t (rows.take i0 ++ rs.take m ++ rows.drop (i0 + m)))) ⟨⟨⟨t, _, Store.set_same _ _ _, h2, by rw [hl]; exact h3, ?_⟩, by rw [List.length_append, List.length_take, List.length_drop]; omega, fun es rows e => by cases e⟩, fun i hi => ?_, h.new, h.nsl, h.nz⟩ fun i hi => Store.set_ne _ _ fun e => hi (by rw [e]; rfl)
     · have hA : (rs.take m).length = m := by rw [List.length_take]; omega
       generalize rs.take m = A at *
       rw [List.append_assoc, List.drop_left' (by rw [List.length_take]; omega), List.take_append, List.take_of_length_le (show A.length ≤ len by omega), hA, List.drop_take, List.drop_drop]
     · rw [Store.set_ne _ _ (fun e => hi (by rw [e]; exact h.new _ _ _ rfl))]; exact h.ext i hi
   | nils => have : rd = [] := hrow; subst this; simp at hm
   | zsl => exact absurd rfl h.nz
   | sl es rows => exact absurd trivial h.nsl
   | _ => exact hrow.elim
end Go.Fw
namespace Go.Fw
variable {P : Program} {σ σ' : Store}
theorem Own.sub {σ0 : Store} {el : TypeId} {d : D} {rs : List (List D)} {lo hi : Nat} (h : Own P σ0 σ el d rs) (h1 : lo ≤ hi) (h2 : hi ≤ rs.length) : Own P σ0 σ el (dsub d lo hi) ((rs.drop lo).take (hi - lo)) := by
 have hr := h.at_.rows
 have hn := h.new
 have hl := h.nsl
 have hz := h.nz
 refine ⟨h.at_.sub h1 h2, h.ext, ?_, ?_, ?_⟩ <;> cases d <;> simp only [dsub, Rows] at * <;> first | (intro id i n e; cases e; exact hn _ _ _ rfl) | (intro id i n e; cases e; done) | exact hl | (intro e; cases e; done) | exact hr.elim | exact hz
def dlen : D → Nat
 | .osl _ _ n => n
 | .sl _ rows => rows.length
 | _ => 0
theorem At.dlen {el : TypeId} {d : D} {rs : List (List D)} (h : At P σ el d rs) : dlen d = rs.length := by
 have hl := h.lenI
 cases d <;> simp only [Len] at hl <;> first | exact hl.elim | (rw [hl]; rfl)
end Go.Fw
end
section
set_option maxRecDepth 100000
namespace Go.Proofs.YtfdffboelecgoaaGreatDoor
open Go.Fw Go.Proofs
def an_law06_ConfChecks : Ann := { esc := [], cbs := [1], draws := [(4, { ord := [0, 2, 1, 3, 4, 5, 6, 8, 7, 9, 10, 11], nb := [2], av := [], dir := [] })], loops := [], joins := [] }
def V_law06_ConfChecks (c0 : D) (c1 : D) (c2 : D) (c3 : D) (c4 : D) (c5 : Int) (c6 : Int) (c7 : Int) (c8 : Int) (σ : Store) (Qp : RV → Store → Prop) : Prop :=
 DCalls Tryz.prog n_law06_lives [] σ (fun r Z => ∃ b : Bool, (r = (.a (.one (.bool b)) : RV)) ∧ bcase (!b) (Qp (.a (.one (.bool false))) Z) (DCalls Tryz.prog n_ref06_Text [.agg [c0, c1, c2, c3, c4, .int .i64 c5, .int .i64 c6, .int .i64 c7, .int .i64 c8]] Z (fun r1 Z1 => ∃ s : ByteArray, (r1 = (.a (.one (.str s)) : RV)) ∧ DCalls Tryz.prog n_conf_Check [.agg [c0, c1, c2, c3, c4, .int .i64 c5, .int .i64 c6, .int .i64 c7, .int .i64 c8]] Z1 (fun r2 Z2 => ∃ n : Int, (r2 = (.a (.one (.int .i64 n)) : RV)) ∧ DCalls Tryz.prog n_ref06_Check [.agg [c0, c1, c2, c3, c4, .int .i64 c5, .int .i64 c6, .int .i64 c7, .int .i64 c8]] Z2 (fun r3 Z3 => ∃ n1 : Int, (r3 = (.a (.one (.int .i64 n1)) : RV)) ∧ bcase (n == n1) (DCalls Tryz.prog n_ref06_Text [.agg [c0, c1, c2, c3, c4, .int .i64 c5, .int .i64 c6, .int .i64 c7, .int .i64 c8]] Z3 (fun r4 Z4 => ∃ s1 : ByteArray, (r4 = (.a (.one (.str s1)) : RV)) ∧ Qp (.a (.one (.bool ((ByteArray.toList s1) == (ByteArray.toList s))))) Z4)) (Qp (.a (.one (.bool false))) Z3))))))
theorem W_law06_ConfChecks (c0 : D) (c1 : D) (c2 : D) (c3 : D) (c4 : D) (c5 : Int) (c6 : Int) (c7 : Int) (c8 : Int) (σ : Store) (Qp : RV → Store → Prop) (h : V_law06_ConfChecks c0 c1 c2 c3 c4 c5 c6 c7 c8 σ Qp) : DCalls Tryz.prog n_law06_ConfChecks [.agg [c0, c1, c2, c3, c4, .int .i64 c5, .int .i64 c6, .int .i64 c7, .int .i64 c8]] σ Qp :=
 dcalls_of_body mixed (by kernel_rfl) Tryz.func3 an_law06_ConfChecks (Eq.mp (by kernel_rfl) h)
def an_ref06_Text : Ann := { esc := [], cbs := [1], draws := [], loops := [(3, { mods := [(3, SlotSh.one (Sh.any)), (22, SlotSh.one (Sh.int IntKind.i64))], keep := [1, 20, 21] }), (8, { mods := [(3, SlotSh.one (Sh.any)), (42, SlotSh.one (Sh.int IntKind.i64))], keep := [1, 40, 41] }), (13, { mods := [(3, SlotSh.one (Sh.any)), (64, SlotSh.one (Sh.int IntKind.i64))], keep := [1, 62, 63] }), (18, { mods := [(3, SlotSh.one (Sh.any)), (82, SlotSh.one (Sh.int IntKind.i64))], keep := [1, 80, 81] }), (23, { mods := [(3, SlotSh.one (Sh.any)), (97, SlotSh.one (Sh.int IntKind.i64))], keep := [1, 95, 96] }), (30, { mods := [(3, SlotSh.one (Sh.any)), (116, SlotSh.one (Sh.int IntKind.i64))], keep := [1, 13, 95, 96, 97, 114, 115] }), (36, { mods := [(3, SlotSh.one (Sh.any)), (136, SlotSh.one (Sh.int IntKind.i64))], keep := [1, 13, 95, 96, 97, 134, 135] })], joins := [(28, { mods := [(14, SlotSh.one (Sh.int IntKind.i64))], keep := [1, 3, 13, 95, 96, 97] })] }
def V_ref06_Text (c0 : D) (c1 : D) (c2 : D) (c3 : D) (c4 : D) (c5 : Int) (c6 : Int) (c7 : Int) (c8 : Int) (σ : Store) (Qp : RV → Store → Prop) : Prop :=
 ∃ len : Nat, (Len c0 len) ∧ ∃ I : D → Int → Store → Prop, ∃ μ : D → Int → Store → Nat, (I .nils 0 σ) ∧ ∀ d : D, ∀ n : Int, ∀ Z, (I d n Z) → bcase (decide (n < (len : Int))) (∃ len1 : Nat, (Idx Tryz.prog Z c0 3 len1) ∧ ((0 : Int) ≤ n) ∧ (n < (len1 : Int)) ∧ ∃ row : List D, (Row Z c0 (Int.toNat n) row) ∧ ∃ n1 n2 n3 : Int, ((List.take 3 row) = ([.int .i64 n1, .int .i64 n2, .int .i64 n3] : List D)) ∧ Fw.newObj Z (.live t_int [[.int .i64 n1], [.int .i64 n2], [.int .i64 n3]]) (fun id Z1 => DCalls Tryz.prog n_ref06_words [.one (.str (ByteArray.mk (List.toArray [115, 101, 99, 116, 105, 111, 110]))), .one (.osl id 0 3)] Z1 (fun r Z2 => ∃ s : ByteArray, (r = (.a (.one (.str s)) : RV)) ∧ appendToR Tryz.prog Z2 5 1 d (bytesD s) (fun d1 Z3 => Fw.newObj Z3 (.live t_uint8 [[.int .u8 10]]) (fun id1 Z4 => appendTo Tryz.prog Z4 t_uint8 1 d1 (.osl id1 0 1) (fun d2 Z5 => (I d2 (w64 (n + 1)) Z5) ∧ ((μ d2 (w64 (n + 1)) Z5) < (μ d n Z)))))))) (∃ len1 : Nat, (Len c1 len1) ∧ ∃ I1 : D → Int → Store → Prop, ∃ μ1 : D → Int → Store → Nat, (I1 d 0 Z) ∧ ∀ d1 : D, ∀ n1 : Int, ∀ Z1, (I1 d1 n1 Z1) → bcase (decide (n1 < (len1 : Int))) (∃ len2 : Nat, (Idx Tryz.prog Z1 c1 4 len2) ∧ ((0 : Int) ≤ n1) ∧ (n1 < (len2 : Int)) ∧ ∃ row : List D, (Row Z1 c1 (Int.toNat n1) row) ∧ ∃ n2 n3 n4 n5 : Int, ((List.take 4 row) = ([.int .i64 n2, .int .i64 n3, .int .i64 n4, .int .i64 n5] : List D)) ∧ Fw.newObj Z1 (.live t_int [[.int .i64 n2], [.int .i64 n3], [.int .i64 n4], [.int .i64 n5]]) (fun id Z2 => DCalls Tryz.prog n_ref06_words [.one (.str (ByteArray.mk (List.toArray [106, 111, 105, 110, 116]))), .one (.osl id 0 4)] Z2 (fun r Z3 => ∃ s : ByteArray, (r = (.a (.one (.str s)) : RV)) ∧ appendToR Tryz.prog Z3 5 1 d1 (bytesD s) (fun d2 Z4 => Fw.newObj Z4 (.live t_uint8 [[.int .u8 10]]) (fun id1 Z5 => appendTo Tryz.prog Z5 t_uint8 1 d2 (.osl id1 0 1) (fun d3 Z6 => (I1 d3 (w64 (n1 + 1)) Z6) ∧ ((μ1 d3 (w64 (n1 + 1)) Z6) < (μ1 d1 n1 Z1)))))))) (∃ len2 : Nat, (Len c2 len2) ∧ ∃ I2 : D → Int → Store → Prop, ∃ μ2 : D → Int → Store → Nat, (I2 d1 0 Z1) ∧ ∀ d2 : D, ∀ n2 : Int, ∀ Z2, (I2 d2 n2 Z2) → bcase (decide (n2 < (len2 : Int))) (∃ len3 : Nat, (Idx Tryz.prog Z2 c2 2 len3) ∧ ((0 : Int) ≤ n2) ∧ (n2 < (len3 : Int)) ∧ ∃ row : List D, (Row Z2 c2 (Int.toNat n2) row) ∧ ∃ n3 n4 : Int, ((List.take 2 row) = ([.int .i64 n3, .int .i64 n4] : List D)) ∧ Fw.newObj Z2 (.live t_int [[.int .i64 n3], [.int .i64 n4]]) (fun id Z3 => DCalls Tryz.prog n_ref06_words [.one (.str (ByteArray.mk (List.toArray [115, 105, 103, 110, 97, 108]))), .one (.osl id 0 2)] Z3 (fun r Z4 => ∃ s : ByteArray, (r = (.a (.one (.str s)) : RV)) ∧ appendToR Tryz.prog Z4 5 1 d2 (bytesD s) (fun d3 Z5 => Fw.newObj Z5 (.live t_uint8 [[.int .u8 10]]) (fun id1 Z6 => appendTo Tryz.prog Z6 t_uint8 1 d3 (.osl id1 0 1) (fun d4 Z7 => (I2 d4 (w64 (n2 + 1)) Z7) ∧ ((μ2 d4 (w64 (n2 + 1)) Z7) < (μ2 d2 n2 Z2)))))))) (∃ len3 : Nat, (Len c3 len3) ∧ ∃ I3 : D → Int → Store → Prop, ∃ μ3 : D → Int → Store → Nat, (I3 d2 0 Z2) ∧ ∀ d3 : D, ∀ n3 : Int, ∀ Z3, (I3 d3 n3 Z3) → bcase (decide (n3 < (len3 : Int))) (∃ len4 : Nat, (Idx Tryz.prog Z3 c3 1 len4) ∧ ((0 : Int) ≤ n3) ∧ (n3 < (len4 : Int)) ∧ ∃ row : List D, (Row Z3 c3 (Int.toNat n3) row) ∧ ∃ n4 : Int, ((List.take 1 row) = ([.int .i64 n4] : List D)) ∧ Fw.newObj Z3 (.live t_int [[.int .i64 n4]]) (fun id Z4 => DCalls Tryz.prog n_ref06_words [.one (.str (ByteArray.mk (List.toArray [99, 114, 111, 115, 115, 105, 110, 103]))), .one (.osl id 0 1)] Z4 (fun r Z5 => ∃ s : ByteArray, (r = (.a (.one (.str s)) : RV)) ∧ appendToR Tryz.prog Z5 5 1 d3 (bytesD s) (fun d4 Z6 => Fw.newObj Z6 (.live t_uint8 [[.int .u8 10]]) (fun id1 Z7 => appendTo Tryz.prog Z7 t_uint8 1 d4 (.osl id1 0 1) (fun d5 Z8 => (I3 d5 (w64 (n3 + 1)) Z8) ∧ ((μ3 d5 (w64 (n3 + 1)) Z8) < (μ3 d3 n3 Z3)))))))) (∃ len4 : Nat, (Len c4 len4) ∧ ∃ I4 : D → Int → Store → Prop, ∃ μ4 : D → Int → Store → Nat, (I4 d3 0 Z3) ∧ ∀ d4 : D, ∀ n4 : Int, ∀ Z4, (I4 d4 n4 Z4) → bcase (decide (n4 < (len4 : Int))) (∃ len5 : Nat, (Idx Tryz.prog Z4 c4 6 len5) ∧ ((0 : Int) ≤ n4) ∧ (n4 < (len5 : Int)) ∧ ∃ row : List D, (Row Z4 c4 (Int.toNat n4) row) ∧ ∃ n5 n6 : Int, ∃ d5 d6 d7 : D, ∃ b : Bool, ((List.take 6 row) = ([.int .i64 n5, .int .i64 n6, d5, d6, d7, .bool b] : List D)) ∧ ∀ R : Int → Store → Prop, (∀ n7 : Int, ∀ Z5, (Fw.newObj Z5 (.live t_int [[.int .i64 n5], [.int .i64 n6], [.int .i64 n7]]) (fun id Z6 => DCalls Tryz.prog n_ref06_words [.one (.str (ByteArray.mk (List.toArray [114, 111, 117, 116, 101]))), .one (.osl id 0 3)] Z6 (fun r Z7 => ∃ s : ByteArray, (r = (.a (.one (.str s)) : RV)) ∧ (((ByteArray.size s : Int) + (5 : Int)) ≤ 9223372036854775807) ∧ appendToR Tryz.prog Z7 5 1 d4 (bytesD (ByteArray.mk (Array.mk (HAppend.hAppend (Array.toList (ByteArray.data s)) (Array.toList (ByteArray.data (ByteArray.mk (List.toArray [32, 112, 97, 116, 104])))))))) (fun d8 Z8 => ∃ len6 : Nat, (Len d5 len6) ∧ ∃ I5 : D → Int → Store → Prop, ∃ μ5 : D → Int → Store → Nat, (I5 d8 0 Z8) ∧ ∀ d9 : D, ∀ n8 : Int, ∀ Z9, (I5 d9 n8 Z9) → bcase (decide (n8 < (len6 : Int))) (∃ len7 : Nat, (Idx Tryz.prog Z9 d5 3 len7) ∧ ((0 : Int) ≤ n8) ∧ (n8 < (len7 : Int)) ∧ ∃ row1 : List D, (Row Z9 d5 (Int.toNat n8) row1) ∧ ∃ n9 n10 n11 : Int, ((List.take 3 row1) = ([.int .i64 n9, .int .i64 n10, .int .i64 n11] : List D)) ∧ Fw.newObj Z9 (.live t_int [[.int .i64 n9], [.int .i64 n10], [.int .i64 n11]]) (fun id1 Z10 => DCalls Tryz.prog n_ref06_words [.one (.str (ByteArray.mk (List.toArray []))), .one (.osl id1 0 3)] Z10 (fun r1 Z11 => ∃ s1 : ByteArray, (r1 = (.a (.one (.str s1)) : RV)) ∧ appendToR Tryz.prog Z11 5 1 d9 (bytesD s1) (fun d10 Z12 => (([[.int .i64 n5, .int .i64 n6, d5, d6, d7, .bool b]] : List (List D)) = ([[.int .i64 n5, .int .i64 n6, d5, d6, d7, .bool b]] : List (List D))) ∧ (I5 d10 (w64 (n8 + 1)) Z12) ∧ ((μ5 d10 (w64 (n8 + 1)) Z12) < (μ5 d9 n8 Z9)))))) (appendToR Tryz.prog Z9 5 1 d9 [[.int .u8 (32 : Int)], [.int .u8 (102 : Int)], [.int .u8 (108 : Int)], [.int .u8 (97 : Int)], [.int .u8 (110 : Int)], [.int .u8 (107 : Int)]] (fun d10 Z10 => ∃ len7 : Nat, (Len d6 len7) ∧ ∃ I6 : D → Int → Store → Prop, ∃ μ6 : D → Int → Store → Nat, (I6 d10 0 Z10) ∧ ∀ d11 : D, ∀ n9 : Int, ∀ Z11, (I6 d11 n9 Z11) → bcase (decide (n9 < (len7 : Int))) (∃ len8 : Nat, (Idx Tryz.prog Z11 d6 2 len8) ∧ ((0 : Int) ≤ n9) ∧ (n9 < (len8 : Int)) ∧ ∃ row1 : List D, (Row Z11 d6 (Int.toNat n9) row1) ∧ ∃ n10 n11 : Int, ((List.take 2 row1) = ([.int .i64 n10, .int .i64 n11] : List D)) ∧ Fw.newObj Z11 (.live t_int [[.int .i64 n10], [.int .i64 n11]]) (fun id1 Z12 => DCalls Tryz.prog n_ref06_words [.one (.str (ByteArray.mk (List.toArray []))), .one (.osl id1 0 2)] Z12 (fun r1 Z13 => ∃ s1 : ByteArray, (r1 = (.a (.one (.str s1)) : RV)) ∧ appendToR Tryz.prog Z13 5 1 d11 (bytesD s1) (fun d12 Z14 => (([[.int .i64 n5, .int .i64 n6, d5, d6, d7, .bool b]] : List (List D)) = ([[.int .i64 n5, .int .i64 n6, d5, d6, d7, .bool b]] : List (List D))) ∧ (I6 d12 (w64 (n9 + 1)) Z14) ∧ ((μ6 d12 (w64 (n9 + 1)) Z14) < (μ6 d11 n9 Z11)))))) (DCalls Tryz.prog n_ref06_words [.one (.str (ByteArray.mk (List.toArray [32, 111, 118, 101, 114, 108, 97, 112]))), .one d7] Z11 (fun r1 Z12 => ∃ s1 : ByteArray, (r1 = (.a (.one (.str s1)) : RV)) ∧ appendToR Tryz.prog Z12 5 1 d11 (bytesD s1) (fun d12 Z13 => Fw.newObj Z13 (.live t_uint8 [[.int .u8 10]]) (fun id1 Z14 => appendTo Tryz.prog Z14 t_uint8 1 d12 (.osl id1 0 1) (fun d13 Z15 => (I4 d13 (w64 (n4 + 1)) Z15) ∧ ((μ4 d13 (w64 (n4 + 1)) Z15) < (μ4 d4 n4 Z4))))))))))))) → R n7 Z5) → bcase b ((([[.int .i64 n5, .int .i64 n6, d5, d6, d7, .bool b]] : List (List D)) = ([[.int .i64 n5, .int .i64 n6, d5, d6, d7, .bool b]] : List (List D))) ∧ R 1 Z4) ((([[.int .i64 n5, .int .i64 n6, d5, d6, d7, .bool b]] : List (List D)) = ([[.int .i64 n5, .int .i64 n6, d5, d6, d7, .bool b]] : List (List D))) ∧ R 0 Z4)) (Fw.newObj Z4 (.live t_int [[.int .i64 c5], [.int .i64 c6], [.int .i64 c7], [.int .i64 c8]]) (fun id Z5 => DCalls Tryz.prog n_ref06_words [.one (.str (ByteArray.mk (List.toArray [116, 105, 109, 105, 110, 103]))), .one (.osl id 0 4)] Z5 (fun r Z6 => ∃ s : ByteArray, (r = (.a (.one (.str s)) : RV)) ∧ appendToR Tryz.prog Z6 5 1 d4 (bytesD s) (fun d5 Z7 => Fw.newObj Z7 (.live t_uint8 [[.int .u8 10]]) (fun id1 Z8 => appendTo Tryz.prog Z8 t_uint8 1 d5 (.osl id1 0 1) (fun d6 Z9 => ∃ b : ByteArray, (Fw.Rows Tryz.prog Z9 t_uint8 d6 (bytesD b)) ∧ Qp (.a (.one (.str b))) Z9))))))))))
theorem W_ref06_Text (c0 : D) (c1 : D) (c2 : D) (c3 : D) (c4 : D) (c5 : Int) (c6 : Int) (c7 : Int) (c8 : Int) (σ : Store) (Qp : RV → Store → Prop) (h : V_ref06_Text c0 c1 c2 c3 c4 c5 c6 c7 c8 σ Qp) : DCalls Tryz.prog n_ref06_Text [.agg [c0, c1, c2, c3, c4, .int .i64 c5, .int .i64 c6, .int .i64 c7, .int .i64 c8]] σ Qp :=
 dcalls_of_body mixed (by kernel_rfl) Tryz.func11 an_ref06_Text (Eq.mp (by kernel_rfl) h)
def an_law06_same : Ann := { esc := [], cbs := [2, 3], draws := [(1, { ord := [0, 2, 1, 3, 4, 5], nb := [2], av := [], dir := [] })], loops := [], joins := [] }
def V_law06_same (a0 : D) (a1 : D) (a2 : D) (a3 : D) (a4 : D) (a5 : Int) (a6 : Int) (a7 : Int) (a8 : Int) (b0 : D) (b1 : D) (b2 : D) (b3 : D) (b4 : D) (b5 : Int) (b6 : Int) (b7 : Int) (b8 : Int) (σ : Store) (Qp : RV → Store → Prop) : Prop :=
 DCalls Tryz.prog n_ref06_Text [.agg [a0, a1, a2, a3, a4, .int .i64 a5, .int .i64 a6, .int .i64 a7, .int .i64 a8]] σ (fun r Z => ∃ s : ByteArray, (r = (.a (.one (.str s)) : RV)) ∧ DCalls Tryz.prog n_ref06_Text [.agg [b0, b1, b2, b3, b4, .int .i64 b5, .int .i64 b6, .int .i64 b7, .int .i64 b8]] Z (fun r1 Z1 => ∃ s1 : ByteArray, (r1 = (.a (.one (.str s1)) : RV)) ∧ Qp (.a (.one (.bool ((ByteArray.toList s) == (ByteArray.toList s1))))) Z1))
theorem W_law06_same (a0 : D) (a1 : D) (a2 : D) (a3 : D) (a4 : D) (a5 : Int) (a6 : Int) (a7 : Int) (a8 : Int) (b0 : D) (b1 : D) (b2 : D) (b3 : D) (b4 : D) (b5 : Int) (b6 : Int) (b7 : Int) (b8 : Int) (σ : Store) (Qp : RV → Store → Prop) (h : V_law06_same a0 a1 a2 a3 a4 a5 a6 a7 a8 b0 b1 b2 b3 b4 b5 b6 b7 b8 σ Qp) : DCalls Tryz.prog n_law06_same [.agg [a0, a1, a2, a3, a4, .int .i64 a5, .int .i64 a6, .int .i64 a7, .int .i64 a8], .agg [b0, b1, b2, b3, b4, .int .i64 b5, .int .i64 b6, .int .i64 b7, .int .i64 b8]] σ Qp :=
 dcalls_of_body mixed (by kernel_rfl) Tryz.func16 an_law06_same (Eq.mp (by kernel_rfl) h)
def an_conf_Locks : Ann := { esc := [], cbs := [2], draws := [], loops := [(6, { mods := [(6, SlotSh.one (Sh.any)), (31, SlotSh.one (Sh.int IntKind.i64))], keep := [5, 29, 30] }), (11, { mods := [(6, SlotSh.one (Sh.any)), (44, SlotSh.one (Sh.int IntKind.i64))], keep := [42, 43] })], joins := [(3, { mods := [], keep := [1, 2] })] }
def V_conf_Locks (c0 : D) (c1 : D) (c2 : D) (c3 : D) (c4 : D) (c5 : Int) (c6 : Int) (c7 : Int) (c8 : Int) (r : Int) (σ : Store) (Qp : RV → Store → Prop) : Prop :=
 ∀ R : Store → Prop, (∀ Z, (∃ len : Nat, (Idx Tryz.prog Z c4 6 len) ∧ ((0 : Int) ≤ r) ∧ (r < (len : Int)) ∧ ∃ row : List D, (Row Z c4 (Int.toNat r) row) ∧ ∃ n n1 : Int, ∃ d d1 d2 : D, ∃ b : Bool, ((List.take 6 row) = ([.int .i64 n, .int .i64 n1, d, d1, d2, .bool b] : List D)) ∧ DCalls Tryz.prog n_slices_Clone_int [.one d2] Z (fun r1 Z1 => ∃ d3 : D, (r1 = (.a (.one d3) : RV)) ∧ ∃ len1 : Nat, (Len d len1) ∧ ∃ I : D → Int → Store → Prop, ∃ μ : D → Int → Store → Nat, (I d3 0 Z1) ∧ ∀ d4 : D, ∀ n2 : Int, ∀ Z2, (I d4 n2 Z2) → bcase (decide (n2 < (len1 : Int))) (∃ len2 : Nat, (Idx Tryz.prog Z2 d 3 len2) ∧ ((0 : Int) ≤ n2) ∧ (n2 < (len2 : Int)) ∧ ∃ row1 : List D, (Row Z2 d (Int.toNat n2) row1) ∧ ∃ n3 n4 n5 : Int, ((List.take 3 row1) = ([.int .i64 n3, .int .i64 n4, .int .i64 n5] : List D)) ∧ Fw.newObj Z2 (.live t_int [[.int .i64 n3]]) (fun id Z3 => appendTo Tryz.prog Z3 t_int 8 d4 (.osl id 0 1) (fun d5 Z4 => (([[.int .i64 n, .int .i64 n1, d, d1, d2, .bool b]] : List (List D)) = ([[.int .i64 n, .int .i64 n1, d, d1, d2, .bool b]] : List (List D))) ∧ (I d5 (w64 (n2 + 1)) Z4) ∧ ((μ d5 (w64 (n2 + 1)) Z4) < (μ d4 n2 Z2))))) (∃ len2 : Nat, (Len d1 len2) ∧ ∃ I1 : D → Int → Store → Prop, ∃ μ1 : D → Int → Store → Nat, (I1 d4 0 Z2) ∧ ∀ d5 : D, ∀ n3 : Int, ∀ Z3, (I1 d5 n3 Z3) → bcase (decide (n3 < (len2 : Int))) (∃ len3 : Nat, (Idx Tryz.prog Z3 d1 2 len3) ∧ ((0 : Int) ≤ n3) ∧ (n3 < (len3 : Int)) ∧ ∃ row1 : List D, (Row Z3 d1 (Int.toNat n3) row1) ∧ ∃ n4 n5 : Int, ((List.take 2 row1) = ([.int .i64 n4, .int .i64 n5] : List D)) ∧ Fw.newObj Z3 (.live t_int [[.int .i64 n4]]) (fun id Z4 => appendTo Tryz.prog Z4 t_int 8 d5 (.osl id 0 1) (fun d6 Z5 => (I1 d6 (w64 (n3 + 1)) Z5) ∧ ((μ1 d6 (w64 (n3 + 1)) Z5) < (μ1 d5 n3 Z3))))) (DCalls Tryz.prog n_slices_Sort_int [.one d5] Z3 (fun r2 Z4 => (r2 = (.tup [] : RV)) ∧ DCalls Tryz.prog n_slices_Compact_int [.one d5] Z4 (fun r3 Z5 => ∃ d6 : D, (r3 = (.a (.one d6) : RV)) ∧ Qp (.a (.one d6)) Z5)))))) → R Z) → bcase (decide (r < 0)) (Qp (.a (.one .nils)) σ) (∃ len : Nat, (Len c4 len) ∧ bcase (decide (r ≥ (len : Int))) (Qp (.a (.one .nils)) σ) (R σ))
theorem W_conf_Locks (c0 : D) (c1 : D) (c2 : D) (c3 : D) (c4 : D) (c5 : Int) (c6 : Int) (c7 : Int) (c8 : Int) (r : Int) (σ : Store) (Qp : RV → Store → Prop) (h : V_conf_Locks c0 c1 c2 c3 c4 c5 c6 c7 c8 r σ Qp) : DCalls Tryz.prog n_conf_Locks [.agg [c0, c1, c2, c3, c4, .int .i64 c5, .int .i64 c6, .int .i64 c7, .int .i64 c8], .one (.int .i64 r)] σ Qp :=
 dcalls_of_body mixed (by kernel_rfl) Tryz.func20 an_conf_Locks (Eq.mp (by kernel_rfl) h)
def an_ref06_Flank : Ann := { esc := [], cbs := [3], draws := [], loops := [(4, { mods := [(7, SlotSh.one (Sh.any)), (8, SlotSh.one (Sh.any)), (18, SlotSh.one (Sh.int IntKind.i64))], keep := [1, 2, 3, 16, 17] }), (8, { mods := [(7, SlotSh.one (Sh.any)), (8, SlotSh.one (Sh.any)), (12, SlotSh.one (Sh.int IntKind.i64))], keep := [1, 2, 3, 10, 11, 16, 17, 18] })], joins := [(9, { mods := [(7, SlotSh.one (Sh.any)), (8, SlotSh.one (Sh.any))], keep := [1, 2, 3, 10, 11, 12, 16, 17, 18] }), (11, { mods := [], keep := [1, 2, 3, 7, 8, 10, 11, 12, 16, 17, 18] }), (13, { mods := [], keep := [1, 2, 3, 7, 8, 10, 11, 12, 13, 14, 16, 17, 18] })] }
def V_ref06_Flank (c0 : D) (c1 : D) (c2 : D) (c3 : D) (c4 : D) (c5 : Int) (c6 : Int) (c7 : Int) (c8 : Int) (approach : Int) (path : D) (σ : Store) (Qp : RV → Store → Prop) : Prop :=
 ∃ len : Nat, (Len path len) ∧ ∃ I : D → D → Int → Store → Prop, ∃ μ : D → D → Int → Store → Nat, (I .nils .nils 0 σ) ∧ ∀ d d1 : D, ∀ n : Int, ∀ Z, (I d d1 n Z) → bcase (decide (n < (len : Int))) (∃ len1 : Nat, (Idx Tryz.prog Z path 3 len1) ∧ ((0 : Int) ≤ n) ∧ (n < (len1 : Int)) ∧ ∃ row : List D, (Row Z path (Int.toNat n) row) ∧ ∃ n1 n2 n3 : Int, ((List.take 3 row) = ([.int .i64 n1, .int .i64 n2, .int .i64 n3] : List D)) ∧ DCalls Tryz.prog n_ref06_kind [.agg [c0, c1, c2, c3, c4, .int .i64 c5, .int .i64 c6, .int .i64 c7, .int .i64 c8], .one (.int .i64 n1)] Z (fun r Z1 => ∃ n4 : Int, (r = (.a (.one (.int .i64 n4)) : RV)) ∧ ∃ I1 : D → D → Int → Store → Prop, ∃ μ1 : D → D → Int → Store → Nat, (I1 d d1 0 Z1) ∧ ∀ d2 d3 : D, ∀ n5 : Int, ∀ Z2, (I1 d2 d3 n5 Z2) → DCalls Tryz.prog n_ref05_Ends [.one (.int .i64 n4)] Z2 (fun r1 Z3 => ∃ n6 : Int, (r1 = (.a (.one (.int .i64 n6)) : RV)) ∧ bcase (decide (n5 < n6)) (∀ R : D → D → Store → Prop, (∀ d4 d5 : D, ∀ Z4, ((([[.int .i64 n1, .int .i64 n2, .int .i64 n3]] : List (List D)) = ([[.int .i64 n1, .int .i64 n2, .int .i64 n3]] : List (List D))) ∧ (I1 d4 d5 (w64 (n5 + 1)) Z4) ∧ ((μ1 d4 d5 (w64 (n5 + 1)) Z4) < (μ1 d2 d3 n5 Z2))) → R d4 d5 Z4) → ∀ R1 : Store → Prop, (∀ Z4, (DCalls Tryz.prog n_ref05_Next [.one c1, .one (.int .i64 n1), .one (.int .i64 n5)] Z4 (fun r2 Z5 => ∃ n7 n8 : Int, ∃ b : Bool, (r2 = (.tup [.one (.int .i64 n7), .one (.int .i64 n8), .one (.bool b)] : RV)) ∧ ∀ R2 : Store → Prop, (∀ Z6, (Fw.newObj Z6 (.live t_int [[.int .i64 n7]]) (fun id Z7 => appendTo Tryz.prog Z7 t_int 8 d3 (.osl id 0 1) (fun d4 Z8 => Fw.newObj Z8 (.live t_Need [[.int .i64 n7, .int .i64 (w64 (3 - n8))]]) (fun id1 Z9 => appendTo Tryz.prog Z9 t_Need 16 d2 (.osl id1 0 1) (fun d5 Z10 => (([[.int .i64 n1, .int .i64 n2, .int .i64 n3]] : List (List D)) = ([[.int .i64 n1, .int .i64 n2, .int .i64 n3]] : List (List D))) ∧ R d5 d4 Z10))))) → R2 Z6) → bcase (!b) ((([[.int .i64 n1, .int .i64 n2, .int .i64 n3]] : List (List D)) = ([[.int .i64 n1, .int .i64 n2, .int .i64 n3]] : List (List D))) ∧ R d2 d3 Z5) (DCalls Tryz.prog n_ref06_kind [.agg [c0, c1, c2, c3, c4, .int .i64 c5, .int .i64 c6, .int .i64 c7, .int .i64 c8], .one (.int .i64 n7)] Z5 (fun r3 Z6 => ∃ n9 : Int, (r3 = (.a (.one (.int .i64 n9)) : RV)) ∧ bcase (n9 != 1) ((([[.int .i64 n1, .int .i64 n2, .int .i64 n3]] : List (List D)) = ([[.int .i64 n1, .int .i64 n2, .int .i64 n3]] : List (List D))) ∧ R d2 d3 Z6) (bcase (n8 != 1) (bcase (n8 != 2) ((([[.int .i64 n1, .int .i64 n2, .int .i64 n3]] : List (List D)) = ([[.int .i64 n1, .int .i64 n2, .int .i64 n3]] : List (List D))) ∧ R d2 d3 Z6) (DCalls Tryz.prog n_ref06_Sections [.one path] Z6 (fun r4 Z7 => ∃ d4 : D, (r4 = (.a (.one d4) : RV)) ∧ DCalls Tryz.prog n_ref06_in [.one d4, .one (.int .i64 n7)] Z7 (fun r5 Z8 => ∃ b1 : Bool, (r5 = (.a (.one (.bool b1)) : RV)) ∧ bcase b1 ((([[.int .i64 n1, .int .i64 n2, .int .i64 n3]] : List (List D)) = ([[.int .i64 n1, .int .i64 n2, .int .i64 n3]] : List (List D))) ∧ R d2 d3 Z8) (bcase (n7 == approach) ((([[.int .i64 n1, .int .i64 n2, .int .i64 n3]] : List (List D)) = ([[.int .i64 n1, .int .i64 n2, .int .i64 n3]] : List (List D))) ∧ R d2 d3 Z8) (DCalls Tryz.prog n_ref06_in [.one d3, .one (.int .i64 n7)] Z8 (fun r6 Z9 => ∃ b2 : Bool, (r6 = (.a (.one (.bool b2)) : RV)) ∧ bcase b2 ((([[.int .i64 n1, .int .i64 n2, .int .i64 n3]] : List (List D)) = ([[.int .i64 n1, .int .i64 n2, .int .i64 n3]] : List (List D))) ∧ R d2 d3 Z9) ((([[.int .i64 n1, .int .i64 n2, .int .i64 n3]] : List (List D)) = ([[.int .i64 n1, .int .i64 n2, .int .i64 n3]] : List (List D))) ∧ R2 Z9)))))))) (DCalls Tryz.prog n_ref06_Sections [.one path] Z6 (fun r4 Z7 => ∃ d4 : D, (r4 = (.a (.one d4) : RV)) ∧ DCalls Tryz.prog n_ref06_in [.one d4, .one (.int .i64 n7)] Z7 (fun r5 Z8 => ∃ b1 : Bool, (r5 = (.a (.one (.bool b1)) : RV)) ∧ bcase b1 ((([[.int .i64 n1, .int .i64 n2, .int .i64 n3]] : List (List D)) = ([[.int .i64 n1, .int .i64 n2, .int .i64 n3]] : List (List D))) ∧ R d2 d3 Z8) (bcase (n7 == approach) ((([[.int .i64 n1, .int .i64 n2, .int .i64 n3]] : List (List D)) = ([[.int .i64 n1, .int .i64 n2, .int .i64 n3]] : List (List D))) ∧ R d2 d3 Z8) (DCalls Tryz.prog n_ref06_in [.one d3, .one (.int .i64 n7)] Z8 (fun r6 Z9 => ∃ b2 : Bool, (r6 = (.a (.one (.bool b2)) : RV)) ∧ bcase b2 ((([[.int .i64 n1, .int .i64 n2, .int .i64 n3]] : List (List D)) = ([[.int .i64 n1, .int .i64 n2, .int .i64 n3]] : List (List D))) ∧ R d2 d3 Z9) ((([[.int .i64 n1, .int .i64 n2, .int .i64 n3]] : List (List D)) = ([[.int .i64 n1, .int .i64 n2, .int .i64 n3]] : List (List D))) ∧ R2 Z9)))))))))))) → R1 Z4) → bcase (n5 == n2) ((([[.int .i64 n1, .int .i64 n2, .int .i64 n3]] : List (List D)) = ([[.int .i64 n1, .int .i64 n2, .int .i64 n3]] : List (List D))) ∧ R d2 d3 Z3) (bcase (n5 == n3) ((([[.int .i64 n1, .int .i64 n2, .int .i64 n3]] : List (List D)) = ([[.int .i64 n1, .int .i64 n2, .int .i64 n3]] : List (List D))) ∧ R d2 d3 Z3) ((([[.int .i64 n1, .int .i64 n2, .int .i64 n3]] : List (List D)) = ([[.int .i64 n1, .int .i64 n2, .int .i64 n3]] : List (List D))) ∧ R1 Z3))) ((I d2 d3 (w64 (n + 1)) Z3) ∧ ((μ d2 d3 (w64 (n + 1)) Z3) < (μ d d1 n Z)))))) (Qp (.a (.one d)) Z)
theorem W_ref06_Flank (c0 : D) (c1 : D) (c2 : D) (c3 : D) (c4 : D) (c5 : Int) (c6 : Int) (c7 : Int) (c8 : Int) (approach : Int) (path : D) (σ : Store) (Qp : RV → Store → Prop) (h : V_ref06_Flank c0 c1 c2 c3 c4 c5 c6 c7 c8 approach path σ Qp) : DCalls Tryz.prog n_ref06_Flank [.agg [c0, c1, c2, c3, c4, .int .i64 c5, .int .i64 c6, .int .i64 c7, .int .i64 c8], .one (.int .i64 approach), .one path] σ Qp :=
 dcalls_of_body mixed (by kernel_rfl) Tryz.func28 an_ref06_Flank (Eq.mp (by kernel_rfl) h)
def an_topo_Next : Ann := { esc := [], cbs := [], draws := [(5, { ord := [0, 1, 2, 3, 4, 5, 6], nb := [], av := [], dir := [] }), (7, { ord := [0, 1, 2, 3, 4, 5, 6], nb := [], av := [], dir := [] })], loops := [(2, { mods := [(13, SlotSh.one (Sh.int IntKind.i64))], keep := [1, 2, 11, 12] })], joins := [] }
def V_topo_Next (joints : D) (section_ : Int) (end_ : Int) (σ : Store) (Qp : RV → Store → Prop) : Prop :=
 ∃ len : Nat, (Len joints len) ∧ ∃ I : Int → Store → Prop, ∃ μ : Int → Store → Nat, (I 0 σ) ∧ ∀ n : Int, ∀ Z, (I n Z) → bcase (decide (n < (len : Int))) (∃ len1 : Nat, (Idx Tryz.prog Z joints 4 len1) ∧ ((0 : Int) ≤ n) ∧ (n < (len1 : Int)) ∧ ∃ row : List D, (Row Z joints (Int.toNat n) row) ∧ ∃ n1 n2 n3 n4 : Int, ((List.take 4 row) = ([.int .i64 n1, .int .i64 n2, .int .i64 n3, .int .i64 n4] : List D)) ∧ bcase (n1 == section_) (bcase (n2 == end_) (Qp (.tup [.one (.int .i64 n3), .one (.int .i64 n4), .one (.bool true)]) Z) (bcase (n3 == section_) (bcase (n4 == end_) (Qp (.tup [.one (.int .i64 n1), .one (.int .i64 n2), .one (.bool true)]) Z) ((I (w64 (n + 1)) Z) ∧ ((μ (w64 (n + 1)) Z) < (μ n Z)))) ((I (w64 (n + 1)) Z) ∧ ((μ (w64 (n + 1)) Z) < (μ n Z))))) (bcase (n3 == section_) (bcase (n4 == end_) (Qp (.tup [.one (.int .i64 n1), .one (.int .i64 n2), .one (.bool true)]) Z) ((I (w64 (n + 1)) Z) ∧ ((μ (w64 (n + 1)) Z) < (μ n Z)))) ((I (w64 (n + 1)) Z) ∧ ((μ (w64 (n + 1)) Z) < (μ n Z))))) (Qp (.tup [.one (.int .i64 0), .one (.int .i64 0), .one (.bool false)]) Z)
theorem W_topo_Next (joints : D) (section_ : Int) (end_ : Int) (σ : Store) (Qp : RV → Store → Prop) (h : V_topo_Next joints section_ end_ σ Qp) : DCalls Tryz.prog n_topo_Next [.one joints, .one (.int .i64 section_), .one (.int .i64 end_)] σ Qp :=
 dcalls_of_body mixed (by kernel_rfl) Tryz.func32 an_topo_Next (Eq.mp (by kernel_rfl) h)
def an_ref06_words : Ann := { esc := [], cbs := [], draws := [], loops := [(2, { mods := [(0, SlotSh.one (Sh.str)), (9, SlotSh.one (Sh.int IntKind.i64))], keep := [7, 8] })], joins := [] }
def V_ref06_words (w : ByteArray) (l : D) (σ : Store) (Qp : RV → Store → Prop) : Prop :=
 ∃ len : Nat, (Len l len) ∧ ∃ I : ByteArray → Int → Store → Prop, ∃ μ : ByteArray → Int → Store → Nat, (I w 0 σ) ∧ ∀ s : ByteArray, ∀ n : Int, ∀ Z, (I s n Z) → bcase (decide (n < (len : Int))) (∃ len1 : Nat, (Idx Tryz.prog Z l 1 len1) ∧ ((0 : Int) ≤ n) ∧ (n < (len1 : Int)) ∧ ∃ row : List D, (Row Z l (Int.toNat n) row) ∧ ∃ n1 : Int, ((List.take 1 row) = ([.int .i64 n1] : List D)) ∧ DCalls Tryz.prog n_strconv_Itoa [.one (.int .i64 n1)] Z (fun r Z1 => ∃ s1 : ByteArray, (r = (.a (.one (.str s1)) : RV)) ∧ (((1 : Int) + (ByteArray.size s1 : Int)) ≤ 9223372036854775807) ∧ (((ByteArray.size s : Int) + (ByteArray.size (ByteArray.mk (Array.mk (HAppend.hAppend (Array.toList (ByteArray.data (ByteArray.mk (List.toArray [32])))) (Array.toList (ByteArray.data s1))))) : Int)) ≤ 9223372036854775807) ∧ (I (ByteArray.mk (Array.mk (HAppend.hAppend (Array.toList (ByteArray.data s)) (Array.toList (ByteArray.data (ByteArray.append (ByteArray.mk (List.toArray [32])) s1)))))) (w64 (n + 1)) Z1) ∧ ((μ (ByteArray.append s (ByteArray.append (ByteArray.mk (List.toArray [32])) s1)) (w64 (n + 1)) Z1) < (μ s n Z)))) (Qp (.a (.one (.str s))) Z)
theorem W_ref06_words (w : ByteArray) (l : D) (σ : Store) (Qp : RV → Store → Prop) (h : V_ref06_words w l σ Qp) : DCalls Tryz.prog n_ref06_words [.one (.str w), .one l] σ Qp :=
 dcalls_of_body mixed (by kernel_rfl) Tryz.func36 an_ref06_words (Eq.mp (by kernel_rfl) h)
def an_conf_plan_route : Ann := { esc := [], cbs := [2, 3], draws := [(3, { ord := [0, 1, 2, 3, 4, 6, 7, 5, 8, 9, 10, 11], nb := [1, 2, 7], av := [], dir := [] }), (5, { ord := [0, 1, 2, 3, 4, 5, 6, 7], nb := [1], av := [], dir := [] })], loops := [], joins := [] }
def V_conf_plan_route (p0 : D) (p1 : D) (p2 : D) (p3 : D) (p4 : D) (p5 : Int) (p6 : Int) (p7 : Int) (p8 : Int) (r0 : Int) (r1 : Int) (r2 : D) (r3 : D) (r4 : D) (r5 : Bool) (σ : Store) (Qp : RV → Store → Prop) : Prop :=
 DCalls Tryz.prog n_conf_plan_path [.agg [p0, p1, p2, p3, p4, .int .i64 p5, .int .i64 p6, .int .i64 p7, .int .i64 p8], .agg [.int .i64 r0, .int .i64 r1, r2, r3, r4, .bool r5]] σ (fun r Z => ∃ b : Bool, (r = (.a (.one (.bool b)) : RV)) ∧ bcase (!b) (Qp (.a (.one (.int .i64 9))) Z) (DCalls Tryz.prog n_conf_plan_approach [.agg [p0, p1, p2, p3, p4, .int .i64 p5, .int .i64 p6, .int .i64 p7, .int .i64 p8], .agg [.int .i64 r0, .int .i64 r1, r2, r3, r4, .bool r5]] Z (fun r6 Z1 => ∃ n : Int, (r6 = (.a (.one (.int .i64 n)) : RV)) ∧ DCalls Tryz.prog n_conf_plan_flank [.agg [p0, p1, p2, p3, p4, .int .i64 p5, .int .i64 p6, .int .i64 p7, .int .i64 p8], .one (.int .i64 n), .one r2] Z1 (fun r7 Z2 => ∃ d : D, (r7 = (.a (.one d) : RV)) ∧ DCalls Tryz.prog n_slices_Equal_Need [.one r3, .one d] Z2 (fun r8 Z3 => ∃ b1 : Bool, (r8 = (.a (.one (.bool b1)) : RV)) ∧ bcase (!b1) (Qp (.a (.one (.int .i64 10))) Z3) (DCalls Tryz.prog n_conf_plan_overlap [.agg [p0, p1, p2, p3, p4, .int .i64 p5, .int .i64 p6, .int .i64 p7, .int .i64 p8], .agg [.int .i64 r0, .int .i64 r1, r2, r3, r4, .bool r5]] Z3 (fun r9 Z4 => ∃ d1 : D, (r9 = (.a (.one d1) : RV)) ∧ DCalls Tryz.prog n_slices_Equal_int [.one r4, .one d1] Z4 (fun r10 Z5 => ∃ b2 : Bool, (r10 = (.a (.one (.bool b2)) : RV)) ∧ bcase (!b2) (Qp (.a (.one (.int .i64 11))) Z5) (Qp (.a (.one (.int .i64 0))) Z5)))))))))
theorem W_conf_plan_route (p0 : D) (p1 : D) (p2 : D) (p3 : D) (p4 : D) (p5 : Int) (p6 : Int) (p7 : Int) (p8 : Int) (r0 : Int) (r1 : Int) (r2 : D) (r3 : D) (r4 : D) (r5 : Bool) (σ : Store) (Qp : RV → Store → Prop) (h : V_conf_plan_route p0 p1 p2 p3 p4 p5 p6 p7 p8 r0 r1 r2 r3 r4 r5 σ Qp) : DCalls Tryz.prog n_conf_plan_route [.agg [p0, p1, p2, p3, p4, .int .i64 p5, .int .i64 p6, .int .i64 p7, .int .i64 p8], .agg [.int .i64 r0, .int .i64 r1, r2, r3, r4, .bool r5]] σ Qp :=
 dcalls_of_body mixed (by kernel_rfl) Tryz.func40 an_conf_plan_route (Eq.mp (by kernel_rfl) h)
def an_ref06_crossings : Ann := { esc := [], cbs := [1], draws := [], loops := [(2, { mods := [(8, SlotSh.one (Sh.int IntKind.i64))], keep := [1, 6, 7] })], joins := [] }
def V_ref06_crossings (c0 : D) (c1 : D) (c2 : D) (c3 : D) (c4 : D) (c5 : Int) (c6 : Int) (c7 : Int) (c8 : Int) (σ : Store) (Qp : RV → Store → Prop) : Prop :=
 ∃ len : Nat, (Len c3 len) ∧ ∃ I : Int → Store → Prop, ∃ μ : Int → Store → Nat, (I 0 σ) ∧ ∀ n : Int, ∀ Z, (I n Z) → bcase (decide (n < (len : Int))) (∃ len1 : Nat, (Idx Tryz.prog Z c3 1 len1) ∧ ((0 : Int) ≤ n) ∧ (n < (len1 : Int)) ∧ ∃ row : List D, (Row Z c3 (Int.toNat n) row) ∧ ∃ n1 : Int, ((List.take 1 row) = ([.int .i64 n1] : List D)) ∧ DCalls Tryz.prog n_ref06_kind [.agg [c0, c1, c2, c3, c4, .int .i64 c5, .int .i64 c6, .int .i64 c7, .int .i64 c8], .one (.int .i64 n1)] Z (fun r Z1 => ∃ n2 : Int, (r = (.a (.one (.int .i64 n2)) : RV)) ∧ bcase (decide (n2 < 0)) (Qp (.a (.one (.bool false))) Z1) (∃ len2 : Nat, (Idx Tryz.prog Z1 c0 3 len2) ∧ ((0 : Int) ≤ n1) ∧ (n1 < (len2 : Int)) ∧ ∃ row1 : List D, (Row Z1 c0 (Int.toNat n1) row1) ∧ ∃ n3 : Int, ((List.take 1 (List.drop 2 row1)) = ([.int .i64 n3] : List D)) ∧ bcase (n3 != 0) (Qp (.a (.one (.bool false))) Z1) (∃ len3 : Nat, (IdxN Tryz.prog Z1 c3 1 len3) ∧ ((0 : Int) ≤ 0) ∧ ((0 : Int) ≤ n) ∧ (n ≤ (len3 : Int)) ∧ DCalls Tryz.prog n_ref06_in [.one (dsub c3 0 (Int.toNat n)), .one (.int .i64 n1)] Z1 (fun r1 Z2 => ∃ b : Bool, (r1 = (.a (.one (.bool b)) : RV)) ∧ bcase b (Qp (.a (.one (.bool false))) Z2) ((I (w64 (n + 1)) Z2) ∧ ((μ (w64 (n + 1)) Z2) < (μ n Z)))))))) (∃ len1 : Nat, (Len c3 len1) ∧ Qp (.a (.one (.bool (decide ((len1 : Int) ≤ 4))))) Z)
theorem W_ref06_crossings (c0 : D) (c1 : D) (c2 : D) (c3 : D) (c4 : D) (c5 : Int) (c6 : Int) (c7 : Int) (c8 : Int) (σ : Store) (Qp : RV → Store → Prop) (h : V_ref06_crossings c0 c1 c2 c3 c4 c5 c6 c7 c8 σ Qp) : DCalls Tryz.prog n_ref06_crossings [.agg [c0, c1, c2, c3, c4, .int .i64 c5, .int .i64 c6, .int .i64 c7, .int .i64 c8]] σ Qp :=
 dcalls_of_body mixed (by kernel_rfl) Tryz.func44 an_ref06_crossings (Eq.mp (by kernel_rfl) h)
def an_conf_printer_route : Ann := { esc := [], cbs := [3], draws := [], loops := [(7, { mods := [(24, SlotSh.one (Sh.int IntKind.i64))], keep := [0, 3, 22, 23] }), (13, { mods := [(43, SlotSh.one (Sh.int IntKind.i64))], keep := [0, 3, 41, 42] })], joins := [(4, { mods := [(4, SlotSh.one (Sh.int IntKind.i64))], keep := [0, 3] })] }
def V_conf_printer_route (p : D) (r0 : Int) (r1 : Int) (r2 : D) (r3 : D) (r4 : D) (r5 : Bool) (σ : Store) (Qp : RV → Store → Prop) : Prop :=
 ∀ R : Int → Store → Prop, (∀ n : Int, ∀ Z, (Fw.newObj Z (.live t_int [[.int .i64 r0], [.int .i64 r1], [.int .i64 n]]) (fun id Z1 => DCalls Tryz.prog n_conf_printer_say [.one p, .one (.str (ByteArray.mk (List.toArray [114, 111, 117, 116, 101]))), .one (.osl id 0 3)] Z1 (fun r Z2 => (r = (.tup [] : RV)) ∧ DCalls Tryz.prog n_conf_printer_say [.one p, .one (.str (ByteArray.mk (List.toArray [32, 112, 97, 116, 104]))), .one .nils] Z2 (fun r6 Z3 => (r6 = (.tup [] : RV)) ∧ ∃ len : Nat, (Len r2 len) ∧ ∃ I : Int → Store → Prop, ∃ μ : Int → Store → Nat, (I 0 Z3) ∧ ∀ n1 : Int, ∀ Z4, (I n1 Z4) → bcase (decide (n1 < (len : Int))) (∃ len1 : Nat, (Idx Tryz.prog Z4 r2 3 len1) ∧ ((0 : Int) ≤ n1) ∧ (n1 < (len1 : Int)) ∧ ∃ row : List D, (Row Z4 r2 (Int.toNat n1) row) ∧ ∃ n2 n3 n4 : Int, ((List.take 3 row) = ([.int .i64 n2, .int .i64 n3, .int .i64 n4] : List D)) ∧ Fw.newObj Z4 (.live t_int [[.int .i64 n2], [.int .i64 n3], [.int .i64 n4]]) (fun id1 Z5 => DCalls Tryz.prog n_conf_printer_say [.one p, .one (.str (ByteArray.mk (List.toArray []))), .one (.osl id1 0 3)] Z5 (fun r7 Z6 => (r7 = (.tup [] : RV)) ∧ (I (w64 (n1 + 1)) Z6) ∧ ((μ (w64 (n1 + 1)) Z6) < (μ n1 Z4))))) (DCalls Tryz.prog n_conf_printer_say [.one p, .one (.str (ByteArray.mk (List.toArray [32, 102, 108, 97, 110, 107]))), .one .nils] Z4 (fun r7 Z5 => (r7 = (.tup [] : RV)) ∧ ∃ len1 : Nat, (Len r3 len1) ∧ ∃ I1 : Int → Store → Prop, ∃ μ1 : Int → Store → Nat, (I1 0 Z5) ∧ ∀ n2 : Int, ∀ Z6, (I1 n2 Z6) → bcase (decide (n2 < (len1 : Int))) (∃ len2 : Nat, (Idx Tryz.prog Z6 r3 2 len2) ∧ ((0 : Int) ≤ n2) ∧ (n2 < (len2 : Int)) ∧ ∃ row : List D, (Row Z6 r3 (Int.toNat n2) row) ∧ ∃ n3 n4 : Int, ((List.take 2 row) = ([.int .i64 n3, .int .i64 n4] : List D)) ∧ Fw.newObj Z6 (.live t_int [[.int .i64 n3], [.int .i64 n4]]) (fun id1 Z7 => DCalls Tryz.prog n_conf_printer_say [.one p, .one (.str (ByteArray.mk (List.toArray []))), .one (.osl id1 0 2)] Z7 (fun r8 Z8 => (r8 = (.tup [] : RV)) ∧ (I1 (w64 (n2 + 1)) Z8) ∧ ((μ1 (w64 (n2 + 1)) Z8) < (μ1 n2 Z6))))) (DCalls Tryz.prog n_conf_printer_line [.one p, .one (.str (ByteArray.mk (List.toArray [32, 111, 118, 101, 114, 108, 97, 112]))), .one r4] Z6 (fun r8 Z7 => (r8 = (.tup [] : RV)) ∧ Qp (.tup []) Z7)))))))) → R n Z) → bcase r5 (R 1 σ) (R 0 σ)
theorem W_conf_printer_route (p : D) (r0 : Int) (r1 : Int) (r2 : D) (r3 : D) (r4 : D) (r5 : Bool) (σ : Store) (Qp : RV → Store → Prop) (h : V_conf_printer_route p r0 r1 r2 r3 r4 r5 σ Qp) : DCalls Tryz.prog n_conf_printer_route [.one p, .agg [.int .i64 r0, .int .i64 r1, r2, r3, r4, .bool r5]] σ Qp :=
 dcalls_of_body mixed (by kernel_rfl) Tryz.func48 an_conf_printer_route (Eq.mp (by kernel_rfl) h)
def an_slices_ContainsFunc_int : Ann := { esc := [], cbs := [], draws := [], loops := [], joins := [] }
def V_slices_ContainsFunc_int (s : D) (f : D) (σ : Store) (Qp : RV → Store → Prop) : Prop :=
 DCalls Tryz.prog n_slices_IndexFunc_int [.one s, .one f] σ (fun r Z => ∃ n : Int, (r = (.a (.one (.int .i64 n)) : RV)) ∧ Qp (.a (.one (.bool (decide (n ≥ 0))))) Z)
theorem W_slices_ContainsFunc_int (s : D) (f : D) (σ : Store) (Qp : RV → Store → Prop) (h : V_slices_ContainsFunc_int s f σ Qp) : DCalls Tryz.prog n_slices_ContainsFunc_int [.one s, .one f] σ Qp :=
 dcalls_of_body mixed (by kernel_rfl) Tryz.func61 an_slices_ContainsFunc_int (Eq.mp (by kernel_rfl) h)
def an_ref06_Sections : Ann := { esc := [], cbs := [], draws := [], loops := [(3, { mods := [(3, SlotSh.one (Sh.any)), (8, SlotSh.one (Sh.int IntKind.i64))], keep := [6, 7] })], joins := [] }
def V_ref06_Sections (path : D) (σ : Store) (Qp : RV → Store → Prop) : Prop :=
 ∃ len : Nat, (Len path len) ∧ ∃ I : D → Int → Store → Prop, ∃ μ : D → Int → Store → Nat, (I .nils 0 σ) ∧ ∀ d : D, ∀ n : Int, ∀ Z, (I d n Z) → bcase (decide (n < (len : Int))) (∃ len1 : Nat, (Idx Tryz.prog Z path 3 len1) ∧ ((0 : Int) ≤ n) ∧ (n < (len1 : Int)) ∧ ∃ row : List D, (Row Z path (Int.toNat n) row) ∧ ∃ n1 n2 n3 : Int, ((List.take 3 row) = ([.int .i64 n1, .int .i64 n2, .int .i64 n3] : List D)) ∧ Fw.newObj Z (.live t_int [[.int .i64 n1]]) (fun id Z1 => appendTo Tryz.prog Z1 t_int 8 d (.osl id 0 1) (fun d1 Z2 => (I d1 (w64 (n + 1)) Z2) ∧ ((μ d1 (w64 (n + 1)) Z2) < (μ d n Z))))) (Qp (.a (.one d)) Z)
theorem W_ref06_Sections (path : D) (σ : Store) (Qp : RV → Store → Prop) (h : V_ref06_Sections path σ Qp) : DCalls Tryz.prog n_ref06_Sections [.one path] σ Qp :=
 dcalls_of_body mixed (by kernel_rfl) Tryz.func65 an_ref06_Sections (Eq.mp (by kernel_rfl) h)
def an_ref05_Next : Ann := { esc := [], cbs := [], draws := [(5, { ord := [0, 1, 2, 3, 4, 5, 6], nb := [], av := [], dir := [] }), (7, { ord := [0, 1, 2, 3, 4, 5, 6], nb := [], av := [], dir := [] })], loops := [(2, { mods := [(13, SlotSh.one (Sh.int IntKind.i64))], keep := [1, 2, 11, 12] })], joins := [] }
def V_ref05_Next (joints : D) (section_ : Int) (end_ : Int) (σ : Store) (Qp : RV → Store → Prop) : Prop :=
 ∃ len : Nat, (Len joints len) ∧ ∃ I : Int → Store → Prop, ∃ μ : Int → Store → Nat, (I 0 σ) ∧ ∀ n : Int, ∀ Z, (I n Z) → bcase (decide (n < (len : Int))) (∃ len1 : Nat, (Idx Tryz.prog Z joints 4 len1) ∧ ((0 : Int) ≤ n) ∧ (n < (len1 : Int)) ∧ ∃ row : List D, (Row Z joints (Int.toNat n) row) ∧ ∃ n1 n2 n3 n4 : Int, ((List.take 4 row) = ([.int .i64 n1, .int .i64 n2, .int .i64 n3, .int .i64 n4] : List D)) ∧ bcase (n1 == section_) (bcase (n2 == end_) (Qp (.tup [.one (.int .i64 n3), .one (.int .i64 n4), .one (.bool true)]) Z) (bcase (n3 == section_) (bcase (n4 == end_) (Qp (.tup [.one (.int .i64 n1), .one (.int .i64 n2), .one (.bool true)]) Z) ((I (w64 (n + 1)) Z) ∧ ((μ (w64 (n + 1)) Z) < (μ n Z)))) ((I (w64 (n + 1)) Z) ∧ ((μ (w64 (n + 1)) Z) < (μ n Z))))) (bcase (n3 == section_) (bcase (n4 == end_) (Qp (.tup [.one (.int .i64 n1), .one (.int .i64 n2), .one (.bool true)]) Z) ((I (w64 (n + 1)) Z) ∧ ((μ (w64 (n + 1)) Z) < (μ n Z)))) ((I (w64 (n + 1)) Z) ∧ ((μ (w64 (n + 1)) Z) < (μ n Z))))) (Qp (.tup [.one (.int .i64 0), .one (.int .i64 0), .one (.bool false)]) Z)
theorem W_ref05_Next (joints : D) (section_ : Int) (end_ : Int) (σ : Store) (Qp : RV → Store → Prop) (h : V_ref05_Next joints section_ end_ σ Qp) : DCalls Tryz.prog n_ref05_Next [.one joints, .one (.int .i64 section_), .one (.int .i64 end_)] σ Qp :=
 dcalls_of_body mixed (by kernel_rfl) Tryz.func69 an_ref05_Next (Eq.mp (by kernel_rfl) h)
def an_topo_between : Ann := { esc := [], cbs := [], draws := [], loops := [], joins := [] }
def V_topo_between (n : Int) (lo : Int) (hi : Int) (σ : Store) (Qp : RV → Store → Prop) : Prop :=
 bcase (decide (lo ≤ n)) (Qp (.a (.one (.bool (decide (n ≤ hi))))) σ) (Qp (.a (.one (.bool false))) σ)
theorem W_topo_between (n : Int) (lo : Int) (hi : Int) (σ : Store) (Qp : RV → Store → Prop) (h : V_topo_between n lo hi σ Qp) : DCalls Tryz.prog n_topo_between [.one (.int .i64 n), .one (.int .i64 lo), .one (.int .i64 hi)] σ Qp :=
 dcalls_of_body mixed (by kernel_rfl) Tryz.func73 an_topo_between (Eq.mp (by kernel_rfl) h)
def an_conf_plan_path : Ann := { esc := [], cbs := [2, 3], draws := [], loops := [(7, { mods := [(5, SlotSh.bx [Sh.int IntKind.i64, Sh.int IntKind.i64]), (63, SlotSh.one (Sh.int IntKind.i64))], keep := [2, 3, 7, 8, 9, 61, 62] })], joins := [(5, { mods := [], keep := [2, 3, 5, 7, 8] }), (18, { mods := [(5, SlotSh.bx [Sh.int IntKind.i64, Sh.int IntKind.i64])], keep := [2, 3, 7, 8, 9, 61, 62, 63] }), (16, { mods := [(20, SlotSh.one (Sh.bool))], keep := [2, 3, 5, 7, 8, 9, 11, 12, 13, 14, 15, 18, 19, 61, 62, 63] })] }
def V_conf_plan_path (p0 : D) (p1 : D) (p2 : D) (p3 : D) (p4 : D) (p5 : Int) (p6 : Int) (p7 : Int) (p8 : Int) (r0 : Int) (r1 : Int) (r2 : D) (r3 : D) (r4 : D) (r5 : Bool) (σ : Store) (Qp : RV → Store → Prop) : Prop :=
 DCalls Tryz.prog n_conf_plan_signal [.agg [p0, p1, p2, p3, p4, .int .i64 p5, .int .i64 p6, .int .i64 p7, .int .i64 p8], .one (.int .i64 r0)] σ (fun r Z => ∃ n n1 : Int, ∃ b : Bool, (r = (.tup [.agg [.int .i64 n, .int .i64 n1], .one (.bool b)] : RV)) ∧ DCalls Tryz.prog n_conf_plan_signal [.agg [p0, p1, p2, p3, p4, .int .i64 p5, .int .i64 p6, .int .i64 p7, .int .i64 p8], .one (.int .i64 r1)] Z (fun r6 Z1 => ∃ n2 n3 : Int, ∃ b1 : Bool, (r6 = (.tup [.agg [.int .i64 n2, .int .i64 n3], .one (.bool b1)] : RV)) ∧ ∀ R : Store → Prop, (∀ Z2, (Fw.newObj Z2 (.mp 0 []) (fun id Z3 => MPut Tryz.prog t_int Z3 (.omap id) (.one (.int .i64 n)) (.one (.int .i64 1)) (fun Z4 => ∃ len : Nat, (Len r2 len) ∧ ∃ I : Int → Int → Int → Store → Prop, ∃ μ : Int → Int → Int → Store → Nat, (I n n1 0 Z4) ∧ ∀ n4 n5 n6 : Int, ∀ Z5, (I n4 n5 n6 Z5) → bcase (decide (n6 < (len : Int))) (∀ R1 : Int → Int → Store → Prop, (∀ n7 n8 : Int, ∀ Z6, ((([[.int .i64 n2, .int .i64 n3]] : List (List D)) = ([[.int .i64 n2, .int .i64 n3]] : List (List D))) ∧ (I n7 n8 (w64 (n6 + 1)) Z6) ∧ ((μ n7 n8 (w64 (n6 + 1)) Z6) < (μ n4 n5 n6 Z5))) → R1 n7 n8 Z6) → ∃ len1 : Nat, (Idx Tryz.prog Z5 r2 3 len1) ∧ ((0 : Int) ≤ n6) ∧ (n6 < (len1 : Int)) ∧ ∃ row : List D, (Row Z5 r2 (Int.toNat n6) row) ∧ ∃ n7 n8 n9 : Int, ((List.take 3 row) = ([.int .i64 n7, .int .i64 n8, .int .i64 n9] : List D)) ∧ DCalls Tryz.prog n_topo_Next [.one p1, .one (.int .i64 n4), .one (.int .i64 n5)] Z5 (fun r7 Z6 => ∃ n10 n11 : Int, ∃ b2 : Bool, (r7 = (.tup [.one (.int .i64 n10), .one (.int .i64 n11), .one (.bool b2)] : RV)) ∧ DCalls Tryz.prog n_conf_plan_section [.agg [p0, p1, p2, p3, p4, .int .i64 p5, .int .i64 p6, .int .i64 p7, .int .i64 p8], .one (.int .i64 n10)] Z6 (fun r8 Z7 => ∃ n12 n13 n14 : Int, ∃ b3 : Bool, (r8 = (.tup [.agg [.int .i64 n12, .int .i64 n13, .int .i64 n14], .one (.bool b3)] : RV)) ∧ DCalls Tryz.prog n_topo_Pos [.one (.int .i64 n12), .one (.int .i64 n8), .one (.int .i64 n9)] Z7 (fun r9 Z8 => ∃ n15 : Int, ∃ b4 : Bool, (r9 = (.tup [.one (.int .i64 n15), .one (.bool b4)] : RV)) ∧ ∃ r10 : Option A, (MLook Tryz.prog t_int Z8 (.omap id) (.one (.int .i64 n10)) r10) ∧ ∃ n16 : Int, ((Option.getD r10 (.one (.int .i64 0))) = (.one (.int .i64 n16) : A)) ∧ MPut Tryz.prog t_int Z8 (.omap id) (.one (.int .i64 n10)) (.one (.int .i64 (w64 (n16 + 1)))) (fun Z9 => DCalls Tryz.prog n_slices_Contains_Signal [.one p2, .agg [.int .i64 n7, .int .i64 n9]] Z9 (fun r11 Z10 => ∃ b5 : Bool, (r11 = (.a (.one (.bool b5)) : RV)) ∧ ∀ R2 : Bool → Store → Prop, (∀ b6 : Bool, ∀ Z11, (bcase (!b2) (Qp (.a (.one (.bool false))) Z11) (bcase (n10 != n7) (Qp (.a (.one (.bool false))) Z11) (bcase (n11 != n8) (Qp (.a (.one (.bool false))) Z11) (bcase (!b4) (Qp (.a (.one (.bool false))) Z11) (∃ r12 : Option A, (MLook Tryz.prog t_int Z11 (.omap id) (.one (.int .i64 n10)) r12) ∧ ∃ n17 : Int, ((Option.getD r12 (.one (.int .i64 0))) = (.one (.int .i64 n17) : A)) ∧ bcase (decide (n17 > 1)) (Qp (.a (.one (.bool false))) Z11) (bcase b5 (bcase (!b6) (Qp (.a (.one (.bool false))) Z11) (bcase r5 (bcase (n14 != 0) (Qp (.a (.one (.bool false))) Z11) ((([[.int .i64 n2, .int .i64 n3]] : List (List D)) = ([[.int .i64 n2, .int .i64 n3]] : List (List D))) ∧ R1 n7 n9 Z11)) ((([[.int .i64 n2, .int .i64 n3]] : List (List D)) = ([[.int .i64 n2, .int .i64 n3]] : List (List D))) ∧ R1 n7 n9 Z11))) (bcase r5 (bcase (n14 != 0) (Qp (.a (.one (.bool false))) Z11) ((([[.int .i64 n2, .int .i64 n3]] : List (List D)) = ([[.int .i64 n2, .int .i64 n3]] : List (List D))) ∧ R1 n7 n9 Z11)) ((([[.int .i64 n2, .int .i64 n3]] : List (List D)) = ([[.int .i64 n2, .int .i64 n3]] : List (List D))) ∧ R1 n7 n9 Z11)))))))) → R2 b6 Z11) → ∃ len2 : Nat, (Len r2 len2) ∧ bcase (n6 == (w64 ((len2 : Int) - 1))) (bcase b1 ((([[.int .i64 n7, .int .i64 n9], [.int .i64 n2, .int .i64 n3], [.int .i64 n7, .int .i64 n8, .int .i64 n9], [.int .i64 n12, .int .i64 n13, .int .i64 n14]] : List (List D)) = ([[.int .i64 n7, .int .i64 n9], [.int .i64 n2, .int .i64 n3], [.int .i64 n7, .int .i64 n8, .int .i64 n9], [.int .i64 n12, .int .i64 n13, .int .i64 n14]] : List (List D))) ∧ R2 ((n7 == n2) && (n9 == n3)) Z10) ((([[.int .i64 n7, .int .i64 n9], [.int .i64 n2, .int .i64 n3], [.int .i64 n7, .int .i64 n8, .int .i64 n9], [.int .i64 n12, .int .i64 n13, .int .i64 n14]] : List (List D)) = ([[.int .i64 n7, .int .i64 n9], [.int .i64 n2, .int .i64 n3], [.int .i64 n7, .int .i64 n8, .int .i64 n9], [.int .i64 n12, .int .i64 n13, .int .i64 n14]] : List (List D))) ∧ R2 false Z10)) ((([[.int .i64 n7, .int .i64 n9], [.int .i64 n2, .int .i64 n3], [.int .i64 n7, .int .i64 n8, .int .i64 n9], [.int .i64 n12, .int .i64 n13, .int .i64 n14]] : List (List D)) = ([[.int .i64 n7, .int .i64 n9], [.int .i64 n2, .int .i64 n3], [.int .i64 n7, .int .i64 n8, .int .i64 n9], [.int .i64 n12, .int .i64 n13, .int .i64 n14]] : List (List D))) ∧ R2 false Z10))))))) (bcase b1 (Qp (.a (.one (.bool ((n4 == n2) && (n5 == n3))))) Z5) (DCalls Tryz.prog n_topo_Next [.one p1, .one (.int .i64 n4), .one (.int .i64 n5)] Z5 (fun r7 Z6 => ∃ n7 n8 : Int, ∃ b2 : Bool, (r7 = (.tup [.one (.int .i64 n7), .one (.int .i64 n8), .one (.bool b2)] : RV)) ∧ Qp (.a (.one (.bool (!b2)))) Z6)))))) → R Z2) → bcase (!b) (Qp (.a (.one (.bool false))) Z1) (bcase (!b1) (bcase (r1 != (-1)) (Qp (.a (.one (.bool false))) Z1) (∃ len : Nat, (Len r2 len) ∧ DCalls Tryz.prog n_conf_between [.one (.int .i64 (len : Int)), .one (.int .i64 1), .one (.int .i64 8)] Z1 (fun r7 Z2 => ∃ b2 : Bool, (r7 = (.a (.one (.bool b2)) : RV)) ∧ bcase (!b2) (Qp (.a (.one (.bool false))) Z2) ((([[.int .i64 n, .int .i64 n1], [.int .i64 n2, .int .i64 n3]] : List (List D)) = ([[.int .i64 n, .int .i64 n1], [.int .i64 n2, .int .i64 n3]] : List (List D))) ∧ R Z2)))) (∃ len : Nat, (Len r2 len) ∧ DCalls Tryz.prog n_conf_between [.one (.int .i64 (len : Int)), .one (.int .i64 1), .one (.int .i64 8)] Z1 (fun r7 Z2 => ∃ b2 : Bool, (r7 = (.a (.one (.bool b2)) : RV)) ∧ bcase (!b2) (Qp (.a (.one (.bool false))) Z2) ((([[.int .i64 n, .int .i64 n1], [.int .i64 n2, .int .i64 n3]] : List (List D)) = ([[.int .i64 n, .int .i64 n1], [.int .i64 n2, .int .i64 n3]] : List (List D))) ∧ R Z2))))))
theorem W_conf_plan_path (p0 : D) (p1 : D) (p2 : D) (p3 : D) (p4 : D) (p5 : Int) (p6 : Int) (p7 : Int) (p8 : Int) (r0 : Int) (r1 : Int) (r2 : D) (r3 : D) (r4 : D) (r5 : Bool) (σ : Store) (Qp : RV → Store → Prop) (h : V_conf_plan_path p0 p1 p2 p3 p4 p5 p6 p7 p8 r0 r1 r2 r3 r4 r5 σ Qp) : DCalls Tryz.prog n_conf_plan_path [.agg [p0, p1, p2, p3, p4, .int .i64 p5, .int .i64 p6, .int .i64 p7, .int .i64 p8], .agg [.int .i64 r0, .int .i64 r1, r2, r3, r4, .bool r5]] σ Qp :=
 dcalls_of_body mixed (by kernel_rfl) Tryz.func78 an_conf_plan_path (Eq.mp (by kernel_rfl) h)
def an_ref06_at : Ann := { esc := [], cbs := [4], draws := [], loops := [(2, { mods := [(14, SlotSh.one (Sh.int IntKind.i64))], keep := [1, 2, 3, 12, 13] })], joins := [] }
def V_ref06_at (c0 : D) (c1 : D) (c2 : D) (c3 : D) (c4 : D) (c5 : Int) (c6 : Int) (c7 : Int) (c8 : Int) (section_ : Int) (end_ : Int) (but : Int) (σ : Store) (Qp : RV → Store → Prop) : Prop :=
 ∃ len : Nat, (Len c2 len) ∧ ∃ I : Int → Store → Prop, ∃ μ : Int → Store → Nat, (I 0 σ) ∧ ∀ n : Int, ∀ Z, (I n Z) → bcase (decide (n < (len : Int))) (∃ len1 : Nat, (Idx Tryz.prog Z c2 2 len1) ∧ ((0 : Int) ≤ n) ∧ (n < (len1 : Int)) ∧ ∃ row : List D, (Row Z c2 (Int.toNat n) row) ∧ ∃ n1 n2 : Int, ((List.take 2 row) = ([.int .i64 n1, .int .i64 n2] : List D)) ∧ bcase (n1 == section_) (bcase (n2 == end_) (bcase (n != but) (Qp (.a (.one (.bool true))) Z) ((I (w64 (n + 1)) Z) ∧ ((μ (w64 (n + 1)) Z) < (μ n Z)))) ((I (w64 (n + 1)) Z) ∧ ((μ (w64 (n + 1)) Z) < (μ n Z)))) ((I (w64 (n + 1)) Z) ∧ ((μ (w64 (n + 1)) Z) < (μ n Z)))) (Qp (.a (.one (.bool false))) Z)
theorem W_ref06_at (c0 : D) (c1 : D) (c2 : D) (c3 : D) (c4 : D) (c5 : Int) (c6 : Int) (c7 : Int) (c8 : Int) (section_ : Int) (end_ : Int) (but : Int) (σ : Store) (Qp : RV → Store → Prop) (h : V_ref06_at c0 c1 c2 c3 c4 c5 c6 c7 c8 section_ end_ but σ Qp) : DCalls Tryz.prog n_ref06_at [.agg [c0, c1, c2, c3, c4, .int .i64 c5, .int .i64 c6, .int .i64 c7, .int .i64 c8], .one (.int .i64 section_), .one (.int .i64 end_), .one (.int .i64 but)] σ Qp :=
 dcalls_of_body mixed (by kernel_rfl) Tryz.func82 an_ref06_at (Eq.mp (by kernel_rfl) h)
def an_conf_words_num : Ann := { esc := [], cbs := [], draws := [], loops := [], joins := [] }
def V_conf_words_num (w : D) (σ : Store) (Qp : RV → Store → Prop) : Prop :=
 DCalls Tryz.prog n_conf_words_next [.one w] σ (fun r Z => ∃ s : ByteArray, (r = (.a (.one (.str s)) : RV)) ∧ DCalls Tryz.prog n_strconv_Atoi [.one (.str s)] Z (fun r1 Z1 => ∃ n : Int, ∃ d : D, (r1 = (.tup [.one (.int .i64 n), .one d] : RV)) ∧ (NotNil w) ∧ ∃ s1 : D, ∃ i off : Nat, (w = (.el s1 i off : D)) ∧ ∃ row : List D, (Row Z1 s1 i row) ∧ ∃ b : Bool, ((List.take 1 (List.drop (off + 1) row)) = ([.bool b] : List D)) ∧ bcase b ((NotNil w) ∧ ∃ s2 : D, ∃ i1 off1 : Nat, (w = (.el s2 i1 off1 : D)) ∧ storeEl [.bool true] Z1 s2 i1 (off1 + 1) (fun Z2 => Qp (.a (.one (.int .i64 n))) Z2)) (∃ b1 : Bool, (IsNil .ic d b1) ∧ bcase (b1 != true) ((NotNil w) ∧ ∃ s2 : D, ∃ i1 off1 : Nat, (w = (.el s2 i1 off1 : D)) ∧ storeEl [.bool true] Z1 s2 i1 (off1 + 1) (fun Z2 => Qp (.a (.one (.int .i64 n))) Z2)) (DCalls Tryz.prog n_strconv_Itoa [.one (.int .i64 n)] Z1 (fun r2 Z2 => ∃ s2 : ByteArray, (r2 = (.a (.one (.str s2)) : RV)) ∧ (NotNil w) ∧ ∃ s3 : D, ∃ i1 off1 : Nat, (w = (.el s3 i1 off1 : D)) ∧ storeEl [.bool (!((ByteArray.toList s2) == (ByteArray.toList s)))] Z2 s3 i1 (off1 + 1) (fun Z3 => Qp (.a (.one (.int .i64 n))) Z3))))))
theorem W_conf_words_num (w : D) (σ : Store) (Qp : RV → Store → Prop) (h : V_conf_words_num w σ Qp) : DCalls Tryz.prog n_conf_words_num [.one w] σ Qp :=
 dcalls_of_body mixed (by kernel_rfl) Tryz.func90 an_conf_words_num (Eq.mp (by kernel_rfl) h)
def an_conf_plan_signal : Ann := { esc := [], cbs := [2], draws := [], loops := [], joins := [] }
def V_conf_plan_signal (p0 : D) (p1 : D) (p2 : D) (p3 : D) (p4 : D) (p5 : Int) (p6 : Int) (p7 : Int) (p8 : Int) (x : Int) (σ : Store) (Qp : RV → Store → Prop) : Prop :=
 bcase (decide (x < 0)) (Qp (.tup [.agg [.int .i64 0, .int .i64 0], .one (.bool false)]) σ) (∃ len : Nat, (Len p2 len) ∧ bcase (decide (x ≥ (len : Int))) (Qp (.tup [.agg [.int .i64 0, .int .i64 0], .one (.bool false)]) σ) (∃ len1 : Nat, (Idx Tryz.prog σ p2 2 len1) ∧ ((0 : Int) ≤ x) ∧ (x < (len1 : Int)) ∧ ∃ row : List D, (Row σ p2 (Int.toNat x) row) ∧ ∃ n n1 : Int, ((List.take 2 row) = ([.int .i64 n, .int .i64 n1] : List D)) ∧ Qp (.tup [.agg [.int .i64 n, .int .i64 n1], .one (.bool true)]) σ))
theorem W_conf_plan_signal (p0 : D) (p1 : D) (p2 : D) (p3 : D) (p4 : D) (p5 : Int) (p6 : Int) (p7 : Int) (p8 : Int) (x : Int) (σ : Store) (Qp : RV → Store → Prop) (h : V_conf_plan_signal p0 p1 p2 p3 p4 p5 p6 p7 p8 x σ Qp) : DCalls Tryz.prog n_conf_plan_signal [.agg [p0, p1, p2, p3, p4, .int .i64 p5, .int .i64 p6, .int .i64 p7, .int .i64 p8], .one (.int .i64 x)] σ Qp :=
 dcalls_of_body mixed (by kernel_rfl) Tryz.func97 an_conf_plan_signal (Eq.mp (by kernel_rfl) h)
def an_slices_ContainsFunc_Need : Ann := { esc := [], cbs := [], draws := [], loops := [], joins := [] }
def V_slices_ContainsFunc_Need (s : D) (f : D) (σ : Store) (Qp : RV → Store → Prop) : Prop :=
 DCalls Tryz.prog n_slices_IndexFunc_Need [.one s, .one f] σ (fun r Z => ∃ n : Int, (r = (.a (.one (.int .i64 n)) : RV)) ∧ Qp (.a (.one (.bool (decide (n ≥ 0))))) Z)
theorem W_slices_ContainsFunc_Need (s : D) (f : D) (σ : Store) (Qp : RV → Store → Prop) (h : V_slices_ContainsFunc_Need s f σ Qp) : DCalls Tryz.prog n_slices_ContainsFunc_Need [.one s, .one f] σ Qp :=
 dcalls_of_body mixed (by kernel_rfl) Tryz.func101 an_slices_ContainsFunc_Need (Eq.mp (by kernel_rfl) h)
def an_conf_words_each : Ann := { esc := [], cbs := [], draws := [], loops := [(0, { mods := [], keep := [0, 1, 2] })], joins := [] }
def V_conf_words_each (w : D) (word : ByteArray) (read : D) (σ : Store) (Qp : RV → Store → Prop) : Prop :=
 ∃ I : Store → Prop, ∃ μ : Store → Nat, (I σ) ∧ ∀ Z, (I Z) → (NotNil w) ∧ ∃ s : D, ∃ i off : Nat, (w = (.el s i off : D)) ∧ ∃ row : List D, (Row Z s i row) ∧ ∃ b : Bool, ((List.take 1 (List.drop (off + 1) row)) = ([.bool b] : List D)) ∧ bcase (!b) ((NotNil w) ∧ ∃ s1 : D, ∃ i1 off1 : Nat, (w = (.el s1 i1 off1 : D)) ∧ ∃ row1 : List D, (Row Z s1 i1 row1) ∧ ∃ d : D, ((List.take 1 (List.drop (off1 + 0) row1)) = ([d] : List D)) ∧ ∃ len : Nat, (Len d len) ∧ bcase (decide ((len : Int) > 0)) (bcase ((ByteArray.toList word) == (ByteArray.toList (ByteArray.mk (List.toArray [])))) (∃ f : FuncId, ∃ a : List (Bool × (List D)), ∃ b1 : List (Bool × (List D)), ∃ as0' : List A, ∃ bs : List A, (read = (.fn f a b1 : D)) ∧ ((capAs a) = (Option.some as0')) ∧ ((capAs b1) = (Option.some bs)) ∧ DCalls Tryz.prog f (HAppend.hAppend (HAppend.hAppend as0' []) bs) Z (fun r Z1 => (r = (.tup [] : RV)) ∧ (I Z1) ∧ ((μ Z1) < (μ Z)))) ((NotNil w) ∧ ∃ s2 : D, ∃ i2 off2 : Nat, (w = (.el s2 i2 off2 : D)) ∧ ∃ row2 : List D, (Row Z s2 i2 row2) ∧ ∃ d1 : D, ((List.take 1 (List.drop (off2 + 0) row2)) = ([d1] : List D)) ∧ ∃ len1 : Nat, (Idx Tryz.prog Z d1 1 len1) ∧ ((0 : Int) ≤ 0) ∧ ((0 : Int) < (len1 : Int)) ∧ ∃ row3 : List D, (Row Z d1 0 row3) ∧ ∃ s3 : ByteArray, ((List.take 1 row3) = ([.str s3] : List D)) ∧ bcase (!((ByteArray.toList s3) == (ByteArray.toList word))) (∃ f : FuncId, ∃ a : List (Bool × (List D)), ∃ b1 : List (Bool × (List D)), ∃ as0' : List A, ∃ bs : List A, (read = (.fn f a b1 : D)) ∧ ((capAs a) = (Option.some as0')) ∧ ((capAs b1) = (Option.some bs)) ∧ DCalls Tryz.prog f (HAppend.hAppend (HAppend.hAppend as0' []) bs) Z (fun r Z1 => (r = (.tup [] : RV)) ∧ (I Z1) ∧ ((μ Z1) < (μ Z)))) (bcase (!((ByteArray.toList word) == (ByteArray.toList (ByteArray.mk (List.toArray []))))) (DCalls Tryz.prog n_conf_words_next [.one w] Z (fun r Z1 => ∃ s4 : ByteArray, (r = (.a (.one (.str s4)) : RV)) ∧ bcase (!((ByteArray.toList s4) == (ByteArray.toList word))) ((NotNil w) ∧ ∃ s5 : D, ∃ i3 off3 : Nat, (w = (.el s5 i3 off3 : D)) ∧ storeEl [.bool true] Z1 s5 i3 (off3 + 1) (fun Z2 => Qp (.tup []) Z2)) ((NotNil w) ∧ ∃ s5 : D, ∃ i3 off3 : Nat, (w = (.el s5 i3 off3 : D)) ∧ ∃ row4 : List D, (Row Z1 s5 i3 row4) ∧ ∃ b1 : Bool, ((List.take 1 (List.drop (off3 + 1) row4)) = ([.bool b1] : List D)) ∧ (NotNil w) ∧ ∃ s6 : D, ∃ i4 off4 : Nat, (w = (.el s6 i4 off4 : D)) ∧ storeEl [.bool b1] Z1 s6 i4 (off4 + 1) (fun Z2 => Qp (.tup []) Z2)))) (Qp (.tup []) Z)))) (bcase (!((ByteArray.toList word) == (ByteArray.toList (ByteArray.mk (List.toArray []))))) (DCalls Tryz.prog n_conf_words_next [.one w] Z (fun r Z1 => ∃ s2 : ByteArray, (r = (.a (.one (.str s2)) : RV)) ∧ bcase (!((ByteArray.toList s2) == (ByteArray.toList word))) ((NotNil w) ∧ ∃ s3 : D, ∃ i2 off2 : Nat, (w = (.el s3 i2 off2 : D)) ∧ storeEl [.bool true] Z1 s3 i2 (off2 + 1) (fun Z2 => Qp (.tup []) Z2)) ((NotNil w) ∧ ∃ s3 : D, ∃ i2 off2 : Nat, (w = (.el s3 i2 off2 : D)) ∧ ∃ row2 : List D, (Row Z1 s3 i2 row2) ∧ ∃ b1 : Bool, ((List.take 1 (List.drop (off2 + 1) row2)) = ([.bool b1] : List D)) ∧ (NotNil w) ∧ ∃ s4 : D, ∃ i3 off3 : Nat, (w = (.el s4 i3 off3 : D)) ∧ storeEl [.bool b1] Z1 s4 i3 (off3 + 1) (fun Z2 => Qp (.tup []) Z2)))) (Qp (.tup []) Z))) (bcase (!((ByteArray.toList word) == (ByteArray.toList (ByteArray.mk (List.toArray []))))) (DCalls Tryz.prog n_conf_words_next [.one w] Z (fun r Z1 => ∃ s1 : ByteArray, (r = (.a (.one (.str s1)) : RV)) ∧ bcase (!((ByteArray.toList s1) == (ByteArray.toList word))) ((NotNil w) ∧ ∃ s2 : D, ∃ i1 off1 : Nat, (w = (.el s2 i1 off1 : D)) ∧ storeEl [.bool true] Z1 s2 i1 (off1 + 1) (fun Z2 => Qp (.tup []) Z2)) ((NotNil w) ∧ ∃ s2 : D, ∃ i1 off1 : Nat, (w = (.el s2 i1 off1 : D)) ∧ ∃ row1 : List D, (Row Z1 s2 i1 row1) ∧ ∃ b1 : Bool, ((List.take 1 (List.drop (off1 + 1) row1)) = ([.bool b1] : List D)) ∧ (NotNil w) ∧ ∃ s3 : D, ∃ i2 off2 : Nat, (w = (.el s3 i2 off2 : D)) ∧ storeEl [.bool b1] Z1 s3 i2 (off2 + 1) (fun Z2 => Qp (.tup []) Z2)))) (Qp (.tup []) Z))
theorem W_conf_words_each (w : D) (word : ByteArray) (read : D) (σ : Store) (Qp : RV → Store → Prop) (h : V_conf_words_each w word read σ Qp) : DCalls Tryz.prog n_conf_words_each [.one w, .one (.str word), .one read] σ Qp :=
 dcalls_of_body mixed (by kernel_rfl) Tryz.func114 an_conf_words_each (Eq.mp (by kernel_rfl) h)
def an_slices_ContainsFunc_Step : Ann := { esc := [], cbs := [], draws := [], loops := [], joins := [] }
def V_slices_ContainsFunc_Step (s : D) (f : D) (σ : Store) (Qp : RV → Store → Prop) : Prop :=
 DCalls Tryz.prog n_slices_IndexFunc_Step [.one s, .one f] σ (fun r Z => ∃ n : Int, (r = (.a (.one (.int .i64 n)) : RV)) ∧ Qp (.a (.one (.bool (decide (n ≥ 0))))) Z)
theorem W_slices_ContainsFunc_Step (s : D) (f : D) (σ : Store) (Qp : RV → Store → Prop) (h : V_slices_ContainsFunc_Step s f σ Qp) : DCalls Tryz.prog n_slices_ContainsFunc_Step [.one s, .one f] σ Qp :=
 dcalls_of_body mixed (by kernel_rfl) Tryz.func131 an_slices_ContainsFunc_Step (Eq.mp (by kernel_rfl) h)
def an_slices_IndexFunc_Step : Ann := { esc := [], cbs := [], draws := [], loops := [(2, { mods := [(8, SlotSh.one (Sh.int IntKind.i64))], keep := [0, 1, 7] })], joins := [] }
def V_slices_IndexFunc_Step (s : D) (f : D) (σ : Store) (Qp : RV → Store → Prop) : Prop :=
 ∃ len : Nat, (Len s len) ∧ ∃ I : Int → Store → Prop, ∃ μ : Int → Store → Nat, (I 0 σ) ∧ ∀ n : Int, ∀ Z, (I n Z) → bcase (decide (n < (len : Int))) (∃ len1 : Nat, (Idx Tryz.prog Z s 3 len1) ∧ ((0 : Int) ≤ n) ∧ (n < (len1 : Int)) ∧ ∃ row : List D, (Row Z s (Int.toNat n) row) ∧ ∃ n1 n2 n3 : Int, ((List.take 3 row) = ([.int .i64 n1, .int .i64 n2, .int .i64 n3] : List D)) ∧ ∃ f1 : FuncId, ∃ a : List (Bool × (List D)), ∃ b : List (Bool × (List D)), ∃ as0' : List A, ∃ bs : List A, (f = (.fn f1 a b : D)) ∧ ((capAs a) = (Option.some as0')) ∧ ((capAs b) = (Option.some bs)) ∧ DCalls Tryz.prog f1 (HAppend.hAppend (HAppend.hAppend as0' [.agg [.int .i64 n1, .int .i64 n2, .int .i64 n3]]) bs) Z (fun r Z1 => ∃ b1 : Bool, (r = (.a (.one (.bool b1)) : RV)) ∧ bcase b1 (Qp (.a (.one (.int .i64 n))) Z1) ((I (w64 (n + 1)) Z1) ∧ ((μ (w64 (n + 1)) Z1) < (μ n Z))))) (Qp (.a (.one (.int .i64 (-1)))) Z)
theorem W_slices_IndexFunc_Step (s : D) (f : D) (σ : Store) (Qp : RV → Store → Prop) (h : V_slices_IndexFunc_Step s f σ Qp) : DCalls Tryz.prog n_slices_IndexFunc_Step [.one s, .one f] σ Qp :=
 dcalls_of_body mixed (by kernel_rfl) Tryz.func152 an_slices_IndexFunc_Step (Eq.mp (by kernel_rfl) h)
def an_internal_stringslite_HasSuffix : Ann := { esc := [], cbs := [], draws := [], loops := [], joins := [] }
def V_internal_stringslite_HasSuffix (s : ByteArray) (suffix : ByteArray) (σ : Store) (Qp : RV → Store → Prop) : Prop :=
 bcase (decide ((ByteArray.size s : Int) ≥ (ByteArray.size suffix : Int))) (((0 : Int) ≤ (w64 ((ByteArray.size s : Int) - (ByteArray.size suffix : Int)))) ∧ ((w64 ((ByteArray.size s : Int) - (ByteArray.size suffix : Int))) ≤ (ByteArray.size s : Int)) ∧ Qp (.a (.one (.bool ((ByteArray.toList (ByteArray.extract s (Int.toNat (w64 ((ByteArray.size s : Int) - (ByteArray.size suffix : Int)))) (ByteArray.size s))) == (ByteArray.toList suffix))))) σ) (Qp (.a (.one (.bool false))) σ)
theorem W_internal_stringslite_HasSuffix (s : ByteArray) (suffix : ByteArray) (σ : Store) (Qp : RV → Store → Prop) (h : V_internal_stringslite_HasSuffix s suffix σ Qp) : DCalls Tryz.prog n_internal_stringslite_HasSuffix [.one (.str s), .one (.str suffix)] σ Qp :=
 dcalls_of_body mixed (by kernel_rfl) Tryz.func108 an_internal_stringslite_HasSuffix (Eq.mp (by kernel_rfl) h)
def an_strings_Builder_WriteByte : Ann := { esc := [], cbs := [], draws := [], loops := [], joins := [] }
def V_strings_Builder_WriteByte (b : D) (c : Int) (σ : Store) (Qp : RV → Store → Prop) : Prop :=
 DCalls Tryz.prog n_strings_Builder_copyCheck [.one b] σ (fun r Z => (r = (.tup [] : RV)) ∧ (NotNil b) ∧ ∃ s : D, ∃ i off : Nat, (b = (.el s i off : D)) ∧ ∃ row : List D, (Row Z s i row) ∧ ∃ d : D, ((List.take 1 (List.drop (off + 1) row)) = ([d] : List D)) ∧ Fw.newObj Z (.live t_uint8 [[.int .u8 c]]) (fun id Z1 => appendTo Tryz.prog Z1 t_uint8 1 d (.osl id 0 1) (fun d1 Z2 => (NotNil b) ∧ ∃ s1 : D, ∃ i1 off1 : Nat, (b = (.el s1 i1 off1 : D)) ∧ storeEl [d1] Z2 s1 i1 (off1 + 1) (fun Z3 => Qp (.a (.one (.ifc false))) Z3))))
theorem W_strings_Builder_WriteByte (b : D) (c : Int) (σ : Store) (Qp : RV → Store → Prop) (h : V_strings_Builder_WriteByte b c σ Qp) : DCalls Tryz.prog n_strings_Builder_WriteByte [.one b, .one (.int .u8 c)] σ Qp :=
 dcalls_of_body mixed (by kernel_rfl) Tryz.func85 an_strings_Builder_WriteByte (Eq.mp (by kernel_rfl) h)
end Go.Proofs.YtfdffboelecgoaaGreatDoor
end
