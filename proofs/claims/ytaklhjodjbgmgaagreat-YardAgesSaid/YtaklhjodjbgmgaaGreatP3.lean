/-
  Proofs that the statement of this claim leans on: part 3.
-/
import Derived.Test.YtaklhjodjbgmgaaGreatP2
section
set_option linter.unusedVariables false
namespace Go.Fw
section
variable {P : Program} {k0 : Nat → Prop} {β0 : Bk} {σ0 : Store} {W0 : World} {n : Nat} {k : Nat → Prop} {β : Bk} {γ : Nat → Nat}
  {tmps : Array Value} {W W' : World} {env : Env} {σ σ' : Store} {a : Act} {o : Oper} {K : Kont}
abbrev Cl (an : Ann) (c : Code) : Nat → Prop := fun s => pres an s c = false
theorem pres_region {an : Ann} {id : Nat} {ops : Array Oper} {dr : Bool} {o : Oper} (ho : o ∈ ops.toList) {d : Nat} (hd : o.dst = some d) : Cl an (.region id ops dr) d := by
  unfold Cl pres
  rw [Bool.not_eq_false']
  exact List.any_eq_true.2 ⟨o, ho, by rw [hd]; exact Nat.beq_refl d⟩
theorem OutX.mono {S S' : Nat → Prop} {env env' : Env} {Q Q' : Exit → Kont} {e : Exit} (h : OutX P k0 β0 σ0 W0 n S env Q e a W) (hf : ∀ s, ¬ S' s → FrS env' env s) (hS : ∀ s, S s → S' s)
    (hq : ∀ env σ, Q e env σ → Q' e env σ) : OutX P k0 β0 σ0 W0 n S' env' Q' e a W := by
  obtain ⟨e1, σ1, h1, h2, h3⟩ := h
  exact ⟨e1, σ1, hq _ _ h1, h2, fun s hs => (hf s hs).trans (h3 s (fun hc => hs (hS s hc)))⟩
theorem wk_keep {mods : List (Nat × SlotSh)} {keep : List Nat} {env0 env' : Env} (h : ∀ s ∈ keep, get env' s = get env0 s) : ∀ s, WkE (get env' s) (get (keepL env0 keep Fw.env0) s) := by
  intro s
  rw [get_keepL]
  by_cases hs : s ∈ keep
  · rw [if_pos hs]; exact .inr (.inl (h s hs))
  · rw [if_neg hs]; exact .inl rfl
theorem exL_mono : ∀ (ss : List Sh) {R R' : Type} {f : CurL ss R} {g : CurL ss R'} {ac : List D → List D} {K K' : List D → R → R' → Prop}, (∀ ds f g, K ds f g → K' ds f g) → exL ss f g ac K → exL ss f g ac K'
  | [], _, _, f, g, ac, K, K', hk, h => hk _ _ _ h
  | .int q :: ss, _, _, f, g, ac, K, K', hk, ⟨m, h⟩ => ⟨m, exL_mono ss hk h⟩
  | .bool :: ss, _, _, f, g, ac, K, K', hk, ⟨m, h⟩ => ⟨m, exL_mono ss hk h⟩
  | .str :: ss, _, _, f, g, ac, K, K', hk, ⟨m, h⟩ => ⟨m, exL_mono ss hk h⟩
  | .any :: ss, _, _, f, g, ac, K, K', hk, ⟨m, h⟩ => ⟨m, exL_mono ss hk h⟩
theorem exM_mono : ∀ (ms : List (Nat × SlotSh)) {R R' : Type} {f : CurM ms R} {g : CurM ms R'} {ac : Env} {K K' : Env → R → R' → Prop}, (∀ e i m, K e i m → K' e i m) → exM ms f g ac K → exM ms f g ac K'
  | [], _, _, f, g, ac, K, K', hk, h => hk _ _ _ h
  | m :: ms, _, _, f, g, ac, K, K', hk, h => exL_mono _ (fun ds f g hh => exM_mono ms hk hh) h
theorem exL_pull {Y : Type} : ∀ (ss : List Sh) {R R' : Type} {f : CurL ss R} {g : CurL ss R'} {ac : List D → List D} {K : Y → List D → R → R' → Prop}, exL ss f g ac (fun ds i m => ∃ y, K y ds i m) → ∃ y, exL ss f g ac (K y)
  | [], _, _, f, g, ac, K, h => h
  | .int q :: ss, _, _, f, g, ac, K, ⟨m, h⟩ => by obtain ⟨y, h⟩ := exL_pull ss h; exact ⟨y, m, h⟩
  | .bool :: ss, _, _, f, g, ac, K, ⟨m, h⟩ => by obtain ⟨y, h⟩ := exL_pull ss h; exact ⟨y, m, h⟩
  | .str :: ss, _, _, f, g, ac, K, ⟨m, h⟩ => by obtain ⟨y, h⟩ := exL_pull ss h; exact ⟨y, m, h⟩
  | .any :: ss, _, _, f, g, ac, K, ⟨m, h⟩ => by obtain ⟨y, h⟩ := exL_pull ss h; exact ⟨y, m, h⟩
theorem exM_pull {Y : Type} : ∀ (ms : List (Nat × SlotSh)) {R R' : Type} {f : CurM ms R} {g : CurM ms R'} {ac : Env} {K : Y → Env → R → R' → Prop}, exM ms f g ac (fun e i m => ∃ y, K y e i m) → ∃ y, exM ms f g ac (K y)
  | [], _, _, f, g, ac, K, h => h
  | m :: ms, _, _, f, g, ac, K, h => by
    have h : exL (shL m.2) f g (fun r => r) fun ds f' g' => exM ms f' g' (setE ac m.1 (slotE m.2 ds)) (fun e i m => ∃ y, K y e i m) := h
    have h2 := exL_mono _ (K' := fun ds f' g' => ∃ y, exM ms f' g' (setE ac m.1 (slotE m.2 ds)) (K y)) (fun ds f g hh => exM_pull ms hh) h
    exact exL_pull _ h2
theorem exM_keep {s : Nat} : ∀ (ms : List (Nat × SlotSh)) {R R' : Type} {f : CurM ms R} {g : CurM ms R'} {acc : Env} {K : Env → R → R' → Prop}, (∀ m ∈ ms, m.1 ≠ s) → exM ms f g acc K →
    exM ms f g acc fun e i m => K e i m ∧ get e s = get acc s
  | [], _, _, f, g, acc, K, _, h => ⟨h, rfl⟩
  | m :: ms, _, _, f, g, acc, K, hne, h => by
    refine exL_mono _ (fun ds f' g' hh => ?_) h
    have := exM_keep ms (fun m' hm' => hne m' (by simp [hm'])) hh
    refine exM_mono ms (fun e i mm hh => ?_) this
    rw [get_ne _ _ (fun e => hne m (by simp) e.symm)] at hh
    exact hh
theorem exM_keeps {ms : List (Nat × SlotSh)} {R R' : Type} {f : CurM ms R} {g : CurM ms R'} {acc : Env} {K : Env → R → R' → Prop} (h : exM ms f g acc K) :
    ∀ (l : List Nat), (∀ s ∈ l, ∀ m ∈ ms, m.1 ≠ s) → exM ms f g acc fun e i m => K e i m ∧ ∀ s ∈ l, get e s = get acc s
  | [], _ => exM_mono ms (fun e i m hh => ⟨hh, fun s hs => by cases hs⟩) h
  | s :: l, hl => by
    have h1 := exM_keeps h l (fun s hs => hl s (by simp [hs]))
    have h2 := exM_keep (s := s) ms (hl s (by simp)) h1
    refine exM_mono ms (fun e i m hh => ⟨hh.1.1, fun s' hs' => ?_⟩) h2
    rcases List.mem_cons.1 hs' with rfl | hs'
    · exact hh.2
    · exact hh.1.2 s' hs'
theorem appL_mono : ∀ (ss : List Sh) {R : Type} {ds : List D} {f : CurL ss R} {p q : R → Prop}, (∀ r, p r → q r) → appL ss ds f p → appL ss ds f q
  | [], _, [], f, p, q, hk, h => hk _ h
  | [], _, _ :: _, f, p, q, hk, h => by simp [appL] at h
  | .int q1 :: ss, _, ds, f, p, q, hk, h => by
    cases ds with
    | nil => simp [appL] at h
    | cons d ds =>
      cases d <;> try (simp [appL] at h; done)
      simp only [appL] at h ⊢
      split at h
      · exact appL_mono ss hk h
      · exact h.elim
  | .bool :: ss, _, ds, f, p, q, hk, h => by
    cases ds with
    | nil => simp [appL] at h
    | cons d ds =>
      cases d <;> try (simp [appL] at h; done)
      exact appL_mono ss hk h
  | .str :: ss, _, ds, f, p, q, hk, h => by
    cases ds with
    | nil => simp [appL] at h
    | cons d ds =>
      cases d <;> try (simp [appL] at h; done)
      exact appL_mono ss hk h
  | .any :: ss, _, ds, f, p, q, hk, h => by
    cases ds with
    | nil => simp [appL] at h
    | cons d ds => simp only [appL] at h ⊢; exact appL_mono ss hk h
theorem appL_other : ∀ (ss : List Sh) {R R' : Type} {ds : List D} {f : CurL ss R} (g : CurL ss R') {p : R → Prop} {q : R' → Prop}, (∀ r, q r) → appL ss ds f p → appL ss ds g q
  | [], _, _, [], f, g, p, q, hk, h => hk _
  | [], _, _, _ :: _, f, g, p, q, hk, h => by simp [appL] at h
  | .int q1 :: ss, _, _, ds, f, g, p, q, hk, h => by
    cases ds with
    | nil => simp [appL] at h
    | cons d ds =>
      cases d <;> try (simp [appL] at h; done)
      simp only [appL] at h ⊢
      split at h
      · exact appL_other ss _ hk h
      · exact h.elim
  | .bool :: ss, _, _, ds, f, g, p, q, hk, h => by
    cases ds with
    | nil => simp [appL] at h
    | cons d ds =>
      cases d <;> try (simp [appL] at h; done)
      exact appL_other ss (f := f _) (g _) hk h
  | .str :: ss, _, _, ds, f, g, p, q, hk, h => by
    cases ds with
    | nil => simp [appL] at h
    | cons d ds =>
      cases d <;> try (simp [appL] at h; done)
      exact appL_other ss (f := f _) (g _) hk h
  | .any :: ss, _, _, ds, f, g, p, q, hk, h => by
    cases ds with
    | nil => simp [appL] at h
    | cons d ds => simp only [appL] at h ⊢; exact appL_other ss _ hk h
theorem appM_mono : ∀ (ms : List (Nat × SlotSh)) {R : Type} {env : Env} {f : CurM ms R} {p q : R → Prop}, (∀ r, p r → q r) → appM ms env f p → appM ms env f q
  | [], _, env, f, p, q, hk, h => hk _ h
  | m :: ms, _, env, f, p, q, hk, h => by
    simp only [appM] at h ⊢
    split at h
    · exact appL_mono _ (fun r hr => appM_mono ms hk hr) h
    · exact h.elim
theorem appL_const : ∀ (ss : List Sh) {R : Type} {ds : List D} {f : CurL ss R} {X : Prop}, appL ss ds f (fun _ => X) → X
  | [], _, [], f, X, h => h
  | [], _, _ :: _, f, X, h => by simp [appL] at h
  | .int q1 :: ss, _, ds, f, X, h => by
    cases ds with
    | nil => simp [appL] at h
    | cons d ds =>
      cases d <;> try (simp [appL] at h; done)
      simp only [appL] at h
      split at h
      · exact appL_const ss h
      · exact h.elim
  | .bool :: ss, _, ds, f, X, h => by
    cases ds with
    | nil => simp [appL] at h
    | cons d ds =>
      cases d <;> try (simp [appL] at h; done)
      exact appL_const ss (f := f _) h
  | .str :: ss, _, ds, f, X, h => by
    cases ds with
    | nil => simp [appL] at h
    | cons d ds =>
      cases d <;> try (simp [appL] at h; done)
      exact appL_const ss (f := f _) h
  | .any :: ss, _, ds, f, X, h => by
    cases ds with
    | nil => simp [appL] at h
    | cons d ds => simp only [appL] at h; exact appL_const ss h
theorem appM_const : ∀ (ms : List (Nat × SlotSh)) {R : Type} {env : Env} {f : CurM ms R} {X : Prop}, appM ms env f (fun _ => X) → X
  | [], _, env, f, X, h => h
  | m :: ms, _, env, f, X, h => by
    simp only [appM] at h
    split at h
    · exact appL_const _ (appL_mono _ (fun r hr => appM_const ms hr) h)
    · exact h.elim
theorem appM_other : ∀ (ms : List (Nat × SlotSh)) {R R' : Type} {env : Env} {f : CurM ms R} (g : CurM ms R') {p : R → Prop}, appM ms env f p → appM ms env g (fun _ => True)
  | [], _, _, env, f, g, p, h => trivial
  | m :: ms, R, R', env, f, g, p, h => by
    have h : (match slotDs m.2 (get env m.1) with | some ds => appL (R := CurM ms R) (shL m.2) ds f fun g => appM ms env g p | none => False) := h
    show (match slotDs m.2 (get env m.1) with | some ds => appL (R := CurM ms R') (shL m.2) ds g fun g' => appM ms env g' (fun _ => True) | none => False)
    cases hd : slotDs m.2 (get env m.1) with
    | none => rw [hd] at h; exact h.elim
    | some ds =>
      rw [hd] at h
      -- side by side, cell by cell
      have key : ∀ (ss : List Sh) {R R' : Type} {ds : List D} {f : CurL ss R} {g : CurL ss R'} {p : R → Prop} {q : R' → Prop}, (∀ r r', p r → q r') → appL ss ds f p → appL ss ds g q := by
        intro ss R R' ds f g p q hk h
        by_cases hq : ∀ r, q r
        · exact appL_other ss g hq h
        · -- p is empty then
          have hp : ∀ r, ¬ p r := fun r hr => hq (fun r' => hk r r' hr)
          exact (appL_const ss (appL_mono ss (q := fun _ => False) (fun r hr => hp r hr) h)).elim
      exact key _ (fun r r' hr => appM_other ms r' hr) h
def mkL : (ss : List Sh) → {R : Type} → (List D → List D) → (List D → R) → CurL ss R
  | [], _, acc, F => F (acc [])
  | .int q :: ss, _, acc, F => fun m => mkL ss (fun r => acc (.int q m :: r)) F
  | .bool :: ss, _, acc, F => fun b => mkL ss (fun r => acc (.bool b :: r)) F
  | .str :: ss, _, acc, F => fun s => mkL ss (fun r => acc (.str s :: r)) F
  | .any :: ss, _, acc, F => fun d => mkL ss (fun r => acc (d :: r)) F
def mkM : (ms : List (Nat × SlotSh)) → {R : Type} → Env → (Env → R) → CurM ms R
  | [], _, acc, F => F acc
  | m :: ms, _, acc, F => mkL (shL m.2) (fun r => r) fun ds => mkM ms (setE acc m.1 (slotE m.2 ds)) F
theorem allL_mkL : ∀ (ss : List Sh) {R : Type} (acc : List D → List D) (F : List D → R) (K : List D → R → R → Prop), (∀ ds, K ds (F ds) (F ds)) → allL ss (mkL ss acc F) (mkL ss acc F) acc K
  | [], _, acc, F, K, h => h _
  | .int q :: ss, _, acc, F, K, h => fun m => allL_mkL ss _ F K h
  | .bool :: ss, _, acc, F, K, h => fun m => allL_mkL ss _ F K h
  | .str :: ss, _, acc, F, K, h => fun m => allL_mkL ss _ F K h
  | .any :: ss, _, acc, F, K, h => fun m => allL_mkL ss _ F K h
theorem allM_mkM : ∀ (ms : List (Nat × SlotSh)) {R : Type} (acc : Env) (F : Env → R) (K : Env → R → R → Prop), (∀ e, K e (F e) (F e)) → allM ms (mkM ms acc F) (mkM ms acc F) acc K
  | [], _, acc, F, K, h => h _
  | m :: ms, _, acc, F, K, h => by
    simp only [allM, mkM]
    exact allL_mkL _ _ _ _ fun ds => allM_mkM ms _ F K h
theorem exL_mkL : ∀ (ss : List Sh) {R : Type} (acc : List D → List D) (F : List D → R) (K K' : List D → R → R → Prop), exL ss (mkL ss acc F) (mkL ss acc F) acc K → ∃ ds, K ds (F ds) (F ds)
  | [], _, acc, F, K, _, h => ⟨_, h⟩
  | .int q :: ss, _, acc, F, K, K', ⟨m, h⟩ => exL_mkL ss _ F K K' h
  | .bool :: ss, _, acc, F, K, K', ⟨m, h⟩ => exL_mkL ss _ F K K' h
  | .str :: ss, _, acc, F, K, K', ⟨m, h⟩ => exL_mkL ss _ F K K' h
  | .any :: ss, _, acc, F, K, K', ⟨m, h⟩ => exL_mkL ss _ F K K' h
theorem exM_mkM : ∀ (ms : List (Nat × SlotSh)) {R : Type} (acc : Env) (F : Env → R) (K : Env → R → R → Prop), exM ms (mkM ms acc F) (mkM ms acc F) acc K → ∃ e, K e (F e) (F e)
  | [], _, acc, F, K, h => ⟨_, h⟩
  | m :: ms, _, acc, F, K, h => by
    simp only [exM, mkM] at h
    obtain ⟨ds, h⟩ := exL_mkL _ _ _ _ (fun _ _ _ => True) h
    exact exM_mkM ms _ F K h
theorem exL_some : ∀ (ss : List Sh) {R R' : Type} {f : CurL ss R} {g : CurL ss R'} {ac : List D → List D} {K : List D → R → R' → Prop}, exL ss f g ac K → ∃ ds i m, K ds i m
  | [], _, _, f, g, ac, K, h => ⟨_, _, _, h⟩
  | .int q :: ss, _, _, f, g, ac, K, ⟨m, h⟩ => exL_some ss h
  | .bool :: ss, _, _, f, g, ac, K, ⟨m, h⟩ => exL_some ss h
  | .str :: ss, _, _, f, g, ac, K, ⟨m, h⟩ => exL_some ss h
  | .any :: ss, _, _, f, g, ac, K, ⟨m, h⟩ => exL_some ss h
theorem exM_some : ∀ (ms : List (Nat × SlotSh)) {R R' : Type} {f : CurM ms R} {g : CurM ms R'} {ac : Env} {K : Env → R → R' → Prop}, exM ms f g ac K → ∃ e i m, K e i m
  | [], _, _, f, g, ac, K, h => ⟨_, _, _, h⟩
  | m :: ms, _, _, f, g, ac, K, h => by
    obtain ⟨ds, i, mm, h⟩ := exL_some _ h
    exact exM_some ms h
theorem evalBool (h : Rel P k0 β0 σ0 W0 n a W env σ) {c : Operand} {t : Bool} (hc : opE env c = .val (.one (.bool t))) : a.eval c = .bool t := by
  obtain ⟨_, k, β, γ, hX⟩ := h
  have := (opE_ev hX a rfl c 0).1
  rw [hc] at this; exact V.inv_bool this
theorem exM_bp : ∀ (ms : List (Nat × SlotSh)) {R R' : Type} {f : CurM ms R} {g : CurM ms R'} {acc : Env} {K : Env → R → R' → Prop}, exM ms f g acc K →
    exM ms f g acc fun e i m => K e i m ∧ ∀ s, get e s = get acc s ∨ ∀ d off, get e s ≠ .bp d off
  | [], _, _, f, g, acc, K, h => ⟨h, fun s => .inl rfl⟩
  | m :: ms, _, _, f, g, acc, K, h => by
    refine exL_mono _ (fun ds f' g' hh => ?_) h
    refine exM_mono ms (fun e i mm hh => ⟨hh.1, fun s => ?_⟩) (exM_bp ms hh)
    rcases hh.2 s with h1 | h1
    · by_cases hs : s = m.1
      · right
        subst hs
        rw [h1, get_same]
        intro d off hc
        unfold slotE at hc
        split at hc <;> cases hc
      · left; rw [h1, get_ne _ _ hs]
    · exact .inr h1
theorem nd_keep {keep : List Nat} {e : Env} (hr : okRefs env keep = true) (hk : ∀ s ∈ keep, get e s = get env s) (hb : ∀ s, get e s = get (keepL env keep env0) s ∨ ∀ d off, get e s ≠ .bp d off) : ND e := by
  intro s d off hg
  rcases hb s with h1 | h1
  · rw [h1, get_keepL] at hg
    by_cases hs : s ∈ keep
    · rw [if_pos hs] at hg
      unfold okRefs at hr
      have h2 := List.all_eq_true.1 hr s hs
      rw [hg] at h2
      simp only at h2
      split at h2
      · rename_i hany
        obtain ⟨x, hx, hxd⟩ := List.any_eq_true.1 hany
        have := Nat.eq_of_beq_eq_true hxd
        subst this
        rw [hk _ hx]; exact h2
      · cases h2
    · rw [if_neg hs] at hg; cases hg
  · exact absurd hg (h1 d off)
theorem specs_ok {ops : Array Oper} : ∀ (l : List Nat) (k : (Nat → Option CSpec) → Prop), withSpecs P ops l k →
    ∃ cs : Nat → Option CSpec, (∀ i c, cs i = some c → SpecLaw c) ∧ (∀ i o c f, ops[i]? = some o → cs i = some c → callF o.op = some f → ∀ as0 s, c.pre as0 s → DCalls P f as0 s (c.post as0 s)) ∧ k cs
  | [], k, h => ⟨_, fun i c hc => by (cases hc), fun i o c f _ hc => by (cases hc), h⟩
  | j :: r, k, h => by
    unfold withSpecs at h
    cases hf : (ops[j]?).bind fun o => callF o.op with
    | none => rw [hf] at h; exact h.elim
    | some f0 =>
      rw [hf] at h
      obtain ⟨pre, post, ⟨g1, g2⟩, h⟩ := h
      obtain ⟨cs, h1, h2, h3⟩ := specs_ok r _ h
      refine ⟨_, ?_, ?_, h3⟩
      · intro i c hc
        cases hb : Nat.beq i j with
        | true => simp only [hb] at hc; injection hc with hc; rw [← hc]; exact g2
        | false => simp only [hb] at hc; exact h1 i c hc
      · intro i o c f ho hc hcf as0 s hp
        cases hb : Nat.beq i j with
        | true =>
          simp only [hb] at hc
          injection hc with hc
          have := Nat.eq_of_beq_eq_true hb
          subst this
          rw [ho] at hf
          have hf : callF o.op = some f0 := hf
          rw [hcf] at hf; injection hf with hf
          subst hf hc
          exact g1 as0 s hp
        | false => simp only [hb] at hc; exact h2 i o c f ho hc hcf as0 s hp
theorem checkGo_cs (an : Ann) (ops : Array Oper) (da : DAnn) (cs : Nat → Option CSpec) : ∀ (l : List Nat) (acc : List (Nat × Nat)), checkGo P an ops { ord := da.ord, nb := da.nb, av := da.av, dir := da.dir, sp := da.sp, cs := cs } l acc = checkGo P an ops da l acc
  | [], acc => rfl
  | x :: r, acc => by
    unfold checkGo
    simp only [checkGo_cs an ops da cs r]
    rfl
theorem raceFree_cs (an : Ann) (ops : Array Oper) (da : DAnn) (cs : Nat → Option CSpec) : raceFree P an ops { ord := da.ord, nb := da.nb, av := da.av, dir := da.dir, sp := da.sp, cs := cs } = raceFree P an ops da := by
  unfold raceFree
  rw [checkGo_cs]
theorem leaf_ok (an : Ann) (S : Nat → Prop) (da : DAnn) (ops : Array Oper) (Qx : Exit → Kont) (a : Act) (W : World) (env : Env) (σ : Store) (hd : ∀ o ∈ ops.toList, ∀ d, o.dst = some d → d < n ∧ S d)
    (hr : Rel P k0 β0 σ0 W0 n a W env σ) (hnd : ND env) (h : dleaf P an da ops (Qx .normal) env σ) : wpAny P .any ops (OutX P k0 β0 σ0 W0 n S env Qx) ops.size (Array.replicate ops.size false) a { W with drawn := W.drawn + 1 } := by
  have h : (match raceFree P an ops da with | true => fun env σ => withSpecs P ops da.sp fun cs => dopsI P an ops { ord := da.ord, nb := da.nb, av := da.av, dir := da.dir, sp := da.sp, cs := cs } da.ord (Qx .normal) env σ | false => fun _ _ => False) env σ := h
  cases hrf : raceFree P an ops da with
  | false => rw [hrf] at h; exact h.elim
  | true =>
    rw [hrf] at h
    have h : withSpecs P ops da.sp fun cs => dopsI P an ops { ord := da.ord, nb := da.nb, av := da.av, dir := da.dir, sp := da.sp, cs := cs } da.ord (Qx .normal) env σ := h
    obtain ⟨cs, hsl, hsp, h⟩ := specs_ok _ _ h
    have hrf : raceFree P an ops { ord := da.ord, nb := da.nb, av := da.av, dir := da.dir, sp := da.sp, cs := cs } = true := (raceFree_cs an ops da cs).trans hrf
    have hsl : ∀ i c, ({ ord := da.ord, nb := da.nb, av := da.av, dir := da.dir, sp := da.sp, cs := cs } : DAnn).cs i = some c → SpecLaw c := hsl
    have hsp : ∀ i o c f, ops[i]? = some o → ({ ord := da.ord, nb := da.nb, av := da.av, dir := da.dir, sp := da.sp, cs := cs } : DAnn).cs i = some c → callF o.op = some f → ∀ as0 s, c.pre as0 s → DCalls P f as0 s (c.post as0 s) := hsp
    revert h hrf hsl hsp
    generalize hda' : ({ ord := da.ord, nb := da.nb, av := da.av, dir := da.dir, sp := da.sp, cs := cs } : DAnn) = da'
    have hord : da.ord = da'.ord := by rw [← hda']
    rw [hord]
    clear hda' hord
    intro h hrf hsl hsp
    have hg : ∀ j, (Array.replicate ops.size false).getD j false = false := fun j => by
      by_cases hj : j < ops.size <;> simp [hj]
    refine any_ok (da := da') hsl hsp hrf _ (fun o ho d hod => hd o ho d hod) env ops.size _ a _ (by simp) (fun j oj _ hl => by rw [hg] at hl; cases hl) ?_ ?_
    · unfold raceFree at hrf
      simp only [Bool.and_eq_true] at hrf
      exact Nat.le_trans (List.length_filter_le _ _) (Nat.le_of_ble_eq_true hrf.1.1)
    · obtain ⟨hdef, k, β, γ, hX⟩ := hr
      refine ⟨env, σ, ?_, ⟨⟨hdef, k, β, γ, hX.grow (Grow.drew W)⟩, hnd⟩, fun s _ => .of_eq rfl⟩
      have hall : (da'.ord.filter fun j => !(Array.replicate ops.size false).getD j true) = da'.ord := by
        refine List.filter_eq_self.2 fun j hj => ?_
        -- each is one of the region's
        have hgo : checkGo P an ops da' da'.ord [] = true := by
          unfold raceFree at hrf
          simp only [Bool.and_eq_true] at hrf
          exact hrf.2
        obtain ⟨c1, c2, hc⟩ := List.append_of_mem hj
        obtain ⟨oj, _, hoj, _⟩ := checkGo_spec hgo (fun p hp => by cases hp) c1 j c2 hc
        have hlt := (Array.getElem?_eq_some_iff.1 hoj).1
        simp [hlt]
      rw [hall]; exact h
theorem tree_ok (an : Ann) (S : Nat → Prop) (Qx : Exit → Kont) (a : Act) (W : World) (env : Env) (σ : Store) (hr : Rel P k0 β0 σ0 W0 n a W env σ) (hnd : ND env) :
    ∀ (t : DT) (ops : Array Oper), (∀ o ∈ ops.toList, ∀ d, o.dst = some d → d < n ∧ S d) → dtree P an t ops (Qx .normal) env σ →
      ∀ L, ValidL ops (Array.replicate ops.size false) L → wpOps P ops (OutX P k0 β0 σ0 W0 n S env Qx) L a { W with drawn := W.drawn + 1 }
  | .leaf da, ops, hd, h, L, hL => any_list L _ _ _ _ (leaf_ok an S da ops Qx a W env σ hd hr hnd h) hL
  | .split i j x y, ops, hd, h, L, hL => by
    have h : (match Nat.beq i j with
      | true => fun _ _ => False
      | false => fun env σ => dtree P an x (withEdge ops i j) (Qx .normal) env σ ∧ dtree P an y (withEdge ops j i) (Qx .normal) env σ) env σ := h
    cases hb : Nat.beq i j with
    | true => rw [hb] at h; exact h.elim
    | false =>
      rw [hb] at h
      have hij : i ≠ j := fun e => by subst e; rw [Nat.beq_refl] at hb; cases hb
      have hdd : ∀ i j, ∀ o ∈ (withEdge ops i j).toList, ∀ d, o.dst = some d → d < n ∧ S d := fun i j o ho d hod => by
        obtain ⟨o', h1, h2⟩ := we_mem ho
        exact hd o' h1 d (h2.trans hod)
      rcases valid_split hij L _ hL with hv | hv
      · exact we_ops i j L _ _ (tree_ok an S Qx a W env σ hr hnd x _ (hdd i j) h.1 L (by rw [we_size]; exact hv))
      · exact we_ops j i L _ _ (tree_ok an S Qx a W env σ hr hnd y _ (hdd j i) h.2 L (by rw [we_size]; exact hv))
theorem draw_ok (hm : P.follows .mixedOrders = true) (an : Ann) (id : Nat) (ops : Array Oper) (Qx : Exit → Kont) (a : Act) (W : World) (env : Env) (σ : Store) (hd : ∀ o ∈ ops.toList, ∀ d, o.dst = some d → d < n)
    (hr : Rel P k0 β0 σ0 W0 n a W env σ) (hnd : ND env) (h : ddraw P an id ops (Qx .normal) env σ) : (Code.region id ops true).wp P (OutX P k0 β0 σ0 W0 n (Cl an (.region id ops true)) env Qx) a W := by
  have hall : ∀ o ∈ ops.toList, ∀ d, o.dst = some d → d < n ∧ Cl an (.region id ops true) d := fun o ho d hod => ⟨hd o ho d hod, pres_region ho hod⟩
  unfold ddraw at h
  cases ht : findT id an.splits with
  | some t =>
    rw [ht] at h
    exact region_list hm fun L hL => tree_ok an _ Qx a W env σ hr hnd t ops hall h L hL
  | none =>
    rw [ht] at h
    refine wp_region_any hm ?_
    cases hda : findD id an.draws with
    | none => simp only [hda] at h
    | some da =>
      simp only [hda] at h
      exact leaf_ok an _ da ops Qx a W env σ hall hr hnd h
theorem dwp_ok (hm : P.follows .mixedOrders = true) (an : Ann) :
    ∀ (c : Code) (Qx : Exit → Kont) (a : Act) (W : World) (env : Env) (σ : Store), (∀ d ∈ dsts c, d < n) → Rel P k0 β0 σ0 W0 n a W env σ ∧ ND env → dwp P an c Qx env σ →
      c.wp P (OutX P k0 β0 σ0 W0 n (Cl an c) env Qx) a W
  | .skip, Qx, a, W, env, σ, _, hr, h => wp_skip ⟨env, σ, h, hr, fun s _ => .of_eq rfl⟩
  | .label l, Qx, a, W, env, σ, _, hr, h => wp_label ⟨env, σ, h, hr, fun s _ => .of_eq rfl⟩
  | .exit id, Qx, a, W, env, σ, _, hr, h => wp_exit ⟨env, σ, h, hr, fun s _ => .of_eq rfl⟩
  | .ret, Qx, a, W, env, σ, _, hr, h => wp_ret ⟨env, σ, h, hr, fun s _ => .of_eq rfl⟩
  | .region id ops false, Qx, a, W, env, σ, hd, hr, h => by
    refine wp_region_list (dops_ok ops an (Cl an (.region id ops false)) (fun o ho d hod => ⟨?_, pres_region ho hod⟩) env ops.toList a W (fun o ho => ho) ⟨env, σ, h, hr, fun s _ => .of_eq rfl⟩)
    exact hd d (by simp only [dsts, List.mem_filterMap]; exact ⟨o, ho, hod⟩)
  | .region id ops true, Qx, a, W, env, σ, hd, hr, h =>
    draw_ok hm an id ops Qx a W env σ (fun o ho d hod => hd d (by simp only [dsts, List.mem_filterMap]; exact ⟨o, ho, hod⟩)) hr.1 hr.2 h
  | .cond c x y, Qx, a, W, env, σ, hd, hr, h => by
    have hx := fun Q a W env σ => dwp_ok hm an x Q a W env σ (fun d hd' => hd d (by simp [dsts, hd']))
    have hy := fun Q a W env σ => dwp_ok hm an y Q a W env σ (fun d hd' => hd d (by simp [dsts, hd']))
    have h : dcond (opE env c) (dwp P an x Qx env σ) (dwp P an y Qx env σ) := h
    have sx : ∀ s, Cl an x s → Cl an (.cond c x y) s := by intro s hs; unfold Cl pres; rw [hs]
    have sy : ∀ s, Cl an y s → Cl an (.cond c x y) s := by intro s hs; unfold Cl pres; rw [hs]; split <;> rfl
    have go : ∀ t : Bool, a.eval c = .bool t → (t = true → dwp P an x Qx env σ) → (t = false → dwp P an y Qx env σ) → (Code.cond c x y).wp P (OutX P k0 β0 σ0 W0 n (Cl an (.cond c x y)) env Qx) a W := by
      intro t ht h1 h2
      cases t with
      | true => exact wp_cond_true ht (Code.wp_mono (fun e a W q => q.mono (fun _ _ => .of_eq rfl) sx (fun _ _ h => h)) (hx Qx a W env σ hr (h1 rfl)))
      | false => exact wp_cond_false ht (Code.wp_mono (fun e a W q => q.mono (fun _ _ => .of_eq rfl) sy (fun _ _ h => h)) (hy Qx a W env σ hr (h2 rfl)))
    unfold dcond at h
    split at h
    · rename_i t hc
      exact go t (evalBool hr.1 hc) (fun e => by subst e; exact h) (fun e => by subst e; exact h)
    · exact h.elim
  | .block id c, Qx, a, W, env, σ, hd, hr, h => by
    have hc := dwp_ok hm an c (inBlockX id Qx) a W env σ hd hr h
    refine wp_block (Code.wp_mono (fun e a W q => ?_) hc)
    obtain ⟨env', σ', q1, q2, q3⟩ := q
    cases e with
    | exit id' =>
      simp only [Exit.inBlock]
      simp only [inBlockX] at q1
      by_cases he : id' = id
      · rw [if_pos he]
        simp only [he, decide_true] at q1
        exact ⟨env', σ', q1, q2, q3⟩
      · rw [if_neg he]
        simp only [he, decide_false] at q1
        exact ⟨env', σ', q1, q2, q3⟩
    | _ => exact ⟨env', σ', q1, q2, q3⟩
  | .seq x y, Qx, a, W, env, σ, hd, hr, h => by
    have hx := fun Q a W env σ => dwp_ok hm an x Q a W env σ (fun d hd' => hd d (by simp [dsts, hd']))
    have hy := fun Q a W env σ => dwp_ok hm an y Q a W env σ (fun d hd' => hd d (by simp [dsts, hd']))
    have sx : ∀ s, Cl an x s → Cl an (.seq x y) s := by intro s hs; simp only [Cl, pres, hs]
    have sy : ∀ s, Cl an y s → Cl an (.seq x y) s := by intro s hs; simp only [Cl, pres, hs]; cases pres an s x <;> rfl
    cases hj : findAnn (firstReg y) an.joins with
    | some j =>
      have h : djoin j (fun s => pres an s x) (dwp P an x) (dwp P an y Qx) Qx env σ := by simpa only [dwp, hj] using h
      unfold djoin at h
      split at h
      · rename_i hok hrefs
        -- what is wanted of the join
        have h := h (mkM j.mods (keepL env j.keep env0) (fun e σ => dwp P an y Qx e σ)) (by
          rw [keepE_iff]
          exact allM_mkM _ _ _ _ fun e σ' hh => hh)
        refine wp_seq (Code.wp_mono (fun e a1 W1 q => ?_) (hx _ a W env σ hr h))
        obtain ⟨env1, σ1, q1, q2, q3⟩ := q
        cases e with
        | normal =>
          simp only [thenX] at q1
          obtain ⟨q1, q4⟩ := sameBx_spec q1 (fun s hs => q3 s (by rw [show Cl an x s = (pres an s x = false) from rfl, (okKeep_spec hok hs).1]; simp))
          have hex := appM_exM j.mods env1 _ _ (keepL env j.keep env0) _ _ (fun e' r r' => r σ1 ∧ (∀ s, WkE (get env1 s) (get e' s))) q1 q1 (wk_keep (mods := j.mods) q4) (fun e' f' g' hw h1 _ => ⟨h1, hw⟩)
          obtain ⟨e', ⟨⟨h1, h2⟩, h4⟩, h3⟩ := exM_mkM _ _ _ _ (exM_keeps (exM_bp _ hex) j.keep (fun s hs => (okKeep_spec hok hs).2))
          have hnd : ND e' := nd_keep hrefs (fun s hs => by rw [h3 s hs, get_keepL, if_pos hs]) h4
          refine Code.wp_mono (fun e a2 W2 q => q.mono (fun s hs => ?_) sy (fun _ _ h => h)) (hy Qx a1 W1 e' σ1 ⟨q2.1.weaken h2, hnd⟩ h1)
          have hsk : s ∈ j.keep := by
            have hs : pres an s (.seq x y) = true := by simpa using hs
            simp only [pres, hj] at hs
            split at hs
            · rename_i j' _ _ hj'
              injection hj' with hj'; subst hj'
              obtain ⟨d, hd, hb⟩ := List.any_eq_true.1 hs
              rw [← Nat.eq_of_beq_eq_true hb]; exact hd
            · rename_i hj'; cases hj'
            · cases hs
          refine .of_eq ?_
          rw [h3 s hsk, get_keepL, if_pos hsk]
        | _ => exact ⟨env1, σ1, q1, q2, fun s hs => q3 s (fun hc => hs (sx s hc))⟩
      · exact h.elim
    | none =>
      have h : dwp P an x (thenX (dwp P an y Qx) Qx) env σ := by simpa only [dwp, hj] using h
      refine wp_seq (Code.wp_mono (fun e a1 W1 q => ?_) (hx _ a W env σ hr h))
      obtain ⟨env1, σ1, q1, q2, q3⟩ := q
      cases e with
      | normal =>
        refine Code.wp_mono (fun e a2 W2 q => q.mono (fun s hs => q3 s (fun hc => hs (sx s hc))) sy (fun _ _ h => h)) (hy Qx a1 W1 env1 σ1 q2 q1)
      | _ => exact ⟨env1, σ1, q1, q2, fun s hs => q3 s (fun hc => hs (sx s hc))⟩
  | .loop c, Qx, a, W, env, σ, hd, hr, h => by
    have hc := fun Q a W env σ => dwp_ok hm an c Q a W env σ hd
    cases hl : findAnn (firstReg c) an.loops with
    | none =>
      exfalso
      simp only [dwp, hl] at h
    | some l =>
      have sx : ∀ s, Cl an c s → Cl an (.loop c) s := by intro s hs; simp only [Cl, pres, hs]
      have hcase : l.un = 0 ∨ ∃ m0, l.un = m0 + 1 := by cases l.un; exact .inl rfl; exact .inr ⟨_, rfl⟩
      rcases hcase with hun | ⟨m0, hun⟩
      rotate_left
      · skip
        have h : dunroll (dwp P an c) Qx (m0 + 1) env σ := by simpa only [dwp, hl, hun] using h
        let J : Nat → Act → World → Prop := fun m a1 W1 => ∃ env1 σ1, Rel P k0 β0 σ0 W0 n a1 W1 env1 σ1 ∧ ND env1 ∧ dunroll (dwp P an c) Qx m env1 σ1 ∧ ∀ s, ¬ Cl an (.loop c) s → FrS env env1 s
        refine wp_loop_ghost J (m0 + 1) ⟨env, σ, hr.1, hr.2, h, fun s _ => .of_eq rfl⟩ fun m a1 W1 hJ => ?_
        obtain ⟨env1, σ1, r1, r2, h1, h2⟩ := hJ
        cases m with
        | zero => exact h1.elim
        | succ m =>
        refine Code.wp_mono (fun e a2 W2 q => ?_) (hc _ a1 W1 env1 σ1 ⟨r1, r2⟩ h1)
        obtain ⟨env2, σ2, q1, q2, q3⟩ := q
        have fr : ∀ s, ¬ Cl an (.loop c) s → FrS env env2 s := fun s hs => (h2 s hs).trans (q3 s (fun hc => hs (sx s hc)))
        cases e with
        | normal =>
          simp only [thenX] at q1
          exact ⟨m, by omega, env2, σ2, q2.1, q2.2, q1, fr⟩
        | _ => exact ⟨env2, σ2, q1, q2, fr⟩
      have h : dloop l (fun s => pres an s c) (dwp P an c) Qx env σ := by simpa only [dwp, hl, hun] using h
      unfold dloop at h
      split at h
      · rename_i hok hrefs
        obtain ⟨I, μ, h0, hround⟩ := h
        rw [keepE_iff] at hround
        have hne : ∀ s ∈ l.keep, ∀ m ∈ l.mods, m.1 ≠ s := fun s hs => (okKeep_spec hok hs).2
        -- the relation at the loop's head
        let J : Nat → Act → World → Prop := fun m a W => exM l.mods I μ (keepL env l.keep env0) fun e i mm =>
          (∃ σ', i σ' ∧ mm σ' = m ∧ Rel P k0 β0 σ0 W0 n a W e σ' ∧ ND e) ∧ ∀ s ∈ l.keep, get e s = get env s
        -- a frame that fits the shapes stands at a head
        have arrive : ∀ (env1 : Env) (σ1 : Store) (a1 : Act) (W1 : World) (q : (Store → Nat) → Prop), Rel P k0 β0 σ0 W0 n a1 W1 env1 σ1 → (∀ s ∈ l.keep, get env1 s = get env s) →
            appM l.mods env1 I (fun i => i σ1) → appM l.mods env1 μ q → ∃ m, J m a1 W1 ∧ ∃ mm : Store → Nat, q mm ∧ mm σ1 = m := by
          intro env1 σ1 a1 W1 q hr1 hk1 h1 h2
          have hex := appM_exM l.mods env1 I μ (keepL env l.keep env0) _ _ (fun e' i mm => i σ1 ∧ q mm ∧ (∀ s, WkE (get env1 s) (get e' s))) h1 h2 (wk_keep (mods := l.mods) hk1) (fun e' f' g' hw h1 h2 => ⟨h1, h2, hw⟩)
          have hex2 := exM_mono l.mods (K' := fun e i mm => ∃ m, ((∃ σ', i σ' ∧ mm σ' = m ∧ Rel P k0 β0 σ0 W0 n a1 W1 e σ' ∧ ND e) ∧ ∀ s ∈ l.keep, get e s = get env s) ∧ ∃ mm : Store → Nat, q mm ∧ mm σ1 = m)
            (fun e i mm hh => ⟨mm σ1, ⟨⟨σ1, hh.1.1.1, rfl, hr1.weaken hh.1.1.2.2, nd_keep hrefs (fun s hs => by rw [hh.2 s hs, get_keepL, if_pos hs]) hh.1.2⟩, fun s hs => by rw [hh.2 s hs, get_keepL, if_pos hs]⟩, mm, hh.1.1.2.1, rfl⟩) (exM_keeps (exM_bp _ hex) l.keep hne)
          obtain ⟨m, hm⟩ := exM_pull l.mods hex2
          refine ⟨m, exM_mono l.mods (fun e i mm hh => hh.1) hm, ?_⟩
          obtain ⟨_, _, _, hh⟩ := exM_some l.mods hm
          exact hh.2
        obtain ⟨m0, hJ0, _⟩ := arrive env σ a W (fun _ => True) hr.1 (fun s hs => rfl) h0 (appM_other l.mods μ h0)
        have sx : ∀ s, Cl an c s → Cl an (.loop c) s := by intro s hs; simp only [Cl, pres, hs]
        refine wp_loop_ghost J m0 hJ0 fun m a1 W1 hJ => ?_
        obtain ⟨envH, i, mm, g1, ⟨σ1, g2, g3, g4⟩, g5⟩ := allM_exM l.mods I μ _ _ _ hround hJ
        refine Code.wp_mono (fun e a2 W2 q => ?_) (hc _ a1 W1 envH σ1 g4 (g1 σ1 g2))
        obtain ⟨env2, σ2, q1, q2, q3⟩ := q
        cases e with
        | normal =>
          simp only [thenX] at q1
          obtain ⟨q1, q4⟩ := sameBx_spec q1 (fun s hs => q3 s (by rw [show Cl an c s = (pres an s c = false) from rfl, (okKeep_spec hok hs).1]; simp))
          obtain ⟨m', hJ', mm', hlt, he⟩ := arrive env2 σ2 a2 W2 (fun m' => m' σ2 < mm σ1) q2.1 (fun s hs => by rw [q4 s hs, g5 s hs]) (appM_mono l.mods (fun r hr => hr.1) q1)
            (appM_const l.mods (appM_mono l.mods (fun r hr => hr.2) q1))
          exact ⟨m', by omega, hJ'⟩
        | _ =>
          refine ⟨env2, σ2, q1, q2, fun s hs => ?_⟩
          have hsk : s ∈ l.keep := by
            have hs : pres an s (.loop c) = true := by simpa using hs
            simp only [pres, hl] at hs
            split at hs
            · rename_i l' _ hl'
              injection hl' with hl'; subst hl'
              obtain ⟨d, hd, hb⟩ := List.any_eq_true.1 hs
              rw [← Nat.eq_of_beq_eq_true hb]; exact hd
            · cases hs
          exact (FrS.of_eq (g5 s hsk)).trans (q3 s (fun hc => hs (sx s hc)))
      · exact h.elim
  | .rangeFunc .., Qx, a, W, env, σ, _, hr, h => h.elim
  | .scope _, Qx, a, W, env, σ, _, hr, h => h.elim
  | .goto _, Qx, a, W, env, σ, _, hr, h => h.elim
  | .refuse _, Qx, a, W, env, σ, _, hr, h => h.elim
end
end Go.Fw
end
section
set_option linter.unusedVariables false
set_option linter.unusedSimpArgs false
namespace Go.Fw
section
variable {P : Program} {k0 : Nat → Prop} {β0 : Bk} {σ0 : Store} {W0 : World} {n : Nat} {k : Nat → Prop} {β : Bk} {γ : Nat → Nat}
  {tmps : Array Value} {W W' : World} {env : Env} {σ σ' : Store} {a : Act} {o : Oper} {K : Kont}
theorem get_args : ∀ (as0 : List A) (i s : Nat), get (argsEnv i as0) s = if i ≤ s then (match as0[s - i]? with | some x => .val x | none => .undef) else .undef
  | [], i, s => by simp [argsEnv, env0, get]
  | x :: r, i, s => by
    have ih := get_args r (i + 1) s
    have e1 : argsEnv i (x :: r) = setE (argsEnv (i + 1) r) i (.val x) := by cases x <;> rfl
    rw [e1]
    by_cases hs : s = i
    · subst hs; rw [get_same]; simp
    · rw [get_ne _ _ hs, ih]
      by_cases hle : i ≤ s
      · have h1 : i + 1 ≤ s := by omega
        have h2 : s - i = (s - (i + 1)) + 1 := by omega
        rw [if_pos h1, if_pos hle, h2, List.getElem?_cons_succ]
      · rw [if_neg hle, if_neg (by omega)]
theorem rel_args (hS : SRel P k β W σ) {args : List A} {vs : Array Value} {m : Nat} (hm : args.length ≤ m) (hsz : vs.size = args.length)
    (hv : ∀ (i : Nat) v x, vs[i]? = some v → args[i]? = some x → VA k β W v x) :
    Rel P k β σ W m { tmps := vs ++ Array.replicate (m - vs.size) undef, defers := [] } W (argsEnv 0 args) σ ∧ ND (argsEnv 0 args) := by
  have hg : ∀ s, get (argsEnv 0 args) s = match args[s]? with | some x => .val x | none => .undef := fun s => by
    rw [get_args]; simp
  have hnb : ∀ s cs, ¬ IsBox (get (argsEnv 0 args) s) cs := by
    intro s cs
    rw [hg]
    cases args[s]? <;> rintro (h | h) <;> cases h
  refine ⟨⟨rfl, k, β, fun _ => 0, ?_⟩, fun s d off h => by rw [hg] at h; cases hx : args[s]? <;> rw [hx] at h <;> cases h⟩
  exact {
    srel := hS
    slot := fun s => by
      rw [hg]
      cases hx : args[s]? with
      | none => trivial
      | some x =>
        have hlt : s < vs.size := by rw [hsz]; exact (List.getElem?_eq_some_iff.1 hx).1
        have e1 : (vs ++ Array.replicate (m - vs.size) undef).getD s undef = vs[s] := by
          simp [Array.getElem?_append_left hlt, hlt]
        show VA k β W _ x
        rw [e1]
        exact hv s _ x (Array.getElem?_eq_getElem hlt) hx
    box := fun s cs hb => absurd hb (hnb s cs)
    inj := fun s s' cs cs' hb => absurd hb (hnb s cs)
    ghost := Ghost.refl _ _ _ _
    frm := Frm.refl _ _ _
    size := by simp; omega }
def rrun (tmps : Array Value) (r : ResultVar) : Sem Value :=
  match r with
  | .tmp t => pure (tmps.getD t undef)
  | .cell b t => do loadVar t (← asAddr (tmps.getD b undef))
theorem mapM_run_cons {α : Type} {f : α → Sem Value} {r : α} {rs : List α} {v : Value} {vs : List Value} (h1 : (f r).run P W = .ok v W) (h2 : (rs.mapM f).run P W = .ok vs W) :
    ((r :: rs).mapM f).run P W = .ok (v :: vs) W := by
  rw [List.mapM_cons, Sem.run_bind, h1]
  show ((rs.mapM f) >>= fun as0 => pure (v :: as0)).run P W = _
  rw [Sem.run_bind, h2]
  rfl
theorem dres_run (h : RelX P k0 β0 σ0 W0 n k β γ tmps W env σ) : ∀ (rs : List ResultVar) (as0 : List A), dres P env rs = some as0 →
    ∃ vs : List Value, (rs.mapM (rrun tmps)).run P W = .ok vs W ∧ vs.length = as0.length ∧ ∀ (i : Nat) v x, vs[i]? = some v → as0[i]? = some x → VA k β W v x
  | [], as0, hd => by simp [dres] at hd; subst hd; exact ⟨[], rfl, rfl, fun i v x hv => by simp at hv⟩
  | r :: rs, as0, hd => by
    have fin : ∀ (u : Value) (x : A) (xs : List A), dres P env rs = some xs → (rrun tmps r).run P W = .ok u W → VA k β W u x → some (x :: xs) = some as0 →
        ∃ vs : List Value, ((r :: rs).mapM (rrun tmps)).run P W = .ok vs W ∧ vs.length = as0.length ∧ ∀ (i : Nat) v x, vs[i]? = some v → as0[i]? = some x → VA k β W v x := by
      intro u x xs h2 hu hva hd
      injection hd with hd; subst hd
      obtain ⟨vs, q1, q2, q3⟩ := dres_run h rs xs h2
      refine ⟨u :: vs, mapM_run_cons hu q1, by simp [q2], fun i v y hv hy => ?_⟩
      cases i with
      | zero => simp only [List.getElem?_cons_zero, Option.some.injEq] at hv hy; subst hv hy; exact hva
      | succ i => exact q3 i v y (by simpa using hv) (by simpa using hy)
    cases r with
    | tmp t =>
      unfold dres at hd
      split at hd
      · rename_i x xs h1 h2
        exact fin _ x xs h2 rfl (toA_va (opE_ev h { tmps := tmps, defers := [] } rfl (.tmp t) 0).1 h1) hd
      · cases hd
    | cell t ty =>
      unfold dres at hd
      split at hd
      · rename_i s off agg he hagg
        split at hd
        · rename_i cs hg
          split at hd
          · rename_i hle
            have hle := of_decide_eq_true hle
            have hev := (opE_ev h { tmps := tmps, defers := [] } rfl (.tmp t) 0).1
            rw [he] at hev
            have hev : tmps.getD t undef = .pointer (some ⟨γ s, off, none⟩) := hev
            obtain ⟨_, _, _, _, arr, t', hheap, _, hVL⟩ := h.box s cs (.inl hg)
            have hsz : arr.size = cs.length := by simpa using hVL.1
            have hvl := hVL.drop_take off (P.cellsOf ty)
            obtain ⟨r1, r2⟩ := loadVar_run (P := P) (W := W) hagg (b := γ s) (o' := off) (vals := (arr.toList.drop off).take (P.cellsOf ty)) (by simp; omega) (fun j v hv => by
              rw [cell_of_heap hheap]
              rw [List.getElem?_take] at hv
              split at hv
              · simpa using hv
              · cases hv)
            have hrun : ∀ u, (loadVar ty ⟨γ s, off, none⟩).run P W = .ok u W → (rrun tmps (.cell t ty)).run P W = .ok u W := by
              intro u hu
              unfold rrun
              simp only [hev, asAddr, pure_bind]
              exact hu
            split at hd
            · rename_i c as0' h2
              exact fin _ (.agg _) _ h2 (hrun _ (r1 rfl)) ⟨_, rfl, hvl⟩ hd
            · rename_i d as0' hc h2
              rw [hc] at hvl
              have hl := hvl.1
              cases hvs : (arr.toList.drop off).take (P.cellsOf ty) with
              | nil => rw [hvs] at hl; simp at hl
              | cons u us =>
                cases us with
                | cons => rw [hvs] at hl; simp at hl
                | nil =>
                  rw [hvs] at hvl
                  exact fin u (.one d) _ h2 (hrun _ (r2 u rfl hvs)) (hvl.2 0 u d rfl rfl) hd
            · cases hd
          · cases hd
        · cases hd
      · cases hd
theorem dcalls_of_body {f : FuncId} {fn : Func} {args : List A} {Q : RV → Store → Prop} (hm : P.follows .mixedOrders = true) (hok : callOk P f = true) (hf : P.funcs[f]? = some fn) (an : Ann)
    (h : dbody P fn an args σ Q) : DCalls P f args σ Q := by
  refine ⟨hok, fun k β W vs hS hsz hv => ?_⟩
  unfold dbody at h
  split at h
  · rename_i c hb
    split at h
    · rename_i hd hm'
      have hm' := Nat.le_of_ble_eq_true hm'
      obtain ⟨hr, hnd⟩ := rel_args hS hm' hsz hv
      have hw := dwp_ok hm an c (retX P fn Q) _ W (argsEnv 0 args) σ (fun d hd' => by
        have := List.all_eq_true.1 hd d hd'
        exact Nat.lt_of_succ_le (Nat.le_of_ble_eq_true this)) ⟨hr, hnd⟩ h
      refine calls_of_wp hf hb (Code.wp_mono (fun e a' W' hq => ?_) hw)
      have fin : ∀ e, (e = .normal ∨ e = .ret) → OutX P k β σ W fn.ntmps (Cl an c) (argsEnv 0 args) (retX P fn Q) e a' W' →
          a'.defers = [] ∧ ∃ v, (results fn a'.tmps).run P W' = .ok v W' ∧ ∃ v' r σ' k' β', Ending.returned v = .returned v' ∧ Q r σ' ∧ VR k' β' W' v' r ∧ SRel P k' β' W' σ' ∧ Ghost k β σ W k' β' σ' ∧ Frm β σ W W' := by
        intro e he hq
        obtain ⟨env', σ', q1, ⟨⟨q2, k', β', γ', q3⟩, _⟩, _⟩ := hq
        refine ⟨q2, ?_⟩
        have q1 : (match dres P env' fn.results.toList with | some [x] => Q (.a x) σ' | some as0 => Q (.tup as0) σ' | none => False) := by
          rcases he with rfl | rfl <;> exact q1
        cases hres : dres P env' fn.results.toList with
        | none => rw [hres] at q1; exact q1.elim
        | some as0 =>
          rw [hres] at q1
          obtain ⟨vs', r1, r2, r3⟩ := dres_run q3 fn.results.toList as0 hres
          have hrun : (fn.results.mapM (rrun a'.tmps)).run P W' = .ok vs'.toArray W' := by
            have e1 : fn.results = fn.results.toList.toArray := by simp
            rw [e1, List.mapM_toArray]
            show ((fn.results.toList.mapM (rrun a'.tmps)) >>= fun x => pure x.toArray).run P W' = _
            rw [Sem.run_bind, r1]
            rfl
          have hrr : (results fn a'.tmps).run P W' = .ok (if h : vs'.toArray.size = 1 then vs'.toArray[0] else .tuple vs'.toArray) W' := by
            show ((fn.results.mapM (rrun a'.tmps)) >>= fun vs => pure (if h : vs.size = 1 then vs[0] else .tuple vs)).run P W' = _
            rw [Sem.run_bind, hrun]
            rfl
          refine ⟨_, hrr, ?_⟩
          match as0, r2, r3, q1 with
          | [x], r2, r3, q1 =>
            match vs', r2, r3 with
            | [v], _, r3 =>
              exact ⟨v, .a x, σ', k', β', rfl, q1, r3 0 v x rfl rfl, q3.srel, q3.ghost, q3.frm⟩
          | [], r2, r3, q1 =>
            match vs', r2 with
            | [], _ => exact ⟨.tuple #[], .tup [], σ', k', β', rfl, q1, ⟨#[], rfl, rfl, fun i u y hu => by simp at hu⟩, q3.srel, q3.ghost, q3.frm⟩
          | x :: y :: r, r2, r3, q1 =>
            match vs', r2, r3 with
            | v :: u :: w, r2, r3 =>
              refine ⟨.tuple (v :: u :: w).toArray, .tup (x :: y :: r), σ', k', β', ?_, q1, ⟨_, rfl, by simpa using r2, fun i u' z hu hz => r3 i u' z (by simpa using hu) hz⟩, q3.srel, q3.ghost, q3.frm⟩
              rw [dif_neg (by simp)]
      cases e with
      | normal => exact fin _ (.inl rfl) hq
      | ret => exact fin _ (.inr rfl) hq
      | _ =>
        obtain ⟨env', σ', q1, _⟩ := hq
        exact q1.elim
    · exact h.elim
  · exact h.elim
end
end Go.Fw
end
section
set_option linter.unusedVariables false
set_option linter.unusedSimpArgs false
namespace Go.Fw
abbrev w64 (n : Int) : Int := IntKind.i64.wrap n
inductive Fz (P : Program) (σ : Store) (S : Nat → Prop) : D → D → Prop
  | int (q n) : Fz P σ S (.int q n) (.int q n)
  | bool (b) : Fz P σ S (.bool b) (.bool b)
  | str (s) : Fz P σ S (.str s) (.str s)
  | nils : Fz P σ S .nils .nils
  | zsl : Fz P σ S .zsl .zsl
  | sl (es : Nat) (rows rows' : List (List D)) (hl : rows'.length = rows.length) (hr : ∀ (i : Nat) row row', rows[i]? = some row → rows'[i]? = some row' → row'.length = row.length)
      (hc : ∀ (i : Nat) row row' (j : Nat) d d', rows[i]? = some row → rows'[i]? = some row' → row[j]? = some d → row'[j]? = some d' → Fz P σ S d d') : Fz P σ S (.sl es rows) (.sl es rows')
  | keep (id i len) (h : S id) : Fz P σ S (.osl id i len) (.osl id i len)
  | osl (id i len : Nat) (t : TypeId) (rows rows' : List (List D)) (hn : ¬ S id) (hs : σ id = .live t rows) (hi : i + len ≤ rows.length) (hl : rows'.length = len)
      (hr : ∀ (j : Nat) row row', rows[i + j]? = some row → rows'[j]? = some row' → row'.length = row.length)
      (hc : ∀ (j : Nat) row row' (m : Nat) d d', rows[i + j]? = some row → rows'[j]? = some row' → row[m]? = some d → row'[m]? = some d' → Fz P σ S d d') : Fz P σ S (.osl id i len) (.sl (P.cellsOf t) rows')
  | nilp : Fz P σ S .nilp .nilp
  | el (s i off) (h : Fz P σ S s s) : Fz P σ S (.el s i off) (.el s i off)
  | nilf : Fz P σ S .nilf .nilf
  | fn0 (f) : Fz P σ S (.fn f [] []) (.fn f [] [])
  | nilm : Fz P σ S .nilm .nilm
  | omap (id) (h : S id) : Fz P σ S (.omap id) (.omap id)
def FzL (P : Program) (σ : Store) (S : Nat → Prop) (ds ds' : List D) : Prop :=
  ds'.length = ds.length ∧ ∀ (i : Nat) d d', ds[i]? = some d → ds'[i]? = some d' → Fz P σ S d d'
def FzA (P : Program) (σ : Store) (S : Nat → Prop) : A → A → Prop
  | .one d, .one d' => Fz P σ S d d'
  | .agg cs, .agg cs' => FzL P σ S cs cs'
  | _, _ => False
def FzR (P : Program) (σ : Store) (S : Nat → Prop) : RV → RV → Prop
  | .a x, .a y => FzA P σ S x y
  | .tup xs, .tup ys => ys.length = xs.length ∧ ∀ (i : Nat) x y, xs[i]? = some x → ys[i]? = some y → FzA P σ S x y
  | _, _ => False
def FzO (P : Program) (σ0 σ : Store) (S : Nat → Prop) (i : Nat) (so' : SO) : Prop :=
  (so' = σ i ∧ σ i = σ0 i) ∨
  match σ i, so' with
  | .free, .free => True
  | .dead, .dead => True
  | .live t rows, .live t' rows' => t' = t ∧ rows'.length = rows.length ∧ ∀ (j : Nat) row row', rows[j]? = some row → rows'[j]? = some row' → FzL P σ S row row'
  | .mp c es, .mp c' es' => c' = c ∧ es'.length = es.length ∧ ∀ (j : Nat) e e', es[j]? = some e → es'[j]? = some e' → e'.1 = e.1 ∧ FzA P σ S e.2.1 e'.2.1 ∧ FzA P σ S e.2.2 e'.2.2
  | _, _ => False
def Ret (P : Program) (σ0 σ : Store) (r : RV) (σ' : Store) (r' : RV) : Prop :=
  ∃ S : Nat → Prop, (∀ i, σ0 i ≠ .free → S i) ∧ (∀ i, ¬ S i → σ' i = .free) ∧ (∀ i, S i → FzO P σ0 σ S i (σ' i)) ∧ FzR P σ S r r'
section
variable {P : Program} {k k0 : Nat → Prop} {β β0 : Bk} {σ σ0 σ' : Store} {W W0 : World} {S : Nat → Prop} {β2 : Bk}
def IsRest (β : Bk) (S : Nat → Prop) (β2 : Bk) : Prop := (∀ i, S i → β2 i = β i) ∧ ∀ i, ¬ S i → β2 i = none
theorem rest_exists (β : Bk) (S : Nat → Prop) : ∃ β2, IsRest β S β2 := by
  have h : ∀ i, ∃ b : Option BI, (S i → b = β i) ∧ (¬ S i → b = none) := fun i => by
    by_cases hs : S i
    · exact ⟨β i, fun _ => rfl, fun h => absurd hs h⟩
    · exact ⟨none, fun h => absurd h hs, fun _ => rfl⟩
  obtain ⟨f, hf⟩ := Classical.axiomOfChoice h
  exact ⟨f, fun i hi => (hf i).1 hi, fun i hi => (hf i).2 hi⟩
def restK (k : Nat → Prop) (β : Bk) (σ : Store) (S : Nat → Prop) : Nat → Prop := fun b => k b ∨ ∃ i bi t rows, β i = some bi ∧ ¬ S i ∧ σ i = .live t rows ∧ bi.blk = b
theorem restB_some {β2 : Bk} (hB : IsRest β S β2) {i : Nat} {bi : BI} (h : β2 i = some bi) : S i ∧ β i = some bi := by
  by_cases hs : S i
  · rw [hB.1 i hs] at h; exact ⟨hs, h⟩
  · rw [hB.2 i hs] at h; cases h
theorem restB_of {β2 : Bk} (hB : IsRest β S β2) {i : Nat} {bi : BI} (hs : S i) (h : β i = some bi) : β2 i = some bi := by rw [hB.1 i hs]; exact h
theorem Fz.ok (hB : IsRest β S β2) (h : SRel P k β W σ) {v : Value} {d d' : D} (hf : Fz P σ S d d') : V k β W v d → V (restK k β σ S) β2 W v d' := by
  induction hf generalizing v with
  | int q n => intro hv; cases hv; exact .int q n
  | bool b => intro hv; cases hv; exact .bool b
  | str s => intro hv; cases hv; exact .str s
  | nils => intro hv; cases hv; exact .nils
  | zsl => intro hv; cases hv; exact .zsl _
  | sl es rows rows' hl hr hc ih =>
    intro hv
    cases hv with
    | sl a len cap _ _ f hk hlen hcap hes hcell hval =>
      have back : ∀ (i : Nat) row', rows'[i]? = some row' → ∃ row, rows[i]? = some row ∧ row'.length = row.length := fun i row' hi => by
        have hlt := (List.getElem?_eq_some_iff.1 hi).1
        have := List.getElem?_eq_getElem (l := rows) (i := i) (by omega)
        exact ⟨_, this, hr i _ _ this hi⟩
      refine .sl a len cap es rows' f (fun hne => ?_) (by omega) hcap (fun i row' hi => ?_) (fun i row' j d hi hj => ?_) (fun i row' j d hi hj => ?_)
      · have := hk (fun e => by subst e; simp at hl; exact hne hl)
        exact ⟨.inl this.1, this.2⟩
      · obtain ⟨row, h1, h2⟩ := back i row' hi
        rw [h2]; exact hes i row h1
      · obtain ⟨row, h1, h2⟩ := back i row' hi
        have hlt := (List.getElem?_eq_some_iff.1 hj).1
        exact hcell i row j _ h1 (List.getElem?_eq_getElem (by omega))
      · obtain ⟨row, h1, h2⟩ := back i row' hi
        have hlt := (List.getElem?_eq_some_iff.1 hj).1
        have hd := List.getElem?_eq_getElem (l := row) (i := j) (by omega)
        exact ih i row row' j _ d h1 hi hd hj (hval i row j _ h1 hd)
  | keep id i len hs =>
    intro hv
    cases hv with
    | osl _ _ _ cap a bi hb ha hc hsz hcm => exact .osl id i len cap a bi (restB_of hB hs hb) ha hc hsz hcm
  | osl id i len t rows rows' hn hs hi hl hr hc ih =>
    intro hv
    cases hv with
    | osl _ _ _ cap a bi hb ha hcap hsz hcm =>
      obtain ⟨arr, g1, g2, g3, g4, g5, g6, g7⟩ := h.obj id bi t rows hb hs
      have back : ∀ (j : Nat) row', rows'[j]? = some row' → j < len ∧ ∃ row, rows[i + j]? = some row ∧ row'.length = row.length := fun j row' hj => by
        have hlt := (List.getElem?_eq_some_iff.1 hj).1
        have := List.getElem?_eq_getElem (l := rows) (i := i + j) (by omega)
        exact ⟨by omega, _, this, hr j _ _ this hj⟩
      refine .sl a len cap (P.cellsOf t) rows' (fun j m => arr.getD ((i + j) * bi.es + m) undef) (fun hne => ?_) hl hcap (fun j row' hj => ?_) (fun j row' m d hj hm => ?_) (fun j row' m d hj hm => ?_)
      · have hpos : 0 < len := by
          rw [← hl]
          cases rows' with
          | nil => exact absurd rfl hne
          | cons => simp
        have := ha (by omega)
        subst this
        exact ⟨.inr ⟨id, bi, t, rows, hb, hn, hs, rfl⟩, rfl⟩
      · obtain ⟨_, row, h1, h2⟩ := back j row' hj
        rw [h2, g3]; exact g6 _ row h1
      · obtain ⟨hlt, row, h1, h2⟩ := back j row' hj
        have hmlt := (List.getElem?_eq_some_iff.1 hm).1
        obtain ⟨v, q1, _⟩ := g7 (i + j) row m _ h1 (List.getElem?_eq_getElem (by omega))
        have := ha (by omega)
        subst this
        have e1 : i * bi.es + j * P.cellsOf t + m = (i + j) * bi.es + m := by rw [g3, Nat.add_mul]
        show W.cell? ⟨bi.blk, i * bi.es + j * P.cellsOf t + m, none⟩ = _
        rw [cell_of_heap g1, e1, q1, Array.getD_eq_getD_getElem?, q1]; rfl
      · obtain ⟨hlt, row, h1, h2⟩ := back j row' hj
        have hmlt := (List.getElem?_eq_some_iff.1 hm).1
        have hd := List.getElem?_eq_getElem (l := row) (i := m) (by omega)
        obtain ⟨v, q1, q2⟩ := g7 (i + j) row m _ h1 hd
        have := ih j row row' m _ d h1 hj hd hm q2
        rw [Array.getD_eq_getD_getElem?, q1]; exact this
  | nilp => intro hv; cases hv; exact .nilp
  | el s i off hs ih =>
    intro hv
    cases hv with
    | elsl a len cap es rows _ _ hs' hi => exact .elsl a len cap es rows i off (ih hs') hi
    | elosl id i0 len _ _ bi hb hi =>
      cases hs with
      | keep _ _ _ hs => exact .elosl id i0 len i off bi (restB_of hB hs hb) hi
  | nilf => intro hv; cases hv; exact .nilf
  | fn0 f =>
    intro hv
    cases hv with
    | fn _ first caps _ _ g g' h1 h2 h3 h4 h5 h6 => exact .fn f first caps [] [] g g' h1 h2 (fun i b cs j d hi => by simp at hi) h4 h5 (fun i b cs j d hi => by simp at hi)
  | nilm => intro hv; cases hv; exact .nilm
  | omap id hs =>
    intro hv
    cases hv with
    | omap _ bi hb => exact .omap id bi (restB_of hB hs hb)
theorem FzL.ok (hB : IsRest β S β2) (h : SRel P k β W σ) {vs : List Value} {ds ds' : List D} (hf : FzL P σ S ds ds') (hv : VL k β W vs ds) : VL (restK k β σ S) β2 W vs ds' := by
  refine ⟨by rw [hv.1, hf.1], fun i v d' h1 h2 => ?_⟩
  have hlt := (List.getElem?_eq_some_iff.1 h2).1
  have hd := List.getElem?_eq_getElem (l := ds) (i := i) (by rw [← hf.1]; exact hlt)
  exact (hf.2 i _ d' hd h2).ok hB h (hv.2 i v _ h1 hd)
theorem FzA.ok (hB : IsRest β S β2) (h : SRel P k β W σ) {v : Value} {x y : A} (hf : FzA P σ S x y) (hv : VA k β W v x) : VA (restK k β σ S) β2 W v y := by
  cases x with
  | one d => cases y with
    | one d' => exact Fz.ok hB h hf hv
    | agg => exact hf.elim
  | agg cs => cases y with
    | one => exact hf.elim
    | agg cs' => obtain ⟨vs, e, hv⟩ := hv; exact ⟨vs, e, FzL.ok hB h hf hv⟩
theorem FzR.ok (hB : IsRest β S β2) (h : SRel P k β W σ) {v : Value} {x y : RV} (hf : FzR P σ S x y) (hv : VR k β W v x) : VR (restK k β σ S) β2 W v y := by
  cases x with
  | a x => cases y with
    | a y => exact FzA.ok hB h hf hv
    | tup => exact hf.elim
  | tup xs => cases y with
    | a => exact hf.elim
    | tup ys =>
      obtain ⟨vs, e, hs, hv⟩ := hv
      refine ⟨vs, e, by rw [hs, hf.1], fun i u y h1 h2 => ?_⟩
      have hlt := (List.getElem?_eq_some_iff.1 h2).1
      have hd := List.getElem?_eq_getElem (l := xs) (i := i) (by rw [← hf.1]; exact hlt)
      exact (hf.2 i _ y hd h2).ok hB h (hv i u _ h1 hd)
theorem V.rest (hB : IsRest β S β2) {v : Value} {d : D} (hd : Dom β0 d) (hbb : ∀ i bi, β0 i = some bi → S i ∧ β i = some bi) (hv : V k β W v d) : V (restK k β σ S) β2 W v d := by
  have h1 := V.restrict (β := β0) (fun i bi h => (hbb i bi h).2) hv hd
  exact h1.mono (fun b h => .inl h) (fun i bi h => restB_of hB (hbb i bi h).1 (hbb i bi h).2) (fun b _ => rfl)
def DomA (β : Bk) : A → Prop
  | .one d => Dom β d
  | .agg cs => ∀ d ∈ cs, Dom β d
theorem VA.dom {v : Value} {x : A} (h : VA k β W v x) : DomA β x := by
  cases x with
  | one d => exact V.dom h
  | agg cs =>
    obtain ⟨vs, _, hl, hv⟩ := h
    intro d hd
    obtain ⟨i, hi⟩ := List.mem_iff_getElem?.1 hd
    have hlt := (List.getElem?_eq_some_iff.1 hi).1
    exact (hv i _ d (List.getElem?_eq_getElem (by omega)) hi).dom
theorem VA.rest (hB : IsRest β S β2) {v : Value} {x : A} (hd : DomA β0 x) (hbb : ∀ i bi, β0 i = some bi → S i ∧ β i = some bi) (hv : VA k β W v x) : VA (restK k β σ S) β2 W v x := by
  cases x with
  | one d => exact V.rest hB hd hbb hv
  | agg cs =>
    obtain ⟨vs, e, hl, hv⟩ := hv
    exact ⟨vs, e, hl, fun i v d h1 h2 => V.rest hB (hd d (List.mem_of_getElem? h2)) hbb (hv i v d h1 h2)⟩
theorem SRel.rest (hB : IsRest β S β2) (h : SRel P k β W σ) (h0 : SRel P k0 β0 W0 σ0) (hbb : ∀ i bi, β0 i = some bi → β i = some bi) (hS0 : ∀ i, σ0 i ≠ .free → S i) (hfree : ∀ i, ¬ S i → σ' i = .free) (ho : ∀ i, S i → FzO P σ0 σ S i (σ' i)) :
    SRel P (restK k β σ S) β2 W σ' := by
  have hSb : ∀ i bi, β0 i = some bi → S i ∧ β i = some bi := fun i bi hi => ⟨hS0 i ((h0.dom i).1 (by rw [hi]; rfl)), hbb i bi hi⟩
  have hfr : ∀ i, S i → (σ' i = .free ↔ σ i = .free) := fun i hi => by
    rcases ho i hi with ⟨h1, _⟩ | hm
    · rw [h1]
    · cases hs : σ i <;> cases hs' : σ' i <;> rw [hs, hs'] at hm <;> first | exact hm.elim | simp
  have hdd : ∀ i, S i → (σ' i = .dead ↔ σ i = .dead) := fun i hi => by
    rcases ho i hi with ⟨h1, _⟩ | hm
    · rw [h1]
    · cases hs : σ i <;> cases hs' : σ' i <;> rw [hs, hs'] at hm <;> first | exact hm.elim | simp
  exact {
    fin := by
      obtain ⟨N, hN⟩ := h.fin
      refine ⟨N, fun i hi => ?_⟩
      by_cases hs : S i
      · exact (hfr i hs).2 (hN i hi)
      · exact hfree i hs
    dom := fun i => by
      by_cases hs : S i
      · rw [Ne, hfr i hs, ← Ne, ← h.dom i, hB.1 i hs]
      · rw [hB.2 i hs, hfree i hs]; simp
    klt := fun b hb => by
      rcases hb with hb | ⟨i, bi, t, rows, hi, _, _, he⟩
      · exact h.klt b hb
      · rw [← he]; exact h.blt i bi hi
    blt := fun i bi hi => h.blt i bi (restB_some hB hi).2
    inj := fun i j bi bj hi hj h1 h2 he => h.inj i j bi bj (restB_some hB hi).2 (restB_some hB hj).2 (fun hd => h1 ((hdd i (restB_some hB hi).1).2 hd)) (fun hd => h2 ((hdd j (restB_some hB hj).1).2 hd)) he
    notk := fun i bi hi h1 hk => by
      obtain ⟨hs, hi⟩ := restB_some hB hi
      have h1 : σ i ≠ .dead := fun hd => h1 ((hdd i hs).2 hd)
      rcases hk with hk | ⟨j, bj, t, rows, hj, hn, hl, he⟩
      · exact h.notk i bi hi h1 hk
      · have := h.inj j i bj bi hj hi (by rw [hl]; intro e; cases e) h1 he
        exact hn (this ▸ hs)
    obj := fun i bi t rows' hi hs' => by
      obtain ⟨hs, hi⟩ := restB_some hB hi
      rcases ho i hs with ⟨h1, h2⟩ | hm
      · rw [h1] at hs'
        obtain ⟨arr, g1, g2, g3, g4, g5, g6, g7⟩ := h.obj i bi t rows' hi hs'
        refine ⟨arr, g1, g2, g3, g4, g5, g6, fun r row j d hr hj => ?_⟩
        obtain ⟨v, hv, hV⟩ := g7 r row j d hr hj
        have hb0 : ∃ b0, β0 i = some b0 := Option.isSome_iff_exists.1 ((h0.dom i).2 (by rw [← h2, hs']; intro e; cases e))
        obtain ⟨b0, hb0⟩ := hb0
        obtain ⟨_, _, _, _, _, _, _, k7⟩ := h0.obj i b0 t rows' hb0 (by rw [← h2, hs'])
        obtain ⟨v0, _, hV0⟩ := k7 r row j d hr hj
        exact ⟨v, hv, hV.rest hB hV0.dom hSb⟩
      · rw [hs'] at hm
        cases hsi : σ i with
        | live t0 rows =>
          rw [hsi] at hm
          obtain ⟨rfl, hl, hc⟩ := hm
          obtain ⟨arr, g1, g2, g3, g4, g5, g6, g7⟩ := h.obj i bi t rows hi hsi
          have back : ∀ (r : Nat) row', rows'[r]? = some row' → ∃ row, rows[r]? = some row ∧ FzL P σ S row row' := fun r row' hr => by
            have hlt := (List.getElem?_eq_some_iff.1 hr).1
            have := List.getElem?_eq_getElem (l := rows) (i := r) (by omega)
            exact ⟨_, this, hc r _ _ this hr⟩
          refine ⟨arr, g1, g2, g3, by rw [hl]; exact g4, g5, fun r row' hr => ?_, fun r row' j d hr hj => ?_⟩
          · obtain ⟨row, q1, q2⟩ := back r row' hr
            rw [q2.1]; exact g6 r row q1
          · obtain ⟨row, q1, q2⟩ := back r row' hr
            have hlt := (List.getElem?_eq_some_iff.1 hj).1
            have hd := List.getElem?_eq_getElem (l := row) (i := j) (by rw [← q2.1]; exact hlt)
            obtain ⟨v, hv, hV⟩ := g7 r row j _ q1 hd
            exact ⟨v, hv, (q2.2 j _ d hd hj).ok hB h hV⟩
        | _ => rw [hsi] at hm; exact hm.elim
    omap := fun i bi clock es' hi hs' => by
      obtain ⟨hs, hi⟩ := restB_some hB hi
      rcases ho i hs with ⟨h1, h2⟩ | hm
      · rw [h1] at hs'
        obtain ⟨ents, g1, g2, g3, g4, g5⟩ := h.omap i bi clock es' hi hs'
        refine ⟨ents, g1, g2, g3, g4, fun r e b ks vs hr he => ?_⟩
        obtain ⟨q0, q1, q2⟩ := g5 r e b ks vs hr he
        have hb0 : ∃ b0, β0 i = some b0 := Option.isSome_iff_exists.1 ((h0.dom i).2 (by rw [← h2, hs']; intro e; cases e))
        obtain ⟨b0, hb0⟩ := hb0
        obtain ⟨ents0, _, k2, _, _, k5⟩ := h0.omap i b0 clock es' hb0 (by rw [← h2, hs'])
        have hlt := (List.getElem?_eq_some_iff.1 he).1
        obtain ⟨_, p1, p2⟩ := k5 r ents0[r] b ks vs (Array.getElem?_eq_getElem (by omega)) he
        exact ⟨q0, q1.rest hB p1.dom hSb, q2.rest hB p2.dom hSb⟩
      · rw [hs'] at hm
        cases hsi : σ i with
        | mp c es =>
          rw [hsi] at hm
          obtain ⟨rfl, hl, hc⟩ := hm
          obtain ⟨ents, g1, g2, g3, g4, g5⟩ := h.omap i bi clock es hi hsi
          have hborn : es'.map (·.1) = es.map (·.1) := by
            apply List.ext_getElem?
            intro j
            simp only [List.getElem?_map]
            cases he' : es'[j]? with
            | none =>
              have : es[j]? = none := by rw [List.getElem?_eq_none_iff] at he' ⊢; omega
              rw [this]
            | some e' =>
              have hlt := (List.getElem?_eq_some_iff.1 he').1
              have hj := List.getElem?_eq_getElem (l := es) (i := j) (by omega)
              rw [hj]
              simp [(hc j _ e' hj he').1]
          refine ⟨ents, g1, by rw [hl]; exact g2, fun e he => ?_, by rw [hborn]; exact g4, fun r e b ks vs hr he => ?_⟩
          · have : e.1 ∈ es'.map (·.1) := List.mem_map.2 ⟨e, he, rfl⟩
            rw [hborn] at this
            obtain ⟨w, hw, e1⟩ := List.mem_map.1 this
            rw [← e1]; exact g3 w hw
          · have hlt := (List.getElem?_eq_some_iff.1 he).1
            have hj := List.getElem?_eq_getElem (l := es) (i := r) (by omega)
            obtain ⟨c1, c2, c3⟩ := hc r _ _ hj he
            obtain ⟨q0, q1, q2⟩ := g5 r e es[r].1 es[r].2.1 es[r].2.2 hr hj
            exact ⟨q0.trans c1.symm, c2.ok hB h q1, c3.ok hB h q2⟩
        | _ => rw [hsi] at hm; exact hm.elim }
theorem DCalls.ret {f : FuncId} {args : List A} {Q Q' : RV → Store → Prop} (h : DCalls P f args σ0 Q) (hq : ∀ r σ, Q r σ → ∃ r' σ', Ret P σ0 σ r σ' r' ∧ Q' r' σ') : DCalls P f args σ0 Q' := by
  refine ⟨h.1, fun k β W vs h1 h2 h3 => (h.2 k β W vs h1 h2 h3).mono fun e W' ⟨v, r, σ, k', β', q1, q2, q3, q4, q5, q6⟩ => ?_⟩
  obtain ⟨r', σ', ⟨S, s1, s2, s3, s4⟩, hQ⟩ := hq r σ q2
  obtain ⟨β2, hB⟩ := rest_exists β' S
  refine ⟨v, r', σ', restK k' β' σ S, β2, q1, hQ, s4.ok hB q4 q3, q4.rest hB h1 q5.bb s1 s2 s3, ?_, q6⟩
  have hS0 : ∀ i bi, β i = some bi → S i := fun i bi hi => s1 i ((h1.dom i).1 (by rw [hi]; rfl))
  exact {
    kk := fun b hb => .inl (q5.kk b hb)
    kn := fun b hb => by
      rcases hb with hb | ⟨i, bi, t, rows, hi, hn, hl, he⟩
      · exact q5.kn b hb
      · rcases q5.bn i bi hi with g | g | ⟨j, bj, g1, g2, g3⟩
        · exact absurd (hS0 i bi g) hn
        · exact .inr (.inl (he ▸ g))
        · exact .inr (.inr ⟨j, bj, g1, g2, g3.trans he⟩)
    bb := fun i bi hi => restB_of hB (hS0 i bi hi) (q5.bb i bi hi)
    bn := fun i bi hi => q5.bn i bi (restB_some hB hi).2
    dd := fun i hi => by
      have hs : S i := s1 i (by rw [hi]; intro e; cases e)
      have hd := q5.dd i hi
      rcases s3 i hs with ⟨h1, _⟩ | hm
      · rw [h1, hd]
      · rw [hd] at hm
        cases hs' : σ' i <;> rw [hs'] at hm <;> first | rfl | exact hm.elim }
end
end Go.Fw
end
section
set_option linter.unusedVariables false
set_option linter.unusedSimpArgs false
namespace Go.Fw
open Go.ChangeShapes Go.WideShapes Go.RowKit
def tyF (P : Program) (ty : TypeId → List D → Prop) : List Field → List D → Prop
  | [], ds => ds = []
  | f :: fs, ds => ∃ a b, ds = a ++ b ∧ a.length = P.cellsOf f.type ∧ ty f.type a ∧ tyF P ty fs b
def tyR (P : Program) (ty : TypeId → List D → Prop) (e : TypeId) : Nat → List D → Prop
  | 0, ds => ds = []
  | n + 1, ds => ∃ a b, ds = a ++ b ∧ a.length = P.cellsOf e ∧ ty e a ∧ tyR P ty e n b
def tyD (P : Program) : Nat → TypeId → List D → Prop
  | 0, _, _ => False
  | n + 1, t, ds => match P.underlying t with
    | some .bool => ∃ b, ds = [.bool b]
    | some (.int k) => ∃ m, ds = [.int k m] ∧ (Lit.int k m).wf = true
    | some .string => ∃ s, ds = [.str s] ∧ s.size ≤ 140737488351232
    | some (.slice e) => ds = [.nils] ∨ ∃ rows, ds = [.sl (P.cellsOf e) rows] ∧ rows.length * P.bytesOf e ≤ 140737488351232 ∧ ∀ row ∈ rows, tyD P n e row
    | some (.struct fs) => tyF P (tyD P n) fs.toList ds
    | some (.array m e) => tyR P (tyD P n) e m ds
    | _ => False
def tilesB (P : Program) : Nat → List Field → Nat → Bool
  | o, [], n => Nat.beq o n
  | o, f :: fs, n => Nat.beq f.offset o && tilesB P (o + P.cellsOf f.type) fs n
def plainT (P : Program) : Nat → TypeId → Bool
  | 0, _ => false
  | n + 1, t => match P.underlying t with
    | some .bool => true
    | some (.int _) => true
    | some .string => true
    | some (.slice e) => plainT P n e && decide (0 < P.cellsOf e)
    | some (.struct fs) => tilesB P 0 fs.toList (P.cellsOf t) && fs.toList.all fun f => plainT P n f.type
    | some (.array m e) => plainT P n e && Nat.beq (m * P.cellsOf e) (P.cellsOf t)
    | _ => false
def TyA (P : Program) (t : TypeId) : A → Prop
  | .one d => isAggT P t = some false ∧ tyD P 30 t [d]
  | .agg cs => isAggT P t = some true ∧ tyD P 30 t cs
def TyAs (P : Program) : List TypeId → List A → Prop
  | [], as0 => as0 = []
  | t :: ts, as0 => ∃ a r, as0 = a :: r ∧ TyA P t a ∧ TyAs P ts r
section
variable {H : Type} {enc : TypeId × Value → H} {P : Program} {w : World}
abbrev allK (w : World) : Nat → Prop := fun b => b < w.heap.size
abbrev noB : Bk := fun _ => none
abbrev noS : Store := fun _ => .free
theorem srel0 : SRel P (allK w) noB w noS where
  fin := ⟨0, fun _ _ => rfl⟩
  dom i := by simp
  klt b hb := hb
  blt i bi h := by cases h
  inj i j bi bj h := by cases h
  notk i bi h := by cases h
  obj i bi t rows h := by cases h
  omap i bi c es h := by cases h
theorem cells?_spec {base : Nat} {a : Addr} {n : Nat} {cs : List Value} (h : w.cells? base a n = some cs) : cs.length = n ∧ ∀ (j : Nat) v, cs[j]? = some v → w.cell? (a.add j) = some v := by
  unfold World.cells? at h
  split at h
  · have hl := mapM_some_length h
    refine ⟨by simpa using hl, fun j v hv => ?_⟩
    have hlt := (List.getElem?_eq_some_iff.1 hv).1
    have hn : cs.length = n := by simpa using hl
    have := mapM_some_get h j j (by simp [show j < n by omega])
    rw [this, hv]
  · cases h
theorem cell_lt {a : Addr} {v : Value} (h : w.cell? a = some v) : a.block < w.heap.size ∧ a.spot = none := by
  unfold World.cell? at h
  split at h
  · rename_i c t fr hb
    refine ⟨(Array.getElem?_eq_some_iff.1 hb).1, ?_⟩
    split at h
    · cases h
    · rename_i hs; simpa using hs
  · cases h
theorem fields_ty {β : Bk} (n : Nat) (ih : ∀ (t : TypeId) (cs : List Value), plainT P n t = true → ∀ (fuel : Nat) (x : DataW H × List MemPlace), DataW.trod enc P w 0 (fun _ => true) true fuel t cs = some x →
      (∀ m ∈ x.1.weights P t, m ≤ 140737488351232) → ∃ ds, VL (allK w) β w cs ds ∧ tyD P n t ds) (cs : List Value) (m : Nat) :
    ∀ (fs : List Field) (o : Nat) (xs : List (DataW H × List MemPlace)), tilesB P o fs cs.length = true → (∀ f ∈ fs, plainT P n f.type = true) → xs.length = fs.length →
      (∀ (i : Nat) (f : Field), fs[i]? = some f → DataW.trod enc P w 0 (fun _ => true) true m f.type ((cs.drop f.offset).take (P.cellsOf f.type)) = xs[i]?) →
      (∀ q ∈ DataW.weightsEach P (fs.map (·.type)) (xs.map (·.1)), q ≤ 140737488351232) → o ≤ cs.length → ∃ ds, VL (allK w) β w (cs.drop o) ds ∧ tyF P (tyD P n) fs ds
  | [], o, xs, ht, _, _, _, _, ho => by
    have : o = cs.length := Nat.eq_of_beq_eq_true ht
    subst this
    exact ⟨[], by simp [VL], rfl⟩
  | f :: fs, o, xs, ht, hp, hl, he, hw, ho => by
    simp only [tilesB, Bool.and_eq_true] at ht
    have hfo := Nat.eq_of_beq_eq_true ht.1
    cases xs with
    | nil => simp at hl
    | cons x xs =>
      have h0 := he 0 f rfl
      rw [hfo] at h0
      simp only [List.map_cons, DataW.weightsEach, List.mem_append] at hw
      have tl : ∀ (fs : List Field) (o : Nat), tilesB P o fs cs.length = true → o ≤ cs.length := by
        intro fs
        induction fs with
        | nil => intro o h; exact Nat.le_of_eq (Nat.eq_of_beq_eq_true h)
        | cons g gs ihg => intro o h; simp only [tilesB, Bool.and_eq_true] at h; have := ihg _ h.2; omega
      have hle := tl _ _ ht.2
      obtain ⟨a, hva, hta⟩ := ih f.type _ (hp f (by simp)) m x (by simpa using h0) (fun q hq => hw q (.inl hq))
      obtain ⟨b, hvb, htb⟩ := fields_ty n ih cs m fs (o + P.cellsOf f.type) xs ht.2 (fun g hg => hp g (by simp [hg])) (by simpa using hl) (fun i g hg => by have := he (i + 1) g (by simpa using hg); simpa using this)
        (fun q hq => hw q (.inr hq)) hle
      refine ⟨a ++ b, ?_, a, b, rfl, ?_, hta, htb⟩
      · have := hva.append hvb
        have e1 : List.take (P.cellsOf f.type) (cs.drop o) ++ cs.drop (o + P.cellsOf f.type) = cs.drop o := by
          rw [← List.drop_drop]; exact List.take_append_drop _ _
        rw [e1] at this; exact this
      · rw [← hva.1, List.length_take, List.length_drop]; omega
theorem weightsAll_mem {e : TypeId} : ∀ {ds : List (DataW H)} {d : DataW H} {m : Nat}, d ∈ ds → m ∈ d.weights P e → m ∈ DataW.weightsAll P e ds
  | x :: r, d, m, hd, hm => by
    simp only [DataW.weightsAll, List.mem_append]
    rcases List.mem_cons.1 hd with rfl | hd
    · exact .inl hm
    · exact .inr (weightsAll_mem hd hm)
theorem arr_ty {β : Bk} (n : Nat) (ih : ∀ (t : TypeId) (cs : List Value), plainT P n t = true → ∀ (fuel : Nat) (x : DataW H × List MemPlace), DataW.trod enc P w 0 (fun _ => true) true fuel t cs = some x →
      (∀ m ∈ x.1.weights P t, m ≤ 140737488351232) → ∃ ds, VL (allK w) β w cs ds ∧ tyD P n t ds) (e : TypeId) (hp : plainT P n e = true) (fuel : Nat) :
    ∀ (m : Nat) (cs : List Value) (xs : List (DataW H × List MemPlace)), cs.length = m * P.cellsOf e → xs.length = m →
      (∀ i, i < m → DataW.trod enc P w 0 (fun _ => true) true fuel e ((cs.drop (i * P.cellsOf e)).take (P.cellsOf e)) = xs[i]?) → (∀ q ∈ DataW.weightsAll P e (xs.map (·.1)), q ≤ 140737488351232) →
      ∃ ds, VL (allK w) β w cs ds ∧ tyR P (tyD P n) e m ds
  | 0, cs, xs, hl, hx, _, _ => by
    have : cs = [] := List.eq_nil_of_length_eq_zero (by simpa using hl)
    subst this
    exact ⟨[], by simp [VL], rfl⟩
  | m + 1, cs, xs, hl, hx, he, hw => by
    cases xs with
    | nil => simp at hx
    | cons x xs =>
      have h0 := he 0 (by omega)
      simp only [List.map_cons, DataW.weightsAll, List.mem_append] at hw
      rw [Nat.add_mul] at hl
      obtain ⟨a, hva, hta⟩ := ih e _ hp fuel x (by simpa using h0) (fun q hq => hw q (.inl hq))
      obtain ⟨b, hvb, htb⟩ := arr_ty n ih e hp fuel m (cs.drop (P.cellsOf e)) xs (by rw [List.length_drop]; omega) (by simpa using hx) (fun i hi => by
        have := he (i + 1) (by omega)
        rw [List.drop_drop, show P.cellsOf e + i * P.cellsOf e = (i + 1) * P.cellsOf e by rw [Nat.add_mul]; omega, this]; rfl) (fun q hq => hw q (.inr hq))
      refine ⟨a ++ b, ?_, a, b, rfl, ?_, hta, htb⟩
      · have := hva.append hvb
        rw [List.take_append_drop] at this; exact this
      · rw [← hva.1, List.length_take]; omega
theorem trod_ty {β : Bk} : ∀ (n : Nat) (t : TypeId) (cs : List Value), plainT P n t = true → ∀ (fuel : Nat) (x : DataW H × List MemPlace), DataW.trod enc P w 0 (fun _ => true) true fuel t cs = some x →
      (∀ m ∈ x.1.weights P t, m ≤ 140737488351232) → ∃ ds, VL (allK w) β w cs ds ∧ tyD P n t ds
  | 0, t, cs, hp => by simp [plainT] at hp
  | n + 1, t, cs, hp => by
    intro fuel x h hw
    have one : ∀ {v : Value} {d : D}, V (allK w) β w v d → VL (allK w) β w [v] [d] := fun hv => ⟨rfl, fun i u y h1 h2 => by
      cases i with
      | zero => simp at h1 h2; subst h1 h2; exact hv
      | succ i => simp at h1⟩
    unfold plainT at hp
    unfold tyD
    split at hp
    · rename_i hu
      obtain ⟨b, rfl, rfl⟩ := DataW.trod_bool hu h
      exact ⟨[.bool b], one (.bool b), b, rfl⟩
    · rename_i q hu
      obtain ⟨m, rfl, rfl, hm⟩ := DataW.trod_int hu h
      exact ⟨[.int q m], one (.int q m), m, rfl, hm⟩
    · rename_i hu
      obtain ⟨s, rfl, rfl, hm⟩ := DataW.trod_string hu h
      exact ⟨[.str s], one (.str s), s, rfl, by have := hw s.data.toList.length (by simp [DataW.weights]); simpa using this⟩
    · rename_i e hu
      simp only [Bool.and_eq_true, decide_eq_true_eq] at hp
      obtain ⟨hpe, hpos⟩ := hp
      rcases DataW.trod_slice hu h with ⟨rfl, rfl⟩ | ⟨a, len, cap, elems, rest, m, _, rfl, rfl, _, hlc, hcm, hel, hr, _, _⟩
      · exact ⟨[.nils], one .nils, .inl rfl⟩
      · simp only [DataW.weights, hu, List.mem_cons, List.mem_append] at hw
        have each : ∀ i, i < len → ∃ cs row, w.cells? 0 (a.add (i * P.cellsOf e)) (P.cellsOf e) = some cs ∧ VL (allK w) β w cs row ∧ tyD P n e row := by
          intro i hi
          have h1 := hr i hi
          have h2 := List.getElem?_eq_getElem (l := elems) (i := i) (by omega)
          rw [h2] at h1
          cases hc : w.cells? 0 (a.add (i * P.cellsOf e)) (P.cellsOf e) with
          | none => rw [hc] at h1; cases h1
          | some cs =>
            rw [hc] at h1
            obtain ⟨row, r1, r2⟩ := trod_ty n e cs hpe m _ h1 (fun q hq => hw q (.inr (.inl (weightsAll_mem (List.mem_map.2 ⟨_, List.getElem_mem (h := by omega), rfl⟩) hq))))
            exact ⟨cs, row, rfl, r1, r2⟩
        have each' : ∀ i, ∃ row, i < len → ∃ cs, w.cells? 0 (a.add (i * P.cellsOf e)) (P.cellsOf e) = some cs ∧ VL (allK w) β w cs row ∧ tyD P n e row := fun i => by
          by_cases hi : i < len
          · obtain ⟨cs, row, h⟩ := each i hi
            exact ⟨row, fun _ => ⟨cs, h⟩⟩
          · exact ⟨[], fun h => absurd h hi⟩
        obtain ⟨F, hF⟩ := Classical.axiomOfChoice each'
        have hget : ∀ (i : Nat) row, ((List.range len).map F)[i]? = some row → i < len ∧ row = F i := fun i row hi => by
          have hlt := (List.getElem?_eq_some_iff.1 hi).1
          simp at hlt
          simp [List.getElem?_map, List.getElem?_range hlt] at hi
          exact ⟨hlt, hi.symm⟩
        have hsp : 0 < len → a.block < w.heap.size ∧ a.spot = none := fun h0 => by
          obtain ⟨cs, c1, _, _⟩ := hF 0 h0
          obtain ⟨c2, c3⟩ := cells?_spec c1
          have := c3 0 cs[0] (List.getElem?_eq_getElem (by omega))
          simp [Addr.add] at this
          exact cell_lt this
        have hcell : ∀ i j, i < len → j < P.cellsOf e → ∃ v, w.cell? ⟨a.block, a.off + i * P.cellsOf e + j, none⟩ = some v ∧ ∀ d, (F i)[j]? = some d → V (allK w) β w v d := by
          intro i j hi hj
          obtain ⟨cs, c1, c2, _⟩ := hF i hi
          obtain ⟨c3, c4⟩ := cells?_spec c1
          have hg := List.getElem?_eq_getElem (l := cs) (i := j) (by omega)
          have := c4 j _ hg
          have hsp := (hsp (by omega)).2
          have e1 : (a.add (i * P.cellsOf e)).add j = ⟨a.block, a.off + i * P.cellsOf e + j, none⟩ := by
            obtain ⟨b, o', sp⟩ := a
            simp at hsp; subst hsp
            rw [add_mk, add_mk]
          rw [e1] at this
          exact ⟨_, this, fun d hd => c2.2 j _ d hg hd⟩
        refine ⟨[.sl (P.cellsOf e) ((List.range len).map F)], one (.sl a len cap (P.cellsOf e) _ (fun i j => (w.cell? ⟨a.block, a.off + i * P.cellsOf e + j, none⟩).getD undef) (fun hne => hsp (by
          cases len with
          | zero => simp at hne
          | succ => omega)) (by simp) hlc (fun i row hi => ?_) (fun i row j d hi hj => ?_) (fun i row j d hi hj => ?_)), .inr ⟨_, rfl, ?_, fun row hrow => ?_⟩⟩
        · obtain ⟨hi', rfl⟩ := hget i row hi
          obtain ⟨cs, c1, c2, _⟩ := hF i hi'
          rw [← c2.1, (cells?_spec c1).1]
        · obtain ⟨hi', rfl⟩ := hget i row hi
          obtain ⟨cs, c1, c2, _⟩ := hF i hi'
          have hlt := (List.getElem?_eq_some_iff.1 hj).1
          rw [← c2.1, (cells?_spec c1).1] at hlt
          obtain ⟨v, v1, _⟩ := hcell i j hi' hlt
          rw [v1]; rfl
        · obtain ⟨hi', rfl⟩ := hget i row hi
          obtain ⟨cs, c1, c2, _⟩ := hF i hi'
          have hlt := (List.getElem?_eq_some_iff.1 hj).1
          rw [← c2.1, (cells?_spec c1).1] at hlt
          obtain ⟨v, v1, v2⟩ := hcell i j hi' hlt
          rw [v1]; exact v2 d hj
        · have := hw _ (.inl rfl)
          simp only [List.length_map, List.length_range] at this ⊢
          have h2 : len * P.bytesOf e ≤ (elems.length + rest.length) * P.bytesOf e := Nat.mul_le_mul_right _ (by omega)
          omega
        · obtain ⟨i, hi, rfl⟩ := List.mem_map.1 hrow
          obtain ⟨cs, _, _, c3⟩ := hF i (by simpa using hi)
          exact c3
    · rename_i fs hu
      simp only [Bool.and_eq_true, List.all_eq_true] at hp
      obtain ⟨xs, m, _, rfl, hl, hlen, hf⟩ := DataW.trod_struct hu h
      simp only [DataW.weights, hu] at hw
      have := fields_ty (β := β) n (fun t cs hp fuel x => trod_ty n t cs hp fuel x) cs m fs.toList 0 xs (by rw [hl]; exact hp.1) (fun f hf => hp.2 f hf) (by simpa using hlen) (fun i f hi => hf i f (by simpa using hi)) hw (by omega)
      simpa using this
    · rename_i m e hu
      simp only [Bool.and_eq_true] at hp
      cases fuel with
      | zero => simp [DataW.trod] at h
      | succ fuel =>
        unfold DataW.trod at h
        rw [hu] at h
        have h : (if cs.length = P.cellsOf t then ((List.range m).mapM fun i => DataW.trod enc P w 0 (fun _ => true) true fuel e ((cs.drop (i * P.cellsOf e)).take (P.cellsOf e))).map fun xs => ((.agg (xs.map (·.1)) : DataW H), xs.flatMap (·.2)) else none) = some x := by
          cases cs <;> simpa using h
        split at h
        · rename_i hl
          rw [Option.map_eq_some_iff] at h
          obtain ⟨xs, hx, rfl⟩ := h
          simp only [DataW.weights, hu] at hw
          have hxl := mapM_some_length hx
          exact arr_ty n (fun t cs hp fuel x => trod_ty n t cs hp fuel x) e hp.1 fuel m cs xs (by rw [hl]; exact (Nat.eq_of_beq_eq_true hp.2).symm) (by simpa using hxl) (fun i hi => mapM_some_get hx i i (by simp [hi])) hw
        · cases h
    · cases hp
theorem ty_one {n : Nat} {t : TypeId} {v : Value} {W : World} {base : Nat} (hp : plainT P (n + 1) t = true) (hok : Value.okWide P W .any base t v) :
    (isAggT P t = some false ∧ v.cells = #[v]) ∨ (isAggT P t = some true ∧ ∃ cs, v = .agg cs) := by
  unfold plainT at hp
  unfold isAggT
  split at hp
  · rename_i hu; obtain ⟨b, rfl⟩ := okWide_bool hu hok; rw [hu]; exact .inl ⟨rfl, rfl⟩
  · rename_i hu; obtain ⟨b, rfl⟩ := okWide_int hu hok; rw [hu]; exact .inl ⟨rfl, rfl⟩
  · rename_i hu
    rw [hu]
    simp only [Value.okWide, hu, Cell.okWide] at hok
    cases v <;> simp [Cell.ok, hu] at hok <;> exact .inl ⟨rfl, rfl⟩
  · rename_i e hu
    rw [hu]
    simp only [Value.okWide, hu, Cell.okWide] at hok
    cases v <;> simp [Cell.ok, hu] at hok <;> exact .inl ⟨rfl, rfl⟩
  · rename_i fs hu; obtain ⟨cs, rfl, _⟩ := okWide_struct hu hok; rw [hu]; exact .inr ⟨rfl, cs, rfl⟩
  · rename_i m e hu
    rw [hu]
    simp only [Value.okWide, hu] at hok
    obtain ⟨cs, rfl, _⟩ := hok
    exact .inr ⟨rfl, cs, rfl⟩
  · cases hp
theorem arg_ty {t : TypeId} {v : Value} {d : DataW H} {ps : List MemPlace} {base : Nat} (hp : plainT P 30 t = true) (hok : Value.okWide P w .any base t v) (h : DataW.Trod enc P w 0 (fun _ => true) true t v d ps)
    (hw : ∀ m ∈ d.weights P t, m ≤ 140737488351232) : ∃ x, TyA P t x ∧ VA (allK w) noB w v x := by
  obtain ⟨fuel, h⟩ := h
  obtain ⟨ds, h1, h2⟩ := trod_ty (β := noB) 30 t _ hp fuel _ h hw
  rcases ty_one hp hok with ⟨q1, q2⟩ | ⟨q1, cs, rfl⟩
  · rw [q2] at h1
    have hl := h1.1
    match ds, hl with
    | [d'], _ => exact ⟨.one d', ⟨q1, h2⟩, h1.2 0 v d' rfl rfl⟩
  · exact ⟨.agg ds, ⟨q1, h2⟩, cs, rfl, h1⟩
theorem args_ty {base : Nat} : ∀ {ts : List TypeId} {vs : List Value} {ds : List (DataW H)} {ps : List MemPlace}, (∀ t ∈ ts, plainT P 30 t = true) → (∀ (j : Nat) t v, ts[j]? = some t → vs[j]? = some v → Value.okWide P w .any base t v) →
    DataW.TrodAll enc P w 0 (fun _ => true) true ts vs ds ps → (∀ m ∈ DataW.weightsEach P ts ds, m ≤ 140737488351232) →
    ∃ as0, TyAs P ts as0 ∧ vs.length = as0.length ∧ ∀ (i : Nat) v x, vs[i]? = some v → as0[i]? = some x → VA (allK w) noB w v x
  | [], vs, ds, ps, _, _, h, _ => by
    obtain ⟨rfl, rfl, rfl⟩ := trodAll_nil h
    exact ⟨[], rfl, rfl, fun i v x hv => by simp at hv⟩
  | t :: ts, vs, ds, ps, hp, hok, h, hw => by
    obtain ⟨v, vs1, d, ds1, a, b, rfl, rfl, rfl, h1, h2⟩ := trodAll_cons h
    simp only [DataW.weightsEach, List.mem_append] at hw
    obtain ⟨x, x1, x2⟩ := arg_ty (hp t (by simp)) (hok 0 t v rfl rfl) h1 (fun m hm => hw m (.inl hm))
    obtain ⟨as0, a1, a2, a3⟩ := args_ty (fun t ht => hp t (by simp [ht])) (fun j t v h1 h2 => hok (j + 1) t v (by simpa using h1) (by simpa using h2)) h2 (fun m hm => hw m (.inr hm))
    refine ⟨x :: as0, ⟨x, as0, rfl, x1, a1⟩, by simp [a2], fun i u y hu hy => ?_⟩
    cases i with
    | zero => simp at hu hy; subst hu hy; exact x2
    | succ i => exact a3 i u y (by simpa using hu) (by simpa using hy)
theorem trodAll_stays (hl : laidOutB P = true) {W W' : World} (hb : Below W.heap.size W W') (sp : Nat → Bool) : ∀ {ts : List TypeId} {vs : List Value} {ds : List (DataW H)} {ps : List MemPlace},
    (∀ t ∈ ts, P.readableRec t = true ∧ t < P.types.size) → DataW.TrodAll enc P W 0 (fun _ => true) true ts vs ds ps → (∀ p ∈ ps, p.block < W.heap.size) → (∀ p ∈ ps, sp p.block = true) → DataW.TrodAll enc P W' 0 sp true ts vs ds ps
  | [], vs, ds, ps, _, h, _, _ => by
    obtain ⟨rfl, rfl, rfl⟩ := trodAll_nil h
    rfl
  | t :: ts, vs, ds, ps, hr, h, hlt, hs => by
    obtain ⟨v, vs1, d, ds1, a, b, rfl, rfl, rfl, h1, h2⟩ := trodAll_cons h
    exact ⟨a, b, WideElems.Trod_stays hl (hr t (by simp)).1 (hr t (by simp)).2 h1 (fun x hx => hb.same (hlt x (by simp [hx]))) (fun x hx => hs x (by simp [hx])),
      trodAll_stays hl hb sp (fun t ht => hr t (by simp [ht])) h2 (fun x hx => hlt x (by simp [hx])) (fun x hx => hs x (by simp [hx])), rfl⟩
theorem law_post {f : Func} {s : ChangeSpec} {W W' : World} {args : Array Value} {ds gs : List (DataW H)} {before : List MemPlace} {tb : TypeId} (hl : laidOutB P = true)
    (hr : ∀ t ∈ f.params.toList, P.readableRec t = true ∧ t < P.types.size) (hvars : s.vars = []) (hres : f.resultTypes = #[tb]) (htb : P.underlying tb = some .bool)
    (hfn : (s.fn H ds) = { results := [.lit (.bool true)], args := ds }) (hW : DataW.Whole enc P f.params.toList s.vars false W args.toList ds gs before) (hb : Below W.heap.size W W') :
    s.post enc P f false true false false W args (.bool true) W' := by
  have hlt : ∀ p ∈ before, p.block < W.heap.size := fun p hp => hW.lt p hp
  have hW' := hW
  obtain ⟨p, q, hA, hV, rfl, hz, _⟩ := hW'
  rw [hvars] at hV
  obtain ⟨rfl, rfl⟩ := trodVars_none hV
  have hres' : (s.fn H (ds ++ [])).results = [.lit (.bool true)] := by rw [List.append_nil, hfn]
  have hargs' : (s.fn H (ds ++ [])).args = ds := by rw [List.append_nil, hfn]
  have hvars' : (s.fn H (ds ++ [])).vars = [] := by rw [List.append_nil, hfn]
  have hst : ∀ sp : Nat → Bool, (∀ x ∈ p, sp x.block = true) → DataW.TrodAll enc P W' 0 sp true f.params.toList args.toList ds p := fun sp hs =>
    trodAll_stays hl hb sp hr hA (fun x hx => hlt x (by simp [hx])) hs
  refine ⟨ds, [], p ++ [], [], p, [], hW, ?_, ?_, ?_, ?_, fun h => by cases h⟩
  · rw [hres', hres]
    exact trodAll_mk1 (shut_bool htb true)
  · rw [hargs']; exact hst _ (fun x hx => by simpa using hlt x (by simp [hx]))
  · rw [hvars', hvars]; rfl
  · refine World.keptBut_mono (fun x hx => ⟨hx, .inr (.inl (by simpa using hx))⟩) (hb.frame (· ∈ p ++ []))
theorem law_calls {f : FuncId} {fn : Func} {s : ChangeSpec} {W : World} {base : Nat} {args : Array Value} {ds gs : List (DataW H)} {before : List MemPlace} {tb : TypeId} (hl : laidOutB P = true)
    (hp : (fn.params.toList.all fun t => plainT P 30 t && P.readableRec t && decide (t < P.types.size)) = true) (hvars : s.vars = []) (hres : fn.resultTypes = #[tb]) (htb : P.underlying tb = some .bool)
    (hfn : ds.length = fn.params.size → (s.fn H ds) = { results := [.lit (.bool true)], args := ds })
    (law : ∀ as0, TyAs P fn.params.toList as0 → DCalls P f as0 noS fun r _ => r = .a (.one (.bool true)))
    (hval : ∀ (j : Nat) t v, fn.params[j]? = some t → args[j]? = some v → Value.okWide P W .any base t v)
    (hW : DataW.Whole enc P fn.params.toList s.vars false W args.toList ds gs before)
    (hw : ((DataW.weightsEach P (fn.params.toList ++ s.plain.varTypes P) (ds ++ gs)).all (· ≤ reachBytes)) = true) :
    Calls P f args W fun e W' => ∃ v, e = .returned v ∧ s.post enc P fn false true false false W args v W' := by
  simp only [List.all_eq_true, Bool.and_eq_true, decide_eq_true_eq] at hp
  have hW' := hW
  obtain ⟨p, q, hA, hV, rfl, hz, _⟩ := hW'
  have hg : gs = [] := by rw [hvars] at hV; exact (trodVars_none hV).1
  subst hg
  have hvt : s.plain.varTypes P = [] := by
    have : s.plain.vars = [] := hvars
    simp [DataSpec.varTypes, this]
  rw [hvt, List.append_nil, List.append_nil] at hw
  obtain ⟨as0, a1, a2, a3⟩ := args_ty (base := base) (fun t ht => (hp t ht).1.1) (fun j t v h1 h2 => hval j t v (by simpa using h1) (by simpa using h2)) hA (fun m hm => by
    have := of_decide_eq_true (List.all_eq_true.1 hw m hm)
    simpa [reachBytes] using this)
  have hlen : ds.length = fn.params.size := by
    have key : ∀ {ts : List TypeId} {vs : List Value} {ds : List (DataW H)} {ps : List MemPlace}, DataW.TrodAll enc P W 0 (fun _ => true) true ts vs ds ps → ds.length = ts.length := by
      intro ts
      induction ts with
      | nil => intro vs ds ps h; obtain ⟨_, rfl, _⟩ := trodAll_nil h; rfl
      | cons t ts ih => intro vs ds ps h; obtain ⟨v, vs1, d, ds1, a, b, _, rfl, _, _, h2⟩ := trodAll_cons h; simp [ih h2]
    simpa using key hA
  have hd := (law as0 a1).2 (allK W) noB W args srel0 (by simpa using a2) (fun i v x h1 h2 => a3 i v x (by simpa using h1) h2)
  refine hd.mono fun e W' ⟨v, r, σ', k', β', q1, q2, q3, q4, q5, q6⟩ => ⟨v, q1, ?_⟩
  subst q2
  have hv : v = .bool true := V.inv_bool q3
  subst hv
  exact law_post hl (fun t ht => ⟨(hp t ht).1.2, (hp t ht).2⟩) hvars hres htb (hfn hlen) hW ⟨q6.os, q6.tape, q6.output, q6.size, fun b hb => q6.block b hb (fun i bi hi => by cases hi)⟩
theorem law_lifted {C : Checked} {os : Os} {f : FuncId} {fn : Func} {s : ChangeSpec} {tb : TypeId} (own : ownKnob C.prog.godebug = none) (started : os.Started) (noInit : C.prog.inits.idxOf? f = none) (hf : C.prog.funcs[f]? = some fn)
    (witness : ∃ (w : World) (tape : Tape) (i : Input), w.os = os ∧ (w.forCall tape i).Shaped C.prog ∧ i.vars = [] ∧ Input.okWide C.prog (w.forCall tape i) .any w.heap.size f i ∧
      s.pre6 enc C.prog fn [] false (w.forCall tape i).memory i.args ∧ ({} : Assume).holds C.prog (lone (Frame.enter C.prog f i.args .normal) [] (w.forCall tape i)))
    (hl : laidOutB C.prog = true) (hp : (fn.params.toList.all fun t => plainT C.prog 30 t && C.prog.readableRec t && decide (t < C.prog.types.size)) = true) (hvars : s.vars = []) (hres : fn.resultTypes = #[tb])
    (htb : C.prog.underlying tb = some .bool) (hfn : ∀ ds : List (DataW H), ds.length = fn.params.size → (s.fn H ds) = { results := [.lit (.bool true)], args := ds })
    (law : ∀ as0, TyAs C.prog fn.params.toList as0 → DCalls C.prog f as0 noS fun r _ => r = .a (.one (.bool true))) :
    ReturnsInHanded {} C os f .any (s.pre6 enc C.prog fn [] false) (s.post enc C.prog fn false true false false) := by
  have e : (fun w args => (s.pre enc C.prog fn [] false w args ∧ True) ∧ sizedMet enc C.prog fn (OpenSpec.ofChange s) false w args) = s.pre6 enc C.prog fn [] false := by
    funext w args; simp [ChangeSpec.pre6]
  rw [← e]
  refine returnsInHanded_of_change_and (X := fun _ _ => True) (fun _ _ _ _ _ => trivial) own started noInit hf ?_ ?_
  · obtain ⟨w, tape, i, h1, h2, h3, h4, h5, h6⟩ := witness
    exact ⟨w, tape, i, h1, h2, h3, h4, ⟨⟨h5.1, trivial⟩, h5.2⟩, h6⟩
  · intro W base args ds gs before hval hW _ hw _ _
    exact law_calls hl hp hvars hres htb (hfn ds) law hval hW hw
end
end Go.Fw
end
section
set_option linter.unusedVariables false
set_option linter.unusedSimpArgs false
namespace Go.Fw
open Go.ChangeShapes Go.WideShapes Go.RowKit
theorem joined_of {P : Program} {f : FuncId} {fn : Func} {s : ChangeSpec} {c : OpenClaim} (a0 : laidOutB P = true)
    (a1 : (c.wf (OpenSpec.ofChange s) && mapsRowed P && fn.params.all (P.readableRec ·) && namedTie P c.named s.vars && (c.stops == []) && (P.stops == []) && (c.knobs == []) && (P.stopKnobs == []) && (c.inPlace == P.inPlace f)) = true)
    (a2 : (c.unfollowed == P.unfollowed f) = true) (a3 : (c.recurses == P.recurses f) = true) (a4 : (c.named == P.varsNamed f) = true)
    (a5 : ((c.maps == (fn.params.toList ++ s.plain.varTypes P).any (P.mapsRec ·)) && (c.ifaces == (fn.params.toList ++ s.plain.varTypes P).any (P.ifacesRec ·)) && (c.mapsOut == P.mapsAmong fn.resultTypes.toList) && (c.loops == (fn.params.toList ++ s.plain.varTypes P).any (P.loopsFrom ·)) && (c.wideKeys == (fn.params.toList ++ s.plain.varTypes P ++ fn.resultTypes.toList).any (P.wideKeysFrom ·))) = true)
    (a6 : (s.vars.all (P.varReadable ·) && fn.resultTypes.all (fun t => P.readableRec t && decide (t < P.types.size)) && (c.ifacesOut == fn.resultTypes.toList.any (P.ifacesRec ·)) && (c.loopsOut == fn.resultTypes.toList.any (P.loopsFrom ·))) = true)
    (a7 : ((c.plainKeys == P.plainKeys) && c.shortTexts.isNone && P.stopsHeard && P.mayEnter && (c.lifted == P.liftsFinal) && (P.make == some c.make) && (c.kinds == (if c.domain.isEmpty then [] else fn.params.toList.map fun t => match P.underlying t with | some (.int k) => some k | _ => none)) && (c.pinned == c.pinnedBy)) = true)
    (a8 : ((c.veiled == (fn.params.toList ++ s.plain.varTypes P ++ fn.resultTypes.toList).any (P.veiledRec ·)) && c.veiledFits P fn.params.toList (fn.params.toList ++ s.plain.varTypes P ++ fn.resultTypes.toList)) = true) :
    joinedFacts P f fn s c = true := by
  rw [Bool.and_eq_true] at a8
  repeat rw [Bool.and_eq_true] at a7
  repeat rw [Bool.and_eq_true] at a6
  repeat rw [Bool.and_eq_true] at a5
  repeat rw [Bool.and_eq_true] at a1
  obtain ⟨⟨⟨⟨⟨⟨⟨⟨b1, b2⟩, b3⟩, b4⟩, b5⟩, b6⟩, b7⟩, b8⟩, b9⟩ := a1
  obtain ⟨⟨⟨⟨c1, c2⟩, c3⟩, c4⟩, c5⟩ := a5
  obtain ⟨⟨⟨d1, d2⟩, d3⟩, d4⟩ := a6
  obtain ⟨⟨⟨⟨⟨⟨⟨e1, e2⟩, e3⟩, e4⟩, e5⟩, e6⟩, e7⟩, e8⟩ := a7
  obtain ⟨f1, f2⟩ := a8
  unfold joinedFacts
  rw [b1, a0, b2, b3, b4, b5, b6, b7, b8, b9, a2, a3, a4, c1, c2, c3, c4, c5, d1, d2, d3, d4, e1, e2, e3, e4, e5, e6]
  exact Bool.and_eq_true_iff.2 ⟨Bool.and_eq_true_iff.2 ⟨Bool.and_eq_true_iff.2 ⟨Bool.and_eq_true_iff.2 ⟨rfl, e7⟩, e8⟩, f1⟩, f2⟩
end Go.Fw
end
section
set_option linter.unusedVariables false
set_option linter.unusedSimpArgs false
namespace Go.Fw
variable {P : Program} {σ σ' : Store} {el : TypeId} {d : D} {rs : List (List D)}
theorem w64_id {n : Int} (h1 : -9223372036854775808 ≤ n) (h2 : n ≤ 9223372036854775807) : w64 n = n := by
  simp only [w64, IntKind.wrap, IntKind.signed, IntKind.bits]; simp; omega
theorem w64_succ {j : Nat} (h : j < 2 ^ 62) : w64 ((j : Int) + 1) = ((j + 1 : Nat) : Int) := by
  rw [w64_id (by omega) (by omega)]; omega
abbrev iD (n : Int) : D := .int .i64 n
abbrev iA (n : Int) : A := .one (.int .i64 n)
abbrev bA (b : Bool) : A := .one (.bool b)
structure At (P : Program) (σ : Store) (el : TypeId) (d : D) (rs : List (List D)) : Prop where
  rows : Rows P σ el d rs
  size : rs.length < 2 ^ 60
  es : ∀ es rows, d = .sl es rows → es = P.cellsOf el
theorem At.lenI (h : At P σ el d rs) : Len d rs.length := by
  have hr := h.rows
  cases d <;> simp only [Rows] at hr <;> try exact hr.elim
  · subst hr; rfl
  · subst hr; rfl
  · rw [hr.1]; rfl
  · obtain ⟨t, rows, h1, h2, h3, rfl⟩ := hr
    show _ = _
    simp; omega
theorem At.len {n : Nat} (h : At P σ el d rs) (hl : Len d n) : n = rs.length := by
  have hr := h.rows
  cases d <;> simp only [Rows] at hr <;> try exact hr.elim
  · subst hr; exact hl
  · subst hr; exact hl
  · rw [hr.1]; exact hl
  · obtain ⟨t, rows, h1, h2, h3, rfl⟩ := hr
    have : n = _ := hl
    simp; omega
theorem At.lenK {K : Nat → Prop} (h : At P σ el d rs) (hk : K rs.length) : ∃ len : Nat, Len d len ∧ K len := ⟨_, h.lenI, hk⟩
theorem At.row {i : Nat} {row : List D} (h : At P σ el d rs) (hi : rs[i]? = some row) : Row σ d i row := by
  have hr := h.rows
  have hlt := (List.getElem?_eq_some_iff.1 hi).1
  cases d <;> simp only [Rows] at hr <;> try exact hr.elim
  · subst hr; simp at hi
  · subst hr; simp at hi
  · rw [hr.1] at hi; exact hi
  · obtain ⟨t, rows, h1, h2, h3, rfl⟩ := hr
    refine ⟨?_, t, rows, h1, ?_⟩
    · simp at hlt; omega
    · rw [List.getElem?_take] at hi
      split at hi
      · rw [List.getElem?_drop] at hi; exact hi
      · cases hi
theorem At.idx {es : Nat} (h : At P σ el d rs) (hes : P.cellsOf el = es) (hne : 0 < rs.length) : Idx P σ d es rs.length := by
  have hr := h.rows
  subst hes
  cases d <;> simp only [Rows] at hr <;> try exact hr.elim
  · subst hr; simp at hne
  · subst hr; simp at hne
  · obtain ⟨rfl, h2⟩ := hr
    refine ⟨h2.resolve_left (fun e => by subst e; simp at hne), rfl⟩
  · obtain ⟨t, rows, h1, h2, h3, rfl⟩ := hr
    exact ⟨by simp; omega, t, rows, h1, h2⟩
theorem At.idxN {es : Nat} (h : At P σ el d rs) (hes : P.cellsOf el = es) : IdxN P σ d es rs.length := by
  by_cases hne : 0 < rs.length
  · exact .inl (h.idx hes hne)
  · have hr := h.rows
    have h0 : rs = [] := List.eq_nil_of_length_eq_zero (by omega)
    subst hes
    cases d <;> simp only [Rows] at hr <;> try exact hr.elim
    · exact .inr ⟨by omega, .inl rfl⟩
    · exact .inr ⟨by omega, .inr rfl⟩
    · exact .inl ⟨h.es _ _ rfl, by rw [hr.1]⟩
    · obtain ⟨t, rows, h1, h2, h3, rfl⟩ := hr
      exact .inl ⟨by simp; omega, t, rows, h1, h2⟩
theorem At.idxK {es : Nat} {n : Int} {j : Nat} {K : Prop} (h : At P σ el d rs) (hes : P.cellsOf el = es) (hn : n = j) (hj : j < rs.length) (hk : K) :
    ∃ len : Nat, Idx P σ d es len ∧ 0 ≤ n ∧ n < (len : Int) ∧ K := ⟨_, h.idx hes (by omega), by omega, by omega, hk⟩
theorem At.rowK {i : Nat} {j : Nat} {row : List D} {K : List D → Prop} (h : At P σ el d rs) (hi : rs[j]? = some row) (hij : i = j) (hk : K row) : ∃ row, Row σ d i row ∧ K row := ⟨row, h.row (hij ▸ hi), hk⟩
theorem At.load {es : Nat} {n : Int} {j : Nat} {row : List D} {K : List D → Prop} (h : At P σ el d rs) (hi : rs[j]? = some row) (hes : P.cellsOf el = es) (hn : n = j) (hk : K row) :
    ∃ len : Nat, Idx P σ d es len ∧ 0 ≤ n ∧ n < (len : Int) ∧ ∃ row, Row σ d n.toNat row ∧ K row :=
  h.idxK hes hn (List.getElem?_eq_some_iff.1 hi).1 (h.rowK hi (by omega) hk)
theorem At.sub {lo hi : Nat} (h : At P σ el d rs) (h1 : lo ≤ hi) (h2 : hi ≤ rs.length) : At P σ el (dsub d lo hi) ((rs.drop lo).take (hi - lo)) := by
  have hr := h.rows
  have hs := h.size
  have hl : ((rs.drop lo).take (hi - lo)).length < 2 ^ 60 := by simp; omega
  cases d <;> simp only [Rows] at hr <;> try exact hr.elim
  · subst hr; exact ⟨by simp [dsub, Rows], hl, fun es rows e => by cases e⟩
  · subst hr; exact ⟨by simp [dsub, Rows], hl, fun es rows e => by cases e⟩
  · rename_i es rows
    obtain ⟨rfl, h3⟩ := hr
    refine ⟨⟨rfl, .inr (h.es _ _ rfl)⟩, hl, fun es' rows' e => ?_⟩
    have e : D.sl es _ = D.sl es' rows' := e
    injection e with e1 e2
    rw [← e1]; exact h.es _ _ rfl
  · obtain ⟨t, rows, q1, q2, q3, rfl⟩ := hr
    refine ⟨⟨t, rows, q1, q2, ?_, ?_⟩, hl, fun es rows e => by cases e⟩
    · simp at h2; omega
    · rw [List.drop_take, List.take_take, List.drop_drop]
      simp at h2
      congr 1; omega
theorem At.sliceK {es lo hi : Nat} {l m : Int} {K : Prop} (h : At P σ el d rs) (hes : P.cellsOf el = es) (hl : l = lo) (hm : m = hi) (h1 : lo ≤ hi) (h2 : hi ≤ rs.length) (hk : K) :
    ∃ len : Nat, IdxN P σ d es len ∧ 0 ≤ l ∧ l ≤ m ∧ m ≤ (len : Int) ∧ K := ⟨_, h.idxN hes, by omega, by omega, by omega, hk⟩
theorem At.sliceFromK {es lo : Nat} {l : Int} {K : Nat → Prop} (h : At P σ el d rs) (hes : P.cellsOf el = es) (hl : l = lo) (h1 : lo ≤ rs.length) (hk : K rs.length) :
    ∃ len : Nat, IdxN P σ d es len ∧ 0 ≤ l ∧ l ≤ (len : Int) ∧ K len := ⟨_, h.idxN hes, by omega, by omega, hk⟩
def Ext (σ σ' : Store) : Prop := ∀ i, σ i ≠ .free → σ' i = σ i
theorem Ext.refl (σ : Store) : Ext σ σ := fun _ _ => rfl
theorem Ext.trans {σ1 σ2 σ3 : Store} (h : Ext σ1 σ2) (h' : Ext σ2 σ3) : Ext σ1 σ3 := fun i hi => by
  have := h i hi
  rw [h' i (by rw [this]; exact hi), this]
theorem Ext.new {id : Nat} (h : σ id = .free) (so : SO) : Ext σ (σ.set id so) := fun i hi => Store.set_ne _ _ (fun e => hi (e ▸ h))
theorem Ext.set {σ0 : Store} {id : Nat} (h : Ext σ0 σ) (hid : σ0 id = .free) (so : SO) : Ext σ0 (σ.set id so) := fun i hi => by
  have hne : i ≠ id := fun e => hi (by rw [e]; exact hid)
  rw [Store.set_ne _ _ hne]; exact h i hi
theorem Rows.same (h : Rows P σ el d rs) (hs : ∀ id i len, d = .osl id i len → σ' id = σ id) : Rows P σ' el d rs := by
  cases d <;> first | exact h | skip
  obtain ⟨t, rows, h1, h2⟩ := h
  exact ⟨t, rows, by rw [hs _ _ _ rfl]; exact h1, h2⟩
theorem At.same (h : At P σ el d rs) (hs : ∀ id i len, d = .osl id i len → σ' id = σ id) : At P σ' el d rs := ⟨h.rows.same hs, h.size, h.es⟩
theorem At.ext (h : At P σ el d rs) (he : Ext σ σ') : At P σ' el d rs := h.same fun id i len e => he id (by
  have := h.rows; subst e
  obtain ⟨t, rows, h1, _⟩ := this
  rw [h1]; intro e; cases e)
theorem At.nil : At P σ el .nils [] := ⟨rfl, by simp, fun es rows e => by cases e⟩
theorem At.new {t : TypeId} {id : Nat} (rs : List (List D)) (h : σ id = .live t rs) (hes : P.cellsOf t = P.cellsOf el) (hsz : rs.length < 2 ^ 60) {n : Nat} (hn : n = rs.length) : At P σ el (.osl id 0 n) rs :=
  ⟨⟨t, rs, h, hes, by omega, by subst hn; simp⟩, hsz, fun es rows e => by cases e⟩
theorem At.fresh {id : Nat} {rs : List (List D)} (h : σ id = .live el rs) (hsz : rs.length < 2 ^ 60) {n : Nat} (hn : n = rs.length) : At P σ el (.osl id 0 n) rs := .new rs h rfl hsz hn
theorem newObj_intro {so : SO} {K : Nat → Store → Prop} (h : ∀ id σ', σ id = .free → σ' = σ.set id so → Ext σ σ' → σ' id = so → K id σ') : Fw.newObj σ so K :=
  fun id hid => h id _ hid rfl (Ext.new hid so) (Store.set_same _ _ _)
/-! ### cases -/
theorem bc {b : Bool} {x y : Prop} (h1 : b = true → x) (h2 : b = false → y) : bcase b x y := by cases b; exact h2 rfl; exact h1 rfl
theorem bcd {p : Prop} [Decidable p] {x y : Prop} (h1 : p → x) (h2 : ¬ p → y) : bcase (decide p) x y := bc (fun h => h1 (of_decide_eq_true h)) (fun h => h2 (of_decide_eq_false h))
theorem bce {a b : Int} {x y : Prop} (h1 : a = b → x) (h2 : a ≠ b → y) : bcase (a == b) x y := bc (fun h => h1 (by simpa using h)) (fun h => h2 (by simpa using h))
theorem bcn {a b : Int} {x y : Prop} (h1 : a ≠ b → x) (h2 : a = b → y) : bcase (a != b) x y := bc (fun h => h1 (by simpa using h)) (fun h => h2 (by simpa using h))
theorem bcnot {b : Bool} {x y : Prop} (h1 : b = false → x) (h2 : b = true → y) : bcase (!b) x y := by cases b; exact h1 rfl; exact h2 rfl
/-! ### calls -/
def Pure (P : Program) (f : FuncId) (as0 : List A) (σ : Store) (r : RV) : Prop := DCalls P f as0 σ fun r' σ' => r' = r ∧ σ' = σ
theorem Pure.use {f : FuncId} {as0 : List A} {r : RV} {Q : RV → Store → Prop} (h : Pure P f as0 σ r) (hq : Q r σ) : DCalls P f as0 σ Q := h.mono fun r' s ⟨h1, h2⟩ => by subst h1 h2; exact hq
/-! ### what a call hands back -/
theorem Fz.refl {S : Nat → Prop} {es : Nat} {rows : List (List D)} (h : ∀ row ∈ rows, ∀ d ∈ row, Fz P σ S d d) : Fz P σ S (.sl es rows) (.sl es rows) :=
  .sl es rows rows rfl (fun i row row' h1 h2 => by rw [h1] at h2; injection h2 with h2; rw [h2]) (fun i row row' j d d' h1 h2 h3 h4 => by
    rw [h1] at h2; injection h2 with h2; subst h2
    rw [h3] at h4; injection h4 with h4; subst h4
    exact h row (List.mem_of_getElem? h1) d (List.mem_of_getElem? h3))
inductive Flat : D → Prop
  | int (q n) : Flat (.int q n)
  | bool (b) : Flat (.bool b)
  | str (s) : Flat (.str s)
theorem Flat.fz {S : Nat → Prop} {d : D} (h : Flat d) : Fz P σ S d d := by cases h <;> constructor
theorem Fz.osl_flat {S : Nat → Prop} {id i len : Nat} {rows' : List (List D)} {t : TypeId} {rows : List (List D)} (hn : ¬ S id) (hs : σ id = .live t rows) (hi : i + len ≤ rows.length) (hr : rows' = (rows.drop i).take len)
    (hf : ∀ row ∈ rows', ∀ d ∈ row, Flat d) : Fz P σ S (.osl id i len) (.sl (P.cellsOf t) rows') := by
  have hl : rows'.length = len := by rw [hr]; simp; omega
  have key : ∀ (j : Nat) row row', rows[i + j]? = some row → rows'[j]? = some row' → row' = row := fun j row row' h1 h2 => by
    have hlt := (List.getElem?_eq_some_iff.1 h2).1
    rw [hr, List.getElem?_take, if_pos (by omega), List.getElem?_drop, h1] at h2
    injection h2 with h2; exact h2.symm
  exact .osl id i len t rows rows' hn hs hi hl (fun j row row' h1 h2 => by rw [key j row row' h1 h2]) (fun j row row' m d d' h1 h2 h3 h4 => by
    have e := key j row row' h1 h2
    subst e
    rw [h3] at h4; injection h4 with h4; subst h4
    exact (hf row' (List.mem_of_getElem? h2) d (List.mem_of_getElem? h3)).fz)
theorem Ret.pure {σ0 : Store} {r r' : RV} (he : Ext σ0 σ) (hr : FzR P σ (fun i => σ0 i ≠ .free) r r') : Ret P σ0 σ r σ0 r' :=
  ⟨fun i => σ0 i ≠ .free, fun i h => h, fun i h => Classical.not_not.1 h, fun i h => .inl ⟨(he i h).symm, he i h⟩, hr⟩
theorem FzL.cons {S : Nat → Prop} {d d' : D} {ds ds' : List D} (h : Fz P σ S d d') (ht : FzL P σ S ds ds') : FzL P σ S (d :: ds) (d' :: ds') :=
  ⟨by simp [ht.1], fun i x y h1 h2 => by
    cases i with
    | zero => simp at h1 h2; subst h1 h2; exact h
    | succ i => exact ht.2 i x y (by simpa using h1) (by simpa using h2)⟩
theorem FzL.nil {S : Nat → Prop} : FzL P σ S [] [] := ⟨rfl, fun i x y h => by simp at h⟩
theorem FzL.flat {S : Nat → Prop} {ds : List D} (h : ∀ d ∈ ds, Flat d) : FzL P σ S ds ds :=
  ⟨rfl, fun i x y h1 h2 => by rw [h1] at h2; injection h2 with h2; subst h2; exact (h x (List.mem_of_getElem? h1)).fz⟩
theorem ret_slice {σ0 : Store} {rs : List (List D)} (h : At P σ el d rs) (he : Ext σ0 σ) (hid : ∀ id i len, d = .osl id i len → σ0 id = .free) (hf : ∀ row ∈ rs, ∀ x ∈ row, Flat x) :
    ∃ d', Fz P σ (fun i => σ0 i ≠ .free) d d' ∧ (∀ σ'', At P σ'' el d' rs) := by
  have hr := h.rows
  cases d <;> simp only [Rows] at hr <;> try exact hr.elim
  · subst hr; exact ⟨.nils, .nils, fun _ => .nil⟩
  · subst hr; exact ⟨.zsl, .zsl, fun _ => ⟨rfl, by simp, fun es rows e => by cases e⟩⟩
  · rename_i es rows
    obtain ⟨rfl, h3⟩ := hr
    exact ⟨_, .refl fun row hrow x hx => (hf row hrow x hx).fz, fun σ'' => ⟨⟨rfl, h3⟩, h.size, h.es⟩⟩
  · obtain ⟨t, rows, q1, q2, q3, rfl⟩ := hr
    rename_i id i len
    refine ⟨.sl (P.cellsOf t) ((rows.drop i).take len), .osl_flat (fun hn => hn (hid _ _ _ rfl)) q1 q3 rfl hf, fun σ'' => ⟨⟨rfl, .inr q2⟩, h.size, fun es rows e => ?_⟩⟩
    injection e with e1 e2
    rw [← e1]; exact q2
/-! ### slices that grow -/
structure Own (P : Program) (σ0 σ : Store) (el : TypeId) (d : D) (rs : List (List D)) : Prop where
  at_ : At P σ el d rs
  ext : Ext σ0 σ
  new : ∀ id i len, d = .osl id i len → σ0 id = .free
  nsl : ¬ isSl d
  nz : d ≠ .zsl
theorem Own.nil (σ0 : Store) (h : Ext σ0 σ) : Own P σ0 σ el .nils [] := ⟨.nil, h, fun id i len e => (by cases e), fun h => h, by intro e; cases e⟩
theorem Own.ext' {σ0 : Store} (h : Own P σ0 σ el d rs) (he : Ext σ σ') : Own P σ0 σ' el d rs := ⟨h.at_.ext he, h.ext.trans he, h.new, h.nsl, h.nz⟩
theorem Own.append {σ0 : Store} {x : D} {ns : List (List D)} {bytes : Nat} {K : D → Store → Prop} (h : Own P σ0 σ el d rs) (hx : At P σ el x ns) (hb : bytes * (rs.length + ns.length) ≤ 140737488355328)
    (hsz : rs.length + ns.length < 2 ^ 60) (hk : ∀ d' σ', Own P σ0 σ' el d' (rs ++ ns) → (∀ i, σ i ≠ .free → (∀ a b, d ≠ .osl i a b) → σ' i = σ i) → (∀ i a b, d' = .osl i a b → σ i = .free ∨ ∃ a b, d = .osl i a b) → K d' σ') : appendTo P σ el bytes d x K := by
  refine ⟨rs, ns, h.at_.rows, hx.rows, hb, fun hs => absurd hs h.nsl, fun d' σ' ha => ?_⟩
  have hl : (rs ++ ns).length < 2 ^ 60 := by simp; omega
  rcases ha with ⟨rfl, rfl, rfl⟩ | ⟨hne, id, hid, rfl, rfl⟩ | ⟨hne, id, i0, len, t, rows, rfl, hlive, rfl, rfl⟩
  · refine hk _ _ ?_ (fun i _ _ => rfl) (fun i a b e => .inr ⟨a, b, e⟩)
    rw [List.append_nil]; exact h
  · refine hk _ _ ⟨.new (t := el) _ (Store.set_same _ _ _) rfl hl (by simp), fun i hi => ?_, fun id' i len e => ?_, fun h => h, by intro e; cases e⟩ (fun i hi _ => ?_) (fun i a b e => .inl ?_)
    · rw [Store.set_ne _ _ (fun e => ?_)]
      · exact h.ext i hi
      · subst e
        have := h.ext i hi
        rw [hid] at this; exact hi this.symm
    · injection e with e1; subst e1
      by_cases hf : σ0 id = .free
      · exact hf
      · have := h.ext id hf
        rw [hid] at this; exact this.symm
    · exact Store.set_ne _ _ (fun e => hi (e ▸ hid))
    · injection e with e1; subst e1; exact hid
  · have hrow := h.at_.rows
    obtain ⟨t', rows', q1, q2, q3, hrs⟩ := hrow
    rw [hlive] at q1; injection q1 with q1 q1'; subst q1 q1'
    have hnew := h.new id i0 len rfl
    have hlen : rs.length = len := by rw [hrs]; simp; omega
    refine hk _ _ ⟨⟨⟨t, _, Store.set_same _ _ _, q2, ?_, ?_⟩, hl, fun es rows e => by cases e⟩, h.ext.set hnew _, fun id' i l e => ?_, fun h => h, by intro e; cases e⟩ (fun i hi hd => Store.set_ne _ _ (fun e => hd i0 len (by rw [e]))) (fun i a b e => .inr ?_)
    · simp; omega
    · have e1 : rows.take (i0 + len) = rows.take i0 ++ rs := by
        rw [List.take_add, hrs]
      rw [e1, List.append_assoc, List.append_assoc, List.drop_append_of_le_length (by simp; omega)]
      have e2 : (rows.take i0).drop i0 = [] := by rw [List.drop_eq_nil_iff]; simp; omega
      rw [e2, List.nil_append, ← List.append_assoc, List.take_append_of_le_length (by simp; omega), List.take_of_length_le (by simp; omega)]
    · injection e with e1; subst e1; exact hnew
    · injection e with e1; subst e1; exact ⟨_, _, rfl⟩
/-! ### ranges -/
theorem drop_get {α : Type} {l : List α} {j : Nat} {x : α} (h : l[j]? = some x) : l.drop j = x :: l.drop (j + 1) := by
  obtain ⟨h1, h2⟩ := List.getElem?_eq_some_iff.1 h
  rw [List.drop_eq_getElem_cons h1, h2]
theorem drop_end {α : Type} {l : List α} {j : Nat} (h : l.length ≤ j) : l.drop j = [] := List.drop_eq_nil_iff.2 h
theorem get_of_lt {α : Type} {l : List α} {j : Nat} (h : j < l.length) : ∃ x, l[j]? = some x := ⟨l[j], List.getElem?_eq_getElem h⟩
theorem map_get {α β : Type} {f : α → β} {l : List α} {j : Nat} {x : α} (h : l[j]? = some x) : (l.map f)[j]? = some (f x) := by simp [h]
def Rng {α : Type} (l : List α) (F : List α → Prop) (n : Int) : Prop := ∃ j : Nat, n = j ∧ j ≤ l.length ∧ F (l.drop j)
theorem Rng.start {α : Type} {l : List α} {F : List α → Prop} (h : F l) : Rng l F 0 := ⟨0, rfl, by omega, h⟩
theorem Rng.step {α : Type} {l : List α} {F : List α → Prop} {n : Int} {m : Nat} (h : Rng l F n) (hm : m = l.length) (hl : l.length < 2 ^ 60) (hlt : n < (m : Int)) :
    ∃ (j : Nat) (x : α), n = j ∧ l[j]? = some x ∧ j < l.length ∧ F (x :: l.drop (j + 1)) ∧
      ∀ F' : List α → Prop, F' (l.drop (j + 1)) → Rng l F' (w64 (n + 1)) ∧ l.length - (w64 (n + 1)).toNat < l.length - n.toNat := by
  obtain ⟨j, rfl, hj, hF⟩ := h
  have hj' : j < l.length := by omega
  obtain ⟨x, hx⟩ := get_of_lt hj'
  refine ⟨j, x, rfl, hx, hj', by rw [← drop_get hx]; exact hF, fun F' h' => ?_⟩
  rw [w64_succ (by omega)]
  exact ⟨⟨j + 1, rfl, by omega, h'⟩, by omega⟩
theorem Rng.done {α : Type} {l : List α} {F : List α → Prop} {n : Int} {m : Nat} (h : Rng l F n) (hm : m = l.length) (hge : ¬ n < (m : Int)) : F [] := by
  obtain ⟨j, rfl, hj, hF⟩ := h
  rw [drop_end (by omega)] at hF; exact hF
theorem andl {p a b : Prop} (hp : p) (h : a ∧ b) : (p ∧ a) ∧ b := ⟨⟨hp, h.1⟩, h.2⟩
/-! ### maps -/
def MapAt {κ : Type} (P : Program) (kt : TypeId) (enc : κ → A) (σ : Store) (id : Nat) (f : κ → Option A) : Prop :=
  ∃ clock es, σ id = .mp clock es ∧ keysOk P kt es ∧ ∀ x, findM (enc x) es = f x
def Keys {κ : Type} (P : Program) (kt : TypeId) (enc : κ → A) : Prop := (∀ x, keyOk P kt (enc x) = true) ∧ ∀ x y, eqA (enc x) (enc y) = true ↔ x = y
variable {κ : Type} {kt : TypeId} {enc : κ → A} {id : Nat} {f : κ → Option A}
theorem MapAt.new (h : σ id = .mp 0 []) : MapAt P kt enc σ id fun _ => none := ⟨0, [], h, fun e he => (by cases he), fun x => rfl⟩
theorem MapAt.same (h : MapAt P kt enc σ id f) (hs : σ' id = σ id) : MapAt P kt enc σ' id f := by
  obtain ⟨c, es, h1, h2⟩ := h
  exact ⟨c, es, hs.trans h1, h2⟩
theorem MapAt.look (hk : Keys P kt enc) (h : MapAt P kt enc σ id f) (x : κ) : MLook P kt σ (.omap id) (enc x) (f x) := by
  obtain ⟨c, es, h1, h2, h3⟩ := h
  exact ⟨hk.1 x, .inr ⟨id, c, es, rfl, h1, h2, (h3 x).symm⟩⟩
theorem MapAt.lookI (hk : Keys P kt enc) (h : MapAt P kt enc σ id f) (x : κ) {n : Int} {K : Int → Prop} (hn : (f x).getD (iA 0) = iA n) (hK : K n) :
    ∃ r : Option A, MLook P kt σ (.omap id) (enc x) r ∧ ∃ n : Int, Option.getD r (iA 0) = iA n ∧ K n := ⟨_, h.look hk x, n, hn, hK⟩
theorem eqA_symm (x y : A) : eqA x y = eqA y x := by
  unfold eqA
  generalize aCells x = as0
  generalize aCells y = bs
  induction as0 generalizing bs with
  | nil => cases bs <;> rfl
  | cons a as0 ih =>
    cases bs with
    | nil => rfl
    | cons b bs =>
      simp only [eqCells, ih]
      congr 1
      cases a <;> cases b <;> simp [eqCell]
      · exact Bool.eq_iff_iff.2 (by simp; exact eq_comm)
      · exact Bool.eq_iff_iff.2 (by simp; exact eq_comm)
      · exact Bool.eq_iff_iff.2 (by rw [MapKept.bytes_beq, MapKept.bytes_beq]; exact eq_comm)
theorem findM_append {x : A} {es : List Ent} {e : Ent} : findM x (es ++ [e]) = (findM x es).or (if eqA x e.2.1 = true then some e.2.2 else none) := by
  unfold findM
  rw [List.find?_append]
  cases es.find? (fun e => eqA x e.2.1) with
  | some w => simp
  | none =>
    simp only [Option.none_or, Option.map_none, List.find?_cons, List.find?_nil]
    cases eqA x e.2.1 <;> simp
theorem findM_set {x y : A} {es : List Ent} {j : Nat} {e : Ent} {v : A} (hf : FirstAt y es j e) : findM x (es.set j (e.1, y, v)) = if eqA x y = true then some v else findM x es := by
  unfold findM
  induction es generalizing j with
  | nil => simp [FirstAt] at hf
  | cons e0 es ih =>
    cases j with
    | zero =>
      obtain ⟨h1, h2, _⟩ := hf
      simp at h1; subst h1
      simp only [List.set_cons_zero, List.find?_cons]
      have := eqA_congr h2 x
      cases hxy : eqA x y with
      | true => simp
      | false => rw [hxy] at this; simp [← this]
    | succ j =>
      obtain ⟨h1, h2⟩ := hf.tail
      have ih := ih h2
      simp only [List.set_cons_succ, List.find?_cons]
      cases h0 : eqA x e0.2.1 with
      | true =>
        have hxy : eqA x y = false := by
          cases hxy : eqA x y with
          | false => rfl
          | true =>
            rw [eqA_symm] at hxy
            have := eqA_congr hxy e0.2.1
            rw [eqA_symm e0.2.1 y, h1, eqA_symm e0.2.1 x, h0] at this
            cases this
        simp [hxy]
      | false => simp only [ih]
theorem findM_none {x : A} {es : List Ent} (h : ∀ e ∈ es, eqA x e.2.1 = false) : findM x es = none := by simp [findM, find_none h]
theorem mput_spec {clock : Nat} {es : List Ent} {y v : A} (hy : keyOk P kt y = true) (hk : keysOk P kt es) : ∃ c es', mput clock es y v = .mp c es' ∧ keysOk P kt es' ∧ ∀ x, findM x es' = if eqA x y = true then some v else findM x es := by
  rcases put_cases clock es y v with ⟨hn, e1, _, _⟩ | ⟨j, e, hf, e1, _, _⟩
  · refine ⟨_, _, e1, fun w hw => ?_, fun x => ?_⟩
    · rcases List.mem_append.1 hw with hw | hw
      · exact hk w hw
      · simp at hw; subst hw; exact hy
    · rw [findM_append]
      by_cases hxy : eqA x y = true
      · have hnx : findM x es = none := findM_none fun e he => by
          have h1 := hn e he
          have := eqA_congr (by rw [eqA_symm]; exact hxy : eqA y x = true) e.2.1
          rw [eqA_symm e.2.1 y, h1, eqA_symm e.2.1 x] at this
          exact this.symm
        simp [hxy, hnx]
      · simp [hxy]
  · refine ⟨_, _, e1, fun w hw => ?_, fun x => findM_set hf⟩
    rcases List.mem_or_eq_of_mem_set hw with hw | hw
    · exact hk w hw
    · subst hw; exact hy
theorem MapAt.put (hk : Keys P kt enc) (h : MapAt P kt enc σ id f) (x : κ) {v : A} {K : Store → Prop}
    (hK : ∀ σ' f', MapAt P kt enc σ' id f' → (∀ z, z ≠ x → f' z = f z) → f' x = some v → (∀ i, i ≠ id → σ' i = σ i) → σ' id ≠ .free → K σ') : MPut P kt σ (.omap id) (enc x) v K := by
  obtain ⟨c, es, h1, h2, h3⟩ := h
  obtain ⟨c', es', e1, e2, e3⟩ := mput_spec (clock := c) (v := v) (hk.1 x) h2
  refine ⟨id, c, es, ⟨hk.1 x, rfl, h1, h2⟩, ?_⟩
  rw [e1]
  exact hK _ (fun z => findM (enc z) es') ⟨c', es', Store.set_same _ _ _, e2, fun z => rfl⟩ (fun z hz => by rw [e3, if_neg (fun h => hz ((hk.2 z x).1 h)), h3]) (by rw [e3, if_pos ((hk.2 x x).2 rfl)])
    (fun i hi => Store.set_ne _ _ hi) (by rw [Store.set_same]; intro e; cases e)
theorem MapAt.bump (hk : Keys P kt enc) (h : MapAt P kt enc σ id f) (x : κ) {z v : A} {K : Store → Prop}
    (hK : ∀ σ' f', MapAt P kt enc σ' id f' → (∀ z, z ≠ x → f' z = f z) → f' x = some v → (∀ i, i ≠ id → σ' i = σ i) → σ' id ≠ .free → K σ') :
    MEntry P kt σ (.omap id) (enc x) z fun _ n σ' => MStamp σ' (.omap id) n v K := by
  obtain ⟨c, es, h1, h2, h3⟩ := h
  refine ⟨id, c, es, ⟨hk.1 x, rfl, h1, h2⟩, fun hb => ?_⟩
  have fin : ∀ (c' : Nat) (es1 : List Ent), keysOk P kt es1 → (∀ y, findM y (stampL (mstamp c es (enc x)) v es1) = if eqA y (enc x) = true then some v else findM y es) → keysOk P kt (stampL (mstamp c es (enc x)) v es1) →
      mput c es (enc x) ((findM (enc x) es).getD z) = .mp c' es1 → (∃ e ∈ es1, (e.1 : Int) = (mstamp c es (enc x) : Nat)) →
      MStamp (σ.set id (mput c es (enc x) ((findM (enc x) es).getD z))) (.omap id) (mstamp c es (enc x) : Nat) v K := by
    intro c' es1 hk1 hf hk2 he hm
    refine ⟨id, c', es1, rfl, by rw [Store.set_same, he], hm, ?_⟩
    exact hK _ (fun y => findM (enc y) (stampL (mstamp c es (enc x)) v es1)) ⟨c', _, Store.set_same _ _ _, hk2, fun y => rfl⟩ (fun y hy => by rw [hf, if_neg (fun h => hy ((hk.2 y x).1 h)), h3]) (by rw [hf, if_pos ((hk.2 x x).2 rfl)])
      (fun i hi => by rw [Store.set_ne _ _ hi, Store.set_ne _ _ hi]) (by rw [Store.set_same]; intro e; cases e)
  rcases put_cases c es (enc x) ((findM (enc x) es).getD z) with ⟨hn, e1, e2, e3⟩ | ⟨j, e, hf, e1, e2, e3⟩
  · rw [e2, Option.getD_none] at e1
    have hst : stampL (mstamp c es (enc x)) v (es ++ [(c, enc x, z)]) = es ++ [(c, enc x, v)] := by
      have hj : (es ++ [(c, enc x, z)])[es.length]? = some (c, enc x, z) := by simp
      rw [stampL_at (hb.push (enc x) z).2 hj (by rw [e3])]
      simp
    refine fin (c + 1) (es ++ [(c, enc x, z)]) (fun w hw => ?_) (fun y => ?_) ?_ (by rw [e2, Option.getD_none]; exact e1) ⟨(c, enc x, z), List.mem_append_right _ (List.mem_singleton.2 rfl), by rw [e3]⟩
    · rcases List.mem_append.1 hw with hw | hw
      · exact h2 w hw
      · simp at hw; subst hw; exact hk.1 x
    · rw [hst, findM_append]
      by_cases hxy : eqA y (enc x) = true
      · have hnx : findM y es = none := findM_none fun e he => by
          have h1 := hn e he
          have := eqA_congr (by rw [eqA_symm]; exact hxy : eqA (enc x) y = true) e.2.1
          rw [eqA_symm e.2.1 (enc x), h1, eqA_symm e.2.1 y] at this
          exact this.symm
        simp [hxy, hnx]
      · simp [hxy]
    · rw [hst]
      intro w hw
      rcases List.mem_append.1 hw with hw | hw
      · exact h2 w hw
      · simp at hw; subst hw; exact hk.1 x
  · rw [e2, Option.getD_some] at e1
    have hlt := (List.getElem?_eq_some_iff.1 hf.1).1
    have hj : (es.set j (e.1, enc x, e.2.2))[j]? = some (e.1, enc x, e.2.2) := by simp [hlt]
    have hst : stampL (mstamp c es (enc x)) v (es.set j (e.1, enc x, e.2.2)) = es.set j (e.1, enc x, v) := by
      rw [stampL_at (hb.set hf.1 (enc x) e.2.2).2 hj (by rw [e3]), List.set_set]
    refine fin c (es.set j (e.1, enc x, e.2.2)) (fun w hw => ?_) (fun y => by rw [hst]; exact findM_set hf) ?_ (by rw [e2, Option.getD_some]; exact e1) ⟨_, List.mem_of_getElem? hj, by rw [e3]⟩
    · rcases List.mem_or_eq_of_mem_set hw with hw | hw
      · exact h2 w hw
      · subst hw; exact hk.1 x
    · rw [hst]
      intro w hw
      rcases List.mem_or_eq_of_mem_set hw with hw | hw
      · exact h2 w hw
      · subst hw; exact hk.1 x
theorem osl_new {σ0 : Store} {id i0 n : Nat} (h : σ0 id = .free) : ∀ id' i len, D.osl id i0 n = .osl id' i len → σ0 id' = .free := fun id' i len e => by
  have := (D.osl.inj e).1
  rw [← this]; exact h
inductive FlatR : RV → Prop
  | one (x : D) (h : Flat x) : FlatR (.a (.one x))
  | agg (ds : List D) (h : ∀ d ∈ ds, Flat d) : FlatR (.a (.agg ds))
  | tup (ds : List D) (h : ∀ d ∈ ds, Flat d) : FlatR (.tup (ds.map .one))
theorem FlatR.fz {S : Nat → Prop} {r : RV} (h : FlatR r) : FzR P σ S r r := by
  cases h with
  | one d h => exact h.fz
  | agg ds h => exact FzL.flat h
  | tup ds h =>
    refine ⟨rfl, fun i x y h1 h2 => ?_⟩
    rw [h1] at h2; injection h2 with h2; subst h2
    simp only [List.getElem?_map, Option.map_eq_some_iff] at h1
    obtain ⟨d, h1, rfl⟩ := h1
    exact (h d (List.mem_of_getElem? h1)).fz
theorem Pure.of {f : FuncId} {as0 : List A} {r : RV} (h : DCalls P f as0 σ fun r' s => r' = r ∧ Ext σ s) (hf : FlatR r) : Pure P f as0 σ r :=
  h.ret fun r' s ⟨h1, h2⟩ => by subst h1; exact ⟨r', σ, .pure h2 hf.fz, rfl, rfl⟩
theorem flat_i (n : Int) : FlatR (.a (iA n)) := .one _ (.int _ _)
theorem flat_b (b : Bool) : FlatR (.a (bA b)) := .one _ (.bool _)
theorem keys_int2 (h : ∀ a b : Int, keyOk P kt (.agg [iD a, iD b]) = true) : Keys P kt fun p : Int × Int => .agg [iD p.1, iD p.2] :=
  ⟨fun x => h _ _, fun x y => by simp [eqA, eqCells, aCells, eqCell, Prod.ext_iff]⟩
end Go.Fw
end
section
namespace Go.Fw
structure Sec where
  Kind : Int
  OC : Int
  Line : Int
structure Jt where
  A : Int
  AEnd : Int
  B : Int
  BEnd : Int
structure Sg where
  Sec : Int
  End_ : Int
  deriving DecidableEq
structure St where
  Sec : Int
  In : Int
  Out : Int
structure Nd where
  Sec : Int
  Pos : Int
  deriving DecidableEq
def Sec.enc (s : Sec) : List D := [iD s.Kind, iD s.OC, iD s.Line]
def Jt.enc (s : Jt) : List D := [iD s.A, iD s.AEnd, iD s.B, iD s.BEnd]
def Sg.enc (s : Sg) : List D := [iD s.Sec, iD s.End_]
def St.enc (s : St) : List D := [iD s.Sec, iD s.In, iD s.Out]
def Nd.enc (s : Nd) : List D := [iD s.Sec, iD s.Pos]
def encI (n : Int) : List D := [iD n]
def wayL (k : Int) : List (Int × Int × Int) :=
  if k = 0 then [(0, 1, 0)] else if k = 1 then [(0, 1, 1), (0, 2, 2)] else if k = 2 then [(0, 1, 0), (2, 3, 0)] else []
def encW (w : Int × Int × Int) : List D := [iD w.1, iD w.2.1, iD w.2.2]
def nends (k : Int) : Int := if k = 0 then 2 else if k = 1 then 3 else if k = 2 then 4 else 0
def endStep (n : Int) (w : Int × Int × Int) : Int :=
  ite (w64 (w.2.1 + 1) > ite (w64 (w.1 + 1) > n) (w64 (w.1 + 1)) n) (w64 (w.2.1 + 1)) (ite (w64 (w.1 + 1) > n) (w64 (w.1 + 1)) n)
theorem ends_eq (k : Int) : (wayL k).foldl endStep 0 = nends k := by
  unfold wayL nends
  split
  · decide
  · split
    · decide
    · split
      · decide
      · rfl
def wpos : List (Int × Int × Int) → Int → Int → Option Int
  | [], _, _ => none
  | w :: r, i, o => if (w.1 = i ∧ w.2.1 = o) ∨ (w.2.1 = i ∧ w.1 = o) then some w.2.2 else wpos r i o
def nxt : List Jt → Int → Int → Option (Int × Int)
  | [], _, _ => none
  | j :: r, s, e => if j.A = s ∧ j.AEnd = e then some (j.B, j.BEnd) else if j.B = s ∧ j.BEnd = e then some (j.A, j.AEnd) else nxt r s e
def opt2 : Option (Int × Int) → RV
  | none => .tup [iA 0, iA 0, bA false]
  | some p => .tup [iA p.1, iA p.2, bA true]
def opt1 : Option Int → RV
  | none => .tup [iA 0, bA false]
  | some p => .tup [iA p, bA true]
def cnt : List Jt → Int → Int → Int
  | [], _, _ => 0
  | j :: r, s, e => (if j.A = s ∧ j.AEnd = e then 1 else 0) + (if j.B = s ∧ j.BEnd = e then 1 else 0) + cnt r s e
def idxOf : List Int → Int → Nat → Int
  | [], _, _ => -1
  | x :: r, v, j => if v = x then j else idxOf r v (j + 1)
/-! ### is the plan right? -/
def kindAt (secs : List Sec) (i : Int) : Int := (secs[i.toNat]?.map Sec.Kind).getD (-1)
def spotOk (secs : List Sec) (p : Int × Int) : Bool := decide (0 ≤ p.1 ∧ p.1 ≤ (secs.length : Int) - 1) && decide (0 ≤ p.2 ∧ p.2 ≤ nends (kindAt secs p.1) - 1)
def prun (secs : List Sec) : List (Int × Int) → List (Int × Int) → Option (List (Int × Int))
  | [], tk => some tk
  | p :: r, tk => if spotOk secs p = true ∧ p ∉ tk then prun secs r (p :: tk) else none
def Jt.spots (j : Jt) : List (Int × Int) := [(j.A, j.AEnd), (j.B, j.BEnd)]
def jrun (secs : List Sec) : List Jt → List (Int × Int) → Option (List (Int × Int))
  | [], tk => some tk
  | j :: r, tk => match prun secs j.spots tk with
    | none => none
    | some tk' => if j.A = j.B then none else jrun secs r tk'
def srun (tk : List (Int × Int)) : List Sec → Int → List Int → Bool
  | [], _, _ => true
  | s :: r, i, ls => if nends s.Kind = 0 ∨ ¬ (0 ≤ s.OC ∧ s.OC ≤ 3) ∨ ¬ (0 ≤ s.Line ∧ s.Line ≤ 3) ∨ s.Line ≠ 0 ∧ (s.Kind ≠ 0 ∨ (i, 1) ∈ tk ∨ s.Line ∈ ls) then false else srun tk r (i + 1) (s.Line :: ls)
def topoOk (secs : List Sec) (js : List Jt) : Bool :=
  decide (1 ≤ secs.length ∧ secs.length ≤ 16 ∧ js.length ≤ 24) && match jrun secs js [] with
    | none => false
    | some tk => srun tk secs 0 []
theorem nends_le (k : Int) : 0 ≤ nends k ∧ nends k ≤ 4 := by unfold nends; split <;> (try split) <;> (try split) <;> omega
end Go.Fw
end
section
namespace Go.Proofs.YtaklhjodjbgmgaaGreat
open Go.Fw
theorem mixed : Go.Proofs.Tryz.prog.follows .mixedOrders = true := Go.Proofs.Tryz.checked.mixed
abbrev n_law19_YardAges : FuncId := 3
abbrev n_law19_lives : FuncId := 8
abbrev n_yard_New : FuncId := 9
abbrev n_ref10_Shape : FuncId := 10
abbrev n_ref10_Orders : FuncId := 11
abbrev n_ref09_Make : FuncId := 12
abbrev n_yard_Yard_Tick : FuncId := 13
abbrev n_yard_Yard_Take : FuncId := 14
abbrev n_yard_Yard_Look : FuncId := 15
abbrev n_yard_Yard_Shows : FuncId := 16
abbrev n_yard_Yard_Trains : FuncId := 18
abbrev n_yard_Yard_Move : FuncId := 19
abbrev n_yard_Yard_Tail : FuncId := 20
abbrev n_yard_Yard_Hits : FuncId := 26
abbrev n_law19_station : FuncId := 27
abbrev n_conf_Check : FuncId := 28
abbrev n_slices_Clone_Section : FuncId := 29
abbrev n_slices_Clone_Joint : FuncId := 30
abbrev n_slices_Clone_Signal : FuncId := 31
abbrev n_slices_Clone_int : FuncId := 32
abbrev n_yard_Yard_fits : FuncId := 33
abbrev n_slices_Repeat_yard_thing : FuncId := 34
abbrev n_slices_Repeat_yard_lamp : FuncId := 35
abbrev n_link_NewReceiver : FuncId := 36
abbrev n_tele_Shape : FuncId := 37
abbrev n_ref10_of : FuncId := 38
abbrev n_ref10_right : FuncId := 39
abbrev n_ref10_bytes : FuncId := 40
abbrev n_ref01_New : FuncId := 41
abbrev n_ref01_Writer_Num : FuncId := 42
abbrev n_ref01_Writer_Done : FuncId := 43
abbrev n_ref02_Seal : FuncId := 44
abbrev n_yard_thing_tick : FuncId := 45
abbrev n_yard_faults_fault : FuncId := 46
abbrev n_link_Receiver_Take : FuncId := 47
abbrev n_tele_ReadOrders : FuncId := 48
abbrev n_link_record_Last : FuncId := 49
abbrev n_yard_thing_order : FuncId := 50
abbrev n_yard_Yard_train : FuncId := 51
abbrev n_topo_Next : FuncId := 52
abbrev n_yard_Yard_signal : FuncId := 53
abbrev n_slices_Insert_int : FuncId := 54
abbrev n_yard_Yard_way : FuncId := 55
abbrev n_yard_Yard_stands : FuncId := 56
abbrev n_yard_Yard_there : FuncId := 74
abbrev n_yard_thing_moves : FuncId := 75
abbrev n_yard_Yard_shut : FuncId := 76
abbrev n_yard_Yard_Hits_1 : FuncId := 77
abbrev n_topo_Check : FuncId := 78
abbrev n_conf_plan_signals : FuncId := 79
abbrev n_conf_plan_crossings : FuncId := 80
abbrev n_conf_plan_route : FuncId := 81
abbrev n_conf_between : FuncId := 82
abbrev n_math_bits_Mul : FuncId := 83
abbrev n_tele_Shape_1 : FuncId := 84
abbrev n_ref01_Writer_put : FuncId := 85
abbrev n_ref02_big : FuncId := 86
abbrev n_ref02_Sum : FuncId := 87
abbrev n_link_Read : FuncId := 88
abbrev n_link_record_note : FuncId := 89
abbrev n_tele_read : FuncId := 90
abbrev n_tele_orders : FuncId := 91
abbrev n_slices_Index_Signal : FuncId := 92
abbrev n_topo_Way : FuncId := 95
abbrev n_topo_between : FuncId := 118
abbrev n_topo_Ends : FuncId := 119
abbrev n_conf_plan_section : FuncId := 120
abbrev n_conf_plan_path : FuncId := 121
abbrev n_slices_Equal_Need : FuncId := 122
abbrev n_conf_plan_flank : FuncId := 123
abbrev n_conf_plan_approach : FuncId := 124
abbrev n_slices_Equal_int : FuncId := 125
abbrev n_conf_plan_overlap : FuncId := 126
abbrev n_math_bits_Mul64 : FuncId := 128
abbrev n_seal_Open : FuncId := 129
abbrev n_pack_Read : FuncId := 130
abbrev n_pack_Reader_Byte : FuncId := 131
abbrev n_pack_Reader_Word : FuncId := 132
abbrev n_pack_Reader_Long : FuncId := 133
abbrev n_seq_Newer : FuncId := 134
abbrev n_seq_Lost : FuncId := 135
abbrev n_pack_Reader_Left : FuncId := 136
abbrev n_pack_Reader_End : FuncId := 137
abbrev n_tele_right : FuncId := 138
abbrev n_topo_ways : FuncId := 140
abbrev n_topo_way_other : FuncId := 141
abbrev n_conf_plan_signal : FuncId := 153
abbrev n_topo_Pos : FuncId := 154
abbrev n_slices_Contains_Signal : FuncId := 155
abbrev n_conf_has : FuncId := 156
abbrev n_slices_ContainsFunc_Need : FuncId := 157
abbrev n_conf_plan_flank_1 : FuncId := 158
abbrev n_seal_cut : FuncId := 159
abbrev n_seal_Next : FuncId := 160
abbrev n_pack_Reader_fixed : FuncId := 161
abbrev n_seq_Gap : FuncId := 162
abbrev n_seq_run_take : FuncId := 163
abbrev n_pack_trouble_well : FuncId := 164
abbrev n_slices_Index_int : FuncId := 166
abbrev n_slices_ContainsFunc_Step : FuncId := 170
abbrev n_conf_has_1 : FuncId := 171
abbrev n_slices_IndexFunc_Need : FuncId := 172
abbrev n_seal_Sum : FuncId := 173
abbrev n_pack_Reader_take : FuncId := 174
abbrev n_slices_IndexFunc_Step : FuncId := 176
abbrev n_pack_trouble_note : FuncId := 177
abbrev t_int : TypeId := 3
abbrev t_bool : TypeId := 4
abbrev t_uint8 : TypeId := 5
abbrev t_string : TypeId := 9
abbrev t_sl_int : TypeId := 25
abbrev t_Config : TypeId := 30
abbrev t_law19_Case : TypeId := 33
abbrev t_Orders : TypeId := 44
abbrev t_Signal : TypeId := 51
abbrev t_Section : TypeId := 53
abbrev t_Train : TypeId := 63
abbrev t_sl_Hit : TypeId := 81
abbrev t_Hit : TypeId := 84
abbrev t_Joint : TypeId := 90
abbrev t_yard_Yard : TypeId := 100
abbrev t_yard_thing : TypeId := 104
abbrev t_yard_lamp : TypeId := 107
abbrev t_p_yard_post : TypeId := 108
abbrev t_yard_post : TypeId := 112
abbrev t_link_Receiver : TypeId := 130
abbrev t_Step : TypeId := 144
abbrev t_Route : TypeId := 148
abbrev t_ref01_Writer : TypeId := 159
abbrev t_topo_spot : TypeId := 194
abbrev t_Need : TypeId := 201
abbrev t_tele_field : TypeId := 216
abbrev t_topo_way : TypeId := 223
abbrev t_pack_Reader : TypeId := 247
abbrev t_seq_run : TypeId := 249
theorem c_int : Go.Proofs.Tryz.prog.cellsOf t_int = 1 := by kernel_rfl
theorem c_uint8 : Go.Proofs.Tryz.prog.cellsOf t_uint8 = 1 := by kernel_rfl
theorem c_string : Go.Proofs.Tryz.prog.cellsOf t_string = 1 := by kernel_rfl
theorem c_sl_int : Go.Proofs.Tryz.prog.cellsOf t_sl_int = 1 := by kernel_rfl
theorem c_Orders : Go.Proofs.Tryz.prog.cellsOf t_Orders = 3 := by kernel_rfl
theorem c_Signal : Go.Proofs.Tryz.prog.cellsOf t_Signal = 2 := by kernel_rfl
theorem c_Section : Go.Proofs.Tryz.prog.cellsOf t_Section = 3 := by kernel_rfl
theorem c_Train : Go.Proofs.Tryz.prog.cellsOf t_Train = 2 := by kernel_rfl
theorem c_sl_Hit : Go.Proofs.Tryz.prog.cellsOf t_sl_Hit = 1 := by kernel_rfl
theorem c_Hit : Go.Proofs.Tryz.prog.cellsOf t_Hit = 2 := by kernel_rfl
theorem c_Joint : Go.Proofs.Tryz.prog.cellsOf t_Joint = 4 := by kernel_rfl
theorem c_yard_thing : Go.Proofs.Tryz.prog.cellsOf t_yard_thing = 3 := by kernel_rfl
theorem c_yard_lamp : Go.Proofs.Tryz.prog.cellsOf t_yard_lamp = 2 := by kernel_rfl
theorem c_p_yard_post : Go.Proofs.Tryz.prog.cellsOf t_p_yard_post = 1 := by kernel_rfl
theorem c_Step : Go.Proofs.Tryz.prog.cellsOf t_Step = 3 := by kernel_rfl
theorem c_Route : Go.Proofs.Tryz.prog.cellsOf t_Route = 6 := by kernel_rfl
theorem c_topo_spot : Go.Proofs.Tryz.prog.cellsOf t_topo_spot = 2 := by kernel_rfl
theorem c_Need : Go.Proofs.Tryz.prog.cellsOf t_Need = 2 := by kernel_rfl
theorem c_tele_field : Go.Proofs.Tryz.prog.cellsOf t_tele_field = 3 := by kernel_rfl
theorem c_topo_way : Go.Proofs.Tryz.prog.cellsOf t_topo_way = 3 := by kernel_rfl
theorem c_pack_Reader : Go.Proofs.Tryz.prog.cellsOf t_pack_Reader = 2 := by kernel_rfl
theorem c_seq_run : Go.Proofs.Tryz.prog.cellsOf t_seq_run = 2 := by kernel_rfl
end Go.Proofs.YtaklhjodjbgmgaaGreat
end
section
set_option maxRecDepth 100000
set_option linter.unusedVariables false
namespace Go.Proofs.YtaklhjodjbgmgaaGreat
open Go.Fw Go.Proofs
def an_law19_YardAges : Ann := { esc := [], cbs := [3], draws := [(11, { ord := [0, 1, 2, 4, 5, 6, 8, 9, 10, 13, 3, 7, 11, 12, 14], nb := [], av := [], dir := [] })], loops := [(13, { mods := [(63, SlotSh.one (Sh.int IntKind.i64))], keep := [1, 2, 3, 7, 9, 10, 62] }), (28, { mods := [(107, SlotSh.one (Sh.int IntKind.i64))], keep := [1, 3, 7, 16, 105, 106] })], joins := [(27, { mods := [(16, SlotSh.one (Sh.int IntKind.i64))], keep := [1, 3, 7] })] }
def V_law19_YardAges (x0 : D) (x1 : D) (x2 : D) (x3 : D) (x4 : D) (x5 : Int) (x6 : Int) (x7 : Int) (x8 : Int) (x9 : D) (oc : Int) (late : Int) (σ : Store) (Qp : RV → Store → Prop) : Prop :=
  DCalls Tryz.prog n_law19_lives [] σ (fun (r : RV) => fun (σ' : Store) => ∃ b : Bool, (r = (.a (.one (.bool b)) : RV)) ∧ bcase (!b) (Qp (.a (.one (.bool false))) σ') (DCalls Tryz.prog n_yard_New [.agg [x0, x1, x2, x3, x4, .int .i64 x5, .int .i64 x6, .int .i64 x7, .int .i64 x8], .one .nils] σ' (fun (r1 : RV) => fun (σ'1 : Store) => ∃ d : D, ∃ n : Int, (r1 = (.tup [.one d, .one (.int .i64 n)] : RV)) ∧ bcase (n != 0) (∃ b1 : Bool, (IsNil .pt d b1) ∧ Qp (.a (.one (.bool (b1 != false)))) σ'1) (DCalls Tryz.prog n_ref10_Shape [.agg [x0, x1, x2, x3, x4, .int .i64 x5, .int .i64 x6, .int .i64 x7, .int .i64 x8], .one (.int .i64 (w64 (Int.tmod (IntKind.wrap .u64 oc) 4)))] σ'1 (fun (r2 : RV) => fun (σ'2 : Store) => ∃ d1 : D, ∃ d2 : D, ∃ d3 : D, ∃ d4 : D, (r2 = (.a (.agg [d1, d2, d3, d4]) : RV)) ∧ ∃ len : Nat, (Len d4 len) ∧ bcase ((len : Int) == 0) (Qp (.a (.one (.bool true))) σ'2) (∃ len1 : Nat, (Len d2 len1) ∧ ∃ len2 : Nat, (Len d4 len2) ∧ ∃ len3 : Nat, (Len d3 len3) ∧ ((0 : Int) ≤ (len1 : Int)) ∧ ((len1 : Int) ≤ (len1 : Int)) ∧ (((8 : Int) * (len1 : Int)) ≤ (2 ^ 48)) ∧ Fw.newObj σ'2 (.live t_int (List.replicate (Int.toNat (len1 : Int)) [.int .i64 0])) (fun (id : Nat) => fun (σ'3 : Store) => ((0 : Int) ≤ (len2 : Int)) ∧ ((len2 : Int) ≤ (len2 : Int)) ∧ (((8 : Int) * (len2 : Int)) ≤ (2 ^ 48)) ∧ Fw.newObj σ'3 (.live t_int (List.replicate (Int.toNat (len2 : Int)) [.int .i64 0])) (fun (id1 : Nat) => fun (σ'4 : Store) => ((0 : Int) ≤ (len3 : Int)) ∧ ((len3 : Int) ≤ (len3 : Int)) ∧ (((8 : Int) * (len3 : Int)) ≤ (2 ^ 48)) ∧ Fw.newObj σ'4 (.live t_int (List.replicate (Int.toNat (len3 : Int)) [.int .i64 0])) (fun (id2 : Nat) => fun (σ'5 : Store) => ∃ len4 : Nat, (Len (.osl id1 0 (Int.toNat (len2 : Int))) len4) ∧ ∃ I : Int → Store → Prop, ∃ μ : Int → Store → Nat, (I 0 σ'5) ∧ ∀ n1 : Int, ∀ σ'6 : Store, (I n1 σ'6) → bcase (decide (n1 < (len4 : Int))) (∃ len5 : Nat, (Idx Tryz.prog σ'6 (.osl id1 0 (Int.toNat (len2 : Int))) 1 len5) ∧ ((0 : Int) ≤ n1) ∧ (n1 < (len5 : Int)) ∧ storeEl [.int .i64 2] σ'6 (.osl id1 0 (Int.toNat (len2 : Int))) (Int.toNat n1) 0 (fun (σ'7 : Store) => (([[d1, d2, d3, d4], [.osl id 0 (Int.toNat (len1 : Int)), .osl id1 0 (Int.toNat (len2 : Int)), .osl id2 0 (Int.toNat (len3 : Int))]] : List (List D)) = ([[d1, d2, d3, d4], [.osl id 0 (Int.toNat (len1 : Int)), .osl id1 0 (Int.toNat (len2 : Int)), .osl id2 0 (Int.toNat (len3 : Int))]] : List (List D))) ∧ (I (w64 (n1 + 1)) σ'7) ∧ ((μ (w64 (n1 + 1)) σ'7) < (μ n1 σ'6)))) (DCalls Tryz.prog n_ref10_Orders [.agg [d1, d2, d3, d4], .agg [.osl id 0 (Int.toNat (len1 : Int)), .osl id1 0 (Int.toNat (len2 : Int)), .osl id2 0 (Int.toNat (len3 : Int))]] σ'6 (fun (r3 : RV) => fun (σ'7 : Store) => ∃ s : ByteArray, ∃ n2 : Int, (r3 = (.tup [.one (.str s), .one (.int .i64 n2)] : RV)) ∧ DCalls Tryz.prog n_ref09_Make [.one (.int .i64 (w64 ((w64 (Int.tmod (IntKind.wrap .u64 oc) 4)) + 50))), .one (.int .i64 1), .one (.int .i64 7), .one (.str s)] σ'7 (fun (r4 : RV) => fun (σ'8 : Store) => ∃ s1 : ByteArray, ∃ n3 : Int, (r4 = (.tup [.one (.str s1), .one (.int .i64 n3)] : RV)) ∧ DCalls Tryz.prog n_yard_Yard_Tick [.one d, .one (.int .i64 7)] σ'8 (fun (r5 : RV) => fun (σ'9 : Store) => (r5 = (.tup [] : RV)) ∧ DCalls Tryz.prog n_yard_Yard_Take [.one d, .one (.int .i64 (w64 (Int.tmod (IntKind.wrap .u64 oc) 4))), .one (.str s1)] σ'9 (fun (r6 : RV) => fun (σ'10 : Store) => ∃ n4 : Int, (r6 = (.a (.one (.int .i64 n4)) : RV)) ∧ bcase (n4 != 0) (Qp (.a (.one (.bool false))) σ'10) (DCalls Tryz.prog n_yard_Yard_Look [.one d] σ'10 (fun (r7 : RV) => fun (σ'11 : Store) => (r7 = (.tup [] : RV)) ∧ DCalls Tryz.prog n_yard_Yard_Tick [.one d, .one (.int .i64 (w64 (7 + (w64 (Int.tmod (IntKind.wrap .u64 late) 20)))))] σ'11 (fun (r8 : RV) => fun (σ'12 : Store) => (r8 = (.tup [] : RV)) ∧ ∀ R : Int → Store → Prop, (∀ n5 : Int, ∀ σ'13 : Store, (∃ len5 : Nat, (Len x2 len5) ∧ ∃ I1 : Int → Store → Prop, ∃ μ1 : Int → Store → Nat, (I1 0 σ'13) ∧ ∀ n6 : Int, ∀ σ'14 : Store, (I1 n6 σ'14) → bcase (decide (n6 < (len5 : Int))) (∃ len6 : Nat, (Idx Tryz.prog σ'14 x2 2 len6) ∧ ((0 : Int) ≤ n6) ∧ (n6 < (len6 : Int)) ∧ ∃ row : List D, (Row σ'14 x2 (Int.toNat n6) row) ∧ ∃ n7 : Int, ∃ n8 : Int, ((List.take 2 row) = ([.int .i64 n7, .int .i64 n8] : List D)) ∧ ∃ len7 : Nat, (Idx Tryz.prog σ'14 x0 3 len7) ∧ ((0 : Int) ≤ n7) ∧ (n7 < (len7 : Int)) ∧ ∃ row1 : List D, (Row σ'14 x0 (Int.toNat n7) row1) ∧ ∃ n9 : Int, ((List.take 1 (List.drop 1 row1)) = ([.int .i64 n9] : List D)) ∧ bcase (n9 == (w64 (Int.tmod (IntKind.wrap .u64 oc) 4))) (DCalls Tryz.prog n_yard_Yard_Shows [.one d, .one (.int .i64 n6)] σ'14 (fun (r9 : RV) => fun (σ'15 : Store) => ∃ n10 : Int, (r9 = (.a (.one (.int .i64 n10)) : RV)) ∧ bcase (n10 != n5) (Qp (.a (.one (.bool false))) σ'15) (∃ len8 : Nat, (Idx Tryz.prog σ'15 x0 3 len8) ∧ ((0 : Int) ≤ n7) ∧ (n7 < (len8 : Int)) ∧ ∃ row2 : List D, (Row σ'15 x0 (Int.toNat n7) row2) ∧ ∃ n11 : Int, ((List.take 1 (List.drop 1 row2)) = ([.int .i64 n11] : List D)) ∧ bcase (n11 != (w64 (Int.tmod (IntKind.wrap .u64 oc) 4))) (DCalls Tryz.prog n_yard_Yard_Shows [.one d, .one (.int .i64 n6)] σ'15 (fun (r10 : RV) => fun (σ'16 : Store) => ∃ n12 : Int, (r10 = (.a (.one (.int .i64 n12)) : RV)) ∧ bcase (n12 != 0) (Qp (.a (.one (.bool false))) σ'16) ((I1 (w64 (n6 + 1)) σ'16) ∧ ((μ1 (w64 (n6 + 1)) σ'16) < (μ1 n6 σ'14))))) ((I1 (w64 (n6 + 1)) σ'15) ∧ ((μ1 (w64 (n6 + 1)) σ'15) < (μ1 n6 σ'14)))))) (∃ len8 : Nat, (Idx Tryz.prog σ'14 x0 3 len8) ∧ ((0 : Int) ≤ n7) ∧ (n7 < (len8 : Int)) ∧ ∃ row2 : List D, (Row σ'14 x0 (Int.toNat n7) row2) ∧ ∃ n10 : Int, ((List.take 1 (List.drop 1 row2)) = ([.int .i64 n10] : List D)) ∧ bcase (n10 != (w64 (Int.tmod (IntKind.wrap .u64 oc) 4))) (DCalls Tryz.prog n_yard_Yard_Shows [.one d, .one (.int .i64 n6)] σ'14 (fun (r9 : RV) => fun (σ'15 : Store) => ∃ n11 : Int, (r9 = (.a (.one (.int .i64 n11)) : RV)) ∧ bcase (n11 != 0) (Qp (.a (.one (.bool false))) σ'15) ((I1 (w64 (n6 + 1)) σ'15) ∧ ((μ1 (w64 (n6 + 1)) σ'15) < (μ1 n6 σ'14))))) ((I1 (w64 (n6 + 1)) σ'14) ∧ ((μ1 (w64 (n6 + 1)) σ'14) < (μ1 n6 σ'14))))) (Qp (.a (.one (.bool true))) σ'14)) → R n5 σ'13) → bcase (decide ((w64 (Int.tmod (IntKind.wrap .u64 late) 20)) > x5)) (R 0 σ'12) (R 2 σ'12))))))))))))))))))
theorem W_law19_YardAges (x0 : D) (x1 : D) (x2 : D) (x3 : D) (x4 : D) (x5 : Int) (x6 : Int) (x7 : Int) (x8 : Int) (x9 : D) (oc : Int) (late : Int) (σ : Store) (Qp : RV → Store → Prop) (h : V_law19_YardAges x0 x1 x2 x3 x4 x5 x6 x7 x8 x9 oc late σ Qp) : DCalls Tryz.prog n_law19_YardAges [.agg [x0, x1, x2, x3, x4, .int .i64 x5, .int .i64 x6, .int .i64 x7, .int .i64 x8, x9], .one (.int .i64 oc), .one (.int .i64 late)] σ Qp :=
  dcalls_of_body mixed (by kernel_rfl) Tryz.func3 an_law19_YardAges ((show V_law19_YardAges x0 x1 x2 x3 x4 x5 x6 x7 x8 x9 oc late σ Qp = dbody Tryz.prog Tryz.f3 an_law19_YardAges [.agg [x0, x1, x2, x3, x4, .int .i64 x5, .int .i64 x6, .int .i64 x7, .int .i64 x8, x9], .one (.int .i64 oc), .one (.int .i64 late)] σ Qp by kernel_rfl) ▸ h)
def an_ref10_Orders : Ann := { esc := [], cbs := [2, 3], draws := [], loops := [], joins := [] }
def V_ref10_Orders (h0 : D) (h1 : D) (h2 : D) (h3 : D) (o0 : D) (o1 : D) (o2 : D) (σ : Store) (Qp : RV → Store → Prop) : Prop :=
  ∃ len : Nat, (Len h1 len) ∧ DCalls Tryz.prog n_ref10_right [.one o0, .one (.int .i64 (len : Int)), .one (.int .i64 2)] σ (fun (r : RV) => fun (σ' : Store) => ∃ b : Bool, (r = (.a (.one (.bool b)) : RV)) ∧ bcase (!b) (Qp (.tup [.one (.str (ByteArray.mk (List.toArray []))), .one (.int .i64 32)]) σ') (∃ len1 : Nat, (Len h3 len1) ∧ DCalls Tryz.prog n_ref10_right [.one o1, .one (.int .i64 (len1 : Int)), .one (.int .i64 2)] σ' (fun (r1 : RV) => fun (σ'1 : Store) => ∃ b1 : Bool, (r1 = (.a (.one (.bool b1)) : RV)) ∧ bcase (!b1) (Qp (.tup [.one (.str (ByteArray.mk (List.toArray []))), .one (.int .i64 32)]) σ'1) (∃ len2 : Nat, (Len h2 len2) ∧ DCalls Tryz.prog n_ref10_right [.one o2, .one (.int .i64 (len2 : Int)), .one (.int .i64 1)] σ'1 (fun (r2 : RV) => fun (σ'2 : Store) => ∃ b2 : Bool, (r2 = (.a (.one (.bool b2)) : RV)) ∧ bcase (!b2) (Qp (.tup [.one (.str (ByteArray.mk (List.toArray []))), .one (.int .i64 32)]) σ'2) (Fw.newObj σ'2 (.live t_sl_int [[o0], [o1], [o2]]) (fun (id : Nat) => fun (σ'3 : Store) => DCalls Tryz.prog n_ref10_bytes [.one (.int .i64 2), .one (.osl id 0 3)] σ'3 (fun (r3 : RV) => fun (σ'4 : Store) => ∃ s : ByteArray, (r3 = (.a (.one (.str s)) : RV)) ∧ Qp (.tup [.one (.str s), .one (.int .i64 0)]) σ'4))))))))
theorem W_ref10_Orders (h0 : D) (h1 : D) (h2 : D) (h3 : D) (o0 : D) (o1 : D) (o2 : D) (σ : Store) (Qp : RV → Store → Prop) (h : V_ref10_Orders h0 h1 h2 h3 o0 o1 o2 σ Qp) : DCalls Tryz.prog n_ref10_Orders [.agg [h0, h1, h2, h3], .agg [o0, o1, o2]] σ Qp :=
  dcalls_of_body mixed (by kernel_rfl) Tryz.func11 an_ref10_Orders ((show V_ref10_Orders h0 h1 h2 h3 o0 o1 o2 σ Qp = dbody Tryz.prog Tryz.f11 an_ref10_Orders [.agg [h0, h1, h2, h3], .agg [o0, o1, o2]] σ Qp by kernel_rfl) ▸ h)
def an_yard_Yard_Look : Ann := { esc := [], cbs := [], draws := [(4, { ord := [0, 1, 2, 3, 4, 5, 6, 7, 8, 9, 10, 11], nb := [], av := [], dir := [] })], loops := [(1, { mods := [(8, SlotSh.one (Sh.int IntKind.i64))], keep := [0, 7] })], joins := [] }
def V_yard_Yard_Look (y : D) (σ : Store) (Qp : RV → Store → Prop) : Prop :=
  (NotNil y) ∧ ∃ s : D, ∃ i : Nat, ∃ off : Nat, (y = (.el s i off : D)) ∧ ∃ row : List D, (Row σ s i row) ∧ ∃ d : D, ((List.take 1 (List.drop (off + 12) row)) = ([d] : List D)) ∧ ∃ len : Nat, (Len d len) ∧ ∃ I : Int → Store → Prop, ∃ μ : Int → Store → Nat, (I 0 σ) ∧ ∀ n : Int, ∀ σ' : Store, (I n σ') → bcase (decide (n < (len : Int))) (DCalls Tryz.prog n_yard_Yard_Shows [.one y, .one (.int .i64 n)] σ' (fun (r : RV) => fun (σ'1 : Store) => ∃ n1 : Int, (r = (.a (.one (.int .i64 n1)) : RV)) ∧ bcase (n1 != 0) ((NotNil y) ∧ ∃ s1 : D, ∃ i1 : Nat, ∃ off1 : Nat, (y = (.el s1 i1 off1 : D)) ∧ ∃ row1 : List D, (Row σ'1 s1 i1 row1) ∧ ∃ d1 : D, ((List.take 1 (List.drop (off1 + 12) row1)) = ([d1] : List D)) ∧ (NotNil y) ∧ ∃ s2 : D, ∃ i2 : Nat, ∃ off2 : Nat, (y = (.el s2 i2 off2 : D)) ∧ ∃ row2 : List D, (Row σ'1 s2 i2 row2) ∧ ∃ n2 : Int, ((List.take 1 (List.drop (off2 + 15) row2)) = ([.int .i64 n2] : List D)) ∧ ∃ len1 : Nat, (Idx Tryz.prog σ'1 d1 2 len1) ∧ ((0 : Int) ≤ n) ∧ (n < (len1 : Int)) ∧ storeEl [.int .i64 n2] σ'1 d1 (Int.toNat n) 1 (fun (σ'2 : Store) => (I (w64 (n + 1)) σ'2) ∧ ((μ (w64 (n + 1)) σ'2) < (μ n σ')))) ((I (w64 (n + 1)) σ'1) ∧ ((μ (w64 (n + 1)) σ'1) < (μ n σ'))))) (Qp (.tup []) σ')
theorem W_yard_Yard_Look (y : D) (σ : Store) (Qp : RV → Store → Prop) (h : V_yard_Yard_Look y σ Qp) : DCalls Tryz.prog n_yard_Yard_Look [.one y] σ Qp :=
  dcalls_of_body mixed (by kernel_rfl) Tryz.func15 an_yard_Yard_Look ((show V_yard_Yard_Look y σ Qp = dbody Tryz.prog Tryz.f15 an_yard_Yard_Look [.one y] σ Qp by kernel_rfl) ▸ h)
def an_yard_Yard_Move : Ann := { esc := [], cbs := [], draws := [(4, { ord := [0, 1, 2, 3, 4, 5, 6, 7, 8, 9, 10, 11, 12, 13, 14, 15, 16, 17, 18, 19, 20, 21, 22], nb := [], av := [], dir := [] }), (7, { ord := [0, 1, 2, 3, 4, 5, 6, 7, 8, 9, 10, 11, 12], nb := [], av := [], dir := [] }), (8, { ord := [0, 1, 2, 3, 4, 5, 6, 7, 8, 9, 10, 11, 12, 13, 14, 15, 16, 17, 18, 19, 20, 21, 22, 23, 24, 25, 26, 27, 28, 29, 30, 31, 32, 33, 34], nb := [], av := [], dir := [] })], loops := [], joins := [(7, { mods := [], keep := [0, 5, 6, 7] }), (10, { mods := [], keep := [0, 5, 6, 7] })] }
def V_yard_Yard_Move (y : D) (t : Int) (σ : Store) (Qp : RV → Store → Prop) : Prop :=
  DCalls Tryz.prog n_yard_Yard_train [.one y, .one (.int .i64 t)] σ (fun (r : RV) => fun (σ' : Store) => ∃ d : D, (r = (.a (.one d) : RV)) ∧ ∃ b : Bool, (IsNil .pt d b) ∧ bcase (b != false) (Qp (.a (.one (.int .i64 30))) σ') ((NotNil y) ∧ ∃ s : D, ∃ i : Nat, ∃ off : Nat, (y = (.el s i off : D)) ∧ ∃ row : List D, (Row σ' s i row) ∧ ∃ d1 : D, ((List.take 1 (List.drop ((off + 1) + 1) row)) = ([d1] : List D)) ∧ (NotNil d) ∧ ∃ s1 : D, ∃ i1 : Nat, ∃ off1 : Nat, (d = (.el s1 i1 off1 : D)) ∧ ∃ row1 : List D, (Row σ' s1 i1 row1) ∧ ∃ d2 : D, ((List.take 1 (List.drop (off1 + 0) row1)) = ([d2] : List D)) ∧ ∃ len : Nat, (Idx Tryz.prog σ' d2 1 len) ∧ ((0 : Int) ≤ 0) ∧ ((0 : Int) < (len : Int)) ∧ ∃ row2 : List D, (Row σ' d2 0 row2) ∧ ∃ n : Int, ((List.take 1 row2) = ([.int .i64 n] : List D)) ∧ (NotNil d) ∧ ∃ s2 : D, ∃ i2 : Nat, ∃ off2 : Nat, (d = (.el s2 i2 off2 : D)) ∧ ∃ row3 : List D, (Row σ' s2 i2 row3) ∧ ∃ n1 : Int, ((List.take 1 (List.drop (off2 + 1) row3)) = ([.int .i64 n1] : List D)) ∧ DCalls Tryz.prog n_topo_Next [.one d1, .one (.int .i64 n), .one (.int .i64 n1)] σ' (fun (r1 : RV) => fun (σ'1 : Store) => ∃ n2 : Int, ∃ n3 : Int, ∃ b1 : Bool, (r1 = (.tup [.one (.int .i64 n2), .one (.int .i64 n3), .one (.bool b1)] : RV)) ∧ ∀ R : Store → Prop, (∀ σ'2 : Store, (∀ R1 : Store → Prop, (∀ σ'3 : Store, ((NotNil d) ∧ ∃ s3 : D, ∃ i3 : Nat, ∃ off3 : Nat, (d = (.el s3 i3 off3 : D)) ∧ ∃ row4 : List D, (Row σ'3 s3 i3 row4) ∧ ∃ d3 : D, ((List.take 1 (List.drop (off3 + 0) row4)) = ([d3] : List D)) ∧ Fw.newObj σ'3 (.live t_int [[.int .i64 n2]]) (fun (id : Nat) => fun (σ'4 : Store) => DCalls Tryz.prog n_slices_Insert_int [.one d3, .one (.int .i64 0), .one (.osl id 0 1)] σ'4 (fun (r2 : RV) => fun (σ'5 : Store) => ∃ d4 : D, (r2 = (.a (.one d4) : RV)) ∧ DCalls Tryz.prog n_yard_Yard_way [.one y, .one (.int .i64 n2), .one (.int .i64 n3)] σ'5 (fun (r3 : RV) => fun (σ'6 : Store) => ∃ n4 : Int, (r3 = (.a (.one (.int .i64 n4)) : RV)) ∧ (NotNil d) ∧ ∃ s4 : D, ∃ i4 : Nat, ∃ off4 : Nat, (d = (.el s4 i4 off4 : D)) ∧ storeEl [d4] σ'6 s4 i4 (off4 + 0) (fun (σ'7 : Store) => (NotNil d) ∧ ∃ s5 : D, ∃ i5 : Nat, ∃ off5 : Nat, (d = (.el s5 i5 off5 : D)) ∧ storeEl [.int .i64 n4] σ'7 s5 i5 (off5 + 1) (fun (σ'8 : Store) => Qp (.a (.one (.int .i64 0))) σ'8)))))) → R1 σ'3) → (NotNil d) ∧ ∃ s3 : D, ∃ i3 : Nat, ∃ off3 : Nat, (d = (.el s3 i3 off3 : D)) ∧ ∃ row4 : List D, (Row σ'2 s3 i3 row4) ∧ ∃ d3 : D, ((List.take 1 (List.drop (off3 + 0) row4)) = ([d3] : List D)) ∧ ∃ len1 : Nat, (Idx Tryz.prog σ'2 d3 1 len1) ∧ ((0 : Int) ≤ 0) ∧ ((0 : Int) < (len1 : Int)) ∧ ∃ row5 : List D, (Row σ'2 d3 0 row5) ∧ ∃ n4 : Int, ((List.take 1 row5) = ([.int .i64 n4] : List D)) ∧ (NotNil d) ∧ ∃ s4 : D, ∃ i4 : Nat, ∃ off4 : Nat, (d = (.el s4 i4 off4 : D)) ∧ ∃ row6 : List D, (Row σ'2 s4 i4 row6) ∧ ∃ n5 : Int, ((List.take 1 (List.drop (off4 + 1) row6)) = ([.int .i64 n5] : List D)) ∧ DCalls Tryz.prog n_yard_Yard_signal [.one y, .one (.int .i64 n4), .one (.int .i64 n5)] σ'2 (fun (r2 : RV) => fun (σ'3 : Store) => ∃ n6 : Int, (r2 = (.a (.one (.int .i64 n6)) : RV)) ∧ bcase (decide (n6 ≥ 0)) ((NotNil y) ∧ ∃ s5 : D, ∃ i5 : Nat, ∃ off5 : Nat, (y = (.el s5 i5 off5 : D)) ∧ ∃ row7 : List D, (Row σ'3 s5 i5 row7) ∧ ∃ d4 : D, ((List.take 1 (List.drop (off5 + 12) row7)) = ([d4] : List D)) ∧ ∃ len2 : Nat, (Idx Tryz.prog σ'3 d4 2 len2) ∧ ((0 : Int) ≤ n6) ∧ (n6 < (len2 : Int)) ∧ ∃ row8 : List D, (Row σ'3 d4 (Int.toNat n6) row8) ∧ ∃ n7 : Int, ((List.take 1 (List.drop 1 row8)) = ([.int .i64 n7] : List D)) ∧ bcase (decide (n7 < 0)) (Qp (.a (.one (.int .i64 29))) σ'3) ((NotNil y) ∧ ∃ s6 : D, ∃ i6 : Nat, ∃ off6 : Nat, (y = (.el s6 i6 off6 : D)) ∧ ∃ row9 : List D, (Row σ'3 s6 i6 row9) ∧ ∃ n8 : Int, ((List.take 1 (List.drop (off6 + 15) row9)) = ([.int .i64 n8] : List D)) ∧ (NotNil y) ∧ ∃ s7 : D, ∃ i7 : Nat, ∃ off7 : Nat, (y = (.el s7 i7 off7 : D)) ∧ ∃ row10 : List D, (Row σ'3 s7 i7 row10) ∧ ∃ d5 : D, ((List.take 1 (List.drop (off7 + 12) row10)) = ([d5] : List D)) ∧ ∃ len3 : Nat, (Idx Tryz.prog σ'3 d5 2 len3) ∧ ((0 : Int) ≤ n6) ∧ (n6 < (len3 : Int)) ∧ ∃ row11 : List D, (Row σ'3 d5 (Int.toNat n6) row11) ∧ ∃ n9 : Int, ((List.take 1 (List.drop 1 row11)) = ([.int .i64 n9] : List D)) ∧ (NotNil y) ∧ ∃ s8 : D, ∃ i8 : Nat, ∃ off8 : Nat, (y = (.el s8 i8 off8 : D)) ∧ ∃ row12 : List D, (Row σ'3 s8 i8 row12) ∧ ∃ n10 : Int, ((List.take 1 (List.drop (((off8 + 1) + 5) + 1) row12)) = ([.int .i64 n10] : List D)) ∧ bcase (decide ((w64 (n8 - n9)) > n10)) (Qp (.a (.one (.int .i64 29))) σ'3) (R1 σ'3))) (R1 σ'3))) → R σ'2) → (NotNil d) ∧ ∃ s3 : D, ∃ i3 : Nat, ∃ off3 : Nat, (d = (.el s3 i3 off3 : D)) ∧ ∃ row4 : List D, (Row σ'1 s3 i3 row4) ∧ ∃ n4 : Int, ((List.take 1 (List.drop (off3 + 1) row4)) = ([.int .i64 n4] : List D)) ∧ bcase (decide (n4 < 0)) (Qp (.a (.one (.int .i64 29))) σ'1) (bcase (!b1) (Qp (.a (.one (.int .i64 29))) σ'1) (R σ'1)))))
theorem W_yard_Yard_Move (y : D) (t : Int) (σ : Store) (Qp : RV → Store → Prop) (h : V_yard_Yard_Move y t σ Qp) : DCalls Tryz.prog n_yard_Yard_Move [.one y, .one (.int .i64 t)] σ Qp :=
  dcalls_of_body mixed (by kernel_rfl) Tryz.func19 an_yard_Yard_Move ((show V_yard_Yard_Move y t σ Qp = dbody Tryz.prog Tryz.f19 an_yard_Yard_Move [.one y, .one (.int .i64 t)] σ Qp by kernel_rfl) ▸ h)
def an_law19_station : Ann := { esc := [], cbs := [], draws := [], loops := [], joins := [], frz := [6, 11, 14, 17, 20, 22] }
def V_law19_station (σ : Store) (Qp : RV → Store → Prop) : Prop :=
  Qp (.a (.agg [.sl 3 [[.int .i64 0, .int .i64 0, .int .i64 0], [.int .i64 1, .int .i64 0, .int .i64 0], [.int .i64 0, .int .i64 0, .int .i64 0], [.int .i64 0, .int .i64 0, .int .i64 0], [.int .i64 0, .int .i64 0, .int .i64 1]], .sl 4 [[.int .i64 0, .int .i64 1, .int .i64 1, .int .i64 0], [.int .i64 1, .int .i64 1, .int .i64 2, .int .i64 0], [.int .i64 1, .int .i64 2, .int .i64 3, .int .i64 0], [.int .i64 2, .int .i64 1, .int .i64 4, .int .i64 0]], .sl 2 [[.int .i64 0, .int .i64 1], [.int .i64 2, .int .i64 1]], .nils, .sl 6 [[.int .i64 0, .int .i64 1, .sl 3 [[.int .i64 1, .int .i64 0, .int .i64 1], [.int .i64 2, .int .i64 0, .int .i64 1]], .nils, .nils, .bool false], [.int .i64 1, .int .i64 (-1), .sl 3 [[.int .i64 4, .int .i64 0, .int .i64 1]], .nils, .nils, .bool false]], .int .i64 2, .int .i64 1, .int .i64 4, .int .i64 1000])) σ
theorem W_law19_station (σ : Store) (Qp : RV → Store → Prop) (h : V_law19_station σ Qp) : DCalls Tryz.prog n_law19_station [] σ Qp :=
  dcalls_of_body mixed (by kernel_rfl) Tryz.func27 an_law19_station ((show V_law19_station σ Qp = dbody Tryz.prog Tryz.f27 an_law19_station [] σ Qp by kernel_rfl) ▸ h)
def an_slices_Clone_Signal : Ann := { esc := [], cbs := [], draws := [], loops := [], joins := [] }
def V_slices_Clone_Signal (s : D) (σ : Store) (Qp : RV → Store → Prop) : Prop :=
  ∃ b : Bool, (IsNil .sl s b) ∧ bcase (b != false) (Qp (.a (.one .nils)) σ) (Fw.newObj σ (.live t_Signal []) (fun (id : Nat) => fun (σ' : Store) => appendTo Tryz.prog σ' t_Signal 16 (.osl id 0 0) s (fun (d : D) => fun (σ'1 : Store) => Qp (.a (.one d)) σ'1)))
theorem W_slices_Clone_Signal (s : D) (σ : Store) (Qp : RV → Store → Prop) (h : V_slices_Clone_Signal s σ Qp) : DCalls Tryz.prog n_slices_Clone_Signal [.one s] σ Qp :=
  dcalls_of_body mixed (by kernel_rfl) Tryz.func31 an_slices_Clone_Signal ((show V_slices_Clone_Signal s σ Qp = dbody Tryz.prog Tryz.f31 an_slices_Clone_Signal [.one s] σ Qp by kernel_rfl) ▸ h)
def an_slices_Repeat_yard_lamp : Ann := { esc := [], cbs := [], draws := [(9, { ord := [0, 1, 2, 3, 4, 5, 6, 7, 8, 9], nb := [], av := [], dir := [] })], loops := [(8, { mods := [(8, SlotSh.one (Sh.int IntKind.i64))], keep := [7] })], joins := [(3, { mods := [], keep := [0, 1] }), (6, { mods := [], keep := [0, 6] })] }
def V_slices_Repeat_yard_lamp (x : D) (count : Int) (σ : Store) (Qp : RV → Store → Prop) : Prop :=
  ∀ R : Store → Prop, (∀ σ' : Store, (∃ len : Nat, (Len x len) ∧ DCalls Tryz.prog n_math_bits_Mul [.one (.int .u64 (IntKind.wrap .u64 (len : Int))), .one (.int .u64 (IntKind.wrap .u64 count))] σ' (fun (r : RV) => fun (σ'1 : Store) => ∃ n : Int, ∃ n1 : Int, (r = (.tup [.one (.int .u64 n), .one (.int .u64 n1)] : RV)) ∧ ∀ R1 : Store → Prop, (∀ σ'2 : Store, (((0 : Int) ≤ (w64 n1)) ∧ ((w64 n1) ≤ (w64 n1)) ∧ (((16 : Int) * (w64 n1)) ≤ (2 ^ 48)) ∧ Fw.newObj σ'2 (.live t_yard_lamp (List.replicate (Int.toNat (w64 n1)) [.int .i64 0, .int .i64 0])) (fun (id : Nat) => fun (σ'3 : Store) => copyTo Tryz.prog σ'3 t_yard_lamp (.osl id 0 (Int.toNat (w64 n1))) x (fun (n2 : Int) => fun (σ'4 : Store) => ∃ I : Int → Store → Prop, ∃ μ : Int → Store → Nat, (I n2 σ'4) ∧ ∀ n3 : Int, ∀ σ'5 : Store, (I n3 σ'5) → ∃ len1 : Nat, (Len (.osl id 0 (Int.toNat (w64 n1))) len1) ∧ bcase (decide (n3 < (len1 : Int))) (∃ len2 : Nat, (IdxN Tryz.prog σ'5 (.osl id 0 (Int.toNat (w64 n1))) 2 len2) ∧ ((0 : Int) ≤ n3) ∧ (n3 ≤ (len2 : Int)) ∧ ∃ len3 : Nat, (IdxN Tryz.prog σ'5 (.osl id 0 (Int.toNat (w64 n1))) 2 len3) ∧ ((0 : Int) ≤ 0) ∧ ((0 : Int) ≤ n3) ∧ (n3 ≤ (len3 : Int)) ∧ copyTo Tryz.prog σ'5 t_yard_lamp (.osl id (0 + (Int.toNat n3)) (len2 - (Int.toNat n3))) (.osl id 0 ((Int.toNat n3) - 0)) (fun (n4 : Int) => fun (σ'6 : Store) => (I (w64 (n3 + n4)) σ'6) ∧ ((μ (w64 (n3 + n4)) σ'6) < (μ n3 σ'5)))) (Qp (.a (.one (.osl id 0 (Int.toNat (w64 n1))))) σ'5)))) → R1 σ'2) → bcase (decide (n > 0)) False (bcase (decide (n1 > 9223372036854775807)) False (R1 σ'1)))) → R σ') → bcase (decide (count < 0)) False (R σ)
theorem W_slices_Repeat_yard_lamp (x : D) (count : Int) (σ : Store) (Qp : RV → Store → Prop) (h : V_slices_Repeat_yard_lamp x count σ Qp) : DCalls Tryz.prog n_slices_Repeat_yard_lamp [.one x, .one (.int .i64 count)] σ Qp :=
  dcalls_of_body mixed (by kernel_rfl) Tryz.func35 an_slices_Repeat_yard_lamp ((show V_slices_Repeat_yard_lamp x count σ Qp = dbody Tryz.prog Tryz.f35 an_slices_Repeat_yard_lamp [.one x, .one (.int .i64 count)] σ Qp by kernel_rfl) ▸ h)
def an_ref10_right : Ann := { esc := [], cbs := [], draws := [], loops := [(2, { mods := [(11, SlotSh.one (Sh.int IntKind.i64))], keep := [0, 1, 2, 9, 10] })], joins := [] }
def V_ref10_right (l : D) (n : Int) (most : Int) (σ : Store) (Qp : RV → Store → Prop) : Prop :=
  ∃ len : Nat, (Len l len) ∧ ∃ I : Int → Store → Prop, ∃ μ : Int → Store → Nat, (I 0 σ) ∧ ∀ n1 : Int, ∀ σ' : Store, (I n1 σ') → bcase (decide (n1 < (len : Int))) (∃ len1 : Nat, (Idx Tryz.prog σ' l 1 len1) ∧ ((0 : Int) ≤ n1) ∧ (n1 < (len1 : Int)) ∧ ∃ row : List D, (Row σ' l (Int.toNat n1) row) ∧ ∃ n2 : Int, ((List.take 1 row) = ([.int .i64 n2] : List D)) ∧ bcase (decide (n2 < 0)) (Qp (.a (.one (.bool false))) σ') (bcase (decide (n2 > most)) (Qp (.a (.one (.bool false))) σ') ((I (w64 (n1 + 1)) σ') ∧ ((μ (w64 (n1 + 1)) σ') < (μ n1 σ'))))) (∃ len1 : Nat, (Len l len1) ∧ Qp (.a (.one (.bool ((len1 : Int) == n)))) σ')
theorem W_ref10_right (l : D) (n : Int) (most : Int) (σ : Store) (Qp : RV → Store → Prop) (h : V_ref10_right l n most σ Qp) : DCalls Tryz.prog n_ref10_right [.one l, .one (.int .i64 n), .one (.int .i64 most)] σ Qp :=
  dcalls_of_body mixed (by kernel_rfl) Tryz.func39 an_ref10_right ((show V_ref10_right l n most σ Qp = dbody Tryz.prog Tryz.f39 an_ref10_right [.one l, .one (.int .i64 n), .one (.int .i64 most)] σ Qp by kernel_rfl) ▸ h)
def an_ref01_Writer_Done : Ann := { esc := [], cbs := [], draws := [(2, { ord := [0, 1, 2, 3, 4, 5], nb := [], av := [], dir := [] })], loops := [], joins := [] }
def V_ref01_Writer_Done (w : D) (σ : Store) (Qp : RV → Store → Prop) : Prop :=
  (NotNil w) ∧ ∃ s : D, ∃ i : Nat, ∃ off : Nat, (w = (.el s i off : D)) ∧ ∃ row : List D, (Row σ s i row) ∧ ∃ n : Int, ((List.take 1 (List.drop (off + 2) row)) = ([.int .i64 n] : List D)) ∧ bcase (n != 0) ((NotNil w) ∧ ∃ s1 : D, ∃ i1 : Nat, ∃ off1 : Nat, (w = (.el s1 i1 off1 : D)) ∧ ∃ row1 : List D, (Row σ s1 i1 row1) ∧ ∃ n1 : Int, ((List.take 1 (List.drop (off1 + 2) row1)) = ([.int .i64 n1] : List D)) ∧ Qp (.tup [.one (.str (ByteArray.mk (List.toArray []))), .one (.int .i64 n1)]) σ) ((NotNil w) ∧ ∃ s1 : D, ∃ i1 : Nat, ∃ off1 : Nat, (w = (.el s1 i1 off1 : D)) ∧ ∃ row1 : List D, (Row σ s1 i1 row1) ∧ ∃ d : D, ((List.take 1 (List.drop (off1 + 0) row1)) = ([d] : List D)) ∧ ∃ b : ByteArray, (Fw.Rows Tryz.prog σ t_uint8 d (bytesD b)) ∧ Qp (.tup [.one (.str b), .one (.int .i64 0)]) σ)
theorem W_ref01_Writer_Done (w : D) (σ : Store) (Qp : RV → Store → Prop) (h : V_ref01_Writer_Done w σ Qp) : DCalls Tryz.prog n_ref01_Writer_Done [.one w] σ Qp :=
  dcalls_of_body mixed (by kernel_rfl) Tryz.func43 an_ref01_Writer_Done ((show V_ref01_Writer_Done w σ Qp = dbody Tryz.prog Tryz.f43 an_ref01_Writer_Done [.one w] σ Qp by kernel_rfl) ▸ h)
def an_link_Receiver_Take : Ann := { esc := [], cbs := [], draws := [], loops := [], joins := [] }
def V_link_Receiver_Take (r : D) (now : Int) (text : ByteArray) (σ : Store) (Qp : RV → Store → Prop) : Prop :=
  DCalls Tryz.prog n_link_Read [.one (.str text)] σ (fun (r1 : RV) => fun (σ' : Store) => ∃ n : Int, ∃ n1 : Int, ∃ n2 : Int, ∃ s : ByteArray, ∃ n3 : Int, (r1 = (.tup [.one (.int .i64 n), .one (.int .i64 n1), .one (.int .i64 n2), .one (.str s), .one (.int .i64 n3)] : RV)) ∧ bcase (n3 != 0) (Qp (.tup [.one (.str (ByteArray.mk (List.toArray []))), .one (.int .i64 n3)]) σ') ((NotNil r) ∧ ∃ s1 : D, ∃ i : Nat, ∃ off : Nat, (r = (.el s1 i off : D)) ∧ ∃ row : List D, (Row σ' s1 i row) ∧ ∃ n4 : Int, ((List.take 1 (List.drop (off + 3) row)) = ([.int .i64 n4] : List D)) ∧ bcase (n != n4) (Qp (.tup [.one (.str (ByteArray.mk (List.toArray []))), .one (.int .i64 16)]) σ') (bcase (decide (n2 > now)) (Qp (.tup [.one (.str (ByteArray.mk (List.toArray []))), .one (.int .i64 19)]) σ') ((NotNil r) ∧ ∃ s2 : D, ∃ i1 : Nat, ∃ off1 : Nat, (r = (.el s2 i1 off1 : D)) ∧ ∃ row1 : List D, (Row σ' s2 i1 row1) ∧ ∃ n5 : Int, ((List.take 1 (List.drop (off1 + 4) row1)) = ([.int .i64 n5] : List D)) ∧ bcase (decide ((w64 (now - n2)) > n5)) (Qp (.tup [.one (.str (ByteArray.mk (List.toArray []))), .one (.int .i64 17)]) σ') ((NotNil r) ∧ ∃ s3 : D, ∃ i2 : Nat, ∃ off2 : Nat, (r = (.el s3 i2 off2 : D)) ∧ ∃ row2 : List D, (Row σ' s3 i2 row2) ∧ ∃ n6 : Int, ((List.take 1 (List.drop ((off2 + 0) + 0) row2)) = ([.int .i64 n6] : List D)) ∧ bcase (decide (n2 ≤ n6)) (Qp (.tup [.one (.str (ByteArray.mk (List.toArray []))), .one (.int .i64 18)]) σ') ((NotNil r) ∧ ∃ s4 : D, ∃ i3 : Nat, ∃ off3 : Nat, (r = (.el s4 i3 off3 : D)) ∧ DCalls Tryz.prog n_link_record_note [.one (.el s4 i3 (off3 + 0)), .one (.int .i64 n1), .one (.int .i64 n2)] σ' (fun (r2 : RV) => fun (σ'1 : Store) => (r2 = (.tup [] : RV)) ∧ Qp (.tup [.one (.str s), .one (.int .i64 0)]) σ'1)))))))
theorem W_link_Receiver_Take (r : D) (now : Int) (text : ByteArray) (σ : Store) (Qp : RV → Store → Prop) (h : V_link_Receiver_Take r now text σ Qp) : DCalls Tryz.prog n_link_Receiver_Take [.one r, .one (.int .i64 now), .one (.str text)] σ Qp :=
  dcalls_of_body mixed (by kernel_rfl) Tryz.func47 an_link_Receiver_Take ((show V_link_Receiver_Take r now text σ Qp = dbody Tryz.prog Tryz.f47 an_link_Receiver_Take [.one r, .one (.int .i64 now), .one (.str text)] σ Qp by kernel_rfl) ▸ h)
def an_yard_Yard_train : Ann := { esc := [], cbs := [], draws := [], loops := [], joins := [] }
def V_yard_Yard_train (y : D) (t : Int) (σ : Store) (Qp : RV → Store → Prop) : Prop :=
  bcase (decide (t < 0)) (Qp (.a (.one .nilp)) σ) ((NotNil y) ∧ ∃ s : D, ∃ i : Nat, ∃ off : Nat, (y = (.el s i off : D)) ∧ ∃ row : List D, (Row σ s i row) ∧ ∃ d : D, ((List.take 1 (List.drop (off + 14) row)) = ([d] : List D)) ∧ ∃ len : Nat, (Len d len) ∧ bcase (decide (t ≥ (len : Int))) (Qp (.a (.one .nilp)) σ) ((NotNil y) ∧ ∃ s1 : D, ∃ i1 : Nat, ∃ off1 : Nat, (y = (.el s1 i1 off1 : D)) ∧ ∃ row1 : List D, (Row σ s1 i1 row1) ∧ ∃ d1 : D, ((List.take 1 (List.drop (off1 + 14) row1)) = ([d1] : List D)) ∧ ∃ len1 : Nat, (Idx Tryz.prog σ d1 2 len1) ∧ ((0 : Int) ≤ t) ∧ (t < (len1 : Int)) ∧ Qp (.a (.one (.el d1 (Int.toNat t) 0))) σ))
theorem W_yard_Yard_train (y : D) (t : Int) (σ : Store) (Qp : RV → Store → Prop) (h : V_yard_Yard_train y t σ Qp) : DCalls Tryz.prog n_yard_Yard_train [.one y, .one (.int .i64 t)] σ Qp :=
  dcalls_of_body mixed (by kernel_rfl) Tryz.func51 an_yard_Yard_train ((show V_yard_Yard_train y t σ Qp = dbody Tryz.prog Tryz.f51 an_yard_Yard_train [.one y, .one (.int .i64 t)] σ Qp by kernel_rfl) ▸ h)
def an_yard_Yard_way : Ann := { esc := [], cbs := [], draws := [], loops := [], joins := [] }
def V_yard_Yard_way (y : D) (s : Int) (in_ : Int) (σ : Store) (Qp : RV → Store → Prop) : Prop :=
  (NotNil y) ∧ ∃ s1 : D, ∃ i : Nat, ∃ off : Nat, (y = (.el s1 i off : D)) ∧ ∃ row : List D, (Row σ s1 i row) ∧ ∃ d : D, ((List.take 1 (List.drop (off + 10) row)) = ([d] : List D)) ∧ ∃ len : Nat, (Idx Tryz.prog σ d 3 len) ∧ ((0 : Int) ≤ s) ∧ (s < (len : Int)) ∧ ∃ row1 : List D, (Row σ d (Int.toNat s) row1) ∧ ∃ n : Int, ((List.take 1 row1) = ([.int .i64 n] : List D)) ∧ (NotNil y) ∧ ∃ s2 : D, ∃ i1 : Nat, ∃ off1 : Nat, (y = (.el s2 i1 off1 : D)) ∧ ∃ row2 : List D, (Row σ s2 i1 row2) ∧ ∃ d1 : D, ((List.take 1 (List.drop (off1 + 10) row2)) = ([d1] : List D)) ∧ ∃ len1 : Nat, (Idx Tryz.prog σ d1 3 len1) ∧ ((0 : Int) ≤ s) ∧ (s < (len1 : Int)) ∧ DCalls Tryz.prog n_yard_thing_moves [.one (.el d1 (Int.toNat s) 0)] σ (fun (r : RV) => fun (σ' : Store) => ∃ b : Bool, (r = (.a (.one (.bool b)) : RV)) ∧ bcase b ((NotNil y) ∧ ∃ s3 : D, ∃ i2 : Nat, ∃ off2 : Nat, (y = (.el s3 i2 off2 : D)) ∧ ∃ row3 : List D, (Row σ' s3 i2 row3) ∧ ∃ d2 : D, ((List.take 1 (List.drop ((off2 + 1) + 0) row3)) = ([d2] : List D)) ∧ ∃ len2 : Nat, (Idx Tryz.prog σ' d2 3 len2) ∧ ((0 : Int) ≤ s) ∧ (s < (len2 : Int)) ∧ ∃ row4 : List D, (Row σ' d2 (Int.toNat s) row4) ∧ ∃ n1 : Int, ((List.take 1 row4) = ([.int .i64 n1] : List D)) ∧ DCalls Tryz.prog n_topo_Way [.one (.int .i64 n1), .one (.int .i64 in_), .one (.int .i64 0)] σ' (fun (r1 : RV) => fun (σ'1 : Store) => ∃ n2 : Int, ∃ b1 : Bool, (r1 = (.tup [.one (.int .i64 n2), .one (.bool b1)] : RV)) ∧ bcase (!b1) (Qp (.a (.one (.int .i64 (-1)))) σ'1) (Qp (.a (.one (.int .i64 n2))) σ'1))) ((NotNil y) ∧ ∃ s3 : D, ∃ i2 : Nat, ∃ off2 : Nat, (y = (.el s3 i2 off2 : D)) ∧ ∃ row3 : List D, (Row σ' s3 i2 row3) ∧ ∃ d2 : D, ((List.take 1 (List.drop ((off2 + 1) + 0) row3)) = ([d2] : List D)) ∧ ∃ len2 : Nat, (Idx Tryz.prog σ' d2 3 len2) ∧ ((0 : Int) ≤ s) ∧ (s < (len2 : Int)) ∧ ∃ row4 : List D, (Row σ' d2 (Int.toNat s) row4) ∧ ∃ n1 : Int, ((List.take 1 row4) = ([.int .i64 n1] : List D)) ∧ DCalls Tryz.prog n_topo_Way [.one (.int .i64 n1), .one (.int .i64 in_), .one (.int .i64 n)] σ' (fun (r1 : RV) => fun (σ'1 : Store) => ∃ n2 : Int, ∃ b1 : Bool, (r1 = (.tup [.one (.int .i64 n2), .one (.bool b1)] : RV)) ∧ bcase (!b1) (Qp (.a (.one (.int .i64 (-1)))) σ'1) (Qp (.a (.one (.int .i64 n2))) σ'1))))
theorem W_yard_Yard_way (y : D) (s : Int) (in_ : Int) (σ : Store) (Qp : RV → Store → Prop) (h : V_yard_Yard_way y s in_ σ Qp) : DCalls Tryz.prog n_yard_Yard_way [.one y, .one (.int .i64 s), .one (.int .i64 in_)] σ Qp :=
  dcalls_of_body mixed (by kernel_rfl) Tryz.func55 an_yard_Yard_way ((show V_yard_Yard_way y s in_ σ Qp = dbody Tryz.prog Tryz.f55 an_yard_Yard_way [.one y, .one (.int .i64 s), .one (.int .i64 in_)] σ Qp by kernel_rfl) ▸ h)
def an_yard_thing_moves : Ann := { esc := [], cbs := [], draws := [], loops := [], joins := [] }
def V_yard_thing_moves (x : D) (σ : Store) (Qp : RV → Store → Prop) : Prop :=
  (NotNil x) ∧ ∃ s : D, ∃ i : Nat, ∃ off : Nat, (x = (.el s i off : D)) ∧ ∃ row : List D, (Row σ s i row) ∧ ∃ n : Int, ((List.take 1 (List.drop (off + 2) row)) = ([.int .i64 n] : List D)) ∧ Qp (.a (.one (.bool (decide (n > 0))))) σ
theorem W_yard_thing_moves (x : D) (σ : Store) (Qp : RV → Store → Prop) (h : V_yard_thing_moves x σ Qp) : DCalls Tryz.prog n_yard_thing_moves [.one x] σ Qp :=
  dcalls_of_body mixed (by kernel_rfl) Tryz.func75 an_yard_thing_moves ((show V_yard_thing_moves x σ Qp = dbody Tryz.prog Tryz.f75 an_yard_thing_moves [.one x] σ Qp by kernel_rfl) ▸ h)
def an_conf_plan_signals : Ann := { esc := [], cbs := [1], draws := [(6, { ord := [0, 1, 2, 3, 4, 5, 6], nb := [], av := [], dir := [] })], loops := [(3, { mods := [(14, SlotSh.one (Sh.int IntKind.i64))], keep := [1, 3, 12, 13] })], joins := [] }
def V_conf_plan_signals (p0 : D) (p1 : D) (p2 : D) (p3 : D) (p4 : D) (p5 : Int) (p6 : Int) (p7 : Int) (p8 : Int) (σ : Store) (Qp : RV → Store → Prop) : Prop :=
  Fw.newObj σ (.mp 0 []) (fun (id : Nat) => fun (σ' : Store) => ∃ len : Nat, (Len p2 len) ∧ ∃ I : Int → Store → Prop, ∃ μ : Int → Store → Nat, (I 0 σ') ∧ ∀ n : Int, ∀ σ'1 : Store, (I n σ'1) → bcase (decide (n < (len : Int))) (∃ len1 : Nat, (Idx Tryz.prog σ'1 p2 2 len1) ∧ ((0 : Int) ≤ n) ∧ (n < (len1 : Int)) ∧ ∃ row : List D, (Row σ'1 p2 (Int.toNat n) row) ∧ ∃ n1 : Int, ∃ n2 : Int, ((List.take 2 row) = ([.int .i64 n1, .int .i64 n2] : List D)) ∧ DCalls Tryz.prog n_topo_Next [.one p1, .one (.int .i64 n1), .one (.int .i64 n2)] σ'1 (fun (r : RV) => fun (σ'2 : Store) => ∃ n3 : Int, ∃ n4 : Int, ∃ b : Bool, (r = (.tup [.one (.int .i64 n3), .one (.int .i64 n4), .one (.bool b)] : RV)) ∧ ∃ r1 : Option A, (MLook Tryz.prog t_Signal σ'2 (.omap id) (.agg [.int .i64 n1, .int .i64 n2]) r1) ∧ ∃ n5 : Int, ((Option.getD r1 (.one (.int .i64 0))) = (.one (.int .i64 n5) : A)) ∧ MEntry Tryz.prog t_Signal σ'2 (.omap id) (.agg [.int .i64 n1, .int .i64 n2]) (.one (.int .i64 0)) (fun (v : A) => fun (n6 : Int) => fun (σ'3 : Store) => MStamp σ'3 (.omap id) n6 (.one (.int .i64 (w64 (n5 + 1)))) (fun (σ'4 : Store) => bcase (!b) (Qp (.a (.one (.bool false))) σ'4) (∃ r2 : Option A, (MLook Tryz.prog t_Signal σ'4 (.omap id) (.agg [.int .i64 n1, .int .i64 n2]) r2) ∧ ∃ n7 : Int, ((Option.getD r2 (.one (.int .i64 0))) = (.one (.int .i64 n7) : A)) ∧ bcase (decide (n7 > 1)) (Qp (.a (.one (.bool false))) σ'4) ((I (w64 (n + 1)) σ'4) ∧ ((μ (w64 (n + 1)) σ'4) < (μ n σ'1)))))))) (∃ len1 : Nat, (Len p2 len1) ∧ Qp (.a (.one (.bool (decide ((len1 : Int) ≤ 12))))) σ'1))
theorem W_conf_plan_signals (p0 : D) (p1 : D) (p2 : D) (p3 : D) (p4 : D) (p5 : Int) (p6 : Int) (p7 : Int) (p8 : Int) (σ : Store) (Qp : RV → Store → Prop) (h : V_conf_plan_signals p0 p1 p2 p3 p4 p5 p6 p7 p8 σ Qp) : DCalls Tryz.prog n_conf_plan_signals [.agg [p0, p1, p2, p3, p4, .int .i64 p5, .int .i64 p6, .int .i64 p7, .int .i64 p8]] σ Qp :=
  dcalls_of_body mixed (by kernel_rfl) Tryz.func79 an_conf_plan_signals ((show V_conf_plan_signals p0 p1 p2 p3 p4 p5 p6 p7 p8 σ Qp = dbody Tryz.prog Tryz.f79 an_conf_plan_signals [.agg [p0, p1, p2, p3, p4, .int .i64 p5, .int .i64 p6, .int .i64 p7, .int .i64 p8]] σ Qp by kernel_rfl) ▸ h)
def an_math_bits_Mul : Ann := { esc := [], cbs := [], draws := [], loops := [], joins := [] }
def V_math_bits_Mul (x : Int) (y : Int) (σ : Store) (Qp : RV → Store → Prop) : Prop :=
  DCalls Tryz.prog n_math_bits_Mul64 [.one (.int .u64 x), .one (.int .u64 y)] σ (fun (r : RV) => fun (σ' : Store) => ∃ n : Int, ∃ n1 : Int, (r = (.tup [.one (.int .u64 n), .one (.int .u64 n1)] : RV)) ∧ Qp (.tup [.one (.int .u64 n), .one (.int .u64 n1)]) σ')
theorem W_math_bits_Mul (x : Int) (y : Int) (σ : Store) (Qp : RV → Store → Prop) (h : V_math_bits_Mul x y σ Qp) : DCalls Tryz.prog n_math_bits_Mul [.one (.int .u64 x), .one (.int .u64 y)] σ Qp :=
  dcalls_of_body mixed (by kernel_rfl) Tryz.func83 an_math_bits_Mul ((show V_math_bits_Mul x y σ Qp = dbody Tryz.prog Tryz.f83 an_math_bits_Mul [.one (.int .u64 x), .one (.int .u64 y)] σ Qp by kernel_rfl) ▸ h)
def an_ref02_Sum : Ann := { esc := [], cbs := [], draws := [], loops := [(3, { mods := [(3, SlotSh.one (Sh.int IntKind.i64)), (4, SlotSh.one (Sh.int IntKind.i64))], keep := [0] }), (7, { mods := [(3, SlotSh.one (Sh.int IntKind.i64)), (5, SlotSh.one (Sh.int IntKind.i64))], keep := [0, 4] })], joins := [] }
def V_ref02_Sum (text : ByteArray) (σ : Store) (Qp : RV → Store → Prop) : Prop :=
  ∃ I : Int → Int → Store → Prop, ∃ μ : Int → Int → Store → Nat, (I 4294967295 0 σ) ∧ ∀ n : Int, ∀ n1 : Int, ∀ σ' : Store, (I n n1 σ') → bcase (decide (n1 < (ByteArray.size text : Int))) (∃ n2 : Int, (SByte text n1 n2) ∧ ∃ I1 : Int → Int → Store → Prop, ∃ μ1 : Int → Int → Store → Nat, (I1 (w64 (BitVec.toNat ((BitVec.ofInt 64 n) ^^^ (BitVec.ofInt 64 (w64 ((w64 n2) * 16777216)))) : Int)) 0 σ') ∧ ∀ n3 : Int, ∀ n4 : Int, ∀ σ'1 : Store, (I1 n3 n4 σ'1) → bcase (decide (n4 < 8)) (bcase (decide ((w64 (n3 * 2)) ≥ 4294967296)) ((I1 (w64 (BitVec.toNat ((BitVec.ofInt 64 (w64 ((w64 (n3 * 2)) - 4294967296))) ^^^ (BitVec.ofInt 64 79764919)) : Int)) (w64 (n4 + 1)) σ'1) ∧ ((μ1 (w64 (BitVec.toNat ((BitVec.ofInt (IntKind.bits .i64) (w64 ((w64 (n3 * 2)) - 4294967296))) ^^^ (BitVec.ofInt (IntKind.bits .i64) 79764919)) : Int)) (w64 (n4 + 1)) σ'1) < (μ1 n3 n4 σ'1))) ((I1 (w64 (n3 * 2)) (w64 (n4 + 1)) σ'1) ∧ ((μ1 (w64 (n3 * 2)) (w64 (n4 + 1)) σ'1) < (μ1 n3 n4 σ'1)))) ((I n3 (w64 (n1 + 1)) σ'1) ∧ ((μ n3 (w64 (n1 + 1)) σ'1) < (μ n n1 σ')))) (Qp (.a (.one (.int .i64 n))) σ')
theorem W_ref02_Sum (text : ByteArray) (σ : Store) (Qp : RV → Store → Prop) (h : V_ref02_Sum text σ Qp) : DCalls Tryz.prog n_ref02_Sum [.one (.str text)] σ Qp :=
  dcalls_of_body mixed (by kernel_rfl) Tryz.func87 an_ref02_Sum ((show V_ref02_Sum text σ Qp = dbody Tryz.prog Tryz.f87 an_ref02_Sum [.one (.str text)] σ Qp by kernel_rfl) ▸ h)
def an_tele_orders : Ann := { esc := [], cbs := [2], draws := [(1, { ord := [0, 1, 2, 3, 4, 5, 6, 7, 8, 9, 10, 11, 12, 13, 14, 15, 16, 17, 18, 19, 20, 21, 22], nb := [], av := [], dir := [] })], loops := [], joins := [] }
def V_tele_orders (h0 : D) (h1 : D) (h2 : D) (h3 : D) (o : D) (σ : Store) (Qp : RV → Store → Prop) : Prop :=
  (NotNil o) ∧ ∃ s : D, ∃ i : Nat, ∃ off : Nat, (o = (.el s i off : D)) ∧ ∃ len : Nat, (Len h1 len) ∧ (NotNil o) ∧ ∃ s1 : D, ∃ i1 : Nat, ∃ off1 : Nat, (o = (.el s1 i1 off1 : D)) ∧ ∃ len1 : Nat, (Len h3 len1) ∧ (NotNil o) ∧ ∃ s2 : D, ∃ i2 : Nat, ∃ off2 : Nat, (o = (.el s2 i2 off2 : D)) ∧ ∃ len2 : Nat, (Len h2 len2) ∧ Fw.newObj σ (.live t_tele_field [[.el s i (off + 0), .int .i64 (len : Int), .int .i64 2], [.el s1 i1 (off1 + 1), .int .i64 (len1 : Int), .int .i64 2], [.el s2 i2 (off2 + 2), .int .i64 (len2 : Int), .int .i64 1]]) (fun (id : Nat) => fun (σ' : Store) => Qp (.a (.one (.osl id 0 3))) σ')
theorem W_tele_orders (h0 : D) (h1 : D) (h2 : D) (h3 : D) (o : D) (σ : Store) (Qp : RV → Store → Prop) (h : V_tele_orders h0 h1 h2 h3 o σ Qp) : DCalls Tryz.prog n_tele_orders [.agg [h0, h1, h2, h3], .one o] σ Qp :=
  dcalls_of_body mixed (by kernel_rfl) Tryz.func91 an_tele_orders ((show V_tele_orders h0 h1 h2 h3 o σ Qp = dbody Tryz.prog Tryz.f91 an_tele_orders [.agg [h0, h1, h2, h3], .one o] σ Qp by kernel_rfl) ▸ h)
def an_topo_Way : Ann := { esc := [], cbs := [], draws := [], loops := [(2, { mods := [(15, SlotSh.one (Sh.int IntKind.i64))], keep := [1, 2, 13, 14] })], joins := [] }
def V_topo_Way (kind : Int) (in_ : Int) (pos : Int) (σ : Store) (Qp : RV → Store → Prop) : Prop :=
  DCalls Tryz.prog n_topo_ways [.one (.int .i64 kind)] σ (fun (r : RV) => fun (σ' : Store) => ∃ d : D, (r = (.a (.one d) : RV)) ∧ ∃ len : Nat, (Len d len) ∧ ∃ I : Int → Store → Prop, ∃ μ : Int → Store → Nat, (I 0 σ') ∧ ∀ n : Int, ∀ σ'1 : Store, (I n σ'1) → bcase (decide (n < (len : Int))) (∃ len1 : Nat, (Idx Tryz.prog σ'1 d 3 len1) ∧ ((0 : Int) ≤ n) ∧ (n < (len1 : Int)) ∧ ∃ row : List D, (Row σ'1 d (Int.toNat n) row) ∧ ∃ n1 : Int, ∃ n2 : Int, ∃ n3 : Int, ((List.take 3 row) = ([.int .i64 n1, .int .i64 n2, .int .i64 n3] : List D)) ∧ DCalls Tryz.prog n_topo_way_other [.agg [.int .i64 n1, .int .i64 n2, .int .i64 n3], .one (.int .i64 in_)] σ'1 (fun (r1 : RV) => fun (σ'2 : Store) => ∃ n4 : Int, ∃ b : Bool, (r1 = (.tup [.one (.int .i64 n4), .one (.bool b)] : RV)) ∧ bcase b (bcase (n3 == 0) (Qp (.tup [.one (.int .i64 n4), .one (.bool true)]) σ'2) (bcase (n3 == pos) (Qp (.tup [.one (.int .i64 n4), .one (.bool true)]) σ'2) ((I (w64 (n + 1)) σ'2) ∧ ((μ (w64 (n + 1)) σ'2) < (μ n σ'1))))) ((I (w64 (n + 1)) σ'2) ∧ ((μ (w64 (n + 1)) σ'2) < (μ n σ'1))))) (Qp (.tup [.one (.int .i64 0), .one (.bool false)]) σ'1))
theorem W_topo_Way (kind : Int) (in_ : Int) (pos : Int) (σ : Store) (Qp : RV → Store → Prop) (h : V_topo_Way kind in_ pos σ Qp) : DCalls Tryz.prog n_topo_Way [.one (.int .i64 kind), .one (.int .i64 in_), .one (.int .i64 pos)] σ Qp :=
  dcalls_of_body mixed (by kernel_rfl) Tryz.func95 an_topo_Way ((show V_topo_Way kind in_ pos σ Qp = dbody Tryz.prog Tryz.f95 an_topo_Way [.one (.int .i64 kind), .one (.int .i64 in_), .one (.int .i64 pos)] σ Qp by kernel_rfl) ▸ h)
def an_topo_Ends : Ann := { esc := [], cbs := [], draws := [], loops := [(3, { mods := [(3, SlotSh.one (Sh.int IntKind.i64)), (9, SlotSh.one (Sh.int IntKind.i64))], keep := [7, 8] })], joins := [] }
def V_topo_Ends (kind : Int) (σ : Store) (Qp : RV → Store → Prop) : Prop :=
  DCalls Tryz.prog n_topo_ways [.one (.int .i64 kind)] σ (fun (r : RV) => fun (σ' : Store) => ∃ d : D, (r = (.a (.one d) : RV)) ∧ ∃ len : Nat, (Len d len) ∧ ∃ I : Int → Int → Store → Prop, ∃ μ : Int → Int → Store → Nat, (I 0 0 σ') ∧ ∀ n : Int, ∀ n1 : Int, ∀ σ'1 : Store, (I n n1 σ'1) → bcase (decide (n1 < (len : Int))) (∃ len1 : Nat, (Idx Tryz.prog σ'1 d 3 len1) ∧ ((0 : Int) ≤ n1) ∧ (n1 < (len1 : Int)) ∧ ∃ row : List D, (Row σ'1 d (Int.toNat n1) row) ∧ ∃ n2 : Int, ∃ n3 : Int, ∃ n4 : Int, ((List.take 3 row) = ([.int .i64 n2, .int .i64 n3, .int .i64 n4] : List D)) ∧ ((0 : Int) ≤ 0) ∧ ((0 : Int) < (2 : Int)) ∧ ((0 : Int) ≤ 1) ∧ ((1 : Int) < (2 : Int)) ∧ (I (ite ((w64 (n3 + 1)) > (ite ((w64 (n2 + 1)) > n) (w64 (n2 + 1)) n)) (w64 (n3 + 1)) (ite ((w64 (n2 + 1)) > n) (w64 (n2 + 1)) n)) (w64 (n1 + 1)) σ'1) ∧ ((μ (ite ((w64 (n3 + 1)) > (ite ((w64 (n2 + 1)) > n) (w64 (n2 + 1)) n)) (w64 (n3 + 1)) (ite ((w64 (n2 + 1)) > n) (w64 (n2 + 1)) n)) (w64 (n1 + 1)) σ'1) < (μ n n1 σ'1))) (Qp (.a (.one (.int .i64 n))) σ'1))
theorem W_topo_Ends (kind : Int) (σ : Store) (Qp : RV → Store → Prop) (h : V_topo_Ends kind σ Qp) : DCalls Tryz.prog n_topo_Ends [.one (.int .i64 kind)] σ Qp :=
  dcalls_of_body mixed (by kernel_rfl) Tryz.func119 an_topo_Ends ((show V_topo_Ends kind σ Qp = dbody Tryz.prog Tryz.f119 an_topo_Ends [.one (.int .i64 kind)] σ Qp by kernel_rfl) ▸ h)
def an_conf_plan_flank : Ann := { esc := [13], cbs := [3], draws := [], loops := [(3, { mods := [(7, SlotSh.one (Sh.any)), (20, SlotSh.one (Sh.int IntKind.i64))], keep := [1, 2, 3, 18, 19] }), (8, { mods := [(7, SlotSh.one (Sh.any)), (36, SlotSh.one (Sh.int IntKind.i64))], keep := [1, 2, 3, 9, 18, 19, 20, 35] })], joins := [(11, { mods := [], keep := [1, 2, 3, 7, 9, 12, 18, 19, 20, 35, 36] }), (14, { mods := [], keep := [1, 2, 3, 7, 9, 13, 14, 18, 19, 20, 35, 36] })] }
def V_conf_plan_flank (p0 : D) (p1 : D) (p2 : D) (p3 : D) (p4 : D) (p5 : Int) (p6 : Int) (p7 : Int) (p8 : Int) (approach : Int) (path : D) (σ : Store) (Qp : RV → Store → Prop) : Prop :=
  ∃ len : Nat, (Len path len) ∧ ∃ I : D → Int → Store → Prop, ∃ μ : D → Int → Store → Nat, (I .nils 0 σ) ∧ ∀ d : D, ∀ n : Int, ∀ σ' : Store, (I d n σ') → bcase (decide (n < (len : Int))) (∃ len1 : Nat, (Idx Tryz.prog σ' path 3 len1) ∧ ((0 : Int) ≤ n) ∧ (n < (len1 : Int)) ∧ ∃ row : List D, (Row σ' path (Int.toNat n) row) ∧ ∃ n1 : Int, ∃ n2 : Int, ∃ n3 : Int, ((List.take 3 row) = ([.int .i64 n1, .int .i64 n2, .int .i64 n3] : List D)) ∧ DCalls Tryz.prog n_conf_plan_section [.agg [p0, p1, p2, p3, p4, .int .i64 p5, .int .i64 p6, .int .i64 p7, .int .i64 p8], .one (.int .i64 n1)] σ' (fun (r : RV) => fun (σ'1 : Store) => ∃ n4 : Int, ∃ n5 : Int, ∃ n6 : Int, ∃ b : Bool, (r = (.tup [.agg [.int .i64 n4, .int .i64 n5, .int .i64 n6], .one (.bool b)] : RV)) ∧ bcase (!b) ((I d (w64 (n + 1)) σ'1) ∧ ((μ d (w64 (n + 1)) σ'1) < (μ d n σ'))) (DCalls Tryz.prog n_topo_Ends [.one (.int .i64 n4)] σ'1 (fun (r1 : RV) => fun (σ'2 : Store) => ∃ n7 : Int, (r1 = (.a (.one (.int .i64 n7)) : RV)) ∧ ∃ I1 : D → Int → Store → Prop, ∃ μ1 : D → Int → Store → Nat, (I1 d 0 σ'2) ∧ ∀ d1 : D, ∀ n8 : Int, ∀ σ'3 : Store, (I1 d1 n8 σ'3) → bcase (decide (n8 < n7)) (∀ R : Store → Prop, (∀ σ'4 : Store, (DCalls Tryz.prog n_topo_Next [.one p1, .one (.int .i64 n1), .one (.int .i64 n8)] σ'4 (fun (r2 : RV) => fun (σ'5 : Store) => ∃ n9 : Int, ∃ n10 : Int, ∃ b1 : Bool, (r2 = (.tup [.one (.int .i64 n9), .one (.int .i64 n10), .one (.bool b1)] : RV)) ∧ Fw.newObj σ'5 (.live t_int [[.int .i64 0]]) (fun (id : Nat) => fun (σ'6 : Store) => storeEl [.int .i64 n9] σ'6 (.osl id 0 1) 0 0 (fun (σ'7 : Store) => ∃ row1 : List D, (Row σ'7 (.osl id 0 1) 0 row1) ∧ ∃ n11 : Int, ((List.take 1 row1) = ([.int .i64 n11] : List D)) ∧ DCalls Tryz.prog n_conf_plan_section [.agg [p0, p1, p2, p3, p4, .int .i64 p5, .int .i64 p6, .int .i64 p7, .int .i64 p8], .one (.int .i64 n11)] σ'7 (fun (r3 : RV) => fun (σ'8 : Store) => ∃ n12 : Int, ∃ n13 : Int, ∃ n14 : Int, ∃ b2 : Bool, (r3 = (.tup [.agg [.int .i64 n12, .int .i64 n13, .int .i64 n14], .one (.bool b2)] : RV)) ∧ ∀ R1 : Store → Prop, (∀ σ'9 : Store, (∃ row2 : List D, (Row σ'9 (.osl id 0 1) 0 row2) ∧ ∃ n15 : Int, ((List.take 1 row2) = ([.int .i64 n15] : List D)) ∧ Fw.newObj σ'9 (.live t_Need [[.int .i64 n15, .int .i64 (w64 (3 - n10))]]) (fun (id1 : Nat) => fun (σ'10 : Store) => appendTo Tryz.prog σ'10 t_Need 16 d1 (.osl id1 0 1) (fun (d2 : D) => fun (σ'11 : Store) => (([[.int .i64 n1, .int .i64 n2, .int .i64 n3]] : List (List D)) = ([[.int .i64 n1, .int .i64 n2, .int .i64 n3]] : List (List D))) ∧ (I1 d2 (w64 (n8 + 1)) σ'11) ∧ ((μ1 d2 (w64 (n8 + 1)) σ'11) < (μ1 d1 n8 σ'3))))) → R1 σ'9) → bcase (!b1) ((([[.int .i64 n1, .int .i64 n2, .int .i64 n3]] : List (List D)) = ([[.int .i64 n1, .int .i64 n2, .int .i64 n3]] : List (List D))) ∧ (I1 d1 (w64 (n8 + 1)) σ'8) ∧ ((μ1 d1 (w64 (n8 + 1)) σ'8) < (μ1 d1 n8 σ'3))) (bcase (!b2) ((([[.int .i64 n1, .int .i64 n2, .int .i64 n3]] : List (List D)) = ([[.int .i64 n1, .int .i64 n2, .int .i64 n3]] : List (List D))) ∧ (I1 d1 (w64 (n8 + 1)) σ'8) ∧ ((μ1 d1 (w64 (n8 + 1)) σ'8) < (μ1 d1 n8 σ'3))) (bcase (n12 != 1) ((([[.int .i64 n1, .int .i64 n2, .int .i64 n3]] : List (List D)) = ([[.int .i64 n1, .int .i64 n2, .int .i64 n3]] : List (List D))) ∧ (I1 d1 (w64 (n8 + 1)) σ'8) ∧ ((μ1 d1 (w64 (n8 + 1)) σ'8) < (μ1 d1 n8 σ'3))) (bcase (decide (n10 < 1)) ((([[.int .i64 n1, .int .i64 n2, .int .i64 n3]] : List (List D)) = ([[.int .i64 n1, .int .i64 n2, .int .i64 n3]] : List (List D))) ∧ (I1 d1 (w64 (n8 + 1)) σ'8) ∧ ((μ1 d1 (w64 (n8 + 1)) σ'8) < (μ1 d1 n8 σ'3))) (bcase (decide (n10 > 2)) ((([[.int .i64 n1, .int .i64 n2, .int .i64 n3]] : List (List D)) = ([[.int .i64 n1, .int .i64 n2, .int .i64 n3]] : List (List D))) ∧ (I1 d1 (w64 (n8 + 1)) σ'8) ∧ ((μ1 d1 (w64 (n8 + 1)) σ'8) < (μ1 d1 n8 σ'3))) (∃ row2 : List D, (Row σ'8 (.osl id 0 1) 0 row2) ∧ ∃ n15 : Int, ((List.take 1 row2) = ([.int .i64 n15] : List D)) ∧ bcase (n15 == approach) ((([[.int .i64 n1, .int .i64 n2, .int .i64 n3]] : List (List D)) = ([[.int .i64 n1, .int .i64 n2, .int .i64 n3]] : List (List D))) ∧ (I1 d1 (w64 (n8 + 1)) σ'8) ∧ ((μ1 d1 (w64 (n8 + 1)) σ'8) < (μ1 d1 n8 σ'3))) (∃ row3 : List D, (Row σ'8 (.osl id 0 1) 0 row3) ∧ ∃ n16 : Int, ((List.take 1 row3) = ([.int .i64 n16] : List D)) ∧ DCalls Tryz.prog n_conf_has [.one path, .one (.int .i64 n16)] σ'8 (fun (r4 : RV) => fun (σ'9 : Store) => ∃ b3 : Bool, (r4 = (.a (.one (.bool b3)) : RV)) ∧ bcase b3 ((([[.int .i64 n1, .int .i64 n2, .int .i64 n3]] : List (List D)) = ([[.int .i64 n1, .int .i64 n2, .int .i64 n3]] : List (List D))) ∧ (I1 d1 (w64 (n8 + 1)) σ'9) ∧ ((μ1 d1 (w64 (n8 + 1)) σ'9) < (μ1 d1 n8 σ'3))) (DCalls Tryz.prog n_slices_ContainsFunc_Need [.one d1, .one (.fn n_conf_plan_flank_1 [] [(false, [.el (.osl id 0 1) 0 0])])] σ'9 (fun (r5 : RV) => fun (σ'10 : Store) => ∃ b4 : Bool, (r5 = (.a (.one (.bool b4)) : RV)) ∧ bcase b4 ((([[.int .i64 n1, .int .i64 n2, .int .i64 n3]] : List (List D)) = ([[.int .i64 n1, .int .i64 n2, .int .i64 n3]] : List (List D))) ∧ (I1 d1 (w64 (n8 + 1)) σ'10) ∧ ((μ1 d1 (w64 (n8 + 1)) σ'10) < (μ1 d1 n8 σ'3))) ((([[.int .i64 n1, .int .i64 n2, .int .i64 n3]] : List (List D)) = ([[.int .i64 n1, .int .i64 n2, .int .i64 n3]] : List (List D))) ∧ R1 σ'10))))))))))))))) → R σ'4) → bcase (n8 == n2) ((([[.int .i64 n1, .int .i64 n2, .int .i64 n3]] : List (List D)) = ([[.int .i64 n1, .int .i64 n2, .int .i64 n3]] : List (List D))) ∧ (I1 d1 (w64 (n8 + 1)) σ'3) ∧ ((μ1 d1 (w64 (n8 + 1)) σ'3) < (μ1 d1 n8 σ'3))) (bcase (n8 == n3) ((([[.int .i64 n1, .int .i64 n2, .int .i64 n3]] : List (List D)) = ([[.int .i64 n1, .int .i64 n2, .int .i64 n3]] : List (List D))) ∧ (I1 d1 (w64 (n8 + 1)) σ'3) ∧ ((μ1 d1 (w64 (n8 + 1)) σ'3) < (μ1 d1 n8 σ'3))) ((([[.int .i64 n1, .int .i64 n2, .int .i64 n3]] : List (List D)) = ([[.int .i64 n1, .int .i64 n2, .int .i64 n3]] : List (List D))) ∧ R σ'3))) ((I d1 (w64 (n + 1)) σ'3) ∧ ((μ d1 (w64 (n + 1)) σ'3) < (μ d n σ'))))))) (Qp (.a (.one d)) σ')
theorem W_conf_plan_flank (p0 : D) (p1 : D) (p2 : D) (p3 : D) (p4 : D) (p5 : Int) (p6 : Int) (p7 : Int) (p8 : Int) (approach : Int) (path : D) (σ : Store) (Qp : RV → Store → Prop) (h : V_conf_plan_flank p0 p1 p2 p3 p4 p5 p6 p7 p8 approach path σ Qp) : DCalls Tryz.prog n_conf_plan_flank [.agg [p0, p1, p2, p3, p4, .int .i64 p5, .int .i64 p6, .int .i64 p7, .int .i64 p8], .one (.int .i64 approach), .one path] σ Qp :=
  dcalls_of_body mixed (by kernel_rfl) Tryz.func123 an_conf_plan_flank ((show V_conf_plan_flank p0 p1 p2 p3 p4 p5 p6 p7 p8 approach path σ Qp = dbody Tryz.prog Tryz.f123 an_conf_plan_flank [.agg [p0, p1, p2, p3, p4, .int .i64 p5, .int .i64 p6, .int .i64 p7, .int .i64 p8], .one (.int .i64 approach), .one path] σ Qp by kernel_rfl) ▸ h)
def an_math_bits_Mul64 : Ann := { esc := [], cbs := [], draws := [], loops := [], joins := [] }
def V_math_bits_Mul64 (x : Int) (y : Int) (σ : Store) (Qp : RV → Store → Prop) : Prop :=
  Qp (.tup [.one (.int .u64 (IntKind.wrap .u64 ((IntKind.wrap .u64 ((IntKind.wrap .u64 ((Int.fdiv x (2 ^ 32)) * (Int.fdiv y (2 ^ 32)))) + (Int.fdiv (IntKind.wrap .u64 ((IntKind.wrap .u64 ((Int.fdiv x (2 ^ 32)) * (IntKind.wrap .u64 (BitVec.toNat ((BitVec.ofInt 64 y) &&& (BitVec.ofInt 64 4294967295)) : Int)))) + (Int.fdiv (IntKind.wrap .u64 ((IntKind.wrap .u64 (BitVec.toNat ((BitVec.ofInt 64 x) &&& (BitVec.ofInt 64 4294967295)) : Int)) * (IntKind.wrap .u64 (BitVec.toNat ((BitVec.ofInt 64 y) &&& (BitVec.ofInt 64 4294967295)) : Int)))) (2 ^ 32)))) (2 ^ 32)))) + (Int.fdiv (IntKind.wrap .u64 ((IntKind.wrap .u64 (BitVec.toNat ((BitVec.ofInt 64 (IntKind.wrap .u64 ((IntKind.wrap .u64 ((Int.fdiv x (2 ^ 32)) * (IntKind.wrap .u64 (BitVec.toNat ((BitVec.ofInt 64 y) &&& (BitVec.ofInt 64 4294967295)) : Int)))) + (Int.fdiv (IntKind.wrap .u64 ((IntKind.wrap .u64 (BitVec.toNat ((BitVec.ofInt 64 x) &&& (BitVec.ofInt 64 4294967295)) : Int)) * (IntKind.wrap .u64 (BitVec.toNat ((BitVec.ofInt 64 y) &&& (BitVec.ofInt 64 4294967295)) : Int)))) (2 ^ 32))))) &&& (BitVec.ofInt 64 4294967295)) : Int)) + (IntKind.wrap .u64 ((IntKind.wrap .u64 (BitVec.toNat ((BitVec.ofInt 64 x) &&& (BitVec.ofInt 64 4294967295)) : Int)) * (Int.fdiv y (2 ^ 32)))))) (2 ^ 32))))), .one (.int .u64 (IntKind.wrap .u64 (x * y)))]) σ
theorem W_math_bits_Mul64 (x : Int) (y : Int) (σ : Store) (Qp : RV → Store → Prop) (h : V_math_bits_Mul64 x y σ Qp) : DCalls Tryz.prog n_math_bits_Mul64 [.one (.int .u64 x), .one (.int .u64 y)] σ Qp :=
  dcalls_of_body mixed (by kernel_rfl) Tryz.func128 an_math_bits_Mul64 ((show V_math_bits_Mul64 x y σ Qp = dbody Tryz.prog Tryz.f128 an_math_bits_Mul64 [.one (.int .u64 x), .one (.int .u64 y)] σ Qp by kernel_rfl) ▸ h)
def an_pack_Reader_Word : Ann := { esc := [], cbs := [], draws := [], loops := [], joins := [] }
def V_pack_Reader_Word (r : D) (σ : Store) (Qp : RV → Store → Prop) : Prop :=
  DCalls Tryz.prog n_pack_Reader_fixed [.one r, .one (.int .i64 2)] σ (fun (r1 : RV) => fun (σ' : Store) => ∃ n : Int, (r1 = (.a (.one (.int .i64 n)) : RV)) ∧ Qp (.a (.one (.int .i64 n))) σ')
theorem W_pack_Reader_Word (r : D) (σ : Store) (Qp : RV → Store → Prop) (h : V_pack_Reader_Word r σ Qp) : DCalls Tryz.prog n_pack_Reader_Word [.one r] σ Qp :=
  dcalls_of_body mixed (by kernel_rfl) Tryz.func132 an_pack_Reader_Word ((show V_pack_Reader_Word r σ Qp = dbody Tryz.prog Tryz.f132 an_pack_Reader_Word [.one r] σ Qp by kernel_rfl) ▸ h)
def an_pack_Reader_Left : Ann := { esc := [], cbs := [], draws := [], loops := [], joins := [] }
def V_pack_Reader_Left (r : D) (σ : Store) (Qp : RV → Store → Prop) : Prop :=
  (NotNil r) ∧ ∃ s : D, ∃ i : Nat, ∃ off : Nat, (r = (.el s i off : D)) ∧ ∃ row : List D, (Row σ s i row) ∧ ∃ s1 : ByteArray, ((List.take 1 (List.drop (off + 1) row)) = ([.str s1] : List D)) ∧ Qp (.a (.one (.int .i64 (ByteArray.size s1 : Int)))) σ
theorem W_pack_Reader_Left (r : D) (σ : Store) (Qp : RV → Store → Prop) (h : V_pack_Reader_Left r σ Qp) : DCalls Tryz.prog n_pack_Reader_Left [.one r] σ Qp :=
  dcalls_of_body mixed (by kernel_rfl) Tryz.func136 an_pack_Reader_Left ((show V_pack_Reader_Left r σ Qp = dbody Tryz.prog Tryz.f136 an_pack_Reader_Left [.one r] σ Qp by kernel_rfl) ▸ h)
def an_topo_ways : Ann := { esc := [], cbs := [], draws := [], loops := [], joins := [] }
def V_topo_ways (kind : Int) (σ : Store) (Qp : RV → Store → Prop) : Prop :=
  bcase (kind == 0) (Fw.newObj σ (.live t_topo_way [[.int .i64 0, .int .i64 1, .int .i64 0]]) (fun (id : Nat) => fun (σ' : Store) => Qp (.a (.one (.osl id 0 1))) σ')) (bcase (kind == 1) (Fw.newObj σ (.live t_topo_way [[.int .i64 0, .int .i64 1, .int .i64 1], [.int .i64 0, .int .i64 2, .int .i64 2]]) (fun (id : Nat) => fun (σ' : Store) => Qp (.a (.one (.osl id 0 2))) σ')) (bcase (kind == 2) (Fw.newObj σ (.live t_topo_way [[.int .i64 0, .int .i64 1, .int .i64 0], [.int .i64 2, .int .i64 3, .int .i64 0]]) (fun (id : Nat) => fun (σ' : Store) => Qp (.a (.one (.osl id 0 2))) σ')) (Qp (.a (.one .nils)) σ)))
theorem W_topo_ways (kind : Int) (σ : Store) (Qp : RV → Store → Prop) (h : V_topo_ways kind σ Qp) : DCalls Tryz.prog n_topo_ways [.one (.int .i64 kind)] σ Qp :=
  dcalls_of_body mixed (by kernel_rfl) Tryz.func140 an_topo_ways ((show V_topo_ways kind σ Qp = dbody Tryz.prog Tryz.f140 an_topo_ways [.one (.int .i64 kind)] σ Qp by kernel_rfl) ▸ h)
def an_conf_has : Ann := { esc := [3], cbs := [], draws := [], loops := [], joins := [] }
def V_conf_has (path : D) (section_ : Int) (σ : Store) (Qp : RV → Store → Prop) : Prop :=
  Fw.newObj σ (.live t_int [[.int .i64 section_]]) (fun (id : Nat) => fun (σ' : Store) => DCalls Tryz.prog n_slices_ContainsFunc_Step [.one path, .one (.fn n_conf_has_1 [] [(false, [.el (.osl id 0 1) 0 0])])] σ' (fun (r : RV) => fun (σ'1 : Store) => ∃ b : Bool, (r = (.a (.one (.bool b)) : RV)) ∧ Qp (.a (.one (.bool b))) σ'1))
theorem W_conf_has (path : D) (section_ : Int) (σ : Store) (Qp : RV → Store → Prop) (h : V_conf_has path section_ σ Qp) : DCalls Tryz.prog n_conf_has [.one path, .one (.int .i64 section_)] σ Qp :=
  dcalls_of_body mixed (by kernel_rfl) Tryz.func156 an_conf_has ((show V_conf_has path section_ σ Qp = dbody Tryz.prog Tryz.f156 an_conf_has [.one path, .one (.int .i64 section_)] σ Qp by kernel_rfl) ▸ h)
def an_seal_Next : Ann := { esc := [], cbs := [], draws := [], loops := [], joins := [(3, { mods := [], keep := [0, 1] }), (8, { mods := [(46, SlotSh.one (Sh.bool))], keep := [1, 7, 9] })], splits := [(7, (DT.split 5 10 (DT.leaf { ord := [0, 1, 2, 3, 6, 7, 8, 9, 4, 5, 10, 11, 12], nb := [], av := [], dir := [] }) (DT.leaf { ord := [0, 1, 2, 3, 6, 7, 8, 9, 4, 10, 5, 11, 12], nb := [], av := [], dir := [], sp := [4] })))] }
def V_seal_Next (text : ByteArray) (at_ : Int) (σ : Store) (Qp : RV → Store → Prop) : Prop :=
  ∀ R : Store → Prop, (∀ σ' : Store, (((0 : Int) ≤ at_) ∧ (at_ ≤ (ByteArray.size text : Int)) ∧ DCalls Tryz.prog n_seal_cut [.one (.str (ByteArray.extract text (Int.toNat at_) (ByteArray.size text)))] σ' (fun (r : RV) => fun (σ'1 : Store) => ∃ n : Int, ∃ n1 : Int, (r = (.tup [.one (.int .i64 n), .one (.int .i64 n1)] : RV)) ∧ bcase (n1 != 0) (Qp (.tup [.one (.str (ByteArray.mk (List.toArray []))), .one (.int .i64 0), .one (.int .i64 n1)]) σ'1) (((0 : Int) ≤ at_) ∧ (at_ ≤ (w64 (at_ + n))) ∧ ((w64 (at_ + n)) ≤ (ByteArray.size text : Int)) ∧ ∀ R1 : Bool → Store → Prop, (∀ b : Bool, ∀ σ'2 : Store, (bcase b (Qp (.tup [.one (.str (ByteArray.mk (List.toArray []))), .one (.int .i64 0), .one (.int .i64 4)]) σ'2) (((0 : Int) ≤ 2) ∧ ((2 : Int) ≤ (w64 (n - 4))) ∧ ((w64 (n - 4)) ≤ (ByteArray.size (ByteArray.extract text (Int.toNat at_) (Int.toNat (w64 (at_ + n)))) : Int)) ∧ Qp (.tup [.one (.str (ByteArray.extract (ByteArray.extract text (Int.toNat at_) (Int.toNat (w64 (at_ + n)))) 2 (Int.toNat (w64 (n - 4))))), .one (.int .i64 (w64 (at_ + n))), .one (.int .i64 0)]) σ'2)) → R1 b σ'2) → (((0 : Int) ≤ (w64 (n - 4))) ∧ ((w64 (n - 4)) ≤ (ByteArray.size (ByteArray.extract text (Int.toNat at_) (Int.toNat (w64 (at_ + n)))) : Int)) ∧ ((0 : Int) ≤ 0) ∧ ((0 : Int) ≤ (w64 (n - 4))) ∧ ((w64 (n - 4)) ≤ (ByteArray.size (ByteArray.extract text (Int.toNat at_) (Int.toNat (w64 (at_ + n)))) : Int)) ∧ DCalls Tryz.prog n_pack_Read [.one (.str (ByteArray.extract (ByteArray.extract text (Int.toNat at_) (Int.toNat (w64 (at_ + n)))) (Int.toNat (w64 (n - 4))) (ByteArray.size (ByteArray.extract text (Int.toNat at_) (Int.toNat (w64 (at_ + n)))))))] σ'1 (fun (r1 : RV) => fun (σ'2 : Store) => ∃ d : D, (r1 = (.a (.one d) : RV)) ∧ DCalls Tryz.prog n_pack_Reader_Long [.one d] σ'2 (fun (r2 : RV) => fun (σ'3 : Store) => ∃ n2 : Int, (r2 = (.a (.one (.int .i64 n2)) : RV)) ∧ Fw.newObj σ'3 (.live t_string [[.str (ByteArray.extract (ByteArray.extract text (Int.toNat at_) (Int.toNat (w64 (at_ + n)))) 0 (Int.toNat (w64 (n - 4))))]]) (fun (id : Nat) => fun (σ'4 : Store) => DCalls Tryz.prog n_seal_Sum [.one (.osl id 0 1)] σ'4 (fun (r3 : RV) => fun (σ'5 : Store) => ∃ n3 : Int, (r3 = (.a (.one (.int .i64 n3)) : RV)) ∧ R1 (n2 != n3) σ'5))))) ∧ ∃ pre : List A → Store → Prop, ∃ post : List A → Store → RV → Store → Prop, (SpecOk Tryz.prog n_pack_Read pre post) ∧ ((0 : Int) ≤ (w64 (n - 4))) ∧ ((w64 (n - 4)) ≤ (ByteArray.size (ByteArray.extract text (Int.toNat at_) (Int.toNat (w64 (at_ + n)))) : Int)) ∧ ((0 : Int) ≤ 0) ∧ ((0 : Int) ≤ (w64 (n - 4))) ∧ ((w64 (n - 4)) ≤ (ByteArray.size (ByteArray.extract text (Int.toNat at_) (Int.toNat (w64 (at_ + n)))) : Int)) ∧ (pre [.one (.str (ByteArray.extract (ByteArray.extract text (Int.toNat at_) (Int.toNat (w64 (at_ + n)))) (Int.toNat (w64 (n - 4))) (ByteArray.size (ByteArray.extract text (Int.toNat at_) (Int.toNat (w64 (at_ + n)))))))] σ'1) ∧ ∀ r1 : RV, ∀ s : Store, (post [.one (.str (ByteArray.extract (ByteArray.extract text (Int.toNat at_) (Int.toNat (w64 (at_ + n)))) (Int.toNat (w64 (n - 4))) (ByteArray.size (ByteArray.extract text (Int.toNat at_) (Int.toNat (w64 (at_ + n)))))))] σ'1 r1 s) → ∃ d : D, (r1 = (.a (.one d) : RV)) ∧ Fw.newObj s (.live t_string [[.str (ByteArray.extract (ByteArray.extract text (Int.toNat at_) (Int.toNat (w64 (at_ + n)))) 0 (Int.toNat (w64 (n - 4))))]]) (fun (id : Nat) => fun (σ'2 : Store) => DCalls Tryz.prog n_pack_Reader_Long [.one d] σ'2 (fun (r2 : RV) => fun (σ'3 : Store) => ∃ n2 : Int, (r2 = (.a (.one (.int .i64 n2)) : RV)) ∧ DCalls Tryz.prog n_seal_Sum [.one (.osl id 0 1)] σ'3 (fun (r3 : RV) => fun (σ'4 : Store) => ∃ n3 : Int, (r3 = (.a (.one (.int .i64 n3)) : RV)) ∧ R1 (n2 != n3) σ'4)))))) → R σ') → bcase (decide (at_ < 0)) (Qp (.tup [.one (.str (ByteArray.mk (List.toArray []))), .one (.int .i64 0), .one (.int .i64 20)]) σ) (bcase (decide (at_ > (ByteArray.size text : Int))) (Qp (.tup [.one (.str (ByteArray.mk (List.toArray []))), .one (.int .i64 0), .one (.int .i64 20)]) σ) (R σ))
theorem W_seal_Next (text : ByteArray) (at_ : Int) (σ : Store) (Qp : RV → Store → Prop) (h : V_seal_Next text at_ σ Qp) : DCalls Tryz.prog n_seal_Next [.one (.str text), .one (.int .i64 at_)] σ Qp :=
  dcalls_of_body mixed (by kernel_rfl) Tryz.func160 an_seal_Next ((show V_seal_Next text at_ σ Qp = dbody Tryz.prog Tryz.f160 an_seal_Next [.one (.str text), .one (.int .i64 at_)] σ Qp by kernel_rfl) ▸ h)
def an_pack_trouble_well : Ann := { esc := [], cbs := [], draws := [], loops := [], joins := [] }
def V_pack_trouble_well (t : D) (σ : Store) (Qp : RV → Store → Prop) : Prop :=
  (NotNil t) ∧ ∃ s : D, ∃ i : Nat, ∃ off : Nat, (t = (.el s i off : D)) ∧ ∃ row : List D, (Row σ s i row) ∧ ∃ n : Int, ((List.take 1 (List.drop (off + 0) row)) = ([.int .i64 n] : List D)) ∧ Qp (.a (.one (.bool (n == 0)))) σ
theorem W_pack_trouble_well (t : D) (σ : Store) (Qp : RV → Store → Prop) (h : V_pack_trouble_well t σ Qp) : DCalls Tryz.prog n_pack_trouble_well [.one t] σ Qp :=
  dcalls_of_body mixed (by kernel_rfl) Tryz.func164 an_pack_trouble_well ((show V_pack_trouble_well t σ Qp = dbody Tryz.prog Tryz.f164 an_pack_trouble_well [.one t] σ Qp by kernel_rfl) ▸ h)
def an_slices_IndexFunc_Need : Ann := { esc := [], cbs := [], draws := [], loops := [(2, { mods := [(8, SlotSh.one (Sh.int IntKind.i64))], keep := [0, 1, 7] })], joins := [] }
def V_slices_IndexFunc_Need (s : D) (f : D) (σ : Store) (Qp : RV → Store → Prop) : Prop :=
  ∃ len : Nat, (Len s len) ∧ ∃ I : Int → Store → Prop, ∃ μ : Int → Store → Nat, (I 0 σ) ∧ ∀ n : Int, ∀ σ' : Store, (I n σ') → bcase (decide (n < (len : Int))) (∃ len1 : Nat, (Idx Tryz.prog σ' s 2 len1) ∧ ((0 : Int) ≤ n) ∧ (n < (len1 : Int)) ∧ ∃ row : List D, (Row σ' s (Int.toNat n) row) ∧ ∃ n1 : Int, ∃ n2 : Int, ((List.take 2 row) = ([.int .i64 n1, .int .i64 n2] : List D)) ∧ ∃ f1 : FuncId, ∃ a : List (Bool × (List D)), ∃ b : List (Bool × (List D)), ∃ as0' : List A, ∃ bs : List A, (f = (.fn f1 a b : D)) ∧ ((capAs a) = (Option.some as0')) ∧ ((capAs b) = (Option.some bs)) ∧ DCalls Tryz.prog f1 (HAppend.hAppend (HAppend.hAppend as0' [.agg [.int .i64 n1, .int .i64 n2]]) bs) σ' (fun (r : RV) => fun (σ'1 : Store) => ∃ b1 : Bool, (r = (.a (.one (.bool b1)) : RV)) ∧ bcase b1 (Qp (.a (.one (.int .i64 n))) σ'1) ((I (w64 (n + 1)) σ'1) ∧ ((μ (w64 (n + 1)) σ'1) < (μ n σ'))))) (Qp (.a (.one (.int .i64 (-1)))) σ')
theorem W_slices_IndexFunc_Need (s : D) (f : D) (σ : Store) (Qp : RV → Store → Prop) (h : V_slices_IndexFunc_Need s f σ Qp) : DCalls Tryz.prog n_slices_IndexFunc_Need [.one s, .one f] σ Qp :=
  dcalls_of_body mixed (by kernel_rfl) Tryz.func172 an_slices_IndexFunc_Need ((show V_slices_IndexFunc_Need s f σ Qp = dbody Tryz.prog Tryz.f172 an_slices_IndexFunc_Need [.one s, .one f] σ Qp by kernel_rfl) ▸ h)
def an_slices_IndexFunc_Step : Ann := { esc := [], cbs := [], draws := [], loops := [(2, { mods := [(8, SlotSh.one (Sh.int IntKind.i64))], keep := [0, 1, 7] })], joins := [] }
def V_slices_IndexFunc_Step (s : D) (f : D) (σ : Store) (Qp : RV → Store → Prop) : Prop :=
  ∃ len : Nat, (Len s len) ∧ ∃ I : Int → Store → Prop, ∃ μ : Int → Store → Nat, (I 0 σ) ∧ ∀ n : Int, ∀ σ' : Store, (I n σ') → bcase (decide (n < (len : Int))) (∃ len1 : Nat, (Idx Tryz.prog σ' s 3 len1) ∧ ((0 : Int) ≤ n) ∧ (n < (len1 : Int)) ∧ ∃ row : List D, (Row σ' s (Int.toNat n) row) ∧ ∃ n1 : Int, ∃ n2 : Int, ∃ n3 : Int, ((List.take 3 row) = ([.int .i64 n1, .int .i64 n2, .int .i64 n3] : List D)) ∧ ∃ f1 : FuncId, ∃ a : List (Bool × (List D)), ∃ b : List (Bool × (List D)), ∃ as0' : List A, ∃ bs : List A, (f = (.fn f1 a b : D)) ∧ ((capAs a) = (Option.some as0')) ∧ ((capAs b) = (Option.some bs)) ∧ DCalls Tryz.prog f1 (HAppend.hAppend (HAppend.hAppend as0' [.agg [.int .i64 n1, .int .i64 n2, .int .i64 n3]]) bs) σ' (fun (r : RV) => fun (σ'1 : Store) => ∃ b1 : Bool, (r = (.a (.one (.bool b1)) : RV)) ∧ bcase b1 (Qp (.a (.one (.int .i64 n))) σ'1) ((I (w64 (n + 1)) σ'1) ∧ ((μ (w64 (n + 1)) σ'1) < (μ n σ'))))) (Qp (.a (.one (.int .i64 (-1)))) σ')
theorem W_slices_IndexFunc_Step (s : D) (f : D) (σ : Store) (Qp : RV → Store → Prop) (h : V_slices_IndexFunc_Step s f σ Qp) : DCalls Tryz.prog n_slices_IndexFunc_Step [.one s, .one f] σ Qp :=
  dcalls_of_body mixed (by kernel_rfl) Tryz.func176 an_slices_IndexFunc_Step ((show V_slices_IndexFunc_Step s f σ Qp = dbody Tryz.prog Tryz.f176 an_slices_IndexFunc_Step [.one s, .one f] σ Qp by kernel_rfl) ▸ h)
end Go.Proofs.YtaklhjodjbgmgaaGreat
end
section
set_option maxRecDepth 100000
set_option linter.unusedVariables false
namespace Go.Proofs.YtaklhjodjbgmgaaGreat
open Go.Fw Go.Proofs
def an_law19_lives : Ann := { esc := [], cbs := [], draws := [], loops := [], joins := [(4, { mods := [], keep := [1] }), (8, { mods := [], keep := [1] })], frz := [8, 10] }
def V_law19_lives (σ : Store) (Qp : RV → Store → Prop) : Prop :=
  DCalls Tryz.prog n_law19_station [] σ (fun (r : RV) => fun (σ' : Store) => ∃ d : D, ∃ d1 : D, ∃ d2 : D, ∃ d3 : D, ∃ d4 : D, ∃ n : Int, ∃ n1 : Int, ∃ n2 : Int, ∃ n3 : Int, (r = (.a (.agg [d, d1, d2, d3, d4, .int .i64 n, .int .i64 n1, .int .i64 n2, .int .i64 n3]) : RV)) ∧ DCalls Tryz.prog n_yard_New [.agg [d, d1, d2, d3, d4, .int .i64 n, .int .i64 n1, .int .i64 n2, .int .i64 n3], .one (.sl 2 [[.sl 1 [[.int .i64 0]], .int .i64 1]])] σ' (fun (r1 : RV) => fun (σ'1 : Store) => ∃ d5 : D, ∃ n4 : Int, (r1 = (.tup [.one d5, .one (.int .i64 n4)] : RV)) ∧ ∀ R : Store → Prop, (∀ σ'2 : Store, (DCalls Tryz.prog n_yard_Yard_Tick [.one d5, .one (.int .i64 5)] σ'2 (fun (r2 : RV) => fun (σ'3 : Store) => (r2 = (.tup [] : RV)) ∧ DCalls Tryz.prog n_ref09_Make [.one (.int .i64 50), .one (.int .i64 1), .one (.int .i64 5), .one (.str (ByteArray.mk (List.toArray [2, 0, 2, 0])))] σ'3 (fun (r3 : RV) => fun (σ'4 : Store) => ∃ s : ByteArray, ∃ n5 : Int, (r3 = (.tup [.one (.str s), .one (.int .i64 n5)] : RV)) ∧ ∀ R1 : Store → Prop, (∀ σ'5 : Store, (DCalls Tryz.prog n_yard_Yard_Look [.one d5] σ'5 (fun (r4 : RV) => fun (σ'6 : Store) => (r4 = (.tup [] : RV)) ∧ DCalls Tryz.prog n_yard_Yard_Move [.one d5, .one (.int .i64 0)] σ'6 (fun (r5 : RV) => fun (σ'7 : Store) => ∃ n6 : Int, (r5 = (.a (.one (.int .i64 n6)) : RV)) ∧ bcase (n6 != 0) (Qp (.a (.one (.bool false))) σ'7) (DCalls Tryz.prog n_yard_Yard_Trains [.one d5] σ'7 (fun (r6 : RV) => fun (σ'8 : Store) => ∃ d6 : D, (r6 = (.a (.one d6) : RV)) ∧ ∃ len : Nat, (Len d6 len) ∧ bcase ((len : Int) == 1) (∃ len1 : Nat, (Idx Tryz.prog σ'8 d6 2 len1) ∧ ((0 : Int) ≤ 0) ∧ ((0 : Int) < (len1 : Int)) ∧ ∃ row : List D, (Row σ'8 d6 0 row) ∧ ∃ d7 : D, ((List.take 1 row) = ([d7] : List D)) ∧ ∃ len2 : Nat, (Len d7 len2) ∧ bcase ((len2 : Int) == 2) (∃ len3 : Nat, (Idx Tryz.prog σ'8 d6 2 len3) ∧ ((0 : Int) ≤ 0) ∧ ((0 : Int) < (len3 : Int)) ∧ ∃ row1 : List D, (Row σ'8 d6 0 row1) ∧ ∃ d8 : D, ((List.take 1 row1) = ([d8] : List D)) ∧ ∃ len4 : Nat, (Idx Tryz.prog σ'8 d8 1 len4) ∧ ((0 : Int) ≤ 0) ∧ ((0 : Int) < (len4 : Int)) ∧ ∃ row2 : List D, (Row σ'8 d8 0 row2) ∧ ∃ n7 : Int, ((List.take 1 row2) = ([.int .i64 n7] : List D)) ∧ bcase (n7 == 1) (∃ len5 : Nat, (Idx Tryz.prog σ'8 d6 2 len5) ∧ ((0 : Int) ≤ 0) ∧ ((0 : Int) < (len5 : Int)) ∧ ∃ row3 : List D, (Row σ'8 d6 0 row3) ∧ ∃ n8 : Int, ((List.take 1 (List.drop 1 row3)) = ([.int .i64 n8] : List D)) ∧ bcase (n8 == 1) (DCalls Tryz.prog n_yard_Yard_Hits [.one d5] σ'8 (fun (r7 : RV) => fun (σ'9 : Store) => ∃ d9 : D, (r7 = (.a (.one d9) : RV)) ∧ ∃ len6 : Nat, (Len d9 len6) ∧ Qp (.a (.one (.bool ((len6 : Int) == 0)))) σ'9)) (Qp (.a (.one (.bool false))) σ'8)) (Qp (.a (.one (.bool false))) σ'8)) (Qp (.a (.one (.bool false))) σ'8)) (Qp (.a (.one (.bool false))) σ'8)))))) → R1 σ'5) → DCalls Tryz.prog n_yard_Yard_Take [.one d5, .one (.int .i64 0), .one (.str s)] σ'4 (fun (r4 : RV) => fun (σ'5 : Store) => ∃ n6 : Int, (r4 = (.a (.one (.int .i64 n6)) : RV)) ∧ bcase (n6 != 0) (Qp (.a (.one (.bool false))) σ'5) (DCalls Tryz.prog n_yard_Yard_Shows [.one d5, .one (.int .i64 0)] σ'5 (fun (r5 : RV) => fun (σ'6 : Store) => ∃ n7 : Int, (r5 = (.a (.one (.int .i64 n7)) : RV)) ∧ bcase (n7 != 2) (Qp (.a (.one (.bool false))) σ'6) (R1 σ'6))))))) → R σ'2) → ∃ b : Bool, (IsNil .pt d5 b) ∧ bcase (b != false) (Qp (.a (.one (.bool false))) σ'1) (bcase (n4 != 0) (Qp (.a (.one (.bool false))) σ'1) (DCalls Tryz.prog n_yard_Yard_Move [.one d5, .one (.int .i64 0)] σ'1 (fun (r2 : RV) => fun (σ'2 : Store) => ∃ n5 : Int, (r2 = (.a (.one (.int .i64 n5)) : RV)) ∧ bcase (n5 != 29) (Qp (.a (.one (.bool false))) σ'2) (R σ'2))))))
theorem W_law19_lives (σ : Store) (Qp : RV → Store → Prop) (h : V_law19_lives σ Qp) : DCalls Tryz.prog n_law19_lives [] σ Qp :=
  dcalls_of_body mixed (by kernel_rfl) Tryz.func8 an_law19_lives ((show V_law19_lives σ Qp = dbody Tryz.prog Tryz.f8 an_law19_lives [] σ Qp by kernel_rfl) ▸ h)
def an_ref09_Make : Ann := { esc := [], cbs := [], draws := [], loops := [], joins := [] }
def V_ref09_Make (peer : Int) (number : Int) (stamp : Int) (payload : ByteArray) (σ : Store) (Qp : RV → Store → Prop) : Prop :=
  DCalls Tryz.prog n_ref01_New [.one (.int .i64 7)] σ (fun (r : RV) => fun (σ' : Store) => ∃ d : D, (r = (.a (.one d) : RV)) ∧ DCalls Tryz.prog n_ref01_Writer_Num [.one d, .one (.int .i64 peer), .one (.int .i64 1)] σ' (fun (r1 : RV) => fun (σ'1 : Store) => (r1 = (.tup [] : RV)) ∧ DCalls Tryz.prog n_ref01_Writer_Num [.one d, .one (.int .i64 number), .one (.int .i64 2)] σ'1 (fun (r2 : RV) => fun (σ'2 : Store) => (r2 = (.tup [] : RV)) ∧ DCalls Tryz.prog n_ref01_Writer_Num [.one d, .one (.int .i64 stamp), .one (.int .i64 4)] σ'2 (fun (r3 : RV) => fun (σ'3 : Store) => (r3 = (.tup [] : RV)) ∧ DCalls Tryz.prog n_ref01_Writer_Done [.one d] σ'3 (fun (r4 : RV) => fun (σ'4 : Store) => ∃ s : ByteArray, ∃ n : Int, (r4 = (.tup [.one (.str s), .one (.int .i64 n)] : RV)) ∧ bcase (n != 0) (Qp (.tup [.one (.str (ByteArray.mk (List.toArray []))), .one (.int .i64 n)]) σ'4) (bcase (decide ((ByteArray.size payload : Int) > 1000)) (Qp (.tup [.one (.str (ByteArray.mk (List.toArray []))), .one (.int .i64 2)]) σ'4) ((((ByteArray.size s : Int) + (ByteArray.size payload : Int)) ≤ 9223372036854775807) ∧ DCalls Tryz.prog n_ref02_Seal [.one (.str (ByteArray.mk (Array.mk (HAppend.hAppend (Array.toList (ByteArray.data s)) (Array.toList (ByteArray.data payload))))))] σ'4 (fun (r5 : RV) => fun (σ'5 : Store) => ∃ s1 : ByteArray, ∃ n1 : Int, (r5 = (.tup [.one (.str s1), .one (.int .i64 n1)] : RV)) ∧ Qp (.tup [.one (.str s1), .one (.int .i64 n1)]) σ'5))))))))
theorem W_ref09_Make (peer : Int) (number : Int) (stamp : Int) (payload : ByteArray) (σ : Store) (Qp : RV → Store → Prop) (h : V_ref09_Make peer number stamp payload σ Qp) : DCalls Tryz.prog n_ref09_Make [.one (.int .i64 peer), .one (.int .i64 number), .one (.int .i64 stamp), .one (.str payload)] σ Qp :=
  dcalls_of_body mixed (by kernel_rfl) Tryz.func12 an_ref09_Make ((show V_ref09_Make peer number stamp payload σ Qp = dbody Tryz.prog Tryz.f12 an_ref09_Make [.one (.int .i64 peer), .one (.int .i64 number), .one (.int .i64 stamp), .one (.str payload)] σ Qp by kernel_rfl) ▸ h)
def an_yard_Yard_Shows : Ann := { esc := [], cbs := [], draws := [(3, { ord := [0, 1, 2, 3, 4, 5, 6, 7, 8, 9, 10, 11, 12, 13, 14, 15, 16, 17, 18, 19, 20, 21, 22, 23], nb := [], av := [], dir := [] }), (4, { ord := [0, 1, 2, 3, 4, 5, 6, 7, 8, 9, 10, 11, 12, 13, 14, 15, 16, 17, 18, 19, 20, 21, 22], nb := [], av := [], dir := [] })], loops := [], joins := [(3, { mods := [], keep := [0, 1] })] }
def V_yard_Yard_Shows (y : D) (x : Int) (σ : Store) (Qp : RV → Store → Prop) : Prop :=
  ∀ R : Store → Prop, (∀ σ' : Store, ((NotNil y) ∧ ∃ s : D, ∃ i : Nat, ∃ off : Nat, (y = (.el s i off : D)) ∧ ∃ row : List D, (Row σ' s i row) ∧ ∃ d : D, ((List.take 1 (List.drop (off + 13) row)) = ([d] : List D)) ∧ (NotNil y) ∧ ∃ s1 : D, ∃ i1 : Nat, ∃ off1 : Nat, (y = (.el s1 i1 off1 : D)) ∧ ∃ row1 : List D, (Row σ' s1 i1 row1) ∧ ∃ d1 : D, ((List.take 1 (List.drop ((off1 + 1) + 0) row1)) = ([d1] : List D)) ∧ (NotNil y) ∧ ∃ s2 : D, ∃ i2 : Nat, ∃ off2 : Nat, (y = (.el s2 i2 off2 : D)) ∧ ∃ row2 : List D, (Row σ' s2 i2 row2) ∧ ∃ d2 : D, ((List.take 1 (List.drop ((off2 + 1) + 2) row2)) = ([d2] : List D)) ∧ ∃ len : Nat, (Idx Tryz.prog σ' d2 2 len) ∧ ((0 : Int) ≤ x) ∧ (x < (len : Int)) ∧ ∃ row3 : List D, (Row σ' d2 (Int.toNat x) row3) ∧ ∃ n : Int, ((List.take 1 row3) = ([.int .i64 n] : List D)) ∧ ∃ len1 : Nat, (Idx Tryz.prog σ' d1 3 len1) ∧ ((0 : Int) ≤ n) ∧ (n < (len1 : Int)) ∧ ∃ row4 : List D, (Row σ' d1 (Int.toNat n) row4) ∧ ∃ n1 : Int, ((List.take 1 (List.drop 1 row4)) = ([.int .i64 n1] : List D)) ∧ ∃ len2 : Nat, (Idx Tryz.prog σ' d 1 len2) ∧ ((0 : Int) ≤ n1) ∧ (n1 < (len2 : Int)) ∧ ∃ row5 : List D, (Row σ' d (Int.toNat n1) row5) ∧ ∃ d3 : D, ((List.take 1 row5) = ([d3] : List D)) ∧ (NotNil d3) ∧ ∃ s3 : D, ∃ i3 : Nat, ∃ off3 : Nat, (d3 = (.el s3 i3 off3 : D)) ∧ ∃ row6 : List D, (Row σ' s3 i3 row6) ∧ ∃ n2 : Int, ((List.take 1 (List.drop (off3 + 5) row6)) = ([.int .i64 n2] : List D)) ∧ bcase (decide (n2 < 0)) (Qp (.a (.one (.int .i64 0))) σ') ((NotNil y) ∧ ∃ s4 : D, ∃ i4 : Nat, ∃ off4 : Nat, (y = (.el s4 i4 off4 : D)) ∧ ∃ row7 : List D, (Row σ' s4 i4 row7) ∧ ∃ n3 : Int, ((List.take 1 (List.drop (off4 + 15) row7)) = ([.int .i64 n3] : List D)) ∧ (NotNil d3) ∧ ∃ s5 : D, ∃ i5 : Nat, ∃ off5 : Nat, (d3 = (.el s5 i5 off5 : D)) ∧ ∃ row8 : List D, (Row σ' s5 i5 row8) ∧ ∃ n4 : Int, ((List.take 1 (List.drop (off5 + 5) row8)) = ([.int .i64 n4] : List D)) ∧ (NotNil y) ∧ ∃ s6 : D, ∃ i6 : Nat, ∃ off6 : Nat, (y = (.el s6 i6 off6 : D)) ∧ ∃ row9 : List D, (Row σ' s6 i6 row9) ∧ ∃ n5 : Int, ((List.take 1 (List.drop (((off6 + 1) + 5) + 0) row9)) = ([.int .i64 n5] : List D)) ∧ bcase (decide ((w64 (n3 - n4)) > n5)) (Qp (.a (.one (.int .i64 0))) σ') ((NotNil y) ∧ ∃ s7 : D, ∃ i7 : Nat, ∃ off7 : Nat, (y = (.el s7 i7 off7 : D)) ∧ ∃ row10 : List D, (Row σ' s7 i7 row10) ∧ ∃ d4 : D, ((List.take 1 (List.drop (off7 + 12) row10)) = ([d4] : List D)) ∧ ∃ len3 : Nat, (Idx Tryz.prog σ' d4 2 len3) ∧ ((0 : Int) ≤ x) ∧ (x < (len3 : Int)) ∧ ∃ row11 : List D, (Row σ' d4 (Int.toNat x) row11) ∧ ∃ n6 : Int, ((List.take 1 row11) = ([.int .i64 n6] : List D)) ∧ Qp (.a (.one (.int .i64 n6))) σ'))) → R σ') → bcase (decide (x < 0)) (Qp (.a (.one (.int .i64 0))) σ) ((NotNil y) ∧ ∃ s : D, ∃ i : Nat, ∃ off : Nat, (y = (.el s i off : D)) ∧ ∃ row : List D, (Row σ s i row) ∧ ∃ d : D, ((List.take 1 (List.drop (off + 12) row)) = ([d] : List D)) ∧ ∃ len : Nat, (Len d len) ∧ bcase (decide (x ≥ (len : Int))) (Qp (.a (.one (.int .i64 0))) σ) (R σ))
theorem W_yard_Yard_Shows (y : D) (x : Int) (σ : Store) (Qp : RV → Store → Prop) (h : V_yard_Yard_Shows y x σ Qp) : DCalls Tryz.prog n_yard_Yard_Shows [.one y, .one (.int .i64 x)] σ Qp :=
  dcalls_of_body mixed (by kernel_rfl) Tryz.func16 an_yard_Yard_Shows ((show V_yard_Yard_Shows y x σ Qp = dbody Tryz.prog Tryz.f16 an_yard_Yard_Shows [.one y, .one (.int .i64 x)] σ Qp by kernel_rfl) ▸ h)
def an_yard_Yard_Tail : Ann := { esc := [], cbs := [], draws := [(6, { ord := [0, 1, 2, 3, 4, 5, 6, 7, 8, 9, 10, 11, 12, 13, 14], nb := [], av := [], dir := [] })], loops := [], joins := [] }
def V_yard_Yard_Tail (y : D) (t : Int) (σ : Store) (Qp : RV → Store → Prop) : Prop :=
  DCalls Tryz.prog n_yard_Yard_train [.one y, .one (.int .i64 t)] σ (fun (r : RV) => fun (σ' : Store) => ∃ d : D, (r = (.a (.one d) : RV)) ∧ ∃ b : Bool, (IsNil .pt d b) ∧ bcase (b != false) (Qp (.a (.one (.int .i64 30))) σ') ((NotNil d) ∧ ∃ s : D, ∃ i : Nat, ∃ off : Nat, (d = (.el s i off : D)) ∧ ∃ row : List D, (Row σ' s i row) ∧ ∃ d1 : D, ((List.take 1 (List.drop (off + 0) row)) = ([d1] : List D)) ∧ ∃ len : Nat, (Len d1 len) ∧ bcase ((len : Int) == 1) (Qp (.a (.one (.int .i64 29))) σ') ((NotNil d) ∧ ∃ s1 : D, ∃ i1 : Nat, ∃ off1 : Nat, (d = (.el s1 i1 off1 : D)) ∧ ∃ row1 : List D, (Row σ' s1 i1 row1) ∧ ∃ d2 : D, ((List.take 1 (List.drop (off1 + 0) row1)) = ([d2] : List D)) ∧ (NotNil d) ∧ ∃ s2 : D, ∃ i2 : Nat, ∃ off2 : Nat, (d = (.el s2 i2 off2 : D)) ∧ ∃ row2 : List D, (Row σ' s2 i2 row2) ∧ ∃ d3 : D, ((List.take 1 (List.drop (off2 + 0) row2)) = ([d3] : List D)) ∧ ∃ len1 : Nat, (Len d3 len1) ∧ ∃ len2 : Nat, (IdxN Tryz.prog σ' d2 1 len2) ∧ ((0 : Int) ≤ 0) ∧ ((0 : Int) ≤ (w64 ((len1 : Int) - 1))) ∧ ((w64 ((len1 : Int) - 1)) ≤ (len2 : Int)) ∧ (NotNil d) ∧ ∃ s3 : D, ∃ i3 : Nat, ∃ off3 : Nat, (d = (.el s3 i3 off3 : D)) ∧ storeEl [dsub d2 0 (Int.toNat (w64 ((len1 : Int) - 1)))] σ' s3 i3 (off3 + 0) (fun (σ'1 : Store) => Qp (.a (.one (.int .i64 0))) σ'1))))
theorem W_yard_Yard_Tail (y : D) (t : Int) (σ : Store) (Qp : RV → Store → Prop) (h : V_yard_Yard_Tail y t σ Qp) : DCalls Tryz.prog n_yard_Yard_Tail [.one y, .one (.int .i64 t)] σ Qp :=
  dcalls_of_body mixed (by kernel_rfl) Tryz.func20 an_yard_Yard_Tail ((show V_yard_Yard_Tail y t σ Qp = dbody Tryz.prog Tryz.f20 an_yard_Yard_Tail [.one y, .one (.int .i64 t)] σ Qp by kernel_rfl) ▸ h)
def an_conf_Check : Ann := { esc := [], cbs := [1], draws := [], loops := [(11, { mods := [(33, SlotSh.one (Sh.int IntKind.i64))], keep := [1, 3, 31, 32] })], joins := [] }
def V_conf_Check (c0 : D) (c1 : D) (c2 : D) (c3 : D) (c4 : D) (c5 : Int) (c6 : Int) (c7 : Int) (c8 : Int) (σ : Store) (Qp : RV → Store → Prop) : Prop :=
  DCalls Tryz.prog n_topo_Check [.one c0, .one c1] σ (fun (r : RV) => fun (σ' : Store) => ∃ n : Int, (r = (.a (.one (.int .i64 n)) : RV)) ∧ bcase (n != 0) (Qp (.a (.one (.int .i64 6))) σ') (DCalls Tryz.prog n_conf_plan_signals [.agg [c0, c1, c2, c3, c4, .int .i64 c5, .int .i64 c6, .int .i64 c7, .int .i64 c8]] σ' (fun (r1 : RV) => fun (σ'1 : Store) => ∃ b : Bool, (r1 = (.a (.one (.bool b)) : RV)) ∧ bcase (!b) (Qp (.a (.one (.int .i64 7))) σ'1) (DCalls Tryz.prog n_conf_plan_crossings [.agg [c0, c1, c2, c3, c4, .int .i64 c5, .int .i64 c6, .int .i64 c7, .int .i64 c8]] σ'1 (fun (r2 : RV) => fun (σ'2 : Store) => ∃ b1 : Bool, (r2 = (.a (.one (.bool b1)) : RV)) ∧ bcase (!b1) (Qp (.a (.one (.int .i64 8))) σ'2) (∃ len : Nat, (Len c4 len) ∧ bcase (decide ((len : Int) > 12)) (Qp (.a (.one (.int .i64 9))) σ'2) (∃ len1 : Nat, (Len c4 len1) ∧ ∃ I : Int → Store → Prop, ∃ μ : Int → Store → Nat, (I 0 σ'2) ∧ ∀ n1 : Int, ∀ σ'3 : Store, (I n1 σ'3) → bcase (decide (n1 < (len1 : Int))) (∃ len2 : Nat, (Idx Tryz.prog σ'3 c4 6 len2) ∧ ((0 : Int) ≤ n1) ∧ (n1 < (len2 : Int)) ∧ ∃ row : List D, (Row σ'3 c4 (Int.toNat n1) row) ∧ ∃ n2 : Int, ∃ n3 : Int, ∃ d : D, ∃ d1 : D, ∃ d2 : D, ∃ b2 : Bool, ((List.take 6 row) = ([.int .i64 n2, .int .i64 n3, d, d1, d2, .bool b2] : List D)) ∧ DCalls Tryz.prog n_conf_plan_route [.agg [c0, c1, c2, c3, c4, .int .i64 c5, .int .i64 c6, .int .i64 c7, .int .i64 c8], .agg [.int .i64 n2, .int .i64 n3, d, d1, d2, .bool b2]] σ'3 (fun (r3 : RV) => fun (σ'4 : Store) => ∃ n4 : Int, (r3 = (.a (.one (.int .i64 n4)) : RV)) ∧ bcase (n4 != 0) (Qp (.a (.one (.int .i64 n4))) σ'4) ((([[c0, c1, c2, c3, c4, .int .i64 c5, .int .i64 c6, .int .i64 c7, .int .i64 c8]] : List (List D)) = ([[c0, c1, c2, c3, c4, .int .i64 c5, .int .i64 c6, .int .i64 c7, .int .i64 c8]] : List (List D))) ∧ (I (w64 (n1 + 1)) σ'4) ∧ ((μ (w64 (n1 + 1)) σ'4) < (μ n1 σ'3))))) (DCalls Tryz.prog n_conf_between [.one (.int .i64 c5), .one (.int .i64 1), .one (.int .i64 8)] σ'3 (fun (r3 : RV) => fun (σ'4 : Store) => ∃ b2 : Bool, (r3 = (.a (.one (.bool b2)) : RV)) ∧ bcase (!b2) (Qp (.a (.one (.int .i64 12))) σ'4) (DCalls Tryz.prog n_conf_between [.one (.int .i64 c6), .one (.int .i64 0), .one (.int .i64 8)] σ'4 (fun (r4 : RV) => fun (σ'5 : Store) => ∃ b3 : Bool, (r4 = (.a (.one (.bool b3)) : RV)) ∧ bcase (!b3) (Qp (.a (.one (.int .i64 12))) σ'5) (DCalls Tryz.prog n_conf_between [.one (.int .i64 c7), .one (.int .i64 (w64 ((w64 (c5 + c6)) + 1))), .one (.int .i64 40)] σ'5 (fun (r5 : RV) => fun (σ'6 : Store) => ∃ b4 : Bool, (r5 = (.a (.one (.bool b4)) : RV)) ∧ bcase (!b4) (Qp (.a (.one (.int .i64 12))) σ'6) (DCalls Tryz.prog n_conf_between [.one (.int .i64 c8), .one (.int .i64 1), .one (.int .i64 1000000)] σ'6 (fun (r6 : RV) => fun (σ'7 : Store) => ∃ b5 : Bool, (r6 = (.a (.one (.bool b5)) : RV)) ∧ bcase (!b5) (Qp (.a (.one (.int .i64 12))) σ'7) (Qp (.a (.one (.int .i64 0))) σ'7))))))))))))))))
theorem W_conf_Check (c0 : D) (c1 : D) (c2 : D) (c3 : D) (c4 : D) (c5 : Int) (c6 : Int) (c7 : Int) (c8 : Int) (σ : Store) (Qp : RV → Store → Prop) (h : V_conf_Check c0 c1 c2 c3 c4 c5 c6 c7 c8 σ Qp) : DCalls Tryz.prog n_conf_Check [.agg [c0, c1, c2, c3, c4, .int .i64 c5, .int .i64 c6, .int .i64 c7, .int .i64 c8]] σ Qp :=
  dcalls_of_body mixed (by kernel_rfl) Tryz.func28 an_conf_Check ((show V_conf_Check c0 c1 c2 c3 c4 c5 c6 c7 c8 σ Qp = dbody Tryz.prog Tryz.f28 an_conf_Check [.agg [c0, c1, c2, c3, c4, .int .i64 c5, .int .i64 c6, .int .i64 c7, .int .i64 c8]] σ Qp by kernel_rfl) ▸ h)
def an_slices_Clone_int : Ann := { esc := [], cbs := [], draws := [], loops := [], joins := [] }
def V_slices_Clone_int (s : D) (σ : Store) (Qp : RV → Store → Prop) : Prop :=
  ∃ b : Bool, (IsNil .sl s b) ∧ bcase (b != false) (Qp (.a (.one .nils)) σ) (Fw.newObj σ (.live t_int []) (fun (id : Nat) => fun (σ' : Store) => appendTo Tryz.prog σ' t_int 8 (.osl id 0 0) s (fun (d : D) => fun (σ'1 : Store) => Qp (.a (.one d)) σ'1)))
theorem W_slices_Clone_int (s : D) (σ : Store) (Qp : RV → Store → Prop) (h : V_slices_Clone_int s σ Qp) : DCalls Tryz.prog n_slices_Clone_int [.one s] σ Qp :=
  dcalls_of_body mixed (by kernel_rfl) Tryz.func32 an_slices_Clone_int ((show V_slices_Clone_int s σ Qp = dbody Tryz.prog Tryz.f32 an_slices_Clone_int [.one s] σ Qp by kernel_rfl) ▸ h)
def an_link_NewReceiver : Ann := { esc := [9], cbs := [], draws := [], loops := [], joins := [] }
def V_link_NewReceiver (peer : Int) (age : Int) (σ : Store) (Qp : RV → Store → Prop) : Prop :=
  Fw.newObj σ (.live t_link_Receiver [[.int .i64 (-1), .int .i64 0, .int .i64 0, .int .i64 peer, .int .i64 age]]) (fun (id : Nat) => fun (σ' : Store) => Qp (.a (.one (.el (.osl id 0 1) 0 0))) σ')
theorem W_link_NewReceiver (peer : Int) (age : Int) (σ : Store) (Qp : RV → Store → Prop) (h : V_link_NewReceiver peer age σ Qp) : DCalls Tryz.prog n_link_NewReceiver [.one (.int .i64 peer), .one (.int .i64 age)] σ Qp :=
  dcalls_of_body mixed (by kernel_rfl) Tryz.func36 an_link_NewReceiver ((show V_link_NewReceiver peer age σ Qp = dbody Tryz.prog Tryz.f36 an_link_NewReceiver [.one (.int .i64 peer), .one (.int .i64 age)] σ Qp by kernel_rfl) ▸ h)
def an_ref10_bytes : Ann := { esc := [], cbs := [], draws := [], loops := [(3, { mods := [(5, SlotSh.one (Sh.any)), (15, SlotSh.one (Sh.int IntKind.i64))], keep := [13, 14] }), (6, { mods := [(5, SlotSh.one (Sh.any)), (21, SlotSh.one (Sh.int IntKind.i64))], keep := [13, 14, 15, 19, 20] })], joins := [] }
def V_ref10_bytes (kind : Int) (lists : D) (σ : Store) (Qp : RV → Store → Prop) : Prop :=
  Fw.newObj σ (.live t_uint8 [[.int .u8 (IntKind.wrap .u8 kind)]]) (fun (id : Nat) => fun (σ' : Store) => ∃ len : Nat, (Len lists len) ∧ ∃ I : D → Int → Store → Prop, ∃ μ : D → Int → Store → Nat, (I (.osl id 0 1) 0 σ') ∧ ∀ d : D, ∀ n : Int, ∀ σ'1 : Store, (I d n σ'1) → bcase (decide (n < (len : Int))) (∃ len1 : Nat, (Idx Tryz.prog σ'1 lists 1 len1) ∧ ((0 : Int) ≤ n) ∧ (n < (len1 : Int)) ∧ ∃ row : List D, (Row σ'1 lists (Int.toNat n) row) ∧ ∃ d1 : D, ((List.take 1 row) = ([d1] : List D)) ∧ ∃ len2 : Nat, (Len d1 len2) ∧ ∃ I1 : D → Int → Store → Prop, ∃ μ1 : D → Int → Store → Nat, (I1 d 0 σ'1) ∧ ∀ d2 : D, ∀ n1 : Int, ∀ σ'2 : Store, (I1 d2 n1 σ'2) → bcase (decide (n1 < (len2 : Int))) (∃ len3 : Nat, (Idx Tryz.prog σ'2 d1 1 len3) ∧ ((0 : Int) ≤ n1) ∧ (n1 < (len3 : Int)) ∧ ∃ row1 : List D, (Row σ'2 d1 (Int.toNat n1) row1) ∧ ∃ n2 : Int, ((List.take 1 row1) = ([.int .i64 n2] : List D)) ∧ Fw.newObj σ'2 (.live t_uint8 [[.int .u8 (IntKind.wrap .u8 n2)]]) (fun (id1 : Nat) => fun (σ'3 : Store) => appendTo Tryz.prog σ'3 t_uint8 1 d2 (.osl id1 0 1) (fun (d3 : D) => fun (σ'4 : Store) => (I1 d3 (w64 (n1 + 1)) σ'4) ∧ ((μ1 d3 (w64 (n1 + 1)) σ'4) < (μ1 d2 n1 σ'2))))) ((I d2 (w64 (n + 1)) σ'2) ∧ ((μ d2 (w64 (n + 1)) σ'2) < (μ d n σ'1)))) (∃ b : ByteArray, (Fw.Rows Tryz.prog σ'1 t_uint8 d (bytesD b)) ∧ Qp (.a (.one (.str b))) σ'1))
theorem W_ref10_bytes (kind : Int) (lists : D) (σ : Store) (Qp : RV → Store → Prop) (h : V_ref10_bytes kind lists σ Qp) : DCalls Tryz.prog n_ref10_bytes [.one (.int .i64 kind), .one lists] σ Qp :=
  dcalls_of_body mixed (by kernel_rfl) Tryz.func40 an_ref10_bytes ((show V_ref10_bytes kind lists σ Qp = dbody Tryz.prog Tryz.f40 an_ref10_bytes [.one (.int .i64 kind), .one lists] σ Qp by kernel_rfl) ▸ h)
def an_ref02_Seal : Ann := { esc := [], cbs := [], draws := [], loops := [], joins := [] }
def V_ref02_Seal (body : ByteArray) (σ : Store) (Qp : RV → Store → Prop) : Prop :=
  bcase (decide ((ByteArray.size body : Int) > 1024)) (Qp (.tup [.one (.str (ByteArray.mk (List.toArray []))), .one (.int .i64 2)]) σ) (DCalls Tryz.prog n_ref02_big [.one (.int .i64 (ByteArray.size body : Int)), .one (.int .i64 2)] σ (fun (r : RV) => fun (σ' : Store) => ∃ s : ByteArray, (r = (.a (.one (.str s)) : RV)) ∧ (((ByteArray.size s : Int) + (ByteArray.size body : Int)) ≤ 9223372036854775807) ∧ DCalls Tryz.prog n_ref02_Sum [.one (.str (ByteArray.mk (Array.mk (HAppend.hAppend (Array.toList (ByteArray.data s)) (Array.toList (ByteArray.data body))))))] σ' (fun (r1 : RV) => fun (σ'1 : Store) => ∃ n : Int, (r1 = (.a (.one (.int .i64 n)) : RV)) ∧ DCalls Tryz.prog n_ref02_big [.one (.int .i64 n), .one (.int .i64 4)] σ'1 (fun (r2 : RV) => fun (σ'2 : Store) => ∃ s1 : ByteArray, (r2 = (.a (.one (.str s1)) : RV)) ∧ (((ByteArray.size (ByteArray.mk (Array.mk (HAppend.hAppend (Array.toList (ByteArray.data s)) (Array.toList (ByteArray.data body))))) : Int) + (ByteArray.size s1 : Int)) ≤ 9223372036854775807) ∧ Qp (.tup [.one (.str (ByteArray.mk (Array.mk (HAppend.hAppend (Array.toList (ByteArray.data (ByteArray.append s body))) (Array.toList (ByteArray.data s1)))))), .one (.int .i64 0)]) σ'2))))
theorem W_ref02_Seal (body : ByteArray) (σ : Store) (Qp : RV → Store → Prop) (h : V_ref02_Seal body σ Qp) : DCalls Tryz.prog n_ref02_Seal [.one (.str body)] σ Qp :=
  dcalls_of_body mixed (by kernel_rfl) Tryz.func44 an_ref02_Seal ((show V_ref02_Seal body σ Qp = dbody Tryz.prog Tryz.f44 an_ref02_Seal [.one (.str body)] σ Qp by kernel_rfl) ▸ h)
def an_tele_ReadOrders : Ann := { esc := [6], cbs := [2], draws := [], loops := [], joins := [] }
def V_tele_ReadOrders (h0 : D) (h1 : D) (h2 : D) (h3 : D) (text : ByteArray) (σ : Store) (Qp : RV → Store → Prop) : Prop :=
  Fw.newObj σ (.live t_Orders [[.nils, .nils, .nils]]) (fun (id : Nat) => fun (σ' : Store) => DCalls Tryz.prog n_tele_orders [.agg [h0, h1, h2, h3], .one (.el (.osl id 0 1) 0 0)] σ' (fun (r : RV) => fun (σ'1 : Store) => ∃ d : D, (r = (.a (.one d) : RV)) ∧ DCalls Tryz.prog n_tele_read [.one (.str text), .one (.int .i64 2), .one d] σ'1 (fun (r1 : RV) => fun (σ'2 : Store) => ∃ n : Int, (r1 = (.a (.one (.int .i64 n)) : RV)) ∧ bcase (n != 0) (Qp (.tup [.agg [.nils, .nils, .nils], .one (.int .i64 n)]) σ'2) (∃ row : List D, (Row σ'2 (.osl id 0 1) 0 row) ∧ ∃ d1 : D, ∃ d2 : D, ∃ d3 : D, ((List.take 3 row) = ([d1, d2, d3] : List D)) ∧ Qp (.tup [.agg [d1, d2, d3], .one (.int .i64 0)]) σ'2))))
theorem W_tele_ReadOrders (h0 : D) (h1 : D) (h2 : D) (h3 : D) (text : ByteArray) (σ : Store) (Qp : RV → Store → Prop) (h : V_tele_ReadOrders h0 h1 h2 h3 text σ Qp) : DCalls Tryz.prog n_tele_ReadOrders [.agg [h0, h1, h2, h3], .one (.str text)] σ Qp :=
  dcalls_of_body mixed (by kernel_rfl) Tryz.func48 an_tele_ReadOrders ((show V_tele_ReadOrders h0 h1 h2 h3 text σ Qp = dbody Tryz.prog Tryz.f48 an_tele_ReadOrders [.agg [h0, h1, h2, h3], .one (.str text)] σ Qp by kernel_rfl) ▸ h)
def an_topo_Next : Ann := { esc := [], cbs := [], draws := [(5, { ord := [0, 1, 2, 3, 4, 5, 6], nb := [], av := [], dir := [] }), (7, { ord := [0, 1, 2, 3, 4, 5, 6], nb := [], av := [], dir := [] })], loops := [(2, { mods := [(13, SlotSh.one (Sh.int IntKind.i64))], keep := [1, 2, 11, 12] })], joins := [] }
def V_topo_Next (joints : D) (section_ : Int) (end_ : Int) (σ : Store) (Qp : RV → Store → Prop) : Prop :=
  ∃ len : Nat, (Len joints len) ∧ ∃ I : Int → Store → Prop, ∃ μ : Int → Store → Nat, (I 0 σ) ∧ ∀ n : Int, ∀ σ' : Store, (I n σ') → bcase (decide (n < (len : Int))) (∃ len1 : Nat, (Idx Tryz.prog σ' joints 4 len1) ∧ ((0 : Int) ≤ n) ∧ (n < (len1 : Int)) ∧ ∃ row : List D, (Row σ' joints (Int.toNat n) row) ∧ ∃ n1 : Int, ∃ n2 : Int, ∃ n3 : Int, ∃ n4 : Int, ((List.take 4 row) = ([.int .i64 n1, .int .i64 n2, .int .i64 n3, .int .i64 n4] : List D)) ∧ bcase (n1 == section_) (bcase (n2 == end_) (Qp (.tup [.one (.int .i64 n3), .one (.int .i64 n4), .one (.bool true)]) σ') (bcase (n3 == section_) (bcase (n4 == end_) (Qp (.tup [.one (.int .i64 n1), .one (.int .i64 n2), .one (.bool true)]) σ') ((I (w64 (n + 1)) σ') ∧ ((μ (w64 (n + 1)) σ') < (μ n σ')))) ((I (w64 (n + 1)) σ') ∧ ((μ (w64 (n + 1)) σ') < (μ n σ'))))) (bcase (n3 == section_) (bcase (n4 == end_) (Qp (.tup [.one (.int .i64 n1), .one (.int .i64 n2), .one (.bool true)]) σ') ((I (w64 (n + 1)) σ') ∧ ((μ (w64 (n + 1)) σ') < (μ n σ')))) ((I (w64 (n + 1)) σ') ∧ ((μ (w64 (n + 1)) σ') < (μ n σ'))))) (Qp (.tup [.one (.int .i64 0), .one (.int .i64 0), .one (.bool false)]) σ')
theorem W_topo_Next (joints : D) (section_ : Int) (end_ : Int) (σ : Store) (Qp : RV → Store → Prop) (h : V_topo_Next joints section_ end_ σ Qp) : DCalls Tryz.prog n_topo_Next [.one joints, .one (.int .i64 section_), .one (.int .i64 end_)] σ Qp :=
  dcalls_of_body mixed (by kernel_rfl) Tryz.func52 an_topo_Next ((show V_topo_Next joints section_ end_ σ Qp = dbody Tryz.prog Tryz.f52 an_topo_Next [.one joints, .one (.int .i64 section_), .one (.int .i64 end_)] σ Qp by kernel_rfl) ▸ h)
def an_yard_Yard_stands : Ann := { esc := [], cbs := [], draws := [], loops := [], joins := [] }
def V_yard_Yard_stands (y : D) (s : Int) (e_ : Int) (σ : Store) (Qp : RV → Store → Prop) : Prop :=
  (NotNil y) ∧ ∃ s1 : D, ∃ i : Nat, ∃ off : Nat, (y = (.el s1 i off : D)) ∧ ∃ row : List D, (Row σ s1 i row) ∧ ∃ d : D, ((List.take 1 (List.drop ((off + 1) + 1) row)) = ([d] : List D)) ∧ DCalls Tryz.prog n_topo_Next [.one d, .one (.int .i64 s), .one (.int .i64 e_)] σ (fun (r : RV) => fun (σ' : Store) => ∃ n : Int, ∃ n1 : Int, ∃ b : Bool, (r = (.tup [.one (.int .i64 n), .one (.int .i64 n1), .one (.bool b)] : RV)) ∧ bcase (!b) (Qp (.a (.one (.bool true))) σ') (DCalls Tryz.prog n_yard_Yard_signal [.one y, .one (.int .i64 s), .one (.int .i64 e_)] σ' (fun (r1 : RV) => fun (σ'1 : Store) => ∃ n2 : Int, (r1 = (.a (.one (.int .i64 n2)) : RV)) ∧ Qp (.a (.one (.bool (decide (n2 ≥ 0))))) σ'1)))
theorem W_yard_Yard_stands (y : D) (s : Int) (e_ : Int) (σ : Store) (Qp : RV → Store → Prop) (h : V_yard_Yard_stands y s e_ σ Qp) : DCalls Tryz.prog n_yard_Yard_stands [.one y, .one (.int .i64 s), .one (.int .i64 e_)] σ Qp :=
  dcalls_of_body mixed (by kernel_rfl) Tryz.func56 an_yard_Yard_stands ((show V_yard_Yard_stands y s e_ σ Qp = dbody Tryz.prog Tryz.f56 an_yard_Yard_stands [.one y, .one (.int .i64 s), .one (.int .i64 e_)] σ Qp by kernel_rfl) ▸ h)
def an_yard_Yard_shut : Ann := { esc := [], cbs := [], draws := [], loops := [], joins := [] }
def V_yard_Yard_shut (y : D) (i : Int) (σ : Store) (Qp : RV → Store → Prop) : Prop :=
  (NotNil y) ∧ ∃ s : D, ∃ i1 : Nat, ∃ off : Nat, (y = (.el s i1 off : D)) ∧ ∃ row : List D, (Row σ s i1 row) ∧ ∃ d : D, ((List.take 1 (List.drop (off + 11) row)) = ([d] : List D)) ∧ ∃ len : Nat, (Idx Tryz.prog σ d 3 len) ∧ ((0 : Int) ≤ i) ∧ (i < (len : Int)) ∧ DCalls Tryz.prog n_yard_thing_moves [.one (.el d (Int.toNat i) 0)] σ (fun (r : RV) => fun (σ' : Store) => ∃ b : Bool, (r = (.a (.one (.bool b)) : RV)) ∧ bcase (!b) ((NotNil y) ∧ ∃ s1 : D, ∃ i2 : Nat, ∃ off1 : Nat, (y = (.el s1 i2 off1 : D)) ∧ ∃ row1 : List D, (Row σ' s1 i2 row1) ∧ ∃ d1 : D, ((List.take 1 (List.drop (off1 + 11) row1)) = ([d1] : List D)) ∧ ∃ len1 : Nat, (Idx Tryz.prog σ' d1 3 len1) ∧ ((0 : Int) ≤ i) ∧ (i < (len1 : Int)) ∧ ∃ row2 : List D, (Row σ' d1 (Int.toNat i) row2) ∧ ∃ n : Int, ((List.take 1 row2) = ([.int .i64 n] : List D)) ∧ Qp (.a (.one (.bool (n == 1)))) σ') (Qp (.a (.one (.bool false))) σ'))
theorem W_yard_Yard_shut (y : D) (i : Int) (σ : Store) (Qp : RV → Store → Prop) (h : V_yard_Yard_shut y i σ Qp) : DCalls Tryz.prog n_yard_Yard_shut [.one y, .one (.int .i64 i)] σ Qp :=
  dcalls_of_body mixed (by kernel_rfl) Tryz.func76 an_yard_Yard_shut ((show V_yard_Yard_shut y i σ Qp = dbody Tryz.prog Tryz.f76 an_yard_Yard_shut [.one y, .one (.int .i64 i)] σ Qp by kernel_rfl) ▸ h)
def an_conf_plan_crossings : Ann := { esc := [], cbs := [1], draws := [], loops := [(3, { mods := [(13, SlotSh.one (Sh.int IntKind.i64))], keep := [1, 3, 11, 12] })], joins := [] }
def V_conf_plan_crossings (p0 : D) (p1 : D) (p2 : D) (p3 : D) (p4 : D) (p5 : Int) (p6 : Int) (p7 : Int) (p8 : Int) (σ : Store) (Qp : RV → Store → Prop) : Prop :=
  Fw.newObj σ (.mp 0 []) (fun (id : Nat) => fun (σ' : Store) => ∃ len : Nat, (Len p3 len) ∧ ∃ I : Int → Store → Prop, ∃ μ : Int → Store → Nat, (I 0 σ') ∧ ∀ n : Int, ∀ σ'1 : Store, (I n σ'1) → bcase (decide (n < (len : Int))) (∃ len1 : Nat, (Idx Tryz.prog σ'1 p3 1 len1) ∧ ((0 : Int) ≤ n) ∧ (n < (len1 : Int)) ∧ ∃ row : List D, (Row σ'1 p3 (Int.toNat n) row) ∧ ∃ n1 : Int, ((List.take 1 row) = ([.int .i64 n1] : List D)) ∧ DCalls Tryz.prog n_conf_plan_section [.agg [p0, p1, p2, p3, p4, .int .i64 p5, .int .i64 p6, .int .i64 p7, .int .i64 p8], .one (.int .i64 n1)] σ'1 (fun (r : RV) => fun (σ'2 : Store) => ∃ n2 : Int, ∃ n3 : Int, ∃ n4 : Int, ∃ b : Bool, (r = (.tup [.agg [.int .i64 n2, .int .i64 n3, .int .i64 n4], .one (.bool b)] : RV)) ∧ ∃ r1 : Option A, (MLook Tryz.prog t_int σ'2 (.omap id) (.one (.int .i64 n1)) r1) ∧ ∃ n5 : Int, ((Option.getD r1 (.one (.int .i64 0))) = (.one (.int .i64 n5) : A)) ∧ MPut Tryz.prog t_int σ'2 (.omap id) (.one (.int .i64 n1)) (.one (.int .i64 (w64 (n5 + 1)))) (fun (σ'3 : Store) => bcase (!b) (Qp (.a (.one (.bool false))) σ'3) (bcase (n4 != 0) (Qp (.a (.one (.bool false))) σ'3) (∃ r2 : Option A, (MLook Tryz.prog t_int σ'3 (.omap id) (.one (.int .i64 n1)) r2) ∧ ∃ n6 : Int, ((Option.getD r2 (.one (.int .i64 0))) = (.one (.int .i64 n6) : A)) ∧ bcase (decide (n6 > 1)) (Qp (.a (.one (.bool false))) σ'3) ((I (w64 (n + 1)) σ'3) ∧ ((μ (w64 (n + 1)) σ'3) < (μ n σ'1)))))))) (∃ len1 : Nat, (Len p3 len1) ∧ Qp (.a (.one (.bool (decide ((len1 : Int) ≤ 4))))) σ'1))
theorem W_conf_plan_crossings (p0 : D) (p1 : D) (p2 : D) (p3 : D) (p4 : D) (p5 : Int) (p6 : Int) (p7 : Int) (p8 : Int) (σ : Store) (Qp : RV → Store → Prop) (h : V_conf_plan_crossings p0 p1 p2 p3 p4 p5 p6 p7 p8 σ Qp) : DCalls Tryz.prog n_conf_plan_crossings [.agg [p0, p1, p2, p3, p4, .int .i64 p5, .int .i64 p6, .int .i64 p7, .int .i64 p8]] σ Qp :=
  dcalls_of_body mixed (by kernel_rfl) Tryz.func80 an_conf_plan_crossings ((show V_conf_plan_crossings p0 p1 p2 p3 p4 p5 p6 p7 p8 σ Qp = dbody Tryz.prog Tryz.f80 an_conf_plan_crossings [.agg [p0, p1, p2, p3, p4, .int .i64 p5, .int .i64 p6, .int .i64 p7, .int .i64 p8]] σ Qp by kernel_rfl) ▸ h)
def an_tele_Shape_1 : Ann := { esc := [], cbs := [], draws := [(1, { ord := [0, 1, 2, 3, 4, 5, 6, 7, 8, 9, 10, 11, 12, 13, 14, 15, 16, 17, 18, 19], nb := [], av := [], dir := [] })], loops := [], joins := [] }
def V_tele_Shape_1 (section_ : Int) (a1 : D) (a2 : D) (σ : Store) (Qp : RV → Store → Prop) : Prop :=
  bcase (decide (section_ ≥ 0)) (∃ s : D, ∃ i : Nat, ∃ off : Nat, (a1 = (.el s i off : D)) ∧ ∃ row : List D, (Row σ s i row) ∧ ∃ d : D, ((List.take 1 (List.drop (off + 0) row)) = ([d] : List D)) ∧ ∃ len : Nat, (Len d len) ∧ bcase (decide (section_ < (len : Int))) (∃ s1 : D, ∃ i1 : Nat, ∃ off1 : Nat, (a1 = (.el s1 i1 off1 : D)) ∧ ∃ row1 : List D, (Row σ s1 i1 row1) ∧ ∃ d1 : D, ((List.take 1 (List.drop (off1 + 0) row1)) = ([d1] : List D)) ∧ ∃ len1 : Nat, (Idx Tryz.prog σ d1 3 len1) ∧ ((0 : Int) ≤ section_) ∧ (section_ < (len1 : Int)) ∧ ∃ row2 : List D, (Row σ d1 (Int.toNat section_) row2) ∧ ∃ n : Int, ((List.take 1 (List.drop 1 row2)) = ([.int .i64 n] : List D)) ∧ ∃ s2 : D, ∃ i2 : Nat, ∃ off2 : Nat, (a2 = (.el s2 i2 off2 : D)) ∧ ∃ row3 : List D, (Row σ s2 i2 row3) ∧ ∃ n1 : Int, ((List.take 1 (List.drop off2 row3)) = ([.int .i64 n1] : List D)) ∧ Qp (.a (.one (.bool (n == n1)))) σ) (Qp (.a (.one (.bool false))) σ)) (Qp (.a (.one (.bool false))) σ)
theorem W_tele_Shape_1 (section_ : Int) (a1 : D) (a2 : D) (σ : Store) (Qp : RV → Store → Prop) (h : V_tele_Shape_1 section_ a1 a2 σ Qp) : DCalls Tryz.prog n_tele_Shape_1 [.one (.int .i64 section_), .one a1, .one a2] σ Qp :=
  dcalls_of_body mixed (by kernel_rfl) Tryz.func84 an_tele_Shape_1 ((show V_tele_Shape_1 section_ a1 a2 σ Qp = dbody Tryz.prog Tryz.f84 an_tele_Shape_1 [.one (.int .i64 section_), .one a1, .one a2] σ Qp by kernel_rfl) ▸ h)
def an_link_Read : Ann := { esc := [], cbs := [], draws := [(9, { ord := [0, 2, 4, 6, 7, 1, 3, 5, 8, 9, 10, 11, 12], nb := [], av := [], dir := [] })], loops := [], joins := [] }
def V_link_Read (text : ByteArray) (σ : Store) (Qp : RV → Store → Prop) : Prop :=
  DCalls Tryz.prog n_seal_Open [.one (.str text)] σ (fun (r : RV) => fun (σ' : Store) => ∃ s : ByteArray, ∃ n : Int, (r = (.tup [.one (.str s), .one (.int .i64 n)] : RV)) ∧ bcase (n != 0) (Qp (.tup [.one (.int .i64 0), .one (.int .i64 0), .one (.int .i64 0), .one (.str (ByteArray.mk (List.toArray []))), .one (.int .i64 n)]) σ') (bcase (decide ((ByteArray.size s : Int) < 7)) (Qp (.tup [.one (.int .i64 0), .one (.int .i64 0), .one (.int .i64 0), .one (.str (ByteArray.mk (List.toArray []))), .one (.int .i64 3)]) σ') (bcase (decide ((ByteArray.size s : Int) > 1007)) (Qp (.tup [.one (.int .i64 0), .one (.int .i64 0), .one (.int .i64 0), .one (.str (ByteArray.mk (List.toArray []))), .one (.int .i64 2)]) σ') (DCalls Tryz.prog n_pack_Read [.one (.str s)] σ' (fun (r1 : RV) => fun (σ'1 : Store) => ∃ d : D, (r1 = (.a (.one d) : RV)) ∧ ((0 : Int) ≤ 7) ∧ ((7 : Int) ≤ (ByteArray.size s : Int)) ∧ DCalls Tryz.prog n_pack_Reader_Byte [.one d] σ'1 (fun (r2 : RV) => fun (σ'2 : Store) => ∃ n1 : Int, (r2 = (.a (.one (.int .i64 n1)) : RV)) ∧ DCalls Tryz.prog n_pack_Reader_Word [.one d] σ'2 (fun (r3 : RV) => fun (σ'3 : Store) => ∃ n2 : Int, (r3 = (.a (.one (.int .i64 n2)) : RV)) ∧ DCalls Tryz.prog n_pack_Reader_Long [.one d] σ'3 (fun (r4 : RV) => fun (σ'4 : Store) => ∃ n3 : Int, (r4 = (.a (.one (.int .i64 n3)) : RV)) ∧ Qp (.tup [.one (.int .i64 n1), .one (.int .i64 n2), .one (.int .i64 n3), .one (.str (ByteArray.extract s 7 (ByteArray.size s))), .one (.int .i64 0)]) σ'4))))))))
theorem W_link_Read (text : ByteArray) (σ : Store) (Qp : RV → Store → Prop) (h : V_link_Read text σ Qp) : DCalls Tryz.prog n_link_Read [.one (.str text)] σ Qp :=
  dcalls_of_body mixed (by kernel_rfl) Tryz.func88 an_link_Read ((show V_link_Read text σ Qp = dbody Tryz.prog Tryz.f88 an_link_Read [.one (.str text)] σ Qp by kernel_rfl) ▸ h)
def an_slices_Index_Signal : Ann := { esc := [], cbs := [3], draws := [(4, { ord := [0, 1, 2, 3, 4, 5], nb := [], av := [], dir := [] })], loops := [(2, { mods := [(8, SlotSh.one (Sh.int IntKind.i64))], keep := [0, 3, 7] })], joins := [] }
def V_slices_Index_Signal (s : D) (v0 : Int) (v1 : Int) (σ : Store) (Qp : RV → Store → Prop) : Prop :=
  ∃ len : Nat, (Len s len) ∧ ∃ I : Int → Store → Prop, ∃ μ : Int → Store → Nat, (I 0 σ) ∧ ∀ n : Int, ∀ σ' : Store, (I n σ') → bcase (decide (n < (len : Int))) (∃ len1 : Nat, (Idx Tryz.prog σ' s 2 len1) ∧ ((0 : Int) ≤ n) ∧ (n < (len1 : Int)) ∧ ∃ row : List D, (Row σ' s (Int.toNat n) row) ∧ ∃ n1 : Int, ∃ n2 : Int, ((List.take 2 row) = ([.int .i64 n1, .int .i64 n2] : List D)) ∧ bcase ((v0 == n1) && (v1 == n2)) (Qp (.a (.one (.int .i64 n))) σ') ((I (w64 (n + 1)) σ') ∧ ((μ (w64 (n + 1)) σ') < (μ n σ')))) (Qp (.a (.one (.int .i64 (-1)))) σ')
theorem W_slices_Index_Signal (s : D) (v0 : Int) (v1 : Int) (σ : Store) (Qp : RV → Store → Prop) (h : V_slices_Index_Signal s v0 v1 σ Qp) : DCalls Tryz.prog n_slices_Index_Signal [.one s, .agg [.int .i64 v0, .int .i64 v1]] σ Qp :=
  dcalls_of_body mixed (by kernel_rfl) Tryz.func92 an_slices_Index_Signal ((show V_slices_Index_Signal s v0 v1 σ Qp = dbody Tryz.prog Tryz.f92 an_slices_Index_Signal [.one s, .agg [.int .i64 v0, .int .i64 v1]] σ Qp by kernel_rfl) ▸ h)
def an_conf_plan_section : Ann := { esc := [], cbs := [2], draws := [], loops := [], joins := [] }
def V_conf_plan_section (p0 : D) (p1 : D) (p2 : D) (p3 : D) (p4 : D) (p5 : Int) (p6 : Int) (p7 : Int) (p8 : Int) (s : Int) (σ : Store) (Qp : RV → Store → Prop) : Prop :=
  bcase (decide (s < 0)) (Qp (.tup [.agg [.int .i64 0, .int .i64 0, .int .i64 0], .one (.bool false)]) σ) (∃ len : Nat, (Len p0 len) ∧ bcase (decide (s ≥ (len : Int))) (Qp (.tup [.agg [.int .i64 0, .int .i64 0, .int .i64 0], .one (.bool false)]) σ) (∃ len1 : Nat, (Idx Tryz.prog σ p0 3 len1) ∧ ((0 : Int) ≤ s) ∧ (s < (len1 : Int)) ∧ ∃ row : List D, (Row σ p0 (Int.toNat s) row) ∧ ∃ n : Int, ∃ n1 : Int, ∃ n2 : Int, ((List.take 3 row) = ([.int .i64 n, .int .i64 n1, .int .i64 n2] : List D)) ∧ Qp (.tup [.agg [.int .i64 n, .int .i64 n1, .int .i64 n2], .one (.bool true)]) σ))
theorem W_conf_plan_section (p0 : D) (p1 : D) (p2 : D) (p3 : D) (p4 : D) (p5 : Int) (p6 : Int) (p7 : Int) (p8 : Int) (s : Int) (σ : Store) (Qp : RV → Store → Prop) (h : V_conf_plan_section p0 p1 p2 p3 p4 p5 p6 p7 p8 s σ Qp) : DCalls Tryz.prog n_conf_plan_section [.agg [p0, p1, p2, p3, p4, .int .i64 p5, .int .i64 p6, .int .i64 p7, .int .i64 p8], .one (.int .i64 s)] σ Qp :=
  dcalls_of_body mixed (by kernel_rfl) Tryz.func120 an_conf_plan_section ((show V_conf_plan_section p0 p1 p2 p3 p4 p5 p6 p7 p8 s σ Qp = dbody Tryz.prog Tryz.f120 an_conf_plan_section [.agg [p0, p1, p2, p3, p4, .int .i64 p5, .int .i64 p6, .int .i64 p7, .int .i64 p8], .one (.int .i64 s)] σ Qp by kernel_rfl) ▸ h)
def an_conf_plan_approach : Ann := { esc := [], cbs := [2, 3], draws := [], loops := [], joins := [] }
def V_conf_plan_approach (p0 : D) (p1 : D) (p2 : D) (p3 : D) (p4 : D) (p5 : Int) (p6 : Int) (p7 : Int) (p8 : Int) (r0 : Int) (r1 : Int) (r2 : D) (r3 : D) (r4 : D) (r5 : Bool) (σ : Store) (Qp : RV → Store → Prop) : Prop :=
  DCalls Tryz.prog n_conf_plan_signal [.agg [p0, p1, p2, p3, p4, .int .i64 p5, .int .i64 p6, .int .i64 p7, .int .i64 p8], .one (.int .i64 r0)] σ (fun (r : RV) => fun (σ' : Store) => ∃ n : Int, ∃ n1 : Int, ∃ b : Bool, (r = (.tup [.agg [.int .i64 n, .int .i64 n1], .one (.bool b)] : RV)) ∧ bcase (!b) (Qp (.a (.one (.int .i64 (-1)))) σ') (Qp (.a (.one (.int .i64 n))) σ'))
theorem W_conf_plan_approach (p0 : D) (p1 : D) (p2 : D) (p3 : D) (p4 : D) (p5 : Int) (p6 : Int) (p7 : Int) (p8 : Int) (r0 : Int) (r1 : Int) (r2 : D) (r3 : D) (r4 : D) (r5 : Bool) (σ : Store) (Qp : RV → Store → Prop) (h : V_conf_plan_approach p0 p1 p2 p3 p4 p5 p6 p7 p8 r0 r1 r2 r3 r4 r5 σ Qp) : DCalls Tryz.prog n_conf_plan_approach [.agg [p0, p1, p2, p3, p4, .int .i64 p5, .int .i64 p6, .int .i64 p7, .int .i64 p8], .agg [.int .i64 r0, .int .i64 r1, r2, r3, r4, .bool r5]] σ Qp :=
  dcalls_of_body mixed (by kernel_rfl) Tryz.func124 an_conf_plan_approach ((show V_conf_plan_approach p0 p1 p2 p3 p4 p5 p6 p7 p8 r0 r1 r2 r3 r4 r5 σ Qp = dbody Tryz.prog Tryz.f124 an_conf_plan_approach [.agg [p0, p1, p2, p3, p4, .int .i64 p5, .int .i64 p6, .int .i64 p7, .int .i64 p8], .agg [.int .i64 r0, .int .i64 r1, r2, r3, r4, .bool r5]] σ Qp by kernel_rfl) ▸ h)
def an_seal_Open : Ann := { esc := [], cbs := [], draws := [], loops := [], joins := [] }
def V_seal_Open (text : ByteArray) (σ : Store) (Qp : RV → Store → Prop) : Prop :=
  DCalls Tryz.prog n_seal_cut [.one (.str text)] σ (fun (r : RV) => fun (σ' : Store) => ∃ n : Int, ∃ n1 : Int, (r = (.tup [.one (.int .i64 n), .one (.int .i64 n1)] : RV)) ∧ bcase (n1 != 0) (Qp (.tup [.one (.str (ByteArray.mk (List.toArray []))), .one (.int .i64 n1)]) σ') (bcase (decide (n < (ByteArray.size text : Int))) (Qp (.tup [.one (.str (ByteArray.mk (List.toArray []))), .one (.int .i64 3)]) σ') (DCalls Tryz.prog n_seal_Next [.one (.str text), .one (.int .i64 0)] σ' (fun (r1 : RV) => fun (σ'1 : Store) => ∃ s : ByteArray, ∃ n2 : Int, ∃ n3 : Int, (r1 = (.tup [.one (.str s), .one (.int .i64 n2), .one (.int .i64 n3)] : RV)) ∧ Qp (.tup [.one (.str s), .one (.int .i64 n3)]) σ'1))))
theorem W_seal_Open (text : ByteArray) (σ : Store) (Qp : RV → Store → Prop) (h : V_seal_Open text σ Qp) : DCalls Tryz.prog n_seal_Open [.one (.str text)] σ Qp :=
  dcalls_of_body mixed (by kernel_rfl) Tryz.func129 an_seal_Open ((show V_seal_Open text σ Qp = dbody Tryz.prog Tryz.f129 an_seal_Open [.one (.str text)] σ Qp by kernel_rfl) ▸ h)
def an_pack_Reader_Long : Ann := { esc := [], cbs := [], draws := [], loops := [], joins := [] }
def V_pack_Reader_Long (r : D) (σ : Store) (Qp : RV → Store → Prop) : Prop :=
  DCalls Tryz.prog n_pack_Reader_fixed [.one r, .one (.int .i64 4)] σ (fun (r1 : RV) => fun (σ' : Store) => ∃ n : Int, (r1 = (.a (.one (.int .i64 n)) : RV)) ∧ Qp (.a (.one (.int .i64 n))) σ')
theorem W_pack_Reader_Long (r : D) (σ : Store) (Qp : RV → Store → Prop) (h : V_pack_Reader_Long r σ Qp) : DCalls Tryz.prog n_pack_Reader_Long [.one r] σ Qp :=
  dcalls_of_body mixed (by kernel_rfl) Tryz.func133 an_pack_Reader_Long ((show V_pack_Reader_Long r σ Qp = dbody Tryz.prog Tryz.f133 an_pack_Reader_Long [.one r] σ Qp by kernel_rfl) ▸ h)
def an_pack_Reader_End : Ann := { esc := [], cbs := [], draws := [], loops := [], joins := [] }
def V_pack_Reader_End (r : D) (σ : Store) (Qp : RV → Store → Prop) : Prop :=
  (NotNil r) ∧ ∃ s : D, ∃ i : Nat, ∃ off : Nat, (r = (.el s i off : D)) ∧ DCalls Tryz.prog n_pack_trouble_well [.one (.el s i (off + 0))] σ (fun (r1 : RV) => fun (σ' : Store) => ∃ b : Bool, (r1 = (.a (.one (.bool b)) : RV)) ∧ bcase b ((NotNil r) ∧ ∃ s1 : D, ∃ i1 : Nat, ∃ off1 : Nat, (r = (.el s1 i1 off1 : D)) ∧ ∃ row : List D, (Row σ' s1 i1 row) ∧ ∃ s2 : ByteArray, ((List.take 1 (List.drop (off1 + 1) row)) = ([.str s2] : List D)) ∧ bcase (!((ByteArray.toList s2) == (ByteArray.toList (ByteArray.mk (List.toArray []))))) (Qp (.a (.one (.int .i64 3))) σ') ((NotNil r) ∧ ∃ s3 : D, ∃ i2 : Nat, ∃ off2 : Nat, (r = (.el s3 i2 off2 : D)) ∧ ∃ row1 : List D, (Row σ' s3 i2 row1) ∧ ∃ n : Int, ((List.take 1 (List.drop ((off2 + 0) + 0) row1)) = ([.int .i64 n] : List D)) ∧ Qp (.a (.one (.int .i64 n))) σ')) ((NotNil r) ∧ ∃ s1 : D, ∃ i1 : Nat, ∃ off1 : Nat, (r = (.el s1 i1 off1 : D)) ∧ ∃ row : List D, (Row σ' s1 i1 row) ∧ ∃ n : Int, ((List.take 1 (List.drop ((off1 + 0) + 0) row)) = ([.int .i64 n] : List D)) ∧ Qp (.a (.one (.int .i64 n))) σ'))
theorem W_pack_Reader_End (r : D) (σ : Store) (Qp : RV → Store → Prop) (h : V_pack_Reader_End r σ Qp) : DCalls Tryz.prog n_pack_Reader_End [.one r] σ Qp :=
  dcalls_of_body mixed (by kernel_rfl) Tryz.func137 an_pack_Reader_End ((show V_pack_Reader_End r σ Qp = dbody Tryz.prog Tryz.f137 an_pack_Reader_End [.one r] σ Qp by kernel_rfl) ▸ h)
def an_conf_plan_signal : Ann := { esc := [], cbs := [2], draws := [], loops := [], joins := [] }
def V_conf_plan_signal (p0 : D) (p1 : D) (p2 : D) (p3 : D) (p4 : D) (p5 : Int) (p6 : Int) (p7 : Int) (p8 : Int) (x : Int) (σ : Store) (Qp : RV → Store → Prop) : Prop :=
  bcase (decide (x < 0)) (Qp (.tup [.agg [.int .i64 0, .int .i64 0], .one (.bool false)]) σ) (∃ len : Nat, (Len p2 len) ∧ bcase (decide (x ≥ (len : Int))) (Qp (.tup [.agg [.int .i64 0, .int .i64 0], .one (.bool false)]) σ) (∃ len1 : Nat, (Idx Tryz.prog σ p2 2 len1) ∧ ((0 : Int) ≤ x) ∧ (x < (len1 : Int)) ∧ ∃ row : List D, (Row σ p2 (Int.toNat x) row) ∧ ∃ n : Int, ∃ n1 : Int, ((List.take 2 row) = ([.int .i64 n, .int .i64 n1] : List D)) ∧ Qp (.tup [.agg [.int .i64 n, .int .i64 n1], .one (.bool true)]) σ))
theorem W_conf_plan_signal (p0 : D) (p1 : D) (p2 : D) (p3 : D) (p4 : D) (p5 : Int) (p6 : Int) (p7 : Int) (p8 : Int) (x : Int) (σ : Store) (Qp : RV → Store → Prop) (h : V_conf_plan_signal p0 p1 p2 p3 p4 p5 p6 p7 p8 x σ Qp) : DCalls Tryz.prog n_conf_plan_signal [.agg [p0, p1, p2, p3, p4, .int .i64 p5, .int .i64 p6, .int .i64 p7, .int .i64 p8], .one (.int .i64 x)] σ Qp :=
  dcalls_of_body mixed (by kernel_rfl) Tryz.func153 an_conf_plan_signal ((show V_conf_plan_signal p0 p1 p2 p3 p4 p5 p6 p7 p8 x σ Qp = dbody Tryz.prog Tryz.f153 an_conf_plan_signal [.agg [p0, p1, p2, p3, p4, .int .i64 p5, .int .i64 p6, .int .i64 p7, .int .i64 p8], .one (.int .i64 x)] σ Qp by kernel_rfl) ▸ h)
def an_slices_ContainsFunc_Need : Ann := { esc := [], cbs := [], draws := [], loops := [], joins := [] }
def V_slices_ContainsFunc_Need (s : D) (f : D) (σ : Store) (Qp : RV → Store → Prop) : Prop :=
  DCalls Tryz.prog n_slices_IndexFunc_Need [.one s, .one f] σ (fun (r : RV) => fun (σ' : Store) => ∃ n : Int, (r = (.a (.one (.int .i64 n)) : RV)) ∧ Qp (.a (.one (.bool (decide (n ≥ 0))))) σ')
theorem W_slices_ContainsFunc_Need (s : D) (f : D) (σ : Store) (Qp : RV → Store → Prop) (h : V_slices_ContainsFunc_Need s f σ Qp) : DCalls Tryz.prog n_slices_ContainsFunc_Need [.one s, .one f] σ Qp :=
  dcalls_of_body mixed (by kernel_rfl) Tryz.func157 an_slices_ContainsFunc_Need ((show V_slices_ContainsFunc_Need s f σ Qp = dbody Tryz.prog Tryz.f157 an_slices_ContainsFunc_Need [.one s, .one f] σ Qp by kernel_rfl) ▸ h)
def an_pack_Reader_fixed : Ann := { esc := [], cbs := [], draws := [], loops := [(3, { mods := [(5, SlotSh.one (Sh.int IntKind.i64)), (13, SlotSh.one (Sh.int IntKind.i64))], keep := [11, 12] })], joins := [] }
def V_pack_Reader_fixed (r : D) (n : Int) (σ : Store) (Qp : RV → Store → Prop) : Prop :=
  DCalls Tryz.prog n_pack_Reader_take [.one r, .one (.int .i64 0), .one (.int .i64 n)] σ (fun (r1 : RV) => fun (σ' : Store) => ∃ s : ByteArray, (r1 = (.a (.one (.str s)) : RV)) ∧ ∃ len : Nat, (Len (.sl 1 (bytesD s)) len) ∧ ∃ I : Int → Int → Store → Prop, ∃ μ : Int → Int → Store → Nat, (I 0 0 σ') ∧ ∀ n1 : Int, ∀ n2 : Int, ∀ σ'1 : Store, (I n1 n2 σ'1) → bcase (decide (n2 < (len : Int))) (∃ len1 : Nat, (Idx Tryz.prog σ'1 (.sl 1 (bytesD s)) 1 len1) ∧ ((0 : Int) ≤ n2) ∧ (n2 < (len1 : Int)) ∧ ∃ row : List D, (Row σ'1 (.sl 1 (bytesD s)) (Int.toNat n2) row) ∧ ∃ n3 : Int, ((List.take 1 row) = ([.int .u8 n3] : List D)) ∧ (I (w64 (BitVec.toNat ((BitVec.ofInt 64 (w64 (n1 * (2 ^ 8)))) ||| (BitVec.ofInt 64 (w64 n3))) : Int)) (w64 (n2 + 1)) σ'1) ∧ ((μ (w64 (BitVec.toNat ((BitVec.ofInt (IntKind.bits .i64) (w64 (n1 * (2 ^ (Min.min (Int.toNat 8) (IntKind.bits .i64)))))) ||| (BitVec.ofInt (IntKind.bits .i64) (w64 n3))) : Int)) (w64 (n2 + 1)) σ'1) < (μ n1 n2 σ'1))) (Qp (.a (.one (.int .i64 n1))) σ'1))
theorem W_pack_Reader_fixed (r : D) (n : Int) (σ : Store) (Qp : RV → Store → Prop) (h : V_pack_Reader_fixed r n σ Qp) : DCalls Tryz.prog n_pack_Reader_fixed [.one r, .one (.int .i64 n)] σ Qp :=
  dcalls_of_body mixed (by kernel_rfl) Tryz.func161 an_pack_Reader_fixed ((show V_pack_Reader_fixed r n σ Qp = dbody Tryz.prog Tryz.f161 an_pack_Reader_fixed [.one r, .one (.int .i64 n)] σ Qp by kernel_rfl) ▸ h)
def an_seal_Sum : Ann := { esc := [], cbs := [], draws := [], loops := [(3, { mods := [(3, SlotSh.one (Sh.int IntKind.u32)), (9, SlotSh.one (Sh.int IntKind.i64))], keep := [7, 8] }), (6, { mods := [(3, SlotSh.one (Sh.int IntKind.u32)), (15, SlotSh.one (Sh.int IntKind.i64))], keep := [5, 7, 8, 9, 14] }), (10, { mods := [(3, SlotSh.one (Sh.int IntKind.u32)), (25, SlotSh.one (Sh.int IntKind.i64))], keep := [5, 7, 8, 9, 14, 15] })], joins := [] }
def V_seal_Sum (parts : D) (σ : Store) (Qp : RV → Store → Prop) : Prop :=
  ∃ len : Nat, (Len parts len) ∧ ∃ I : Int → Int → Store → Prop, ∃ μ : Int → Int → Store → Nat, (I 4294967295 0 σ) ∧ ∀ n : Int, ∀ n1 : Int, ∀ σ' : Store, (I n n1 σ') → bcase (decide (n1 < (len : Int))) (∃ len1 : Nat, (Idx Tryz.prog σ' parts 1 len1) ∧ ((0 : Int) ≤ n1) ∧ (n1 < (len1 : Int)) ∧ ∃ row : List D, (Row σ' parts (Int.toNat n1) row) ∧ ∃ s : ByteArray, ((List.take 1 row) = ([.str s] : List D)) ∧ ∃ I1 : Int → Int → Store → Prop, ∃ μ1 : Int → Int → Store → Nat, (I1 n 0 σ') ∧ ∀ n2 : Int, ∀ n3 : Int, ∀ σ'1 : Store, (I1 n2 n3 σ'1) → bcase (decide (n3 < (ByteArray.size s : Int))) (∃ n4 : Int, (SByte s n3 n4) ∧ ∃ I2 : Int → Int → Store → Prop, ∃ μ2 : Int → Int → Store → Nat, (I2 (IntKind.wrap .u32 (BitVec.toNat ((BitVec.ofInt 32 n2) ^^^ (BitVec.ofInt 32 (IntKind.wrap .u32 ((IntKind.wrap .u32 n4) * (2 ^ 24))))) : Int)) 0 σ'1) ∧ ∀ n5 : Int, ∀ n6 : Int, ∀ σ'2 : Store, (I2 n5 n6 σ'2) → bcase (decide (n6 < 8)) ((I2 (IntKind.wrap .u32 (BitVec.toNat ((BitVec.ofInt 32 (IntKind.wrap .u32 (n5 * (2 ^ 1)))) ^^^ (BitVec.ofInt 32 (IntKind.wrap .u32 (BitVec.toNat ((BitVec.ofInt 32 79764919) &&& (BitVec.ofInt 32 (IntKind.wrap .u32 (0 - (Int.fdiv n5 (2 ^ 31)))))) : Int)))) : Int)) (w64 (n6 + 1)) σ'2) ∧ ((μ2 (IntKind.wrap .u32 (BitVec.toNat ((BitVec.ofInt (IntKind.bits .u32) (IntKind.wrap .u32 (n5 * (2 ^ (Min.min (Int.toNat 1) (IntKind.bits .u32)))))) ^^^ (BitVec.ofInt (IntKind.bits .u32) (IntKind.wrap .u32 (BitVec.toNat ((BitVec.ofInt (IntKind.bits .u32) 79764919) &&& (BitVec.ofInt (IntKind.bits .u32) (IntKind.wrap .u32 (0 - (Int.fdiv n5 (2 ^ (Min.min (Int.toNat 31) (IntKind.bits .u32)))))))) : Int)))) : Int)) (w64 (n6 + 1)) σ'2) < (μ2 n5 n6 σ'2))) ((I1 n5 (w64 (n3 + 1)) σ'2) ∧ ((μ1 n5 (w64 (n3 + 1)) σ'2) < (μ1 n2 n3 σ'1)))) ((I n2 (w64 (n1 + 1)) σ'1) ∧ ((μ n2 (w64 (n1 + 1)) σ'1) < (μ n n1 σ')))) (Qp (.a (.one (.int .i64 (w64 n)))) σ')
theorem W_seal_Sum (parts : D) (σ : Store) (Qp : RV → Store → Prop) (h : V_seal_Sum parts σ Qp) : DCalls Tryz.prog n_seal_Sum [.one parts] σ Qp :=
  dcalls_of_body mixed (by kernel_rfl) Tryz.func173 an_seal_Sum ((show V_seal_Sum parts σ Qp = dbody Tryz.prog Tryz.f173 an_seal_Sum [.one parts] σ Qp by kernel_rfl) ▸ h)
def an_pack_trouble_note : Ann := { esc := [], cbs := [], draws := [], loops := [], joins := [] }
def V_pack_trouble_note (t : D) (e_ : Int) (σ : Store) (Qp : RV → Store → Prop) : Prop :=
  (NotNil t) ∧ ∃ s : D, ∃ i : Nat, ∃ off : Nat, (t = (.el s i off : D)) ∧ ∃ row : List D, (Row σ s i row) ∧ ∃ n : Int, ((List.take 1 (List.drop (off + 0) row)) = ([.int .i64 n] : List D)) ∧ bcase (n == 0) ((NotNil t) ∧ ∃ s1 : D, ∃ i1 : Nat, ∃ off1 : Nat, (t = (.el s1 i1 off1 : D)) ∧ storeEl [.int .i64 e_] σ s1 i1 (off1 + 0) (fun (σ' : Store) => Qp (.tup []) σ')) (Qp (.tup []) σ)
theorem W_pack_trouble_note (t : D) (e_ : Int) (σ : Store) (Qp : RV → Store → Prop) (h : V_pack_trouble_note t e_ σ Qp) : DCalls Tryz.prog n_pack_trouble_note [.one t, .one (.int .i64 e_)] σ Qp :=
  dcalls_of_body mixed (by kernel_rfl) Tryz.func177 an_pack_trouble_note ((show V_pack_trouble_note t e_ σ Qp = dbody Tryz.prog Tryz.f177 an_pack_trouble_note [.one t, .one (.int .i64 e_)] σ Qp by kernel_rfl) ▸ h)
end Go.Proofs.YtaklhjodjbgmgaaGreat
end
