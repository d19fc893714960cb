/-
  Proofs that the statement of this claim leans on: part 3.
-/
import Derived.Test.YtcbmibgfmlpobaaGreatP2
section
set_option linter.unusedVariables false
set_option linter.unusedSimpArgs false
namespace Go.Fw
abbrev w64 (n : Int) : Int := IntKind.i64.wrap n
inductive Fz (P : Program) (σ : Store) (S : Nat → Prop) : D → D → Prop
  | int (q n) : Fz P σ S (.int q n) (.int q n)
  | bool (b) : Fz P σ S (.bool b) (.bool b)
  | str (s) : Fz P σ S (.str s) (.str s)
  | nils : Fz P σ S .nils .nils
  | zsl : Fz P σ S .zsl .zsl
  | sl (es : Nat) (rows rows' : List (List D)) (hl : rows'.length = rows.length) (hr : ∀ (i : Nat) row row', rows[i]? = some row → rows'[i]? = some row' → row'.length = row.length)
      (hc : ∀ (i : Nat) row row' (j : Nat) d d', rows[i]? = some row → rows'[i]? = some row' → row[j]? = some d → row'[j]? = some d' → Fz P σ S d d') : Fz P σ S (.sl es rows) (.sl es rows')
  | keep (id i len) (h : S id) : Fz P σ S (.osl id i len) (.osl id i len)
  | osl (id i len : Nat) (t : TypeId) (rows rows' : List (List D)) (hn : ¬ S id) (hs : σ id = .live t rows) (hi : i + len ≤ rows.length) (hl : rows'.length = len)
      (hr : ∀ (j : Nat) row row', rows[i + j]? = some row → rows'[j]? = some row' → row'.length = row.length)
      (hc : ∀ (j : Nat) row row' (m : Nat) d d', rows[i + j]? = some row → rows'[j]? = some row' → row[m]? = some d → row'[m]? = some d' → Fz P σ S d d') : Fz P σ S (.osl id i len) (.sl (P.cellsOf t) rows')
  | nilp : Fz P σ S .nilp .nilp
  | el (s i off) (h : Fz P σ S s s) : Fz P σ S (.el s i off) (.el s i off)
  | nilf : Fz P σ S .nilf .nilf
  | fn0 (f) : Fz P σ S (.fn f [] []) (.fn f [] [])
  | nilm : Fz P σ S .nilm .nilm
  | omap (id) (h : S id) : Fz P σ S (.omap id) (.omap id)
def FzL (P : Program) (σ : Store) (S : Nat → Prop) (ds ds' : List D) : Prop :=
  ds'.length = ds.length ∧ ∀ (i : Nat) d d', ds[i]? = some d → ds'[i]? = some d' → Fz P σ S d d'
def FzA (P : Program) (σ : Store) (S : Nat → Prop) : A → A → Prop
  | .one d, .one d' => Fz P σ S d d'
  | .agg cs, .agg cs' => FzL P σ S cs cs'
  | _, _ => False
def FzR (P : Program) (σ : Store) (S : Nat → Prop) : RV → RV → Prop
  | .a x, .a y => FzA P σ S x y
  | .tup xs, .tup ys => ys.length = xs.length ∧ ∀ (i : Nat) x y, xs[i]? = some x → ys[i]? = some y → FzA P σ S x y
  | _, _ => False
def FzO (P : Program) (σ0 σ : Store) (S : Nat → Prop) (i : Nat) (so' : SO) : Prop :=
  (so' = σ i ∧ σ i = σ0 i) ∨
  match σ i, so' with
  | .free, .free => True
  | .dead, .dead => True
  | .live t rows, .live t' rows' => t' = t ∧ rows'.length = rows.length ∧ ∀ (j : Nat) row row', rows[j]? = some row → rows'[j]? = some row' → FzL P σ S row row'
  | .mp c es, .mp c' es' => c' = c ∧ es'.length = es.length ∧ ∀ (j : Nat) e e', es[j]? = some e → es'[j]? = some e' → e'.1 = e.1 ∧ FzA P σ S e.2.1 e'.2.1 ∧ FzA P σ S e.2.2 e'.2.2
  | _, _ => False
def Ret (P : Program) (σ0 σ : Store) (r : RV) (σ' : Store) (r' : RV) : Prop :=
  ∃ S : Nat → Prop, (∀ i, σ0 i ≠ .free → S i) ∧ (∀ i, ¬ S i → σ' i = .free) ∧ (∀ i, S i → FzO P σ0 σ S i (σ' i)) ∧ FzR P σ S r r'
section
variable {P : Program} {k k0 : Nat → Prop} {β β0 : Bk} {σ σ0 σ' : Store} {W W0 : World} {S : Nat → Prop} {β2 : Bk}
def IsRest (β : Bk) (S : Nat → Prop) (β2 : Bk) : Prop := (∀ i, S i → β2 i = β i) ∧ ∀ i, ¬ S i → β2 i = none
theorem rest_exists (β : Bk) (S : Nat → Prop) : ∃ β2, IsRest β S β2 := by
  have h : ∀ i, ∃ b : Option BI, (S i → b = β i) ∧ (¬ S i → b = none) := fun i => by
    by_cases hs : S i
    · exact ⟨β i, fun _ => rfl, fun h => absurd hs h⟩
    · exact ⟨none, fun h => absurd h hs, fun _ => rfl⟩
  obtain ⟨f, hf⟩ := Classical.axiomOfChoice h
  exact ⟨f, fun i hi => (hf i).1 hi, fun i hi => (hf i).2 hi⟩
def restK (k : Nat → Prop) (β : Bk) (σ : Store) (S : Nat → Prop) : Nat → Prop := fun b => k b ∨ ∃ i bi t rows, β i = some bi ∧ ¬ S i ∧ σ i = .live t rows ∧ bi.blk = b
theorem restB_some {β2 : Bk} (hB : IsRest β S β2) {i : Nat} {bi : BI} (h : β2 i = some bi) : S i ∧ β i = some bi := by
  by_cases hs : S i
  · rw [hB.1 i hs] at h; exact ⟨hs, h⟩
  · rw [hB.2 i hs] at h; cases h
theorem restB_of {β2 : Bk} (hB : IsRest β S β2) {i : Nat} {bi : BI} (hs : S i) (h : β i = some bi) : β2 i = some bi := by rw [hB.1 i hs]; exact h
theorem Fz.ok (hB : IsRest β S β2) (h : SRel P k β W σ) {v : Value} {d d' : D} (hf : Fz P σ S d d') : V k β W v d → V (restK k β σ S) β2 W v d' := by
  induction hf generalizing v with
  | int q n => intro hv; cases hv; exact .int q n
  | bool b => intro hv; cases hv; exact .bool b
  | str s => intro hv; cases hv; exact .str s
  | nils => intro hv; cases hv; exact .nils
  | zsl => intro hv; cases hv; exact .zsl _
  | sl es rows rows' hl hr hc ih =>
    intro hv
    cases hv with
    | sl a len cap _ _ f hk hlen hcap hes hcell hval =>
      have back : ∀ (i : Nat) row', rows'[i]? = some row' → ∃ row, rows[i]? = some row ∧ row'.length = row.length := fun i row' hi => by
        have hlt := (List.getElem?_eq_some_iff.1 hi).1
        have := List.getElem?_eq_getElem (l := rows) (i := i) (by omega)
        exact ⟨_, this, hr i _ _ this hi⟩
      refine .sl a len cap es rows' f (fun hne => ?_) (by omega) hcap (fun i row' hi => ?_) (fun i row' j d hi hj => ?_) (fun i row' j d hi hj => ?_)
      · have := hk (fun e => by subst e; simp at hl; exact hne hl)
        exact ⟨.inl this.1, this.2⟩
      · obtain ⟨row, h1, h2⟩ := back i row' hi
        rw [h2]; exact hes i row h1
      · obtain ⟨row, h1, h2⟩ := back i row' hi
        have hlt := (List.getElem?_eq_some_iff.1 hj).1
        exact hcell i row j _ h1 (List.getElem?_eq_getElem (by omega))
      · obtain ⟨row, h1, h2⟩ := back i row' hi
        have hlt := (List.getElem?_eq_some_iff.1 hj).1
        have hd := List.getElem?_eq_getElem (l := row) (i := j) (by omega)
        exact ih i row row' j _ d h1 hi hd hj (hval i row j _ h1 hd)
  | keep id i len hs =>
    intro hv
    cases hv with
    | osl _ _ _ cap a bi hb ha hc hsz => exact .osl id i len cap a bi (restB_of hB hs hb) ha hc hsz
  | osl id i len t rows rows' hn hs hi hl hr hc ih =>
    intro hv
    cases hv with
    | osl _ _ _ cap a bi hb ha hcap hsz =>
      obtain ⟨arr, g1, g2, g3, g4, g5, g6, g7⟩ := h.obj id bi t rows hb hs
      have back : ∀ (j : Nat) row', rows'[j]? = some row' → j < len ∧ ∃ row, rows[i + j]? = some row ∧ row'.length = row.length := fun j row' hj => by
        have hlt := (List.getElem?_eq_some_iff.1 hj).1
        have := List.getElem?_eq_getElem (l := rows) (i := i + j) (by omega)
        exact ⟨by omega, _, this, hr j _ _ this hj⟩
      refine .sl a len cap (P.cellsOf t) rows' (fun j m => arr.getD ((i + j) * bi.es + m) undef) (fun hne => ?_) hl hcap (fun j row' hj => ?_) (fun j row' m d hj hm => ?_) (fun j row' m d hj hm => ?_)
      · have hpos : 0 < len := by
          rw [← hl]
          cases rows' with
          | nil => exact absurd rfl hne
          | cons => simp
        have := ha (by omega)
        subst this
        exact ⟨.inr ⟨id, bi, t, rows, hb, hn, hs, rfl⟩, rfl⟩
      · obtain ⟨_, row, h1, h2⟩ := back j row' hj
        rw [h2, g3]; exact g6 _ row h1
      · obtain ⟨hlt, row, h1, h2⟩ := back j row' hj
        have hmlt := (List.getElem?_eq_some_iff.1 hm).1
        obtain ⟨v, q1, _⟩ := g7 (i + j) row m _ h1 (List.getElem?_eq_getElem (by omega))
        have := ha (by omega)
        subst this
        have e1 : i * bi.es + j * P.cellsOf t + m = (i + j) * bi.es + m := by rw [g3, Nat.add_mul]
        show W.cell? ⟨bi.blk, i * bi.es + j * P.cellsOf t + m, none⟩ = _
        rw [cell_of_heap g1, e1, q1, Array.getD_eq_getD_getElem?, q1]; rfl
      · obtain ⟨hlt, row, h1, h2⟩ := back j row' hj
        have hmlt := (List.getElem?_eq_some_iff.1 hm).1
        have hd := List.getElem?_eq_getElem (l := row) (i := m) (by omega)
        obtain ⟨v, q1, q2⟩ := g7 (i + j) row m _ h1 hd
        have := ih j row row' m _ d h1 hj hd hm q2
        rw [Array.getD_eq_getD_getElem?, q1]; exact this
  | nilp => intro hv; cases hv; exact .nilp
  | el s i off hs ih =>
    intro hv
    cases hv with
    | elsl a len cap es rows _ _ hs' hi => exact .elsl a len cap es rows i off (ih hs') hi
    | elosl id i0 len _ _ bi hb hi =>
      cases hs with
      | keep _ _ _ hs => exact .elosl id i0 len i off bi (restB_of hB hs hb) hi
  | nilf => intro hv; cases hv; exact .nilf
  | fn0 f =>
    intro hv
    cases hv with
    | fn _ first caps _ _ g g' h1 h2 h3 h4 h5 h6 => exact .fn f first caps [] [] g g' h1 h2 (fun i b cs j d hi => by simp at hi) h4 h5 (fun i b cs j d hi => by simp at hi)
  | nilm => intro hv; cases hv; exact .nilm
  | omap id hs =>
    intro hv
    cases hv with
    | omap _ bi hb => exact .omap id bi (restB_of hB hs hb)
theorem FzL.ok (hB : IsRest β S β2) (h : SRel P k β W σ) {vs : List Value} {ds ds' : List D} (hf : FzL P σ S ds ds') (hv : VL k β W vs ds) : VL (restK k β σ S) β2 W vs ds' := by
  refine ⟨by rw [hv.1, hf.1], fun i v d' h1 h2 => ?_⟩
  have hlt := (List.getElem?_eq_some_iff.1 h2).1
  have hd := List.getElem?_eq_getElem (l := ds) (i := i) (by rw [← hf.1]; exact hlt)
  exact (hf.2 i _ d' hd h2).ok hB h (hv.2 i v _ h1 hd)
theorem FzA.ok (hB : IsRest β S β2) (h : SRel P k β W σ) {v : Value} {x y : A} (hf : FzA P σ S x y) (hv : VA k β W v x) : VA (restK k β σ S) β2 W v y := by
  cases x with
  | one d => cases y with
    | one d' => exact Fz.ok hB h hf hv
    | agg => exact hf.elim
  | agg cs => cases y with
    | one => exact hf.elim
    | agg cs' => obtain ⟨vs, e, hv⟩ := hv; exact ⟨vs, e, FzL.ok hB h hf hv⟩
theorem FzR.ok (hB : IsRest β S β2) (h : SRel P k β W σ) {v : Value} {x y : RV} (hf : FzR P σ S x y) (hv : VR k β W v x) : VR (restK k β σ S) β2 W v y := by
  cases x with
  | a x => cases y with
    | a y => exact FzA.ok hB h hf hv
    | tup => exact hf.elim
  | tup xs => cases y with
    | a => exact hf.elim
    | tup ys =>
      obtain ⟨vs, e, hs, hv⟩ := hv
      refine ⟨vs, e, by rw [hs, hf.1], fun i u y h1 h2 => ?_⟩
      have hlt := (List.getElem?_eq_some_iff.1 h2).1
      have hd := List.getElem?_eq_getElem (l := xs) (i := i) (by rw [← hf.1]; exact hlt)
      exact (hf.2 i _ y hd h2).ok hB h (hv i u _ h1 hd)
theorem V.rest (hB : IsRest β S β2) {v : Value} {d : D} (hd : Dom β0 d) (hbb : ∀ i bi, β0 i = some bi → S i ∧ β i = some bi) (hv : V k β W v d) : V (restK k β σ S) β2 W v d := by
  have h1 := V.restrict (β := β0) (fun i bi h => (hbb i bi h).2) hv hd
  exact h1.mono (fun b h => .inl h) (fun i bi h => restB_of hB (hbb i bi h).1 (hbb i bi h).2) (fun b _ => rfl)
def DomA (β : Bk) : A → Prop
  | .one d => Dom β d
  | .agg cs => ∀ d ∈ cs, Dom β d
theorem VA.dom {v : Value} {x : A} (h : VA k β W v x) : DomA β x := by
  cases x with
  | one d => exact V.dom h
  | agg cs =>
    obtain ⟨vs, _, hl, hv⟩ := h
    intro d hd
    obtain ⟨i, hi⟩ := List.mem_iff_getElem?.1 hd
    have hlt := (List.getElem?_eq_some_iff.1 hi).1
    exact (hv i _ d (List.getElem?_eq_getElem (by omega)) hi).dom
theorem VA.rest (hB : IsRest β S β2) {v : Value} {x : A} (hd : DomA β0 x) (hbb : ∀ i bi, β0 i = some bi → S i ∧ β i = some bi) (hv : VA k β W v x) : VA (restK k β σ S) β2 W v x := by
  cases x with
  | one d => exact V.rest hB hd hbb hv
  | agg cs =>
    obtain ⟨vs, e, hl, hv⟩ := hv
    exact ⟨vs, e, hl, fun i v d h1 h2 => V.rest hB (hd d (List.mem_of_getElem? h2)) hbb (hv i v d h1 h2)⟩
theorem SRel.rest (hB : IsRest β S β2) (h : SRel P k β W σ) (h0 : SRel P k0 β0 W0 σ0) (hbb : ∀ i bi, β0 i = some bi → β i = some bi) (hS0 : ∀ i, σ0 i ≠ .free → S i) (hfree : ∀ i, ¬ S i → σ' i = .free) (ho : ∀ i, S i → FzO P σ0 σ S i (σ' i)) :
    SRel P (restK k β σ S) β2 W σ' := by
  have hSb : ∀ i bi, β0 i = some bi → S i ∧ β i = some bi := fun i bi hi => ⟨hS0 i ((h0.dom i).1 (by rw [hi]; rfl)), hbb i bi hi⟩
  have hfr : ∀ i, S i → (σ' i = .free ↔ σ i = .free) := fun i hi => by
    rcases ho i hi with ⟨h1, _⟩ | hm
    · rw [h1]
    · cases hs : σ i <;> cases hs' : σ' i <;> rw [hs, hs'] at hm <;> first | exact hm.elim | simp
  have hdd : ∀ i, S i → (σ' i = .dead ↔ σ i = .dead) := fun i hi => by
    rcases ho i hi with ⟨h1, _⟩ | hm
    · rw [h1]
    · cases hs : σ i <;> cases hs' : σ' i <;> rw [hs, hs'] at hm <;> first | exact hm.elim | simp
  exact {
    fin := by
      obtain ⟨N, hN⟩ := h.fin
      refine ⟨N, fun i hi => ?_⟩
      by_cases hs : S i
      · exact (hfr i hs).2 (hN i hi)
      · exact hfree i hs
    dom := fun i => by
      by_cases hs : S i
      · rw [Ne, hfr i hs, ← Ne, ← h.dom i, hB.1 i hs]
      · rw [hB.2 i hs, hfree i hs]; simp
    klt := fun b hb => by
      rcases hb with hb | ⟨i, bi, t, rows, hi, _, _, he⟩
      · exact h.klt b hb
      · rw [← he]; exact h.blt i bi hi
    blt := fun i bi hi => h.blt i bi (restB_some hB hi).2
    inj := fun i j bi bj hi hj h1 h2 he => h.inj i j bi bj (restB_some hB hi).2 (restB_some hB hj).2 (fun hd => h1 ((hdd i (restB_some hB hi).1).2 hd)) (fun hd => h2 ((hdd j (restB_some hB hj).1).2 hd)) he
    notk := fun i bi hi h1 hk => by
      obtain ⟨hs, hi⟩ := restB_some hB hi
      have h1 : σ i ≠ .dead := fun hd => h1 ((hdd i hs).2 hd)
      rcases hk with hk | ⟨j, bj, t, rows, hj, hn, hl, he⟩
      · exact h.notk i bi hi h1 hk
      · have := h.inj j i bj bi hj hi (by rw [hl]; intro e; cases e) h1 he
        exact hn (this ▸ hs)
    obj := fun i bi t rows' hi hs' => by
      obtain ⟨hs, hi⟩ := restB_some hB hi
      rcases ho i hs with ⟨h1, h2⟩ | hm
      · rw [h1] at hs'
        obtain ⟨arr, g1, g2, g3, g4, g5, g6, g7⟩ := h.obj i bi t rows' hi hs'
        refine ⟨arr, g1, g2, g3, g4, g5, g6, fun r row j d hr hj => ?_⟩
        obtain ⟨v, hv, hV⟩ := g7 r row j d hr hj
        have hb0 : ∃ b0, β0 i = some b0 := Option.isSome_iff_exists.1 ((h0.dom i).2 (by rw [← h2, hs']; intro e; cases e))
        obtain ⟨b0, hb0⟩ := hb0
        obtain ⟨_, _, _, _, _, _, _, k7⟩ := h0.obj i b0 t rows' hb0 (by rw [← h2, hs'])
        obtain ⟨v0, _, hV0⟩ := k7 r row j d hr hj
        exact ⟨v, hv, hV.rest hB hV0.dom hSb⟩
      · rw [hs'] at hm
        cases hsi : σ i with
        | live t0 rows =>
          rw [hsi] at hm
          obtain ⟨rfl, hl, hc⟩ := hm
          obtain ⟨arr, g1, g2, g3, g4, g5, g6, g7⟩ := h.obj i bi t rows hi hsi
          have back : ∀ (r : Nat) row', rows'[r]? = some row' → ∃ row, rows[r]? = some row ∧ FzL P σ S row row' := fun r row' hr => by
            have hlt := (List.getElem?_eq_some_iff.1 hr).1
            have := List.getElem?_eq_getElem (l := rows) (i := r) (by omega)
            exact ⟨_, this, hc r _ _ this hr⟩
          refine ⟨arr, g1, g2, g3, by rw [hl]; exact g4, g5, fun r row' hr => ?_, fun r row' j d hr hj => ?_⟩
          · obtain ⟨row, q1, q2⟩ := back r row' hr
            rw [q2.1]; exact g6 r row q1
          · obtain ⟨row, q1, q2⟩ := back r row' hr
            have hlt := (List.getElem?_eq_some_iff.1 hj).1
            have hd := List.getElem?_eq_getElem (l := row) (i := j) (by rw [← q2.1]; exact hlt)
            obtain ⟨v, hv, hV⟩ := g7 r row j _ q1 hd
            exact ⟨v, hv, (q2.2 j _ d hd hj).ok hB h hV⟩
        | _ => rw [hsi] at hm; exact hm.elim
    omap := fun i bi clock es' hi hs' => by
      obtain ⟨hs, hi⟩ := restB_some hB hi
      rcases ho i hs with ⟨h1, h2⟩ | hm
      · rw [h1] at hs'
        obtain ⟨ents, g1, g2, g3, g4, g5⟩ := h.omap i bi clock es' hi hs'
        refine ⟨ents, g1, g2, g3, g4, fun r e b ks vs hr he => ?_⟩
        obtain ⟨q0, q1, q2⟩ := g5 r e b ks vs hr he
        have hb0 : ∃ b0, β0 i = some b0 := Option.isSome_iff_exists.1 ((h0.dom i).2 (by rw [← h2, hs']; intro e; cases e))
        obtain ⟨b0, hb0⟩ := hb0
        obtain ⟨ents0, _, k2, _, _, k5⟩ := h0.omap i b0 clock es' hb0 (by rw [← h2, hs'])
        have hlt := (List.getElem?_eq_some_iff.1 he).1
        obtain ⟨_, p1, p2⟩ := k5 r ents0[r] b ks vs (Array.getElem?_eq_getElem (by omega)) he
        exact ⟨q0, q1.rest hB p1.dom hSb, q2.rest hB p2.dom hSb⟩
      · rw [hs'] at hm
        cases hsi : σ i with
        | mp c es =>
          rw [hsi] at hm
          obtain ⟨rfl, hl, hc⟩ := hm
          obtain ⟨ents, g1, g2, g3, g4, g5⟩ := h.omap i bi clock es hi hsi
          have hborn : es'.map (·.1) = es.map (·.1) := by
            apply List.ext_getElem?
            intro j
            simp only [List.getElem?_map]
            cases he' : es'[j]? with
            | none =>
              have : es[j]? = none := by rw [List.getElem?_eq_none_iff] at he' ⊢; omega
              rw [this]
            | some e' =>
              have hlt := (List.getElem?_eq_some_iff.1 he').1
              have hj := List.getElem?_eq_getElem (l := es) (i := j) (by omega)
              rw [hj]
              simp [(hc j _ e' hj he').1]
          refine ⟨ents, g1, by rw [hl]; exact g2, fun e he => ?_, by rw [hborn]; exact g4, fun r e b ks vs hr he => ?_⟩
          · have : e.1 ∈ es'.map (·.1) := List.mem_map.2 ⟨e, he, rfl⟩
            rw [hborn] at this
            obtain ⟨w, hw, e1⟩ := List.mem_map.1 this
            rw [← e1]; exact g3 w hw
          · have hlt := (List.getElem?_eq_some_iff.1 he).1
            have hj := List.getElem?_eq_getElem (l := es) (i := r) (by omega)
            obtain ⟨c1, c2, c3⟩ := hc r _ _ hj he
            obtain ⟨q0, q1, q2⟩ := g5 r e es[r].1 es[r].2.1 es[r].2.2 hr hj
            exact ⟨q0.trans c1.symm, c2.ok hB h q1, c3.ok hB h q2⟩
        | _ => rw [hsi] at hm; exact hm.elim }
theorem DCalls.ret {f : FuncId} {args : List A} {Q Q' : RV → Store → Prop} (h : DCalls P f args σ0 Q) (hq : ∀ r σ, Q r σ → ∃ r' σ', Ret P σ0 σ r σ' r' ∧ Q' r' σ') : DCalls P f args σ0 Q' := by
  refine ⟨h.1, fun k β W vs h1 h2 h3 => (h.2 k β W vs h1 h2 h3).mono fun e W' ⟨v, r, σ, k', β', q1, q2, q3, q4, q5, q6⟩ => ?_⟩
  obtain ⟨r', σ', ⟨S, s1, s2, s3, s4⟩, hQ⟩ := hq r σ q2
  obtain ⟨β2, hB⟩ := rest_exists β' S
  refine ⟨v, r', σ', restK k' β' σ S, β2, q1, hQ, s4.ok hB q4 q3, q4.rest hB h1 q5.bb s1 s2 s3, ?_, q6⟩
  have hS0 : ∀ i bi, β i = some bi → S i := fun i bi hi => s1 i ((h1.dom i).1 (by rw [hi]; rfl))
  exact {
    kk := fun b hb => .inl (q5.kk b hb)
    kn := fun b hb => by
      rcases hb with hb | ⟨i, bi, t, rows, hi, hn, hl, he⟩
      · exact q5.kn b hb
      · rcases q5.bn i bi hi with g | g | ⟨j, bj, g1, g2, g3⟩
        · exact absurd (hS0 i bi g) hn
        · exact .inr (.inl (he ▸ g))
        · exact .inr (.inr ⟨j, bj, g1, g2, g3.trans he⟩)
    bb := fun i bi hi => restB_of hB (hS0 i bi hi) (q5.bb i bi hi)
    bn := fun i bi hi => q5.bn i bi (restB_some hB hi).2
    dd := fun i hi => by
      have hs : S i := s1 i (by rw [hi]; intro e; cases e)
      have hd := q5.dd i hi
      rcases s3 i hs with ⟨h1, _⟩ | hm
      · rw [h1, hd]
      · rw [hd] at hm
        cases hs' : σ' i <;> rw [hs'] at hm <;> first | rfl | exact hm.elim }
end
end Go.Fw
end
section
set_option linter.unusedVariables false
set_option linter.unusedSimpArgs false
namespace Go.Fw
open Go.ChangeShapes Go.WideShapes Go.RowKit
def tyF (P : Program) (ty : TypeId → List D → Prop) : List Field → List D → Prop
  | [], ds => ds = []
  | f :: fs, ds => ∃ a b, ds = a ++ b ∧ a.length = P.cellsOf f.type ∧ ty f.type a ∧ tyF P ty fs b
def tyR (P : Program) (ty : TypeId → List D → Prop) (e : TypeId) : Nat → List D → Prop
  | 0, ds => ds = []
  | n + 1, ds => ∃ a b, ds = a ++ b ∧ a.length = P.cellsOf e ∧ ty e a ∧ tyR P ty e n b
def tyD (P : Program) : Nat → TypeId → List D → Prop
  | 0, _, _ => False
  | n + 1, t, ds => match P.underlying t with
    | some .bool => ∃ b, ds = [.bool b]
    | some (.int k) => ∃ m, ds = [.int k m] ∧ (Lit.int k m).wf = true
    | some .string => ∃ s, ds = [.str s] ∧ s.size ≤ 140737488351232
    | some (.slice e) => ds = [.nils] ∨ ∃ rows, ds = [.sl (P.cellsOf e) rows] ∧ rows.length * P.bytesOf e ≤ 140737488351232 ∧ ∀ row ∈ rows, tyD P n e row
    | some (.struct fs) => tyF P (tyD P n) fs.toList ds
    | some (.array m e) => tyR P (tyD P n) e m ds
    | _ => False
def tilesB (P : Program) : Nat → List Field → Nat → Bool
  | o, [], n => Nat.beq o n
  | o, f :: fs, n => Nat.beq f.offset o && tilesB P (o + P.cellsOf f.type) fs n
def plainT (P : Program) : Nat → TypeId → Bool
  | 0, _ => false
  | n + 1, t => match P.underlying t with
    | some .bool => true
    | some (.int _) => true
    | some .string => true
    | some (.slice e) => plainT P n e && decide (0 < P.cellsOf e)
    | some (.struct fs) => tilesB P 0 fs.toList (P.cellsOf t) && fs.toList.all fun f => plainT P n f.type
    | some (.array m e) => plainT P n e && Nat.beq (m * P.cellsOf e) (P.cellsOf t)
    | _ => false
def TyA (P : Program) (t : TypeId) : A → Prop
  | .one d => isAggT P t = some false ∧ tyD P 30 t [d]
  | .agg cs => isAggT P t = some true ∧ tyD P 30 t cs
def TyAs (P : Program) : List TypeId → List A → Prop
  | [], as0 => as0 = []
  | t :: ts, as0 => ∃ a r, as0 = a :: r ∧ TyA P t a ∧ TyAs P ts r
section
variable {H : Type} {enc : TypeId × Value → H} {P : Program} {w : World}
abbrev allK (w : World) : Nat → Prop := fun b => b < w.heap.size
abbrev noB : Bk := fun _ => none
abbrev noS : Store := fun _ => .free
theorem srel0 : SRel P (allK w) noB w noS where
  fin := ⟨0, fun _ _ => rfl⟩
  dom i := by simp
  klt b hb := hb
  blt i bi h := by cases h
  inj i j bi bj h := by cases h
  notk i bi h := by cases h
  obj i bi t rows h := by cases h
  omap i bi c es h := by cases h
theorem cells?_spec {base : Nat} {a : Addr} {n : Nat} {cs : List Value} (h : w.cells? base a n = some cs) : cs.length = n ∧ ∀ (j : Nat) v, cs[j]? = some v → w.cell? (a.add j) = some v := by
  unfold World.cells? at h
  split at h
  · have hl := mapM_some_length h
    refine ⟨by simpa using hl, fun j v hv => ?_⟩
    have hlt := (List.getElem?_eq_some_iff.1 hv).1
    have hn : cs.length = n := by simpa using hl
    have := mapM_some_get h j j (by simp [show j < n by omega])
    rw [this, hv]
  · cases h
theorem cell_lt {a : Addr} {v : Value} (h : w.cell? a = some v) : a.block < w.heap.size ∧ a.spot = none := by
  unfold World.cell? at h
  split at h
  · rename_i c t fr hb
    refine ⟨(Array.getElem?_eq_some_iff.1 hb).1, ?_⟩
    split at h
    · cases h
    · rename_i hs; simpa using hs
  · cases h
theorem fields_ty {β : Bk} (n : Nat) (ih : ∀ (t : TypeId) (cs : List Value), plainT P n t = true → ∀ (fuel : Nat) (x : DataW H × List MemPlace), DataW.trod enc P w 0 (fun _ => true) true fuel t cs = some x →
      (∀ m ∈ x.1.weights P t, m ≤ 140737488351232) → ∃ ds, VL (allK w) β w cs ds ∧ tyD P n t ds) (cs : List Value) (m : Nat) :
    ∀ (fs : List Field) (o : Nat) (xs : List (DataW H × List MemPlace)), tilesB P o fs cs.length = true → (∀ f ∈ fs, plainT P n f.type = true) → xs.length = fs.length →
      (∀ (i : Nat) (f : Field), fs[i]? = some f → DataW.trod enc P w 0 (fun _ => true) true m f.type ((cs.drop f.offset).take (P.cellsOf f.type)) = xs[i]?) →
      (∀ q ∈ DataW.weightsEach P (fs.map (·.type)) (xs.map (·.1)), q ≤ 140737488351232) → o ≤ cs.length → ∃ ds, VL (allK w) β w (cs.drop o) ds ∧ tyF P (tyD P n) fs ds
  | [], o, xs, ht, _, _, _, _, ho => by
    have : o = cs.length := Nat.eq_of_beq_eq_true ht
    subst this
    exact ⟨[], by simp [VL], rfl⟩
  | f :: fs, o, xs, ht, hp, hl, he, hw, ho => by
    simp only [tilesB, Bool.and_eq_true] at ht
    have hfo := Nat.eq_of_beq_eq_true ht.1
    cases xs with
    | nil => simp at hl
    | cons x xs =>
      have h0 := he 0 f rfl
      rw [hfo] at h0
      simp only [List.map_cons, DataW.weightsEach, List.mem_append] at hw
      have tl : ∀ (fs : List Field) (o : Nat), tilesB P o fs cs.length = true → o ≤ cs.length := by
        intro fs
        induction fs with
        | nil => intro o h; exact Nat.le_of_eq (Nat.eq_of_beq_eq_true h)
        | cons g gs ihg => intro o h; simp only [tilesB, Bool.and_eq_true] at h; have := ihg _ h.2; omega
      have hle := tl _ _ ht.2
      obtain ⟨a, hva, hta⟩ := ih f.type _ (hp f (by simp)) m x (by simpa using h0) (fun q hq => hw q (.inl hq))
      obtain ⟨b, hvb, htb⟩ := fields_ty n ih cs m fs (o + P.cellsOf f.type) xs ht.2 (fun g hg => hp g (by simp [hg])) (by simpa using hl) (fun i g hg => by have := he (i + 1) g (by simpa using hg); simpa using this)
        (fun q hq => hw q (.inr hq)) hle
      refine ⟨a ++ b, ?_, a, b, rfl, ?_, hta, htb⟩
      · have := hva.append hvb
        have e1 : List.take (P.cellsOf f.type) (cs.drop o) ++ cs.drop (o + P.cellsOf f.type) = cs.drop o := by
          rw [← List.drop_drop]; exact List.take_append_drop _ _
        rw [e1] at this; exact this
      · rw [← hva.1, List.length_take, List.length_drop]; omega
theorem weightsAll_mem {e : TypeId} : ∀ {ds : List (DataW H)} {d : DataW H} {m : Nat}, d ∈ ds → m ∈ d.weights P e → m ∈ DataW.weightsAll P e ds
  | x :: r, d, m, hd, hm => by
    simp only [DataW.weightsAll, List.mem_append]
    rcases List.mem_cons.1 hd with rfl | hd
    · exact .inl hm
    · exact .inr (weightsAll_mem hd hm)
theorem arr_ty {β : Bk} (n : Nat) (ih : ∀ (t : TypeId) (cs : List Value), plainT P n t = true → ∀ (fuel : Nat) (x : DataW H × List MemPlace), DataW.trod enc P w 0 (fun _ => true) true fuel t cs = some x →
      (∀ m ∈ x.1.weights P t, m ≤ 140737488351232) → ∃ ds, VL (allK w) β w cs ds ∧ tyD P n t ds) (e : TypeId) (hp : plainT P n e = true) (fuel : Nat) :
    ∀ (m : Nat) (cs : List Value) (xs : List (DataW H × List MemPlace)), cs.length = m * P.cellsOf e → xs.length = m →
      (∀ i, i < m → DataW.trod enc P w 0 (fun _ => true) true fuel e ((cs.drop (i * P.cellsOf e)).take (P.cellsOf e)) = xs[i]?) → (∀ q ∈ DataW.weightsAll P e (xs.map (·.1)), q ≤ 140737488351232) →
      ∃ ds, VL (allK w) β w cs ds ∧ tyR P (tyD P n) e m ds
  | 0, cs, xs, hl, hx, _, _ => by
    have : cs = [] := List.eq_nil_of_length_eq_zero (by simpa using hl)
    subst this
    exact ⟨[], by simp [VL], rfl⟩
  | m + 1, cs, xs, hl, hx, he, hw => by
    cases xs with
    | nil => simp at hx
    | cons x xs =>
      have h0 := he 0 (by omega)
      simp only [List.map_cons, DataW.weightsAll, List.mem_append] at hw
      rw [Nat.add_mul] at hl
      obtain ⟨a, hva, hta⟩ := ih e _ hp fuel x (by simpa using h0) (fun q hq => hw q (.inl hq))
      obtain ⟨b, hvb, htb⟩ := arr_ty n ih e hp fuel m (cs.drop (P.cellsOf e)) xs (by rw [List.length_drop]; omega) (by simpa using hx) (fun i hi => by
        have := he (i + 1) (by omega)
        rw [List.drop_drop, show P.cellsOf e + i * P.cellsOf e = (i + 1) * P.cellsOf e by rw [Nat.add_mul]; omega, this]; rfl) (fun q hq => hw q (.inr hq))
      refine ⟨a ++ b, ?_, a, b, rfl, ?_, hta, htb⟩
      · have := hva.append hvb
        rw [List.take_append_drop] at this; exact this
      · rw [← hva.1, List.length_take]; omega
theorem trod_ty {β : Bk} : ∀ (n : Nat) (t : TypeId) (cs : List Value), plainT P n t = true → ∀ (fuel : Nat) (x : DataW H × List MemPlace), DataW.trod enc P w 0 (fun _ => true) true fuel t cs = some x →
      (∀ m ∈ x.1.weights P t, m ≤ 140737488351232) → ∃ ds, VL (allK w) β w cs ds ∧ tyD P n t ds
  | 0, t, cs, hp => by simp [plainT] at hp
  | n + 1, t, cs, hp => by
    intro fuel x h hw
    have one : ∀ {v : Value} {d : D}, V (allK w) β w v d → VL (allK w) β w [v] [d] := fun hv => ⟨rfl, fun i u y h1 h2 => by
      cases i with
      | zero => simp at h1 h2; subst h1 h2; exact hv
      | succ i => simp at h1⟩
    unfold plainT at hp
    unfold tyD
    split at hp
    · rename_i hu
      obtain ⟨b, rfl, rfl⟩ := DataW.trod_bool hu h
      exact ⟨[.bool b], one (.bool b), b, rfl⟩
    · rename_i q hu
      obtain ⟨m, rfl, rfl, hm⟩ := DataW.trod_int hu h
      exact ⟨[.int q m], one (.int q m), m, rfl, hm⟩
    · rename_i hu
      obtain ⟨s, rfl, rfl, hm⟩ := DataW.trod_string hu h
      exact ⟨[.str s], one (.str s), s, rfl, by have := hw s.data.toList.length (by simp [DataW.weights]); simpa using this⟩
    · rename_i e hu
      simp only [Bool.and_eq_true, decide_eq_true_eq] at hp
      obtain ⟨hpe, hpos⟩ := hp
      rcases DataW.trod_slice hu h with ⟨rfl, rfl⟩ | ⟨a, len, cap, elems, rest, m, _, rfl, rfl, _, hlc, hcm, hel, hr, _, _⟩
      · exact ⟨[.nils], one .nils, .inl rfl⟩
      · simp only [DataW.weights, hu, List.mem_cons, List.mem_append] at hw
        have each : ∀ i, i < len → ∃ cs row, w.cells? 0 (a.add (i * P.cellsOf e)) (P.cellsOf e) = some cs ∧ VL (allK w) β w cs row ∧ tyD P n e row := by
          intro i hi
          have h1 := hr i hi
          have h2 := List.getElem?_eq_getElem (l := elems) (i := i) (by omega)
          rw [h2] at h1
          cases hc : w.cells? 0 (a.add (i * P.cellsOf e)) (P.cellsOf e) with
          | none => rw [hc] at h1; cases h1
          | some cs =>
            rw [hc] at h1
            obtain ⟨row, r1, r2⟩ := trod_ty n e cs hpe m _ h1 (fun q hq => hw q (.inr (.inl (weightsAll_mem (List.mem_map.2 ⟨_, List.getElem_mem (h := by omega), rfl⟩) hq))))
            exact ⟨cs, row, rfl, r1, r2⟩
        have each' : ∀ i, ∃ row, i < len → ∃ cs, w.cells? 0 (a.add (i * P.cellsOf e)) (P.cellsOf e) = some cs ∧ VL (allK w) β w cs row ∧ tyD P n e row := fun i => by
          by_cases hi : i < len
          · obtain ⟨cs, row, h⟩ := each i hi
            exact ⟨row, fun _ => ⟨cs, h⟩⟩
          · exact ⟨[], fun h => absurd h hi⟩
        obtain ⟨F, hF⟩ := Classical.axiomOfChoice each'
        have hget : ∀ (i : Nat) row, ((List.range len).map F)[i]? = some row → i < len ∧ row = F i := fun i row hi => by
          have hlt := (List.getElem?_eq_some_iff.1 hi).1
          simp at hlt
          simp [List.getElem?_map, List.getElem?_range hlt] at hi
          exact ⟨hlt, hi.symm⟩
        have hsp : 0 < len → a.block < w.heap.size ∧ a.spot = none := fun h0 => by
          obtain ⟨cs, c1, _, _⟩ := hF 0 h0
          obtain ⟨c2, c3⟩ := cells?_spec c1
          have := c3 0 cs[0] (List.getElem?_eq_getElem (by omega))
          simp [Addr.add] at this
          exact cell_lt this
        have hcell : ∀ i j, i < len → j < P.cellsOf e → ∃ v, w.cell? ⟨a.block, a.off + i * P.cellsOf e + j, none⟩ = some v ∧ ∀ d, (F i)[j]? = some d → V (allK w) β w v d := by
          intro i j hi hj
          obtain ⟨cs, c1, c2, _⟩ := hF i hi
          obtain ⟨c3, c4⟩ := cells?_spec c1
          have hg := List.getElem?_eq_getElem (l := cs) (i := j) (by omega)
          have := c4 j _ hg
          have hsp := (hsp (by omega)).2
          have e1 : (a.add (i * P.cellsOf e)).add j = ⟨a.block, a.off + i * P.cellsOf e + j, none⟩ := by
            obtain ⟨b, o', sp⟩ := a
            simp at hsp; subst hsp
            rw [add_mk, add_mk]
          rw [e1] at this
          exact ⟨_, this, fun d hd => c2.2 j _ d hg hd⟩
        refine ⟨[.sl (P.cellsOf e) ((List.range len).map F)], one (.sl a len cap (P.cellsOf e) _ (fun i j => (w.cell? ⟨a.block, a.off + i * P.cellsOf e + j, none⟩).getD undef) (fun hne => hsp (by
          cases len with
          | zero => simp at hne
          | succ => omega)) (by simp) hlc (fun i row hi => ?_) (fun i row j d hi hj => ?_) (fun i row j d hi hj => ?_)), .inr ⟨_, rfl, ?_, fun row hrow => ?_⟩⟩
        · obtain ⟨hi', rfl⟩ := hget i row hi
          obtain ⟨cs, c1, c2, _⟩ := hF i hi'
          rw [← c2.1, (cells?_spec c1).1]
        · obtain ⟨hi', rfl⟩ := hget i row hi
          obtain ⟨cs, c1, c2, _⟩ := hF i hi'
          have hlt := (List.getElem?_eq_some_iff.1 hj).1
          rw [← c2.1, (cells?_spec c1).1] at hlt
          obtain ⟨v, v1, _⟩ := hcell i j hi' hlt
          rw [v1]; rfl
        · obtain ⟨hi', rfl⟩ := hget i row hi
          obtain ⟨cs, c1, c2, _⟩ := hF i hi'
          have hlt := (List.getElem?_eq_some_iff.1 hj).1
          rw [← c2.1, (cells?_spec c1).1] at hlt
          obtain ⟨v, v1, v2⟩ := hcell i j hi' hlt
          rw [v1]; exact v2 d hj
        · have := hw _ (.inl rfl)
          simp only [List.length_map, List.length_range] at this ⊢
          have h2 : len * P.bytesOf e ≤ (elems.length + rest.length) * P.bytesOf e := Nat.mul_le_mul_right _ (by omega)
          omega
        · obtain ⟨i, hi, rfl⟩ := List.mem_map.1 hrow
          obtain ⟨cs, _, _, c3⟩ := hF i (by simpa using hi)
          exact c3
    · rename_i fs hu
      simp only [Bool.and_eq_true, List.all_eq_true] at hp
      obtain ⟨xs, m, _, rfl, hl, hlen, hf⟩ := DataW.trod_struct hu h
      simp only [DataW.weights, hu] at hw
      have := fields_ty (β := β) n (fun t cs hp fuel x => trod_ty n t cs hp fuel x) cs m fs.toList 0 xs (by rw [hl]; exact hp.1) (fun f hf => hp.2 f hf) (by simpa using hlen) (fun i f hi => hf i f (by simpa using hi)) hw (by omega)
      simpa using this
    · rename_i m e hu
      simp only [Bool.and_eq_true] at hp
      cases fuel with
      | zero => simp [DataW.trod] at h
      | succ fuel =>
        unfold DataW.trod at h
        rw [hu] at h
        have h : (if cs.length = P.cellsOf t then ((List.range m).mapM fun i => DataW.trod enc P w 0 (fun _ => true) true fuel e ((cs.drop (i * P.cellsOf e)).take (P.cellsOf e))).map fun xs => ((.agg (xs.map (·.1)) : DataW H), xs.flatMap (·.2)) else none) = some x := by
          cases cs <;> simpa using h
        split at h
        · rename_i hl
          rw [Option.map_eq_some_iff] at h
          obtain ⟨xs, hx, rfl⟩ := h
          simp only [DataW.weights, hu] at hw
          have hxl := mapM_some_length hx
          exact arr_ty n (fun t cs hp fuel x => trod_ty n t cs hp fuel x) e hp.1 fuel m cs xs (by rw [hl]; exact (Nat.eq_of_beq_eq_true hp.2).symm) (by simpa using hxl) (fun i hi => mapM_some_get hx i i (by simp [hi])) hw
        · cases h
    · cases hp
theorem ty_one {n : Nat} {t : TypeId} {v : Value} {W : World} {base : Nat} (hp : plainT P (n + 1) t = true) (hok : Value.okWide P W .any base t v) :
    (isAggT P t = some false ∧ v.cells = #[v]) ∨ (isAggT P t = some true ∧ ∃ cs, v = .agg cs) := by
  unfold plainT at hp
  unfold isAggT
  split at hp
  · rename_i hu; obtain ⟨b, rfl⟩ := okWide_bool hu hok; rw [hu]; exact .inl ⟨rfl, rfl⟩
  · rename_i hu; obtain ⟨b, rfl⟩ := okWide_int hu hok; rw [hu]; exact .inl ⟨rfl, rfl⟩
  · rename_i hu
    rw [hu]
    simp only [Value.okWide, hu, Cell.okWide] at hok
    cases v <;> simp [Cell.ok, hu] at hok <;> exact .inl ⟨rfl, rfl⟩
  · rename_i e hu
    rw [hu]
    simp only [Value.okWide, hu, Cell.okWide] at hok
    cases v <;> simp [Cell.ok, hu] at hok <;> exact .inl ⟨rfl, rfl⟩
  · rename_i fs hu; obtain ⟨cs, rfl, _⟩ := okWide_struct hu hok; rw [hu]; exact .inr ⟨rfl, cs, rfl⟩
  · rename_i m e hu
    rw [hu]
    simp only [Value.okWide, hu] at hok
    obtain ⟨cs, rfl, _⟩ := hok
    exact .inr ⟨rfl, cs, rfl⟩
  · cases hp
theorem arg_ty {t : TypeId} {v : Value} {d : DataW H} {ps : List MemPlace} {base : Nat} (hp : plainT P 30 t = true) (hok : Value.okWide P w .any base t v) (h : DataW.Trod enc P w 0 (fun _ => true) true t v d ps)
    (hw : ∀ m ∈ d.weights P t, m ≤ 140737488351232) : ∃ x, TyA P t x ∧ VA (allK w) noB w v x := by
  obtain ⟨fuel, h⟩ := h
  obtain ⟨ds, h1, h2⟩ := trod_ty (β := noB) 30 t _ hp fuel _ h hw
  rcases ty_one hp hok with ⟨q1, q2⟩ | ⟨q1, cs, rfl⟩
  · rw [q2] at h1
    have hl := h1.1
    match ds, hl with
    | [d'], _ => exact ⟨.one d', ⟨q1, h2⟩, h1.2 0 v d' rfl rfl⟩
  · exact ⟨.agg ds, ⟨q1, h2⟩, cs, rfl, h1⟩
theorem args_ty {base : Nat} : ∀ {ts : List TypeId} {vs : List Value} {ds : List (DataW H)} {ps : List MemPlace}, (∀ t ∈ ts, plainT P 30 t = true) → (∀ (j : Nat) t v, ts[j]? = some t → vs[j]? = some v → Value.okWide P w .any base t v) →
    DataW.TrodAll enc P w 0 (fun _ => true) true ts vs ds ps → (∀ m ∈ DataW.weightsEach P ts ds, m ≤ 140737488351232) →
    ∃ as0, TyAs P ts as0 ∧ vs.length = as0.length ∧ ∀ (i : Nat) v x, vs[i]? = some v → as0[i]? = some x → VA (allK w) noB w v x
  | [], vs, ds, ps, _, _, h, _ => by
    obtain ⟨rfl, rfl, rfl⟩ := trodAll_nil h
    exact ⟨[], rfl, rfl, fun i v x hv => by simp at hv⟩
  | t :: ts, vs, ds, ps, hp, hok, h, hw => by
    obtain ⟨v, vs1, d, ds1, a, b, rfl, rfl, rfl, h1, h2⟩ := trodAll_cons h
    simp only [DataW.weightsEach, List.mem_append] at hw
    obtain ⟨x, x1, x2⟩ := arg_ty (hp t (by simp)) (hok 0 t v rfl rfl) h1 (fun m hm => hw m (.inl hm))
    obtain ⟨as0, a1, a2, a3⟩ := args_ty (fun t ht => hp t (by simp [ht])) (fun j t v h1 h2 => hok (j + 1) t v (by simpa using h1) (by simpa using h2)) h2 (fun m hm => hw m (.inr hm))
    refine ⟨x :: as0, ⟨x, as0, rfl, x1, a1⟩, by simp [a2], fun i u y hu hy => ?_⟩
    cases i with
    | zero => simp at hu hy; subst hu hy; exact x2
    | succ i => exact a3 i u y (by simpa using hu) (by simpa using hy)
theorem trodAll_stays (hl : laidOutB P = true) {W W' : World} (hb : Below W.heap.size W W') (sp : Nat → Bool) : ∀ {ts : List TypeId} {vs : List Value} {ds : List (DataW H)} {ps : List MemPlace},
    (∀ t ∈ ts, P.readableRec t = true ∧ t < P.types.size) → DataW.TrodAll enc P W 0 (fun _ => true) true ts vs ds ps → (∀ p ∈ ps, p.block < W.heap.size) → (∀ p ∈ ps, sp p.block = true) → DataW.TrodAll enc P W' 0 sp true ts vs ds ps
  | [], vs, ds, ps, _, h, _, _ => by
    obtain ⟨rfl, rfl, rfl⟩ := trodAll_nil h
    rfl
  | t :: ts, vs, ds, ps, hr, h, hlt, hs => by
    obtain ⟨v, vs1, d, ds1, a, b, rfl, rfl, rfl, h1, h2⟩ := trodAll_cons h
    exact ⟨a, b, WideElems.Trod_stays hl (hr t (by simp)).1 (hr t (by simp)).2 h1 (fun x hx => hb.same (hlt x (by simp [hx]))) (fun x hx => hs x (by simp [hx])),
      trodAll_stays hl hb sp (fun t ht => hr t (by simp [ht])) h2 (fun x hx => hlt x (by simp [hx])) (fun x hx => hs x (by simp [hx])), rfl⟩
theorem law_post {f : Func} {s : ChangeSpec} {W W' : World} {args : Array Value} {ds gs : List (DataW H)} {before : List MemPlace} {tb : TypeId} (hl : laidOutB P = true)
    (hr : ∀ t ∈ f.params.toList, P.readableRec t = true ∧ t < P.types.size) (hvars : s.vars = []) (hres : f.resultTypes = #[tb]) (htb : P.underlying tb = some .bool)
    (hfn : (s.fn H ds) = { results := [.lit (.bool true)], args := ds }) (hW : DataW.Whole enc P f.params.toList s.vars false W args.toList ds gs before) (hb : Below W.heap.size W W') :
    s.post enc P f false true false false W args (.bool true) W' := by
  have hlt : ∀ p ∈ before, p.block < W.heap.size := fun p hp => hW.lt p hp
  have hW' := hW
  obtain ⟨p, q, hA, hV, rfl, hz, _⟩ := hW'
  rw [hvars] at hV
  obtain ⟨rfl, rfl⟩ := trodVars_none hV
  have hres' : (s.fn H (ds ++ [])).results = [.lit (.bool true)] := by rw [List.append_nil, hfn]
  have hargs' : (s.fn H (ds ++ [])).args = ds := by rw [List.append_nil, hfn]
  have hvars' : (s.fn H (ds ++ [])).vars = [] := by rw [List.append_nil, hfn]
  have hst : ∀ sp : Nat → Bool, (∀ x ∈ p, sp x.block = true) → DataW.TrodAll enc P W' 0 sp true f.params.toList args.toList ds p := fun sp hs =>
    trodAll_stays hl hb sp hr hA (fun x hx => hlt x (by simp [hx])) hs
  refine ⟨ds, [], p ++ [], [], p, [], hW, ?_, ?_, ?_, ?_, fun h => by cases h⟩
  · rw [hres', hres]
    exact trodAll_mk1 (shut_bool htb true)
  · rw [hargs']; exact hst _ (fun x hx => by simpa using hlt x (by simp [hx]))
  · rw [hvars', hvars]; rfl
  · refine World.keptBut_mono (fun x hx => ⟨hx, .inr (.inl (by simpa using hx))⟩) (hb.frame (· ∈ p ++ []))
end
end Go.Fw
end
section
set_option linter.unusedVariables false
set_option linter.unusedSimpArgs false
namespace Go.Fw
open Go.ChangeShapes Go.WideShapes Go.RowKit
theorem joined_of {P : Program} {f : FuncId} {fn : Func} {s : ChangeSpec} {c : OpenClaim} (a0 : laidOutB P = true)
    (a1 : (c.wf (OpenSpec.ofChange s) && mapsRowed P && fn.params.all (P.readableRec ·) && namedTie P c.named s.vars && (c.stops == []) && (P.stops == []) && (c.knobs == []) && (P.stopKnobs == []) && (c.inPlace == P.inPlace f)) = true)
    (a2 : (c.unfollowed == P.unfollowed f) = true) (a3 : (c.recurses == P.recurses f) = true) (a4 : (c.named == P.varsNamed f) = true)
    (a5 : ((c.maps == (fn.params.toList ++ s.plain.varTypes P).any (P.mapsRec ·)) && (c.ifaces == (fn.params.toList ++ s.plain.varTypes P).any (P.ifacesRec ·)) && (c.mapsOut == P.mapsAmong fn.resultTypes.toList) && (c.loops == (fn.params.toList ++ s.plain.varTypes P).any (P.loopsFrom ·)) && (c.wideKeys == (fn.params.toList ++ s.plain.varTypes P ++ fn.resultTypes.toList).any (P.wideKeysFrom ·))) = true)
    (a6 : (s.vars.all (P.varReadable ·) && fn.resultTypes.all (fun t => P.readableRec t && decide (t < P.types.size)) && (c.ifacesOut == fn.resultTypes.toList.any (P.ifacesRec ·)) && (c.loopsOut == fn.resultTypes.toList.any (P.loopsFrom ·))) = true)
    (a7 : ((c.plainKeys == P.plainKeys) && c.shortTexts.isNone && P.stopsHeard && P.mayEnter && (c.lifted == P.liftsFinal) && (P.make == some c.make) && (c.kinds == (if c.domain.isEmpty then [] else fn.params.toList.map fun t => match P.underlying t with | some (.int k) => some k | _ => none)) && (c.pinned == c.pinnedBy)) = true)
    (a8 : ((c.veiled == (fn.params.toList ++ s.plain.varTypes P ++ fn.resultTypes.toList).any (P.veiledRec ·)) && c.veiledFits P fn.params.toList (fn.params.toList ++ s.plain.varTypes P ++ fn.resultTypes.toList)) = true) :
    joinedFacts P f fn s c = true := by
  rw [Bool.and_eq_true] at a8
  repeat rw [Bool.and_eq_true] at a7
  repeat rw [Bool.and_eq_true] at a6
  repeat rw [Bool.and_eq_true] at a5
  repeat rw [Bool.and_eq_true] at a1
  obtain ⟨⟨⟨⟨⟨⟨⟨⟨b1, b2⟩, b3⟩, b4⟩, b5⟩, b6⟩, b7⟩, b8⟩, b9⟩ := a1
  obtain ⟨⟨⟨⟨c1, c2⟩, c3⟩, c4⟩, c5⟩ := a5
  obtain ⟨⟨⟨d1, d2⟩, d3⟩, d4⟩ := a6
  obtain ⟨⟨⟨⟨⟨⟨⟨e1, e2⟩, e3⟩, e4⟩, e5⟩, e6⟩, e7⟩, e8⟩ := a7
  obtain ⟨f1, f2⟩ := a8
  unfold joinedFacts
  rw [b1, a0, b2, b3, b4, b5, b6, b7, b8, b9, a2, a3, a4, c1, c2, c3, c4, c5, d1, d2, d3, d4, e1, e2, e3, e4, e5, e6]
  exact Bool.and_eq_true_iff.2 ⟨Bool.and_eq_true_iff.2 ⟨Bool.and_eq_true_iff.2 ⟨Bool.and_eq_true_iff.2 ⟨rfl, e7⟩, e8⟩, f1⟩, f2⟩
end Go.Fw
end
section
set_option linter.unusedVariables false
set_option linter.unusedSimpArgs false
namespace Go.Fw
open Go.ChangeShapes Go.WideShapes Go.RowKit
def SlSm (B : Nat) (d : D) : Prop := ∀ es rows, d = .sl es rows → rows.length ≤ B
def SmA (B : Nat) : A → Prop
  | .one d => SlSm B d
  | .agg cs => ∀ d ∈ cs, SlSm B d
section
variable {H : Type} {enc : TypeId × Value → H} {P : Program} {w : World}
theorem tiles_mem {v : Value} {cs : List Value} : ∀ (fs : List Field) (o : Nat), tilesB P o fs cs.length = true → v ∈ cs.drop o → ∃ (i : Nat) (f : Field), fs[i]? = some f ∧ v ∈ (cs.drop f.offset).take (P.cellsOf f.type)
  | [], o, ht, hv => by
    have : o = cs.length := Nat.eq_of_beq_eq_true ht
    subst this
    simp at hv
  | f :: fs, o, ht, hv => by
    simp only [tilesB, Bool.and_eq_true] at ht
    have hfo := Nat.eq_of_beq_eq_true ht.1
    have e1 : List.take (P.cellsOf f.type) (cs.drop o) ++ cs.drop (o + P.cellsOf f.type) = cs.drop o := by
      rw [← List.drop_drop]; exact List.take_append_drop _ _
    rw [← e1] at hv
    rcases List.mem_append.1 hv with hv | hv
    · exact ⟨0, f, rfl, by rw [hfo]; exact hv⟩
    · obtain ⟨i, g, h1, h2⟩ := tiles_mem fs _ ht.2 hv
      exact ⟨i + 1, g, by simpa using h1, h2⟩
theorem trod_len {bulk : DataW H → Nat} (b1 : ∀ elems rest, elems.length ≤ bulk (.slice elems rest)) (b2 : ∀ parts p, p ∈ parts → bulk p ≤ bulk (.agg parts)) :
    ∀ (n : Nat) (t : TypeId) (cs : List Value), plainT P n t = true → ∀ (fuel : Nat) (x : DataW H × List MemPlace), DataW.trod enc P w 0 (fun _ => true) true fuel t cs = some x →
      ∀ a len cap, (Value.slice a len cap) ∈ cs → len ≤ bulk x.1
  | 0, t, cs, hp => by simp [plainT] at hp
  | n + 1, t, cs, hp => by
    intro fuel x h a len cap hv
    unfold plainT at hp
    split at hp
    · rename_i hu
      obtain ⟨b, rfl, rfl⟩ := DataW.trod_bool hu h
      simp at hv
    · rename_i q hu
      obtain ⟨m, rfl, rfl, hm⟩ := DataW.trod_int hu h
      simp at hv
    · rename_i hu
      obtain ⟨s, rfl, rfl, hm⟩ := DataW.trod_string hu h
      simp at hv
    · rename_i e hu
      rcases DataW.trod_slice hu h with ⟨rfl, rfl⟩ | ⟨a', len', cap', elems, rest, m, _, rfl, rfl, _, hlc, hcm, hel, hr, _, _⟩
      · simp at hv
        omega
      · simp at hv
        obtain ⟨_, rfl, _⟩ := hv
        have := b1 (elems.map (·.1)) (rest.map (·.1))
        rw [List.length_map] at this
        have : len ≤ bulk (.slice (elems.map (·.1)) (rest.map (·.1))) := by omega
        exact this
    · rename_i fs hu
      simp only [Bool.and_eq_true, List.all_eq_true] at hp
      obtain ⟨xs, m, _, rfl, hl, hlen, hf⟩ := DataW.trod_struct hu h
      obtain ⟨i, f, h1, h2⟩ := tiles_mem (P := P) fs.toList 0 (by rw [hl]; exact hp.1) (by simpa using hv)
      have h3 := hf i f (by simpa using h1)
      have hil := (List.getElem?_eq_some_iff.1 h1).1
      have hxl : i < xs.length := by rw [hlen]; simpa using hil
      rw [List.getElem?_eq_getElem hxl] at h3
      have h4 := trod_len b1 b2 n f.type _ (hp.2 f (List.mem_of_getElem? h1)) m _ h3 a len cap h2
      exact Nat.le_trans h4 (b2 _ _ (List.mem_map.2 ⟨_, List.getElem_mem hxl, rfl⟩))
    · rename_i m e hu
      simp only [Bool.and_eq_true] at hp
      cases fuel with
      | zero => simp [DataW.trod] at h
      | succ fuel =>
        unfold DataW.trod at h
        rw [hu] at h
        have h : (if cs.length = P.cellsOf t then ((List.range m).mapM fun i => DataW.trod enc P w 0 (fun _ => true) true fuel e ((cs.drop (i * P.cellsOf e)).take (P.cellsOf e))).map fun xs => ((.agg (xs.map (·.1)) : DataW H), xs.flatMap (·.2)) else none) = some x := by
          cases cs <;> simpa using h
        split at h
        · rename_i hl
          rw [Option.map_eq_some_iff] at h
          obtain ⟨xs, hx, rfl⟩ := h
          have hxl := mapM_some_length hx
          have hcl : cs.length = m * P.cellsOf e := by rw [hl]; exact (Nat.eq_of_beq_eq_true hp.2).symm
          obtain ⟨j, hj⟩ := List.mem_iff_getElem?.1 hv
          have hjl := (List.getElem?_eq_some_iff.1 hj).1
          have hc0 : 0 < P.cellsOf e := by
            rcases Nat.eq_zero_or_pos (P.cellsOf e) with h0 | h0
            · rw [h0] at hcl; omega
            · exact h0
          have hi : j / P.cellsOf e < m := Nat.div_lt_of_lt_mul (by rw [Nat.mul_comm]; omega)
          have hdm := Nat.div_add_mod j (P.cellsOf e)
          have hml := Nat.mod_lt j hc0
          have h3 := mapM_some_get hx (j / P.cellsOf e) (j / P.cellsOf e) (by simp [hi])
          have hxi : j / P.cellsOf e < xs.length := by rw [hxl]; simpa using hi
          rw [List.getElem?_eq_getElem hxi] at h3
          have hmem : Value.slice a len cap ∈ (cs.drop (j / P.cellsOf e * P.cellsOf e)).take (P.cellsOf e) := by
            refine List.mem_iff_getElem?.2 ⟨j % P.cellsOf e, ?_⟩
            rw [List.getElem?_take, if_pos hml, List.getElem?_drop, Nat.mul_comm, hdm]; exact hj
          have h4 := trod_len b1 b2 n e _ hp.1 fuel _ h3 a len cap hmem
          exact Nat.le_trans h4 (b2 _ _ (List.mem_map.2 ⟨_, List.getElem_mem hxi, rfl⟩))
        · cases h
    · cases hp
theorem sl_val {v : Value} {es : Nat} {rows : List (List D)} (h : V (allK w) noB w v (.sl es rows)) : ∃ a len cap, v = .slice a len cap ∧ rows.length = len := by
  cases h with
  | sl a len cap _ _ f hk hlen hcap hes hcell hval => exact ⟨_, _, _, rfl, hlen⟩
theorem args_len {bulk : DataW H → Nat} {B : Nat} (b1 : ∀ elems rest, elems.length ≤ bulk (.slice elems rest)) (b2 : ∀ parts p, p ∈ parts → bulk p ≤ bulk (.agg parts)) :
    ∀ {ts : List TypeId} {vs : List Value} {ds : List (DataW H)} {ps : List MemPlace} {as0 : List A}, (∀ t ∈ ts, plainT P 30 t = true) → DataW.TrodAll enc P w 0 (fun _ => true) true ts vs ds ps → vs.length = as0.length →
      (∀ (i : Nat) v x, vs[i]? = some v → as0[i]? = some x → VA (allK w) noB w v x) → (∀ d ∈ ds, bulk d ≤ B) → ∀ a ∈ as0, SmA B a
  | [], vs, ds, ps, as0, _, h, hl, _, _ => by
    obtain ⟨rfl, rfl, rfl⟩ := trodAll_nil h
    intro a ha
    cases as0 with
    | nil => cases ha
    | cons => simp at hl
  | t :: ts, vs, ds, ps, as0, hp, h, hl, hv, hb => by
    obtain ⟨v, vs1, d, ds1, a, b, rfl, rfl, rfl, h1, h2⟩ := trodAll_cons h
    cases as0 with
    | nil => simp at hl
    | cons x as0 =>
      intro y hy
      rcases List.mem_cons.1 hy with rfl | hy
      · obtain ⟨fuel, h1⟩ := h1
        have hlen := trod_len b1 b2 30 t _ (hp t (by simp)) fuel _ h1
        have hbd := hb d (by simp)
        have hx := hv 0 v y rfl rfl
        cases y with
        | one e =>
          intro es rows he
          subst he
          obtain ⟨p, len, cap, rfl, hr⟩ := sl_val hx
          have h3 : len ≤ bulk d := hlen p len cap (by simp [Value.cells])
          omega
        | agg cs' =>
          obtain ⟨cs, rfl, hvl⟩ := hx
          intro e he es rows hes
          subst hes
          obtain ⟨i, hi⟩ := List.mem_iff_getElem?.1 he
          have hil := (List.getElem?_eq_some_iff.1 hi).1
          have hvi := List.getElem?_eq_getElem (l := cs.toList) (i := i) (by rw [hvl.1]; exact hil)
          obtain ⟨p, len, cap, hp', hr⟩ := sl_val (hvl.2 i _ _ hvi hi)
          have h3 : len ≤ bulk d := hlen p len cap (by rw [← hp']; exact List.mem_of_getElem? hvi)
          omega
      · exact args_len b1 b2 (fun t ht => hp t (by simp [ht])) h2 (by simpa using hl) (fun i v x hv1 hx1 => hv (i + 1) v x (by simpa using hv1) (by simpa using hx1)) (fun d hd => hb d (by simp [hd])) y hy
theorem law_calls_upto {bulk : DataW H → Nat} {B : Nat} (b1 : ∀ elems rest, elems.length ≤ bulk (.slice elems rest)) (b2 : ∀ parts p, p ∈ parts → bulk p ≤ bulk (.agg parts))
    {f : FuncId} {fn : Func} {s : ChangeSpec} {W : World} {base : Nat} {args : Array Value} {ds gs : List (DataW H)} {before : List MemPlace} {tb : TypeId} (hl : laidOutB P = true)
    (hp : (fn.params.toList.all fun t => plainT P 30 t && P.readableRec t && decide (t < P.types.size)) = true) (hvars : s.vars = []) (hres : fn.resultTypes = #[tb]) (htb : P.underlying tb = some .bool)
    (hfn : ds.length = fn.params.size → (s.fn H ds) = { results := [.lit (.bool true)], args := ds })
    (law : ∀ as0, TyAs P fn.params.toList as0 → (∀ a ∈ as0, SmA B a) → DCalls P f as0 noS fun r _ => r = .a (.one (.bool true)))
    (hval : ∀ (j : Nat) t v, fn.params[j]? = some t → args[j]? = some v → Value.okWide P W .any base t v)
    (hW : DataW.Whole enc P fn.params.toList s.vars false W args.toList ds gs before) (hbk : ∀ d ∈ ds ++ gs, bulk d ≤ B)
    (hw : ((DataW.weightsEach P (fn.params.toList ++ s.plain.varTypes P) (ds ++ gs)).all (· ≤ reachBytes)) = true) :
    Calls P f args W fun e W' => ∃ v, e = .returned v ∧ s.post enc P fn false true false false W args v W' := by
  simp only [List.all_eq_true, Bool.and_eq_true, decide_eq_true_eq] at hp
  have hW' := hW
  obtain ⟨p, q, hA, hV, rfl, hz, _⟩ := hW'
  have hg : gs = [] := by rw [hvars] at hV; exact (trodVars_none hV).1
  subst hg
  have hvt : s.plain.varTypes P = [] := by
    have : s.plain.vars = [] := hvars
    simp [DataSpec.varTypes, this]
  rw [hvt, List.append_nil, List.append_nil] at hw
  rw [List.append_nil] at hbk
  obtain ⟨as0, a1, a2, a3⟩ := args_ty (base := base) (fun t ht => (hp t ht).1.1) (fun j t v h1 h2 => hval j t v (by simpa using h1) (by simpa using h2)) hA (fun m hm => by
    have := of_decide_eq_true (List.all_eq_true.1 hw m hm)
    simpa [reachBytes] using this)
  have hlen : ds.length = fn.params.size := by
    have key : ∀ {ts : List TypeId} {vs : List Value} {ds : List (DataW H)} {ps : List MemPlace}, DataW.TrodAll enc P W 0 (fun _ => true) true ts vs ds ps → ds.length = ts.length := by
      intro ts
      induction ts with
      | nil => intro vs ds ps h; obtain ⟨_, rfl, _⟩ := trodAll_nil h; rfl
      | cons t ts ih => intro vs ds ps h; obtain ⟨v, vs1, d, ds1, a, b, _, rfl, _, _, h2⟩ := trodAll_cons h; simp [ih h2]
    simpa using key hA
  have hsm := args_len (as0 := as0) b1 b2 (fun t ht => (hp t ht).1.1) hA a2 a3 hbk
  have hd := (law as0 a1 hsm).2 (allK W) noB W args srel0 (by simpa using a2) (fun i v x h1 h2 => a3 i v x (by simpa using h1) h2)
  refine hd.mono fun e W' ⟨v, r, σ', k', β', q1, q2, q3, q4, q5, q6⟩ => ⟨v, q1, ?_⟩
  subst q2
  have hv : v = .bool true := V.inv_bool q3
  subst hv
  exact law_post hl (fun t ht => ⟨(hp t ht).1.2, (hp t ht).2⟩) hvars hres htb (hfn hlen) hW ⟨q6.os, q6.tape, q6.output, q6.size, fun b hb => q6.block b hb (fun i bi hi => by cases hi)⟩
end
end Go.Fw
end
section
set_option linter.unusedVariables false
set_option linter.unusedSimpArgs false
namespace Go.Fw
variable {P : Program} {σ σ' : Store} {el : TypeId} {d : D} {rs : List (List D)}
theorem w64_id {n : Int} (h1 : -9223372036854775808 ≤ n) (h2 : n ≤ 9223372036854775807) : w64 n = n := by
  simp only [w64, IntKind.wrap, IntKind.signed, IntKind.bits]; simp; omega
theorem w64_succ {j : Nat} (h : j < 2 ^ 62) : w64 ((j : Int) + 1) = ((j + 1 : Nat) : Int) := by
  rw [w64_id (by omega) (by omega)]; omega
abbrev iD (n : Int) : D := .int .i64 n
abbrev iA (n : Int) : A := .one (.int .i64 n)
abbrev bA (b : Bool) : A := .one (.bool b)
structure At (P : Program) (σ : Store) (el : TypeId) (d : D) (rs : List (List D)) : Prop where
  rows : Rows P σ el d rs
  size : rs.length < 2 ^ 60
  es : ∀ es rows, d = .sl es rows → es = P.cellsOf el
theorem At.lenI (h : At P σ el d rs) : Len d rs.length := by
  have hr := h.rows
  cases d <;> simp only [Rows] at hr <;> try exact hr.elim
  · subst hr; rfl
  · subst hr; rfl
  · rw [hr.1]; rfl
  · obtain ⟨t, rows, h1, h2, h3, rfl⟩ := hr
    show _ = _
    simp; omega
theorem At.len {n : Nat} (h : At P σ el d rs) (hl : Len d n) : n = rs.length := by
  have hr := h.rows
  cases d <;> simp only [Rows] at hr <;> try exact hr.elim
  · subst hr; exact hl
  · subst hr; exact hl
  · rw [hr.1]; exact hl
  · obtain ⟨t, rows, h1, h2, h3, rfl⟩ := hr
    have : n = _ := hl
    simp; omega
theorem At.lenK {K : Nat → Prop} (h : At P σ el d rs) (hk : K rs.length) : ∃ len : Nat, Len d len ∧ K len := ⟨_, h.lenI, hk⟩
theorem At.row {i : Nat} {row : List D} (h : At P σ el d rs) (hi : rs[i]? = some row) : Row σ d i row := by
  have hr := h.rows
  have hlt := (List.getElem?_eq_some_iff.1 hi).1
  cases d <;> simp only [Rows] at hr <;> try exact hr.elim
  · subst hr; simp at hi
  · subst hr; simp at hi
  · rw [hr.1] at hi; exact hi
  · obtain ⟨t, rows, h1, h2, h3, rfl⟩ := hr
    refine ⟨?_, t, rows, h1, ?_⟩
    · simp at hlt; omega
    · rw [List.getElem?_take] at hi
      split at hi
      · rw [List.getElem?_drop] at hi; exact hi
      · cases hi
theorem At.idx {es : Nat} (h : At P σ el d rs) (hes : P.cellsOf el = es) (hne : 0 < rs.length) : Idx P σ d es rs.length := by
  have hr := h.rows
  subst hes
  cases d <;> simp only [Rows] at hr <;> try exact hr.elim
  · subst hr; simp at hne
  · subst hr; simp at hne
  · obtain ⟨rfl, h2⟩ := hr
    refine ⟨h2.resolve_left (fun e => by subst e; simp at hne), rfl⟩
  · obtain ⟨t, rows, h1, h2, h3, rfl⟩ := hr
    exact ⟨by simp; omega, t, rows, h1, h2⟩
theorem At.idxK {es : Nat} {n : Int} {j : Nat} {K : Prop} (h : At P σ el d rs) (hes : P.cellsOf el = es) (hn : n = j) (hj : j < rs.length) (hk : K) :
    ∃ len : Nat, Idx P σ d es len ∧ 0 ≤ n ∧ n < (len : Int) ∧ K := ⟨_, h.idx hes (by omega), by omega, by omega, hk⟩
theorem At.rowK {i : Nat} {j : Nat} {row : List D} {K : List D → Prop} (h : At P σ el d rs) (hi : rs[j]? = some row) (hij : i = j) (hk : K row) : ∃ row, Row σ d i row ∧ K row := ⟨row, h.row (hij ▸ hi), hk⟩
theorem At.load {es : Nat} {n : Int} {j : Nat} {row : List D} {K : List D → Prop} (h : At P σ el d rs) (hi : rs[j]? = some row) (hes : P.cellsOf el = es) (hn : n = j) (hk : K row) :
    ∃ len : Nat, Idx P σ d es len ∧ 0 ≤ n ∧ n < (len : Int) ∧ ∃ row, Row σ d n.toNat row ∧ K row :=
  h.idxK hes hn (List.getElem?_eq_some_iff.1 hi).1 (h.rowK hi (by omega) hk)
theorem At.sub {lo hi : Nat} (h : At P σ el d rs) (h1 : lo ≤ hi) (h2 : hi ≤ rs.length) : At P σ el (dsub d lo hi) ((rs.drop lo).take (hi - lo)) := by
  have hr := h.rows
  have hs := h.size
  have hl : ((rs.drop lo).take (hi - lo)).length < 2 ^ 60 := by simp; omega
  cases d <;> simp only [Rows] at hr <;> try exact hr.elim
  · subst hr; exact ⟨by simp [dsub, Rows], hl, fun es rows e => by cases e⟩
  · subst hr; exact ⟨by simp [dsub, Rows], hl, fun es rows e => by cases e⟩
  · rename_i es rows
    obtain ⟨rfl, h3⟩ := hr
    refine ⟨⟨rfl, .inr (h.es _ _ rfl)⟩, hl, fun es' rows' e => ?_⟩
    have e : D.sl es _ = D.sl es' rows' := e
    injection e with e1 e2
    rw [← e1]; exact h.es _ _ rfl
  · obtain ⟨t, rows, q1, q2, q3, rfl⟩ := hr
    refine ⟨⟨t, rows, q1, q2, ?_, ?_⟩, hl, fun es rows e => by cases e⟩
    · simp at h2; omega
    · rw [List.drop_take, List.take_take, List.drop_drop]
      simp at h2
      congr 1; omega
def Ext (σ σ' : Store) : Prop := ∀ i, σ i ≠ .free → σ' i = σ i
theorem Ext.refl (σ : Store) : Ext σ σ := fun _ _ => rfl
theorem Ext.trans {σ1 σ2 σ3 : Store} (h : Ext σ1 σ2) (h' : Ext σ2 σ3) : Ext σ1 σ3 := fun i hi => by
  have := h i hi
  rw [h' i (by rw [this]; exact hi), this]
theorem Ext.new {id : Nat} (h : σ id = .free) (so : SO) : Ext σ (σ.set id so) := fun i hi => Store.set_ne _ _ (fun e => hi (e ▸ h))
theorem Ext.set {σ0 : Store} {id : Nat} (h : Ext σ0 σ) (hid : σ0 id = .free) (so : SO) : Ext σ0 (σ.set id so) := fun i hi => by
  have hne : i ≠ id := fun e => hi (by rw [e]; exact hid)
  rw [Store.set_ne _ _ hne]; exact h i hi
theorem Rows.same (h : Rows P σ el d rs) (hs : ∀ id i len, d = .osl id i len → σ' id = σ id) : Rows P σ' el d rs := by
  cases d <;> first | exact h | skip
  obtain ⟨t, rows, h1, h2⟩ := h
  exact ⟨t, rows, by rw [hs _ _ _ rfl]; exact h1, h2⟩
theorem At.same (h : At P σ el d rs) (hs : ∀ id i len, d = .osl id i len → σ' id = σ id) : At P σ' el d rs := ⟨h.rows.same hs, h.size, h.es⟩
theorem At.ext (h : At P σ el d rs) (he : Ext σ σ') : At P σ' el d rs := h.same fun id i len e => he id (by
  have := h.rows; subst e
  obtain ⟨t, rows, h1, _⟩ := this
  rw [h1]; intro e; cases e)
theorem At.nil : At P σ el .nils [] := ⟨rfl, by simp, fun es rows e => by cases e⟩
theorem At.new {t : TypeId} {id : Nat} (rs : List (List D)) (h : σ id = .live t rs) (hes : P.cellsOf t = P.cellsOf el) (hsz : rs.length < 2 ^ 60) {n : Nat} (hn : n = rs.length) : At P σ el (.osl id 0 n) rs :=
  ⟨⟨t, rs, h, hes, by omega, by subst hn; simp⟩, hsz, fun es rows e => by cases e⟩
theorem At.fresh {id : Nat} {rs : List (List D)} (h : σ id = .live el rs) (hsz : rs.length < 2 ^ 60) {n : Nat} (hn : n = rs.length) : At P σ el (.osl id 0 n) rs := .new rs h rfl hsz hn
theorem newObj_intro {so : SO} {K : Nat → Store → Prop} (h : ∀ id σ', σ id = .free → σ' = σ.set id so → Ext σ σ' → σ' id = so → K id σ') : Fw.newObj σ so K :=
  fun id hid => h id _ hid rfl (Ext.new hid so) (Store.set_same _ _ _)
/-! ### cases -/
theorem bc {b : Bool} {x y : Prop} (h1 : b = true → x) (h2 : b = false → y) : bcase b x y := by cases b; exact h2 rfl; exact h1 rfl
theorem bcd {p : Prop} [Decidable p] {x y : Prop} (h1 : p → x) (h2 : ¬ p → y) : bcase (decide p) x y := bc (fun h => h1 (of_decide_eq_true h)) (fun h => h2 (of_decide_eq_false h))
theorem bce {a b : Int} {x y : Prop} (h1 : a = b → x) (h2 : a ≠ b → y) : bcase (a == b) x y := bc (fun h => h1 (by simpa using h)) (fun h => h2 (by simpa using h))
theorem bcn {a b : Int} {x y : Prop} (h1 : a ≠ b → x) (h2 : a = b → y) : bcase (a != b) x y := bc (fun h => h1 (by simpa using h)) (fun h => h2 (by simpa using h))
theorem bcnot {b : Bool} {x y : Prop} (h1 : b = false → x) (h2 : b = true → y) : bcase (!b) x y := by cases b; exact h1 rfl; exact h2 rfl
/-! ### calls -/
def Pure (P : Program) (f : FuncId) (as0 : List A) (σ : Store) (r : RV) : Prop := DCalls P f as0 σ fun r' σ' => r' = r ∧ σ' = σ
theorem Pure.use {f : FuncId} {as0 : List A} {r : RV} {Q : RV → Store → Prop} (h : Pure P f as0 σ r) (hq : Q r σ) : DCalls P f as0 σ Q := h.mono fun r' s ⟨h1, h2⟩ => by subst h1 h2; exact hq
/-! ### what a call hands back -/
theorem Fz.refl {S : Nat → Prop} {es : Nat} {rows : List (List D)} (h : ∀ row ∈ rows, ∀ d ∈ row, Fz P σ S d d) : Fz P σ S (.sl es rows) (.sl es rows) :=
  .sl es rows rows rfl (fun i row row' h1 h2 => by rw [h1] at h2; injection h2 with h2; rw [h2]) (fun i row row' j d d' h1 h2 h3 h4 => by
    rw [h1] at h2; injection h2 with h2; subst h2
    rw [h3] at h4; injection h4 with h4; subst h4
    exact h row (List.mem_of_getElem? h1) d (List.mem_of_getElem? h3))
inductive Flat : D → Prop
  | int (q n) : Flat (.int q n)
  | bool (b) : Flat (.bool b)
  | str (s) : Flat (.str s)
theorem Flat.fz {S : Nat → Prop} {d : D} (h : Flat d) : Fz P σ S d d := by cases h <;> constructor
theorem Fz.osl_flat {S : Nat → Prop} {id i len : Nat} {rows' : List (List D)} {t : TypeId} {rows : List (List D)} (hn : ¬ S id) (hs : σ id = .live t rows) (hi : i + len ≤ rows.length) (hr : rows' = (rows.drop i).take len)
    (hf : ∀ row ∈ rows', ∀ d ∈ row, Flat d) : Fz P σ S (.osl id i len) (.sl (P.cellsOf t) rows') := by
  have hl : rows'.length = len := by rw [hr]; simp; omega
  have key : ∀ (j : Nat) row row', rows[i + j]? = some row → rows'[j]? = some row' → row' = row := fun j row row' h1 h2 => by
    have hlt := (List.getElem?_eq_some_iff.1 h2).1
    rw [hr, List.getElem?_take, if_pos (by omega), List.getElem?_drop, h1] at h2
    injection h2 with h2; exact h2.symm
  exact .osl id i len t rows rows' hn hs hi hl (fun j row row' h1 h2 => by rw [key j row row' h1 h2]) (fun j row row' m d d' h1 h2 h3 h4 => by
    have e := key j row row' h1 h2
    subst e
    rw [h3] at h4; injection h4 with h4; subst h4
    exact (hf row' (List.mem_of_getElem? h2) d (List.mem_of_getElem? h3)).fz)
theorem Ret.pure {σ0 : Store} {r r' : RV} (he : Ext σ0 σ) (hr : FzR P σ (fun i => σ0 i ≠ .free) r r') : Ret P σ0 σ r σ0 r' :=
  ⟨fun i => σ0 i ≠ .free, fun i h => h, fun i h => Classical.not_not.1 h, fun i h => .inl ⟨(he i h).symm, he i h⟩, hr⟩
theorem FzL.cons {S : Nat → Prop} {d d' : D} {ds ds' : List D} (h : Fz P σ S d d') (ht : FzL P σ S ds ds') : FzL P σ S (d :: ds) (d' :: ds') :=
  ⟨by simp [ht.1], fun i x y h1 h2 => by
    cases i with
    | zero => simp at h1 h2; subst h1 h2; exact h
    | succ i => exact ht.2 i x y (by simpa using h1) (by simpa using h2)⟩
theorem FzL.nil {S : Nat → Prop} : FzL P σ S [] [] := ⟨rfl, fun i x y h => by simp at h⟩
theorem FzL.flat {S : Nat → Prop} {ds : List D} (h : ∀ d ∈ ds, Flat d) : FzL P σ S ds ds :=
  ⟨rfl, fun i x y h1 h2 => by rw [h1] at h2; injection h2 with h2; subst h2; exact (h x (List.mem_of_getElem? h1)).fz⟩
theorem ret_slice {σ0 : Store} {rs : List (List D)} (h : At P σ el d rs) (he : Ext σ0 σ) (hid : ∀ id i len, d = .osl id i len → σ0 id = .free) (hf : ∀ row ∈ rs, ∀ x ∈ row, Flat x) :
    ∃ d', Fz P σ (fun i => σ0 i ≠ .free) d d' ∧ (∀ σ'', At P σ'' el d' rs) := by
  have hr := h.rows
  cases d <;> simp only [Rows] at hr <;> try exact hr.elim
  · subst hr; exact ⟨.nils, .nils, fun _ => .nil⟩
  · subst hr; exact ⟨.zsl, .zsl, fun _ => ⟨rfl, by simp, fun es rows e => by cases e⟩⟩
  · rename_i es rows
    obtain ⟨rfl, h3⟩ := hr
    exact ⟨_, .refl fun row hrow x hx => (hf row hrow x hx).fz, fun σ'' => ⟨⟨rfl, h3⟩, h.size, h.es⟩⟩
  · obtain ⟨t, rows, q1, q2, q3, rfl⟩ := hr
    rename_i id i len
    refine ⟨.sl (P.cellsOf t) ((rows.drop i).take len), .osl_flat (fun hn => hn (hid _ _ _ rfl)) q1 q3 rfl hf, fun σ'' => ⟨⟨rfl, .inr q2⟩, h.size, fun es rows e => ?_⟩⟩
    injection e with e1 e2
    rw [← e1]; exact q2
/-! ### slices that grow -/
structure Own (P : Program) (σ0 σ : Store) (el : TypeId) (d : D) (rs : List (List D)) : Prop where
  at_ : At P σ el d rs
  ext : Ext σ0 σ
  new : ∀ id i len, d = .osl id i len → σ0 id = .free
  nsl : ¬ isSl d
  nz : d ≠ .zsl
theorem Own.nil (σ0 : Store) (h : Ext σ0 σ) : Own P σ0 σ el .nils [] := ⟨.nil, h, fun id i len e => (by cases e), fun h => h, by intro e; cases e⟩
theorem Own.ext' {σ0 : Store} (h : Own P σ0 σ el d rs) (he : Ext σ σ') : Own P σ0 σ' el d rs := ⟨h.at_.ext he, h.ext.trans he, h.new, h.nsl, h.nz⟩
theorem Own.append {σ0 : Store} {x : D} {ns : List (List D)} {bytes : Nat} {K : D → Store → Prop} (h : Own P σ0 σ el d rs) (hx : At P σ el x ns) (hb : bytes * (rs.length + ns.length) ≤ 140737488355328)
    (hsz : rs.length + ns.length < 2 ^ 60) (hk : ∀ d' σ', Own P σ0 σ' el d' (rs ++ ns) → (∀ i, σ i ≠ .free → (∀ a b, d ≠ .osl i a b) → σ' i = σ i) → (∀ i a b, d' = .osl i a b → σ i = .free ∨ ∃ a b, d = .osl i a b) → K d' σ') : appendTo P σ el bytes d x K := by
  refine ⟨rs, ns, h.at_.rows, hx.rows, hb, fun hs => absurd hs h.nsl, fun d' σ' ha => ?_⟩
  have hl : (rs ++ ns).length < 2 ^ 60 := by simp; omega
  rcases ha with ⟨rfl, rfl, rfl⟩ | ⟨hne, id, hid, rfl, rfl⟩ | ⟨hne, id, i0, len, t, rows, rfl, hlive, rfl, rfl⟩
  · refine hk _ _ ?_ (fun i _ _ => rfl) (fun i a b e => .inr ⟨a, b, e⟩)
    rw [List.append_nil]; exact h
  · refine hk _ _ ⟨.new (t := el) _ (Store.set_same _ _ _) rfl hl (by simp), fun i hi => ?_, fun id' i len e => ?_, fun h => h, by intro e; cases e⟩ (fun i hi _ => ?_) (fun i a b e => .inl ?_)
    · rw [Store.set_ne _ _ (fun e => ?_)]
      · exact h.ext i hi
      · subst e
        have := h.ext i hi
        rw [hid] at this; exact hi this.symm
    · injection e with e1; subst e1
      by_cases hf : σ0 id = .free
      · exact hf
      · have := h.ext id hf
        rw [hid] at this; exact this.symm
    · exact Store.set_ne _ _ (fun e => hi (e ▸ hid))
    · injection e with e1; subst e1; exact hid
  · have hrow := h.at_.rows
    obtain ⟨t', rows', q1, q2, q3, hrs⟩ := hrow
    rw [hlive] at q1; injection q1 with q1 q1'; subst q1 q1'
    have hnew := h.new id i0 len rfl
    have hlen : rs.length = len := by rw [hrs]; simp; omega
    refine hk _ _ ⟨⟨⟨t, _, Store.set_same _ _ _, q2, ?_, ?_⟩, hl, fun es rows e => by cases e⟩, h.ext.set hnew _, fun id' i l e => ?_, fun h => h, by intro e; cases e⟩ (fun i hi hd => Store.set_ne _ _ (fun e => hd i0 len (by rw [e]))) (fun i a b e => .inr ?_)
    · simp; omega
    · have e1 : rows.take (i0 + len) = rows.take i0 ++ rs := by
        rw [List.take_add, hrs]
      rw [e1, List.append_assoc, List.append_assoc, List.drop_append_of_le_length (by simp; omega)]
      have e2 : (rows.take i0).drop i0 = [] := by rw [List.drop_eq_nil_iff]; simp; omega
      rw [e2, List.nil_append, ← List.append_assoc, List.take_append_of_le_length (by simp; omega), List.take_of_length_le (by simp; omega)]
    · injection e with e1; subst e1; exact hnew
    · injection e with e1; subst e1; exact ⟨_, _, rfl⟩
/-! ### ranges -/
theorem drop_get {α : Type} {l : List α} {j : Nat} {x : α} (h : l[j]? = some x) : l.drop j = x :: l.drop (j + 1) := by
  obtain ⟨h1, h2⟩ := List.getElem?_eq_some_iff.1 h
  rw [List.drop_eq_getElem_cons h1, h2]
theorem drop_end {α : Type} {l : List α} {j : Nat} (h : l.length ≤ j) : l.drop j = [] := List.drop_eq_nil_iff.2 h
theorem get_of_lt {α : Type} {l : List α} {j : Nat} (h : j < l.length) : ∃ x, l[j]? = some x := ⟨l[j], List.getElem?_eq_getElem h⟩
theorem map_get {α β : Type} {f : α → β} {l : List α} {j : Nat} {x : α} (h : l[j]? = some x) : (l.map f)[j]? = some (f x) := by simp [h]
def Rng {α : Type} (l : List α) (F : List α → Prop) (n : Int) : Prop := ∃ j : Nat, n = j ∧ j ≤ l.length ∧ F (l.drop j)
theorem Rng.start {α : Type} {l : List α} {F : List α → Prop} (h : F l) : Rng l F 0 := ⟨0, rfl, by omega, h⟩
theorem Rng.step {α : Type} {l : List α} {F : List α → Prop} {n : Int} {m : Nat} (h : Rng l F n) (hm : m = l.length) (hl : l.length < 2 ^ 60) (hlt : n < (m : Int)) :
    ∃ (j : Nat) (x : α), n = j ∧ l[j]? = some x ∧ j < l.length ∧ F (x :: l.drop (j + 1)) ∧
      ∀ F' : List α → Prop, F' (l.drop (j + 1)) → Rng l F' (w64 (n + 1)) ∧ l.length - (w64 (n + 1)).toNat < l.length - n.toNat := by
  obtain ⟨j, rfl, hj, hF⟩ := h
  have hj' : j < l.length := by omega
  obtain ⟨x, hx⟩ := get_of_lt hj'
  refine ⟨j, x, rfl, hx, hj', by rw [← drop_get hx]; exact hF, fun F' h' => ?_⟩
  rw [w64_succ (by omega)]
  exact ⟨⟨j + 1, rfl, by omega, h'⟩, by omega⟩
theorem Rng.done {α : Type} {l : List α} {F : List α → Prop} {n : Int} {m : Nat} (h : Rng l F n) (hm : m = l.length) (hge : ¬ n < (m : Int)) : F [] := by
  obtain ⟨j, rfl, hj, hF⟩ := h
  rw [drop_end (by omega)] at hF; exact hF
theorem andl {p a b : Prop} (hp : p) (h : a ∧ b) : (p ∧ a) ∧ b := ⟨⟨hp, h.1⟩, h.2⟩
/-! ### maps -/
def MapAt {κ : Type} (P : Program) (kt : TypeId) (enc : κ → A) (σ : Store) (id : Nat) (f : κ → Option A) : Prop :=
  ∃ clock es, σ id = .mp clock es ∧ keysOk P kt es ∧ ∀ x, findM (enc x) es = f x
def Keys {κ : Type} (P : Program) (kt : TypeId) (enc : κ → A) : Prop := (∀ x, keyOk P kt (enc x) = true) ∧ ∀ x y, eqA (enc x) (enc y) = true ↔ x = y
variable {κ : Type} {kt : TypeId} {enc : κ → A} {id : Nat} {f : κ → Option A}
theorem MapAt.new (h : σ id = .mp 0 []) : MapAt P kt enc σ id fun _ => none := ⟨0, [], h, fun e he => (by cases he), fun x => rfl⟩
theorem MapAt.same (h : MapAt P kt enc σ id f) (hs : σ' id = σ id) : MapAt P kt enc σ' id f := by
  obtain ⟨c, es, h1, h2⟩ := h
  exact ⟨c, es, hs.trans h1, h2⟩
theorem MapAt.look (hk : Keys P kt enc) (h : MapAt P kt enc σ id f) (x : κ) : MLook P kt σ (.omap id) (enc x) (f x) := by
  obtain ⟨c, es, h1, h2, h3⟩ := h
  exact ⟨hk.1 x, .inr ⟨id, c, es, rfl, h1, h2, (h3 x).symm⟩⟩
theorem MapAt.lookI (hk : Keys P kt enc) (h : MapAt P kt enc σ id f) (x : κ) {n : Int} {K : Int → Prop} (hn : (f x).getD (iA 0) = iA n) (hK : K n) :
    ∃ r : Option A, MLook P kt σ (.omap id) (enc x) r ∧ ∃ n : Int, Option.getD r (iA 0) = iA n ∧ K n := ⟨_, h.look hk x, n, hn, hK⟩
theorem eqA_symm (x y : A) : eqA x y = eqA y x := by
  unfold eqA
  generalize aCells x = as0
  generalize aCells y = bs
  induction as0 generalizing bs with
  | nil => cases bs <;> rfl
  | cons a as0 ih =>
    cases bs with
    | nil => rfl
    | cons b bs =>
      simp only [eqCells, ih]
      congr 1
      cases a <;> cases b <;> simp [eqCell]
      · exact Bool.eq_iff_iff.2 (by simp; exact eq_comm)
      · exact Bool.eq_iff_iff.2 (by simp; exact eq_comm)
      · exact Bool.eq_iff_iff.2 (by rw [MapKept.bytes_beq, MapKept.bytes_beq]; exact eq_comm)
theorem findM_append {x : A} {es : List Ent} {e : Ent} : findM x (es ++ [e]) = (findM x es).or (if eqA x e.2.1 = true then some e.2.2 else none) := by
  unfold findM
  rw [List.find?_append]
  cases es.find? (fun e => eqA x e.2.1) with
  | some w => simp
  | none =>
    simp only [Option.none_or, Option.map_none, List.find?_cons, List.find?_nil]
    cases eqA x e.2.1 <;> simp
theorem findM_set {x y : A} {es : List Ent} {j : Nat} {e : Ent} {v : A} (hf : FirstAt y es j e) : findM x (es.set j (e.1, y, v)) = if eqA x y = true then some v else findM x es := by
  unfold findM
  induction es generalizing j with
  | nil => simp [FirstAt] at hf
  | cons e0 es ih =>
    cases j with
    | zero =>
      obtain ⟨h1, h2, _⟩ := hf
      simp at h1; subst h1
      simp only [List.set_cons_zero, List.find?_cons]
      have := eqA_congr h2 x
      cases hxy : eqA x y with
      | true => simp
      | false => rw [hxy] at this; simp [← this]
    | succ j =>
      obtain ⟨h1, h2⟩ := hf.tail
      have ih := ih h2
      simp only [List.set_cons_succ, List.find?_cons]
      cases h0 : eqA x e0.2.1 with
      | true =>
        have hxy : eqA x y = false := by
          cases hxy : eqA x y with
          | false => rfl
          | true =>
            rw [eqA_symm] at hxy
            have := eqA_congr hxy e0.2.1
            rw [eqA_symm e0.2.1 y, h1, eqA_symm e0.2.1 x, h0] at this
            cases this
        simp [hxy]
      | false => simp only [ih]
theorem findM_none {x : A} {es : List Ent} (h : ∀ e ∈ es, eqA x e.2.1 = false) : findM x es = none := by simp [findM, find_none h]
theorem mput_spec {clock : Nat} {es : List Ent} {y v : A} (hy : keyOk P kt y = true) (hk : keysOk P kt es) : ∃ c es', mput clock es y v = .mp c es' ∧ keysOk P kt es' ∧ ∀ x, findM x es' = if eqA x y = true then some v else findM x es := by
  rcases put_cases clock es y v with ⟨hn, e1, _, _⟩ | ⟨j, e, hf, e1, _, _⟩
  · refine ⟨_, _, e1, fun w hw => ?_, fun x => ?_⟩
    · rcases List.mem_append.1 hw with hw | hw
      · exact hk w hw
      · simp at hw; subst hw; exact hy
    · rw [findM_append]
      by_cases hxy : eqA x y = true
      · have hnx : findM x es = none := findM_none fun e he => by
          have h1 := hn e he
          have := eqA_congr (by rw [eqA_symm]; exact hxy : eqA y x = true) e.2.1
          rw [eqA_symm e.2.1 y, h1, eqA_symm e.2.1 x] at this
          exact this.symm
        simp [hxy, hnx]
      · simp [hxy]
  · refine ⟨_, _, e1, fun w hw => ?_, fun x => findM_set hf⟩
    rcases List.mem_or_eq_of_mem_set hw with hw | hw
    · exact hk w hw
    · subst hw; exact hy
theorem MapAt.put (hk : Keys P kt enc) (h : MapAt P kt enc σ id f) (x : κ) {v : A} {K : Store → Prop}
    (hK : ∀ σ' f', MapAt P kt enc σ' id f' → (∀ z, z ≠ x → f' z = f z) → f' x = some v → (∀ i, i ≠ id → σ' i = σ i) → σ' id ≠ .free → K σ') : MPut P kt σ (.omap id) (enc x) v K := by
  obtain ⟨c, es, h1, h2, h3⟩ := h
  obtain ⟨c', es', e1, e2, e3⟩ := mput_spec (clock := c) (v := v) (hk.1 x) h2
  refine ⟨id, c, es, ⟨hk.1 x, rfl, h1, h2⟩, ?_⟩
  rw [e1]
  exact hK _ (fun z => findM (enc z) es') ⟨c', es', Store.set_same _ _ _, e2, fun z => rfl⟩ (fun z hz => by rw [e3, if_neg (fun h => hz ((hk.2 z x).1 h)), h3]) (by rw [e3, if_pos ((hk.2 x x).2 rfl)])
    (fun i hi => Store.set_ne _ _ hi) (by rw [Store.set_same]; intro e; cases e)
theorem MapAt.bump (hk : Keys P kt enc) (h : MapAt P kt enc σ id f) (x : κ) {z v : A} {K : Store → Prop}
    (hK : ∀ σ' f', MapAt P kt enc σ' id f' → (∀ z, z ≠ x → f' z = f z) → f' x = some v → (∀ i, i ≠ id → σ' i = σ i) → σ' id ≠ .free → K σ') :
    MEntry P kt σ (.omap id) (enc x) z fun _ n σ' => MStamp σ' (.omap id) n v K := by
  obtain ⟨c, es, h1, h2, h3⟩ := h
  refine ⟨id, c, es, ⟨hk.1 x, rfl, h1, h2⟩, fun hb => ?_⟩
  have fin : ∀ (c' : Nat) (es1 : List Ent), keysOk P kt es1 → (∀ y, findM y (stampL (mstamp c es (enc x)) v es1) = if eqA y (enc x) = true then some v else findM y es) → keysOk P kt (stampL (mstamp c es (enc x)) v es1) →
      mput c es (enc x) ((findM (enc x) es).getD z) = .mp c' es1 → (∃ e ∈ es1, (e.1 : Int) = (mstamp c es (enc x) : Nat)) →
      MStamp (σ.set id (mput c es (enc x) ((findM (enc x) es).getD z))) (.omap id) (mstamp c es (enc x) : Nat) v K := by
    intro c' es1 hk1 hf hk2 he hm
    refine ⟨id, c', es1, rfl, by rw [Store.set_same, he], hm, ?_⟩
    exact hK _ (fun y => findM (enc y) (stampL (mstamp c es (enc x)) v es1)) ⟨c', _, Store.set_same _ _ _, hk2, fun y => rfl⟩ (fun y hy => by rw [hf, if_neg (fun h => hy ((hk.2 y x).1 h)), h3]) (by rw [hf, if_pos ((hk.2 x x).2 rfl)])
      (fun i hi => by rw [Store.set_ne _ _ hi, Store.set_ne _ _ hi]) (by rw [Store.set_same]; intro e; cases e)
  rcases put_cases c es (enc x) ((findM (enc x) es).getD z) with ⟨hn, e1, e2, e3⟩ | ⟨j, e, hf, e1, e2, e3⟩
  · rw [e2, Option.getD_none] at e1
    have hst : stampL (mstamp c es (enc x)) v (es ++ [(c, enc x, z)]) = es ++ [(c, enc x, v)] := by
      have hj : (es ++ [(c, enc x, z)])[es.length]? = some (c, enc x, z) := by simp
      rw [stampL_at (hb.push (enc x) z).2 hj (by rw [e3])]
      simp
    refine fin (c + 1) (es ++ [(c, enc x, z)]) (fun w hw => ?_) (fun y => ?_) ?_ (by rw [e2, Option.getD_none]; exact e1) ⟨(c, enc x, z), List.mem_append_right _ (List.mem_singleton.2 rfl), by rw [e3]⟩
    · rcases List.mem_append.1 hw with hw | hw
      · exact h2 w hw
      · simp at hw; subst hw; exact hk.1 x
    · rw [hst, findM_append]
      by_cases hxy : eqA y (enc x) = true
      · have hnx : findM y es = none := findM_none fun e he => by
          have h1 := hn e he
          have := eqA_congr (by rw [eqA_symm]; exact hxy : eqA (enc x) y = true) e.2.1
          rw [eqA_symm e.2.1 (enc x), h1, eqA_symm e.2.1 y] at this
          exact this.symm
        simp [hxy, hnx]
      · simp [hxy]
    · rw [hst]
      intro w hw
      rcases List.mem_append.1 hw with hw | hw
      · exact h2 w hw
      · simp at hw; subst hw; exact hk.1 x
  · rw [e2, Option.getD_some] at e1
    have hlt := (List.getElem?_eq_some_iff.1 hf.1).1
    have hj : (es.set j (e.1, enc x, e.2.2))[j]? = some (e.1, enc x, e.2.2) := by simp [hlt]
    have hst : stampL (mstamp c es (enc x)) v (es.set j (e.1, enc x, e.2.2)) = es.set j (e.1, enc x, v) := by
      rw [stampL_at (hb.set hf.1 (enc x) e.2.2).2 hj (by rw [e3]), List.set_set]
    refine fin c (es.set j (e.1, enc x, e.2.2)) (fun w hw => ?_) (fun y => by rw [hst]; exact findM_set hf) ?_ (by rw [e2, Option.getD_some]; exact e1) ⟨_, List.mem_of_getElem? hj, by rw [e3]⟩
    · rcases List.mem_or_eq_of_mem_set hw with hw | hw
      · exact h2 w hw
      · subst hw; exact hk.1 x
    · rw [hst]
      intro w hw
      rcases List.mem_or_eq_of_mem_set hw with hw | hw
      · exact h2 w hw
      · subst hw; exact hk.1 x
theorem osl_new {σ0 : Store} {id i0 n : Nat} (h : σ0 id = .free) : ∀ id' i len, D.osl id i0 n = .osl id' i len → σ0 id' = .free := fun id' i len e => by
  have := (D.osl.inj e).1
  rw [← this]; exact h
inductive FlatR : RV → Prop
  | one (x : D) (h : Flat x) : FlatR (.a (.one x))
  | agg (ds : List D) (h : ∀ d ∈ ds, Flat d) : FlatR (.a (.agg ds))
  | tup (ds : List D) (h : ∀ d ∈ ds, Flat d) : FlatR (.tup (ds.map .one))
theorem FlatR.fz {S : Nat → Prop} {r : RV} (h : FlatR r) : FzR P σ S r r := by
  cases h with
  | one d h => exact h.fz
  | agg ds h => exact FzL.flat h
  | tup ds h =>
    refine ⟨rfl, fun i x y h1 h2 => ?_⟩
    rw [h1] at h2; injection h2 with h2; subst h2
    simp only [List.getElem?_map, Option.map_eq_some_iff] at h1
    obtain ⟨d, h1, rfl⟩ := h1
    exact (h d (List.mem_of_getElem? h1)).fz
theorem Pure.of {f : FuncId} {as0 : List A} {r : RV} (h : DCalls P f as0 σ fun r' s => r' = r ∧ Ext σ s) (hf : FlatR r) : Pure P f as0 σ r :=
  h.ret fun r' s ⟨h1, h2⟩ => by subst h1; exact ⟨r', σ, .pure h2 hf.fz, rfl, rfl⟩
theorem flat_i (n : Int) : FlatR (.a (iA n)) := .one _ (.int _ _)
theorem flat_b (b : Bool) : FlatR (.a (bA b)) := .one _ (.bool _)
theorem keys_int2 (h : ∀ a b : Int, keyOk P kt (.agg [iD a, iD b]) = true) : Keys P kt fun p : Int × Int => .agg [iD p.1, iD p.2] :=
  ⟨fun x => h _ _, fun x y => by simp [eqA, eqCells, aCells, eqCell, Prod.ext_iff]⟩
end Go.Fw
end
section
namespace Go.Fw
structure Sec where
  Kind : Int
  OC : Int
  Line : Int
structure Jt where
  A : Int
  AEnd : Int
  B : Int
  BEnd : Int
structure Sg where
  Sec : Int
  End_ : Int
  deriving DecidableEq
structure St where
  Sec : Int
  In : Int
  Out : Int
structure Nd where
  Sec : Int
  Pos : Int
  deriving DecidableEq
def Sec.enc (s : Sec) : List D := [iD s.Kind, iD s.OC, iD s.Line]
def Jt.enc (s : Jt) : List D := [iD s.A, iD s.AEnd, iD s.B, iD s.BEnd]
def Sg.enc (s : Sg) : List D := [iD s.Sec, iD s.End_]
def St.enc (s : St) : List D := [iD s.Sec, iD s.In, iD s.Out]
def Nd.enc (s : Nd) : List D := [iD s.Sec, iD s.Pos]
def encI (n : Int) : List D := [iD n]
def wayL (k : Int) : List (Int × Int × Int) :=
  if k = 0 then [(0, 1, 0)] else if k = 1 then [(0, 1, 1), (0, 2, 2)] else if k = 2 then [(0, 1, 0), (2, 3, 0)] else []
def encW (w : Int × Int × Int) : List D := [iD w.1, iD w.2.1, iD w.2.2]
def nends (k : Int) : Int := if k = 0 then 2 else if k = 1 then 3 else if k = 2 then 4 else 0
def endStep (n : Int) (w : Int × Int × Int) : Int :=
  ite (w64 (w.2.1 + 1) > ite (w64 (w.1 + 1) > n) (w64 (w.1 + 1)) n) (w64 (w.2.1 + 1)) (ite (w64 (w.1 + 1) > n) (w64 (w.1 + 1)) n)
theorem ends_eq (k : Int) : (wayL k).foldl endStep 0 = nends k := by
  unfold wayL nends
  split
  · decide
  · split
    · decide
    · split
      · decide
      · rfl
def wpos : List (Int × Int × Int) → Int → Int → Option Int
  | [], _, _ => none
  | w :: r, i, o => if (w.1 = i ∧ w.2.1 = o) ∨ (w.2.1 = i ∧ w.1 = o) then some w.2.2 else wpos r i o
def nxt : List Jt → Int → Int → Option (Int × Int)
  | [], _, _ => none
  | j :: r, s, e => if j.A = s ∧ j.AEnd = e then some (j.B, j.BEnd) else if j.B = s ∧ j.BEnd = e then some (j.A, j.AEnd) else nxt r s e
def opt2 : Option (Int × Int) → RV
  | none => .tup [iA 0, iA 0, bA false]
  | some p => .tup [iA p.1, iA p.2, bA true]
def opt1 : Option Int → RV
  | none => .tup [iA 0, bA false]
  | some p => .tup [iA p, bA true]
def cnt : List Jt → Int → Int → Int
  | [], _, _ => 0
  | j :: r, s, e => (if j.A = s ∧ j.AEnd = e then 1 else 0) + (if j.B = s ∧ j.BEnd = e then 1 else 0) + cnt r s e
def idxOf : List Int → Int → Nat → Int
  | [], _, _ => -1
  | x :: r, v, j => if v = x then j else idxOf r v (j + 1)
/-! ### is the plan right? -/
def kindAt (secs : List Sec) (i : Int) : Int := (secs[i.toNat]?.map Sec.Kind).getD (-1)
def spotOk (secs : List Sec) (p : Int × Int) : Bool := decide (0 ≤ p.1 ∧ p.1 ≤ (secs.length : Int) - 1) && decide (0 ≤ p.2 ∧ p.2 ≤ nends (kindAt secs p.1) - 1)
def prun (secs : List Sec) : List (Int × Int) → List (Int × Int) → Option (List (Int × Int))
  | [], tk => some tk
  | p :: r, tk => if spotOk secs p = true ∧ p ∉ tk then prun secs r (p :: tk) else none
def Jt.spots (j : Jt) : List (Int × Int) := [(j.A, j.AEnd), (j.B, j.BEnd)]
def jrun (secs : List Sec) : List Jt → List (Int × Int) → Option (List (Int × Int))
  | [], tk => some tk
  | j :: r, tk => match prun secs j.spots tk with
    | none => none
    | some tk' => if j.A = j.B then none else jrun secs r tk'
def srun (tk : List (Int × Int)) : List Sec → Int → List Int → Bool
  | [], _, _ => true
  | s :: r, i, ls => if nends s.Kind = 0 ∨ ¬ (0 ≤ s.OC ∧ s.OC ≤ 3) ∨ ¬ (0 ≤ s.Line ∧ s.Line ≤ 3) ∨ s.Line ≠ 0 ∧ (s.Kind ≠ 0 ∨ (i, 1) ∈ tk ∨ s.Line ∈ ls) then false else srun tk r (i + 1) (s.Line :: ls)
def topoOk (secs : List Sec) (js : List Jt) : Bool :=
  decide (1 ≤ secs.length ∧ secs.length ≤ 16 ∧ js.length ≤ 24) && match jrun secs js [] with
    | none => false
    | some tk => srun tk secs 0 []
theorem nends_le (k : Int) : 0 ≤ nends k ∧ nends k ≤ 4 := by unfold nends; split <;> (try split) <;> (try split) <;> omega
end Go.Fw
end
section
namespace Go.Proofs.YtcbmibgfmlpobaaGreat
open Go.Fw
theorem mixed : Go.Proofs.Tryz.prog.follows .mixedOrders = true := Go.Proofs.Tryz.checked.mixed
abbrev n_law15_BlockBoth : FuncId := 3
abbrev n_law15_lives : FuncId := 4
abbrev n_law15_end : FuncId := 5
abbrev n_law15_fresh : FuncId := 6
abbrev n_locks_Request : FuncId := 7
abbrev n_block_Tell : FuncId := 8
abbrev n_block_Hear : FuncId := 9
abbrev n_block_Step : FuncId := 10
abbrev n_law15_seen : FuncId := 11
abbrev n_locks_New : FuncId := 12
abbrev n_locks_change : FuncId := 13
abbrev n_locks_Request_1 : FuncId := 14
abbrev n_locks_desk_request : FuncId := 15
abbrev n_locks_Fits : FuncId := 16
abbrev n_block_open : FuncId := 17
abbrev n_block_section : FuncId := 18
abbrev n_block_desk_line : FuncId := 19
abbrev n_slices_Repeat_int : FuncId := 20
abbrev n_locks_movers : FuncId := 21
abbrev n_locks_open : FuncId := 22
abbrev n_locks_times : FuncId := 23
abbrev n_locks_desk_state : FuncId := 24
abbrev n_conf_Locks : FuncId := 25
abbrev n_locks_desk_may : FuncId := 26
abbrev n_locks_desk_line : FuncId := 27
abbrev n_mover_Needs : FuncId := 28
abbrev n_mover_Command : FuncId := 29
abbrev n_mover_Crossings : FuncId := 30
abbrev n_conf_Check : FuncId := 31
abbrev n_locks_between : FuncId := 32
abbrev n_slices_Concat_Mover : FuncId := 33
abbrev n_slices_Clone_int : FuncId := 34
abbrev n_slices_Clone_LineState : FuncId := 35
abbrev n_slices_Clone_RouteState : FuncId := 36
abbrev n_slices_Clone_Mover : FuncId := 37
abbrev n_slices_IndexFunc_Section : FuncId := 38
abbrev n_block_section_1 : FuncId := 39
abbrev n_block_desk_back : FuncId := 40
abbrev n_block_desk_may : FuncId := 41
abbrev n_block_desk_own : FuncId := 42
abbrev n_math_bits_Mul : FuncId := 43
abbrev n_mover_Start : FuncId := 44
abbrev n_slices_Repeat_Mover : FuncId := 45
abbrev n_slices_Sort_int : FuncId := 46
abbrev n_slices_Compact_int : FuncId := 47
abbrev n_slices_Contains_int : FuncId := 48
abbrev n_conf_Approach : FuncId := 49
abbrev n_locks_desk_inherits : FuncId := 50
abbrev n_mover_route : FuncId := 51
abbrev n_topo_Pos : FuncId := 52
abbrev n_slices_ContainsFunc_Step : FuncId := 53
abbrev n_mover_Crossings_1 : FuncId := 54
abbrev n_topo_Check : FuncId := 55
abbrev n_conf_plan_signals : FuncId := 56
abbrev n_conf_plan_crossings : FuncId := 57
abbrev n_conf_plan_route : FuncId := 58
abbrev n_conf_between : FuncId := 59
abbrev n_slices_Grow_Mover : FuncId := 60
abbrev n_math_bits_Mul64 : FuncId := 62
abbrev n_slices_Index_int : FuncId := 65
abbrev n_conf_plan_approach : FuncId := 66
abbrev n_topo_ways : FuncId := 67
abbrev n_topo_way_other : FuncId := 68
abbrev n_slices_IndexFunc_Step : FuncId := 69
abbrev n_topo_between : FuncId := 70
abbrev n_topo_Ends : FuncId := 71
abbrev n_topo_Next : FuncId := 72
abbrev n_conf_plan_section : FuncId := 73
abbrev n_conf_plan_path : FuncId := 74
abbrev n_slices_Equal_Need : FuncId := 75
abbrev n_conf_plan_flank : FuncId := 76
abbrev n_slices_Equal_int : FuncId := 77
abbrev n_conf_plan_overlap : FuncId := 78
abbrev n_conf_plan_signal : FuncId := 90
abbrev n_slices_Contains_Signal : FuncId := 91
abbrev n_conf_has : FuncId := 92
abbrev n_slices_ContainsFunc_Need : FuncId := 93
abbrev n_conf_plan_flank_1 : FuncId := 94
abbrev n_slices_Index_Signal : FuncId := 101
abbrev n_conf_has_1 : FuncId := 102
abbrev n_slices_IndexFunc_Need : FuncId := 103
abbrev t_int : TypeId := 3
abbrev t_bool : TypeId := 4
abbrev t_sl_law15_Turn : TypeId := 22
abbrev t_sl_Mover : TypeId := 35
abbrev t_law15_Turn : TypeId := 46
abbrev t_RouteState : TypeId := 51
abbrev t_Block : TypeId := 53
abbrev t_LineState : TypeId := 55
abbrev t_Section : TypeId := 66
abbrev t_Joint : TypeId := 68
abbrev t_Signal : TypeId := 70
abbrev t_Step : TypeId := 72
abbrev t_Route : TypeId := 76
abbrev t_block_desk : TypeId := 84
abbrev t_Look : TypeId := 91
abbrev t_locks_desk : TypeId := 99
abbrev t_Need : TypeId := 108
abbrev t_Mover : TypeId := 110
abbrev t_topo_way : TypeId := 154
abbrev t_topo_spot : TypeId := 159
theorem c_int : Go.Proofs.Tryz.prog.cellsOf t_int = 1 := by kernel_rfl
theorem c_sl_Mover : Go.Proofs.Tryz.prog.cellsOf t_sl_Mover = 1 := by kernel_rfl
theorem c_law15_Turn : Go.Proofs.Tryz.prog.cellsOf t_law15_Turn = 8 := by kernel_rfl
theorem c_RouteState : Go.Proofs.Tryz.prog.cellsOf t_RouteState = 4 := by kernel_rfl
theorem c_Block : Go.Proofs.Tryz.prog.cellsOf t_Block = 3 := by kernel_rfl
theorem c_LineState : Go.Proofs.Tryz.prog.cellsOf t_LineState = 8 := by kernel_rfl
theorem c_Section : Go.Proofs.Tryz.prog.cellsOf t_Section = 3 := by kernel_rfl
theorem c_Joint : Go.Proofs.Tryz.prog.cellsOf t_Joint = 4 := by kernel_rfl
theorem c_Signal : Go.Proofs.Tryz.prog.cellsOf t_Signal = 2 := by kernel_rfl
theorem c_Step : Go.Proofs.Tryz.prog.cellsOf t_Step = 3 := by kernel_rfl
theorem c_Route : Go.Proofs.Tryz.prog.cellsOf t_Route = 6 := by kernel_rfl
theorem c_Look : Go.Proofs.Tryz.prog.cellsOf t_Look = 3 := by kernel_rfl
theorem c_Need : Go.Proofs.Tryz.prog.cellsOf t_Need = 2 := by kernel_rfl
theorem c_Mover : Go.Proofs.Tryz.prog.cellsOf t_Mover = 2 := by kernel_rfl
theorem c_topo_way : Go.Proofs.Tryz.prog.cellsOf t_topo_way = 3 := by kernel_rfl
theorem c_topo_spot : Go.Proofs.Tryz.prog.cellsOf t_topo_spot = 2 := by kernel_rfl
end Go.Proofs.YtcbmibgfmlpobaaGreat
end
section
set_option maxRecDepth 100000
set_option linter.unusedVariables false
namespace Go.Proofs.YtcbmibgfmlpobaaGreat
open Go.Fw Go.Proofs
def an_law15_lives : Ann := { esc := [], cbs := [], draws := [(2, { ord := [0, 2, 7, 1, 3, 4, 5, 6, 8, 9], nb := [0], av := [], dir := [] }), (3, { ord := [0, 1, 7, 2, 3, 4, 5, 6, 8, 9], nb := [0, 1], av := [], dir := [] })], loops := [], joins := [] }
def V_law15_lives (σ : Store) (Qp : RV → Store → Prop) : Prop :=
  DCalls Tryz.prog n_law15_end [] σ (fun (r : RV) => fun (σ' : Store) => ∃ d : D, ∃ d1 : D, ∃ d2 : D, ∃ d3 : D, ∃ d4 : D, ∃ n : Int, ∃ n1 : Int, ∃ n2 : Int, ∃ n3 : Int, (r = (.a (.agg [d, d1, d2, d3, d4, .int .i64 n, .int .i64 n1, .int .i64 n2, .int .i64 n3]) : RV)) ∧ DCalls Tryz.prog n_law15_fresh [] σ' (fun (r1 : RV) => fun (σ'1 : Store) => ∃ d5 : D, ∃ d6 : D, ∃ d7 : D, ∃ d8 : D, ∃ d9 : D, ∃ d10 : D, ∃ b : Bool, (r1 = (.a (.agg [d5, d6, d7, d8, d9, d10, .bool b]) : RV)) ∧ DCalls Tryz.prog n_block_Hear [.agg [d, d1, d2, d3, d4, .int .i64 n, .int .i64 n1, .int .i64 n2, .int .i64 n3], .agg [d5, d6, d7, d8, d9, d10, .bool b], .one (.int .i64 1), .agg [.int .i64 1, .int .i64 0, .int .i64 0]] σ'1 (fun (r2 : RV) => fun (σ'2 : Store) => ∃ d11 : D, ∃ d12 : D, ∃ d13 : D, ∃ d14 : D, ∃ d15 : D, ∃ d16 : D, ∃ b1 : Bool, ∃ n4 : Int, (r2 = (.tup [.agg [d11, d12, d13, d14, d15, d16, .bool b1], .one (.int .i64 n4)] : RV)) ∧ DCalls Tryz.prog n_law15_seen [.one (.int .i64 0), .one (.int .i64 9)] σ'2 (fun (r3 : RV) => fun (σ'3 : Store) => ∃ d17 : D, ∃ d18 : D, ∃ d19 : D, ∃ d20 : D, (r3 = (.a (.agg [d17, d18, d19, d20]) : RV)) ∧ DCalls Tryz.prog n_block_Step [.agg [d, d1, d2, d3, d4, .int .i64 n, .int .i64 n1, .int .i64 n2, .int .i64 n3], .agg [d11, d12, d13, d14, d15, d16, .bool b1], .agg [d17, d18, d19, d20], .one (.int .i64 9)] σ'3 (fun (r4 : RV) => fun (σ'4 : Store) => ∃ d21 : D, ∃ d22 : D, ∃ d23 : D, ∃ d24 : D, ∃ d25 : D, ∃ d26 : D, ∃ b2 : Bool, ∃ n5 : Int, (r4 = (.tup [.agg [d21, d22, d23, d24, d25, d26, .bool b2], .one (.int .i64 n5)] : RV)) ∧ bcase (n4 == 0) (bcase (n5 == 0) (∃ len : Nat, (Len d21 len) ∧ bcase ((len : Int) == 2) (∃ len1 : Nat, (Idx Tryz.prog σ'4 d21 1 len1) ∧ ((0 : Int) ≤ 0) ∧ ((0 : Int) < (len1 : Int)) ∧ ∃ row : List D, (Row σ'4 d21 0 row) ∧ ∃ n6 : Int, ((List.take 1 row) = ([.int .i64 n6] : List D)) ∧ bcase (n6 == (-2)) (∃ len2 : Nat, (Idx Tryz.prog σ'4 d25 8 len2) ∧ ((0 : Int) ≤ 1) ∧ ((1 : Int) < (len2 : Int)) ∧ ∃ row1 : List D, (Row σ'4 d25 1 row1) ∧ ∃ n7 : Int, ((List.take 1 (List.drop 2 row1)) = ([.int .i64 n7] : List D)) ∧ bcase (n7 == 1) (DCalls Tryz.prog n_block_Tell [.agg [d21, d22, d23, d24, d25, d26, .bool b2], .one (.int .i64 1)] σ'4 (fun (r5 : RV) => fun (σ'5 : Store) => ∃ n8 : Int, ∃ n9 : Int, ∃ n10 : Int, (r5 = (.a (.agg [.int .i64 n8, .int .i64 n9, .int .i64 n10]) : RV)) ∧ bcase ((n8 == 0) && ((n9 == 0) && (n10 == 0))) (Qp (.a (.one (.bool b2))) σ'5) (Qp (.a (.one (.bool false))) σ'5))) (Qp (.a (.one (.bool false))) σ'4)) (Qp (.a (.one (.bool false))) σ'4)) (Qp (.a (.one (.bool false))) σ'4)) (Qp (.a (.one (.bool false))) σ'4)) (Qp (.a (.one (.bool false))) σ'4))))))
theorem W_law15_lives (σ : Store) (Qp : RV → Store → Prop) (h : V_law15_lives σ Qp) : DCalls Tryz.prog n_law15_lives [] σ Qp :=
  dcalls_of_body mixed (by kernel_rfl) Tryz.func4 an_law15_lives ((show V_law15_lives σ Qp = dbody Tryz.prog Tryz.f4 an_law15_lives [] σ Qp by kernel_rfl) ▸ h)
def an_block_Tell : Ann := { esc := [], cbs := [2], draws := [], loops := [], joins := [] }
def V_block_Tell (k0 : D) (k1 : D) (k2 : D) (k3 : D) (k4 : D) (k5 : D) (k6 : Bool) (line : Int) (σ : Store) (Qp : RV → Store → Prop) : Prop :=
  bcase (decide (line < 1)) (Qp (.a (.agg [.int .i64 0, .int .i64 0, .int .i64 0])) σ) (∃ len : Nat, (Len k4 len) ∧ bcase (decide (line ≥ (len : Int))) (Qp (.a (.agg [.int .i64 0, .int .i64 0, .int .i64 0])) σ) (∃ len1 : Nat, (Idx Tryz.prog σ k4 8 len1) ∧ ((0 : Int) ≤ line) ∧ (line < (len1 : Int)) ∧ ∃ row : List D, (Row σ k4 (Int.toNat line) row) ∧ ∃ n : Int, ∃ n1 : Int, ∃ n2 : Int, ∃ n3 : Int, ∃ n4 : Int, ∃ n5 : Int, ∃ n6 : Int, ∃ n7 : Int, ((List.take 8 row) = ([.int .i64 n, .int .i64 n1, .int .i64 n2, .int .i64 n3, .int .i64 n4, .int .i64 n5, .int .i64 n6, .int .i64 n7] : List D)) ∧ Qp (.a (.agg [.int .i64 n, .int .i64 n1, .int .i64 n3])) σ))
theorem W_block_Tell (k0 : D) (k1 : D) (k2 : D) (k3 : D) (k4 : D) (k5 : D) (k6 : Bool) (line : Int) (σ : Store) (Qp : RV → Store → Prop) (h : V_block_Tell k0 k1 k2 k3 k4 k5 k6 line σ Qp) : DCalls Tryz.prog n_block_Tell [.agg [k0, k1, k2, k3, k4, k5, .bool k6], .one (.int .i64 line)] σ Qp :=
  dcalls_of_body mixed (by kernel_rfl) Tryz.func8 an_block_Tell ((show V_block_Tell k0 k1 k2 k3 k4 k5 k6 line σ Qp = dbody Tryz.prog Tryz.f8 an_block_Tell [.agg [k0, k1, k2, k3, k4, k5, .bool k6], .one (.int .i64 line)] σ Qp by kernel_rfl) ▸ h)
def an_locks_New : Ann := { esc := [], cbs := [2], draws := [(1, { ord := [1, 2, 3, 5, 6, 7, 10, 11, 12, 15, 0, 4, 8, 9, 13, 14, 16], nb := [2, 6, 11], av := [], dir := [], sp := [4] })], loops := [], joins := [] }
def V_locks_New (c0 : D) (c1 : D) (c2 : D) (c3 : D) (c4 : D) (c5 : Int) (c6 : Int) (c7 : Int) (c8 : Int) (now : Int) (σ : Store) (Qp : RV → Store → Prop) : Prop :=
  ∃ pre : List A → Store → Prop, ∃ post : List A → Store → RV → Store → Prop, (SpecOk Tryz.prog n_slices_Repeat_int pre post) ∧ ∃ len : Nat, (Len c0 len) ∧ ∃ len1 : Nat, (Len c4 len1) ∧ ∃ len2 : Nat, (Len c0 len2) ∧ Fw.newObj σ (.live t_int [[.int .i64 (-1)]]) (fun (id : Nat) => fun (σ' : Store) => (pre [.one (.osl id 0 1), .one (.int .i64 (len : Int))] σ') ∧ ∀ r : RV, ∀ s : Store, (post [.one (.osl id 0 1), .one (.int .i64 (len : Int))] σ' r s) → ∃ d : D, (r = (.a (.one d) : RV)) ∧ ((0 : Int) ≤ (len1 : Int)) ∧ ((len1 : Int) ≤ (len1 : Int)) ∧ (((32 : Int) * (len1 : Int)) ≤ (2 ^ 48)) ∧ Fw.newObj s (.live t_RouteState (List.replicate (Int.toNat (len1 : Int)) [.int .i64 0, .int .i64 0, .int .i64 0, .int .i64 0])) (fun (id1 : Nat) => fun (σ'1 : Store) => ((0 : Int) ≤ 4) ∧ ((4 : Int) ≤ 4) ∧ (((64 : Int) * 4) ≤ (2 ^ 48)) ∧ Fw.newObj σ'1 (.live t_LineState [[.int .i64 0, .int .i64 0, .int .i64 0, .int .i64 0, .int .i64 0, .int .i64 0, .int .i64 0, .int .i64 0], [.int .i64 0, .int .i64 0, .int .i64 0, .int .i64 0, .int .i64 0, .int .i64 0, .int .i64 0, .int .i64 0], [.int .i64 0, .int .i64 0, .int .i64 0, .int .i64 0, .int .i64 0, .int .i64 0, .int .i64 0, .int .i64 0], [.int .i64 0, .int .i64 0, .int .i64 0, .int .i64 0, .int .i64 0, .int .i64 0, .int .i64 0, .int .i64 0]]) (fun (id2 : Nat) => fun (σ'2 : Store) => ((0 : Int) ≤ (len2 : Int)) ∧ ((len2 : Int) ≤ (len2 : Int)) ∧ (((8 : Int) * (len2 : Int)) ≤ (2 ^ 48)) ∧ Fw.newObj σ'2 (.live t_int (List.replicate (Int.toNat (len2 : Int)) [.int .i64 0])) (fun (id3 : Nat) => fun (σ'3 : Store) => DCalls Tryz.prog n_locks_movers [.agg [c0, c1, c2, c3, c4, .int .i64 c5, .int .i64 c6, .int .i64 c7, .int .i64 c8], .one (.int .i64 now)] σ'3 (fun (r1 : RV) => fun (σ'4 : Store) => ∃ d1 : D, ∃ d2 : D, (r1 = (.tup [.one d1, .one d2] : RV)) ∧ Qp (.a (.agg [d, .osl id1 0 (Int.toNat (len1 : Int)), d1, d2, .osl id2 0 4, .osl id3 0 (Int.toNat (len2 : Int)), .bool true])) σ'4)))))
theorem W_locks_New (c0 : D) (c1 : D) (c2 : D) (c3 : D) (c4 : D) (c5 : Int) (c6 : Int) (c7 : Int) (c8 : Int) (now : Int) (σ : Store) (Qp : RV → Store → Prop) (h : V_locks_New c0 c1 c2 c3 c4 c5 c6 c7 c8 now σ Qp) : DCalls Tryz.prog n_locks_New [.agg [c0, c1, c2, c3, c4, .int .i64 c5, .int .i64 c6, .int .i64 c7, .int .i64 c8], .one (.int .i64 now)] σ Qp :=
  dcalls_of_body mixed (by kernel_rfl) Tryz.func12 an_locks_New ((show V_locks_New c0 c1 c2 c3 c4 c5 c6 c7 c8 now σ Qp = dbody Tryz.prog Tryz.f12 an_locks_New [.agg [c0, c1, c2, c3, c4, .int .i64 c5, .int .i64 c6, .int .i64 c7, .int .i64 c8], .one (.int .i64 now)] σ Qp by kernel_rfl) ▸ h)
def an_locks_Fits : Ann := { esc := [], cbs := [2, 3], draws := [(13, { ord := [0, 1, 2, 3, 4, 5, 6, 7, 8, 9, 10, 11, 12, 13, 14, 15, 16, 17, 18, 19, 20, 21, 22, 23, 24, 25], nb := [], av := [], dir := [] })], loops := [(5, { mods := [(68, SlotSh.one (Sh.int IntKind.i64))], keep := [2, 3, 66, 67] }), (11, { mods := [(82, SlotSh.one (Sh.int IntKind.i64))], keep := [2, 3, 80, 81] }), (17, { mods := [(121, SlotSh.one (Sh.int IntKind.i64))], keep := [3, 119, 120] }), (23, { mods := [(139, SlotSh.one (Sh.int IntKind.i64))], keep := [3, 137, 138] })], joins := [(4, { mods := [], keep := [2, 3] })] }
def V_locks_Fits (c0 : D) (c1 : D) (c2 : D) (c3 : D) (c4 : D) (c5 : Int) (c6 : Int) (c7 : Int) (c8 : Int) (k0 : D) (k1 : D) (k2 : D) (k3 : D) (k4 : D) (k5 : D) (k6 : Bool) (σ : Store) (Qp : RV → Store → Prop) : Prop :=
  ∃ len : Nat, (Len c0 len) ∧ ∀ R : Store → Prop, (∀ σ' : Store, (∃ len1 : Nat, (Len k0 len1) ∧ ∃ I : Int → Store → Prop, ∃ μ : Int → Store → Nat, (I 0 σ') ∧ ∀ n : Int, ∀ σ'1 : Store, (I n σ'1) → bcase (decide (n < (len1 : Int))) (∃ len2 : Nat, (Idx Tryz.prog σ'1 k0 1 len2) ∧ ((0 : Int) ≤ n) ∧ (n < (len2 : Int)) ∧ ∃ row : List D, (Row σ'1 k0 (Int.toNat n) row) ∧ ∃ n1 : Int, ((List.take 1 row) = ([.int .i64 n1] : List D)) ∧ ∃ len3 : Nat, (Len c4 len3) ∧ DCalls Tryz.prog n_locks_between [.one (.int .i64 n1), .one (.int .i64 (-2)), .one (.int .i64 (len3 : Int))] σ'1 (fun (r : RV) => fun (σ'2 : Store) => ∃ b : Bool, (r = (.a (.one (.bool b)) : RV)) ∧ bcase (!b) (Qp (.a (.one (.bool false))) σ'2) ((I (w64 (n + 1)) σ'2) ∧ ((μ (w64 (n + 1)) σ'2) < (μ n σ'1))))) (∃ len2 : Nat, (Len k1 len2) ∧ ∃ I1 : Int → Store → Prop, ∃ μ1 : Int → Store → Nat, (I1 0 σ'1) ∧ ∀ n1 : Int, ∀ σ'2 : Store, (I1 n1 σ'2) → bcase (decide (n1 < (len2 : Int))) (∃ len3 : Nat, (Idx Tryz.prog σ'2 k1 4 len3) ∧ ((0 : Int) ≤ n1) ∧ (n1 < (len3 : Int)) ∧ ∃ row : List D, (Row σ'2 k1 (Int.toNat n1) row) ∧ ∃ n2 : Int, ∃ n3 : Int, ∃ n4 : Int, ∃ n5 : Int, ((List.take 4 row) = ([.int .i64 n2, .int .i64 n3, .int .i64 n4, .int .i64 n5] : List D)) ∧ DCalls Tryz.prog n_locks_between [.one (.int .i64 n2), .one (.int .i64 0), .one (.int .i64 5)] σ'2 (fun (r : RV) => fun (σ'3 : Store) => ∃ b : Bool, (r = (.a (.one (.bool b)) : RV)) ∧ bcase (!b) (Qp (.a (.one (.bool false))) σ'3) (∃ len4 : Nat, (Idx Tryz.prog σ'3 c4 6 len4) ∧ ((0 : Int) ≤ n1) ∧ (n1 < (len4 : Int)) ∧ ∃ row1 : List D, (Row σ'3 c4 (Int.toNat n1) row1) ∧ ∃ d : D, ((List.take 1 (List.drop 2 row1)) = ([d] : List D)) ∧ ∃ len5 : Nat, (Len d len5) ∧ DCalls Tryz.prog n_locks_between [.one (.int .i64 n4), .one (.int .i64 0), .one (.int .i64 (len5 : Int))] σ'3 (fun (r1 : RV) => fun (σ'4 : Store) => ∃ b1 : Bool, (r1 = (.a (.one (.bool b1)) : RV)) ∧ bcase (!b1) (Qp (.a (.one (.bool false))) σ'4) (Fw.newObj σ'4 (.live t_int [[.int .i64 n3], [.int .i64 n5]]) (fun (id : Nat) => fun (σ'5 : Store) => DCalls Tryz.prog n_locks_times [.one (.int .i64 0), .one (.osl id 0 2)] σ'5 (fun (r2 : RV) => fun (σ'6 : Store) => ∃ b2 : Bool, (r2 = (.a (.one (.bool b2)) : RV)) ∧ bcase (!b2) (Qp (.a (.one (.bool false))) σ'6) ((I1 (w64 (n1 + 1)) σ'6) ∧ ((μ1 (w64 (n1 + 1)) σ'6) < (μ1 n1 σ'2)))))))))) (Fw.newObj σ'2 (.live t_sl_Mover [[k2], [k3]]) (fun (id : Nat) => fun (σ'3 : Store) => DCalls Tryz.prog n_slices_Concat_Mover [.one (.osl id 0 2)] σ'3 (fun (r : RV) => fun (σ'4 : Store) => ∃ d : D, (r = (.a (.one d) : RV)) ∧ ∃ len3 : Nat, (Len d len3) ∧ ∃ I2 : Int → Store → Prop, ∃ μ2 : Int → Store → Nat, (I2 0 σ'4) ∧ ∀ n2 : Int, ∀ σ'5 : Store, (I2 n2 σ'5) → bcase (decide (n2 < (len3 : Int))) (∃ len4 : Nat, (Idx Tryz.prog σ'5 d 2 len4) ∧ ((0 : Int) ≤ n2) ∧ (n2 < (len4 : Int)) ∧ ∃ row : List D, (Row σ'5 d (Int.toNat n2) row) ∧ ∃ n3 : Int, ∃ n4 : Int, ((List.take 2 row) = ([.int .i64 n3, .int .i64 n4] : List D)) ∧ DCalls Tryz.prog n_locks_between [.one (.int .i64 n3), .one (.int .i64 0), .one (.int .i64 2)] σ'5 (fun (r1 : RV) => fun (σ'6 : Store) => ∃ b : Bool, (r1 = (.a (.one (.bool b)) : RV)) ∧ bcase (!b) (Qp (.a (.one (.bool false))) σ'6) (DCalls Tryz.prog n_locks_between [.one (.int .i64 n4), .one (.int .i64 (-1)), .one (.int .i64 4294967295)] σ'6 (fun (r2 : RV) => fun (σ'7 : Store) => ∃ b1 : Bool, (r2 = (.a (.one (.bool b1)) : RV)) ∧ bcase (!b1) (Qp (.a (.one (.bool false))) σ'7) ((I2 (w64 (n2 + 1)) σ'7) ∧ ((μ2 (w64 (n2 + 1)) σ'7) < (μ2 n2 σ'5))))))) (∃ len4 : Nat, (Len k4 len4) ∧ ∃ I3 : Int → Store → Prop, ∃ μ3 : Int → Store → Nat, (I3 0 σ'5) ∧ ∀ n3 : Int, ∀ σ'6 : Store, (I3 n3 σ'6) → bcase (decide (n3 < (len4 : Int))) (∃ len5 : Nat, (Idx Tryz.prog σ'6 k4 8 len5) ∧ ((0 : Int) ≤ n3) ∧ (n3 < (len5 : Int)) ∧ ∃ row : List D, (Row σ'6 k4 (Int.toNat n3) row) ∧ ∃ n4 : Int, ∃ n5 : Int, ∃ n6 : Int, ∃ n7 : Int, ∃ n8 : Int, ∃ n9 : Int, ∃ n10 : Int, ∃ n11 : Int, ((List.take 8 row) = ([.int .i64 n4, .int .i64 n5, .int .i64 n6, .int .i64 n7, .int .i64 n8, .int .i64 n9, .int .i64 n10, .int .i64 n11] : List D)) ∧ Fw.newObj σ'6 (.live t_int [[.int .i64 n4], [.int .i64 n5], [.int .i64 n6], [.int .i64 n7], [.int .i64 n8], [.int .i64 n9], [.int .i64 n10]]) (fun (id1 : Nat) => fun (σ'7 : Store) => DCalls Tryz.prog n_locks_times [.one (.int .i64 0), .one (.osl id1 0 7)] σ'7 (fun (r1 : RV) => fun (σ'8 : Store) => ∃ b : Bool, (r1 = (.a (.one (.bool b)) : RV)) ∧ bcase (!b) (Qp (.a (.one (.bool false))) σ'8) (Fw.newObj σ'8 (.live t_int [[.int .i64 n11]]) (fun (id2 : Nat) => fun (σ'9 : Store) => DCalls Tryz.prog n_locks_times [.one (.int .i64 1), .one (.osl id2 0 1)] σ'9 (fun (r2 : RV) => fun (σ'10 : Store) => ∃ b1 : Bool, (r2 = (.a (.one (.bool b1)) : RV)) ∧ bcase (!b1) (Qp (.a (.one (.bool false))) σ'10) ((I3 (w64 (n3 + 1)) σ'10) ∧ ((μ3 (w64 (n3 + 1)) σ'10) < (μ3 n3 σ'6))))))))) (DCalls Tryz.prog n_locks_times [.one (.int .i64 1), .one k5] σ'6 (fun (r1 : RV) => fun (σ'7 : Store) => ∃ b : Bool, (r1 = (.a (.one (.bool b)) : RV)) ∧ Qp (.a (.one (.bool b))) σ'7)))))))) → R σ') → DCalls Tryz.prog n_conf_Check [.agg [c0, c1, c2, c3, c4, .int .i64 c5, .int .i64 c6, .int .i64 c7, .int .i64 c8]] σ (fun (r : RV) => fun (σ' : Store) => ∃ n : Int, (r = (.a (.one (.int .i64 n)) : RV)) ∧ bcase (n != 0) (Qp (.a (.one (.bool false))) σ') (∃ len1 : Nat, (Len k0 len1) ∧ bcase ((len1 : Int) != (len : Int)) (Qp (.a (.one (.bool false))) σ') (∃ len2 : Nat, (Len k2 len2) ∧ bcase ((len2 : Int) != (len : Int)) (Qp (.a (.one (.bool false))) σ') (∃ len3 : Nat, (Len k5 len3) ∧ bcase ((len3 : Int) != (len : Int)) (Qp (.a (.one (.bool false))) σ') (∃ len4 : Nat, (Len k1 len4) ∧ ∃ len5 : Nat, (Len c4 len5) ∧ bcase ((len4 : Int) != (len5 : Int)) (Qp (.a (.one (.bool false))) σ') (∃ len6 : Nat, (Len k3 len6) ∧ ∃ len7 : Nat, (Len c3 len7) ∧ bcase ((len6 : Int) != (len7 : Int)) (Qp (.a (.one (.bool false))) σ') (∃ len8 : Nat, (Len k4 len8) ∧ bcase ((len8 : Int) != 4) (Qp (.a (.one (.bool false))) σ') (R σ'))))))))
theorem W_locks_Fits (c0 : D) (c1 : D) (c2 : D) (c3 : D) (c4 : D) (c5 : Int) (c6 : Int) (c7 : Int) (c8 : Int) (k0 : D) (k1 : D) (k2 : D) (k3 : D) (k4 : D) (k5 : D) (k6 : Bool) (σ : Store) (Qp : RV → Store → Prop) (h : V_locks_Fits c0 c1 c2 c3 c4 c5 c6 c7 c8 k0 k1 k2 k3 k4 k5 k6 σ Qp) : DCalls Tryz.prog n_locks_Fits [.agg [c0, c1, c2, c3, c4, .int .i64 c5, .int .i64 c6, .int .i64 c7, .int .i64 c8], .agg [k0, k1, k2, k3, k4, k5, .bool k6]] σ Qp :=
  dcalls_of_body mixed (by kernel_rfl) Tryz.func16 an_locks_Fits ((show V_locks_Fits c0 c1 c2 c3 c4 c5 c6 c7 c8 k0 k1 k2 k3 k4 k5 k6 σ Qp = dbody Tryz.prog Tryz.f16 an_locks_Fits [.agg [c0, c1, c2, c3, c4, .int .i64 c5, .int .i64 c6, .int .i64 c7, .int .i64 c8], .agg [k0, k1, k2, k3, k4, k5, .bool k6]] σ Qp by kernel_rfl) ▸ h)
def an_slices_Repeat_int : Ann := { esc := [], cbs := [], draws := [(9, { ord := [0, 1, 2, 3, 4, 5, 6, 7, 8, 9], nb := [], av := [], dir := [] })], loops := [(8, { mods := [(8, SlotSh.one (Sh.int IntKind.i64))], keep := [7] })], joins := [(3, { mods := [], keep := [0, 1] }), (6, { mods := [], keep := [0, 6] })] }
def V_slices_Repeat_int (x : D) (count : Int) (σ : Store) (Qp : RV → Store → Prop) : Prop :=
  ∀ R : Store → Prop, (∀ σ' : Store, (∃ len : Nat, (Len x len) ∧ DCalls Tryz.prog n_math_bits_Mul [.one (.int .u64 (IntKind.wrap .u64 (len : Int))), .one (.int .u64 (IntKind.wrap .u64 count))] σ' (fun (r : RV) => fun (σ'1 : Store) => ∃ n : Int, ∃ n1 : Int, (r = (.tup [.one (.int .u64 n), .one (.int .u64 n1)] : RV)) ∧ ∀ R1 : Store → Prop, (∀ σ'2 : Store, (((0 : Int) ≤ (w64 n1)) ∧ ((w64 n1) ≤ (w64 n1)) ∧ (((8 : Int) * (w64 n1)) ≤ (2 ^ 48)) ∧ Fw.newObj σ'2 (.live t_int (List.replicate (Int.toNat (w64 n1)) [.int .i64 0])) (fun (id : Nat) => fun (σ'3 : Store) => copyTo Tryz.prog σ'3 t_int (.osl id 0 (Int.toNat (w64 n1))) x (fun (n2 : Int) => fun (σ'4 : Store) => ∃ I : Int → Store → Prop, ∃ μ : Int → Store → Nat, (I n2 σ'4) ∧ ∀ n3 : Int, ∀ σ'5 : Store, (I n3 σ'5) → ∃ len1 : Nat, (Len (.osl id 0 (Int.toNat (w64 n1))) len1) ∧ bcase (decide (n3 < (len1 : Int))) (∃ len2 : Nat, (IdxN Tryz.prog σ'5 (.osl id 0 (Int.toNat (w64 n1))) 1 len2) ∧ ((0 : Int) ≤ n3) ∧ (n3 ≤ (len2 : Int)) ∧ ∃ len3 : Nat, (IdxN Tryz.prog σ'5 (.osl id 0 (Int.toNat (w64 n1))) 1 len3) ∧ ((0 : Int) ≤ 0) ∧ ((0 : Int) ≤ n3) ∧ (n3 ≤ (len3 : Int)) ∧ copyTo Tryz.prog σ'5 t_int (.osl id (0 + (Int.toNat n3)) (len2 - (Int.toNat n3))) (.osl id 0 ((Int.toNat n3) - 0)) (fun (n4 : Int) => fun (σ'6 : Store) => (I (w64 (n3 + n4)) σ'6) ∧ ((μ (w64 (n3 + n4)) σ'6) < (μ n3 σ'5)))) (Qp (.a (.one (.osl id 0 (Int.toNat (w64 n1))))) σ'5)))) → R1 σ'2) → bcase (decide (n > 0)) False (bcase (decide (n1 > 9223372036854775807)) False (R1 σ'1)))) → R σ') → bcase (decide (count < 0)) False (R σ)
theorem W_slices_Repeat_int (x : D) (count : Int) (σ : Store) (Qp : RV → Store → Prop) (h : V_slices_Repeat_int x count σ Qp) : DCalls Tryz.prog n_slices_Repeat_int [.one x, .one (.int .i64 count)] σ Qp :=
  dcalls_of_body mixed (by kernel_rfl) Tryz.func20 an_slices_Repeat_int ((show V_slices_Repeat_int x count σ Qp = dbody Tryz.prog Tryz.f20 an_slices_Repeat_int [.one x, .one (.int .i64 count)] σ Qp by kernel_rfl) ▸ h)
def an_locks_desk_state : Ann := { esc := [], cbs := [], draws := [], loops := [], joins := [] }
def V_locks_desk_state (d : D) (r : Int) (σ : Store) (Qp : RV → Store → Prop) : Prop :=
  (NotNil d) ∧ ∃ s : D, ∃ i : Nat, ∃ off : Nat, (d = (.el s i off : D)) ∧ ∃ row : List D, (Row σ s i row) ∧ ∃ d1 : D, ((List.take 1 (List.drop ((off + 9) + 1) row)) = ([d1] : List D)) ∧ ∃ len : Nat, (Len d1 len) ∧ DCalls Tryz.prog n_locks_between [.one (.int .i64 r), .one (.int .i64 0), .one (.int .i64 (w64 ((len : Int) - 1)))] σ (fun (r1 : RV) => fun (σ' : Store) => ∃ b : Bool, (r1 = (.a (.one (.bool b)) : RV)) ∧ bcase (!b) (Qp (.tup [.one .nilp, .one (.int .i64 20)]) σ') ((NotNil d) ∧ ∃ s1 : D, ∃ i1 : Nat, ∃ off1 : Nat, (d = (.el s1 i1 off1 : D)) ∧ ∃ row1 : List D, (Row σ' s1 i1 row1) ∧ ∃ d2 : D, ((List.take 1 (List.drop ((off1 + 9) + 1) row1)) = ([d2] : List D)) ∧ ∃ len1 : Nat, (Idx Tryz.prog σ' d2 4 len1) ∧ ((0 : Int) ≤ r) ∧ (r < (len1 : Int)) ∧ Qp (.tup [.one (.el d2 (Int.toNat r) 0), .one (.int .i64 0)]) σ'))
theorem W_locks_desk_state (d : D) (r : Int) (σ : Store) (Qp : RV → Store → Prop) (h : V_locks_desk_state d r σ Qp) : DCalls Tryz.prog n_locks_desk_state [.one d, .one (.int .i64 r)] σ Qp :=
  dcalls_of_body mixed (by kernel_rfl) Tryz.func24 an_locks_desk_state ((show V_locks_desk_state d r σ Qp = dbody Tryz.prog Tryz.f24 an_locks_desk_state [.one d, .one (.int .i64 r)] σ Qp by kernel_rfl) ▸ h)
def an_mover_Needs : Ann := { esc := [], cbs := [2], draws := [(7, { ord := [0, 1, 2, 3, 4, 5, 6, 7, 8, 9, 10, 11, 12, 13, 14, 15, 16], nb := [], av := [], dir := [] })], loops := [(4, { mods := [(7, SlotSh.one (Sh.any)), (21, SlotSh.one (Sh.int IntKind.i64))], keep := [2, 5, 19, 20] })], joins := [] }
def V_mover_Needs (c0 : D) (c1 : D) (c2 : D) (c3 : D) (c4 : D) (c5 : Int) (c6 : Int) (c7 : Int) (c8 : Int) (r : Int) (σ : Store) (Qp : RV → Store → Prop) : Prop :=
  DCalls Tryz.prog n_mover_route [.agg [c0, c1, c2, c3, c4, .int .i64 c5, .int .i64 c6, .int .i64 c7, .int .i64 c8], .one (.int .i64 r)] σ (fun (r1 : RV) => fun (σ' : Store) => ∃ n : Int, ∃ n1 : Int, ∃ d : D, ∃ d1 : D, ∃ d2 : D, ∃ b : Bool, ∃ b1 : Bool, (r1 = (.tup [.agg [.int .i64 n, .int .i64 n1, d, d1, d2, .bool b], .one (.bool b1)] : RV)) ∧ ∃ len : Nat, (Len d len) ∧ ∃ I : D → Int → Store → Prop, ∃ μ : D → Int → Store → Nat, (I .nils 0 σ') ∧ ∀ d3 : D, ∀ n2 : Int, ∀ σ'1 : Store, (I d3 n2 σ'1) → bcase (decide (n2 < (len : Int))) (∃ len1 : Nat, (Idx Tryz.prog σ'1 d 3 len1) ∧ ((0 : Int) ≤ n2) ∧ (n2 < (len1 : Int)) ∧ ∃ row : List D, (Row σ'1 d (Int.toNat n2) row) ∧ ∃ n3 : Int, ∃ n4 : Int, ∃ n5 : Int, ((List.take 3 row) = ([.int .i64 n3, .int .i64 n4, .int .i64 n5] : List D)) ∧ bcase (decide (n3 < 0)) ((([[.int .i64 n, .int .i64 n1, d, d1, d2, .bool b]] : List (List D)) = ([[.int .i64 n, .int .i64 n1, d, d1, d2, .bool b]] : List (List D))) ∧ (I d3 (w64 (n2 + 1)) σ'1) ∧ ((μ d3 (w64 (n2 + 1)) σ'1) < (μ d3 n2 σ'1))) (∃ len2 : Nat, (Len c0 len2) ∧ bcase (decide (n3 ≥ (len2 : Int))) ((([[.int .i64 n, .int .i64 n1, d, d1, d2, .bool b]] : List (List D)) = ([[.int .i64 n, .int .i64 n1, d, d1, d2, .bool b]] : List (List D))) ∧ (I d3 (w64 (n2 + 1)) σ'1) ∧ ((μ d3 (w64 (n2 + 1)) σ'1) < (μ d3 n2 σ'1))) (∃ len3 : Nat, (Idx Tryz.prog σ'1 c0 3 len3) ∧ ((0 : Int) ≤ n3) ∧ (n3 < (len3 : Int)) ∧ ∃ row1 : List D, (Row σ'1 c0 (Int.toNat n3) row1) ∧ ∃ n6 : Int, ((List.take 1 row1) = ([.int .i64 n6] : List D)) ∧ DCalls Tryz.prog n_topo_Pos [.one (.int .i64 n6), .one (.int .i64 n4), .one (.int .i64 n5)] σ'1 (fun (r2 : RV) => fun (σ'2 : Store) => ∃ n7 : Int, ∃ b2 : Bool, (r2 = (.tup [.one (.int .i64 n7), .one (.bool b2)] : RV)) ∧ bcase b2 (bcase (n7 != 0) (Fw.newObj σ'2 (.live t_Need [[.int .i64 n3, .int .i64 n7]]) (fun (id : Nat) => fun (σ'3 : Store) => appendTo Tryz.prog σ'3 t_Need 16 d3 (.osl id 0 1) (fun (d4 : D) => fun (σ'4 : Store) => (([[.int .i64 n, .int .i64 n1, d, d1, d2, .bool b]] : List (List D)) = ([[.int .i64 n, .int .i64 n1, d, d1, d2, .bool b]] : List (List D))) ∧ (I d4 (w64 (n2 + 1)) σ'4) ∧ ((μ d4 (w64 (n2 + 1)) σ'4) < (μ d3 n2 σ'1))))) ((([[.int .i64 n, .int .i64 n1, d, d1, d2, .bool b]] : List (List D)) = ([[.int .i64 n, .int .i64 n1, d, d1, d2, .bool b]] : List (List D))) ∧ (I d3 (w64 (n2 + 1)) σ'2) ∧ ((μ d3 (w64 (n2 + 1)) σ'2) < (μ d3 n2 σ'1)))) ((([[.int .i64 n, .int .i64 n1, d, d1, d2, .bool b]] : List (List D)) = ([[.int .i64 n, .int .i64 n1, d, d1, d2, .bool b]] : List (List D))) ∧ (I d3 (w64 (n2 + 1)) σ'2) ∧ ((μ d3 (w64 (n2 + 1)) σ'2) < (μ d3 n2 σ'1))))))) (appendTo Tryz.prog σ'1 t_Need 16 d3 d1 (fun (d4 : D) => fun (σ'2 : Store) => Qp (.a (.one d4)) σ'2)))
theorem W_mover_Needs (c0 : D) (c1 : D) (c2 : D) (c3 : D) (c4 : D) (c5 : Int) (c6 : Int) (c7 : Int) (c8 : Int) (r : Int) (σ : Store) (Qp : RV → Store → Prop) (h : V_mover_Needs c0 c1 c2 c3 c4 c5 c6 c7 c8 r σ Qp) : DCalls Tryz.prog n_mover_Needs [.agg [c0, c1, c2, c3, c4, .int .i64 c5, .int .i64 c6, .int .i64 c7, .int .i64 c8], .one (.int .i64 r)] σ Qp :=
  dcalls_of_body mixed (by kernel_rfl) Tryz.func28 an_mover_Needs ((show V_mover_Needs c0 c1 c2 c3 c4 c5 c6 c7 c8 r σ Qp = dbody Tryz.prog Tryz.f28 an_mover_Needs [.agg [c0, c1, c2, c3, c4, .int .i64 c5, .int .i64 c6, .int .i64 c7, .int .i64 c8], .one (.int .i64 r)] σ Qp by kernel_rfl) ▸ h)
def an_locks_between : Ann := { esc := [], cbs := [], draws := [], loops := [], joins := [] }
def V_locks_between (n : Int) (lo : Int) (hi : Int) (σ : Store) (Qp : RV → Store → Prop) : Prop :=
  bcase (decide (lo ≤ n)) (Qp (.a (.one (.bool (decide (n ≤ hi))))) σ) (Qp (.a (.one (.bool false))) σ)
theorem W_locks_between (n : Int) (lo : Int) (hi : Int) (σ : Store) (Qp : RV → Store → Prop) (h : V_locks_between n lo hi σ Qp) : DCalls Tryz.prog n_locks_between [.one (.int .i64 n), .one (.int .i64 lo), .one (.int .i64 hi)] σ Qp :=
  dcalls_of_body mixed (by kernel_rfl) Tryz.func32 an_locks_between ((show V_locks_between n lo hi σ Qp = dbody Tryz.prog Tryz.f32 an_locks_between [.one (.int .i64 n), .one (.int .i64 lo), .one (.int .i64 hi)] σ Qp by kernel_rfl) ▸ h)
def an_slices_Clone_RouteState : Ann := { esc := [], cbs := [], draws := [], loops := [], joins := [] }
def V_slices_Clone_RouteState (s : D) (σ : Store) (Qp : RV → Store → Prop) : Prop :=
  ∃ b : Bool, (IsNil .sl s b) ∧ bcase (b != false) (Qp (.a (.one .nils)) σ) (Fw.newObj σ (.live t_RouteState []) (fun (id : Nat) => fun (σ' : Store) => appendTo Tryz.prog σ' t_RouteState 32 (.osl id 0 0) s (fun (d : D) => fun (σ'1 : Store) => Qp (.a (.one d)) σ'1)))
theorem W_slices_Clone_RouteState (s : D) (σ : Store) (Qp : RV → Store → Prop) (h : V_slices_Clone_RouteState s σ Qp) : DCalls Tryz.prog n_slices_Clone_RouteState [.one s] σ Qp :=
  dcalls_of_body mixed (by kernel_rfl) Tryz.func36 an_slices_Clone_RouteState ((show V_slices_Clone_RouteState s σ Qp = dbody Tryz.prog Tryz.f36 an_slices_Clone_RouteState [.one s] σ Qp by kernel_rfl) ▸ h)
def an_block_desk_back : Ann := { esc := [], cbs := [], draws := [(1, { ord := [0, 1, 2, 3, 4, 5, 6, 7, 8, 9, 10], nb := [], av := [], dir := [] }), (5, { ord := [0, 1, 2, 3, 4, 5, 6, 7, 8, 9, 10, 11, 12, 13, 14, 15, 16], nb := [], av := [], dir := [] })], loops := [], joins := [] }
def V_block_desk_back (d : D) (l : D) (s : Int) (σ : Store) (Qp : RV → Store → Prop) : Prop :=
  (NotNil d) ∧ ∃ s1 : D, ∃ i : Nat, ∃ off : Nat, (d = (.el s1 i off : D)) ∧ ∃ row : List D, (Row σ s1 i row) ∧ ∃ d1 : D, ((List.take 1 (List.drop ((off + 16) + 0) row)) = ([d1] : List D)) ∧ ∃ len : Nat, (Idx Tryz.prog σ d1 3 len) ∧ ((0 : Int) ≤ s) ∧ (s < (len : Int)) ∧ ∃ row1 : List D, (Row σ d1 (Int.toNat s) row1) ∧ ∃ n : Int, ∃ n1 : Int, ∃ b : Bool, ((List.take 3 row1) = ([.int .i64 n, .int .i64 n1, .bool b] : List D)) ∧ (NotNil l) ∧ ∃ s2 : D, ∃ i1 : Nat, ∃ off1 : Nat, (l = (.el s2 i1 off1 : D)) ∧ ∃ row2 : List D, (Row σ s2 i1 row2) ∧ ∃ n2 : Int, ((List.take 1 (List.drop ((off1 + 4) + 1) row2)) = ([.int .i64 n2] : List D)) ∧ (NotNil l) ∧ ∃ s3 : D, ∃ i2 : Nat, ∃ off2 : Nat, (l = (.el s3 i2 off2 : D)) ∧ ∃ row3 : List D, (Row σ s3 i2 row3) ∧ ∃ n3 : Int, ((List.take 1 (List.drop (off2 + 2) row3)) = ([.int .i64 n3] : List D)) ∧ bcase (decide (n2 < n3)) ((NotNil l) ∧ ∃ s4 : D, ∃ i3 : Nat, ∃ off3 : Nat, (l = (.el s4 i3 off3 : D)) ∧ storeEl [.int .i64 0] σ s4 i3 (off3 + 7) (fun (σ' : Store) => Qp (.tup []) σ')) ((NotNil l) ∧ ∃ s4 : D, ∃ i3 : Nat, ∃ off3 : Nat, (l = (.el s4 i3 off3 : D)) ∧ ∃ row4 : List D, (Row σ s4 i3 row4) ∧ ∃ n4 : Int, ((List.take 1 (List.drop (off3 + 7) row4)) = ([.int .i64 n4] : List D)) ∧ bcase (n4 == 0) ((NotNil d) ∧ ∃ s5 : D, ∃ i4 : Nat, ∃ off4 : Nat, (d = (.el s5 i4 off4 : D)) ∧ ∃ row5 : List D, (Row σ s5 i4 row5) ∧ ∃ n5 : Int, ((List.take 1 (List.drop (off4 + 20) row5)) = ([.int .i64 n5] : List D)) ∧ (NotNil l) ∧ ∃ s6 : D, ∃ i5 : Nat, ∃ off5 : Nat, (l = (.el s6 i5 off5 : D)) ∧ storeEl [.int .i64 (w64 (n5 + 1))] σ s6 i5 (off5 + 7) (fun (σ' : Store) => Qp (.tup []) σ')) (bcase b (bcase (n == 0) ((NotNil l) ∧ ∃ s5 : D, ∃ i4 : Nat, ∃ off4 : Nat, (l = (.el s5 i4 off4 : D)) ∧ ∃ row5 : List D, (Row σ s5 i4 row5) ∧ ∃ n5 : Int, ((List.take 1 (List.drop (off4 + 7) row5)) = ([.int .i64 n5] : List D)) ∧ bcase (decide (n1 ≥ n5)) (DCalls Tryz.prog n_block_desk_own [.one d, .one (.int .i64 s), .one (.int .i64 0)] σ (fun (r : RV) => fun (σ' : Store) => (r = (.tup [] : RV)) ∧ (NotNil l) ∧ ∃ s6 : D, ∃ i5 : Nat, ∃ off5 : Nat, (l = (.el s6 i5 off5 : D)) ∧ storeEl [.int .i64 0] σ' s6 i5 (off5 + 7) (fun (σ'1 : Store) => Qp (.tup []) σ'1))) (Qp (.tup []) σ)) (Qp (.tup []) σ)) (Qp (.tup []) σ)))
theorem W_block_desk_back (d : D) (l : D) (s : Int) (σ : Store) (Qp : RV → Store → Prop) (h : V_block_desk_back d l s σ Qp) : DCalls Tryz.prog n_block_desk_back [.one d, .one l, .one (.int .i64 s)] σ Qp :=
  dcalls_of_body mixed (by kernel_rfl) Tryz.func40 an_block_desk_back ((show V_block_desk_back d l s σ Qp = dbody Tryz.prog Tryz.f40 an_block_desk_back [.one d, .one l, .one (.int .i64 s)] σ Qp by kernel_rfl) ▸ h)
def an_mover_Start : Ann := { esc := [], cbs := [], draws := [], loops := [], joins := [] }
def V_mover_Start (now : Int) (σ : Store) (Qp : RV → Store → Prop) : Prop :=
  Qp (.a (.agg [.int .i64 0, .int .i64 now])) σ
theorem W_mover_Start (now : Int) (σ : Store) (Qp : RV → Store → Prop) (h : V_mover_Start now σ Qp) : DCalls Tryz.prog n_mover_Start [.one (.int .i64 now)] σ Qp :=
  dcalls_of_body mixed (by kernel_rfl) Tryz.func44 an_mover_Start ((show V_mover_Start now σ Qp = dbody Tryz.prog Tryz.f44 an_mover_Start [.one (.int .i64 now)] σ Qp by kernel_rfl) ▸ h)
def an_conf_Approach : Ann := { esc := [], cbs := [2], draws := [(3, { ord := [0, 1, 2, 3, 4, 5, 6, 7, 8], nb := [], av := [], dir := [] })], loops := [], joins := [] }
def V_conf_Approach (c0 : D) (c1 : D) (c2 : D) (c3 : D) (c4 : D) (c5 : Int) (c6 : Int) (c7 : Int) (c8 : Int) (r : Int) (σ : Store) (Qp : RV → Store → Prop) : Prop :=
  bcase (decide (r < 0)) (Qp (.a (.one (.int .i64 (-1)))) σ) (∃ len : Nat, (Len c4 len) ∧ bcase (decide (r ≥ (len : Int))) (Qp (.a (.one (.int .i64 (-1)))) σ) (∃ len1 : Nat, (Idx Tryz.prog σ c4 6 len1) ∧ ((0 : Int) ≤ r) ∧ (r < (len1 : Int)) ∧ ∃ row : List D, (Row σ c4 (Int.toNat r) row) ∧ ∃ n : Int, ∃ n1 : Int, ∃ d : D, ∃ d1 : D, ∃ d2 : D, ∃ b : Bool, ((List.take 6 row) = ([.int .i64 n, .int .i64 n1, d, d1, d2, .bool b] : List D)) ∧ DCalls Tryz.prog n_conf_plan_approach [.agg [c0, c1, c2, c3, c4, .int .i64 c5, .int .i64 c6, .int .i64 c7, .int .i64 c8], .agg [.int .i64 n, .int .i64 n1, d, d1, d2, .bool b]] σ (fun (r1 : RV) => fun (σ' : Store) => ∃ n2 : Int, (r1 = (.a (.one (.int .i64 n2)) : RV)) ∧ Qp (.a (.one (.int .i64 n2))) σ')))
theorem W_conf_Approach (c0 : D) (c1 : D) (c2 : D) (c3 : D) (c4 : D) (c5 : Int) (c6 : Int) (c7 : Int) (c8 : Int) (r : Int) (σ : Store) (Qp : RV → Store → Prop) (h : V_conf_Approach c0 c1 c2 c3 c4 c5 c6 c7 c8 r σ Qp) : DCalls Tryz.prog n_conf_Approach [.agg [c0, c1, c2, c3, c4, .int .i64 c5, .int .i64 c6, .int .i64 c7, .int .i64 c8], .one (.int .i64 r)] σ Qp :=
  dcalls_of_body mixed (by kernel_rfl) Tryz.func49 an_conf_Approach ((show V_conf_Approach c0 c1 c2 c3 c4 c5 c6 c7 c8 r σ Qp = dbody Tryz.prog Tryz.f49 an_conf_Approach [.agg [c0, c1, c2, c3, c4, .int .i64 c5, .int .i64 c6, .int .i64 c7, .int .i64 c8], .one (.int .i64 r)] σ Qp by kernel_rfl) ▸ h)
def an_slices_ContainsFunc_Step : Ann := { esc := [], cbs := [], draws := [], loops := [], joins := [] }
def V_slices_ContainsFunc_Step (s : D) (f : D) (σ : Store) (Qp : RV → Store → Prop) : Prop :=
  DCalls Tryz.prog n_slices_IndexFunc_Step [.one s, .one f] σ (fun (r : RV) => fun (σ' : Store) => ∃ n : Int, (r = (.a (.one (.int .i64 n)) : RV)) ∧ Qp (.a (.one (.bool (decide (n ≥ 0))))) σ')
theorem W_slices_ContainsFunc_Step (s : D) (f : D) (σ : Store) (Qp : RV → Store → Prop) (h : V_slices_ContainsFunc_Step s f σ Qp) : DCalls Tryz.prog n_slices_ContainsFunc_Step [.one s, .one f] σ Qp :=
  dcalls_of_body mixed (by kernel_rfl) Tryz.func53 an_slices_ContainsFunc_Step ((show V_slices_ContainsFunc_Step s f σ Qp = dbody Tryz.prog Tryz.f53 an_slices_ContainsFunc_Step [.one s, .one f] σ Qp by kernel_rfl) ▸ h)
def an_conf_plan_crossings : Ann := { esc := [], cbs := [1], draws := [], loops := [(3, { mods := [(13, SlotSh.one (Sh.int IntKind.i64))], keep := [1, 3, 11, 12] })], joins := [] }
def V_conf_plan_crossings (p0 : D) (p1 : D) (p2 : D) (p3 : D) (p4 : D) (p5 : Int) (p6 : Int) (p7 : Int) (p8 : Int) (σ : Store) (Qp : RV → Store → Prop) : Prop :=
  Fw.newObj σ (.mp 0 []) (fun (id : Nat) => fun (σ' : Store) => ∃ len : Nat, (Len p3 len) ∧ ∃ I : Int → Store → Prop, ∃ μ : Int → Store → Nat, (I 0 σ') ∧ ∀ n : Int, ∀ σ'1 : Store, (I n σ'1) → bcase (decide (n < (len : Int))) (∃ len1 : Nat, (Idx Tryz.prog σ'1 p3 1 len1) ∧ ((0 : Int) ≤ n) ∧ (n < (len1 : Int)) ∧ ∃ row : List D, (Row σ'1 p3 (Int.toNat n) row) ∧ ∃ n1 : Int, ((List.take 1 row) = ([.int .i64 n1] : List D)) ∧ DCalls Tryz.prog n_conf_plan_section [.agg [p0, p1, p2, p3, p4, .int .i64 p5, .int .i64 p6, .int .i64 p7, .int .i64 p8], .one (.int .i64 n1)] σ'1 (fun (r : RV) => fun (σ'2 : Store) => ∃ n2 : Int, ∃ n3 : Int, ∃ n4 : Int, ∃ b : Bool, (r = (.tup [.agg [.int .i64 n2, .int .i64 n3, .int .i64 n4], .one (.bool b)] : RV)) ∧ ∃ r1 : Option A, (MLook Tryz.prog t_int σ'2 (.omap id) (.one (.int .i64 n1)) r1) ∧ ∃ n5 : Int, ((Option.getD r1 (.one (.int .i64 0))) = (.one (.int .i64 n5) : A)) ∧ MPut Tryz.prog t_int σ'2 (.omap id) (.one (.int .i64 n1)) (.one (.int .i64 (w64 (n5 + 1)))) (fun (σ'3 : Store) => bcase (!b) (Qp (.a (.one (.bool false))) σ'3) (bcase (n4 != 0) (Qp (.a (.one (.bool false))) σ'3) (∃ r2 : Option A, (MLook Tryz.prog t_int σ'3 (.omap id) (.one (.int .i64 n1)) r2) ∧ ∃ n6 : Int, ((Option.getD r2 (.one (.int .i64 0))) = (.one (.int .i64 n6) : A)) ∧ bcase (decide (n6 > 1)) (Qp (.a (.one (.bool false))) σ'3) ((I (w64 (n + 1)) σ'3) ∧ ((μ (w64 (n + 1)) σ'3) < (μ n σ'1)))))))) (∃ len1 : Nat, (Len p3 len1) ∧ Qp (.a (.one (.bool (decide ((len1 : Int) ≤ 4))))) σ'1))
theorem W_conf_plan_crossings (p0 : D) (p1 : D) (p2 : D) (p3 : D) (p4 : D) (p5 : Int) (p6 : Int) (p7 : Int) (p8 : Int) (σ : Store) (Qp : RV → Store → Prop) (h : V_conf_plan_crossings p0 p1 p2 p3 p4 p5 p6 p7 p8 σ Qp) : DCalls Tryz.prog n_conf_plan_crossings [.agg [p0, p1, p2, p3, p4, .int .i64 p5, .int .i64 p6, .int .i64 p7, .int .i64 p8]] σ Qp :=
  dcalls_of_body mixed (by kernel_rfl) Tryz.func57 an_conf_plan_crossings ((show V_conf_plan_crossings p0 p1 p2 p3 p4 p5 p6 p7 p8 σ Qp = dbody Tryz.prog Tryz.f57 an_conf_plan_crossings [.agg [p0, p1, p2, p3, p4, .int .i64 p5, .int .i64 p6, .int .i64 p7, .int .i64 p8]] σ Qp by kernel_rfl) ▸ h)
def an_math_bits_Mul64 : Ann := { esc := [], cbs := [], draws := [], loops := [], joins := [] }
def V_math_bits_Mul64 (x : Int) (y : Int) (σ : Store) (Qp : RV → Store → Prop) : Prop :=
  Qp (.tup [.one (.int .u64 (IntKind.wrap .u64 ((IntKind.wrap .u64 ((IntKind.wrap .u64 ((Int.fdiv x (2 ^ 32)) * (Int.fdiv y (2 ^ 32)))) + (Int.fdiv (IntKind.wrap .u64 ((IntKind.wrap .u64 ((Int.fdiv x (2 ^ 32)) * (IntKind.wrap .u64 (BitVec.toNat ((BitVec.ofInt 64 y) &&& (BitVec.ofInt 64 4294967295)) : Int)))) + (Int.fdiv (IntKind.wrap .u64 ((IntKind.wrap .u64 (BitVec.toNat ((BitVec.ofInt 64 x) &&& (BitVec.ofInt 64 4294967295)) : Int)) * (IntKind.wrap .u64 (BitVec.toNat ((BitVec.ofInt 64 y) &&& (BitVec.ofInt 64 4294967295)) : Int)))) (2 ^ 32)))) (2 ^ 32)))) + (Int.fdiv (IntKind.wrap .u64 ((IntKind.wrap .u64 (BitVec.toNat ((BitVec.ofInt 64 (IntKind.wrap .u64 ((IntKind.wrap .u64 ((Int.fdiv x (2 ^ 32)) * (IntKind.wrap .u64 (BitVec.toNat ((BitVec.ofInt 64 y) &&& (BitVec.ofInt 64 4294967295)) : Int)))) + (Int.fdiv (IntKind.wrap .u64 ((IntKind.wrap .u64 (BitVec.toNat ((BitVec.ofInt 64 x) &&& (BitVec.ofInt 64 4294967295)) : Int)) * (IntKind.wrap .u64 (BitVec.toNat ((BitVec.ofInt 64 y) &&& (BitVec.ofInt 64 4294967295)) : Int)))) (2 ^ 32))))) &&& (BitVec.ofInt 64 4294967295)) : Int)) + (IntKind.wrap .u64 ((IntKind.wrap .u64 (BitVec.toNat ((BitVec.ofInt 64 x) &&& (BitVec.ofInt 64 4294967295)) : Int)) * (Int.fdiv y (2 ^ 32)))))) (2 ^ 32))))), .one (.int .u64 (IntKind.wrap .u64 (x * y)))]) σ
theorem W_math_bits_Mul64 (x : Int) (y : Int) (σ : Store) (Qp : RV → Store → Prop) (h : V_math_bits_Mul64 x y σ Qp) : DCalls Tryz.prog n_math_bits_Mul64 [.one (.int .u64 x), .one (.int .u64 y)] σ Qp :=
  dcalls_of_body mixed (by kernel_rfl) Tryz.func62 an_math_bits_Mul64 ((show V_math_bits_Mul64 x y σ Qp = dbody Tryz.prog Tryz.f62 an_math_bits_Mul64 [.one (.int .u64 x), .one (.int .u64 y)] σ Qp by kernel_rfl) ▸ h)
def an_topo_Next : Ann := { esc := [], cbs := [], draws := [(5, { ord := [0, 1, 2, 3, 4, 5, 6], nb := [], av := [], dir := [] }), (7, { ord := [0, 1, 2, 3, 4, 5, 6], nb := [], av := [], dir := [] })], loops := [(2, { mods := [(13, SlotSh.one (Sh.int IntKind.i64))], keep := [1, 2, 11, 12] })], joins := [] }
def V_topo_Next (joints : D) (section_ : Int) (end_ : Int) (σ : Store) (Qp : RV → Store → Prop) : Prop :=
  ∃ len : Nat, (Len joints len) ∧ ∃ I : Int → Store → Prop, ∃ μ : Int → Store → Nat, (I 0 σ) ∧ ∀ n : Int, ∀ σ' : Store, (I n σ') → bcase (decide (n < (len : Int))) (∃ len1 : Nat, (Idx Tryz.prog σ' joints 4 len1) ∧ ((0 : Int) ≤ n) ∧ (n < (len1 : Int)) ∧ ∃ row : List D, (Row σ' joints (Int.toNat n) row) ∧ ∃ n1 : Int, ∃ n2 : Int, ∃ n3 : Int, ∃ n4 : Int, ((List.take 4 row) = ([.int .i64 n1, .int .i64 n2, .int .i64 n3, .int .i64 n4] : List D)) ∧ bcase (n1 == section_) (bcase (n2 == end_) (Qp (.tup [.one (.int .i64 n3), .one (.int .i64 n4), .one (.bool true)]) σ') (bcase (n3 == section_) (bcase (n4 == end_) (Qp (.tup [.one (.int .i64 n1), .one (.int .i64 n2), .one (.bool true)]) σ') ((I (w64 (n + 1)) σ') ∧ ((μ (w64 (n + 1)) σ') < (μ n σ')))) ((I (w64 (n + 1)) σ') ∧ ((μ (w64 (n + 1)) σ') < (μ n σ'))))) (bcase (n3 == section_) (bcase (n4 == end_) (Qp (.tup [.one (.int .i64 n1), .one (.int .i64 n2), .one (.bool true)]) σ') ((I (w64 (n + 1)) σ') ∧ ((μ (w64 (n + 1)) σ') < (μ n σ')))) ((I (w64 (n + 1)) σ') ∧ ((μ (w64 (n + 1)) σ') < (μ n σ'))))) (Qp (.tup [.one (.int .i64 0), .one (.int .i64 0), .one (.bool false)]) σ')
theorem W_topo_Next (joints : D) (section_ : Int) (end_ : Int) (σ : Store) (Qp : RV → Store → Prop) (h : V_topo_Next joints section_ end_ σ Qp) : DCalls Tryz.prog n_topo_Next [.one joints, .one (.int .i64 section_), .one (.int .i64 end_)] σ Qp :=
  dcalls_of_body mixed (by kernel_rfl) Tryz.func72 an_topo_Next ((show V_topo_Next joints section_ end_ σ Qp = dbody Tryz.prog Tryz.f72 an_topo_Next [.one joints, .one (.int .i64 section_), .one (.int .i64 end_)] σ Qp by kernel_rfl) ▸ h)
def an_conf_plan_flank : Ann := { esc := [13], cbs := [3], draws := [], loops := [(3, { mods := [(7, SlotSh.one (Sh.any)), (20, SlotSh.one (Sh.int IntKind.i64))], keep := [1, 2, 3, 18, 19] }), (8, { mods := [(7, SlotSh.one (Sh.any)), (36, SlotSh.one (Sh.int IntKind.i64))], keep := [1, 2, 3, 9, 18, 19, 20, 35] })], joins := [(11, { mods := [], keep := [1, 2, 3, 7, 9, 12, 18, 19, 20, 35, 36] }), (14, { mods := [], keep := [1, 2, 3, 7, 9, 13, 14, 18, 19, 20, 35, 36] })] }
def V_conf_plan_flank (p0 : D) (p1 : D) (p2 : D) (p3 : D) (p4 : D) (p5 : Int) (p6 : Int) (p7 : Int) (p8 : Int) (approach : Int) (path : D) (σ : Store) (Qp : RV → Store → Prop) : Prop :=
  ∃ len : Nat, (Len path len) ∧ ∃ I : D → Int → Store → Prop, ∃ μ : D → Int → Store → Nat, (I .nils 0 σ) ∧ ∀ d : D, ∀ n : Int, ∀ σ' : Store, (I d n σ') → bcase (decide (n < (len : Int))) (∃ len1 : Nat, (Idx Tryz.prog σ' path 3 len1) ∧ ((0 : Int) ≤ n) ∧ (n < (len1 : Int)) ∧ ∃ row : List D, (Row σ' path (Int.toNat n) row) ∧ ∃ n1 : Int, ∃ n2 : Int, ∃ n3 : Int, ((List.take 3 row) = ([.int .i64 n1, .int .i64 n2, .int .i64 n3] : List D)) ∧ DCalls Tryz.prog n_conf_plan_section [.agg [p0, p1, p2, p3, p4, .int .i64 p5, .int .i64 p6, .int .i64 p7, .int .i64 p8], .one (.int .i64 n1)] σ' (fun (r : RV) => fun (σ'1 : Store) => ∃ n4 : Int, ∃ n5 : Int, ∃ n6 : Int, ∃ b : Bool, (r = (.tup [.agg [.int .i64 n4, .int .i64 n5, .int .i64 n6], .one (.bool b)] : RV)) ∧ bcase (!b) ((I d (w64 (n + 1)) σ'1) ∧ ((μ d (w64 (n + 1)) σ'1) < (μ d n σ'))) (DCalls Tryz.prog n_topo_Ends [.one (.int .i64 n4)] σ'1 (fun (r1 : RV) => fun (σ'2 : Store) => ∃ n7 : Int, (r1 = (.a (.one (.int .i64 n7)) : RV)) ∧ ∃ I1 : D → Int → Store → Prop, ∃ μ1 : D → Int → Store → Nat, (I1 d 0 σ'2) ∧ ∀ d1 : D, ∀ n8 : Int, ∀ σ'3 : Store, (I1 d1 n8 σ'3) → bcase (decide (n8 < n7)) (∀ R : Store → Prop, (∀ σ'4 : Store, (DCalls Tryz.prog n_topo_Next [.one p1, .one (.int .i64 n1), .one (.int .i64 n8)] σ'4 (fun (r2 : RV) => fun (σ'5 : Store) => ∃ n9 : Int, ∃ n10 : Int, ∃ b1 : Bool, (r2 = (.tup [.one (.int .i64 n9), .one (.int .i64 n10), .one (.bool b1)] : RV)) ∧ Fw.newObj σ'5 (.live t_int [[.int .i64 0]]) (fun (id : Nat) => fun (σ'6 : Store) => storeEl [.int .i64 n9] σ'6 (.osl id 0 1) 0 0 (fun (σ'7 : Store) => ∃ row1 : List D, (Row σ'7 (.osl id 0 1) 0 row1) ∧ ∃ n11 : Int, ((List.take 1 row1) = ([.int .i64 n11] : List D)) ∧ DCalls Tryz.prog n_conf_plan_section [.agg [p0, p1, p2, p3, p4, .int .i64 p5, .int .i64 p6, .int .i64 p7, .int .i64 p8], .one (.int .i64 n11)] σ'7 (fun (r3 : RV) => fun (σ'8 : Store) => ∃ n12 : Int, ∃ n13 : Int, ∃ n14 : Int, ∃ b2 : Bool, (r3 = (.tup [.agg [.int .i64 n12, .int .i64 n13, .int .i64 n14], .one (.bool b2)] : RV)) ∧ ∀ R1 : Store → Prop, (∀ σ'9 : Store, (∃ row2 : List D, (Row σ'9 (.osl id 0 1) 0 row2) ∧ ∃ n15 : Int, ((List.take 1 row2) = ([.int .i64 n15] : List D)) ∧ Fw.newObj σ'9 (.live t_Need [[.int .i64 n15, .int .i64 (w64 (3 - n10))]]) (fun (id1 : Nat) => fun (σ'10 : Store) => appendTo Tryz.prog σ'10 t_Need 16 d1 (.osl id1 0 1) (fun (d2 : D) => fun (σ'11 : Store) => (([[.int .i64 n1, .int .i64 n2, .int .i64 n3]] : List (List D)) = ([[.int .i64 n1, .int .i64 n2, .int .i64 n3]] : List (List D))) ∧ (I1 d2 (w64 (n8 + 1)) σ'11) ∧ ((μ1 d2 (w64 (n8 + 1)) σ'11) < (μ1 d1 n8 σ'3))))) → R1 σ'9) → bcase (!b1) ((([[.int .i64 n1, .int .i64 n2, .int .i64 n3]] : List (List D)) = ([[.int .i64 n1, .int .i64 n2, .int .i64 n3]] : List (List D))) ∧ (I1 d1 (w64 (n8 + 1)) σ'8) ∧ ((μ1 d1 (w64 (n8 + 1)) σ'8) < (μ1 d1 n8 σ'3))) (bcase (!b2) ((([[.int .i64 n1, .int .i64 n2, .int .i64 n3]] : List (List D)) = ([[.int .i64 n1, .int .i64 n2, .int .i64 n3]] : List (List D))) ∧ (I1 d1 (w64 (n8 + 1)) σ'8) ∧ ((μ1 d1 (w64 (n8 + 1)) σ'8) < (μ1 d1 n8 σ'3))) (bcase (n12 != 1) ((([[.int .i64 n1, .int .i64 n2, .int .i64 n3]] : List (List D)) = ([[.int .i64 n1, .int .i64 n2, .int .i64 n3]] : List (List D))) ∧ (I1 d1 (w64 (n8 + 1)) σ'8) ∧ ((μ1 d1 (w64 (n8 + 1)) σ'8) < (μ1 d1 n8 σ'3))) (bcase (decide (n10 < 1)) ((([[.int .i64 n1, .int .i64 n2, .int .i64 n3]] : List (List D)) = ([[.int .i64 n1, .int .i64 n2, .int .i64 n3]] : List (List D))) ∧ (I1 d1 (w64 (n8 + 1)) σ'8) ∧ ((μ1 d1 (w64 (n8 + 1)) σ'8) < (μ1 d1 n8 σ'3))) (bcase (decide (n10 > 2)) ((([[.int .i64 n1, .int .i64 n2, .int .i64 n3]] : List (List D)) = ([[.int .i64 n1, .int .i64 n2, .int .i64 n3]] : List (List D))) ∧ (I1 d1 (w64 (n8 + 1)) σ'8) ∧ ((μ1 d1 (w64 (n8 + 1)) σ'8) < (μ1 d1 n8 σ'3))) (∃ row2 : List D, (Row σ'8 (.osl id 0 1) 0 row2) ∧ ∃ n15 : Int, ((List.take 1 row2) = ([.int .i64 n15] : List D)) ∧ bcase (n15 == approach) ((([[.int .i64 n1, .int .i64 n2, .int .i64 n3]] : List (List D)) = ([[.int .i64 n1, .int .i64 n2, .int .i64 n3]] : List (List D))) ∧ (I1 d1 (w64 (n8 + 1)) σ'8) ∧ ((μ1 d1 (w64 (n8 + 1)) σ'8) < (μ1 d1 n8 σ'3))) (∃ row3 : List D, (Row σ'8 (.osl id 0 1) 0 row3) ∧ ∃ n16 : Int, ((List.take 1 row3) = ([.int .i64 n16] : List D)) ∧ DCalls Tryz.prog n_conf_has [.one path, .one (.int .i64 n16)] σ'8 (fun (r4 : RV) => fun (σ'9 : Store) => ∃ b3 : Bool, (r4 = (.a (.one (.bool b3)) : RV)) ∧ bcase b3 ((([[.int .i64 n1, .int .i64 n2, .int .i64 n3]] : List (List D)) = ([[.int .i64 n1, .int .i64 n2, .int .i64 n3]] : List (List D))) ∧ (I1 d1 (w64 (n8 + 1)) σ'9) ∧ ((μ1 d1 (w64 (n8 + 1)) σ'9) < (μ1 d1 n8 σ'3))) (DCalls Tryz.prog n_slices_ContainsFunc_Need [.one d1, .one (.fn n_conf_plan_flank_1 [] [(false, [.el (.osl id 0 1) 0 0])])] σ'9 (fun (r5 : RV) => fun (σ'10 : Store) => ∃ b4 : Bool, (r5 = (.a (.one (.bool b4)) : RV)) ∧ bcase b4 ((([[.int .i64 n1, .int .i64 n2, .int .i64 n3]] : List (List D)) = ([[.int .i64 n1, .int .i64 n2, .int .i64 n3]] : List (List D))) ∧ (I1 d1 (w64 (n8 + 1)) σ'10) ∧ ((μ1 d1 (w64 (n8 + 1)) σ'10) < (μ1 d1 n8 σ'3))) ((([[.int .i64 n1, .int .i64 n2, .int .i64 n3]] : List (List D)) = ([[.int .i64 n1, .int .i64 n2, .int .i64 n3]] : List (List D))) ∧ R1 σ'10))))))))))))))) → R σ'4) → bcase (n8 == n2) ((([[.int .i64 n1, .int .i64 n2, .int .i64 n3]] : List (List D)) = ([[.int .i64 n1, .int .i64 n2, .int .i64 n3]] : List (List D))) ∧ (I1 d1 (w64 (n8 + 1)) σ'3) ∧ ((μ1 d1 (w64 (n8 + 1)) σ'3) < (μ1 d1 n8 σ'3))) (bcase (n8 == n3) ((([[.int .i64 n1, .int .i64 n2, .int .i64 n3]] : List (List D)) = ([[.int .i64 n1, .int .i64 n2, .int .i64 n3]] : List (List D))) ∧ (I1 d1 (w64 (n8 + 1)) σ'3) ∧ ((μ1 d1 (w64 (n8 + 1)) σ'3) < (μ1 d1 n8 σ'3))) ((([[.int .i64 n1, .int .i64 n2, .int .i64 n3]] : List (List D)) = ([[.int .i64 n1, .int .i64 n2, .int .i64 n3]] : List (List D))) ∧ R σ'3))) ((I d1 (w64 (n + 1)) σ'3) ∧ ((μ d1 (w64 (n + 1)) σ'3) < (μ d n σ'))))))) (Qp (.a (.one d)) σ')
theorem W_conf_plan_flank (p0 : D) (p1 : D) (p2 : D) (p3 : D) (p4 : D) (p5 : Int) (p6 : Int) (p7 : Int) (p8 : Int) (approach : Int) (path : D) (σ : Store) (Qp : RV → Store → Prop) (h : V_conf_plan_flank p0 p1 p2 p3 p4 p5 p6 p7 p8 approach path σ Qp) : DCalls Tryz.prog n_conf_plan_flank [.agg [p0, p1, p2, p3, p4, .int .i64 p5, .int .i64 p6, .int .i64 p7, .int .i64 p8], .one (.int .i64 approach), .one path] σ Qp :=
  dcalls_of_body mixed (by kernel_rfl) Tryz.func76 an_conf_plan_flank ((show V_conf_plan_flank p0 p1 p2 p3 p4 p5 p6 p7 p8 approach path σ Qp = dbody Tryz.prog Tryz.f76 an_conf_plan_flank [.agg [p0, p1, p2, p3, p4, .int .i64 p5, .int .i64 p6, .int .i64 p7, .int .i64 p8], .one (.int .i64 approach), .one path] σ Qp by kernel_rfl) ▸ h)
def an_slices_Contains_Signal : Ann := { esc := [], cbs := [3], draws := [], loops := [], joins := [] }
def V_slices_Contains_Signal (s : D) (v0 : Int) (v1 : Int) (σ : Store) (Qp : RV → Store → Prop) : Prop :=
  DCalls Tryz.prog n_slices_Index_Signal [.one s, .agg [.int .i64 v0, .int .i64 v1]] σ (fun (r : RV) => fun (σ' : Store) => ∃ n : Int, (r = (.a (.one (.int .i64 n)) : RV)) ∧ Qp (.a (.one (.bool (decide (n ≥ 0))))) σ')
theorem W_slices_Contains_Signal (s : D) (v0 : Int) (v1 : Int) (σ : Store) (Qp : RV → Store → Prop) (h : V_slices_Contains_Signal s v0 v1 σ Qp) : DCalls Tryz.prog n_slices_Contains_Signal [.one s, .agg [.int .i64 v0, .int .i64 v1]] σ Qp :=
  dcalls_of_body mixed (by kernel_rfl) Tryz.func91 an_slices_Contains_Signal ((show V_slices_Contains_Signal s v0 v1 σ Qp = dbody Tryz.prog Tryz.f91 an_slices_Contains_Signal [.one s, .agg [.int .i64 v0, .int .i64 v1]] σ Qp by kernel_rfl) ▸ h)
def an_slices_Index_Signal : Ann := { esc := [], cbs := [3], draws := [(4, { ord := [0, 1, 2, 3, 4, 5], nb := [], av := [], dir := [] })], loops := [(2, { mods := [(8, SlotSh.one (Sh.int IntKind.i64))], keep := [0, 3, 7] })], joins := [] }
def V_slices_Index_Signal (s : D) (v0 : Int) (v1 : Int) (σ : Store) (Qp : RV → Store → Prop) : Prop :=
  ∃ len : Nat, (Len s len) ∧ ∃ I : Int → Store → Prop, ∃ μ : Int → Store → Nat, (I 0 σ) ∧ ∀ n : Int, ∀ σ' : Store, (I n σ') → bcase (decide (n < (len : Int))) (∃ len1 : Nat, (Idx Tryz.prog σ' s 2 len1) ∧ ((0 : Int) ≤ n) ∧ (n < (len1 : Int)) ∧ ∃ row : List D, (Row σ' s (Int.toNat n) row) ∧ ∃ n1 : Int, ∃ n2 : Int, ((List.take 2 row) = ([.int .i64 n1, .int .i64 n2] : List D)) ∧ bcase ((v0 == n1) && (v1 == n2)) (Qp (.a (.one (.int .i64 n))) σ') ((I (w64 (n + 1)) σ') ∧ ((μ (w64 (n + 1)) σ') < (μ n σ')))) (Qp (.a (.one (.int .i64 (-1)))) σ')
theorem W_slices_Index_Signal (s : D) (v0 : Int) (v1 : Int) (σ : Store) (Qp : RV → Store → Prop) (h : V_slices_Index_Signal s v0 v1 σ Qp) : DCalls Tryz.prog n_slices_Index_Signal [.one s, .agg [.int .i64 v0, .int .i64 v1]] σ Qp :=
  dcalls_of_body mixed (by kernel_rfl) Tryz.func101 an_slices_Index_Signal ((show V_slices_Index_Signal s v0 v1 σ Qp = dbody Tryz.prog Tryz.f101 an_slices_Index_Signal [.one s, .agg [.int .i64 v0, .int .i64 v1]] σ Qp by kernel_rfl) ▸ h)
end Go.Proofs.YtcbmibgfmlpobaaGreat
end
section
set_option maxRecDepth 100000
set_option linter.unusedVariables false
namespace Go.Proofs.YtcbmibgfmlpobaaGreat
open Go.Fw Go.Proofs
def an_law15_end : Ann := { esc := [], cbs := [], draws := [], loops := [], joins := [] }
def V_law15_end (σ : Store) (Qp : RV → Store → Prop) : Prop :=
  Fw.newObj σ (.live t_Section [[.int .i64 0, .int .i64 0, .int .i64 1], [.int .i64 0, .int .i64 0, .int .i64 0]]) (fun (id : Nat) => fun (σ' : Store) => Fw.newObj σ' (.live t_Joint [[.int .i64 0, .int .i64 0, .int .i64 1, .int .i64 1]]) (fun (id1 : Nat) => fun (σ'1 : Store) => Fw.newObj σ'1 (.live t_Signal [[.int .i64 1, .int .i64 1]]) (fun (id2 : Nat) => fun (σ'2 : Store) => Fw.newObj σ'2 (.live t_Step [[.int .i64 0, .int .i64 0, .int .i64 1]]) (fun (id3 : Nat) => fun (σ'3 : Store) => Fw.newObj σ'3 (.live t_Route [[.int .i64 0, .int .i64 (-1), .osl id3 0 1, .nils, .nils, .bool false]]) (fun (id4 : Nat) => fun (σ'4 : Store) => Qp (.a (.agg [.osl id 0 2, .osl id1 0 1, .osl id2 0 1, .nils, .osl id4 0 1, .int .i64 2, .int .i64 1, .int .i64 4, .int .i64 1000])) σ'4)))))
theorem W_law15_end (σ : Store) (Qp : RV → Store → Prop) (h : V_law15_end σ Qp) : DCalls Tryz.prog n_law15_end [] σ Qp :=
  dcalls_of_body mixed (by kernel_rfl) Tryz.func5 an_law15_end ((show V_law15_end σ Qp = dbody Tryz.prog Tryz.f5 an_law15_end [] σ Qp by kernel_rfl) ▸ h)
def an_block_Hear : Ann := { esc := [], cbs := [4, 5, 7], draws := [(8, { ord := [0, 1, 2, 3, 4, 5, 6, 7, 8, 9], nb := [], av := [], dir := [] })], loops := [], joins := [] }
def V_block_Hear (c0 : D) (c1 : D) (c2 : D) (c3 : D) (c4 : D) (c5 : Int) (c6 : Int) (c7 : Int) (c8 : Int) (k0 : D) (k1 : D) (k2 : D) (k3 : D) (k4 : D) (k5 : D) (k6 : Bool) (line : Int) (b0 : Int) (b1 : Int) (b2 : Int) (σ : Store) (Qp : RV → Store → Prop) : Prop :=
  DCalls Tryz.prog n_locks_Fits [.agg [c0, c1, c2, c3, c4, .int .i64 c5, .int .i64 c6, .int .i64 c7, .int .i64 c8], .agg [k0, k1, k2, k3, k4, k5, .bool k6]] σ (fun (r : RV) => fun (σ' : Store) => ∃ b : Bool, (r = (.a (.one (.bool b)) : RV)) ∧ bcase (!b) (DCalls Tryz.prog n_block_open [.agg [c0, c1, c2, c3, c4, .int .i64 c5, .int .i64 c6, .int .i64 c7, .int .i64 c8], .agg [k0, k1, k2, k3, k4, k5, .bool k6], .agg [.nils, .nils, .nils, .nils], .one (.int .i64 0)] σ' (fun (r1 : RV) => fun (σ'1 : Store) => ∃ d : D, (r1 = (.a (.one d) : RV)) ∧ (NotNil d) ∧ ∃ s : D, ∃ i : Nat, ∃ off : Nat, (d = (.el s i off : D)) ∧ ∃ row : List D, (Row σ'1 s i row) ∧ ∃ d1 : D, ∃ d2 : D, ∃ d3 : D, ∃ d4 : D, ∃ d5 : D, ∃ d6 : D, ∃ b3 : Bool, ((List.take 7 (List.drop (off + 0) row)) = ([d1, d2, d3, d4, d5, d6, .bool b3] : List D)) ∧ Qp (.tup [.agg [d1, d2, d3, d4, d5, d6, .bool b3], .one (.int .i64 21)]) σ'1)) (DCalls Tryz.prog n_block_section [.agg [c0, c1, c2, c3, c4, .int .i64 c5, .int .i64 c6, .int .i64 c7, .int .i64 c8], .one (.int .i64 line)] σ' (fun (r1 : RV) => fun (σ'1 : Store) => ∃ n : Int, (r1 = (.a (.one (.int .i64 n)) : RV)) ∧ bcase (decide (n < 0)) (DCalls Tryz.prog n_block_open [.agg [c0, c1, c2, c3, c4, .int .i64 c5, .int .i64 c6, .int .i64 c7, .int .i64 c8], .agg [k0, k1, k2, k3, k4, k5, .bool k6], .agg [.nils, .nils, .nils, .nils], .one (.int .i64 0)] σ'1 (fun (r2 : RV) => fun (σ'2 : Store) => ∃ d : D, (r2 = (.a (.one d) : RV)) ∧ (NotNil d) ∧ ∃ s : D, ∃ i : Nat, ∃ off : Nat, (d = (.el s i off : D)) ∧ ∃ row : List D, (Row σ'2 s i row) ∧ ∃ d1 : D, ∃ d2 : D, ∃ d3 : D, ∃ d4 : D, ∃ d5 : D, ∃ d6 : D, ∃ b3 : Bool, ((List.take 7 (List.drop (off + 0) row)) = ([d1, d2, d3, d4, d5, d6, .bool b3] : List D)) ∧ Qp (.tup [.agg [d1, d2, d3, d4, d5, d6, .bool b3], .one (.int .i64 20)]) σ'2)) (bcase (decide ((ite (b2 < (ite (b1 < b0) b1 b0)) b2 (ite (b1 < b0) b1 b0)) < 0)) (DCalls Tryz.prog n_block_open [.agg [c0, c1, c2, c3, c4, .int .i64 c5, .int .i64 c6, .int .i64 c7, .int .i64 c8], .agg [k0, k1, k2, k3, k4, k5, .bool k6], .agg [.nils, .nils, .nils, .nils], .one (.int .i64 0)] σ'1 (fun (r2 : RV) => fun (σ'2 : Store) => ∃ d : D, (r2 = (.a (.one d) : RV)) ∧ (NotNil d) ∧ ∃ s : D, ∃ i : Nat, ∃ off : Nat, (d = (.el s i off : D)) ∧ ∃ row : List D, (Row σ'2 s i row) ∧ ∃ d1 : D, ∃ d2 : D, ∃ d3 : D, ∃ d4 : D, ∃ d5 : D, ∃ d6 : D, ∃ b3 : Bool, ((List.take 7 (List.drop (off + 0) row)) = ([d1, d2, d3, d4, d5, d6, .bool b3] : List D)) ∧ Qp (.tup [.agg [d1, d2, d3, d4, d5, d6, .bool b3], .one (.int .i64 32)]) σ'2)) (bcase (decide ((ite (b2 > (ite (b1 > b0) b1 b0)) b2 (ite (b1 > b0) b1 b0)) > 4294967295)) (DCalls Tryz.prog n_block_open [.agg [c0, c1, c2, c3, c4, .int .i64 c5, .int .i64 c6, .int .i64 c7, .int .i64 c8], .agg [k0, k1, k2, k3, k4, k5, .bool k6], .agg [.nils, .nils, .nils, .nils], .one (.int .i64 0)] σ'1 (fun (r2 : RV) => fun (σ'2 : Store) => ∃ d : D, (r2 = (.a (.one d) : RV)) ∧ (NotNil d) ∧ ∃ s : D, ∃ i : Nat, ∃ off : Nat, (d = (.el s i off : D)) ∧ ∃ row : List D, (Row σ'2 s i row) ∧ ∃ d1 : D, ∃ d2 : D, ∃ d3 : D, ∃ d4 : D, ∃ d5 : D, ∃ d6 : D, ∃ b3 : Bool, ((List.take 7 (List.drop (off + 0) row)) = ([d1, d2, d3, d4, d5, d6, .bool b3] : List D)) ∧ Qp (.tup [.agg [d1, d2, d3, d4, d5, d6, .bool b3], .one (.int .i64 32)]) σ'2)) (DCalls Tryz.prog n_block_open [.agg [c0, c1, c2, c3, c4, .int .i64 c5, .int .i64 c6, .int .i64 c7, .int .i64 c8], .agg [k0, k1, k2, k3, k4, k5, .bool k6], .agg [.nils, .nils, .nils, .nils], .one (.int .i64 0)] σ'1 (fun (r2 : RV) => fun (σ'2 : Store) => ∃ d : D, (r2 = (.a (.one d) : RV)) ∧ (NotNil d) ∧ ∃ s : D, ∃ i : Nat, ∃ off : Nat, (d = (.el s i off : D)) ∧ ∃ row : List D, (Row σ'2 s i row) ∧ ∃ d1 : D, ((List.take 1 (List.drop ((off + 0) + 4) row)) = ([d1] : List D)) ∧ ∃ len : Nat, (Idx Tryz.prog σ'2 d1 8 len) ∧ ((0 : Int) ≤ line) ∧ (line < (len : Int)) ∧ storeEl [.int .i64 b0, .int .i64 b1, .int .i64 b2] σ'2 d1 (Int.toNat line) 4 (fun (σ'3 : Store) => (NotNil d) ∧ ∃ s1 : D, ∃ i1 : Nat, ∃ off1 : Nat, (d = (.el s1 i1 off1 : D)) ∧ ∃ row1 : List D, (Row σ'3 s1 i1 row1) ∧ ∃ d2 : D, ∃ d3 : D, ∃ d4 : D, ∃ d5 : D, ∃ d6 : D, ∃ d7 : D, ∃ b3 : Bool, ((List.take 7 (List.drop (off1 + 0) row1)) = ([d2, d3, d4, d5, d6, d7, .bool b3] : List D)) ∧ Qp (.tup [.agg [d2, d3, d4, d5, d6, d7, .bool b3], .one (.int .i64 0)]) σ'3))))))))
theorem W_block_Hear (c0 : D) (c1 : D) (c2 : D) (c3 : D) (c4 : D) (c5 : Int) (c6 : Int) (c7 : Int) (c8 : Int) (k0 : D) (k1 : D) (k2 : D) (k3 : D) (k4 : D) (k5 : D) (k6 : Bool) (line : Int) (b0 : Int) (b1 : Int) (b2 : Int) (σ : Store) (Qp : RV → Store → Prop) (h : V_block_Hear c0 c1 c2 c3 c4 c5 c6 c7 c8 k0 k1 k2 k3 k4 k5 k6 line b0 b1 b2 σ Qp) : DCalls Tryz.prog n_block_Hear [.agg [c0, c1, c2, c3, c4, .int .i64 c5, .int .i64 c6, .int .i64 c7, .int .i64 c8], .agg [k0, k1, k2, k3, k4, k5, .bool k6], .one (.int .i64 line), .agg [.int .i64 b0, .int .i64 b1, .int .i64 b2]] σ Qp :=
  dcalls_of_body mixed (by kernel_rfl) Tryz.func9 an_block_Hear ((show V_block_Hear c0 c1 c2 c3 c4 c5 c6 c7 c8 k0 k1 k2 k3 k4 k5 k6 line b0 b1 b2 σ Qp = dbody Tryz.prog Tryz.f9 an_block_Hear [.agg [c0, c1, c2, c3, c4, .int .i64 c5, .int .i64 c6, .int .i64 c7, .int .i64 c8], .agg [k0, k1, k2, k3, k4, k5, .bool k6], .one (.int .i64 line), .agg [.int .i64 b0, .int .i64 b1, .int .i64 b2]] σ Qp by kernel_rfl) ▸ h)
def an_locks_change : Ann := { esc := [], cbs := [4, 5], draws := [], loops := [], joins := [(7, { mods := [(12, SlotSh.one (Sh.int IntKind.i64))], keep := [4, 5, 8, 10] })] }
def V_locks_change (c0 : D) (c1 : D) (c2 : D) (c3 : D) (c4 : D) (c5 : Int) (c6 : Int) (c7 : Int) (c8 : Int) (k0 : D) (k1 : D) (k2 : D) (k3 : D) (k4 : D) (k5 : D) (k6 : Bool) (now : Int) (do_ : D) (σ : Store) (Qp : RV → Store → Prop) : Prop :=
  DCalls Tryz.prog n_locks_open [.agg [c0, c1, c2, c3, c4, .int .i64 c5, .int .i64 c6, .int .i64 c7, .int .i64 c8], .agg [k0, k1, k2, k3, k4, k5, .bool k6]] σ (fun (r : RV) => fun (σ' : Store) => ∃ d : D, ∃ b : Bool, (r = (.tup [.one d, .one (.bool b)] : RV)) ∧ ∀ R : Int → Store → Prop, (∀ n : Int, ∀ σ'1 : Store, (bcase (n != 0) (DCalls Tryz.prog n_locks_open [.agg [c0, c1, c2, c3, c4, .int .i64 c5, .int .i64 c6, .int .i64 c7, .int .i64 c8], .agg [k0, k1, k2, k3, k4, k5, .bool k6]] σ'1 (fun (r1 : RV) => fun (σ'2 : Store) => ∃ d1 : D, ∃ b1 : Bool, (r1 = (.tup [.one d1, .one (.bool b1)] : RV)) ∧ (NotNil d1) ∧ ∃ s : D, ∃ i : Nat, ∃ off : Nat, (d1 = (.el s i off : D)) ∧ ∃ row : List D, (Row σ'2 s i row) ∧ ∃ d2 : D, ∃ d3 : D, ∃ d4 : D, ∃ d5 : D, ∃ d6 : D, ∃ d7 : D, ∃ b2 : Bool, ((List.take 7 (List.drop (off + 9) row)) = ([d2, d3, d4, d5, d6, d7, .bool b2] : List D)) ∧ Qp (.tup [.agg [d2, d3, d4, d5, d6, d7, .bool b2], .one (.int .i64 n)]) σ'2)) ((NotNil d) ∧ ∃ s : D, ∃ i : Nat, ∃ off : Nat, (d = (.el s i off : D)) ∧ ∃ row : List D, (Row σ'1 s i row) ∧ ∃ d1 : D, ∃ d2 : D, ∃ d3 : D, ∃ d4 : D, ∃ d5 : D, ∃ d6 : D, ∃ b1 : Bool, ((List.take 7 (List.drop (off + 9) row)) = ([d1, d2, d3, d4, d5, d6, .bool b1] : List D)) ∧ Qp (.tup [.agg [d1, d2, d3, d4, d5, d6, .bool b1], .one (.int .i64 0)]) σ'1)) → R n σ'1) → bcase (!b) ((([[.nils, .nils, .nils, .nils, .nils, .nils, .bool false]] : List (List D)) = ([[.nils, .nils, .nils, .nils, .nils, .nils, .bool false]] : List (List D))) ∧ R 21 σ') (Fw.newObj σ' (.live t_int [[.int .i64 now]]) (fun (id : Nat) => fun (σ'1 : Store) => DCalls Tryz.prog n_locks_times [.one (.int .i64 0), .one (.osl id 0 1)] σ'1 (fun (r1 : RV) => fun (σ'2 : Store) => ∃ b1 : Bool, (r1 = (.a (.one (.bool b1)) : RV)) ∧ bcase (!b1) ((([[.nils, .nils, .nils, .nils, .nils, .nils, .bool false]] : List (List D)) = ([[.nils, .nils, .nils, .nils, .nils, .nils, .bool false]] : List (List D))) ∧ R 32 σ'2) (∃ f : FuncId, ∃ a : List (Bool × (List D)), ∃ b2 : List (Bool × (List D)), ∃ as0' : List A, ∃ bs : List A, (do_ = (.fn f a b2 : D)) ∧ ((capAs a) = (Option.some as0')) ∧ ((capAs b2) = (Option.some bs)) ∧ DCalls Tryz.prog f (HAppend.hAppend (HAppend.hAppend as0' [.one d]) bs) σ'2 (fun (r2 : RV) => fun (σ'3 : Store) => ∃ n : Int, (r2 = (.a (.one (.int .i64 n)) : RV)) ∧ (([[.nils, .nils, .nils, .nils, .nils, .nils, .bool false]] : List (List D)) = ([[.nils, .nils, .nils, .nils, .nils, .nils, .bool false]] : List (List D))) ∧ R n σ'3))))))
theorem W_locks_change (c0 : D) (c1 : D) (c2 : D) (c3 : D) (c4 : D) (c5 : Int) (c6 : Int) (c7 : Int) (c8 : Int) (k0 : D) (k1 : D) (k2 : D) (k3 : D) (k4 : D) (k5 : D) (k6 : Bool) (now : Int) (do_ : D) (σ : Store) (Qp : RV → Store → Prop) (h : V_locks_change c0 c1 c2 c3 c4 c5 c6 c7 c8 k0 k1 k2 k3 k4 k5 k6 now do_ σ Qp) : DCalls Tryz.prog n_locks_change [.agg [c0, c1, c2, c3, c4, .int .i64 c5, .int .i64 c6, .int .i64 c7, .int .i64 c8], .agg [k0, k1, k2, k3, k4, k5, .bool k6], .one (.int .i64 now), .one do_] σ Qp :=
  dcalls_of_body mixed (by kernel_rfl) Tryz.func13 an_locks_change ((show V_locks_change c0 c1 c2 c3 c4 c5 c6 c7 c8 k0 k1 k2 k3 k4 k5 k6 now do_ σ Qp = dbody Tryz.prog Tryz.f13 an_locks_change [.agg [c0, c1, c2, c3, c4, .int .i64 c5, .int .i64 c6, .int .i64 c7, .int .i64 c8], .agg [k0, k1, k2, k3, k4, k5, .bool k6], .one (.int .i64 now), .one do_] σ Qp by kernel_rfl) ▸ h)
def an_block_open : Ann := { esc := [17], cbs := [4, 5, 6], draws := [(2, { ord := [0, 1, 2, 3, 5, 6, 4, 7, 8, 9, 10, 11, 12, 13, 14, 15], nb := [6], av := [], dir := [] }), (3, { ord := [0, 1, 2, 3, 4, 5, 7, 8, 10, 11, 13, 14, 6, 9, 12, 15, 16, 17, 18, 19, 20, 21, 22, 23, 24, 25, 26, 27, 28, 29, 30, 31], nb := [8, 11, 14], av := [], dir := [] })], loops := [], joins := [] }
def V_block_open (c0 : D) (c1 : D) (c2 : D) (c3 : D) (c4 : D) (c5 : Int) (c6 : Int) (c7 : Int) (c8 : Int) (k0 : D) (k1 : D) (k2 : D) (k3 : D) (k4 : D) (k5 : D) (k6 : Bool) (v0 : D) (v1 : D) (v2 : D) (v3 : D) (now : Int) (σ : Store) (Qp : RV → Store → Prop) : Prop :=
  Fw.newObj σ (.live t_block_desk [[k0, k1, k2, k3, k4, k5, .bool k6, c0, c1, c2, c3, c4, .int .i64 c5, .int .i64 c6, .int .i64 c7, .int .i64 c8, v0, v1, v2, v3, .int .i64 now, .bool k6]]) (fun (id : Nat) => fun (σ' : Store) => DCalls Tryz.prog n_slices_Clone_int [.one k0] σ' (fun (r : RV) => fun (σ'1 : Store) => ∃ d : D, (r = (.a (.one d) : RV)) ∧ DCalls Tryz.prog n_slices_Clone_LineState [.one k4] σ'1 (fun (r1 : RV) => fun (σ'2 : Store) => ∃ d1 : D, (r1 = (.a (.one d1) : RV)) ∧ storeEl [d] σ'2 (.osl id 0 1) 0 0 (fun (σ'3 : Store) => storeEl [d1] σ'3 (.osl id 0 1) 0 4 (fun (σ'4 : Store) => DCalls Tryz.prog n_slices_Clone_RouteState [.one k1] σ'4 (fun (r2 : RV) => fun (σ'5 : Store) => ∃ d2 : D, (r2 = (.a (.one d2) : RV)) ∧ DCalls Tryz.prog n_slices_Clone_Mover [.one k2] σ'5 (fun (r3 : RV) => fun (σ'6 : Store) => ∃ d3 : D, (r3 = (.a (.one d3) : RV)) ∧ DCalls Tryz.prog n_slices_Clone_Mover [.one k3] σ'6 (fun (r4 : RV) => fun (σ'7 : Store) => ∃ d4 : D, (r4 = (.a (.one d4) : RV)) ∧ DCalls Tryz.prog n_slices_Clone_int [.one k5] σ'7 (fun (r5 : RV) => fun (σ'8 : Store) => ∃ d5 : D, (r5 = (.a (.one d5) : RV)) ∧ storeEl [d2] σ'8 (.osl id 0 1) 0 1 (fun (σ'9 : Store) => storeEl [d3] σ'9 (.osl id 0 1) 0 2 (fun (σ'10 : Store) => storeEl [d4] σ'10 (.osl id 0 1) 0 3 (fun (σ'11 : Store) => storeEl [d5] σ'11 (.osl id 0 1) 0 5 (fun (σ'12 : Store) => Qp (.a (.one (.el (.osl id 0 1) 0 0))) σ'12)))))))))))))
theorem W_block_open (c0 : D) (c1 : D) (c2 : D) (c3 : D) (c4 : D) (c5 : Int) (c6 : Int) (c7 : Int) (c8 : Int) (k0 : D) (k1 : D) (k2 : D) (k3 : D) (k4 : D) (k5 : D) (k6 : Bool) (v0 : D) (v1 : D) (v2 : D) (v3 : D) (now : Int) (σ : Store) (Qp : RV → Store → Prop) (h : V_block_open c0 c1 c2 c3 c4 c5 c6 c7 c8 k0 k1 k2 k3 k4 k5 k6 v0 v1 v2 v3 now σ Qp) : DCalls Tryz.prog n_block_open [.agg [c0, c1, c2, c3, c4, .int .i64 c5, .int .i64 c6, .int .i64 c7, .int .i64 c8], .agg [k0, k1, k2, k3, k4, k5, .bool k6], .agg [v0, v1, v2, v3], .one (.int .i64 now)] σ Qp :=
  dcalls_of_body mixed (by kernel_rfl) Tryz.func17 an_block_open ((show V_block_open c0 c1 c2 c3 c4 c5 c6 c7 c8 k0 k1 k2 k3 k4 k5 k6 v0 v1 v2 v3 now σ Qp = dbody Tryz.prog Tryz.f17 an_block_open [.agg [c0, c1, c2, c3, c4, .int .i64 c5, .int .i64 c6, .int .i64 c7, .int .i64 c8], .agg [k0, k1, k2, k3, k4, k5, .bool k6], .agg [v0, v1, v2, v3], .one (.int .i64 now)] σ Qp by kernel_rfl) ▸ h)
def an_locks_movers : Ann := { esc := [], cbs := [2], draws := [], loops := [(3, { mods := [(16, SlotSh.one (Sh.int IntKind.i64))], keep := [1, 2, 6, 14, 15] })], joins := [] }
def V_locks_movers (c0 : D) (c1 : D) (c2 : D) (c3 : D) (c4 : D) (c5 : Int) (c6 : Int) (c7 : Int) (c8 : Int) (now : Int) (σ : Store) (Qp : RV → Store → Prop) : Prop :=
  ∃ len : Nat, (Len c0 len) ∧ ((0 : Int) ≤ (len : Int)) ∧ ((len : Int) ≤ (len : Int)) ∧ (((16 : Int) * (len : Int)) ≤ (2 ^ 48)) ∧ Fw.newObj σ (.live t_Mover (List.replicate (Int.toNat (len : Int)) [.int .i64 0, .int .i64 0])) (fun (id : Nat) => fun (σ' : Store) => ∃ len1 : Nat, (Len c0 len1) ∧ ∃ I : Int → Store → Prop, ∃ μ : Int → Store → Nat, (I 0 σ') ∧ ∀ n : Int, ∀ σ'1 : Store, (I n σ'1) → bcase (decide (n < (len1 : Int))) (∃ len2 : Nat, (Idx Tryz.prog σ'1 c0 3 len2) ∧ ((0 : Int) ≤ n) ∧ (n < (len2 : Int)) ∧ ∃ row : List D, (Row σ'1 c0 (Int.toNat n) row) ∧ ∃ n1 : Int, ∃ n2 : Int, ∃ n3 : Int, ((List.take 3 row) = ([.int .i64 n1, .int .i64 n2, .int .i64 n3] : List D)) ∧ bcase (n1 == 1) (DCalls Tryz.prog n_mover_Start [.one (.int .i64 now)] σ'1 (fun (r : RV) => fun (σ'2 : Store) => ∃ n4 : Int, ∃ n5 : Int, (r = (.a (.agg [.int .i64 n4, .int .i64 n5]) : RV)) ∧ ∃ len3 : Nat, (Idx Tryz.prog σ'2 (.osl id 0 (Int.toNat (len : Int))) 2 len3) ∧ ((0 : Int) ≤ n) ∧ (n < (len3 : Int)) ∧ storeEl [.int .i64 n4, .int .i64 n5] σ'2 (.osl id 0 (Int.toNat (len : Int))) (Int.toNat n) 0 (fun (σ'3 : Store) => (I (w64 (n + 1)) σ'3) ∧ ((μ (w64 (n + 1)) σ'3) < (μ n σ'1))))) ((I (w64 (n + 1)) σ'1) ∧ ((μ (w64 (n + 1)) σ'1) < (μ n σ'1)))) (Fw.newObj σ'1 (.live t_Mover [[.int .i64 1, .int .i64 now]]) (fun (id1 : Nat) => fun (σ'2 : Store) => ∃ len2 : Nat, (Len c3 len2) ∧ DCalls Tryz.prog n_slices_Repeat_Mover [.one (.osl id1 0 1), .one (.int .i64 (len2 : Int))] σ'2 (fun (r : RV) => fun (σ'3 : Store) => ∃ d : D, (r = (.a (.one d) : RV)) ∧ Qp (.tup [.one (.osl id 0 (Int.toNat (len : Int))), .one d]) σ'3))))
theorem W_locks_movers (c0 : D) (c1 : D) (c2 : D) (c3 : D) (c4 : D) (c5 : Int) (c6 : Int) (c7 : Int) (c8 : Int) (now : Int) (σ : Store) (Qp : RV → Store → Prop) (h : V_locks_movers c0 c1 c2 c3 c4 c5 c6 c7 c8 now σ Qp) : DCalls Tryz.prog n_locks_movers [.agg [c0, c1, c2, c3, c4, .int .i64 c5, .int .i64 c6, .int .i64 c7, .int .i64 c8], .one (.int .i64 now)] σ Qp :=
  dcalls_of_body mixed (by kernel_rfl) Tryz.func21 an_locks_movers ((show V_locks_movers c0 c1 c2 c3 c4 c5 c6 c7 c8 now σ Qp = dbody Tryz.prog Tryz.f21 an_locks_movers [.agg [c0, c1, c2, c3, c4, .int .i64 c5, .int .i64 c6, .int .i64 c7, .int .i64 c8], .one (.int .i64 now)] σ Qp by kernel_rfl) ▸ h)
def an_conf_Locks : Ann := { esc := [], cbs := [2], draws := [], loops := [(6, { mods := [(6, SlotSh.one (Sh.any)), (31, SlotSh.one (Sh.int IntKind.i64))], keep := [5, 29, 30] }), (11, { mods := [(6, SlotSh.one (Sh.any)), (44, SlotSh.one (Sh.int IntKind.i64))], keep := [42, 43] })], joins := [(3, { mods := [], keep := [1, 2] })] }
def V_conf_Locks (c0 : D) (c1 : D) (c2 : D) (c3 : D) (c4 : D) (c5 : Int) (c6 : Int) (c7 : Int) (c8 : Int) (r : Int) (σ : Store) (Qp : RV → Store → Prop) : Prop :=
  ∀ R : Store → Prop, (∀ σ' : Store, (∃ len : Nat, (Idx Tryz.prog σ' c4 6 len) ∧ ((0 : Int) ≤ r) ∧ (r < (len : Int)) ∧ ∃ row : List D, (Row σ' c4 (Int.toNat r) row) ∧ ∃ n : Int, ∃ n1 : Int, ∃ d : D, ∃ d1 : D, ∃ d2 : D, ∃ b : Bool, ((List.take 6 row) = ([.int .i64 n, .int .i64 n1, d, d1, d2, .bool b] : List D)) ∧ DCalls Tryz.prog n_slices_Clone_int [.one d2] σ' (fun (r1 : RV) => fun (σ'1 : Store) => ∃ d3 : D, (r1 = (.a (.one d3) : RV)) ∧ ∃ len1 : Nat, (Len d len1) ∧ ∃ I : D → Int → Store → Prop, ∃ μ : D → Int → Store → Nat, (I d3 0 σ'1) ∧ ∀ d4 : D, ∀ n2 : Int, ∀ σ'2 : Store, (I d4 n2 σ'2) → bcase (decide (n2 < (len1 : Int))) (∃ len2 : Nat, (Idx Tryz.prog σ'2 d 3 len2) ∧ ((0 : Int) ≤ n2) ∧ (n2 < (len2 : Int)) ∧ ∃ row1 : List D, (Row σ'2 d (Int.toNat n2) row1) ∧ ∃ n3 : Int, ∃ n4 : Int, ∃ n5 : Int, ((List.take 3 row1) = ([.int .i64 n3, .int .i64 n4, .int .i64 n5] : List D)) ∧ Fw.newObj σ'2 (.live t_int [[.int .i64 n3]]) (fun (id : Nat) => fun (σ'3 : Store) => appendTo Tryz.prog σ'3 t_int 8 d4 (.osl id 0 1) (fun (d5 : D) => fun (σ'4 : Store) => (([[.int .i64 n, .int .i64 n1, d, d1, d2, .bool b]] : List (List D)) = ([[.int .i64 n, .int .i64 n1, d, d1, d2, .bool b]] : List (List D))) ∧ (I d5 (w64 (n2 + 1)) σ'4) ∧ ((μ d5 (w64 (n2 + 1)) σ'4) < (μ d4 n2 σ'2))))) (∃ len2 : Nat, (Len d1 len2) ∧ ∃ I1 : D → Int → Store → Prop, ∃ μ1 : D → Int → Store → Nat, (I1 d4 0 σ'2) ∧ ∀ d5 : D, ∀ n3 : Int, ∀ σ'3 : Store, (I1 d5 n3 σ'3) → bcase (decide (n3 < (len2 : Int))) (∃ len3 : Nat, (Idx Tryz.prog σ'3 d1 2 len3) ∧ ((0 : Int) ≤ n3) ∧ (n3 < (len3 : Int)) ∧ ∃ row1 : List D, (Row σ'3 d1 (Int.toNat n3) row1) ∧ ∃ n4 : Int, ∃ n5 : Int, ((List.take 2 row1) = ([.int .i64 n4, .int .i64 n5] : List D)) ∧ Fw.newObj σ'3 (.live t_int [[.int .i64 n4]]) (fun (id : Nat) => fun (σ'4 : Store) => appendTo Tryz.prog σ'4 t_int 8 d5 (.osl id 0 1) (fun (d6 : D) => fun (σ'5 : Store) => (I1 d6 (w64 (n3 + 1)) σ'5) ∧ ((μ1 d6 (w64 (n3 + 1)) σ'5) < (μ1 d5 n3 σ'3))))) (DCalls Tryz.prog n_slices_Sort_int [.one d5] σ'3 (fun (r2 : RV) => fun (σ'4 : Store) => (r2 = (.tup [] : RV)) ∧ DCalls Tryz.prog n_slices_Compact_int [.one d5] σ'4 (fun (r3 : RV) => fun (σ'5 : Store) => ∃ d6 : D, (r3 = (.a (.one d6) : RV)) ∧ Qp (.a (.one d6)) σ'5)))))) → R σ') → bcase (decide (r < 0)) (Qp (.a (.one .nils)) σ) (∃ len : Nat, (Len c4 len) ∧ bcase (decide (r ≥ (len : Int))) (Qp (.a (.one .nils)) σ) (R σ))
theorem W_conf_Locks (c0 : D) (c1 : D) (c2 : D) (c3 : D) (c4 : D) (c5 : Int) (c6 : Int) (c7 : Int) (c8 : Int) (r : Int) (σ : Store) (Qp : RV → Store → Prop) (h : V_conf_Locks c0 c1 c2 c3 c4 c5 c6 c7 c8 r σ Qp) : DCalls Tryz.prog n_conf_Locks [.agg [c0, c1, c2, c3, c4, .int .i64 c5, .int .i64 c6, .int .i64 c7, .int .i64 c8], .one (.int .i64 r)] σ Qp :=
  dcalls_of_body mixed (by kernel_rfl) Tryz.func25 an_conf_Locks ((show V_conf_Locks c0 c1 c2 c3 c4 c5 c6 c7 c8 r σ Qp = dbody Tryz.prog Tryz.f25 an_conf_Locks [.agg [c0, c1, c2, c3, c4, .int .i64 c5, .int .i64 c6, .int .i64 c7, .int .i64 c8], .one (.int .i64 r)] σ Qp by kernel_rfl) ▸ h)
def an_mover_Command : Ann := { esc := [], cbs := [], draws := [], loops := [], joins := [] }
def V_mover_Command (m0 : Int) (m1 : Int) (now : Int) (cmd : Int) (σ : Store) (Qp : RV → Store → Prop) : Prop :=
  bcase (m0 != cmd) (Qp (.a (.agg [.int .i64 cmd, .int .i64 now])) σ) (Qp (.a (.agg [.int .i64 m0, .int .i64 m1])) σ)
theorem W_mover_Command (m0 : Int) (m1 : Int) (now : Int) (cmd : Int) (σ : Store) (Qp : RV → Store → Prop) (h : V_mover_Command m0 m1 now cmd σ Qp) : DCalls Tryz.prog n_mover_Command [.agg [.int .i64 m0, .int .i64 m1], .one (.int .i64 now), .one (.int .i64 cmd)] σ Qp :=
  dcalls_of_body mixed (by kernel_rfl) Tryz.func29 an_mover_Command ((show V_mover_Command m0 m1 now cmd σ Qp = dbody Tryz.prog Tryz.f29 an_mover_Command [.agg [.int .i64 m0, .int .i64 m1], .one (.int .i64 now), .one (.int .i64 cmd)] σ Qp by kernel_rfl) ▸ h)
def an_slices_Concat_Mover : Ann := { esc := [], cbs := [], draws := [], loops := [(3, { mods := [(3, SlotSh.one (Sh.int IntKind.i64)), (11, SlotSh.one (Sh.int IntKind.i64))], keep := [0, 9, 10] }), (11, { mods := [(6, SlotSh.one (Sh.any)), (27, SlotSh.one (Sh.int IntKind.i64))], keep := [25, 26] })], joins := [] }
def V_slices_Concat_Mover (slices : D) (σ : Store) (Qp : RV → Store → Prop) : Prop :=
  ∃ len : Nat, (Len slices len) ∧ ∃ I : Int → Int → Store → Prop, ∃ μ : Int → Int → Store → Nat, (I 0 0 σ) ∧ ∀ n : Int, ∀ n1 : Int, ∀ σ' : Store, (I n n1 σ') → bcase (decide (n1 < (len : Int))) (∃ len1 : Nat, (Idx Tryz.prog σ' slices 1 len1) ∧ ((0 : Int) ≤ n1) ∧ (n1 < (len1 : Int)) ∧ ∃ row : List D, (Row σ' slices (Int.toNat n1) row) ∧ ∃ d : D, ((List.take 1 row) = ([d] : List D)) ∧ ∃ len2 : Nat, (Len d len2) ∧ bcase (decide ((w64 (n + (len2 : Int))) < 0)) False ((I (w64 (n + (len2 : Int))) (w64 (n1 + 1)) σ') ∧ ((μ (w64 (n + (len2 : Int))) (w64 (n1 + 1)) σ') < (μ n n1 σ')))) (DCalls Tryz.prog n_slices_Grow_Mover [.one .nils, .one (.int .i64 n)] σ' (fun (r : RV) => fun (σ'1 : Store) => ∃ d : D, (r = (.a (.one d) : RV)) ∧ ∃ len1 : Nat, (Len slices len1) ∧ ∃ I1 : D → Int → Store → Prop, ∃ μ1 : D → Int → Store → Nat, (I1 d 0 σ'1) ∧ ∀ d1 : D, ∀ n2 : Int, ∀ σ'2 : Store, (I1 d1 n2 σ'2) → bcase (decide (n2 < (len1 : Int))) (∃ len2 : Nat, (Idx Tryz.prog σ'2 slices 1 len2) ∧ ((0 : Int) ≤ n2) ∧ (n2 < (len2 : Int)) ∧ ∃ row : List D, (Row σ'2 slices (Int.toNat n2) row) ∧ ∃ d2 : D, ((List.take 1 row) = ([d2] : List D)) ∧ appendTo Tryz.prog σ'2 t_Mover 16 d1 d2 (fun (d3 : D) => fun (σ'3 : Store) => (I1 d3 (w64 (n2 + 1)) σ'3) ∧ ((μ1 d3 (w64 (n2 + 1)) σ'3) < (μ1 d1 n2 σ'2)))) (Qp (.a (.one d1)) σ'2)))
theorem W_slices_Concat_Mover (slices : D) (σ : Store) (Qp : RV → Store → Prop) (h : V_slices_Concat_Mover slices σ Qp) : DCalls Tryz.prog n_slices_Concat_Mover [.one slices] σ Qp :=
  dcalls_of_body mixed (by kernel_rfl) Tryz.func33 an_slices_Concat_Mover ((show V_slices_Concat_Mover slices σ Qp = dbody Tryz.prog Tryz.f33 an_slices_Concat_Mover [.one slices] σ Qp by kernel_rfl) ▸ h)
def an_slices_Clone_Mover : Ann := { esc := [], cbs := [], draws := [], loops := [], joins := [] }
def V_slices_Clone_Mover (s : D) (σ : Store) (Qp : RV → Store → Prop) : Prop :=
  ∃ b : Bool, (IsNil .sl s b) ∧ bcase (b != false) (Qp (.a (.one .nils)) σ) (Fw.newObj σ (.live t_Mover []) (fun (id : Nat) => fun (σ' : Store) => appendTo Tryz.prog σ' t_Mover 16 (.osl id 0 0) s (fun (d : D) => fun (σ'1 : Store) => Qp (.a (.one d)) σ'1)))
theorem W_slices_Clone_Mover (s : D) (σ : Store) (Qp : RV → Store → Prop) (h : V_slices_Clone_Mover s σ Qp) : DCalls Tryz.prog n_slices_Clone_Mover [.one s] σ Qp :=
  dcalls_of_body mixed (by kernel_rfl) Tryz.func37 an_slices_Clone_Mover ((show V_slices_Clone_Mover s σ Qp = dbody Tryz.prog Tryz.f37 an_slices_Clone_Mover [.one s] σ Qp by kernel_rfl) ▸ h)
def an_block_desk_may : Ann := { esc := [], cbs := [], draws := [(7, { ord := [0, 1, 2, 3, 4, 5, 6, 7, 8, 9, 10, 11, 12, 13, 14, 15, 16, 17, 18, 19, 20, 21, 22, 23, 24, 25, 26, 27], nb := [], av := [], dir := [] })], loops := [(2, { mods := [(15, SlotSh.one (Sh.int IntKind.i64))], keep := [0, 1, 2, 13, 14] })], joins := [] }
def V_block_desk_may (d : D) (l : D) (s : Int) (σ : Store) (Qp : RV → Store → Prop) : Prop :=
  (NotNil d) ∧ ∃ s1 : D, ∃ i : Nat, ∃ off : Nat, (d = (.el s1 i off : D)) ∧ ∃ row : List D, (Row σ s1 i row) ∧ ∃ d1 : D, ((List.take 1 (List.drop ((off + 0) + 1) row)) = ([d1] : List D)) ∧ ∃ len : Nat, (Len d1 len) ∧ ∃ I : Int → Store → Prop, ∃ μ : Int → Store → Nat, (I 0 σ) ∧ ∀ n : Int, ∀ σ' : Store, (I n σ') → bcase (decide (n < (len : Int))) (∃ len1 : Nat, (Idx Tryz.prog σ' d1 4 len1) ∧ ((0 : Int) ≤ n) ∧ (n < (len1 : Int)) ∧ ∃ row1 : List D, (Row σ' d1 (Int.toNat n) row1) ∧ ∃ n1 : Int, ∃ n2 : Int, ∃ n3 : Int, ∃ n4 : Int, ((List.take 4 row1) = ([.int .i64 n1, .int .i64 n2, .int .i64 n3, .int .i64 n4] : List D)) ∧ bcase (n1 != 0) ((NotNil d) ∧ ∃ s2 : D, ∃ i1 : Nat, ∃ off1 : Nat, (d = (.el s2 i1 off1 : D)) ∧ ∃ row2 : List D, (Row σ' s2 i1 row2) ∧ ∃ d2 : D, ∃ d3 : D, ∃ d4 : D, ∃ d5 : D, ∃ d6 : D, ∃ n5 : Int, ∃ n6 : Int, ∃ n7 : Int, ∃ n8 : Int, ((List.take 9 (List.drop (off1 + 7) row2)) = ([d2, d3, d4, d5, d6, .int .i64 n5, .int .i64 n6, .int .i64 n7, .int .i64 n8] : List D)) ∧ DCalls Tryz.prog n_conf_Approach [.agg [d2, d3, d4, d5, d6, .int .i64 n5, .int .i64 n6, .int .i64 n7, .int .i64 n8], .one (.int .i64 n)] σ' (fun (r : RV) => fun (σ'1 : Store) => ∃ n9 : Int, (r = (.a (.one (.int .i64 n9)) : RV)) ∧ bcase (n9 == s) (Qp (.a (.one (.bool false))) σ'1) ((I (w64 (n + 1)) σ'1) ∧ ((μ (w64 (n + 1)) σ'1) < (μ n σ'))))) ((I (w64 (n + 1)) σ') ∧ ((μ (w64 (n + 1)) σ') < (μ n σ')))) ((NotNil l) ∧ ∃ s2 : D, ∃ i1 : Nat, ∃ off1 : Nat, (l = (.el s2 i1 off1 : D)) ∧ ∃ row1 : List D, (Row σ' s2 i1 row1) ∧ ∃ n1 : Int, ((List.take 1 (List.drop ((off1 + 4) + 0) row1)) = ([.int .i64 n1] : List D)) ∧ (NotNil l) ∧ ∃ s3 : D, ∃ i2 : Nat, ∃ off2 : Nat, (l = (.el s3 i2 off2 : D)) ∧ ∃ row2 : List D, (Row σ' s3 i2 row2) ∧ ∃ n2 : Int, ((List.take 1 (List.drop (off2 + 2) row2)) = ([.int .i64 n2] : List D)) ∧ (NotNil l) ∧ ∃ s4 : D, ∃ i3 : Nat, ∃ off3 : Nat, (l = (.el s4 i3 off3 : D)) ∧ ∃ row3 : List D, (Row σ' s4 i3 row3) ∧ ∃ n3 : Int, ((List.take 1 (List.drop ((off3 + 4) + 1) row3)) = ([.int .i64 n3] : List D)) ∧ bcase (decide (n1 > (ite (n3 > n2) n3 n2))) ((NotNil l) ∧ ∃ s5 : D, ∃ i4 : Nat, ∃ off4 : Nat, (l = (.el s5 i4 off4 : D)) ∧ ∃ row4 : List D, (Row σ' s5 i4 row4) ∧ ∃ n4 : Int, ((List.take 1 (List.drop (off4 + 0) row4)) = ([.int .i64 n4] : List D)) ∧ (NotNil l) ∧ ∃ s6 : D, ∃ i5 : Nat, ∃ off5 : Nat, (l = (.el s6 i5 off5 : D)) ∧ ∃ row5 : List D, (Row σ' s6 i5 row5) ∧ ∃ n5 : Int, ((List.take 1 (List.drop (off5 + 1) row5)) = ([.int .i64 n5] : List D)) ∧ Qp (.a (.one (.bool (n4 == n5)))) σ') (Qp (.a (.one (.bool false))) σ'))
theorem W_block_desk_may (d : D) (l : D) (s : Int) (σ : Store) (Qp : RV → Store → Prop) (h : V_block_desk_may d l s σ Qp) : DCalls Tryz.prog n_block_desk_may [.one d, .one l, .one (.int .i64 s)] σ Qp :=
  dcalls_of_body mixed (by kernel_rfl) Tryz.func41 an_block_desk_may ((show V_block_desk_may d l s σ Qp = dbody Tryz.prog Tryz.f41 an_block_desk_may [.one d, .one l, .one (.int .i64 s)] σ Qp by kernel_rfl) ▸ h)
def an_slices_Repeat_Mover : Ann := { esc := [], cbs := [], draws := [(9, { ord := [0, 1, 2, 3, 4, 5, 6, 7, 8, 9], nb := [], av := [], dir := [] })], loops := [(8, { mods := [(8, SlotSh.one (Sh.int IntKind.i64))], keep := [7] })], joins := [(3, { mods := [], keep := [0, 1] }), (6, { mods := [], keep := [0, 6] })] }
def V_slices_Repeat_Mover (x : D) (count : Int) (σ : Store) (Qp : RV → Store → Prop) : Prop :=
  ∀ R : Store → Prop, (∀ σ' : Store, (∃ len : Nat, (Len x len) ∧ DCalls Tryz.prog n_math_bits_Mul [.one (.int .u64 (IntKind.wrap .u64 (len : Int))), .one (.int .u64 (IntKind.wrap .u64 count))] σ' (fun (r : RV) => fun (σ'1 : Store) => ∃ n : Int, ∃ n1 : Int, (r = (.tup [.one (.int .u64 n), .one (.int .u64 n1)] : RV)) ∧ ∀ R1 : Store → Prop, (∀ σ'2 : Store, (((0 : Int) ≤ (w64 n1)) ∧ ((w64 n1) ≤ (w64 n1)) ∧ (((16 : Int) * (w64 n1)) ≤ (2 ^ 48)) ∧ Fw.newObj σ'2 (.live t_Mover (List.replicate (Int.toNat (w64 n1)) [.int .i64 0, .int .i64 0])) (fun (id : Nat) => fun (σ'3 : Store) => copyTo Tryz.prog σ'3 t_Mover (.osl id 0 (Int.toNat (w64 n1))) x (fun (n2 : Int) => fun (σ'4 : Store) => ∃ I : Int → Store → Prop, ∃ μ : Int → Store → Nat, (I n2 σ'4) ∧ ∀ n3 : Int, ∀ σ'5 : Store, (I n3 σ'5) → ∃ len1 : Nat, (Len (.osl id 0 (Int.toNat (w64 n1))) len1) ∧ bcase (decide (n3 < (len1 : Int))) (∃ len2 : Nat, (IdxN Tryz.prog σ'5 (.osl id 0 (Int.toNat (w64 n1))) 2 len2) ∧ ((0 : Int) ≤ n3) ∧ (n3 ≤ (len2 : Int)) ∧ ∃ len3 : Nat, (IdxN Tryz.prog σ'5 (.osl id 0 (Int.toNat (w64 n1))) 2 len3) ∧ ((0 : Int) ≤ 0) ∧ ((0 : Int) ≤ n3) ∧ (n3 ≤ (len3 : Int)) ∧ copyTo Tryz.prog σ'5 t_Mover (.osl id (0 + (Int.toNat n3)) (len2 - (Int.toNat n3))) (.osl id 0 ((Int.toNat n3) - 0)) (fun (n4 : Int) => fun (σ'6 : Store) => (I (w64 (n3 + n4)) σ'6) ∧ ((μ (w64 (n3 + n4)) σ'6) < (μ n3 σ'5)))) (Qp (.a (.one (.osl id 0 (Int.toNat (w64 n1))))) σ'5)))) → R1 σ'2) → bcase (decide (n > 0)) False (bcase (decide (n1 > 9223372036854775807)) False (R1 σ'1)))) → R σ') → bcase (decide (count < 0)) False (R σ)
theorem W_slices_Repeat_Mover (x : D) (count : Int) (σ : Store) (Qp : RV → Store → Prop) (h : V_slices_Repeat_Mover x count σ Qp) : DCalls Tryz.prog n_slices_Repeat_Mover [.one x, .one (.int .i64 count)] σ Qp :=
  dcalls_of_body mixed (by kernel_rfl) Tryz.func45 an_slices_Repeat_Mover ((show V_slices_Repeat_Mover x count σ Qp = dbody Tryz.prog Tryz.f45 an_slices_Repeat_Mover [.one x, .one (.int .i64 count)] σ Qp by kernel_rfl) ▸ h)
def an_locks_desk_inherits : Ann := { esc := [], cbs := [], draws := [(5, { ord := [0, 1, 2, 3, 4, 5, 6, 7, 8, 9, 10, 11, 12, 13, 14, 15, 16, 17, 18], nb := [], av := [], dir := [] })], loops := [], joins := [] }
def V_locks_desk_inherits (d : D) (r : Int) (section_ : Int) (σ : Store) (Qp : RV → Store → Prop) : Prop :=
  (NotNil d) ∧ ∃ s : D, ∃ i : Nat, ∃ off : Nat, (d = (.el s i off : D)) ∧ ∃ row : List D, (Row σ s i row) ∧ ∃ d1 : D, ((List.take 1 (List.drop ((off + 9) + 0) row)) = ([d1] : List D)) ∧ ∃ len : Nat, (Idx Tryz.prog σ d1 1 len) ∧ ((0 : Int) ≤ section_) ∧ (section_ < (len : Int)) ∧ ∃ row1 : List D, (Row σ d1 (Int.toNat section_) row1) ∧ ∃ n : Int, ((List.take 1 row1) = ([.int .i64 n] : List D)) ∧ bcase (decide ((w64 (n - 1)) < 0)) (Qp (.a (.one (.bool false))) σ) (bcase ((w64 (n - 1)) == r) (Qp (.a (.one (.bool false))) σ) ((NotNil d) ∧ ∃ s1 : D, ∃ i1 : Nat, ∃ off1 : Nat, (d = (.el s1 i1 off1 : D)) ∧ ∃ row2 : List D, (Row σ s1 i1 row2) ∧ ∃ d2 : D, ((List.take 1 (List.drop ((off1 + 0) + 4) row2)) = ([d2] : List D)) ∧ ∃ len1 : Nat, (Idx Tryz.prog σ d2 6 len1) ∧ ((0 : Int) ≤ (w64 (n - 1))) ∧ ((w64 (n - 1)) < (len1 : Int)) ∧ ∃ row3 : List D, (Row σ d2 (Int.toNat (w64 (n - 1))) row3) ∧ ∃ n1 : Int, ∃ n2 : Int, ∃ d3 : D, ∃ d4 : D, ∃ d5 : D, ∃ b : Bool, ((List.take 6 row3) = ([.int .i64 n1, .int .i64 n2, d3, d4, d5, .bool b] : List D)) ∧ (NotNil d) ∧ ∃ s2 : D, ∃ i2 : Nat, ∃ off2 : Nat, (d = (.el s2 i2 off2 : D)) ∧ ∃ row4 : List D, (Row σ s2 i2 row4) ∧ ∃ d6 : D, ((List.take 1 (List.drop ((off2 + 0) + 4) row4)) = ([d6] : List D)) ∧ ∃ len2 : Nat, (Idx Tryz.prog σ d6 6 len2) ∧ ((0 : Int) ≤ r) ∧ (r < (len2 : Int)) ∧ ∃ row5 : List D, (Row σ d6 (Int.toNat r) row5) ∧ ∃ n3 : Int, ((List.take 1 row5) = ([.int .i64 n3] : List D)) ∧ bcase (n2 == n3) (DCalls Tryz.prog n_slices_Contains_int [.one d5, .one (.int .i64 section_)] σ (fun (r1 : RV) => fun (σ' : Store) => ∃ b1 : Bool, (r1 = (.a (.one (.bool b1)) : RV)) ∧ Qp (.a (.one (.bool b1))) σ')) (Qp (.a (.one (.bool false))) σ)))
theorem W_locks_desk_inherits (d : D) (r : Int) (section_ : Int) (σ : Store) (Qp : RV → Store → Prop) (h : V_locks_desk_inherits d r section_ σ Qp) : DCalls Tryz.prog n_locks_desk_inherits [.one d, .one (.int .i64 r), .one (.int .i64 section_)] σ Qp :=
  dcalls_of_body mixed (by kernel_rfl) Tryz.func50 an_locks_desk_inherits ((show V_locks_desk_inherits d r section_ σ Qp = dbody Tryz.prog Tryz.f50 an_locks_desk_inherits [.one d, .one (.int .i64 r), .one (.int .i64 section_)] σ Qp by kernel_rfl) ▸ h)
def an_mover_Crossings_1 : Ann := { esc := [], cbs := [2], draws := [], loops := [], joins := [] }
def V_mover_Crossings_1 (s0 : Int) (s1 : Int) (s2 : Int) (a1 : D) (σ : Store) (Qp : RV → Store → Prop) : Prop :=
  ∃ s : D, ∃ i : Nat, ∃ off : Nat, (a1 = (.el s i off : D)) ∧ ∃ row : List D, (Row σ s i row) ∧ ∃ n : Int, ((List.take 1 (List.drop off row)) = ([.int .i64 n] : List D)) ∧ Qp (.a (.one (.bool (s0 == n)))) σ
theorem W_mover_Crossings_1 (s0 : Int) (s1 : Int) (s2 : Int) (a1 : D) (σ : Store) (Qp : RV → Store → Prop) (h : V_mover_Crossings_1 s0 s1 s2 a1 σ Qp) : DCalls Tryz.prog n_mover_Crossings_1 [.agg [.int .i64 s0, .int .i64 s1, .int .i64 s2], .one a1] σ Qp :=
  dcalls_of_body mixed (by kernel_rfl) Tryz.func54 an_mover_Crossings_1 ((show V_mover_Crossings_1 s0 s1 s2 a1 σ Qp = dbody Tryz.prog Tryz.f54 an_mover_Crossings_1 [.agg [.int .i64 s0, .int .i64 s1, .int .i64 s2], .one a1] σ Qp by kernel_rfl) ▸ h)
def an_conf_plan_route : Ann := { esc := [], cbs := [2, 3], draws := [(3, { ord := [0, 1, 2, 3, 4, 6, 7, 5, 8, 9, 10, 11], nb := [1, 2, 7], av := [], dir := [] }), (5, { ord := [0, 1, 2, 3, 4, 5, 6, 7], nb := [1], av := [], dir := [] })], loops := [], joins := [] }
def V_conf_plan_route (p0 : D) (p1 : D) (p2 : D) (p3 : D) (p4 : D) (p5 : Int) (p6 : Int) (p7 : Int) (p8 : Int) (r0 : Int) (r1 : Int) (r2 : D) (r3 : D) (r4 : D) (r5 : Bool) (σ : Store) (Qp : RV → Store → Prop) : Prop :=
  DCalls Tryz.prog n_conf_plan_path [.agg [p0, p1, p2, p3, p4, .int .i64 p5, .int .i64 p6, .int .i64 p7, .int .i64 p8], .agg [.int .i64 r0, .int .i64 r1, r2, r3, r4, .bool r5]] σ (fun (r : RV) => fun (σ' : Store) => ∃ b : Bool, (r = (.a (.one (.bool b)) : RV)) ∧ bcase (!b) (Qp (.a (.one (.int .i64 9))) σ') (DCalls Tryz.prog n_conf_plan_approach [.agg [p0, p1, p2, p3, p4, .int .i64 p5, .int .i64 p6, .int .i64 p7, .int .i64 p8], .agg [.int .i64 r0, .int .i64 r1, r2, r3, r4, .bool r5]] σ' (fun (r6 : RV) => fun (σ'1 : Store) => ∃ n : Int, (r6 = (.a (.one (.int .i64 n)) : RV)) ∧ DCalls Tryz.prog n_conf_plan_flank [.agg [p0, p1, p2, p3, p4, .int .i64 p5, .int .i64 p6, .int .i64 p7, .int .i64 p8], .one (.int .i64 n), .one r2] σ'1 (fun (r7 : RV) => fun (σ'2 : Store) => ∃ d : D, (r7 = (.a (.one d) : RV)) ∧ DCalls Tryz.prog n_slices_Equal_Need [.one r3, .one d] σ'2 (fun (r8 : RV) => fun (σ'3 : Store) => ∃ b1 : Bool, (r8 = (.a (.one (.bool b1)) : RV)) ∧ bcase (!b1) (Qp (.a (.one (.int .i64 10))) σ'3) (DCalls Tryz.prog n_conf_plan_overlap [.agg [p0, p1, p2, p3, p4, .int .i64 p5, .int .i64 p6, .int .i64 p7, .int .i64 p8], .agg [.int .i64 r0, .int .i64 r1, r2, r3, r4, .bool r5]] σ'3 (fun (r9 : RV) => fun (σ'4 : Store) => ∃ d1 : D, (r9 = (.a (.one d1) : RV)) ∧ DCalls Tryz.prog n_slices_Equal_int [.one r4, .one d1] σ'4 (fun (r10 : RV) => fun (σ'5 : Store) => ∃ b2 : Bool, (r10 = (.a (.one (.bool b2)) : RV)) ∧ bcase (!b2) (Qp (.a (.one (.int .i64 11))) σ'5) (Qp (.a (.one (.int .i64 0))) σ'5)))))))))
theorem W_conf_plan_route (p0 : D) (p1 : D) (p2 : D) (p3 : D) (p4 : D) (p5 : Int) (p6 : Int) (p7 : Int) (p8 : Int) (r0 : Int) (r1 : Int) (r2 : D) (r3 : D) (r4 : D) (r5 : Bool) (σ : Store) (Qp : RV → Store → Prop) (h : V_conf_plan_route p0 p1 p2 p3 p4 p5 p6 p7 p8 r0 r1 r2 r3 r4 r5 σ Qp) : DCalls Tryz.prog n_conf_plan_route [.agg [p0, p1, p2, p3, p4, .int .i64 p5, .int .i64 p6, .int .i64 p7, .int .i64 p8], .agg [.int .i64 r0, .int .i64 r1, r2, r3, r4, .bool r5]] σ Qp :=
  dcalls_of_body mixed (by kernel_rfl) Tryz.func58 an_conf_plan_route ((show V_conf_plan_route p0 p1 p2 p3 p4 p5 p6 p7 p8 r0 r1 r2 r3 r4 r5 σ Qp = dbody Tryz.prog Tryz.f58 an_conf_plan_route [.agg [p0, p1, p2, p3, p4, .int .i64 p5, .int .i64 p6, .int .i64 p7, .int .i64 p8], .agg [.int .i64 r0, .int .i64 r1, r2, r3, r4, .bool r5]] σ Qp by kernel_rfl) ▸ h)
def an_slices_Index_int : Ann := { esc := [], cbs := [], draws := [], loops := [(2, { mods := [(8, SlotSh.one (Sh.int IntKind.i64))], keep := [0, 1, 7] })], joins := [] }
def V_slices_Index_int (s : D) (v : Int) (σ : Store) (Qp : RV → Store → Prop) : Prop :=
  ∃ len : Nat, (Len s len) ∧ ∃ I : Int → Store → Prop, ∃ μ : Int → Store → Nat, (I 0 σ) ∧ ∀ n : Int, ∀ σ' : Store, (I n σ') → bcase (decide (n < (len : Int))) (∃ len1 : Nat, (Idx Tryz.prog σ' s 1 len1) ∧ ((0 : Int) ≤ n) ∧ (n < (len1 : Int)) ∧ ∃ row : List D, (Row σ' s (Int.toNat n) row) ∧ ∃ n1 : Int, ((List.take 1 row) = ([.int .i64 n1] : List D)) ∧ bcase (v == n1) (Qp (.a (.one (.int .i64 n))) σ') ((I (w64 (n + 1)) σ') ∧ ((μ (w64 (n + 1)) σ') < (μ n σ')))) (Qp (.a (.one (.int .i64 (-1)))) σ')
theorem W_slices_Index_int (s : D) (v : Int) (σ : Store) (Qp : RV → Store → Prop) (h : V_slices_Index_int s v σ Qp) : DCalls Tryz.prog n_slices_Index_int [.one s, .one (.int .i64 v)] σ Qp :=
  dcalls_of_body mixed (by kernel_rfl) Tryz.func65 an_slices_Index_int ((show V_slices_Index_int s v σ Qp = dbody Tryz.prog Tryz.f65 an_slices_Index_int [.one s, .one (.int .i64 v)] σ Qp by kernel_rfl) ▸ h)
def an_slices_IndexFunc_Step : Ann := { esc := [], cbs := [], draws := [], loops := [(2, { mods := [(8, SlotSh.one (Sh.int IntKind.i64))], keep := [0, 1, 7] })], joins := [] }
def V_slices_IndexFunc_Step (s : D) (f : D) (σ : Store) (Qp : RV → Store → Prop) : Prop :=
  ∃ len : Nat, (Len s len) ∧ ∃ I : Int → Store → Prop, ∃ μ : Int → Store → Nat, (I 0 σ) ∧ ∀ n : Int, ∀ σ' : Store, (I n σ') → bcase (decide (n < (len : Int))) (∃ len1 : Nat, (Idx Tryz.prog σ' s 3 len1) ∧ ((0 : Int) ≤ n) ∧ (n < (len1 : Int)) ∧ ∃ row : List D, (Row σ' s (Int.toNat n) row) ∧ ∃ n1 : Int, ∃ n2 : Int, ∃ n3 : Int, ((List.take 3 row) = ([.int .i64 n1, .int .i64 n2, .int .i64 n3] : List D)) ∧ ∃ f1 : FuncId, ∃ a : List (Bool × (List D)), ∃ b : List (Bool × (List D)), ∃ as0' : List A, ∃ bs : List A, (f = (.fn f1 a b : D)) ∧ ((capAs a) = (Option.some as0')) ∧ ((capAs b) = (Option.some bs)) ∧ DCalls Tryz.prog f1 (HAppend.hAppend (HAppend.hAppend as0' [.agg [.int .i64 n1, .int .i64 n2, .int .i64 n3]]) bs) σ' (fun (r : RV) => fun (σ'1 : Store) => ∃ b1 : Bool, (r = (.a (.one (.bool b1)) : RV)) ∧ bcase b1 (Qp (.a (.one (.int .i64 n))) σ'1) ((I (w64 (n + 1)) σ'1) ∧ ((μ (w64 (n + 1)) σ'1) < (μ n σ'))))) (Qp (.a (.one (.int .i64 (-1)))) σ')
theorem W_slices_IndexFunc_Step (s : D) (f : D) (σ : Store) (Qp : RV → Store → Prop) (h : V_slices_IndexFunc_Step s f σ Qp) : DCalls Tryz.prog n_slices_IndexFunc_Step [.one s, .one f] σ Qp :=
  dcalls_of_body mixed (by kernel_rfl) Tryz.func69 an_slices_IndexFunc_Step ((show V_slices_IndexFunc_Step s f σ Qp = dbody Tryz.prog Tryz.f69 an_slices_IndexFunc_Step [.one s, .one f] σ Qp by kernel_rfl) ▸ h)
def an_conf_plan_section : Ann := { esc := [], cbs := [2], draws := [], loops := [], joins := [] }
def V_conf_plan_section (p0 : D) (p1 : D) (p2 : D) (p3 : D) (p4 : D) (p5 : Int) (p6 : Int) (p7 : Int) (p8 : Int) (s : Int) (σ : Store) (Qp : RV → Store → Prop) : Prop :=
  bcase (decide (s < 0)) (Qp (.tup [.agg [.int .i64 0, .int .i64 0, .int .i64 0], .one (.bool false)]) σ) (∃ len : Nat, (Len p0 len) ∧ bcase (decide (s ≥ (len : Int))) (Qp (.tup [.agg [.int .i64 0, .int .i64 0, .int .i64 0], .one (.bool false)]) σ) (∃ len1 : Nat, (Idx Tryz.prog σ p0 3 len1) ∧ ((0 : Int) ≤ s) ∧ (s < (len1 : Int)) ∧ ∃ row : List D, (Row σ p0 (Int.toNat s) row) ∧ ∃ n : Int, ∃ n1 : Int, ∃ n2 : Int, ((List.take 3 row) = ([.int .i64 n, .int .i64 n1, .int .i64 n2] : List D)) ∧ Qp (.tup [.agg [.int .i64 n, .int .i64 n1, .int .i64 n2], .one (.bool true)]) σ))
theorem W_conf_plan_section (p0 : D) (p1 : D) (p2 : D) (p3 : D) (p4 : D) (p5 : Int) (p6 : Int) (p7 : Int) (p8 : Int) (s : Int) (σ : Store) (Qp : RV → Store → Prop) (h : V_conf_plan_section p0 p1 p2 p3 p4 p5 p6 p7 p8 s σ Qp) : DCalls Tryz.prog n_conf_plan_section [.agg [p0, p1, p2, p3, p4, .int .i64 p5, .int .i64 p6, .int .i64 p7, .int .i64 p8], .one (.int .i64 s)] σ Qp :=
  dcalls_of_body mixed (by kernel_rfl) Tryz.func73 an_conf_plan_section ((show V_conf_plan_section p0 p1 p2 p3 p4 p5 p6 p7 p8 s σ Qp = dbody Tryz.prog Tryz.f73 an_conf_plan_section [.agg [p0, p1, p2, p3, p4, .int .i64 p5, .int .i64 p6, .int .i64 p7, .int .i64 p8], .one (.int .i64 s)] σ Qp by kernel_rfl) ▸ h)
def an_slices_Equal_int : Ann := { esc := [], cbs := [], draws := [(6, { ord := [0, 1, 2, 3, 4, 5, 6, 7, 8], nb := [], av := [], dir := [] })], loops := [(4, { mods := [(13, SlotSh.one (Sh.int IntKind.i64))], keep := [0, 1, 12] })], joins := [] }
def V_slices_Equal_int (s1 : D) (s2 : D) (σ : Store) (Qp : RV → Store → Prop) : Prop :=
  ∃ len : Nat, (Len s1 len) ∧ ∃ len1 : Nat, (Len s2 len1) ∧ bcase ((len : Int) != (len1 : Int)) (Qp (.a (.one (.bool false))) σ) (∃ len2 : Nat, (Len s1 len2) ∧ ∃ I : Int → Store → Prop, ∃ μ : Int → Store → Nat, (I 0 σ) ∧ ∀ n : Int, ∀ σ' : Store, (I n σ') → bcase (decide (n < (len2 : Int))) (∃ len3 : Nat, (Idx Tryz.prog σ' s1 1 len3) ∧ ((0 : Int) ≤ n) ∧ (n < (len3 : Int)) ∧ ∃ row : List D, (Row σ' s1 (Int.toNat n) row) ∧ ∃ n1 : Int, ((List.take 1 row) = ([.int .i64 n1] : List D)) ∧ ∃ len4 : Nat, (Idx Tryz.prog σ' s2 1 len4) ∧ ((0 : Int) ≤ n) ∧ (n < (len4 : Int)) ∧ ∃ row1 : List D, (Row σ' s2 (Int.toNat n) row1) ∧ ∃ n2 : Int, ((List.take 1 row1) = ([.int .i64 n2] : List D)) ∧ bcase (n1 != n2) (Qp (.a (.one (.bool false))) σ') ((I (w64 (n + 1)) σ') ∧ ((μ (w64 (n + 1)) σ') < (μ n σ')))) (Qp (.a (.one (.bool true))) σ'))
theorem W_slices_Equal_int (s1 : D) (s2 : D) (σ : Store) (Qp : RV → Store → Prop) (h : V_slices_Equal_int s1 s2 σ Qp) : DCalls Tryz.prog n_slices_Equal_int [.one s1, .one s2] σ Qp :=
  dcalls_of_body mixed (by kernel_rfl) Tryz.func77 an_slices_Equal_int ((show V_slices_Equal_int s1 s2 σ Qp = dbody Tryz.prog Tryz.f77 an_slices_Equal_int [.one s1, .one s2] σ Qp by kernel_rfl) ▸ h)
def an_conf_has : Ann := { esc := [3], cbs := [], draws := [], loops := [], joins := [] }
def V_conf_has (path : D) (section_ : Int) (σ : Store) (Qp : RV → Store → Prop) : Prop :=
  Fw.newObj σ (.live t_int [[.int .i64 section_]]) (fun (id : Nat) => fun (σ' : Store) => DCalls Tryz.prog n_slices_ContainsFunc_Step [.one path, .one (.fn n_conf_has_1 [] [(false, [.el (.osl id 0 1) 0 0])])] σ' (fun (r : RV) => fun (σ'1 : Store) => ∃ b : Bool, (r = (.a (.one (.bool b)) : RV)) ∧ Qp (.a (.one (.bool b))) σ'1))
theorem W_conf_has (path : D) (section_ : Int) (σ : Store) (Qp : RV → Store → Prop) (h : V_conf_has path section_ σ Qp) : DCalls Tryz.prog n_conf_has [.one path, .one (.int .i64 section_)] σ Qp :=
  dcalls_of_body mixed (by kernel_rfl) Tryz.func92 an_conf_has ((show V_conf_has path section_ σ Qp = dbody Tryz.prog Tryz.f92 an_conf_has [.one path, .one (.int .i64 section_)] σ Qp by kernel_rfl) ▸ h)
def an_conf_has_1 : Ann := { esc := [], cbs := [2], draws := [], loops := [], joins := [] }
def V_conf_has_1 (s0 : Int) (s1 : Int) (s2 : Int) (a1 : D) (σ : Store) (Qp : RV → Store → Prop) : Prop :=
  ∃ s : D, ∃ i : Nat, ∃ off : Nat, (a1 = (.el s i off : D)) ∧ ∃ row : List D, (Row σ s i row) ∧ ∃ n : Int, ((List.take 1 (List.drop off row)) = ([.int .i64 n] : List D)) ∧ Qp (.a (.one (.bool (s0 == n)))) σ
theorem W_conf_has_1 (s0 : Int) (s1 : Int) (s2 : Int) (a1 : D) (σ : Store) (Qp : RV → Store → Prop) (h : V_conf_has_1 s0 s1 s2 a1 σ Qp) : DCalls Tryz.prog n_conf_has_1 [.agg [.int .i64 s0, .int .i64 s1, .int .i64 s2], .one a1] σ Qp :=
  dcalls_of_body mixed (by kernel_rfl) Tryz.func102 an_conf_has_1 ((show V_conf_has_1 s0 s1 s2 a1 σ Qp = dbody Tryz.prog Tryz.f102 an_conf_has_1 [.agg [.int .i64 s0, .int .i64 s1, .int .i64 s2], .one a1] σ Qp by kernel_rfl) ▸ h)
end Go.Proofs.YtcbmibgfmlpobaaGreat
end
section
set_option maxRecDepth 100000
set_option linter.unusedVariables false
namespace Go.Proofs.YtcbmibgfmlpobaaGreat
open Go.Fw Go.Proofs
def an_law15_fresh : Ann := { esc := [], cbs := [], draws := [], loops := [(3, { mods := [(8, SlotSh.one (Sh.int IntKind.i64))], keep := [0, 1, 7] })], joins := [] }
def V_law15_fresh (σ : Store) (Qp : RV → Store → Prop) : Prop :=
  DCalls Tryz.prog n_law15_end [] σ (fun (r : RV) => fun (σ' : Store) => ∃ d : D, ∃ d1 : D, ∃ d2 : D, ∃ d3 : D, ∃ d4 : D, ∃ n : Int, ∃ n1 : Int, ∃ n2 : Int, ∃ n3 : Int, (r = (.a (.agg [d, d1, d2, d3, d4, .int .i64 n, .int .i64 n1, .int .i64 n2, .int .i64 n3]) : RV)) ∧ DCalls Tryz.prog n_locks_New [.agg [d, d1, d2, d3, d4, .int .i64 n, .int .i64 n1, .int .i64 n2, .int .i64 n3], .one (.int .i64 0)] σ' (fun (r1 : RV) => fun (σ'1 : Store) => ∃ d5 : D, ∃ d6 : D, ∃ d7 : D, ∃ d8 : D, ∃ d9 : D, ∃ d10 : D, ∃ b : Bool, (r1 = (.a (.agg [d5, d6, d7, d8, d9, d10, .bool b]) : RV)) ∧ ∃ len : Nat, (Len d5 len) ∧ ∃ I : Int → Store → Prop, ∃ μ : Int → Store → Nat, (I 0 σ'1) ∧ ∀ n4 : Int, ∀ σ'2 : Store, (I n4 σ'2) → bcase (decide (n4 < (len : Int))) (∃ len1 : Nat, (Idx Tryz.prog σ'2 d5 1 len1) ∧ ((0 : Int) ≤ n4) ∧ (n4 < (len1 : Int)) ∧ storeEl [.int .i64 0] σ'2 d5 (Int.toNat n4) 0 (fun (σ'3 : Store) => (([[.nils, .nils, .nils, .nils, .nils, .nils, .bool false], [d5, d6, d7, d8, d9, d10, .bool b]] : List (List D)) = ([[.nils, .nils, .nils, .nils, .nils, .nils, .bool false], [d5, d6, d7, d8, d9, d10, .bool b]] : List (List D))) ∧ (I (w64 (n4 + 1)) σ'3) ∧ ((μ (w64 (n4 + 1)) σ'3) < (μ n4 σ'2)))) (Qp (.a (.agg [d5, d6, d7, d8, d9, d10, .bool false])) σ'2)))
theorem W_law15_fresh (σ : Store) (Qp : RV → Store → Prop) (h : V_law15_fresh σ Qp) : DCalls Tryz.prog n_law15_fresh [] σ Qp :=
  dcalls_of_body mixed (by kernel_rfl) Tryz.func6 an_law15_fresh ((show V_law15_fresh σ Qp = dbody Tryz.prog Tryz.f6 an_law15_fresh [] σ Qp by kernel_rfl) ▸ h)
def an_block_Step : Ann := { esc := [], cbs := [4, 5, 6], draws := [], loops := [(7, { mods := [(11, SlotSh.one (Sh.int IntKind.i64))], keep := [4, 8, 10] })], joins := [(5, { mods := [(8, SlotSh.bx [Sh.any, Sh.any, Sh.any, Sh.any, Sh.any, Sh.any, Sh.bool])], keep := [3, 4, 5, 6] }), (2, { mods := [(13, SlotSh.one (Sh.bool))], keep := [3, 4, 5, 6, 8] })] }
def V_block_Step (c0 : D) (c1 : D) (c2 : D) (c3 : D) (c4 : D) (c5 : Int) (c6 : Int) (c7 : Int) (c8 : Int) (k0 : D) (k1 : D) (k2 : D) (k3 : D) (k4 : D) (k5 : D) (k6 : Bool) (v0 : D) (v1 : D) (v2 : D) (v3 : D) (now : Int) (σ : Store) (Qp : RV → Store → Prop) : Prop :=
  ∀ R : D → D → D → D → D → D → Bool → Store → Prop, (∀ d : D, ∀ d1 : D, ∀ d2 : D, ∀ d3 : D, ∀ d4 : D, ∀ d5 : D, ∀ b : Bool, ∀ σ' : Store, (DCalls Tryz.prog n_block_open [.agg [c0, c1, c2, c3, c4, .int .i64 c5, .int .i64 c6, .int .i64 c7, .int .i64 c8], .agg [k0, k1, k2, k3, k4, k5, .bool k6], .agg [v0, v1, v2, v3], .one (.int .i64 now)] σ' (fun (r : RV) => fun (σ'1 : Store) => ∃ d6 : D, (r = (.a (.one d6) : RV)) ∧ ∃ I : Int → Store → Prop, ∃ μ : Int → Store → Nat, (I 1 σ'1) ∧ ∀ n : Int, ∀ σ'2 : Store, (I n σ'2) → bcase (decide (n ≤ 3)) (DCalls Tryz.prog n_block_section [.agg [c0, c1, c2, c3, c4, .int .i64 c5, .int .i64 c6, .int .i64 c7, .int .i64 c8], .one (.int .i64 n)] σ'2 (fun (r1 : RV) => fun (σ'3 : Store) => ∃ n1 : Int, (r1 = (.a (.one (.int .i64 n1)) : RV)) ∧ bcase (decide (n1 ≥ 0)) ((NotNil d6) ∧ ∃ s : D, ∃ i : Nat, ∃ off : Nat, (d6 = (.el s i off : D)) ∧ ∃ row : List D, (Row σ'3 s i row) ∧ ∃ d7 : D, ((List.take 1 (List.drop ((off + 0) + 4) row)) = ([d7] : List D)) ∧ ∃ len : Nat, (Idx Tryz.prog σ'3 d7 8 len) ∧ ((0 : Int) ≤ n) ∧ (n < (len : Int)) ∧ DCalls Tryz.prog n_block_desk_line [.one d6, .one (.el d7 (Int.toNat n) 0), .one (.int .i64 n1)] σ'3 (fun (r2 : RV) => fun (σ'4 : Store) => (r2 = (.tup [] : RV)) ∧ (([[d, d1, d2, d3, d4, d5, .bool b]] : List (List D)) = ([[d, d1, d2, d3, d4, d5, .bool b]] : List (List D))) ∧ (I (w64 (n + 1)) σ'4) ∧ ((μ (w64 (n + 1)) σ'4) < (μ n σ'2)))) ((([[d, d1, d2, d3, d4, d5, .bool b]] : List (List D)) = ([[d, d1, d2, d3, d4, d5, .bool b]] : List (List D))) ∧ (I (w64 (n + 1)) σ'3) ∧ ((μ (w64 (n + 1)) σ'3) < (μ n σ'2))))) ((NotNil d6) ∧ ∃ s : D, ∃ i : Nat, ∃ off : Nat, (d6 = (.el s i off : D)) ∧ ∃ row : List D, (Row σ'2 s i row) ∧ ∃ d7 : D, ∃ d8 : D, ∃ d9 : D, ∃ d10 : D, ∃ d11 : D, ∃ d12 : D, ∃ b1 : Bool, ((List.take 7 (List.drop (off + 0) row)) = ([d7, d8, d9, d10, d11, d12, .bool b1] : List D)) ∧ Qp (.tup [.agg [d7, d8, d9, d10, d11, d12, .bool b1], .one (.int .i64 0)]) σ'2))) → R d d1 d2 d3 d4 d5 b σ') → ∀ R1 : Bool → Store → Prop, (∀ b : Bool, ∀ σ' : Store, (bcase b (DCalls Tryz.prog n_block_open [.agg [c0, c1, c2, c3, c4, .int .i64 c5, .int .i64 c6, .int .i64 c7, .int .i64 c8], .agg [k0, k1, k2, k3, k4, k5, .bool k6], .agg [.nils, .nils, .nils, .nils], .one (.int .i64 0)] σ' (fun (r : RV) => fun (σ'1 : Store) => ∃ d : D, (r = (.a (.one d) : RV)) ∧ (NotNil d) ∧ ∃ s : D, ∃ i : Nat, ∃ off : Nat, (d = (.el s i off : D)) ∧ ∃ row : List D, (Row σ'1 s i row) ∧ ∃ d1 : D, ∃ d2 : D, ∃ d3 : D, ∃ d4 : D, ∃ d5 : D, ∃ d6 : D, ∃ b1 : Bool, ((List.take 7 (List.drop (off + 0) row)) = ([d1, d2, d3, d4, d5, d6, .bool b1] : List D)) ∧ Qp (.tup [.agg [d1, d2, d3, d4, d5, d6, .bool b1], .one (.int .i64 21)]) σ'1)) (bcase (decide (now < 0)) (DCalls Tryz.prog n_block_open [.agg [c0, c1, c2, c3, c4, .int .i64 c5, .int .i64 c6, .int .i64 c7, .int .i64 c8], .agg [k0, k1, k2, k3, k4, k5, .bool k6], .agg [.nils, .nils, .nils, .nils], .one (.int .i64 0)] σ' (fun (r : RV) => fun (σ'1 : Store) => ∃ d : D, (r = (.a (.one d) : RV)) ∧ (NotNil d) ∧ ∃ s : D, ∃ i : Nat, ∃ off : Nat, (d = (.el s i off : D)) ∧ ∃ row : List D, (Row σ'1 s i row) ∧ ∃ d1 : D, ∃ d2 : D, ∃ d3 : D, ∃ d4 : D, ∃ d5 : D, ∃ d6 : D, ∃ b1 : Bool, ((List.take 7 (List.drop (off + 0) row)) = ([d1, d2, d3, d4, d5, d6, .bool b1] : List D)) ∧ Qp (.tup [.agg [d1, d2, d3, d4, d5, d6, .bool b1], .one (.int .i64 32)]) σ'1)) (bcase (decide (now > 4294967295)) (DCalls Tryz.prog n_block_open [.agg [c0, c1, c2, c3, c4, .int .i64 c5, .int .i64 c6, .int .i64 c7, .int .i64 c8], .agg [k0, k1, k2, k3, k4, k5, .bool k6], .agg [.nils, .nils, .nils, .nils], .one (.int .i64 0)] σ' (fun (r : RV) => fun (σ'1 : Store) => ∃ d : D, (r = (.a (.one d) : RV)) ∧ (NotNil d) ∧ ∃ s : D, ∃ i : Nat, ∃ off : Nat, (d = (.el s i off : D)) ∧ ∃ row : List D, (Row σ'1 s i row) ∧ ∃ d1 : D, ∃ d2 : D, ∃ d3 : D, ∃ d4 : D, ∃ d5 : D, ∃ d6 : D, ∃ b1 : Bool, ((List.take 7 (List.drop (off + 0) row)) = ([d1, d2, d3, d4, d5, d6, .bool b1] : List D)) ∧ Qp (.tup [.agg [d1, d2, d3, d4, d5, d6, .bool b1], .one (.int .i64 32)]) σ'1)) (R .nils .nils .nils .nils .nils .nils false σ')))) → R1 b σ') → DCalls Tryz.prog n_locks_Fits [.agg [c0, c1, c2, c3, c4, .int .i64 c5, .int .i64 c6, .int .i64 c7, .int .i64 c8], .agg [k0, k1, k2, k3, k4, k5, .bool k6]] σ (fun (r : RV) => fun (σ' : Store) => ∃ b : Bool, (r = (.a (.one (.bool b)) : RV)) ∧ bcase (!b) ((([[.nils, .nils, .nils, .nils, .nils, .nils, .bool false]] : List (List D)) = ([[.nils, .nils, .nils, .nils, .nils, .nils, .bool false]] : List (List D))) ∧ R1 true σ') (∃ len : Nat, (Len v0 len) ∧ ∃ len1 : Nat, (Len c0 len1) ∧ bcase ((len : Int) != (len1 : Int)) ((([[.nils, .nils, .nils, .nils, .nils, .nils, .bool false]] : List (List D)) = ([[.nils, .nils, .nils, .nils, .nils, .nils, .bool false]] : List (List D))) ∧ R1 true σ') (∃ len2 : Nat, (Len v1 len2) ∧ ∃ len3 : Nat, (Len c0 len3) ∧ bcase ((len2 : Int) != (len3 : Int)) ((([[.nils, .nils, .nils, .nils, .nils, .nils, .bool false]] : List (List D)) = ([[.nils, .nils, .nils, .nils, .nils, .nils, .bool false]] : List (List D))) ∧ R1 true σ') (∃ len4 : Nat, (Len v2 len4) ∧ ∃ len5 : Nat, (Len c3 len5) ∧ bcase ((len4 : Int) != (len5 : Int)) ((([[.nils, .nils, .nils, .nils, .nils, .nils, .bool false]] : List (List D)) = ([[.nils, .nils, .nils, .nils, .nils, .nils, .bool false]] : List (List D))) ∧ R1 true σ') (∃ len6 : Nat, (Len v3 len6) ∧ ∃ len7 : Nat, (Len c2 len7) ∧ (([[.nils, .nils, .nils, .nils, .nils, .nils, .bool false]] : List (List D)) = ([[.nils, .nils, .nils, .nils, .nils, .nils, .bool false]] : List (List D))) ∧ R1 ((len6 : Int) != (len7 : Int)) σ')))))
theorem W_block_Step (c0 : D) (c1 : D) (c2 : D) (c3 : D) (c4 : D) (c5 : Int) (c6 : Int) (c7 : Int) (c8 : Int) (k0 : D) (k1 : D) (k2 : D) (k3 : D) (k4 : D) (k5 : D) (k6 : Bool) (v0 : D) (v1 : D) (v2 : D) (v3 : D) (now : Int) (σ : Store) (Qp : RV → Store → Prop) (h : V_block_Step c0 c1 c2 c3 c4 c5 c6 c7 c8 k0 k1 k2 k3 k4 k5 k6 v0 v1 v2 v3 now σ Qp) : DCalls Tryz.prog n_block_Step [.agg [c0, c1, c2, c3, c4, .int .i64 c5, .int .i64 c6, .int .i64 c7, .int .i64 c8], .agg [k0, k1, k2, k3, k4, k5, .bool k6], .agg [v0, v1, v2, v3], .one (.int .i64 now)] σ Qp :=
  dcalls_of_body mixed (by kernel_rfl) Tryz.func10 an_block_Step ((show V_block_Step c0 c1 c2 c3 c4 c5 c6 c7 c8 k0 k1 k2 k3 k4 k5 k6 v0 v1 v2 v3 now σ Qp = dbody Tryz.prog Tryz.f10 an_block_Step [.agg [c0, c1, c2, c3, c4, .int .i64 c5, .int .i64 c6, .int .i64 c7, .int .i64 c8], .agg [k0, k1, k2, k3, k4, k5, .bool k6], .agg [v0, v1, v2, v3], .one (.int .i64 now)] σ Qp by kernel_rfl) ▸ h)
def an_locks_Request_1 : Ann := { esc := [], cbs := [], draws := [], loops := [], joins := [] }
def V_locks_Request_1 (d : D) (a1 : D) (a2 : D) (σ : Store) (Qp : RV → Store → Prop) : Prop :=
  ∃ s : D, ∃ i : Nat, ∃ off : Nat, (a1 = (.el s i off : D)) ∧ ∃ row : List D, (Row σ s i row) ∧ ∃ n : Int, ((List.take 1 (List.drop off row)) = ([.int .i64 n] : List D)) ∧ ∃ s1 : D, ∃ i1 : Nat, ∃ off1 : Nat, (a2 = (.el s1 i1 off1 : D)) ∧ ∃ row1 : List D, (Row σ s1 i1 row1) ∧ ∃ n1 : Int, ((List.take 1 (List.drop off1 row1)) = ([.int .i64 n1] : List D)) ∧ DCalls Tryz.prog n_locks_desk_request [.one d, .one (.int .i64 n), .one (.int .i64 n1)] σ (fun (r : RV) => fun (σ' : Store) => ∃ n2 : Int, (r = (.a (.one (.int .i64 n2)) : RV)) ∧ Qp (.a (.one (.int .i64 n2))) σ')
theorem W_locks_Request_1 (d : D) (a1 : D) (a2 : D) (σ : Store) (Qp : RV → Store → Prop) (h : V_locks_Request_1 d a1 a2 σ Qp) : DCalls Tryz.prog n_locks_Request_1 [.one d, .one a1, .one a2] σ Qp :=
  dcalls_of_body mixed (by kernel_rfl) Tryz.func14 an_locks_Request_1 ((show V_locks_Request_1 d a1 a2 σ Qp = dbody Tryz.prog Tryz.f14 an_locks_Request_1 [.one d, .one a1, .one a2] σ Qp by kernel_rfl) ▸ h)
def an_block_section : Ann := { esc := [3], cbs := [2], draws := [], loops := [], joins := [] }
def V_block_section (c0 : D) (c1 : D) (c2 : D) (c3 : D) (c4 : D) (c5 : Int) (c6 : Int) (c7 : Int) (c8 : Int) (line : Int) (σ : Store) (Qp : RV → Store → Prop) : Prop :=
  Fw.newObj σ (.live t_int [[.int .i64 line]]) (fun (id : Nat) => fun (σ' : Store) => ∃ row : List D, (Row σ' (.osl id 0 1) 0 row) ∧ ∃ n : Int, ((List.take 1 row) = ([.int .i64 n] : List D)) ∧ bcase (decide (n < 1)) (Qp (.a (.one (.int .i64 (-1)))) σ') (DCalls Tryz.prog n_slices_IndexFunc_Section [.one c0, .one (.fn n_block_section_1 [] [(false, [.el (.osl id 0 1) 0 0])])] σ' (fun (r : RV) => fun (σ'1 : Store) => ∃ n1 : Int, (r = (.a (.one (.int .i64 n1)) : RV)) ∧ Qp (.a (.one (.int .i64 n1))) σ'1)))
theorem W_block_section (c0 : D) (c1 : D) (c2 : D) (c3 : D) (c4 : D) (c5 : Int) (c6 : Int) (c7 : Int) (c8 : Int) (line : Int) (σ : Store) (Qp : RV → Store → Prop) (h : V_block_section c0 c1 c2 c3 c4 c5 c6 c7 c8 line σ Qp) : DCalls Tryz.prog n_block_section [.agg [c0, c1, c2, c3, c4, .int .i64 c5, .int .i64 c6, .int .i64 c7, .int .i64 c8], .one (.int .i64 line)] σ Qp :=
  dcalls_of_body mixed (by kernel_rfl) Tryz.func18 an_block_section ((show V_block_section c0 c1 c2 c3 c4 c5 c6 c7 c8 line σ Qp = dbody Tryz.prog Tryz.f18 an_block_section [.agg [c0, c1, c2, c3, c4, .int .i64 c5, .int .i64 c6, .int .i64 c7, .int .i64 c8], .one (.int .i64 line)] σ Qp by kernel_rfl) ▸ h)
def an_locks_open : Ann := { esc := [10], cbs := [2, 3], draws := [], loops := [], joins := [] }
def V_locks_open (c0 : D) (c1 : D) (c2 : D) (c3 : D) (c4 : D) (c5 : Int) (c6 : Int) (c7 : Int) (c8 : Int) (k0 : D) (k1 : D) (k2 : D) (k3 : D) (k4 : D) (k5 : D) (k6 : Bool) (σ : Store) (Qp : RV → Store → Prop) : Prop :=
  Fw.newObj σ (.live t_locks_desk [[c0, c1, c2, c3, c4, .int .i64 c5, .int .i64 c6, .int .i64 c7, .int .i64 c8, k0, k1, k2, k3, k4, k5, .bool k6]]) (fun (id : Nat) => fun (σ' : Store) => DCalls Tryz.prog n_slices_Clone_int [.one k0] σ' (fun (r : RV) => fun (σ'1 : Store) => ∃ d : D, (r = (.a (.one d) : RV)) ∧ storeEl [d] σ'1 (.osl id 0 1) 0 9 (fun (σ'2 : Store) => DCalls Tryz.prog n_slices_Clone_RouteState [.one k1] σ'2 (fun (r1 : RV) => fun (σ'3 : Store) => ∃ d1 : D, (r1 = (.a (.one d1) : RV)) ∧ storeEl [d1] σ'3 (.osl id 0 1) 0 10 (fun (σ'4 : Store) => DCalls Tryz.prog n_slices_Clone_Mover [.one k2] σ'4 (fun (r2 : RV) => fun (σ'5 : Store) => ∃ d2 : D, (r2 = (.a (.one d2) : RV)) ∧ storeEl [d2] σ'5 (.osl id 0 1) 0 11 (fun (σ'6 : Store) => DCalls Tryz.prog n_slices_Clone_Mover [.one k3] σ'6 (fun (r3 : RV) => fun (σ'7 : Store) => ∃ d3 : D, (r3 = (.a (.one d3) : RV)) ∧ storeEl [d3] σ'7 (.osl id 0 1) 0 12 (fun (σ'8 : Store) => DCalls Tryz.prog n_slices_Clone_LineState [.one k4] σ'8 (fun (r4 : RV) => fun (σ'9 : Store) => ∃ d4 : D, (r4 = (.a (.one d4) : RV)) ∧ storeEl [d4] σ'9 (.osl id 0 1) 0 13 (fun (σ'10 : Store) => DCalls Tryz.prog n_slices_Clone_int [.one k5] σ'10 (fun (r5 : RV) => fun (σ'11 : Store) => ∃ d5 : D, (r5 = (.a (.one d5) : RV)) ∧ storeEl [d5] σ'11 (.osl id 0 1) 0 14 (fun (σ'12 : Store) => DCalls Tryz.prog n_locks_Fits [.agg [c0, c1, c2, c3, c4, .int .i64 c5, .int .i64 c6, .int .i64 c7, .int .i64 c8], .agg [k0, k1, k2, k3, k4, k5, .bool k6]] σ'12 (fun (r6 : RV) => fun (σ'13 : Store) => ∃ b : Bool, (r6 = (.a (.one (.bool b)) : RV)) ∧ Qp (.tup [.one (.el (.osl id 0 1) 0 0), .one (.bool b)]) σ'13))))))))))))))
theorem W_locks_open (c0 : D) (c1 : D) (c2 : D) (c3 : D) (c4 : D) (c5 : Int) (c6 : Int) (c7 : Int) (c8 : Int) (k0 : D) (k1 : D) (k2 : D) (k3 : D) (k4 : D) (k5 : D) (k6 : Bool) (σ : Store) (Qp : RV → Store → Prop) (h : V_locks_open c0 c1 c2 c3 c4 c5 c6 c7 c8 k0 k1 k2 k3 k4 k5 k6 σ Qp) : DCalls Tryz.prog n_locks_open [.agg [c0, c1, c2, c3, c4, .int .i64 c5, .int .i64 c6, .int .i64 c7, .int .i64 c8], .agg [k0, k1, k2, k3, k4, k5, .bool k6]] σ Qp :=
  dcalls_of_body mixed (by kernel_rfl) Tryz.func22 an_locks_open ((show V_locks_open c0 c1 c2 c3 c4 c5 c6 c7 c8 k0 k1 k2 k3 k4 k5 k6 σ Qp = dbody Tryz.prog Tryz.f22 an_locks_open [.agg [c0, c1, c2, c3, c4, .int .i64 c5, .int .i64 c6, .int .i64 c7, .int .i64 c8], .agg [k0, k1, k2, k3, k4, k5, .bool k6]] σ Qp by kernel_rfl) ▸ h)
def an_locks_desk_may : Ann := { esc := [], cbs := [], draws := [], loops := [(2, { mods := [(17, SlotSh.one (Sh.int IntKind.i64))], keep := [0, 1, 2, 15, 16] }), (8, { mods := [(38, SlotSh.one (Sh.int IntKind.i64))], keep := [0, 1, 36, 37] })], joins := [] }
def V_locks_desk_may (d : D) (r : Int) (sections : D) (σ : Store) (Qp : RV → Store → Prop) : Prop :=
  (NotNil d) ∧ ∃ s : D, ∃ i : Nat, ∃ off : Nat, (d = (.el s i off : D)) ∧ ∃ row : List D, (Row σ s i row) ∧ ∃ d1 : D, ((List.take 1 (List.drop ((off + 9) + 1) row)) = ([d1] : List D)) ∧ ∃ len : Nat, (Len d1 len) ∧ ∃ I : Int → Store → Prop, ∃ μ : Int → Store → Nat, (I 0 σ) ∧ ∀ n : Int, ∀ σ' : Store, (I n σ') → bcase (decide (n < (len : Int))) (∃ len1 : Nat, (Idx Tryz.prog σ' d1 4 len1) ∧ ((0 : Int) ≤ n) ∧ (n < (len1 : Int)) ∧ ∃ row1 : List D, (Row σ' d1 (Int.toNat n) row1) ∧ ∃ n1 : Int, ∃ n2 : Int, ∃ n3 : Int, ∃ n4 : Int, ((List.take 4 row1) = ([.int .i64 n1, .int .i64 n2, .int .i64 n3, .int .i64 n4] : List D)) ∧ bcase (n1 != 0) ((NotNil d) ∧ ∃ s1 : D, ∃ i1 : Nat, ∃ off1 : Nat, (d = (.el s1 i1 off1 : D)) ∧ ∃ row2 : List D, (Row σ' s1 i1 row2) ∧ ∃ d2 : D, ∃ d3 : D, ∃ d4 : D, ∃ d5 : D, ∃ d6 : D, ∃ n5 : Int, ∃ n6 : Int, ∃ n7 : Int, ∃ n8 : Int, ((List.take 9 (List.drop (off1 + 0) row2)) = ([d2, d3, d4, d5, d6, .int .i64 n5, .int .i64 n6, .int .i64 n7, .int .i64 n8] : List D)) ∧ DCalls Tryz.prog n_conf_Approach [.agg [d2, d3, d4, d5, d6, .int .i64 n5, .int .i64 n6, .int .i64 n7, .int .i64 n8], .one (.int .i64 n)] σ' (fun (r1 : RV) => fun (σ'1 : Store) => ∃ n9 : Int, (r1 = (.a (.one (.int .i64 n9)) : RV)) ∧ DCalls Tryz.prog n_slices_Contains_int [.one sections, .one (.int .i64 n9)] σ'1 (fun (r2 : RV) => fun (σ'2 : Store) => ∃ b : Bool, (r2 = (.a (.one (.bool b)) : RV)) ∧ bcase b (Qp (.a (.one (.int .i64 23))) σ'2) ((I (w64 (n + 1)) σ'2) ∧ ((μ (w64 (n + 1)) σ'2) < (μ n σ')))))) ((I (w64 (n + 1)) σ') ∧ ((μ (w64 (n + 1)) σ') < (μ n σ')))) (∃ len1 : Nat, (Len sections len1) ∧ ∃ I1 : Int → Store → Prop, ∃ μ1 : Int → Store → Nat, (I1 0 σ') ∧ ∀ n1 : Int, ∀ σ'1 : Store, (I1 n1 σ'1) → bcase (decide (n1 < (len1 : Int))) (∃ len2 : Nat, (Idx Tryz.prog σ'1 sections 1 len2) ∧ ((0 : Int) ≤ n1) ∧ (n1 < (len2 : Int)) ∧ ∃ row1 : List D, (Row σ'1 sections (Int.toNat n1) row1) ∧ ∃ n2 : Int, ((List.take 1 row1) = ([.int .i64 n2] : List D)) ∧ (NotNil d) ∧ ∃ s1 : D, ∃ i1 : Nat, ∃ off1 : Nat, (d = (.el s1 i1 off1 : D)) ∧ ∃ row2 : List D, (Row σ'1 s1 i1 row2) ∧ ∃ d2 : D, ((List.take 1 (List.drop ((off1 + 9) + 0) row2)) = ([d2] : List D)) ∧ ∃ len3 : Nat, (Idx Tryz.prog σ'1 d2 1 len3) ∧ ((0 : Int) ≤ n2) ∧ (n2 < (len3 : Int)) ∧ ∃ row3 : List D, (Row σ'1 d2 (Int.toNat n2) row3) ∧ ∃ n3 : Int, ((List.take 1 row3) = ([.int .i64 n3] : List D)) ∧ bcase (n3 != 0) (DCalls Tryz.prog n_locks_desk_inherits [.one d, .one (.int .i64 r), .one (.int .i64 n2)] σ'1 (fun (r1 : RV) => fun (σ'2 : Store) => ∃ b : Bool, (r1 = (.a (.one (.bool b)) : RV)) ∧ bcase (!b) (Qp (.a (.one (.int .i64 22))) σ'2) ((I1 (w64 (n1 + 1)) σ'2) ∧ ((μ1 (w64 (n1 + 1)) σ'2) < (μ1 n1 σ'1))))) ((I1 (w64 (n1 + 1)) σ'1) ∧ ((μ1 (w64 (n1 + 1)) σ'1) < (μ1 n1 σ'1)))) (Qp (.a (.one (.int .i64 0))) σ'1))
theorem W_locks_desk_may (d : D) (r : Int) (sections : D) (σ : Store) (Qp : RV → Store → Prop) (h : V_locks_desk_may d r sections σ Qp) : DCalls Tryz.prog n_locks_desk_may [.one d, .one (.int .i64 r), .one sections] σ Qp :=
  dcalls_of_body mixed (by kernel_rfl) Tryz.func26 an_locks_desk_may ((show V_locks_desk_may d r sections σ Qp = dbody Tryz.prog Tryz.f26 an_locks_desk_may [.one d, .one (.int .i64 r), .one sections] σ Qp by kernel_rfl) ▸ h)
def an_mover_Crossings : Ann := { esc := [9], cbs := [2], draws := [], loops := [(4, { mods := [(7, SlotSh.one (Sh.any)), (19, SlotSh.one (Sh.int IntKind.i64))], keep := [5, 17, 18] })], joins := [] }
def V_mover_Crossings (c0 : D) (c1 : D) (c2 : D) (c3 : D) (c4 : D) (c5 : Int) (c6 : Int) (c7 : Int) (c8 : Int) (r : Int) (σ : Store) (Qp : RV → Store → Prop) : Prop :=
  DCalls Tryz.prog n_mover_route [.agg [c0, c1, c2, c3, c4, .int .i64 c5, .int .i64 c6, .int .i64 c7, .int .i64 c8], .one (.int .i64 r)] σ (fun (r1 : RV) => fun (σ' : Store) => ∃ n : Int, ∃ n1 : Int, ∃ d : D, ∃ d1 : D, ∃ d2 : D, ∃ b : Bool, ∃ b1 : Bool, (r1 = (.tup [.agg [.int .i64 n, .int .i64 n1, d, d1, d2, .bool b], .one (.bool b1)] : RV)) ∧ ∃ len : Nat, (Len c3 len) ∧ ∃ I : D → Int → Store → Prop, ∃ μ : D → Int → Store → Nat, (I .nils 0 σ') ∧ ∀ d3 : D, ∀ n2 : Int, ∀ σ'1 : Store, (I d3 n2 σ'1) → bcase (decide (n2 < (len : Int))) (∃ len1 : Nat, (Idx Tryz.prog σ'1 c3 1 len1) ∧ ((0 : Int) ≤ n2) ∧ (n2 < (len1 : Int)) ∧ ∃ row : List D, (Row σ'1 c3 (Int.toNat n2) row) ∧ ∃ n3 : Int, ((List.take 1 row) = ([.int .i64 n3] : List D)) ∧ Fw.newObj σ'1 (.live t_int [[.int .i64 0]]) (fun (id : Nat) => fun (σ'2 : Store) => storeEl [.int .i64 n3] σ'2 (.osl id 0 1) 0 0 (fun (σ'3 : Store) => DCalls Tryz.prog n_slices_ContainsFunc_Step [.one d, .one (.fn n_mover_Crossings_1 [] [(false, [.el (.osl id 0 1) 0 0])])] σ'3 (fun (r2 : RV) => fun (σ'4 : Store) => ∃ b2 : Bool, (r2 = (.a (.one (.bool b2)) : RV)) ∧ bcase b2 (Fw.newObj σ'4 (.live t_int [[.int .i64 n2]]) (fun (id1 : Nat) => fun (σ'5 : Store) => appendTo Tryz.prog σ'5 t_int 8 d3 (.osl id1 0 1) (fun (d4 : D) => fun (σ'6 : Store) => (([[.int .i64 n, .int .i64 n1, d, d1, d2, .bool b]] : List (List D)) = ([[.int .i64 n, .int .i64 n1, d, d1, d2, .bool b]] : List (List D))) ∧ (I d4 (w64 (n2 + 1)) σ'6) ∧ ((μ d4 (w64 (n2 + 1)) σ'6) < (μ d3 n2 σ'1))))) ((([[.int .i64 n, .int .i64 n1, d, d1, d2, .bool b]] : List (List D)) = ([[.int .i64 n, .int .i64 n1, d, d1, d2, .bool b]] : List (List D))) ∧ (I d3 (w64 (n2 + 1)) σ'4) ∧ ((μ d3 (w64 (n2 + 1)) σ'4) < (μ d3 n2 σ'1))))))) (Qp (.a (.one d3)) σ'1))
theorem W_mover_Crossings (c0 : D) (c1 : D) (c2 : D) (c3 : D) (c4 : D) (c5 : Int) (c6 : Int) (c7 : Int) (c8 : Int) (r : Int) (σ : Store) (Qp : RV → Store → Prop) (h : V_mover_Crossings c0 c1 c2 c3 c4 c5 c6 c7 c8 r σ Qp) : DCalls Tryz.prog n_mover_Crossings [.agg [c0, c1, c2, c3, c4, .int .i64 c5, .int .i64 c6, .int .i64 c7, .int .i64 c8], .one (.int .i64 r)] σ Qp :=
  dcalls_of_body mixed (by kernel_rfl) Tryz.func30 an_mover_Crossings ((show V_mover_Crossings c0 c1 c2 c3 c4 c5 c6 c7 c8 r σ Qp = dbody Tryz.prog Tryz.f30 an_mover_Crossings [.agg [c0, c1, c2, c3, c4, .int .i64 c5, .int .i64 c6, .int .i64 c7, .int .i64 c8], .one (.int .i64 r)] σ Qp by kernel_rfl) ▸ h)
def an_slices_Clone_int : Ann := { esc := [], cbs := [], draws := [], loops := [], joins := [] }
def V_slices_Clone_int (s : D) (σ : Store) (Qp : RV → Store → Prop) : Prop :=
  ∃ b : Bool, (IsNil .sl s b) ∧ bcase (b != false) (Qp (.a (.one .nils)) σ) (Fw.newObj σ (.live t_int []) (fun (id : Nat) => fun (σ' : Store) => appendTo Tryz.prog σ' t_int 8 (.osl id 0 0) s (fun (d : D) => fun (σ'1 : Store) => Qp (.a (.one d)) σ'1)))
theorem W_slices_Clone_int (s : D) (σ : Store) (Qp : RV → Store → Prop) (h : V_slices_Clone_int s σ Qp) : DCalls Tryz.prog n_slices_Clone_int [.one s] σ Qp :=
  dcalls_of_body mixed (by kernel_rfl) Tryz.func34 an_slices_Clone_int ((show V_slices_Clone_int s σ Qp = dbody Tryz.prog Tryz.f34 an_slices_Clone_int [.one s] σ Qp by kernel_rfl) ▸ h)
def an_slices_IndexFunc_Section : Ann := { esc := [], cbs := [], draws := [], loops := [(2, { mods := [(8, SlotSh.one (Sh.int IntKind.i64))], keep := [0, 1, 7] })], joins := [] }
def V_slices_IndexFunc_Section (s : D) (f : D) (σ : Store) (Qp : RV → Store → Prop) : Prop :=
  ∃ len : Nat, (Len s len) ∧ ∃ I : Int → Store → Prop, ∃ μ : Int → Store → Nat, (I 0 σ) ∧ ∀ n : Int, ∀ σ' : Store, (I n σ') → bcase (decide (n < (len : Int))) (∃ len1 : Nat, (Idx Tryz.prog σ' s 3 len1) ∧ ((0 : Int) ≤ n) ∧ (n < (len1 : Int)) ∧ ∃ row : List D, (Row σ' s (Int.toNat n) row) ∧ ∃ n1 : Int, ∃ n2 : Int, ∃ n3 : Int, ((List.take 3 row) = ([.int .i64 n1, .int .i64 n2, .int .i64 n3] : List D)) ∧ ∃ f1 : FuncId, ∃ a : List (Bool × (List D)), ∃ b : List (Bool × (List D)), ∃ as0' : List A, ∃ bs : List A, (f = (.fn f1 a b : D)) ∧ ((capAs a) = (Option.some as0')) ∧ ((capAs b) = (Option.some bs)) ∧ DCalls Tryz.prog f1 (HAppend.hAppend (HAppend.hAppend as0' [.agg [.int .i64 n1, .int .i64 n2, .int .i64 n3]]) bs) σ' (fun (r : RV) => fun (σ'1 : Store) => ∃ b1 : Bool, (r = (.a (.one (.bool b1)) : RV)) ∧ bcase b1 (Qp (.a (.one (.int .i64 n))) σ'1) ((I (w64 (n + 1)) σ'1) ∧ ((μ (w64 (n + 1)) σ'1) < (μ n σ'))))) (Qp (.a (.one (.int .i64 (-1)))) σ')
theorem W_slices_IndexFunc_Section (s : D) (f : D) (σ : Store) (Qp : RV → Store → Prop) (h : V_slices_IndexFunc_Section s f σ Qp) : DCalls Tryz.prog n_slices_IndexFunc_Section [.one s, .one f] σ Qp :=
  dcalls_of_body mixed (by kernel_rfl) Tryz.func38 an_slices_IndexFunc_Section ((show V_slices_IndexFunc_Section s f σ Qp = dbody Tryz.prog Tryz.f38 an_slices_IndexFunc_Section [.one s, .one f] σ Qp by kernel_rfl) ▸ h)
def an_block_desk_own : Ann := { esc := [], cbs := [], draws := [], loops := [], joins := [] }
def V_block_desk_own (d : D) (section_ : Int) (who : Int) (σ : Store) (Qp : RV → Store → Prop) : Prop :=
  (NotNil d) ∧ ∃ s : D, ∃ i : Nat, ∃ off : Nat, (d = (.el s i off : D)) ∧ ∃ row : List D, (Row σ s i row) ∧ ∃ d1 : D, ((List.take 1 (List.drop ((off + 0) + 0) row)) = ([d1] : List D)) ∧ ∃ len : Nat, (Idx Tryz.prog σ d1 1 len) ∧ ((0 : Int) ≤ section_) ∧ (section_ < (len : Int)) ∧ storeEl [.int .i64 who] σ d1 (Int.toNat section_) 0 (fun (σ' : Store) => (NotNil d) ∧ ∃ s1 : D, ∃ i1 : Nat, ∃ off1 : Nat, (d = (.el s1 i1 off1 : D)) ∧ storeEl [.bool true] σ' s1 i1 ((off1 + 0) + 6) (fun (σ'1 : Store) => Qp (.tup []) σ'1))
theorem W_block_desk_own (d : D) (section_ : Int) (who : Int) (σ : Store) (Qp : RV → Store → Prop) (h : V_block_desk_own d section_ who σ Qp) : DCalls Tryz.prog n_block_desk_own [.one d, .one (.int .i64 section_), .one (.int .i64 who)] σ Qp :=
  dcalls_of_body mixed (by kernel_rfl) Tryz.func42 an_block_desk_own ((show V_block_desk_own d section_ who σ Qp = dbody Tryz.prog Tryz.f42 an_block_desk_own [.one d, .one (.int .i64 section_), .one (.int .i64 who)] σ Qp by kernel_rfl) ▸ h)
def an_mover_route : Ann := { esc := [], cbs := [2], draws := [], loops := [], joins := [] }
def V_mover_route (c0 : D) (c1 : D) (c2 : D) (c3 : D) (c4 : D) (c5 : Int) (c6 : Int) (c7 : Int) (c8 : Int) (r : Int) (σ : Store) (Qp : RV → Store → Prop) : Prop :=
  bcase (decide (r < 0)) (Qp (.tup [.agg [.int .i64 0, .int .i64 0, .nils, .nils, .nils, .bool false], .one (.bool false)]) σ) (∃ len : Nat, (Len c4 len) ∧ bcase (decide (r ≥ (len : Int))) (Qp (.tup [.agg [.int .i64 0, .int .i64 0, .nils, .nils, .nils, .bool false], .one (.bool false)]) σ) (∃ len1 : Nat, (Idx Tryz.prog σ c4 6 len1) ∧ ((0 : Int) ≤ r) ∧ (r < (len1 : Int)) ∧ ∃ row : List D, (Row σ c4 (Int.toNat r) row) ∧ ∃ n : Int, ∃ n1 : Int, ∃ d : D, ∃ d1 : D, ∃ d2 : D, ∃ b : Bool, ((List.take 6 row) = ([.int .i64 n, .int .i64 n1, d, d1, d2, .bool b] : List D)) ∧ Qp (.tup [.agg [.int .i64 n, .int .i64 n1, d, d1, d2, .bool b], .one (.bool true)]) σ))
theorem W_mover_route (c0 : D) (c1 : D) (c2 : D) (c3 : D) (c4 : D) (c5 : Int) (c6 : Int) (c7 : Int) (c8 : Int) (r : Int) (σ : Store) (Qp : RV → Store → Prop) (h : V_mover_route c0 c1 c2 c3 c4 c5 c6 c7 c8 r σ Qp) : DCalls Tryz.prog n_mover_route [.agg [c0, c1, c2, c3, c4, .int .i64 c5, .int .i64 c6, .int .i64 c7, .int .i64 c8], .one (.int .i64 r)] σ Qp :=
  dcalls_of_body mixed (by kernel_rfl) Tryz.func51 an_mover_route ((show V_mover_route c0 c1 c2 c3 c4 c5 c6 c7 c8 r σ Qp = dbody Tryz.prog Tryz.f51 an_mover_route [.agg [c0, c1, c2, c3, c4, .int .i64 c5, .int .i64 c6, .int .i64 c7, .int .i64 c8], .one (.int .i64 r)] σ Qp by kernel_rfl) ▸ h)
def an_topo_Check : Ann := { esc := [], cbs := [], draws := [(10, { ord := [0, 1, 2, 3, 4, 5, 6, 7, 8, 9, 10, 11, 12, 13, 14, 15, 16, 17, 18, 19, 20, 21, 22, 23, 24, 25, 26], nb := [9], av := [], dir := [] }), (12, { ord := [0, 1, 2, 3, 4, 5, 6], nb := [], av := [], dir := [] })], loops := [(5, { mods := [(25, SlotSh.one (Sh.int IntKind.i64))], keep := [0, 5, 23, 24] }), (8, { mods := [(41, SlotSh.one (Sh.int IntKind.i64))], keep := [0, 5, 7, 23, 24, 25, 39, 40] }), (19, { mods := [(88, SlotSh.one (Sh.int IntKind.i64))], keep := [5, 10, 86, 87] })], joins := [(3, { mods := [], keep := [0, 1] }), (23, { mods := [], keep := [5, 10, 11, 12, 86, 87, 88] })] }
def V_topo_Check (sections : D) (joints : D) (σ : Store) (Qp : RV → Store → Prop) : Prop :=
  ∀ R : Store → Prop, (∀ σ' : Store, (Fw.newObj σ' (.mp 0 []) (fun (id : Nat) => fun (σ'1 : Store) => ∃ len : Nat, (Len joints len) ∧ ∃ I : Int → Store → Prop, ∃ μ : Int → Store → Nat, (I 0 σ'1) ∧ ∀ n : Int, ∀ σ'2 : Store, (I n σ'2) → bcase (decide (n < (len : Int))) (∃ len1 : Nat, (Idx Tryz.prog σ'2 joints 4 len1) ∧ ((0 : Int) ≤ n) ∧ (n < (len1 : Int)) ∧ ∃ row : List D, (Row σ'2 joints (Int.toNat n) row) ∧ ∃ n1 : Int, ∃ n2 : Int, ∃ n3 : Int, ∃ n4 : Int, ((List.take 4 row) = ([.int .i64 n1, .int .i64 n2, .int .i64 n3, .int .i64 n4] : List D)) ∧ Fw.newObj σ'2 (.live t_topo_spot [[.int .i64 n1, .int .i64 n2], [.int .i64 n3, .int .i64 n4]]) (fun (id1 : Nat) => fun (σ'3 : Store) => ∃ len2 : Nat, (Len (.osl id1 0 2) len2) ∧ ∃ I1 : Int → Store → Prop, ∃ μ1 : Int → Store → Nat, (I1 0 σ'3) ∧ ∀ n5 : Int, ∀ σ'4 : Store, (I1 n5 σ'4) → bcase (decide (n5 < (len2 : Int))) (∃ len3 : Nat, (Idx Tryz.prog σ'4 (.osl id1 0 2) 2 len3) ∧ ((0 : Int) ≤ n5) ∧ (n5 < (len3 : Int)) ∧ ∃ row1 : List D, (Row σ'4 (.osl id1 0 2) (Int.toNat n5) row1) ∧ ∃ n6 : Int, ∃ n7 : Int, ((List.take 2 row1) = ([.int .i64 n6, .int .i64 n7] : List D)) ∧ ∃ len4 : Nat, (Len sections len4) ∧ DCalls Tryz.prog n_topo_between [.one (.int .i64 n6), .one (.int .i64 0), .one (.int .i64 (w64 ((len4 : Int) - 1)))] σ'4 (fun (r : RV) => fun (σ'5 : Store) => ∃ b : Bool, (r = (.a (.one (.bool b)) : RV)) ∧ bcase (!b) (Qp (.a (.one (.int .i64 6))) σ'5) (∃ len5 : Nat, (Idx Tryz.prog σ'5 sections 3 len5) ∧ ((0 : Int) ≤ n6) ∧ (n6 < (len5 : Int)) ∧ ∃ row2 : List D, (Row σ'5 sections (Int.toNat n6) row2) ∧ ∃ n8 : Int, ((List.take 1 row2) = ([.int .i64 n8] : List D)) ∧ DCalls Tryz.prog n_topo_Ends [.one (.int .i64 n8)] σ'5 (fun (r1 : RV) => fun (σ'6 : Store) => ∃ n9 : Int, (r1 = (.a (.one (.int .i64 n9)) : RV)) ∧ DCalls Tryz.prog n_topo_between [.one (.int .i64 n7), .one (.int .i64 0), .one (.int .i64 (w64 (n9 - 1)))] σ'6 (fun (r2 : RV) => fun (σ'7 : Store) => ∃ b1 : Bool, (r2 = (.a (.one (.bool b1)) : RV)) ∧ bcase (!b1) (Qp (.a (.one (.int .i64 6))) σ'7) (∃ r3 : Option A, (MLook Tryz.prog t_topo_spot σ'7 (.omap id) (.agg [.int .i64 n6, .int .i64 n7]) r3) ∧ ∃ n10 : Int, ((Option.getD r3 (.one (.int .i64 0))) = (.one (.int .i64 n10) : A)) ∧ bcase (decide (n10 > 0)) (Qp (.a (.one (.int .i64 6))) σ'7) (∃ r4 : Option A, (MLook Tryz.prog t_topo_spot σ'7 (.omap id) (.agg [.int .i64 n6, .int .i64 n7]) r4) ∧ ∃ n11 : Int, ((Option.getD r4 (.one (.int .i64 0))) = (.one (.int .i64 n11) : A)) ∧ MEntry Tryz.prog t_topo_spot σ'7 (.omap id) (.agg [.int .i64 n6, .int .i64 n7]) (.one (.int .i64 0)) (fun (v : A) => fun (n12 : Int) => fun (σ'8 : Store) => MStamp σ'8 (.omap id) n12 (.one (.int .i64 (w64 (n11 + 1)))) (fun (σ'9 : Store) => (([[.int .i64 n1, .int .i64 n2, .int .i64 n3, .int .i64 n4]] : List (List D)) = ([[.int .i64 n1, .int .i64 n2, .int .i64 n3, .int .i64 n4]] : List (List D))) ∧ (I1 (w64 (n5 + 1)) σ'9) ∧ ((μ1 (w64 (n5 + 1)) σ'9) < (μ1 n5 σ'4))))))))))) (bcase (n1 == n3) (Qp (.a (.one (.int .i64 6))) σ'4) ((I (w64 (n + 1)) σ'4) ∧ ((μ (w64 (n + 1)) σ'4) < (μ n σ'2)))))) (Fw.newObj σ'2 (.mp 0 []) (fun (id1 : Nat) => fun (σ'3 : Store) => ∃ len1 : Nat, (Len sections len1) ∧ ∃ I1 : Int → Store → Prop, ∃ μ1 : Int → Store → Nat, (I1 0 σ'3) ∧ ∀ n1 : Int, ∀ σ'4 : Store, (I1 n1 σ'4) → bcase (decide (n1 < (len1 : Int))) (∃ len2 : Nat, (Idx Tryz.prog σ'4 sections 3 len2) ∧ ((0 : Int) ≤ n1) ∧ (n1 < (len2 : Int)) ∧ ∃ row : List D, (Row σ'4 sections (Int.toNat n1) row) ∧ ∃ n2 : Int, ∃ n3 : Int, ∃ n4 : Int, ((List.take 3 row) = ([.int .i64 n2, .int .i64 n3, .int .i64 n4] : List D)) ∧ ∀ R1 : Store → Prop, (∀ σ'5 : Store, (bcase (n4 != 0) (bcase (n2 != 0) (Qp (.a (.one (.int .i64 6))) σ'5) (∃ r : Option A, (MLook Tryz.prog t_topo_spot σ'5 (.omap id) (.agg [.int .i64 n1, .int .i64 1]) r) ∧ ∃ n5 : Int, ((Option.getD r (.one (.int .i64 0))) = (.one (.int .i64 n5) : A)) ∧ bcase (decide (n5 > 0)) (Qp (.a (.one (.int .i64 6))) σ'5) (∃ r1 : Option A, (MLook Tryz.prog t_int σ'5 (.omap id1) (.one (.int .i64 n4)) r1) ∧ ∃ n6 : Int, ((Option.getD r1 (.one (.int .i64 0))) = (.one (.int .i64 n6) : A)) ∧ bcase (decide (n6 > 0)) (Qp (.a (.one (.int .i64 6))) σ'5) (∃ r2 : Option A, (MLook Tryz.prog t_int σ'5 (.omap id1) (.one (.int .i64 n4)) r2) ∧ ∃ n7 : Int, ((Option.getD r2 (.one (.int .i64 0))) = (.one (.int .i64 n7) : A)) ∧ MPut Tryz.prog t_int σ'5 (.omap id1) (.one (.int .i64 n4)) (.one (.int .i64 (w64 (n7 + 1)))) (fun (σ'6 : Store) => (I1 (w64 (n1 + 1)) σ'6) ∧ ((μ1 (w64 (n1 + 1)) σ'6) < (μ1 n1 σ'4))))))) (∃ r : Option A, (MLook Tryz.prog t_int σ'5 (.omap id1) (.one (.int .i64 n4)) r) ∧ ∃ n5 : Int, ((Option.getD r (.one (.int .i64 0))) = (.one (.int .i64 n5) : A)) ∧ MPut Tryz.prog t_int σ'5 (.omap id1) (.one (.int .i64 n4)) (.one (.int .i64 (w64 (n5 + 1)))) (fun (σ'6 : Store) => (I1 (w64 (n1 + 1)) σ'6) ∧ ((μ1 (w64 (n1 + 1)) σ'6) < (μ1 n1 σ'4))))) → R1 σ'5) → DCalls Tryz.prog n_topo_Ends [.one (.int .i64 n2)] σ'4 (fun (r : RV) => fun (σ'5 : Store) => ∃ n5 : Int, (r = (.a (.one (.int .i64 n5)) : RV)) ∧ bcase (n5 == 0) (Qp (.a (.one (.int .i64 6))) σ'5) (DCalls Tryz.prog n_topo_between [.one (.int .i64 n3), .one (.int .i64 0), .one (.int .i64 3)] σ'5 (fun (r1 : RV) => fun (σ'6 : Store) => ∃ b : Bool, (r1 = (.a (.one (.bool b)) : RV)) ∧ bcase (!b) (Qp (.a (.one (.int .i64 6))) σ'6) (DCalls Tryz.prog n_topo_between [.one (.int .i64 n4), .one (.int .i64 0), .one (.int .i64 3)] σ'6 (fun (r2 : RV) => fun (σ'7 : Store) => ∃ b1 : Bool, (r2 = (.a (.one (.bool b1)) : RV)) ∧ bcase (!b1) (Qp (.a (.one (.int .i64 6))) σ'7) ((([[.int .i64 n2, .int .i64 n3, .int .i64 n4]] : List (List D)) = ([[.int .i64 n2, .int .i64 n3, .int .i64 n4]] : List (List D))) ∧ R1 σ'7))))))) (Qp (.a (.one (.int .i64 0))) σ'4))))) → R σ') → ∃ len : Nat, (Len sections len) ∧ DCalls Tryz.prog n_topo_between [.one (.int .i64 (len : Int)), .one (.int .i64 1), .one (.int .i64 16)] σ (fun (r : RV) => fun (σ' : Store) => ∃ b : Bool, (r = (.a (.one (.bool b)) : RV)) ∧ bcase (!b) (Qp (.a (.one (.int .i64 6))) σ') (∃ len1 : Nat, (Len joints len1) ∧ bcase (decide ((len1 : Int) > 24)) (Qp (.a (.one (.int .i64 6))) σ') (R σ')))
theorem W_topo_Check (sections : D) (joints : D) (σ : Store) (Qp : RV → Store → Prop) (h : V_topo_Check sections joints σ Qp) : DCalls Tryz.prog n_topo_Check [.one sections, .one joints] σ Qp :=
  dcalls_of_body mixed (by kernel_rfl) Tryz.func55 an_topo_Check ((show V_topo_Check sections joints σ Qp = dbody Tryz.prog Tryz.f55 an_topo_Check [.one sections, .one joints] σ Qp by kernel_rfl) ▸ h)
def an_conf_between : Ann := { esc := [], cbs := [], draws := [], loops := [], joins := [] }
def V_conf_between (n : Int) (lo : Int) (hi : Int) (σ : Store) (Qp : RV → Store → Prop) : Prop :=
  bcase (decide (lo ≤ n)) (Qp (.a (.one (.bool (decide (n ≤ hi))))) σ) (Qp (.a (.one (.bool false))) σ)
theorem W_conf_between (n : Int) (lo : Int) (hi : Int) (σ : Store) (Qp : RV → Store → Prop) (h : V_conf_between n lo hi σ Qp) : DCalls Tryz.prog n_conf_between [.one (.int .i64 n), .one (.int .i64 lo), .one (.int .i64 hi)] σ Qp :=
  dcalls_of_body mixed (by kernel_rfl) Tryz.func59 an_conf_between ((show V_conf_between n lo hi σ Qp = dbody Tryz.prog Tryz.f59 an_conf_between [.one (.int .i64 n), .one (.int .i64 lo), .one (.int .i64 hi)] σ Qp by kernel_rfl) ▸ h)
def an_conf_plan_approach : Ann := { esc := [], cbs := [2, 3], draws := [], loops := [], joins := [] }
def V_conf_plan_approach (p0 : D) (p1 : D) (p2 : D) (p3 : D) (p4 : D) (p5 : Int) (p6 : Int) (p7 : Int) (p8 : Int) (r0 : Int) (r1 : Int) (r2 : D) (r3 : D) (r4 : D) (r5 : Bool) (σ : Store) (Qp : RV → Store → Prop) : Prop :=
  DCalls Tryz.prog n_conf_plan_signal [.agg [p0, p1, p2, p3, p4, .int .i64 p5, .int .i64 p6, .int .i64 p7, .int .i64 p8], .one (.int .i64 r0)] σ (fun (r : RV) => fun (σ' : Store) => ∃ n : Int, ∃ n1 : Int, ∃ b : Bool, (r = (.tup [.agg [.int .i64 n, .int .i64 n1], .one (.bool b)] : RV)) ∧ bcase (!b) (Qp (.a (.one (.int .i64 (-1)))) σ') (Qp (.a (.one (.int .i64 n))) σ'))
theorem W_conf_plan_approach (p0 : D) (p1 : D) (p2 : D) (p3 : D) (p4 : D) (p5 : Int) (p6 : Int) (p7 : Int) (p8 : Int) (r0 : Int) (r1 : Int) (r2 : D) (r3 : D) (r4 : D) (r5 : Bool) (σ : Store) (Qp : RV → Store → Prop) (h : V_conf_plan_approach p0 p1 p2 p3 p4 p5 p6 p7 p8 r0 r1 r2 r3 r4 r5 σ Qp) : DCalls Tryz.prog n_conf_plan_approach [.agg [p0, p1, p2, p3, p4, .int .i64 p5, .int .i64 p6, .int .i64 p7, .int .i64 p8], .agg [.int .i64 r0, .int .i64 r1, r2, r3, r4, .bool r5]] σ Qp :=
  dcalls_of_body mixed (by kernel_rfl) Tryz.func66 an_conf_plan_approach ((show V_conf_plan_approach p0 p1 p2 p3 p4 p5 p6 p7 p8 r0 r1 r2 r3 r4 r5 σ Qp = dbody Tryz.prog Tryz.f66 an_conf_plan_approach [.agg [p0, p1, p2, p3, p4, .int .i64 p5, .int .i64 p6, .int .i64 p7, .int .i64 p8], .agg [.int .i64 r0, .int .i64 r1, r2, r3, r4, .bool r5]] σ Qp by kernel_rfl) ▸ h)
def an_topo_between : Ann := { esc := [], cbs := [], draws := [], loops := [], joins := [] }
def V_topo_between (n : Int) (lo : Int) (hi : Int) (σ : Store) (Qp : RV → Store → Prop) : Prop :=
  bcase (decide (lo ≤ n)) (Qp (.a (.one (.bool (decide (n ≤ hi))))) σ) (Qp (.a (.one (.bool false))) σ)
theorem W_topo_between (n : Int) (lo : Int) (hi : Int) (σ : Store) (Qp : RV → Store → Prop) (h : V_topo_between n lo hi σ Qp) : DCalls Tryz.prog n_topo_between [.one (.int .i64 n), .one (.int .i64 lo), .one (.int .i64 hi)] σ Qp :=
  dcalls_of_body mixed (by kernel_rfl) Tryz.func70 an_topo_between ((show V_topo_between n lo hi σ Qp = dbody Tryz.prog Tryz.f70 an_topo_between [.one (.int .i64 n), .one (.int .i64 lo), .one (.int .i64 hi)] σ Qp by kernel_rfl) ▸ h)
def an_conf_plan_path : Ann := { esc := [], cbs := [2, 3], draws := [], loops := [(7, { mods := [(5, SlotSh.bx [Sh.int IntKind.i64, Sh.int IntKind.i64]), (63, SlotSh.one (Sh.int IntKind.i64))], keep := [2, 3, 7, 8, 9, 61, 62] })], joins := [(5, { mods := [], keep := [2, 3, 5, 7, 8] }), (18, { mods := [(5, SlotSh.bx [Sh.int IntKind.i64, Sh.int IntKind.i64])], keep := [2, 3, 7, 8, 9, 61, 62, 63] }), (16, { mods := [(20, SlotSh.one (Sh.bool))], keep := [2, 3, 5, 7, 8, 9, 11, 12, 13, 14, 15, 18, 19, 61, 62, 63] })] }
def V_conf_plan_path (p0 : D) (p1 : D) (p2 : D) (p3 : D) (p4 : D) (p5 : Int) (p6 : Int) (p7 : Int) (p8 : Int) (r0 : Int) (r1 : Int) (r2 : D) (r3 : D) (r4 : D) (r5 : Bool) (σ : Store) (Qp : RV → Store → Prop) : Prop :=
  DCalls Tryz.prog n_conf_plan_signal [.agg [p0, p1, p2, p3, p4, .int .i64 p5, .int .i64 p6, .int .i64 p7, .int .i64 p8], .one (.int .i64 r0)] σ (fun (r : RV) => fun (σ' : Store) => ∃ n : Int, ∃ n1 : Int, ∃ b : Bool, (r = (.tup [.agg [.int .i64 n, .int .i64 n1], .one (.bool b)] : RV)) ∧ DCalls Tryz.prog n_conf_plan_signal [.agg [p0, p1, p2, p3, p4, .int .i64 p5, .int .i64 p6, .int .i64 p7, .int .i64 p8], .one (.int .i64 r1)] σ' (fun (r6 : RV) => fun (σ'1 : Store) => ∃ n2 : Int, ∃ n3 : Int, ∃ b1 : Bool, (r6 = (.tup [.agg [.int .i64 n2, .int .i64 n3], .one (.bool b1)] : RV)) ∧ ∀ R : Store → Prop, (∀ σ'2 : Store, (Fw.newObj σ'2 (.mp 0 []) (fun (id : Nat) => fun (σ'3 : Store) => MPut Tryz.prog t_int σ'3 (.omap id) (.one (.int .i64 n)) (.one (.int .i64 1)) (fun (σ'4 : Store) => ∃ len : Nat, (Len r2 len) ∧ ∃ I : Int → Int → Int → Store → Prop, ∃ μ : Int → Int → Int → Store → Nat, (I n n1 0 σ'4) ∧ ∀ n4 : Int, ∀ n5 : Int, ∀ n6 : Int, ∀ σ'5 : Store, (I n4 n5 n6 σ'5) → bcase (decide (n6 < (len : Int))) (∀ R1 : Int → Int → Store → Prop, (∀ n7 : Int, ∀ n8 : Int, ∀ σ'6 : Store, ((([[.int .i64 n2, .int .i64 n3]] : List (List D)) = ([[.int .i64 n2, .int .i64 n3]] : List (List D))) ∧ (I n7 n8 (w64 (n6 + 1)) σ'6) ∧ ((μ n7 n8 (w64 (n6 + 1)) σ'6) < (μ n4 n5 n6 σ'5))) → R1 n7 n8 σ'6) → ∃ len1 : Nat, (Idx Tryz.prog σ'5 r2 3 len1) ∧ ((0 : Int) ≤ n6) ∧ (n6 < (len1 : Int)) ∧ ∃ row : List D, (Row σ'5 r2 (Int.toNat n6) row) ∧ ∃ n7 : Int, ∃ n8 : Int, ∃ n9 : Int, ((List.take 3 row) = ([.int .i64 n7, .int .i64 n8, .int .i64 n9] : List D)) ∧ DCalls Tryz.prog n_topo_Next [.one p1, .one (.int .i64 n4), .one (.int .i64 n5)] σ'5 (fun (r7 : RV) => fun (σ'6 : Store) => ∃ n10 : Int, ∃ n11 : Int, ∃ b2 : Bool, (r7 = (.tup [.one (.int .i64 n10), .one (.int .i64 n11), .one (.bool b2)] : RV)) ∧ DCalls Tryz.prog n_conf_plan_section [.agg [p0, p1, p2, p3, p4, .int .i64 p5, .int .i64 p6, .int .i64 p7, .int .i64 p8], .one (.int .i64 n10)] σ'6 (fun (r8 : RV) => fun (σ'7 : Store) => ∃ n12 : Int, ∃ n13 : Int, ∃ n14 : Int, ∃ b3 : Bool, (r8 = (.tup [.agg [.int .i64 n12, .int .i64 n13, .int .i64 n14], .one (.bool b3)] : RV)) ∧ DCalls Tryz.prog n_topo_Pos [.one (.int .i64 n12), .one (.int .i64 n8), .one (.int .i64 n9)] σ'7 (fun (r9 : RV) => fun (σ'8 : Store) => ∃ n15 : Int, ∃ b4 : Bool, (r9 = (.tup [.one (.int .i64 n15), .one (.bool b4)] : RV)) ∧ ∃ r10 : Option A, (MLook Tryz.prog t_int σ'8 (.omap id) (.one (.int .i64 n10)) r10) ∧ ∃ n16 : Int, ((Option.getD r10 (.one (.int .i64 0))) = (.one (.int .i64 n16) : A)) ∧ MPut Tryz.prog t_int σ'8 (.omap id) (.one (.int .i64 n10)) (.one (.int .i64 (w64 (n16 + 1)))) (fun (σ'9 : Store) => DCalls Tryz.prog n_slices_Contains_Signal [.one p2, .agg [.int .i64 n7, .int .i64 n9]] σ'9 (fun (r11 : RV) => fun (σ'10 : Store) => ∃ b5 : Bool, (r11 = (.a (.one (.bool b5)) : RV)) ∧ ∀ R2 : Bool → Store → Prop, (∀ b6 : Bool, ∀ σ'11 : Store, (bcase (!b2) (Qp (.a (.one (.bool false))) σ'11) (bcase (n10 != n7) (Qp (.a (.one (.bool false))) σ'11) (bcase (n11 != n8) (Qp (.a (.one (.bool false))) σ'11) (bcase (!b4) (Qp (.a (.one (.bool false))) σ'11) (∃ r12 : Option A, (MLook Tryz.prog t_int σ'11 (.omap id) (.one (.int .i64 n10)) r12) ∧ ∃ n17 : Int, ((Option.getD r12 (.one (.int .i64 0))) = (.one (.int .i64 n17) : A)) ∧ bcase (decide (n17 > 1)) (Qp (.a (.one (.bool false))) σ'11) (bcase b5 (bcase (!b6) (Qp (.a (.one (.bool false))) σ'11) (bcase r5 (bcase (n14 != 0) (Qp (.a (.one (.bool false))) σ'11) ((([[.int .i64 n2, .int .i64 n3]] : List (List D)) = ([[.int .i64 n2, .int .i64 n3]] : List (List D))) ∧ R1 n7 n9 σ'11)) ((([[.int .i64 n2, .int .i64 n3]] : List (List D)) = ([[.int .i64 n2, .int .i64 n3]] : List (List D))) ∧ R1 n7 n9 σ'11))) (bcase r5 (bcase (n14 != 0) (Qp (.a (.one (.bool false))) σ'11) ((([[.int .i64 n2, .int .i64 n3]] : List (List D)) = ([[.int .i64 n2, .int .i64 n3]] : List (List D))) ∧ R1 n7 n9 σ'11)) ((([[.int .i64 n2, .int .i64 n3]] : List (List D)) = ([[.int .i64 n2, .int .i64 n3]] : List (List D))) ∧ R1 n7 n9 σ'11)))))))) → R2 b6 σ'11) → ∃ len2 : Nat, (Len r2 len2) ∧ bcase (n6 == (w64 ((len2 : Int) - 1))) (bcase b1 ((([[.int .i64 n7, .int .i64 n9], [.int .i64 n2, .int .i64 n3], [.int .i64 n7, .int .i64 n8, .int .i64 n9], [.int .i64 n12, .int .i64 n13, .int .i64 n14]] : List (List D)) = ([[.int .i64 n7, .int .i64 n9], [.int .i64 n2, .int .i64 n3], [.int .i64 n7, .int .i64 n8, .int .i64 n9], [.int .i64 n12, .int .i64 n13, .int .i64 n14]] : List (List D))) ∧ R2 ((n7 == n2) && (n9 == n3)) σ'10) ((([[.int .i64 n7, .int .i64 n9], [.int .i64 n2, .int .i64 n3], [.int .i64 n7, .int .i64 n8, .int .i64 n9], [.int .i64 n12, .int .i64 n13, .int .i64 n14]] : List (List D)) = ([[.int .i64 n7, .int .i64 n9], [.int .i64 n2, .int .i64 n3], [.int .i64 n7, .int .i64 n8, .int .i64 n9], [.int .i64 n12, .int .i64 n13, .int .i64 n14]] : List (List D))) ∧ R2 false σ'10)) ((([[.int .i64 n7, .int .i64 n9], [.int .i64 n2, .int .i64 n3], [.int .i64 n7, .int .i64 n8, .int .i64 n9], [.int .i64 n12, .int .i64 n13, .int .i64 n14]] : List (List D)) = ([[.int .i64 n7, .int .i64 n9], [.int .i64 n2, .int .i64 n3], [.int .i64 n7, .int .i64 n8, .int .i64 n9], [.int .i64 n12, .int .i64 n13, .int .i64 n14]] : List (List D))) ∧ R2 false σ'10))))))) (bcase b1 (Qp (.a (.one (.bool ((n4 == n2) && (n5 == n3))))) σ'5) (DCalls Tryz.prog n_topo_Next [.one p1, .one (.int .i64 n4), .one (.int .i64 n5)] σ'5 (fun (r7 : RV) => fun (σ'6 : Store) => ∃ n7 : Int, ∃ n8 : Int, ∃ b2 : Bool, (r7 = (.tup [.one (.int .i64 n7), .one (.int .i64 n8), .one (.bool b2)] : RV)) ∧ Qp (.a (.one (.bool (!b2)))) σ'6)))))) → R σ'2) → bcase (!b) (Qp (.a (.one (.bool false))) σ'1) (bcase (!b1) (bcase (r1 != (-1)) (Qp (.a (.one (.bool false))) σ'1) (∃ len : Nat, (Len r2 len) ∧ DCalls Tryz.prog n_conf_between [.one (.int .i64 (len : Int)), .one (.int .i64 1), .one (.int .i64 8)] σ'1 (fun (r7 : RV) => fun (σ'2 : Store) => ∃ b2 : Bool, (r7 = (.a (.one (.bool b2)) : RV)) ∧ bcase (!b2) (Qp (.a (.one (.bool false))) σ'2) ((([[.int .i64 n, .int .i64 n1], [.int .i64 n2, .int .i64 n3]] : List (List D)) = ([[.int .i64 n, .int .i64 n1], [.int .i64 n2, .int .i64 n3]] : List (List D))) ∧ R σ'2)))) (∃ len : Nat, (Len r2 len) ∧ DCalls Tryz.prog n_conf_between [.one (.int .i64 (len : Int)), .one (.int .i64 1), .one (.int .i64 8)] σ'1 (fun (r7 : RV) => fun (σ'2 : Store) => ∃ b2 : Bool, (r7 = (.a (.one (.bool b2)) : RV)) ∧ bcase (!b2) (Qp (.a (.one (.bool false))) σ'2) ((([[.int .i64 n, .int .i64 n1], [.int .i64 n2, .int .i64 n3]] : List (List D)) = ([[.int .i64 n, .int .i64 n1], [.int .i64 n2, .int .i64 n3]] : List (List D))) ∧ R σ'2))))))
theorem W_conf_plan_path (p0 : D) (p1 : D) (p2 : D) (p3 : D) (p4 : D) (p5 : Int) (p6 : Int) (p7 : Int) (p8 : Int) (r0 : Int) (r1 : Int) (r2 : D) (r3 : D) (r4 : D) (r5 : Bool) (σ : Store) (Qp : RV → Store → Prop) (h : V_conf_plan_path p0 p1 p2 p3 p4 p5 p6 p7 p8 r0 r1 r2 r3 r4 r5 σ Qp) : DCalls Tryz.prog n_conf_plan_path [.agg [p0, p1, p2, p3, p4, .int .i64 p5, .int .i64 p6, .int .i64 p7, .int .i64 p8], .agg [.int .i64 r0, .int .i64 r1, r2, r3, r4, .bool r5]] σ Qp :=
  dcalls_of_body mixed (by kernel_rfl) Tryz.func74 an_conf_plan_path ((show V_conf_plan_path p0 p1 p2 p3 p4 p5 p6 p7 p8 r0 r1 r2 r3 r4 r5 σ Qp = dbody Tryz.prog Tryz.f74 an_conf_plan_path [.agg [p0, p1, p2, p3, p4, .int .i64 p5, .int .i64 p6, .int .i64 p7, .int .i64 p8], .agg [.int .i64 r0, .int .i64 r1, r2, r3, r4, .bool r5]] σ Qp by kernel_rfl) ▸ h)
def an_conf_plan_overlap : Ann := { esc := [], cbs := [2, 3], draws := [], loops := [], joins := [(4, { mods := [], keep := [2, 3, 5] })] }
def V_conf_plan_overlap (p0 : D) (p1 : D) (p2 : D) (p3 : D) (p4 : D) (p5 : Int) (p6 : Int) (p7 : Int) (p8 : Int) (r0 : Int) (r1 : Int) (r2 : D) (r3 : D) (r4 : D) (r5 : Bool) (σ : Store) (Qp : RV → Store → Prop) : Prop :=
  DCalls Tryz.prog n_conf_plan_signal [.agg [p0, p1, p2, p3, p4, .int .i64 p5, .int .i64 p6, .int .i64 p7, .int .i64 p8], .one (.int .i64 r1)] σ (fun (r : RV) => fun (σ' : Store) => ∃ n : Int, ∃ n1 : Int, ∃ b : Bool, (r = (.tup [.agg [.int .i64 n, .int .i64 n1], .one (.bool b)] : RV)) ∧ ∀ R : Store → Prop, (∀ σ'1 : Store, (DCalls Tryz.prog n_topo_Next [.one p1, .one (.int .i64 n), .one (.int .i64 n1)] σ'1 (fun (r6 : RV) => fun (σ'2 : Store) => ∃ n2 : Int, ∃ n3 : Int, ∃ b1 : Bool, (r6 = (.tup [.one (.int .i64 n2), .one (.int .i64 n3), .one (.bool b1)] : RV)) ∧ DCalls Tryz.prog n_conf_plan_section [.agg [p0, p1, p2, p3, p4, .int .i64 p5, .int .i64 p6, .int .i64 p7, .int .i64 p8], .one (.int .i64 n2)] σ'2 (fun (r7 : RV) => fun (σ'3 : Store) => ∃ n4 : Int, ∃ n5 : Int, ∃ n6 : Int, ∃ b2 : Bool, (r7 = (.tup [.agg [.int .i64 n4, .int .i64 n5, .int .i64 n6], .one (.bool b2)] : RV)) ∧ bcase (!b1) (Qp (.a (.one .nils)) σ'3) (bcase (!b2) (Qp (.a (.one .nils)) σ'3) (bcase (n6 != 0) (Qp (.a (.one .nils)) σ'3) (DCalls Tryz.prog n_conf_has [.one r2, .one (.int .i64 n2)] σ'3 (fun (r8 : RV) => fun (σ'4 : Store) => ∃ b3 : Bool, (r8 = (.a (.one (.bool b3)) : RV)) ∧ bcase b3 (Qp (.a (.one .nils)) σ'4) (DCalls Tryz.prog n_conf_plan_approach [.agg [p0, p1, p2, p3, p4, .int .i64 p5, .int .i64 p6, .int .i64 p7, .int .i64 p8], .agg [.int .i64 r0, .int .i64 r1, r2, r3, r4, .bool r5]] σ'4 (fun (r9 : RV) => fun (σ'5 : Store) => ∃ n7 : Int, (r9 = (.a (.one (.int .i64 n7)) : RV)) ∧ bcase (n2 == n7) (Qp (.a (.one .nils)) σ'5) (Fw.newObj σ'5 (.live t_int [[.int .i64 n2]]) (fun (id : Nat) => fun (σ'6 : Store) => Qp (.a (.one (.osl id 0 1))) σ'6))))))))))) → R σ'1) → bcase r5 (Qp (.a (.one .nils)) σ') (bcase (!b) (Qp (.a (.one .nils)) σ') ((([[.int .i64 n, .int .i64 n1]] : List (List D)) = ([[.int .i64 n, .int .i64 n1]] : List (List D))) ∧ R σ')))
theorem W_conf_plan_overlap (p0 : D) (p1 : D) (p2 : D) (p3 : D) (p4 : D) (p5 : Int) (p6 : Int) (p7 : Int) (p8 : Int) (r0 : Int) (r1 : Int) (r2 : D) (r3 : D) (r4 : D) (r5 : Bool) (σ : Store) (Qp : RV → Store → Prop) (h : V_conf_plan_overlap p0 p1 p2 p3 p4 p5 p6 p7 p8 r0 r1 r2 r3 r4 r5 σ Qp) : DCalls Tryz.prog n_conf_plan_overlap [.agg [p0, p1, p2, p3, p4, .int .i64 p5, .int .i64 p6, .int .i64 p7, .int .i64 p8], .agg [.int .i64 r0, .int .i64 r1, r2, r3, r4, .bool r5]] σ Qp :=
  dcalls_of_body mixed (by kernel_rfl) Tryz.func78 an_conf_plan_overlap ((show V_conf_plan_overlap p0 p1 p2 p3 p4 p5 p6 p7 p8 r0 r1 r2 r3 r4 r5 σ Qp = dbody Tryz.prog Tryz.f78 an_conf_plan_overlap [.agg [p0, p1, p2, p3, p4, .int .i64 p5, .int .i64 p6, .int .i64 p7, .int .i64 p8], .agg [.int .i64 r0, .int .i64 r1, r2, r3, r4, .bool r5]] σ Qp by kernel_rfl) ▸ h)
def an_slices_ContainsFunc_Need : Ann := { esc := [], cbs := [], draws := [], loops := [], joins := [] }
def V_slices_ContainsFunc_Need (s : D) (f : D) (σ : Store) (Qp : RV → Store → Prop) : Prop :=
  DCalls Tryz.prog n_slices_IndexFunc_Need [.one s, .one f] σ (fun (r : RV) => fun (σ' : Store) => ∃ n : Int, (r = (.a (.one (.int .i64 n)) : RV)) ∧ Qp (.a (.one (.bool (decide (n ≥ 0))))) σ')
theorem W_slices_ContainsFunc_Need (s : D) (f : D) (σ : Store) (Qp : RV → Store → Prop) (h : V_slices_ContainsFunc_Need s f σ Qp) : DCalls Tryz.prog n_slices_ContainsFunc_Need [.one s, .one f] σ Qp :=
  dcalls_of_body mixed (by kernel_rfl) Tryz.func93 an_slices_ContainsFunc_Need ((show V_slices_ContainsFunc_Need s f σ Qp = dbody Tryz.prog Tryz.f93 an_slices_ContainsFunc_Need [.one s, .one f] σ Qp by kernel_rfl) ▸ h)
def an_slices_IndexFunc_Need : Ann := { esc := [], cbs := [], draws := [], loops := [(2, { mods := [(8, SlotSh.one (Sh.int IntKind.i64))], keep := [0, 1, 7] })], joins := [] }
def V_slices_IndexFunc_Need (s : D) (f : D) (σ : Store) (Qp : RV → Store → Prop) : Prop :=
  ∃ len : Nat, (Len s len) ∧ ∃ I : Int → Store → Prop, ∃ μ : Int → Store → Nat, (I 0 σ) ∧ ∀ n : Int, ∀ σ' : Store, (I n σ') → bcase (decide (n < (len : Int))) (∃ len1 : Nat, (Idx Tryz.prog σ' s 2 len1) ∧ ((0 : Int) ≤ n) ∧ (n < (len1 : Int)) ∧ ∃ row : List D, (Row σ' s (Int.toNat n) row) ∧ ∃ n1 : Int, ∃ n2 : Int, ((List.take 2 row) = ([.int .i64 n1, .int .i64 n2] : List D)) ∧ ∃ f1 : FuncId, ∃ a : List (Bool × (List D)), ∃ b : List (Bool × (List D)), ∃ as0' : List A, ∃ bs : List A, (f = (.fn f1 a b : D)) ∧ ((capAs a) = (Option.some as0')) ∧ ((capAs b) = (Option.some bs)) ∧ DCalls Tryz.prog f1 (HAppend.hAppend (HAppend.hAppend as0' [.agg [.int .i64 n1, .int .i64 n2]]) bs) σ' (fun (r : RV) => fun (σ'1 : Store) => ∃ b1 : Bool, (r = (.a (.one (.bool b1)) : RV)) ∧ bcase b1 (Qp (.a (.one (.int .i64 n))) σ'1) ((I (w64 (n + 1)) σ'1) ∧ ((μ (w64 (n + 1)) σ'1) < (μ n σ'))))) (Qp (.a (.one (.int .i64 (-1)))) σ')
theorem W_slices_IndexFunc_Need (s : D) (f : D) (σ : Store) (Qp : RV → Store → Prop) (h : V_slices_IndexFunc_Need s f σ Qp) : DCalls Tryz.prog n_slices_IndexFunc_Need [.one s, .one f] σ Qp :=
  dcalls_of_body mixed (by kernel_rfl) Tryz.func103 an_slices_IndexFunc_Need ((show V_slices_IndexFunc_Need s f σ Qp = dbody Tryz.prog Tryz.f103 an_slices_IndexFunc_Need [.one s, .one f] σ Qp by kernel_rfl) ▸ h)
end Go.Proofs.YtcbmibgfmlpobaaGreat
end
