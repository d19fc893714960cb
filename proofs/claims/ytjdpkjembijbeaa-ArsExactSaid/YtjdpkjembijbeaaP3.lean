/-
  Proofs that the statement of this claim leans on: part 3.
-/
import Derived.Test.YtjdpkjembijbeaaP2
set_option linter.unusedVariables false
set_option linter.unusedSimpArgs false
namespace Go.Fw
section
abbrev w64 (n : Int) : Int := IntKind.i64.wrap n
inductive Fz (P : Program) (σ : Store) (S : Nat → Prop) : D → D → Prop
 | int (q n) : Fz P σ S (.int q n) (.int q n)
 | bool (b) : Fz P σ S (.bool b) (.bool b)
 | str (s) : Fz P σ S (.str s) (.str s)
 | nils : Fz P σ S .nils .nils
 | zsl : Fz P σ S .zsl .zsl
 | sl (es : Nat) (rows rows' : List (List D)) (hl : rows'.length = rows.length) (hr : ∀ (i : Nat) row row', rows[i]? = some row → rows'[i]? = some row' → row'.length = row.length)
     (hc : ∀ (i : Nat) row row' (j : Nat) d d', rows[i]? = some row → rows'[i]? = some row' → row[j]? = some d → row'[j]? = some d' → Fz P σ S d d') : Fz P σ S (.sl es rows) (.sl es rows')
 | keep (id i len) (h : S id) : Fz P σ S (.osl id i len) (.osl id i len)
 | osl (id i len : Nat) (t : TypeId) (rows rows' : List (List D)) (hn : ¬ S id) (hs : σ id = .live t rows) (hi : i + len ≤ rows.length) (hl : rows'.length = len)
     (hr : ∀ (j : Nat) row row', rows[i + j]? = some row → rows'[j]? = some row' → row'.length = row.length)
     (hc : ∀ (j : Nat) row row' (m : Nat) d d', rows[i + j]? = some row → rows'[j]? = some row' → row[m]? = some d → row'[m]? = some d' → Fz P σ S d d') : Fz P σ S (.osl id i len) (.sl (P.cellsOf t) rows')
 | nilp : Fz P σ S .nilp .nilp
 | el (s i off) (h : Fz P σ S s s) : Fz P σ S (.el s i off) (.el s i off)
 | nilf : Fz P σ S .nilf .nilf
 | fn0 (f) : Fz P σ S (.fn f [] []) (.fn f [] [])
 | nilm : Fz P σ S .nilm .nilm
 | omap (id) (h : S id) : Fz P σ S (.omap id) (.omap id)
def FzL (P : Program) (σ : Store) (S : Nat → Prop) (ds ds' : List D) : Prop :=
 ds'.length = ds.length ∧ ∀ (i : Nat) d d', ds[i]? = some d → ds'[i]? = some d' → Fz P σ S d d'
def FzA (P : Program) (σ : Store) (S : Nat → Prop) : A → A → Prop
 | .one d, .one d' => Fz P σ S d d'
 | .agg cs, .agg cs' => FzL P σ S cs cs'
 | _, _ => False
def FzR (P : Program) (σ : Store) (S : Nat → Prop) : RV → RV → Prop
 | .a x, .a y => FzA P σ S x y
 | .tup xs, .tup ys => ys.length = xs.length ∧ ∀ (i : Nat) x y, xs[i]? = some x → ys[i]? = some y → FzA P σ S x y
 | _, _ => False
def FzO (P : Program) (σ0 σ : Store) (S : Nat → Prop) (i : Nat) (so' : SO) : Prop :=
 (so' = σ i ∧ σ i = σ0 i) ∨
 match σ i, so' with
 | .free, .free => True
 | .dead, .dead => True
 | .live t rows, .live t' rows' => t' = t ∧ rows'.length = rows.length ∧ ∀ (j : Nat) row row', rows[j]? = some row → rows'[j]? = some row' → FzL P σ S row row'
 | .mp c es, .mp c' es' => c' = c ∧ es'.length = es.length ∧ ∀ (j : Nat) e e', es[j]? = some e → es'[j]? = some e' → e'.1 = e.1 ∧ FzA P σ S e.2.1 e'.2.1 ∧ FzA P σ S e.2.2 e'.2.2
 | _, _ => False
def Ret (P : Program) (σ0 σ : Store) (r : RV) (σ' : Store) (r' : RV) : Prop :=
 ∃ S : Nat → Prop, (∀ i, σ0 i ≠ .free → S i) ∧ (∀ i, ¬ S i → σ' i = .free) ∧ (∀ i, S i → FzO P σ0 σ S i (σ' i)) ∧ FzR P σ S r r'
section
variable {P : Program} {k k0 : Nat → Prop} {β β0 : Bk} {σ σ0 σ' : Store} {W W0 : World} {S : Nat → Prop} {β2 : Bk}
def IsRest (β : Bk) (S : Nat → Prop) (β2 : Bk) : Prop := (∀ i, S i → β2 i = β i) ∧ ∀ i, ¬ S i → β2 i = none
theorem rest_exists (β : Bk) (S : Nat → Prop) : ∃ β2, IsRest β S β2 := by
 have h : ∀ i, ∃ b : Option BI, (S i → b = β i) ∧ (¬ S i → b = none) := fun i => by
   by_cases hs : S i
   · exact ⟨β i, fun _ => rfl, fun h => absurd hs h⟩
   · exact ⟨none, fun h => absurd h hs, fun _ => rfl⟩
 obtain ⟨f, hf⟩ := Classical.axiomOfChoice h
 exact ⟨f, fun i hi => (hf i).1 hi, fun i hi => (hf i).2 hi⟩
def restK (k : Nat → Prop) (β : Bk) (σ : Store) (S : Nat → Prop) : Nat → Prop := fun b => k b ∨ ∃ i bi t rows, β i = some bi ∧ ¬ S i ∧ σ i = .live t rows ∧ bi.blk = b
theorem restB_some {β2 : Bk} (hB : IsRest β S β2) {i : Nat} {bi : BI} (h : β2 i = some bi) : S i ∧ β i = some bi := by
 by_cases hs : S i
 · rw [hB.1 i hs] at h; exact ⟨hs, h⟩
 · rw [hB.2 i hs] at h; cases h
theorem restB_of {β2 : Bk} (hB : IsRest β S β2) {i : Nat} {bi : BI} (hs : S i) (h : β i = some bi) : β2 i = some bi := by rw [hB.1 i hs]; exact h
theorem Fz.ok (hB : IsRest β S β2) (h : SRel P k β W σ) {v : Value} {d d' : D} (hf : Fz P σ S d d') : V k β W v d → V (restK k β σ S) β2 W v d' := by
 induction hf generalizing v with
 | int q n => intro hv; cases hv; exact .int q n
 | bool b => intro hv; cases hv; exact .bool b
 | str s => intro hv; cases hv; exact .str s
 | nils => intro hv; cases hv; exact .nils
 | zsl => intro hv; cases hv; exact .zsl _
 | sl es rows rows' hl hr hc ih =>
   intro hv
   cases hv with
   | sl a len cap _ _ f hk hlen hcap hes hcell hval =>
     have back : ∀ (i : Nat) row', rows'[i]? = some row' → ∃ row, rows[i]? = some row ∧ row'.length = row.length := fun i row' hi => by
       have hlt := (List.getElem?_eq_some_iff.1 hi).1
       have := List.getElem?_eq_getElem (l := rows) (i := i) (by omega)
       exact ⟨_, this, hr i _ _ this hi⟩
     refine .sl a len cap es rows' f (fun hne => ?_) (by omega) hcap (fun i row' hi => ?_) (fun i row' j d hi hj => ?_) (fun i row' j d hi hj => ?_)
     · have := hk (fun e => by subst e; simp at hl; exact hne hl)
       exact ⟨.inl this.1, this.2⟩
     · obtain ⟨row, h1, h2⟩ := back i row' hi
       rw [h2]; exact hes i row h1
     · obtain ⟨row, h1, h2⟩ := back i row' hi
       have hlt := (List.getElem?_eq_some_iff.1 hj).1
       exact hcell i row j _ h1 (List.getElem?_eq_getElem (by omega))
     · obtain ⟨row, h1, h2⟩ := back i row' hi
       have hlt := (List.getElem?_eq_some_iff.1 hj).1
       have hd := List.getElem?_eq_getElem (l := row) (i := j) (by omega)
       exact ih i row row' j _ d h1 hi hd hj (hval i row j _ h1 hd)
 | keep id i len hs =>
   intro hv
   cases hv with
   | osl _ _ _ cap a bi hb ha hc hsz => exact .osl id i len cap a bi (restB_of hB hs hb) ha hc hsz
 | osl id i len t rows rows' hn hs hi hl hr hc ih =>
   intro hv
   cases hv with
   | osl _ _ _ cap a bi hb ha hcap hsz =>
     obtain ⟨arr, g1, g2, g3, g4, g5, g6, g7⟩ := h.obj id bi t rows hb hs
     have back : ∀ (j : Nat) row', rows'[j]? = some row' → j < len ∧ ∃ row, rows[i + j]? = some row ∧ row'.length = row.length := fun j row' hj => by
       have hlt := (List.getElem?_eq_some_iff.1 hj).1
       have := List.getElem?_eq_getElem (l := rows) (i := i + j) (by omega)
       exact ⟨by omega, _, this, hr j _ _ this hj⟩
     refine .sl a len cap (P.cellsOf t) rows' (fun j m => arr.getD ((i + j) * bi.es + m) undef) (fun hne => ?_) hl hcap (fun j row' hj => ?_) (fun j row' m d hj hm => ?_) (fun j row' m d hj hm => ?_)
     · have hpos : 0 < len := by
         rw [← hl]
         cases rows' with
         | nil => exact absurd rfl hne
         | cons => simp
       have := ha (by omega)
       subst this
       exact ⟨.inr ⟨id, bi, t, rows, hb, hn, hs, rfl⟩, rfl⟩
     · obtain ⟨_, row, h1, h2⟩ := back j row' hj
       rw [h2, g3]; exact g6 _ row h1
     · obtain ⟨hlt, row, h1, h2⟩ := back j row' hj
       have hmlt := (List.getElem?_eq_some_iff.1 hm).1
       obtain ⟨v, q1, _⟩ := g7 (i + j) row m _ h1 (List.getElem?_eq_getElem (by omega))
       have := ha (by omega)
       subst this
       have e1 : i * bi.es + j * P.cellsOf t + m = (i + j) * bi.es + m := by rw [g3, Nat.add_mul]
       show W.cell? ⟨bi.blk, i * bi.es + j * P.cellsOf t + m, none⟩ = _
       rw [cell_of_heap g1, e1, q1, Array.getD_eq_getD_getElem?, q1]; rfl
     · obtain ⟨hlt, row, h1, h2⟩ := back j row' hj
       have hmlt := (List.getElem?_eq_some_iff.1 hm).1
       have hd := List.getElem?_eq_getElem (l := row) (i := m) (by omega)
       obtain ⟨v, q1, q2⟩ := g7 (i + j) row m _ h1 hd
       have := ih j row row' m _ d h1 hj hd hm q2
       rw [Array.getD_eq_getD_getElem?, q1]; exact this
 | nilp => intro hv; cases hv; exact .nilp
 | el s i off hs ih =>
   intro hv
   cases hv with
   | elsl a len cap es rows _ _ hs' hi => exact .elsl a len cap es rows i off (ih hs') hi
   | elosl id i0 len _ _ bi hb hi =>
     cases hs with
     | keep _ _ _ hs => exact .elosl id i0 len i off bi (restB_of hB hs hb) hi
 | nilf => intro hv; cases hv; exact .nilf
 | fn0 f =>
   intro hv
   cases hv with
   | fn _ first caps _ _ g g' h1 h2 h3 h4 h5 h6 => exact .fn f first caps [] [] g g' h1 h2 (fun i b cs j d hi => by simp at hi) h4 h5 (fun i b cs j d hi => by simp at hi)
 | nilm => intro hv; cases hv; exact .nilm
 | omap id hs =>
   intro hv
   cases hv with
   | omap _ bi hb => exact .omap id bi (restB_of hB hs hb)
theorem FzL.ok (hB : IsRest β S β2) (h : SRel P k β W σ) {vs : List Value} {ds ds' : List D} (hf : FzL P σ S ds ds') (hv : VL k β W vs ds) : VL (restK k β σ S) β2 W vs ds' := by
 refine ⟨by rw [hv.1, hf.1], fun i v d' h1 h2 => ?_⟩
 have hlt := (List.getElem?_eq_some_iff.1 h2).1
 have hd := List.getElem?_eq_getElem (l := ds) (i := i) (by rw [← hf.1]; exact hlt)
 exact (hf.2 i _ d' hd h2).ok hB h (hv.2 i v _ h1 hd)
theorem FzA.ok (hB : IsRest β S β2) (h : SRel P k β W σ) {v : Value} {x y : A} (hf : FzA P σ S x y) (hv : VA k β W v x) : VA (restK k β σ S) β2 W v y := by
 cases x with
 | one d => cases y with
   | one d' => exact Fz.ok hB h hf hv
   | agg => exact hf.elim
 | agg cs => cases y with
   | one => exact hf.elim
   | agg cs' => obtain ⟨vs, e, hv⟩ := hv; exact ⟨vs, e, FzL.ok hB h hf hv⟩
theorem FzR.ok (hB : IsRest β S β2) (h : SRel P k β W σ) {v : Value} {x y : RV} (hf : FzR P σ S x y) (hv : VR k β W v x) : VR (restK k β σ S) β2 W v y := by
 cases x with
 | a x => cases y with
   | a y => exact FzA.ok hB h hf hv
   | tup => exact hf.elim
 | tup xs => cases y with
   | a => exact hf.elim
   | tup ys =>
     obtain ⟨vs, e, hs, hv⟩ := hv
     refine ⟨vs, e, by rw [hs, hf.1], fun i u y h1 h2 => ?_⟩
     have hlt := (List.getElem?_eq_some_iff.1 h2).1
     have hd := List.getElem?_eq_getElem (l := xs) (i := i) (by rw [← hf.1]; exact hlt)
     exact (hf.2 i _ y hd h2).ok hB h (hv i u _ h1 hd)
theorem V.rest (hB : IsRest β S β2) {v : Value} {d : D} (hd : Dom β0 d) (hbb : ∀ i bi, β0 i = some bi → S i ∧ β i = some bi) (hv : V k β W v d) : V (restK k β σ S) β2 W v d := by
 have h1 := V.restrict (β := β0) (fun i bi h => (hbb i bi h).2) hv hd
 exact h1.mono (fun b h => .inl h) (fun i bi h => restB_of hB (hbb i bi h).1 (hbb i bi h).2) (fun b _ => rfl)
def DomA (β : Bk) : A → Prop
 | .one d => Dom β d
 | .agg cs => ∀ d ∈ cs, Dom β d
theorem VA.dom {v : Value} {x : A} (h : VA k β W v x) : DomA β x := by
 cases x with
 | one d => exact V.dom h
 | agg cs =>
   obtain ⟨vs, _, hl, hv⟩ := h
   intro d hd
   obtain ⟨i, hi⟩ := List.mem_iff_getElem?.1 hd
   have hlt := (List.getElem?_eq_some_iff.1 hi).1
   exact (hv i _ d (List.getElem?_eq_getElem (by omega)) hi).dom
theorem VA.rest (hB : IsRest β S β2) {v : Value} {x : A} (hd : DomA β0 x) (hbb : ∀ i bi, β0 i = some bi → S i ∧ β i = some bi) (hv : VA k β W v x) : VA (restK k β σ S) β2 W v x := by
 cases x with
 | one d => exact V.rest hB hd hbb hv
 | agg cs =>
   obtain ⟨vs, e, hl, hv⟩ := hv
   exact ⟨vs, e, hl, fun i v d h1 h2 => V.rest hB (hd d (List.mem_of_getElem? h2)) hbb (hv i v d h1 h2)⟩
theorem SRel.rest (hB : IsRest β S β2) (h : SRel P k β W σ) (h0 : SRel P k0 β0 W0 σ0) (hbb : ∀ i bi, β0 i = some bi → β i = some bi) (hS0 : ∀ i, σ0 i ≠ .free → S i) (hfree : ∀ i, ¬ S i → σ' i = .free) (ho : ∀ i, S i → FzO P σ0 σ S i (σ' i)) :
   SRel P (restK k β σ S) β2 W σ' := by
 have hSb : ∀ i bi, β0 i = some bi → S i ∧ β i = some bi := fun i bi hi => ⟨hS0 i ((h0.dom i).1 (by rw [hi]; rfl)), hbb i bi hi⟩
 have hfr : ∀ i, S i → (σ' i = .free ↔ σ i = .free) := fun i hi => by
   rcases ho i hi with ⟨h1, _⟩ | hm
   · rw [h1]
   · cases hs : σ i <;> cases hs' : σ' i <;> rw [hs, hs'] at hm <;> first | exact hm.elim | simp
 have hdd : ∀ i, S i → (σ' i = .dead ↔ σ i = .dead) := fun i hi => by
   rcases ho i hi with ⟨h1, _⟩ | hm
   · rw [h1]
   · cases hs : σ i <;> cases hs' : σ' i <;> rw [hs, hs'] at hm <;> first | exact hm.elim | simp
 exact {
   fin := by
     obtain ⟨N, hN⟩ := h.fin
     refine ⟨N, fun i hi => ?_⟩
     by_cases hs : S i
     · exact (hfr i hs).2 (hN i hi)
     · exact hfree i hs
   dom := fun i => by
     by_cases hs : S i
     · rw [Ne, hfr i hs, ← Ne, ← h.dom i, hB.1 i hs]
     · rw [hB.2 i hs, hfree i hs]; simp
   klt := fun b hb => by
     rcases hb with hb | ⟨i, bi, t, rows, hi, _, _, he⟩
     · exact h.klt b hb
     · rw [← he]; exact h.blt i bi hi
   blt := fun i bi hi => h.blt i bi (restB_some hB hi).2
   inj := fun i j bi bj hi hj h1 h2 he => h.inj i j bi bj (restB_some hB hi).2 (restB_some hB hj).2 (fun hd => h1 ((hdd i (restB_some hB hi).1).2 hd)) (fun hd => h2 ((hdd j (restB_some hB hj).1).2 hd)) he
   notk := fun i bi hi h1 hk => by
     obtain ⟨hs, hi⟩ := restB_some hB hi
     have h1 : σ i ≠ .dead := fun hd => h1 ((hdd i hs).2 hd)
     rcases hk with hk | ⟨j, bj, t, rows, hj, hn, hl, he⟩
     · exact h.notk i bi hi h1 hk
     · have := h.inj j i bj bi hj hi (by rw [hl]; intro e; cases e) h1 he
       exact hn (this ▸ hs)
   obj := fun i bi t rows' hi hs' => by
     obtain ⟨hs, hi⟩ := restB_some hB hi
     rcases ho i hs with ⟨h1, h2⟩ | hm
     · rw [h1] at hs'
       obtain ⟨arr, g1, g2, g3, g4, g5, g6, g7⟩ := h.obj i bi t rows' hi hs'
       refine ⟨arr, g1, g2, g3, g4, g5, g6, fun r row j d hr hj => ?_⟩
       obtain ⟨v, hv, hV⟩ := g7 r row j d hr hj
       have hb0 : ∃ b0, β0 i = some b0 := Option.isSome_iff_exists.1 ((h0.dom i).2 (by rw [← h2, hs']; intro e; cases e))
       obtain ⟨b0, hb0⟩ := hb0
       obtain ⟨_, _, _, _, _, _, _, k7⟩ := h0.obj i b0 t rows' hb0 (by rw [← h2, hs'])
       obtain ⟨v0, _, hV0⟩ := k7 r row j d hr hj
       exact ⟨v, hv, hV.rest hB hV0.dom hSb⟩
     · rw [hs'] at hm
       cases hsi : σ i with
       | live t0 rows =>
         rw [hsi] at hm
         obtain ⟨rfl, hl, hc⟩ := hm
         obtain ⟨arr, g1, g2, g3, g4, g5, g6, g7⟩ := h.obj i bi t rows hi hsi
         have back : ∀ (r : Nat) row', rows'[r]? = some row' → ∃ row, rows[r]? = some row ∧ FzL P σ S row row' := fun r row' hr => by
           have hlt := (List.getElem?_eq_some_iff.1 hr).1
           have := List.getElem?_eq_getElem (l := rows) (i := r) (by omega)
           exact ⟨_, this, hc r _ _ this hr⟩
         refine ⟨arr, g1, g2, g3, by rw [hl]; exact g4, g5, fun r row' hr => ?_, fun r row' j d hr hj => ?_⟩
         · obtain ⟨row, q1, q2⟩ := back r row' hr
           rw [q2.1]; exact g6 r row q1
         · obtain ⟨row, q1, q2⟩ := back r row' hr
           have hlt := (List.getElem?_eq_some_iff.1 hj).1
           have hd := List.getElem?_eq_getElem (l := row) (i := j) (by rw [← q2.1]; exact hlt)
           obtain ⟨v, hv, hV⟩ := g7 r row j _ q1 hd
           exact ⟨v, hv, (q2.2 j _ d hd hj).ok hB h hV⟩
       | _ => rw [hsi] at hm; exact hm.elim
   omap := fun i bi clock es' hi hs' => by
     obtain ⟨hs, hi⟩ := restB_some hB hi
     rcases ho i hs with ⟨h1, h2⟩ | hm
     · rw [h1] at hs'
       obtain ⟨ents, g1, g2, g3, g4, g5⟩ := h.omap i bi clock es' hi hs'
       refine ⟨ents, g1, g2, g3, g4, fun r e b ks vs hr he => ?_⟩
       obtain ⟨q0, q1, q2⟩ := g5 r e b ks vs hr he
       have hb0 : ∃ b0, β0 i = some b0 := Option.isSome_iff_exists.1 ((h0.dom i).2 (by rw [← h2, hs']; intro e; cases e))
       obtain ⟨b0, hb0⟩ := hb0
       obtain ⟨ents0, _, k2, _, _, k5⟩ := h0.omap i b0 clock es' hb0 (by rw [← h2, hs'])
       have hlt := (List.getElem?_eq_some_iff.1 he).1
       obtain ⟨_, p1, p2⟩ := k5 r ents0[r] b ks vs (Array.getElem?_eq_getElem (by omega)) he
       exact ⟨q0, q1.rest hB p1.dom hSb, q2.rest hB p2.dom hSb⟩
     · rw [hs'] at hm
       cases hsi : σ i with
       | mp c es =>
         rw [hsi] at hm
         obtain ⟨rfl, hl, hc⟩ := hm
         obtain ⟨ents, g1, g2, g3, g4, g5⟩ := h.omap i bi clock es hi hsi
         have hborn : es'.map (·.1) = es.map (·.1) := by
           apply List.ext_getElem?
           intro j
           simp only [List.getElem?_map]
           cases he' : es'[j]? with
           | none =>
             have : es[j]? = none := by rw [List.getElem?_eq_none_iff] at he' ⊢; omega
             rw [this]
           | some e' =>
             have hlt := (List.getElem?_eq_some_iff.1 he').1
             have hj := List.getElem?_eq_getElem (l := es) (i := j) (by omega)
             rw [hj]
             simp [(hc j _ e' hj he').1]
         refine ⟨ents, g1, by rw [hl]; exact g2, fun e he => ?_, by rw [hborn]; exact g4, fun r e b ks vs hr he => ?_⟩
         · have : e.1 ∈ es'.map (·.1) := List.mem_map.2 ⟨e, he, rfl⟩
           rw [hborn] at this
           obtain ⟨w, hw, e1⟩ := List.mem_map.1 this
           rw [← e1]; exact g3 w hw
         · have hlt := (List.getElem?_eq_some_iff.1 he).1
           have hj := List.getElem?_eq_getElem (l := es) (i := r) (by omega)
           obtain ⟨c1, c2, c3⟩ := hc r _ _ hj he
           obtain ⟨q0, q1, q2⟩ := g5 r e es[r].1 es[r].2.1 es[r].2.2 hr hj
           exact ⟨q0.trans c1.symm, c2.ok hB h q1, c3.ok hB h q2⟩
       | _ => rw [hsi] at hm; exact hm.elim }
theorem DCalls.ret {f : FuncId} {args : List A} {Q Q' : RV → Store → Prop} (h : DCalls P f args σ0 Q) (hq : ∀ r σ, Q r σ → ∃ r' σ', Ret P σ0 σ r σ' r' ∧ Q' r' σ') : DCalls P f args σ0 Q' := by
 refine ⟨h.1, fun k β W vs h1 h2 h3 => (h.2 k β W vs h1 h2 h3).mono fun e W' ⟨v, r, σ, k', β', q1, q2, q3, q4, q5, q6⟩ => ?_⟩
 obtain ⟨r', σ', ⟨S, s1, s2, s3, s4⟩, hQ⟩ := hq r σ q2
 obtain ⟨β2, hB⟩ := rest_exists β' S
 refine ⟨v, r', σ', restK k' β' σ S, β2, q1, hQ, s4.ok hB q4 q3, q4.rest hB h1 q5.bb s1 s2 s3, ?_, q6⟩
 have hS0 : ∀ i bi, β i = some bi → S i := fun i bi hi => s1 i ((h1.dom i).1 (by rw [hi]; rfl))
 exact {
   kk := fun b hb => .inl (q5.kk b hb)
   kn := fun b hb => by
     rcases hb with hb | ⟨i, bi, t, rows, hi, hn, hl, he⟩
     · exact q5.kn b hb
     · rcases q5.bn i bi hi with g | g | ⟨j, bj, g1, g2, g3⟩
       · exact absurd (hS0 i bi g) hn
       · exact .inr (.inl (he ▸ g))
       · exact .inr (.inr ⟨j, bj, g1, g2, g3.trans he⟩)
   bb := fun i bi hi => restB_of hB (hS0 i bi hi) (q5.bb i bi hi)
   bn := fun i bi hi => q5.bn i bi (restB_some hB hi).2
   dd := fun i hi => by
     have hs : S i := s1 i (by rw [hi]; intro e; cases e)
     have hd := q5.dd i hi
     rcases s3 i hs with ⟨h1, _⟩ | hm
     · rw [h1, hd]
     · rw [hd] at hm
       cases hs' : σ' i <;> rw [hs'] at hm <;> first | rfl | exact hm.elim }
end
end
end Go.Fw
namespace Go.Fw
open Go.ChangeShapes Go.WideShapes Go.RowKit
section
def tyF (P : Program) (ty : TypeId → List D → Prop) : List Field → List D → Prop
 | [], ds => ds = []
 | f :: fs, ds => ∃ a b, ds = a ++ b ∧ a.length = P.cellsOf f.type ∧ ty f.type a ∧ tyF P ty fs b
def tyR (P : Program) (ty : TypeId → List D → Prop) (e : TypeId) : Nat → List D → Prop
 | 0, ds => ds = []
 | n + 1, ds => ∃ a b, ds = a ++ b ∧ a.length = P.cellsOf e ∧ ty e a ∧ tyR P ty e n b
def tyD (P : Program) : Nat → TypeId → List D → Prop
 | 0, _, _ => False
 | n + 1, t, ds => match P.underlying t with
   | some .bool => ∃ b, ds = [.bool b]
   | some (.int k) => ∃ m, ds = [.int k m] ∧ (Lit.int k m).wf = true
   | some .string => ∃ s, ds = [.str s] ∧ s.size ≤ 140737488351232
   | some (.slice e) => ds = [.nils] ∨ ∃ rows, ds = [.sl (P.cellsOf e) rows] ∧ rows.length * P.bytesOf e ≤ 140737488351232 ∧ ∀ row ∈ rows, tyD P n e row
   | some (.struct fs) => tyF P (tyD P n) fs.toList ds
   | some (.array m e) => tyR P (tyD P n) e m ds
   | _ => False
def tilesB (P : Program) : Nat → List Field → Nat → Bool
 | o, [], n => Nat.beq o n
 | o, f :: fs, n => Nat.beq f.offset o && tilesB P (o + P.cellsOf f.type) fs n
def plainT (P : Program) : Nat → TypeId → Bool
 | 0, _ => false
 | n + 1, t => match P.underlying t with
   | some .bool => true
   | some (.int _) => true
   | some .string => true
   | some (.slice e) => plainT P n e && decide (0 < P.cellsOf e)
   | some (.struct fs) => tilesB P 0 fs.toList (P.cellsOf t) && fs.toList.all fun f => plainT P n f.type
   | some (.array m e) => plainT P n e && Nat.beq (m * P.cellsOf e) (P.cellsOf t)
   | _ => false
def TyA (P : Program) (t : TypeId) : A → Prop
 | .one d => isAggT P t = some false ∧ tyD P 30 t [d]
 | .agg cs => isAggT P t = some true ∧ tyD P 30 t cs
def TyAs (P : Program) : List TypeId → List A → Prop
 | [], as0 => as0 = []
 | t :: ts, as0 => ∃ a r, as0 = a :: r ∧ TyA P t a ∧ TyAs P ts r
section
variable {H : Type} {enc : TypeId × Value → H} {P : Program} {w : World}
abbrev allK (w : World) : Nat → Prop := fun b => b < w.heap.size
abbrev noB : Bk := fun _ => none
abbrev noS : Store := fun _ => .free
theorem srel0 : SRel P (allK w) noB w noS where
 fin := ⟨0, fun _ _ => rfl⟩
 dom i := by simp
 klt b hb := hb
 blt i bi h := by cases h
 inj i j bi bj h := by cases h
 notk i bi h := by cases h
 obj i bi t rows h := by cases h
 omap i bi c es h := by cases h
theorem cells?_spec {base : Nat} {a : Addr} {n : Nat} {cs : List Value} (h : w.cells? base a n = some cs) : cs.length = n ∧ ∀ (j : Nat) v, cs[j]? = some v → w.cell? (a.add j) = some v := by
 unfold World.cells? at h
 split at h
 · have hl := mapM_some_length h
   refine ⟨by simpa using hl, fun j v hv => ?_⟩
   have hlt := (List.getElem?_eq_some_iff.1 hv).1
   have hn : cs.length = n := by simpa using hl
   have := mapM_some_get h j j (by simp [show j < n by omega])
   rw [this, hv]
 · cases h
theorem cell_lt {a : Addr} {v : Value} (h : w.cell? a = some v) : a.block < w.heap.size ∧ a.spot = none := by
 unfold World.cell? at h
 split at h
 · rename_i c t fr hb
   refine ⟨(Array.getElem?_eq_some_iff.1 hb).1, ?_⟩
   split at h
   · cases h
   · rename_i hs; simpa using hs
 · cases h
theorem fields_ty {β : Bk} (n : Nat) (ih : ∀ (t : TypeId) (cs : List Value), plainT P n t = true → ∀ (fuel : Nat) (x : DataW H × List MemPlace), DataW.trod enc P w 0 (fun _ => true) true fuel t cs = some x →
     (∀ m ∈ x.1.weights P t, m ≤ 140737488351232) → ∃ ds, VL (allK w) β w cs ds ∧ tyD P n t ds) (cs : List Value) (m : Nat) :
   ∀ (fs : List Field) (o : Nat) (xs : List (DataW H × List MemPlace)), tilesB P o fs cs.length = true → (∀ f ∈ fs, plainT P n f.type = true) → xs.length = fs.length →
     (∀ (i : Nat) (f : Field), fs[i]? = some f → DataW.trod enc P w 0 (fun _ => true) true m f.type ((cs.drop f.offset).take (P.cellsOf f.type)) = xs[i]?) →
     (∀ q ∈ DataW.weightsEach P (fs.map (·.type)) (xs.map (·.1)), q ≤ 140737488351232) → o ≤ cs.length → ∃ ds, VL (allK w) β w (cs.drop o) ds ∧ tyF P (tyD P n) fs ds
 | [], o, xs, ht, _, _, _, _, ho => by
   have : o = cs.length := Nat.eq_of_beq_eq_true ht
   subst this
   exact ⟨[], by simp [VL], rfl⟩
 | f :: fs, o, xs, ht, hp, hl, he, hw, ho => by
   simp only [tilesB, Bool.and_eq_true] at ht
   have hfo := Nat.eq_of_beq_eq_true ht.1
   cases xs with
   | nil => simp at hl
   | cons x xs =>
     have h0 := he 0 f rfl
     rw [hfo] at h0
     simp only [List.map_cons, DataW.weightsEach, List.mem_append] at hw
     have tl : ∀ (fs : List Field) (o : Nat), tilesB P o fs cs.length = true → o ≤ cs.length := by
       intro fs
       induction fs with
       | nil => intro o h; exact Nat.le_of_eq (Nat.eq_of_beq_eq_true h)
       | cons g gs ihg => intro o h; simp only [tilesB, Bool.and_eq_true] at h; have := ihg _ h.2; omega
     have hle := tl _ _ ht.2
     obtain ⟨a, hva, hta⟩ := ih f.type _ (hp f (by simp)) m x (by simpa using h0) (fun q hq => hw q (.inl hq))
     obtain ⟨b, hvb, htb⟩ := fields_ty n ih cs m fs (o + P.cellsOf f.type) xs ht.2 (fun g hg => hp g (by simp [hg])) (by simpa using hl) (fun i g hg => by have := he (i + 1) g (by simpa using hg); simpa using this)
       (fun q hq => hw q (.inr hq)) hle
     refine ⟨a ++ b, ?_, a, b, rfl, ?_, hta, htb⟩
     · have := hva.append hvb
       have e1 : List.take (P.cellsOf f.type) (cs.drop o) ++ cs.drop (o + P.cellsOf f.type) = cs.drop o := by
         rw [← List.drop_drop]; exact List.take_append_drop _ _
       rw [e1] at this; exact this
     · rw [← hva.1, List.length_take, List.length_drop]; omega
theorem weightsAll_mem {e : TypeId} : ∀ {ds : List (DataW H)} {d : DataW H} {m : Nat}, d ∈ ds → m ∈ d.weights P e → m ∈ DataW.weightsAll P e ds
 | x :: r, d, m, hd, hm => by
   simp only [DataW.weightsAll, List.mem_append]
   rcases List.mem_cons.1 hd with rfl | hd
   · exact .inl hm
   · exact .inr (weightsAll_mem hd hm)
theorem arr_ty {β : Bk} (n : Nat) (ih : ∀ (t : TypeId) (cs : List Value), plainT P n t = true → ∀ (fuel : Nat) (x : DataW H × List MemPlace), DataW.trod enc P w 0 (fun _ => true) true fuel t cs = some x →
     (∀ m ∈ x.1.weights P t, m ≤ 140737488351232) → ∃ ds, VL (allK w) β w cs ds ∧ tyD P n t ds) (e : TypeId) (hp : plainT P n e = true) (fuel : Nat) :
   ∀ (m : Nat) (cs : List Value) (xs : List (DataW H × List MemPlace)), cs.length = m * P.cellsOf e → xs.length = m →
     (∀ i, i < m → DataW.trod enc P w 0 (fun _ => true) true fuel e ((cs.drop (i * P.cellsOf e)).take (P.cellsOf e)) = xs[i]?) → (∀ q ∈ DataW.weightsAll P e (xs.map (·.1)), q ≤ 140737488351232) →
     ∃ ds, VL (allK w) β w cs ds ∧ tyR P (tyD P n) e m ds
 | 0, cs, xs, hl, hx, _, _ => by
   have : cs = [] := List.eq_nil_of_length_eq_zero (by simpa using hl)
   subst this
   exact ⟨[], by simp [VL], rfl⟩
 | m + 1, cs, xs, hl, hx, he, hw => by
   cases xs with
   | nil => simp at hx
   | cons x xs =>
     have h0 := he 0 (by omega)
     simp only [List.map_cons, DataW.weightsAll, List.mem_append] at hw
     rw [Nat.add_mul] at hl
     obtain ⟨a, hva, hta⟩ := ih e _ hp fuel x (by simpa using h0) (fun q hq => hw q (.inl hq))
     obtain ⟨b, hvb, htb⟩ := arr_ty n ih e hp fuel m (cs.drop (P.cellsOf e)) xs (by rw [List.length_drop]; omega) (by simpa using hx) (fun i hi => by
       have := he (i + 1) (by omega)
       rw [List.drop_drop, show P.cellsOf e + i * P.cellsOf e = (i + 1) * P.cellsOf e by rw [Nat.add_mul]; omega, this]; rfl) (fun q hq => hw q (.inr hq))
     refine ⟨a ++ b, ?_, a, b, rfl, ?_, hta, htb⟩
     · have := hva.append hvb
       rw [List.take_append_drop] at this; exact this
     · rw [← hva.1, List.length_take]; omega
theorem trod_ty {β : Bk} : ∀ (n : Nat) (t : TypeId) (cs : List Value), plainT P n t = true → ∀ (fuel : Nat) (x : DataW H × List MemPlace), DataW.trod enc P w 0 (fun _ => true) true fuel t cs = some x →
     (∀ m ∈ x.1.weights P t, m ≤ 140737488351232) → ∃ ds, VL (allK w) β w cs ds ∧ tyD P n t ds
 | 0, t, cs, hp => by simp [plainT] at hp
 | n + 1, t, cs, hp => by
   intro fuel x h hw
   have one : ∀ {v : Value} {d : D}, V (allK w) β w v d → VL (allK w) β w [v] [d] := fun hv => ⟨rfl, fun i u y h1 h2 => by
     cases i with
     | zero => simp at h1 h2; subst h1 h2; exact hv
     | succ i => simp at h1⟩
   unfold plainT at hp
   unfold tyD
   split at hp
   · rename_i hu
     obtain ⟨b, rfl, rfl⟩ := DataW.trod_bool hu h
     exact ⟨[.bool b], one (.bool b), b, rfl⟩
   · rename_i q hu
     obtain ⟨m, rfl, rfl, hm⟩ := DataW.trod_int hu h
     exact ⟨[.int q m], one (.int q m), m, rfl, hm⟩
   · rename_i hu
     obtain ⟨s, rfl, rfl, hm⟩ := DataW.trod_string hu h
     exact ⟨[.str s], one (.str s), s, rfl, by have := hw s.data.toList.length (by simp [DataW.weights]); simpa using this⟩
   · rename_i e hu
     simp only [Bool.and_eq_true, decide_eq_true_eq] at hp
     obtain ⟨hpe, hpos⟩ := hp
     rcases DataW.trod_slice hu h with ⟨rfl, rfl⟩ | ⟨a, len, cap, elems, rest, m, _, rfl, rfl, _, hlc, hcm, hel, hr, _, _⟩
     · exact ⟨[.nils], one .nils, .inl rfl⟩
     · simp only [DataW.weights, hu, List.mem_cons, List.mem_append] at hw
       have each : ∀ i, i < len → ∃ cs row, w.cells? 0 (a.add (i * P.cellsOf e)) (P.cellsOf e) = some cs ∧ VL (allK w) β w cs row ∧ tyD P n e row := by
         intro i hi
         have h1 := hr i hi
         have h2 := List.getElem?_eq_getElem (l := elems) (i := i) (by omega)
         rw [h2] at h1
         cases hc : w.cells? 0 (a.add (i * P.cellsOf e)) (P.cellsOf e) with
         | none => rw [hc] at h1; cases h1
         | some cs =>
           rw [hc] at h1
           obtain ⟨row, r1, r2⟩ := trod_ty n e cs hpe m _ h1 (fun q hq => hw q (.inr (.inl (weightsAll_mem (List.mem_map.2 ⟨_, List.getElem_mem (h := by omega), rfl⟩) hq))))
           exact ⟨cs, row, rfl, r1, r2⟩
       have each' : ∀ i, ∃ row, i < len → ∃ cs, w.cells? 0 (a.add (i * P.cellsOf e)) (P.cellsOf e) = some cs ∧ VL (allK w) β w cs row ∧ tyD P n e row := fun i => by
         by_cases hi : i < len
         · obtain ⟨cs, row, h⟩ := each i hi
           exact ⟨row, fun _ => ⟨cs, h⟩⟩
         · exact ⟨[], fun h => absurd h hi⟩
       obtain ⟨F, hF⟩ := Classical.axiomOfChoice each'
       have hget : ∀ (i : Nat) row, ((List.range len).map F)[i]? = some row → i < len ∧ row = F i := fun i row hi => by
         have hlt := (List.getElem?_eq_some_iff.1 hi).1
         simp at hlt
         simp [List.getElem?_map, List.getElem?_range hlt] at hi
         exact ⟨hlt, hi.symm⟩
       have hsp : 0 < len → a.block < w.heap.size ∧ a.spot = none := fun h0 => by
         obtain ⟨cs, c1, _, _⟩ := hF 0 h0
         obtain ⟨c2, c3⟩ := cells?_spec c1
         have := c3 0 cs[0] (List.getElem?_eq_getElem (by omega))
         simp [Addr.add] at this
         exact cell_lt this
       have hcell : ∀ i j, i < len → j < P.cellsOf e → ∃ v, w.cell? ⟨a.block, a.off + i * P.cellsOf e + j, none⟩ = some v ∧ ∀ d, (F i)[j]? = some d → V (allK w) β w v d := by
         intro i j hi hj
         obtain ⟨cs, c1, c2, _⟩ := hF i hi
         obtain ⟨c3, c4⟩ := cells?_spec c1
         have hg := List.getElem?_eq_getElem (l := cs) (i := j) (by omega)
         have := c4 j _ hg
         have hsp := (hsp (by omega)).2
         have e1 : (a.add (i * P.cellsOf e)).add j = ⟨a.block, a.off + i * P.cellsOf e + j, none⟩ := by
           obtain ⟨b, o', sp⟩ := a
           simp at hsp; subst hsp
           rw [add_mk, add_mk]
         rw [e1] at this
         exact ⟨_, this, fun d hd => c2.2 j _ d hg hd⟩
       refine ⟨[.sl (P.cellsOf e) ((List.range len).map F)], one (.sl a len cap (P.cellsOf e) _ (fun i j => (w.cell? ⟨a.block, a.off + i * P.cellsOf e + j, none⟩).getD undef) (fun hne => hsp (by
         cases len with
         | zero => simp at hne
         | succ => omega)) (by simp) hlc (fun i row hi => ?_) (fun i row j d hi hj => ?_) (fun i row j d hi hj => ?_)), .inr ⟨_, rfl, ?_, fun row hrow => ?_⟩⟩
       · obtain ⟨hi', rfl⟩ := hget i row hi
         obtain ⟨cs, c1, c2, _⟩ := hF i hi'
         rw [← c2.1, (cells?_spec c1).1]
       · obtain ⟨hi', rfl⟩ := hget i row hi
         obtain ⟨cs, c1, c2, _⟩ := hF i hi'
         have hlt := (List.getElem?_eq_some_iff.1 hj).1
         rw [← c2.1, (cells?_spec c1).1] at hlt
         obtain ⟨v, v1, _⟩ := hcell i j hi' hlt
         rw [v1]; rfl
       · obtain ⟨hi', rfl⟩ := hget i row hi
         obtain ⟨cs, c1, c2, _⟩ := hF i hi'
         have hlt := (List.getElem?_eq_some_iff.1 hj).1
         rw [← c2.1, (cells?_spec c1).1] at hlt
         obtain ⟨v, v1, v2⟩ := hcell i j hi' hlt
         rw [v1]; exact v2 d hj
       · have := hw _ (.inl rfl)
         simp only [List.length_map, List.length_range] at this ⊢
         have h2 : len * P.bytesOf e ≤ (elems.length + rest.length) * P.bytesOf e := Nat.mul_le_mul_right _ (by omega)
         omega
       · obtain ⟨i, hi, rfl⟩ := List.mem_map.1 hrow
         obtain ⟨cs, _, _, c3⟩ := hF i (by simpa using hi)
         exact c3
   · rename_i fs hu
     simp only [Bool.and_eq_true, List.all_eq_true] at hp
     obtain ⟨xs, m, _, rfl, hl, hlen, hf⟩ := DataW.trod_struct hu h
     simp only [DataW.weights, hu] at hw
     have := fields_ty (β := β) n (fun t cs hp fuel x => trod_ty n t cs hp fuel x) cs m fs.toList 0 xs (by rw [hl]; exact hp.1) (fun f hf => hp.2 f hf) (by simpa using hlen) (fun i f hi => hf i f (by simpa using hi)) hw (by omega)
     simpa using this
   · rename_i m e hu
     simp only [Bool.and_eq_true] at hp
     cases fuel with
     | zero => simp [DataW.trod] at h
     | succ fuel =>
       unfold DataW.trod at h
       rw [hu] at h
       have h : (if cs.length = P.cellsOf t then ((List.range m).mapM fun i => DataW.trod enc P w 0 (fun _ => true) true fuel e ((cs.drop (i * P.cellsOf e)).take (P.cellsOf e))).map fun xs => ((.agg (xs.map (·.1)) : DataW H), xs.flatMap (·.2)) else none) = some x := by
         cases cs <;> simpa using h
       split at h
       · rename_i hl
         rw [Option.map_eq_some_iff] at h
         obtain ⟨xs, hx, rfl⟩ := h
         simp only [DataW.weights, hu] at hw
         have hxl := mapM_some_length hx
         exact arr_ty n (fun t cs hp fuel x => trod_ty n t cs hp fuel x) e hp.1 fuel m cs xs (by rw [hl]; exact (Nat.eq_of_beq_eq_true hp.2).symm) (by simpa using hxl) (fun i hi => mapM_some_get hx i i (by simp [hi])) hw
       · cases h
   · cases hp
theorem ty_one {n : Nat} {t : TypeId} {v : Value} {W : World} {base : Nat} (hp : plainT P (n + 1) t = true) (hok : Value.okWide P W .any base t v) :
   (isAggT P t = some false ∧ v.cells = #[v]) ∨ (isAggT P t = some true ∧ ∃ cs, v = .agg cs) := by
 unfold plainT at hp
 unfold isAggT
 split at hp
 · rename_i hu; obtain ⟨b, rfl⟩ := okWide_bool hu hok; rw [hu]; exact .inl ⟨rfl, rfl⟩
 · rename_i hu; obtain ⟨b, rfl⟩ := okWide_int hu hok; rw [hu]; exact .inl ⟨rfl, rfl⟩
 · rename_i hu
   rw [hu]
   simp only [Value.okWide, hu, Cell.okWide] at hok
   cases v <;> simp [Cell.ok, hu] at hok <;> exact .inl ⟨rfl, rfl⟩
 · rename_i e hu
   rw [hu]
   simp only [Value.okWide, hu, Cell.okWide] at hok
   cases v <;> simp [Cell.ok, hu] at hok <;> exact .inl ⟨rfl, rfl⟩
 · rename_i fs hu; obtain ⟨cs, rfl, _⟩ := okWide_struct hu hok; rw [hu]; exact .inr ⟨rfl, cs, rfl⟩
 · rename_i m e hu
   rw [hu]
   simp only [Value.okWide, hu] at hok
   obtain ⟨cs, rfl, _⟩ := hok
   exact .inr ⟨rfl, cs, rfl⟩
 · cases hp
theorem arg_ty {t : TypeId} {v : Value} {d : DataW H} {ps : List MemPlace} {base : Nat} (hp : plainT P 30 t = true) (hok : Value.okWide P w .any base t v) (h : DataW.Trod enc P w 0 (fun _ => true) true t v d ps)
   (hw : ∀ m ∈ d.weights P t, m ≤ 140737488351232) : ∃ x, TyA P t x ∧ VA (allK w) noB w v x := by
 obtain ⟨fuel, h⟩ := h
 obtain ⟨ds, h1, h2⟩ := trod_ty (β := noB) 30 t _ hp fuel _ h hw
 rcases ty_one hp hok with ⟨q1, q2⟩ | ⟨q1, cs, rfl⟩
 · rw [q2] at h1
   have hl := h1.1
   match ds, hl with
   | [d'], _ => exact ⟨.one d', ⟨q1, h2⟩, h1.2 0 v d' rfl rfl⟩
 · exact ⟨.agg ds, ⟨q1, h2⟩, cs, rfl, h1⟩
theorem args_ty {base : Nat} : ∀ {ts : List TypeId} {vs : List Value} {ds : List (DataW H)} {ps : List MemPlace}, (∀ t ∈ ts, plainT P 30 t = true) → (∀ (j : Nat) t v, ts[j]? = some t → vs[j]? = some v → Value.okWide P w .any base t v) →
   DataW.TrodAll enc P w 0 (fun _ => true) true ts vs ds ps → (∀ m ∈ DataW.weightsEach P ts ds, m ≤ 140737488351232) →
   ∃ as0, TyAs P ts as0 ∧ vs.length = as0.length ∧ ∀ (i : Nat) v x, vs[i]? = some v → as0[i]? = some x → VA (allK w) noB w v x
 | [], vs, ds, ps, _, _, h, _ => by
   obtain ⟨rfl, rfl, rfl⟩ := trodAll_nil h
   exact ⟨[], rfl, rfl, fun i v x hv => by simp at hv⟩
 | t :: ts, vs, ds, ps, hp, hok, h, hw => by
   obtain ⟨v, vs1, d, ds1, a, b, rfl, rfl, rfl, h1, h2⟩ := trodAll_cons h
   simp only [DataW.weightsEach, List.mem_append] at hw
   obtain ⟨x, x1, x2⟩ := arg_ty (hp t (by simp)) (hok 0 t v rfl rfl) h1 (fun m hm => hw m (.inl hm))
   obtain ⟨as0, a1, a2, a3⟩ := args_ty (fun t ht => hp t (by simp [ht])) (fun j t v h1 h2 => hok (j + 1) t v (by simpa using h1) (by simpa using h2)) h2 (fun m hm => hw m (.inr hm))
   refine ⟨x :: as0, ⟨x, as0, rfl, x1, a1⟩, by simp [a2], fun i u y hu hy => ?_⟩
   cases i with
   | zero => simp at hu hy; subst hu hy; exact x2
   | succ i => exact a3 i u y (by simpa using hu) (by simpa using hy)
theorem trodAll_stays (hl : laidOutB P = true) {W W' : World} (hb : Below W.heap.size W W') (sp : Nat → Bool) : ∀ {ts : List TypeId} {vs : List Value} {ds : List (DataW H)} {ps : List MemPlace},
   (∀ t ∈ ts, P.readableRec t = true ∧ t < P.types.size) → DataW.TrodAll enc P W 0 (fun _ => true) true ts vs ds ps → (∀ p ∈ ps, p.block < W.heap.size) → (∀ p ∈ ps, sp p.block = true) → DataW.TrodAll enc P W' 0 sp true ts vs ds ps
 | [], vs, ds, ps, _, h, _, _ => by
   obtain ⟨rfl, rfl, rfl⟩ := trodAll_nil h
   rfl
 | t :: ts, vs, ds, ps, hr, h, hlt, hs => by
   obtain ⟨v, vs1, d, ds1, a, b, rfl, rfl, rfl, h1, h2⟩ := trodAll_cons h
   exact ⟨a, b, WideElems.Trod_stays hl (hr t (by simp)).1 (hr t (by simp)).2 h1 (fun x hx => hb.same (hlt x (by simp [hx]))) (fun x hx => hs x (by simp [hx])),
     trodAll_stays hl hb sp (fun t ht => hr t (by simp [ht])) h2 (fun x hx => hlt x (by simp [hx])) (fun x hx => hs x (by simp [hx])), rfl⟩
theorem law_post {f : Func} {s : ChangeSpec} {W W' : World} {args : Array Value} {ds gs : List (DataW H)} {before : List MemPlace} {tb : TypeId} (hl : laidOutB P = true)
   (hr : ∀ t ∈ f.params.toList, P.readableRec t = true ∧ t < P.types.size) (hvars : s.vars = []) (hres : f.resultTypes = #[tb]) (htb : P.underlying tb = some .bool)
   (hfn : (s.fn H ds) = { results := [.lit (.bool true)], args := ds }) (hW : DataW.Whole enc P f.params.toList s.vars false W args.toList ds gs before) (hb : Below W.heap.size W W') :
   s.post enc P f false true false false W args (.bool true) W' := by
 have hlt : ∀ p ∈ before, p.block < W.heap.size := fun p hp => hW.lt p hp
 have hW' := hW
 obtain ⟨p, q, hA, hV, rfl, hz, _⟩ := hW'
 rw [hvars] at hV
 obtain ⟨rfl, rfl⟩ := trodVars_none hV
 have hres' : (s.fn H (ds ++ [])).results = [.lit (.bool true)] := by rw [List.append_nil, hfn]
 have hargs' : (s.fn H (ds ++ [])).args = ds := by rw [List.append_nil, hfn]
 have hvars' : (s.fn H (ds ++ [])).vars = [] := by rw [List.append_nil, hfn]
 have hst : ∀ sp : Nat → Bool, (∀ x ∈ p, sp x.block = true) → DataW.TrodAll enc P W' 0 sp true f.params.toList args.toList ds p := fun sp hs =>
   trodAll_stays hl hb sp hr hA (fun x hx => hlt x (by simp [hx])) hs
 refine ⟨ds, [], p ++ [], [], p, [], hW, ?_, ?_, ?_, ?_, fun h => by cases h⟩
 · rw [hres', hres]
   exact trodAll_mk1 (shut_bool htb true)
 · rw [hargs']; exact hst _ (fun x hx => by simpa using hlt x (by simp [hx]))
 · rw [hvars', hvars]; rfl
 · refine World.keptBut_mono (fun x hx => ⟨hx, .inr (.inl (by simpa using hx))⟩) (hb.frame (· ∈ p ++ []))
theorem law_calls {f : FuncId} {fn : Func} {s : ChangeSpec} {W : World} {base : Nat} {args : Array Value} {ds gs : List (DataW H)} {before : List MemPlace} {tb : TypeId} (hl : laidOutB P = true)
   (hp : (fn.params.toList.all fun t => plainT P 30 t && P.readableRec t && decide (t < P.types.size)) = true) (hvars : s.vars = []) (hres : fn.resultTypes = #[tb]) (htb : P.underlying tb = some .bool)
   (hfn : ds.length = fn.params.size → (s.fn H ds) = { results := [.lit (.bool true)], args := ds })
   (law : ∀ as0, TyAs P fn.params.toList as0 → DCalls P f as0 noS fun r _ => r = .a (.one (.bool true)))
   (hval : ∀ (j : Nat) t v, fn.params[j]? = some t → args[j]? = some v → Value.okWide P W .any base t v)
   (hW : DataW.Whole enc P fn.params.toList s.vars false W args.toList ds gs before)
   (hw : ((DataW.weightsEach P (fn.params.toList ++ s.plain.varTypes P) (ds ++ gs)).all (· ≤ reachBytes)) = true) :
   Calls P f args W fun e W' => ∃ v, e = .returned v ∧ s.post enc P fn false true false false W args v W' := by
 simp only [List.all_eq_true, Bool.and_eq_true, decide_eq_true_eq] at hp
 have hW' := hW
 obtain ⟨p, q, hA, hV, rfl, hz, _⟩ := hW'
 have hg : gs = [] := by rw [hvars] at hV; exact (trodVars_none hV).1
 subst hg
 have hvt : s.plain.varTypes P = [] := by
   have : s.plain.vars = [] := hvars
   simp [DataSpec.varTypes, this]
 rw [hvt, List.append_nil, List.append_nil] at hw
 obtain ⟨as0, a1, a2, a3⟩ := args_ty (base := base) (fun t ht => (hp t ht).1.1) (fun j t v h1 h2 => hval j t v (by simpa using h1) (by simpa using h2)) hA (fun m hm => by
   have := of_decide_eq_true (List.all_eq_true.1 hw m hm)
   simpa [reachBytes] using this)
 have hlen : ds.length = fn.params.size := by
   have key : ∀ {ts : List TypeId} {vs : List Value} {ds : List (DataW H)} {ps : List MemPlace}, DataW.TrodAll enc P W 0 (fun _ => true) true ts vs ds ps → ds.length = ts.length := by
     intro ts
     induction ts with
     | nil => intro vs ds ps h; obtain ⟨_, rfl, _⟩ := trodAll_nil h; rfl
     | cons t ts ih => intro vs ds ps h; obtain ⟨v, vs1, d, ds1, a, b, _, rfl, _, _, h2⟩ := trodAll_cons h; simp [ih h2]
   simpa using key hA
 have hd := (law as0 a1).2 (allK W) noB W args srel0 (by simpa using a2) (fun i v x h1 h2 => a3 i v x (by simpa using h1) h2)
 refine hd.mono fun e W' ⟨v, r, σ', k', β', q1, q2, q3, q4, q5, q6⟩ => ⟨v, q1, ?_⟩
 subst q2
 have hv : v = .bool true := V.inv_bool q3
 subst hv
 exact law_post hl (fun t ht => ⟨(hp t ht).1.2, (hp t ht).2⟩) hvars hres htb (hfn hlen) hW ⟨q6.os, q6.tape, q6.output, q6.size, fun b hb => q6.block b hb (fun i bi hi => by cases hi)⟩
theorem law_lifted {C : Checked} {os : Os} {f : FuncId} {fn : Func} {s : ChangeSpec} {tb : TypeId} (own : ownKnob C.prog.godebug = none) (started : os.Started) (noInit : C.prog.inits.idxOf? f = none) (hf : C.prog.funcs[f]? = some fn)
   (witness : ∃ (w : World) (tape : Tape) (i : Input), w.os = os ∧ (w.forCall tape i).Shaped C.prog ∧ i.vars = [] ∧ Input.okWide C.prog (w.forCall tape i) .any w.heap.size f i ∧
     s.pre6 enc C.prog fn [] false (w.forCall tape i).memory i.args ∧ ({} : Assume).holds C.prog (lone (Frame.enter C.prog f i.args .normal) [] (w.forCall tape i)))
   (hl : laidOutB C.prog = true) (hp : (fn.params.toList.all fun t => plainT C.prog 30 t && C.prog.readableRec t && decide (t < C.prog.types.size)) = true) (hvars : s.vars = []) (hres : fn.resultTypes = #[tb])
   (htb : C.prog.underlying tb = some .bool) (hfn : ∀ ds : List (DataW H), ds.length = fn.params.size → (s.fn H ds) = { results := [.lit (.bool true)], args := ds })
   (law : ∀ as0, TyAs C.prog fn.params.toList as0 → DCalls C.prog f as0 noS fun r _ => r = .a (.one (.bool true))) :
   ReturnsInHanded {} C os f .any (s.pre6 enc C.prog fn [] false) (s.post enc C.prog fn false true false false) := by
 have e : (fun w args => (s.pre enc C.prog fn [] false w args ∧ True) ∧ sizedMet enc C.prog fn (OpenSpec.ofChange s) false w args) = s.pre6 enc C.prog fn [] false := by
   funext w args; simp [ChangeSpec.pre6]
 rw [← e]
 refine returnsInHanded_of_change_and (X := fun _ _ => True) (fun _ _ _ _ _ => trivial) own started noInit hf ?_ ?_
 · obtain ⟨w, tape, i, h1, h2, h3, h4, h5, h6⟩ := witness
   exact ⟨w, tape, i, h1, h2, h3, h4, ⟨⟨h5.1, trivial⟩, h5.2⟩, h6⟩
 · intro W base args ds gs before hval hW _ hw _ _
   exact law_calls hl hp hvars hres htb (hfn ds) law hval hW hw
end
end
section
theorem joined_of {P : Program} {f : FuncId} {fn : Func} {s : ChangeSpec} {c : OpenClaim} (a0 : laidOutB P = true)
   (a1 : (c.wf (OpenSpec.ofChange s) && mapsRowed P && fn.params.all (P.readableRec ·) && namedTie P c.named s.vars && (c.stops == []) && (P.stops == []) && (c.knobs == []) && (P.stopKnobs == []) && (c.inPlace == P.inPlace f)) = true)
   (a2 : (c.unfollowed == P.unfollowed f) = true) (a3 : (c.recurses == P.recurses f) = true) (a4 : (c.named == P.varsNamed f) = true)
   (a5 : ((c.maps == (fn.params.toList ++ s.plain.varTypes P).any (P.mapsRec ·)) && (c.ifaces == (fn.params.toList ++ s.plain.varTypes P).any (P.ifacesRec ·)) && (c.mapsOut == P.mapsAmong fn.resultTypes.toList) && (c.loops == (fn.params.toList ++ s.plain.varTypes P).any (P.loopsFrom ·)) && (c.wideKeys == (fn.params.toList ++ s.plain.varTypes P ++ fn.resultTypes.toList).any (P.wideKeysFrom ·))) = true)
   (a6 : (s.vars.all (P.varReadable ·) && fn.resultTypes.all (fun t => P.readableRec t && decide (t < P.types.size)) && (c.ifacesOut == fn.resultTypes.toList.any (P.ifacesRec ·)) && (c.loopsOut == fn.resultTypes.toList.any (P.loopsFrom ·))) = true)
   (a7 : ((c.plainKeys == P.plainKeys) && c.shortTexts.isNone && P.stopsHeard && P.mayEnter && (c.lifted == P.liftsFinal) && (P.make == some c.make) && (c.kinds == (if c.domain.isEmpty then [] else fn.params.toList.map fun t => match P.underlying t with | some (.int k) => some k | _ => none)) && (c.pinned == c.pinnedBy)) = true)
   (a8 : ((c.veiled == (fn.params.toList ++ s.plain.varTypes P ++ fn.resultTypes.toList).any (P.veiledRec ·)) && c.veiledFits P fn.params.toList (fn.params.toList ++ s.plain.varTypes P ++ fn.resultTypes.toList)) = true) :
   joinedFacts P f fn s c = true := by
 rw [Bool.and_eq_true] at a8
 repeat rw [Bool.and_eq_true] at a7
 repeat rw [Bool.and_eq_true] at a6
 repeat rw [Bool.and_eq_true] at a5
 repeat rw [Bool.and_eq_true] at a1
 obtain ⟨⟨⟨⟨⟨⟨⟨⟨b1, b2⟩, b3⟩, b4⟩, b5⟩, b6⟩, b7⟩, b8⟩, b9⟩ := a1
 obtain ⟨⟨⟨⟨c1, c2⟩, c3⟩, c4⟩, c5⟩ := a5
 obtain ⟨⟨⟨d1, d2⟩, d3⟩, d4⟩ := a6
 obtain ⟨⟨⟨⟨⟨⟨⟨e1, e2⟩, e3⟩, e4⟩, e5⟩, e6⟩, e7⟩, e8⟩ := a7
 obtain ⟨f1, f2⟩ := a8
 unfold joinedFacts
 rw [b1, a0, b2, b3, b4, b5, b6, b7, b8, b9, a2, a3, a4, c1, c2, c3, c4, c5, d1, d2, d3, d4, e1, e2, e3, e4, e5, e6]
 exact Bool.and_eq_true_iff.2 ⟨Bool.and_eq_true_iff.2 ⟨Bool.and_eq_true_iff.2 ⟨Bool.and_eq_true_iff.2 ⟨rfl, e7⟩, e8⟩, f1⟩, f2⟩
end
end Go.Fw
namespace Go.Fw
section
variable {P : Program} {σ σ' : Store} {el : TypeId} {d : D} {rs : List (List D)}
theorem w64_id {n : Int} (h1 : -9223372036854775808 ≤ n) (h2 : n ≤ 9223372036854775807) : w64 n = n := by
 simp only [w64, IntKind.wrap, IntKind.signed, IntKind.bits]; simp; omega
theorem w64_succ {j : Nat} (h : j < 2 ^ 62) : w64 ((j : Int) + 1) = ((j + 1 : Nat) : Int) := by
 rw [w64_id (by omega) (by omega)]; omega
abbrev iD (n : Int) : D := .int .i64 n
abbrev iA (n : Int) : A := .one (.int .i64 n)
abbrev bA (b : Bool) : A := .one (.bool b)
structure At (P : Program) (σ : Store) (el : TypeId) (d : D) (rs : List (List D)) : Prop where
 rows : Rows P σ el d rs
 size : rs.length < 2 ^ 60
 es : ∀ es rows, d = .sl es rows → es = P.cellsOf el
theorem At.lenI (h : At P σ el d rs) : Len d rs.length := by
 have hr := h.rows
 cases d <;> simp only [Rows] at hr <;> try exact hr.elim
 · subst hr; rfl
 · subst hr; rfl
 · rw [hr.1]; rfl
 · obtain ⟨t, rows, h1, h2, h3, rfl⟩ := hr
   show _ = _
   simp; omega
theorem At.len {n : Nat} (h : At P σ el d rs) (hl : Len d n) : n = rs.length := by
 have hr := h.rows
 cases d <;> simp only [Rows] at hr <;> try exact hr.elim
 · subst hr; exact hl
 · subst hr; exact hl
 · rw [hr.1]; exact hl
 · obtain ⟨t, rows, h1, h2, h3, rfl⟩ := hr
   have : n = _ := hl
   simp; omega
theorem At.lenK {K : Nat → Prop} (h : At P σ el d rs) (hk : K rs.length) : ∃ len : Nat, Len d len ∧ K len := ⟨_, h.lenI, hk⟩
theorem At.row {i : Nat} {row : List D} (h : At P σ el d rs) (hi : rs[i]? = some row) : Row σ d i row := by
 have hr := h.rows
 have hlt := (List.getElem?_eq_some_iff.1 hi).1
 cases d <;> simp only [Rows] at hr <;> try exact hr.elim
 · subst hr; simp at hi
 · subst hr; simp at hi
 · rw [hr.1] at hi; exact hi
 · obtain ⟨t, rows, h1, h2, h3, rfl⟩ := hr
   refine ⟨?_, t, rows, h1, ?_⟩
   · simp at hlt; omega
   · rw [List.getElem?_take] at hi
     split at hi
     · rw [List.getElem?_drop] at hi; exact hi
     · cases hi
theorem At.idx {es : Nat} (h : At P σ el d rs) (hes : P.cellsOf el = es) (hne : 0 < rs.length) : Idx P σ d es rs.length := by
 have hr := h.rows
 subst hes
 cases d <;> simp only [Rows] at hr <;> try exact hr.elim
 · subst hr; simp at hne
 · subst hr; simp at hne
 · obtain ⟨rfl, h2⟩ := hr
   refine ⟨h2.resolve_left (fun e => by subst e; simp at hne), rfl⟩
 · obtain ⟨t, rows, h1, h2, h3, rfl⟩ := hr
   exact ⟨by simp; omega, t, rows, h1, h2⟩
theorem At.idxN {es : Nat} (h : At P σ el d rs) (hes : P.cellsOf el = es) : IdxN P σ d es rs.length := by
 by_cases hne : 0 < rs.length
 · exact .inl (h.idx hes hne)
 · have hr := h.rows
   have h0 : rs = [] := List.eq_nil_of_length_eq_zero (by omega)
   subst hes
   cases d <;> simp only [Rows] at hr <;> try exact hr.elim
   · exact .inr ⟨by omega, .inl rfl⟩
   · exact .inr ⟨by omega, .inr rfl⟩
   · exact .inl ⟨h.es _ _ rfl, by rw [hr.1]⟩
   · obtain ⟨t, rows, h1, h2, h3, rfl⟩ := hr
     exact .inl ⟨by simp; omega, t, rows, h1, h2⟩
theorem At.idxK {es : Nat} {n : Int} {j : Nat} {K : Prop} (h : At P σ el d rs) (hes : P.cellsOf el = es) (hn : n = j) (hj : j < rs.length) (hk : K) :
   ∃ len : Nat, Idx P σ d es len ∧ 0 ≤ n ∧ n < (len : Int) ∧ K := ⟨_, h.idx hes (by omega), by omega, by omega, hk⟩
theorem At.rowK {i : Nat} {j : Nat} {row : List D} {K : List D → Prop} (h : At P σ el d rs) (hi : rs[j]? = some row) (hij : i = j) (hk : K row) : ∃ row, Row σ d i row ∧ K row := ⟨row, h.row (hij ▸ hi), hk⟩
theorem At.load {es : Nat} {n : Int} {j : Nat} {row : List D} {K : List D → Prop} (h : At P σ el d rs) (hi : rs[j]? = some row) (hes : P.cellsOf el = es) (hn : n = j) (hk : K row) :
   ∃ len : Nat, Idx P σ d es len ∧ 0 ≤ n ∧ n < (len : Int) ∧ ∃ row, Row σ d n.toNat row ∧ K row :=
 h.idxK hes hn (List.getElem?_eq_some_iff.1 hi).1 (h.rowK hi (by omega) hk)
theorem At.sub {lo hi : Nat} (h : At P σ el d rs) (h1 : lo ≤ hi) (h2 : hi ≤ rs.length) : At P σ el (dsub d lo hi) ((rs.drop lo).take (hi - lo)) := by
 have hr := h.rows
 have hs := h.size
 have hl : ((rs.drop lo).take (hi - lo)).length < 2 ^ 60 := by simp; omega
 cases d <;> simp only [Rows] at hr <;> try exact hr.elim
 · subst hr; exact ⟨by simp [dsub, Rows], hl, fun es rows e => by cases e⟩
 · subst hr; exact ⟨by simp [dsub, Rows], hl, fun es rows e => by cases e⟩
 · rename_i es rows
   obtain ⟨rfl, h3⟩ := hr
   refine ⟨⟨rfl, .inr (h.es _ _ rfl)⟩, hl, fun es' rows' e => ?_⟩
   have e : D.sl es _ = D.sl es' rows' := e
   injection e with e1 e2
   rw [← e1]; exact h.es _ _ rfl
 · obtain ⟨t, rows, q1, q2, q3, rfl⟩ := hr
   refine ⟨⟨t, rows, q1, q2, ?_, ?_⟩, hl, fun es rows e => by cases e⟩
   · simp at h2; omega
   · rw [List.drop_take, List.take_take, List.drop_drop]
     simp at h2
     congr 1; omega
theorem At.sliceK {es lo hi : Nat} {l m : Int} {K : Prop} (h : At P σ el d rs) (hes : P.cellsOf el = es) (hl : l = lo) (hm : m = hi) (h1 : lo ≤ hi) (h2 : hi ≤ rs.length) (hk : K) :
   ∃ len : Nat, IdxN P σ d es len ∧ 0 ≤ l ∧ l ≤ m ∧ m ≤ (len : Int) ∧ K := ⟨_, h.idxN hes, by omega, by omega, by omega, hk⟩
theorem At.sliceFromK {es lo : Nat} {l : Int} {K : Nat → Prop} (h : At P σ el d rs) (hes : P.cellsOf el = es) (hl : l = lo) (h1 : lo ≤ rs.length) (hk : K rs.length) :
   ∃ len : Nat, IdxN P σ d es len ∧ 0 ≤ l ∧ l ≤ (len : Int) ∧ K len := ⟨_, h.idxN hes, by omega, by omega, hk⟩
def Ext (σ σ' : Store) : Prop := ∀ i, σ i ≠ .free → σ' i = σ i
theorem Ext.refl (σ : Store) : Ext σ σ := fun _ _ => rfl
theorem Ext.trans {σ1 σ2 σ3 : Store} (h : Ext σ1 σ2) (h' : Ext σ2 σ3) : Ext σ1 σ3 := fun i hi => by
 have := h i hi
 rw [h' i (by rw [this]; exact hi), this]
theorem Ext.new {id : Nat} (h : σ id = .free) (so : SO) : Ext σ (σ.set id so) := fun i hi => Store.set_ne _ _ (fun e => hi (e ▸ h))
theorem Ext.set {σ0 : Store} {id : Nat} (h : Ext σ0 σ) (hid : σ0 id = .free) (so : SO) : Ext σ0 (σ.set id so) := fun i hi => by
 have hne : i ≠ id := fun e => hi (by rw [e]; exact hid)
 rw [Store.set_ne _ _ hne]; exact h i hi
theorem Rows.same (h : Rows P σ el d rs) (hs : ∀ id i len, d = .osl id i len → σ' id = σ id) : Rows P σ' el d rs := by
 cases d <;> first | exact h | skip
 obtain ⟨t, rows, h1, h2⟩ := h
 exact ⟨t, rows, by rw [hs _ _ _ rfl]; exact h1, h2⟩
theorem At.same (h : At P σ el d rs) (hs : ∀ id i len, d = .osl id i len → σ' id = σ id) : At P σ' el d rs := ⟨h.rows.same hs, h.size, h.es⟩
theorem At.ext (h : At P σ el d rs) (he : Ext σ σ') : At P σ' el d rs := h.same fun id i len e => he id (by
 have := h.rows; subst e
 obtain ⟨t, rows, h1, _⟩ := this
 rw [h1]; intro e; cases e)
theorem At.nil : At P σ el .nils [] := ⟨rfl, by simp, fun es rows e => by cases e⟩
theorem At.new {t : TypeId} {id : Nat} (rs : List (List D)) (h : σ id = .live t rs) (hes : P.cellsOf t = P.cellsOf el) (hsz : rs.length < 2 ^ 60) {n : Nat} (hn : n = rs.length) : At P σ el (.osl id 0 n) rs :=
 ⟨⟨t, rs, h, hes, by omega, by subst hn; simp⟩, hsz, fun es rows e => by cases e⟩
theorem At.fresh {id : Nat} {rs : List (List D)} (h : σ id = .live el rs) (hsz : rs.length < 2 ^ 60) {n : Nat} (hn : n = rs.length) : At P σ el (.osl id 0 n) rs := .new rs h rfl hsz hn
theorem newObj_intro {so : SO} {K : Nat → Store → Prop} (h : ∀ id σ', σ id = .free → σ' = σ.set id so → Ext σ σ' → σ' id = so → K id σ') : Fw.newObj σ so K :=
 fun id hid => h id _ hid rfl (Ext.new hid so) (Store.set_same _ _ _)
/-! ### cases -/
theorem bc {b : Bool} {x y : Prop} (h1 : b = true → x) (h2 : b = false → y) : bcase b x y := by cases b; exact h2 rfl; exact h1 rfl
theorem bcd {p : Prop} [Decidable p] {x y : Prop} (h1 : p → x) (h2 : ¬ p → y) : bcase (decide p) x y := bc (fun h => h1 (of_decide_eq_true h)) (fun h => h2 (of_decide_eq_false h))
theorem bce {a b : Int} {x y : Prop} (h1 : a = b → x) (h2 : a ≠ b → y) : bcase (a == b) x y := bc (fun h => h1 (by simpa using h)) (fun h => h2 (by simpa using h))
theorem bcn {a b : Int} {x y : Prop} (h1 : a ≠ b → x) (h2 : a = b → y) : bcase (a != b) x y := bc (fun h => h1 (by simpa using h)) (fun h => h2 (by simpa using h))
theorem bcnot {b : Bool} {x y : Prop} (h1 : b = false → x) (h2 : b = true → y) : bcase (!b) x y := by cases b; exact h1 rfl; exact h2 rfl
/-! ### calls -/
def Pure (P : Program) (f : FuncId) (as0 : List A) (σ : Store) (r : RV) : Prop := DCalls P f as0 σ fun r' σ' => r' = r ∧ σ' = σ
theorem Pure.use {f : FuncId} {as0 : List A} {r : RV} {Q : RV → Store → Prop} (h : Pure P f as0 σ r) (hq : Q r σ) : DCalls P f as0 σ Q := h.mono fun r' s ⟨h1, h2⟩ => by subst h1 h2; exact hq
/-! ### what a call hands back -/
theorem Fz.refl {S : Nat → Prop} {es : Nat} {rows : List (List D)} (h : ∀ row ∈ rows, ∀ d ∈ row, Fz P σ S d d) : Fz P σ S (.sl es rows) (.sl es rows) :=
 .sl es rows rows rfl (fun i row row' h1 h2 => by rw [h1] at h2; injection h2 with h2; rw [h2]) (fun i row row' j d d' h1 h2 h3 h4 => by
   rw [h1] at h2; injection h2 with h2; subst h2
   rw [h3] at h4; injection h4 with h4; subst h4
   exact h row (List.mem_of_getElem? h1) d (List.mem_of_getElem? h3))
inductive Flat : D → Prop
 | int (q n) : Flat (.int q n)
 | bool (b) : Flat (.bool b)
 | str (s) : Flat (.str s)
theorem Flat.fz {S : Nat → Prop} {d : D} (h : Flat d) : Fz P σ S d d := by cases h <;> constructor
theorem Fz.osl_flat {S : Nat → Prop} {id i len : Nat} {rows' : List (List D)} {t : TypeId} {rows : List (List D)} (hn : ¬ S id) (hs : σ id = .live t rows) (hi : i + len ≤ rows.length) (hr : rows' = (rows.drop i).take len)
   (hf : ∀ row ∈ rows', ∀ d ∈ row, Flat d) : Fz P σ S (.osl id i len) (.sl (P.cellsOf t) rows') := by
 have hl : rows'.length = len := by rw [hr]; simp; omega
 have key : ∀ (j : Nat) row row', rows[i + j]? = some row → rows'[j]? = some row' → row' = row := fun j row row' h1 h2 => by
   have hlt := (List.getElem?_eq_some_iff.1 h2).1
   rw [hr, List.getElem?_take, if_pos (by omega), List.getElem?_drop, h1] at h2
   injection h2 with h2; exact h2.symm
 exact .osl id i len t rows rows' hn hs hi hl (fun j row row' h1 h2 => by rw [key j row row' h1 h2]) (fun j row row' m d d' h1 h2 h3 h4 => by
   have e := key j row row' h1 h2
   subst e
   rw [h3] at h4; injection h4 with h4; subst h4
   exact (hf row' (List.mem_of_getElem? h2) d (List.mem_of_getElem? h3)).fz)
theorem Ret.pure {σ0 : Store} {r r' : RV} (he : Ext σ0 σ) (hr : FzR P σ (fun i => σ0 i ≠ .free) r r') : Ret P σ0 σ r σ0 r' :=
 ⟨fun i => σ0 i ≠ .free, fun i h => h, fun i h => Classical.not_not.1 h, fun i h => .inl ⟨(he i h).symm, he i h⟩, hr⟩
theorem FzL.cons {S : Nat → Prop} {d d' : D} {ds ds' : List D} (h : Fz P σ S d d') (ht : FzL P σ S ds ds') : FzL P σ S (d :: ds) (d' :: ds') :=
 ⟨by simp [ht.1], fun i x y h1 h2 => by
   cases i with
   | zero => simp at h1 h2; subst h1 h2; exact h
   | succ i => exact ht.2 i x y (by simpa using h1) (by simpa using h2)⟩
theorem FzL.nil {S : Nat → Prop} : FzL P σ S [] [] := ⟨rfl, fun i x y h => by simp at h⟩
theorem FzL.flat {S : Nat → Prop} {ds : List D} (h : ∀ d ∈ ds, Flat d) : FzL P σ S ds ds :=
 ⟨rfl, fun i x y h1 h2 => by rw [h1] at h2; injection h2 with h2; subst h2; exact (h x (List.mem_of_getElem? h1)).fz⟩
theorem ret_slice {σ0 : Store} {rs : List (List D)} (h : At P σ el d rs) (he : Ext σ0 σ) (hid : ∀ id i len, d = .osl id i len → σ0 id = .free) (hf : ∀ row ∈ rs, ∀ x ∈ row, Flat x) :
   ∃ d', Fz P σ (fun i => σ0 i ≠ .free) d d' ∧ (∀ σ'', At P σ'' el d' rs) := by
 have hr := h.rows
 cases d <;> simp only [Rows] at hr <;> try exact hr.elim
 · subst hr; exact ⟨.nils, .nils, fun _ => .nil⟩
 · subst hr; exact ⟨.zsl, .zsl, fun _ => ⟨rfl, by simp, fun es rows e => by cases e⟩⟩
 · rename_i es rows
   obtain ⟨rfl, h3⟩ := hr
   exact ⟨_, .refl fun row hrow x hx => (hf row hrow x hx).fz, fun σ'' => ⟨⟨rfl, h3⟩, h.size, h.es⟩⟩
 · obtain ⟨t, rows, q1, q2, q3, rfl⟩ := hr
   rename_i id i len
   refine ⟨.sl (P.cellsOf t) ((rows.drop i).take len), .osl_flat (fun hn => hn (hid _ _ _ rfl)) q1 q3 rfl hf, fun σ'' => ⟨⟨rfl, .inr q2⟩, h.size, fun es rows e => ?_⟩⟩
   injection e with e1 e2
   rw [← e1]; exact q2
/-! ### slices that grow -/
structure Own (P : Program) (σ0 σ : Store) (el : TypeId) (d : D) (rs : List (List D)) : Prop where
 at_ : At P σ el d rs
 ext : Ext σ0 σ
 new : ∀ id i len, d = .osl id i len → σ0 id = .free
 nsl : ¬ isSl d
 nz : d ≠ .zsl
theorem Own.nil (σ0 : Store) (h : Ext σ0 σ) : Own P σ0 σ el .nils [] := ⟨.nil, h, fun id i len e => (by cases e), fun h => h, by intro e; cases e⟩
theorem Own.ext' {σ0 : Store} (h : Own P σ0 σ el d rs) (he : Ext σ σ') : Own P σ0 σ' el d rs := ⟨h.at_.ext he, h.ext.trans he, h.new, h.nsl, h.nz⟩
theorem Own.append {σ0 : Store} {x : D} {ns : List (List D)} {bytes : Nat} {K : D → Store → Prop} (h : Own P σ0 σ el d rs) (hx : At P σ el x ns) (hb : bytes * (rs.length + ns.length) ≤ 140737488355328)
   (hsz : rs.length + ns.length < 2 ^ 60) (hk : ∀ d' σ', Own P σ0 σ' el d' (rs ++ ns) → (∀ i, σ i ≠ .free → (∀ a b, d ≠ .osl i a b) → σ' i = σ i) → (∀ i a b, d' = .osl i a b → σ i = .free ∨ ∃ a b, d = .osl i a b) → K d' σ') : appendTo P σ el bytes d x K := by
 refine ⟨rs, ns, h.at_.rows, hx.rows, hb, fun hs => absurd hs h.nsl, fun d' σ' ha => ?_⟩
 have hl : (rs ++ ns).length < 2 ^ 60 := by simp; omega
 rcases ha with ⟨rfl, rfl, rfl⟩ | ⟨hne, id, hid, rfl, rfl⟩ | ⟨hne, id, i0, len, t, rows, rfl, hlive, rfl, rfl⟩
 · refine hk _ _ ?_ (fun i _ _ => rfl) (fun i a b e => .inr ⟨a, b, e⟩)
   rw [List.append_nil]; exact h
 · refine hk _ _ ⟨.new (t := el) _ (Store.set_same _ _ _) rfl hl (by simp), fun i hi => ?_, fun id' i len e => ?_, fun h => h, by intro e; cases e⟩ (fun i hi _ => ?_) (fun i a b e => .inl ?_)
   · rw [Store.set_ne _ _ (fun e => ?_)]
     · exact h.ext i hi
     · subst e
       have := h.ext i hi
       rw [hid] at this; exact hi this.symm
   · injection e with e1; subst e1
     by_cases hf : σ0 id = .free
     · exact hf
     · have := h.ext id hf
       rw [hid] at this; exact this.symm
   · exact Store.set_ne _ _ (fun e => hi (e ▸ hid))
   · injection e with e1; subst e1; exact hid
 · have hrow := h.at_.rows
   obtain ⟨t', rows', q1, q2, q3, hrs⟩ := hrow
   rw [hlive] at q1; injection q1 with q1 q1'; subst q1 q1'
   have hnew := h.new id i0 len rfl
   have hlen : rs.length = len := by rw [hrs]; simp; omega
   refine hk _ _ ⟨⟨⟨t, _, Store.set_same _ _ _, q2, ?_, ?_⟩, hl, fun es rows e => by cases e⟩, h.ext.set hnew _, fun id' i l e => ?_, fun h => h, by intro e; cases e⟩ (fun i hi hd => Store.set_ne _ _ (fun e => hd i0 len (by rw [e]))) (fun i a b e => .inr ?_)
   · simp; omega
   · have e1 : rows.take (i0 + len) = rows.take i0 ++ rs := by
       rw [List.take_add, hrs]
     rw [e1, List.append_assoc, List.append_assoc, List.drop_append_of_le_length (by simp; omega)]
     have e2 : (rows.take i0).drop i0 = [] := by rw [List.drop_eq_nil_iff]; simp; omega
     rw [e2, List.nil_append, ← List.append_assoc, List.take_append_of_le_length (by simp; omega), List.take_of_length_le (by simp; omega)]
   · injection e with e1; subst e1; exact hnew
   · injection e with e1; subst e1; exact ⟨_, _, rfl⟩
/-! ### ranges -/
theorem drop_get {α : Type} {l : List α} {j : Nat} {x : α} (h : l[j]? = some x) : l.drop j = x :: l.drop (j + 1) := by
 obtain ⟨h1, h2⟩ := List.getElem?_eq_some_iff.1 h
 rw [List.drop_eq_getElem_cons h1, h2]
theorem drop_end {α : Type} {l : List α} {j : Nat} (h : l.length ≤ j) : l.drop j = [] := List.drop_eq_nil_iff.2 h
theorem get_of_lt {α : Type} {l : List α} {j : Nat} (h : j < l.length) : ∃ x, l[j]? = some x := ⟨l[j], List.getElem?_eq_getElem h⟩
theorem map_get {α β : Type} {f : α → β} {l : List α} {j : Nat} {x : α} (h : l[j]? = some x) : (l.map f)[j]? = some (f x) := by simp [h]
def Rng {α : Type} (l : List α) (F : List α → Prop) (n : Int) : Prop := ∃ j : Nat, n = j ∧ j ≤ l.length ∧ F (l.drop j)
theorem Rng.start {α : Type} {l : List α} {F : List α → Prop} (h : F l) : Rng l F 0 := ⟨0, rfl, by omega, h⟩
theorem Rng.step {α : Type} {l : List α} {F : List α → Prop} {n : Int} {m : Nat} (h : Rng l F n) (hm : m = l.length) (hl : l.length < 2 ^ 60) (hlt : n < (m : Int)) :
   ∃ (j : Nat) (x : α), n = j ∧ l[j]? = some x ∧ j < l.length ∧ F (x :: l.drop (j + 1)) ∧
     ∀ F' : List α → Prop, F' (l.drop (j + 1)) → Rng l F' (w64 (n + 1)) ∧ l.length - (w64 (n + 1)).toNat < l.length - n.toNat := by
 obtain ⟨j, rfl, hj, hF⟩ := h
 have hj' : j < l.length := by omega
 obtain ⟨x, hx⟩ := get_of_lt hj'
 refine ⟨j, x, rfl, hx, hj', by rw [← drop_get hx]; exact hF, fun F' h' => ?_⟩
 rw [w64_succ (by omega)]
 exact ⟨⟨j + 1, rfl, by omega, h'⟩, by omega⟩
theorem Rng.done {α : Type} {l : List α} {F : List α → Prop} {n : Int} {m : Nat} (h : Rng l F n) (hm : m = l.length) (hge : ¬ n < (m : Int)) : F [] := by
 obtain ⟨j, rfl, hj, hF⟩ := h
 rw [drop_end (by omega)] at hF; exact hF
theorem andl {p a b : Prop} (hp : p) (h : a ∧ b) : (p ∧ a) ∧ b := ⟨⟨hp, h.1⟩, h.2⟩
/-! ### maps -/
def MapAt {κ : Type} (P : Program) (kt : TypeId) (enc : κ → A) (σ : Store) (id : Nat) (f : κ → Option A) : Prop :=
 ∃ clock es, σ id = .mp clock es ∧ keysOk P kt es ∧ ∀ x, findM (enc x) es = f x
def Keys {κ : Type} (P : Program) (kt : TypeId) (enc : κ → A) : Prop := (∀ x, keyOk P kt (enc x) = true) ∧ ∀ x y, eqA (enc x) (enc y) = true ↔ x = y
variable {κ : Type} {kt : TypeId} {enc : κ → A} {id : Nat} {f : κ → Option A}
theorem MapAt.new (h : σ id = .mp 0 []) : MapAt P kt enc σ id fun _ => none := ⟨0, [], h, fun e he => (by cases he), fun x => rfl⟩
theorem MapAt.same (h : MapAt P kt enc σ id f) (hs : σ' id = σ id) : MapAt P kt enc σ' id f := by
 obtain ⟨c, es, h1, h2⟩ := h
 exact ⟨c, es, hs.trans h1, h2⟩
theorem MapAt.look (hk : Keys P kt enc) (h : MapAt P kt enc σ id f) (x : κ) : MLook P kt σ (.omap id) (enc x) (f x) := by
 obtain ⟨c, es, h1, h2, h3⟩ := h
 exact ⟨hk.1 x, .inr ⟨id, c, es, rfl, h1, h2, (h3 x).symm⟩⟩
theorem MapAt.lookI (hk : Keys P kt enc) (h : MapAt P kt enc σ id f) (x : κ) {n : Int} {K : Int → Prop} (hn : (f x).getD (iA 0) = iA n) (hK : K n) :
   ∃ r : Option A, MLook P kt σ (.omap id) (enc x) r ∧ ∃ n : Int, Option.getD r (iA 0) = iA n ∧ K n := ⟨_, h.look hk x, n, hn, hK⟩
theorem eqA_symm (x y : A) : eqA x y = eqA y x := by
 unfold eqA
 generalize aCells x = as0
 generalize aCells y = bs
 induction as0 generalizing bs with
 | nil => cases bs <;> rfl
 | cons a as0 ih =>
   cases bs with
   | nil => rfl
   | cons b bs =>
     simp only [eqCells, ih]
     congr 1
     cases a <;> cases b <;> simp [eqCell]
     · exact Bool.eq_iff_iff.2 (by simp; exact eq_comm)
     · exact Bool.eq_iff_iff.2 (by simp; exact eq_comm)
     · exact Bool.eq_iff_iff.2 (by rw [MapKept.bytes_beq, MapKept.bytes_beq]; exact eq_comm)
theorem findM_append {x : A} {es : List Ent} {e : Ent} : findM x (es ++ [e]) = (findM x es).or (if eqA x e.2.1 = true then some e.2.2 else none) := by
 unfold findM
 rw [List.find?_append]
 cases es.find? (fun e => eqA x e.2.1) with
 | some w => simp
 | none =>
   simp only [Option.none_or, Option.map_none, List.find?_cons, List.find?_nil]
   cases eqA x e.2.1 <;> simp
theorem findM_set {x y : A} {es : List Ent} {j : Nat} {e : Ent} {v : A} (hf : FirstAt y es j e) : findM x (es.set j (e.1, y, v)) = if eqA x y = true then some v else findM x es := by
 unfold findM
 induction es generalizing j with
 | nil => simp [FirstAt] at hf
 | cons e0 es ih =>
   cases j with
   | zero =>
     obtain ⟨h1, h2, _⟩ := hf
     simp at h1; subst h1
     simp only [List.set_cons_zero, List.find?_cons]
     have := eqA_congr h2 x
     cases hxy : eqA x y with
     | true => simp
     | false => rw [hxy] at this; simp [← this]
   | succ j =>
     obtain ⟨h1, h2⟩ := hf.tail
     have ih := ih h2
     simp only [List.set_cons_succ, List.find?_cons]
     cases h0 : eqA x e0.2.1 with
     | true =>
       have hxy : eqA x y = false := by
         cases hxy : eqA x y with
         | false => rfl
         | true =>
           rw [eqA_symm] at hxy
           have := eqA_congr hxy e0.2.1
           rw [eqA_symm e0.2.1 y, h1, eqA_symm e0.2.1 x, h0] at this
           cases this
       simp [hxy]
     | false => simp only [ih]
theorem findM_none {x : A} {es : List Ent} (h : ∀ e ∈ es, eqA x e.2.1 = false) : findM x es = none := by simp [findM, find_none h]
theorem mput_spec {clock : Nat} {es : List Ent} {y v : A} (hy : keyOk P kt y = true) (hk : keysOk P kt es) : ∃ c es', mput clock es y v = .mp c es' ∧ keysOk P kt es' ∧ ∀ x, findM x es' = if eqA x y = true then some v else findM x es := by
 rcases put_cases clock es y v with ⟨hn, e1, _, _⟩ | ⟨j, e, hf, e1, _, _⟩
 · refine ⟨_, _, e1, fun w hw => ?_, fun x => ?_⟩
   · rcases List.mem_append.1 hw with hw | hw
     · exact hk w hw
     · simp at hw; subst hw; exact hy
   · rw [findM_append]
     by_cases hxy : eqA x y = true
     · have hnx : findM x es = none := findM_none fun e he => by
         have h1 := hn e he
         have := eqA_congr (by rw [eqA_symm]; exact hxy : eqA y x = true) e.2.1
         rw [eqA_symm e.2.1 y, h1, eqA_symm e.2.1 x] at this
         exact this.symm
       simp [hxy, hnx]
     · simp [hxy]
 · refine ⟨_, _, e1, fun w hw => ?_, fun x => findM_set hf⟩
   rcases List.mem_or_eq_of_mem_set hw with hw | hw
   · exact hk w hw
   · subst hw; exact hy
theorem MapAt.put (hk : Keys P kt enc) (h : MapAt P kt enc σ id f) (x : κ) {v : A} {K : Store → Prop}
   (hK : ∀ σ' f', MapAt P kt enc σ' id f' → (∀ z, z ≠ x → f' z = f z) → f' x = some v → (∀ i, i ≠ id → σ' i = σ i) → σ' id ≠ .free → K σ') : MPut P kt σ (.omap id) (enc x) v K := by
 obtain ⟨c, es, h1, h2, h3⟩ := h
 obtain ⟨c', es', e1, e2, e3⟩ := mput_spec (clock := c) (v := v) (hk.1 x) h2
 refine ⟨id, c, es, ⟨hk.1 x, rfl, h1, h2⟩, ?_⟩
 rw [e1]
 exact hK _ (fun z => findM (enc z) es') ⟨c', es', Store.set_same _ _ _, e2, fun z => rfl⟩ (fun z hz => by rw [e3, if_neg (fun h => hz ((hk.2 z x).1 h)), h3]) (by rw [e3, if_pos ((hk.2 x x).2 rfl)])
   (fun i hi => Store.set_ne _ _ hi) (by rw [Store.set_same]; intro e; cases e)
theorem MapAt.bump (hk : Keys P kt enc) (h : MapAt P kt enc σ id f) (x : κ) {z v : A} {K : Store → Prop}
   (hK : ∀ σ' f', MapAt P kt enc σ' id f' → (∀ z, z ≠ x → f' z = f z) → f' x = some v → (∀ i, i ≠ id → σ' i = σ i) → σ' id ≠ .free → K σ') :
   MEntry P kt σ (.omap id) (enc x) z fun _ n σ' => MStamp σ' (.omap id) n v K := by
 obtain ⟨c, es, h1, h2, h3⟩ := h
 refine ⟨id, c, es, ⟨hk.1 x, rfl, h1, h2⟩, fun hb => ?_⟩
 have fin : ∀ (c' : Nat) (es1 : List Ent), keysOk P kt es1 → (∀ y, findM y (stampL (mstamp c es (enc x)) v es1) = if eqA y (enc x) = true then some v else findM y es) → keysOk P kt (stampL (mstamp c es (enc x)) v es1) →
     mput c es (enc x) ((findM (enc x) es).getD z) = .mp c' es1 → (∃ e ∈ es1, (e.1 : Int) = (mstamp c es (enc x) : Nat)) →
     MStamp (σ.set id (mput c es (enc x) ((findM (enc x) es).getD z))) (.omap id) (mstamp c es (enc x) : Nat) v K := by
   intro c' es1 hk1 hf hk2 he hm
   refine ⟨id, c', es1, rfl, by rw [Store.set_same, he], hm, ?_⟩
   exact hK _ (fun y => findM (enc y) (stampL (mstamp c es (enc x)) v es1)) ⟨c', _, Store.set_same _ _ _, hk2, fun y => rfl⟩ (fun y hy => by rw [hf, if_neg (fun h => hy ((hk.2 y x).1 h)), h3]) (by rw [hf, if_pos ((hk.2 x x).2 rfl)])
     (fun i hi => by rw [Store.set_ne _ _ hi, Store.set_ne _ _ hi]) (by rw [Store.set_same]; intro e; cases e)
 rcases put_cases c es (enc x) ((findM (enc x) es).getD z) with ⟨hn, e1, e2, e3⟩ | ⟨j, e, hf, e1, e2, e3⟩
 · rw [e2, Option.getD_none] at e1
   have hst : stampL (mstamp c es (enc x)) v (es ++ [(c, enc x, z)]) = es ++ [(c, enc x, v)] := by
     have hj : (es ++ [(c, enc x, z)])[es.length]? = some (c, enc x, z) := by simp
     rw [stampL_at (hb.push (enc x) z).2 hj (by rw [e3])]
     simp
   refine fin (c + 1) (es ++ [(c, enc x, z)]) (fun w hw => ?_) (fun y => ?_) ?_ (by rw [e2, Option.getD_none]; exact e1) ⟨(c, enc x, z), List.mem_append_right _ (List.mem_singleton.2 rfl), by rw [e3]⟩
   · rcases List.mem_append.1 hw with hw | hw
     · exact h2 w hw
     · simp at hw; subst hw; exact hk.1 x
   · rw [hst, findM_append]
     by_cases hxy : eqA y (enc x) = true
     · have hnx : findM y es = none := findM_none fun e he => by
         have h1 := hn e he
         have := eqA_congr (by rw [eqA_symm]; exact hxy : eqA (enc x) y = true) e.2.1
         rw [eqA_symm e.2.1 (enc x), h1, eqA_symm e.2.1 y] at this
         exact this.symm
       simp [hxy, hnx]
     · simp [hxy]
   · rw [hst]
     intro w hw
     rcases List.mem_append.1 hw with hw | hw
     · exact h2 w hw
     · simp at hw; subst hw; exact hk.1 x
 · rw [e2, Option.getD_some] at e1
   have hlt := (List.getElem?_eq_some_iff.1 hf.1).1
   have hj : (es.set j (e.1, enc x, e.2.2))[j]? = some (e.1, enc x, e.2.2) := by simp [hlt]
   have hst : stampL (mstamp c es (enc x)) v (es.set j (e.1, enc x, e.2.2)) = es.set j (e.1, enc x, v) := by
     rw [stampL_at (hb.set hf.1 (enc x) e.2.2).2 hj (by rw [e3]), List.set_set]
   refine fin c (es.set j (e.1, enc x, e.2.2)) (fun w hw => ?_) (fun y => by rw [hst]; exact findM_set hf) ?_ (by rw [e2, Option.getD_some]; exact e1) ⟨_, List.mem_of_getElem? hj, by rw [e3]⟩
   · rcases List.mem_or_eq_of_mem_set hw with hw | hw
     · exact h2 w hw
     · subst hw; exact hk.1 x
   · rw [hst]
     intro w hw
     rcases List.mem_or_eq_of_mem_set hw with hw | hw
     · exact h2 w hw
     · subst hw; exact hk.1 x
theorem osl_new {σ0 : Store} {id i0 n : Nat} (h : σ0 id = .free) : ∀ id' i len, D.osl id i0 n = .osl id' i len → σ0 id' = .free := fun id' i len e => by
 have := (D.osl.inj e).1
 rw [← this]; exact h
inductive FlatR : RV → Prop
 | one (x : D) (h : Flat x) : FlatR (.a (.one x))
 | agg (ds : List D) (h : ∀ d ∈ ds, Flat d) : FlatR (.a (.agg ds))
 | tup (ds : List D) (h : ∀ d ∈ ds, Flat d) : FlatR (.tup (ds.map .one))
theorem FlatR.fz {S : Nat → Prop} {r : RV} (h : FlatR r) : FzR P σ S r r := by
 cases h with
 | one d h => exact h.fz
 | agg ds h => exact FzL.flat h
 | tup ds h =>
   refine ⟨rfl, fun i x y h1 h2 => ?_⟩
   rw [h1] at h2; injection h2 with h2; subst h2
   simp only [List.getElem?_map, Option.map_eq_some_iff] at h1
   obtain ⟨d, h1, rfl⟩ := h1
   exact (h d (List.mem_of_getElem? h1)).fz
theorem Pure.of {f : FuncId} {as0 : List A} {r : RV} (h : DCalls P f as0 σ fun r' s => r' = r ∧ Ext σ s) (hf : FlatR r) : Pure P f as0 σ r :=
 h.ret fun r' s ⟨h1, h2⟩ => by subst h1; exact ⟨r', σ, .pure h2 hf.fz, rfl, rfl⟩
theorem flat_i (n : Int) : FlatR (.a (iA n)) := .one _ (.int _ _)
theorem flat_b (b : Bool) : FlatR (.a (bA b)) := .one _ (.bool _)
theorem keys_int2 (h : ∀ a b : Int, keyOk P kt (.agg [iD a, iD b]) = true) : Keys P kt fun p : Int × Int => .agg [iD p.1, iD p.2] :=
 ⟨fun x => h _ _, fun x y => by simp [eqA, eqCells, aCells, eqCell, Prod.ext_iff]⟩
end
section
structure Sec where
 Kind : Int
 OC : Int
 Line : Int
structure Jt where
 A : Int
 AEnd : Int
 B : Int
 BEnd : Int
structure Sg where
 Sec : Int
 End_ : Int
 deriving DecidableEq
structure St where
 Sec : Int
 In : Int
 Out : Int
structure Nd where
 Sec : Int
 Pos : Int
 deriving DecidableEq
def Sec.enc (s : Sec) : List D := [iD s.Kind, iD s.OC, iD s.Line]
def Jt.enc (s : Jt) : List D := [iD s.A, iD s.AEnd, iD s.B, iD s.BEnd]
def Sg.enc (s : Sg) : List D := [iD s.Sec, iD s.End_]
def St.enc (s : St) : List D := [iD s.Sec, iD s.In, iD s.Out]
def Nd.enc (s : Nd) : List D := [iD s.Sec, iD s.Pos]
def encI (n : Int) : List D := [iD n]
def wayL (k : Int) : List (Int × Int × Int) :=
 if k = 0 then [(0, 1, 0)] else if k = 1 then [(0, 1, 1), (0, 2, 2)] else if k = 2 then [(0, 1, 0), (2, 3, 0)] else []
def encW (w : Int × Int × Int) : List D := [iD w.1, iD w.2.1, iD w.2.2]
def nends (k : Int) : Int := if k = 0 then 2 else if k = 1 then 3 else if k = 2 then 4 else 0
def endStep (n : Int) (w : Int × Int × Int) : Int :=
 ite (w64 (w.2.1 + 1) > ite (w64 (w.1 + 1) > n) (w64 (w.1 + 1)) n) (w64 (w.2.1 + 1)) (ite (w64 (w.1 + 1) > n) (w64 (w.1 + 1)) n)
theorem ends_eq (k : Int) : (wayL k).foldl endStep 0 = nends k := by
 unfold wayL nends
 split
 · decide
 · split
   · decide
   · split
     · decide
     · rfl
def wpos : List (Int × Int × Int) → Int → Int → Option Int
 | [], _, _ => none
 | w :: r, i, o => if (w.1 = i ∧ w.2.1 = o) ∨ (w.2.1 = i ∧ w.1 = o) then some w.2.2 else wpos r i o
def nxt : List Jt → Int → Int → Option (Int × Int)
 | [], _, _ => none
 | j :: r, s, e => if j.A = s ∧ j.AEnd = e then some (j.B, j.BEnd) else if j.B = s ∧ j.BEnd = e then some (j.A, j.AEnd) else nxt r s e
def opt2 : Option (Int × Int) → RV
 | none => .tup [iA 0, iA 0, bA false]
 | some p => .tup [iA p.1, iA p.2, bA true]
def opt1 : Option Int → RV
 | none => .tup [iA 0, bA false]
 | some p => .tup [iA p, bA true]
def cnt : List Jt → Int → Int → Int
 | [], _, _ => 0
 | j :: r, s, e => (if j.A = s ∧ j.AEnd = e then 1 else 0) + (if j.B = s ∧ j.BEnd = e then 1 else 0) + cnt r s e
def idxOf : List Int → Int → Nat → Int
 | [], _, _ => -1
 | x :: r, v, j => if v = x then j else idxOf r v (j + 1)
/-! ### is the plan right? -/
def kindAt (secs : List Sec) (i : Int) : Int := (secs[i.toNat]?.map Sec.Kind).getD (-1)
def spotOk (secs : List Sec) (p : Int × Int) : Bool := decide (0 ≤ p.1 ∧ p.1 ≤ (secs.length : Int) - 1) && decide (0 ≤ p.2 ∧ p.2 ≤ nends (kindAt secs p.1) - 1)
def prun (secs : List Sec) : List (Int × Int) → List (Int × Int) → Option (List (Int × Int))
 | [], tk => some tk
 | p :: r, tk => if spotOk secs p = true ∧ p ∉ tk then prun secs r (p :: tk) else none
def Jt.spots (j : Jt) : List (Int × Int) := [(j.A, j.AEnd), (j.B, j.BEnd)]
def jrun (secs : List Sec) : List Jt → List (Int × Int) → Option (List (Int × Int))
 | [], tk => some tk
 | j :: r, tk => match prun secs j.spots tk with
   | none => none
   | some tk' => if j.A = j.B then none else jrun secs r tk'
def srun (tk : List (Int × Int)) : List Sec → Int → List Int → Bool
 | [], _, _ => true
 | s :: r, i, ls => if nends s.Kind = 0 ∨ ¬ (0 ≤ s.OC ∧ s.OC ≤ 3) ∨ ¬ (0 ≤ s.Line ∧ s.Line ≤ 3) ∨ s.Line ≠ 0 ∧ (s.Kind ≠ 0 ∨ (i, 1) ∈ tk ∨ s.Line ∈ ls) then false else srun tk r (i + 1) (s.Line :: ls)
def topoOk (secs : List Sec) (js : List Jt) : Bool :=
 decide (1 ≤ secs.length ∧ secs.length ≤ 16 ∧ js.length ≤ 24) && match jrun secs js [] with
   | none => false
   | some tk => srun tk secs 0 []
theorem nends_le (k : Int) : 0 ≤ nends k ∧ nends k ≤ 4 := by unfold nends; split <;> (try split) <;> (try split) <;> omega
end
end Go.Fw
namespace Go.Proofs.Ytjdpkjembijbeaa
open Go.Fw
section
theorem mixed : Go.Proofs.Try.prog.follows .mixedOrders = true := Go.Proofs.Try.checked.mixed
abbrev n_law16_ArsExact : FuncId := 3
abbrev n_law16_lives : FuncId := 5
abbrev n_ars_Check : FuncId := 6
abbrev n_ref16_Check : FuncId := 7
abbrev n_ars_Due : FuncId := 8
abbrev n_ref16_Due : FuncId := 9
abbrev n_ref01_SameInts : FuncId := 10
abbrev n_ars_Berths : FuncId := 11
abbrev n_ref16_Berths : FuncId := 12
abbrev n_locks_New : FuncId := 15
abbrev n_conf_Check : FuncId := 17
abbrev n_ars_between : FuncId := 18
abbrev n_ref06_Check : FuncId := 19
abbrev n_ref13_Time : FuncId := 20
abbrev n_locks_Fits : FuncId := 21
abbrev n_conf_Approach : FuncId := 22
abbrev n_slices_SortStableFunc_ars_due : FuncId := 23
abbrev n_ars_Due_1 : FuncId := 24
abbrev n_ref13_Fits : FuncId := 25
abbrev n_ref14_Seen : FuncId := 26
abbrev n_ref06_Approach : FuncId := 27
abbrev n_slices_Clone_int : FuncId := 28
abbrev n_slices_Repeat_int : FuncId := 31
abbrev n_locks_movers : FuncId := 32
abbrev n_topo_Check : FuncId := 34
abbrev n_conf_plan_signals : FuncId := 35
abbrev n_conf_plan_crossings : FuncId := 36
abbrev n_conf_plan_route : FuncId := 37
abbrev n_conf_between : FuncId := 38
abbrev n_ref05_Check : FuncId := 39
abbrev n_ref06_signals : FuncId := 40
abbrev n_ref06_crossings : FuncId := 41
abbrev n_ref06_path : FuncId := 42
abbrev n_ref06_SameNeeds : FuncId := 43
abbrev n_ref06_Flank : FuncId := 44
abbrev n_ref06_sameInts : FuncId := 45
abbrev n_ref06_Overlap : FuncId := 46
abbrev n_locks_between : FuncId := 47
abbrev n_locks_times : FuncId := 48
abbrev n_slices_Concat_Mover : FuncId := 49
abbrev n_conf_plan_approach : FuncId := 50
abbrev n_slices_stableCmpFunc_ars_due : FuncId := 51
abbrev n_math_bits_Mul : FuncId := 55
abbrev n_mover_Start : FuncId := 56
abbrev n_slices_Repeat_Mover : FuncId := 57
abbrev n_topo_between : FuncId := 58
abbrev n_topo_Ends : FuncId := 59
abbrev n_topo_Next : FuncId := 60
abbrev n_conf_plan_section : FuncId := 61
abbrev n_conf_plan_path : FuncId := 62
abbrev n_slices_Equal_Need : FuncId := 63
abbrev n_conf_plan_flank : FuncId := 64
abbrev n_slices_Equal_int : FuncId := 65
abbrev n_conf_plan_overlap : FuncId := 66
abbrev n_ref05_Ends : FuncId := 67
abbrev n_ref05_count : FuncId := 68
abbrev n_ref05_Next : FuncId := 69
abbrev n_ref06_at : FuncId := 70
abbrev n_ref06_kind : FuncId := 71
abbrev n_ref06_in : FuncId := 72
abbrev n_ref05_Pos : FuncId := 73
abbrev n_ref06_Sections : FuncId := 74
abbrev n_slices_Grow_Mover : FuncId := 75
abbrev n_conf_plan_signal : FuncId := 76
abbrev n_slices_insertionSortCmpFunc_ars_due : FuncId := 77
abbrev n_slices_symMergeCmpFunc_ars_due : FuncId := 78
abbrev n_math_bits_Mul64 : FuncId := 88
abbrev n_topo_ways : FuncId := 89
abbrev n_topo_Pos : FuncId := 90
abbrev n_slices_Contains_Signal : FuncId := 91
abbrev n_conf_has : FuncId := 92
abbrev n_slices_ContainsFunc_Need : FuncId := 93
abbrev n_conf_plan_flank_1 : FuncId := 94
abbrev n_ref05_ways : FuncId := 95
abbrev n_slices_ContainsFunc_Step : FuncId := 105
abbrev n_topo_way_other : FuncId := 107
abbrev n_slices_Index_Signal : FuncId := 108
abbrev n_conf_has_1 : FuncId := 109
abbrev n_slices_IndexFunc_Need : FuncId := 110
abbrev n_slices_Index_int : FuncId := 114
abbrev n_slices_IndexFunc_Step : FuncId := 115
abbrev t_int : TypeId := 3
abbrev t_bool : TypeId := 4
abbrev t_Config : TypeId := 30
abbrev t_sl_Mover : TypeId := 32
abbrev t_law16_World : TypeId := 40
abbrev t_law16_Ask : TypeId := 44
abbrev t_Entry : TypeId := 47
abbrev t_Section : TypeId := 61
abbrev t_Joint : TypeId := 63
abbrev t_Signal : TypeId := 65
abbrev t_Step : TypeId := 67
abbrev t_Route : TypeId := 71
abbrev t_Look : TypeId := 73
abbrev t_RouteState : TypeId := 81
abbrev t_ars_due : TypeId := 83
abbrev t_Mover : TypeId := 92
abbrev t_LineState : TypeId := 96
abbrev t_topo_spot : TypeId := 124
abbrev t_Need : TypeId := 135
abbrev t_topo_way : TypeId := 172
abbrev t_ref05_way : TypeId := 180
theorem c_int : Go.Proofs.Try.prog.cellsOf t_int = 1 := by kernel_rfl
theorem c_bool : Go.Proofs.Try.prog.cellsOf t_bool = 1 := by kernel_rfl
theorem c_sl_Mover : Go.Proofs.Try.prog.cellsOf t_sl_Mover = 1 := by kernel_rfl
theorem c_Entry : Go.Proofs.Try.prog.cellsOf t_Entry = 3 := by kernel_rfl
theorem c_Section : Go.Proofs.Try.prog.cellsOf t_Section = 3 := by kernel_rfl
theorem c_Joint : Go.Proofs.Try.prog.cellsOf t_Joint = 4 := by kernel_rfl
theorem c_Signal : Go.Proofs.Try.prog.cellsOf t_Signal = 2 := by kernel_rfl
theorem c_Step : Go.Proofs.Try.prog.cellsOf t_Step = 3 := by kernel_rfl
theorem c_Route : Go.Proofs.Try.prog.cellsOf t_Route = 6 := by kernel_rfl
theorem c_Look : Go.Proofs.Try.prog.cellsOf t_Look = 3 := by kernel_rfl
theorem c_RouteState : Go.Proofs.Try.prog.cellsOf t_RouteState = 4 := by kernel_rfl
theorem c_ars_due : Go.Proofs.Try.prog.cellsOf t_ars_due = 4 := by kernel_rfl
theorem c_Mover : Go.Proofs.Try.prog.cellsOf t_Mover = 2 := by kernel_rfl
theorem c_LineState : Go.Proofs.Try.prog.cellsOf t_LineState = 8 := by kernel_rfl
theorem c_topo_spot : Go.Proofs.Try.prog.cellsOf t_topo_spot = 2 := by kernel_rfl
theorem c_Need : Go.Proofs.Try.prog.cellsOf t_Need = 2 := by kernel_rfl
theorem c_topo_way : Go.Proofs.Try.prog.cellsOf t_topo_way = 3 := by kernel_rfl
theorem c_ref05_way : Go.Proofs.Try.prog.cellsOf t_ref05_way = 3 := by kernel_rfl
end
end Go.Proofs.Ytjdpkjembijbeaa
section
set_option maxRecDepth 100000
namespace Go.Proofs.Ytjdpkjembijbeaa
open Go.Fw Go.Proofs
def an_law16_ArsExact : Ann := { esc := [], cbs := [3, 4, 5], draws := [(4, { ord := [0, 1, 2, 3, 4, 5, 7, 8, 9, 6, 10, 11], nb := [7, 9], av := [], dir := [] }), (6, { ord := [0, 1, 2, 3, 4, 5, 6, 7, 8, 9, 10, 11, 12, 13, 15, 16, 17, 18, 19, 20, 21, 22, 23, 24, 25, 26, 27, 28, 14, 29, 30, 31], nb := [15, 17, 19, 21, 23, 26], av := [], dir := [], sp := [14] }), (19, { ord := [0, 1, 2, 3, 4, 5], nb := [], av := [], dir := [] }), (29, { ord := [0, 1, 2, 3, 4, 5, 6, 7, 8, 9, 10], nb := [], av := [], dir := [] })], loops := [(9, { mods := [(84, SlotSh.one (Sh.int IntKind.i64))], keep := [3, 4, 5, 7, 8, 9, 10, 83] }), (17, { mods := [(119, SlotSh.one (Sh.int IntKind.i64))], keep := [3, 4, 5, 7, 117, 118] }), (24, { mods := [(14, SlotSh.one (Sh.any)), (134, SlotSh.one (Sh.int IntKind.i64))], keep := [3, 4, 132, 133] })], joins := [(16, { mods := [], keep := [3, 4, 5, 7] })] }
def V_law16_ArsExact (c0 : D) (c1 : D) (c2 : D) (c3 : D) (c4 : D) (c5 : Int) (c6 : Int) (c7 : Int) (c8 : Int) (w0 : D) (w1 : D) (w2 : D) (w3 : D) (w4 : D) (w5 : D) (w6 : Bool) (w7 : D) (w8 : D) (w9 : D) (w10 : D) (w11 : D) (w12 : D) (w13 : Bool) (w14 : D) (w15 : D) (w16 : D) (w17 : D) (a0 : Int) (a1 : D) (a2 : D) (σ : Store) (Qp : RV → Store → Prop) : Prop :=
 DCalls Try.prog n_law16_lives [] σ (fun r Z => ∃ b : Bool, (r = (.a (.one (.bool b)) : RV)) ∧ bcase (!b) (Qp (.a (.one (.bool false))) Z) (Fw.newObj Z (.live t_Entry []) (fun id Z1 => appendTo Try.prog Z1 t_Entry 24 (.osl id 0 0) a2 (fun d Z2 => Fw.newObj Z2 (.live t_Entry [[.int .i64 0, .int .i64 0, .int .i64 (-7)]]) (fun id1 Z3 => appendTo Try.prog Z3 t_Entry 24 d (.osl id1 0 1) (fun d1 Z4 => ∃ len : Nat, (Len a2 len) ∧ ∃ len1 : Nat, (IdxN Try.prog Z4 d1 3 len1) ∧ ((0 : Int) ≤ 0) ∧ ((0 : Int) ≤ (len : Int)) ∧ ((len : Int) ≤ (len1 : Int)) ∧ DCalls Try.prog n_ars_Check [.agg [c0, c1, c2, c3, c4, .int .i64 c5, .int .i64 c6, .int .i64 c7, .int .i64 c8], .one (dsub d1 0 (Int.toNat (len : Int)))] Z4 (fun r1 Z5 => ∃ n : Int, (r1 = (.a (.one (.int .i64 n)) : RV)) ∧ DCalls Try.prog n_ref16_Check [.agg [c0, c1, c2, c3, c4, .int .i64 c5, .int .i64 c6, .int .i64 c7, .int .i64 c8], .one a2] Z5 (fun r2 Z6 => ∃ n1 : Int, (r2 = (.a (.one (.int .i64 n1)) : RV)) ∧ bcase (n != n1) (Qp (.a (.one (.bool false))) Z6) (∃ pre : List A → Store → Prop, ∃ post : List A → Store → RV → Store → Prop, (SpecOk Try.prog n_ars_Due pre post) ∧ ∃ len2 : Nat, (Len a2 len2) ∧ ∃ len3 : Nat, (IdxN Try.prog Z6 d1 3 len3) ∧ ((0 : Int) ≤ 0) ∧ ((0 : Int) ≤ (len2 : Int)) ∧ ((len2 : Int) ≤ (len3 : Int)) ∧ ∃ len4 : Nat, (Len a2 len4) ∧ ∃ len5 : Nat, (IdxN Try.prog Z6 d1 3 len5) ∧ ((0 : Int) ≤ 0) ∧ ((0 : Int) ≤ (len4 : Int)) ∧ ((len4 : Int) ≤ (len5 : Int)) ∧ (pre [.agg [c0, c1, c2, c3, c4, .int .i64 c5, .int .i64 c6, .int .i64 c7, .int .i64 c8], .agg [w0, w1, w2, w3, w4, w5, .bool w6], .agg [w14, w15, w16, w17], .one (.int .i64 a0), .one a1, .one (dsub d1 0 (Int.toNat (len2 : Int)))] Z6) ∧ ∀ r3 : RV, ∀ s : Store, (post [.agg [c0, c1, c2, c3, c4, .int .i64 c5, .int .i64 c6, .int .i64 c7, .int .i64 c8], .agg [w0, w1, w2, w3, w4, w5, .bool w6], .agg [w14, w15, w16, w17], .one (.int .i64 a0), .one a1, .one (dsub d1 0 (Int.toNat (len2 : Int)))] Z6 r3 s) → ∃ d2 : D, (r3 = (.a (.one d2) : RV)) ∧ DCalls Try.prog n_ars_Due [.agg [c0, c1, c2, c3, c4, .int .i64 c5, .int .i64 c6, .int .i64 c7, .int .i64 c8], .agg [w0, w1, w2, w3, w4, w5, .bool w6], .agg [w14, w15, w16, w17], .one (.int .i64 a0), .one a1, .one (dsub d1 0 (Int.toNat (len4 : Int)))] s (fun r4 Z7 => ∃ d3 : D, (r4 = (.a (.one d3) : RV)) ∧ DCalls Try.prog n_ref16_Due [.agg [c0, c1, c2, c3, c4, .int .i64 c5, .int .i64 c6, .int .i64 c7, .int .i64 c8], .agg [w0, w1, w2, w3, w4, w5, .bool w6], .agg [w14, w15, w16, w17], .one (.int .i64 a0), .one a1, .one a2] Z7 (fun r5 Z8 => ∃ d4 : D, (r5 = (.a (.one d4) : RV)) ∧ ∃ len6 : Nat, (Len d2 len6) ∧ ∃ I : Int → Store → Prop, ∃ μ : Int → Store → Nat, (I 0 Z8) ∧ ∀ n2 : Int, ∀ Z9, (I n2 Z9) → bcase (decide (n2 < (len6 : Int))) (∃ len7 : Nat, (Idx Try.prog Z9 d2 1 len7) ∧ ((0 : Int) ≤ n2) ∧ (n2 < (len7 : Int)) ∧ storeEl [.int .i64 (-9)] Z9 d2 (Int.toNat n2) 0 (fun Z10 => (I (w64 (n2 + 1)) Z10) ∧ ((μ (w64 (n2 + 1)) Z10) < (μ n2 Z9)))) (Fw.newObj Z9 (.live t_int [[.int .i64 (-9)]]) (fun id2 Z10 => appendTo Try.prog Z10 t_int 8 d2 (.osl id2 0 1) (fun d5 Z11 => ∀ R : Store → Prop, (∀ Z12, (∃ len7 : Nat, (Len a2 len7) ∧ ∃ I1 : Int → Store → Prop, ∃ μ1 : Int → Store → Nat, (I1 0 Z12) ∧ ∀ n3 : Int, ∀ Z13, (I1 n3 Z13) → bcase (decide (n3 < (len7 : Int))) (∃ len8 : Nat, (Idx Try.prog Z13 a2 3 len8) ∧ ((0 : Int) ≤ n3) ∧ (n3 < (len8 : Int)) ∧ ∃ row : List D, (Row Z13 a2 (Int.toNat n3) row) ∧ ∃ n4 n5 n6 : Int, ((List.take 3 row) = ([.int .i64 n4, .int .i64 n5, .int .i64 n6] : List D)) ∧ ∃ len9 : Nat, (Idx Try.prog Z13 d1 3 len9) ∧ ((0 : Int) ≤ n3) ∧ (n3 < (len9 : Int)) ∧ ∃ row1 : List D, (Row Z13 d1 (Int.toNat n3) row1) ∧ ∃ n7 n8 n9 : Int, ((List.take 3 row1) = ([.int .i64 n7, .int .i64 n8, .int .i64 n9] : List D)) ∧ bcase (!((n7 == n4) && ((n8 == n5) && (n9 == n6)))) (Qp (.a (.one (.bool false))) Z13) ((I1 (w64 (n3 + 1)) Z13) ∧ ((μ1 (w64 (n3 + 1)) Z13) < (μ1 n3 Z13)))) (∃ len8 : Nat, (Len a2 len8) ∧ ∃ I2 : D → Int → Store → Prop, ∃ μ2 : D → Int → Store → Nat, (I2 .nils 0 Z13) ∧ ∀ d6 : D, ∀ n4 : Int, ∀ Z14, (I2 d6 n4 Z14) → bcase (decide (n4 < (len8 : Int))) (∃ len9 : Nat, (Idx Try.prog Z14 a2 3 len9) ∧ ((0 : Int) ≤ n4) ∧ (n4 < (len9 : Int)) ∧ ∃ row : List D, (Row Z14 a2 (Int.toNat n4) row) ∧ ∃ n5 n6 n7 : Int, ((List.take 3 row) = ([.int .i64 n5, .int .i64 n6, .int .i64 n7] : List D)) ∧ Fw.newObj Z14 (.live t_int [[.int .i64 n7]]) (fun id3 Z15 => appendTo Try.prog Z15 t_int 8 d6 (.osl id3 0 1) (fun d7 Z16 => (I2 d7 (w64 (n4 + 1)) Z16) ∧ ((μ2 d7 (w64 (n4 + 1)) Z16) < (μ2 d6 n4 Z14))))) (Fw.newObj Z14 (.live t_int []) (fun id3 Z15 => appendTo Try.prog Z15 t_int 8 (.osl id3 0 0) d6 (fun d7 Z16 => Fw.newObj Z16 (.live t_int [[.int .i64 77]]) (fun id4 Z17 => appendTo Try.prog Z17 t_int 8 d7 (.osl id4 0 1) (fun d8 Z18 => ∃ len9 : Nat, (Len d6 len9) ∧ ∃ len10 : Nat, (IdxN Try.prog Z18 d8 1 len10) ∧ ((0 : Int) ≤ 0) ∧ ((0 : Int) ≤ (len9 : Int)) ∧ ((len9 : Int) ≤ (len10 : Int)) ∧ DCalls Try.prog n_ars_Berths [.agg [c0, c1, c2, c3, c4, .int .i64 c5, .int .i64 c6, .int .i64 c7, .int .i64 c8], .agg [w0, w1, w2, w3, w4, w5, .bool w6], .agg [w7, w8, w9, w10, w11, w12, .bool w13], .one (dsub d8 0 (Int.toNat (len9 : Int)))] Z18 (fun r6 Z19 => ∃ d9 : D, (r6 = (.a (.one d9) : RV)) ∧ DCalls Try.prog n_ref16_Berths [.agg [c0, c1, c2, c3, c4, .int .i64 c5, .int .i64 c6, .int .i64 c7, .int .i64 c8], .agg [w0, w1, w2, w3, w4, w5, .bool w6], .agg [w7, w8, w9, w10, w11, w12, .bool w13], .one d6] Z19 (fun r7 Z20 => ∃ d10 : D, (r7 = (.a (.one d10) : RV)) ∧ DCalls Try.prog n_ref01_SameInts [.one d9, .one d10] Z20 (fun r8 Z21 => ∃ b1 : Bool, (r8 = (.a (.one (.bool b1)) : RV)) ∧ bcase b1 (∃ len11 : Nat, (Len d6 len11) ∧ ∃ len12 : Nat, (IdxN Try.prog Z21 d8 1 len12) ∧ ((0 : Int) ≤ 0) ∧ ((0 : Int) ≤ (len11 : Int)) ∧ ((len11 : Int) ≤ (len12 : Int)) ∧ DCalls Try.prog n_ref01_SameInts [.one (dsub d8 0 (Int.toNat (len11 : Int))), .one d6] Z21 (fun r9 Z22 => ∃ b2 : Bool, (r9 = (.a (.one (.bool b2)) : RV)) ∧ bcase b2 (∃ len13 : Nat, (Len d6 len13) ∧ ∃ len14 : Nat, (Idx Try.prog Z22 d8 1 len14) ∧ ((0 : Int) ≤ (len13 : Int)) ∧ ((len13 : Int) < (len14 : Int)) ∧ ∃ row : List D, (Row Z22 d8 (Int.toNat (len13 : Int)) row) ∧ ∃ n5 : Int, ((List.take 1 row) = ([.int .i64 n5] : List D)) ∧ Qp (.a (.one (.bool (n5 == 77)))) Z22) (Qp (.a (.one (.bool false))) Z22))) (Qp (.a (.one (.bool false))) Z21))))))))))) → R Z12) → DCalls Try.prog n_ref01_SameInts [.one d3, .one d4] Z11 (fun r6 Z12 => ∃ b1 : Bool, (r6 = (.a (.one (.bool b1)) : RV)) ∧ bcase (!b1) (Qp (.a (.one (.bool false))) Z12) (∃ len7 : Nat, (Len d5 len7) ∧ ∃ len8 : Nat, (Len d4 len8) ∧ bcase ((len7 : Int) != (w64 ((len8 : Int) + 1))) (Qp (.a (.one (.bool false))) Z12) (∃ len9 : Nat, (Len a2 len9) ∧ ∃ len10 : Nat, (Idx Try.prog Z12 d1 3 len10) ∧ ((0 : Int) ≤ (len9 : Int)) ∧ ((len9 : Int) < (len10 : Int)) ∧ ∃ row : List D, (Row Z12 d1 (Int.toNat (len9 : Int)) row) ∧ ∃ n3 : Int, ((List.take 1 (List.drop 2 row)) = ([.int .i64 n3] : List D)) ∧ bcase (n3 != (-7)) (Qp (.a (.one (.bool false))) Z12) (R Z12))))))))))))))))))
theorem W_law16_ArsExact (c0 : D) (c1 : D) (c2 : D) (c3 : D) (c4 : D) (c5 : Int) (c6 : Int) (c7 : Int) (c8 : Int) (w0 : D) (w1 : D) (w2 : D) (w3 : D) (w4 : D) (w5 : D) (w6 : Bool) (w7 : D) (w8 : D) (w9 : D) (w10 : D) (w11 : D) (w12 : D) (w13 : Bool) (w14 : D) (w15 : D) (w16 : D) (w17 : D) (a0 : Int) (a1 : D) (a2 : D) (σ : Store) (Qp : RV → Store → Prop) (h : V_law16_ArsExact c0 c1 c2 c3 c4 c5 c6 c7 c8 w0 w1 w2 w3 w4 w5 w6 w7 w8 w9 w10 w11 w12 w13 w14 w15 w16 w17 a0 a1 a2 σ Qp) : DCalls Try.prog n_law16_ArsExact [.agg [c0, c1, c2, c3, c4, .int .i64 c5, .int .i64 c6, .int .i64 c7, .int .i64 c8], .agg [w0, w1, w2, w3, w4, w5, .bool w6, w7, w8, w9, w10, w11, w12, .bool w13, w14, w15, w16, w17], .agg [.int .i64 a0, a1, a2]] σ Qp :=
 dcalls_of_body mixed (by kernel_rfl) Try.func3 an_law16_ArsExact (Eq.mp (by kernel_rfl) h)
def an_ref16_Check : Ann := { esc := [], cbs := [2], draws := [], loops := [(6, { mods := [(15, SlotSh.one (Sh.int IntKind.i64))], keep := [2, 13, 14] })], joins := [] }
def V_ref16_Check (c0 : D) (c1 : D) (c2 : D) (c3 : D) (c4 : D) (c5 : Int) (c6 : Int) (c7 : Int) (c8 : Int) (table : D) (σ : Store) (Qp : RV → Store → Prop) : Prop :=
 DCalls Try.prog n_ref06_Check [.agg [c0, c1, c2, c3, c4, .int .i64 c5, .int .i64 c6, .int .i64 c7, .int .i64 c8]] σ (fun r Z => ∃ n : Int, (r = (.a (.one (.int .i64 n)) : RV)) ∧ bcase (n != 0) (Qp (.a (.one (.int .i64 21))) Z) (∃ len : Nat, (Len table len) ∧ bcase (decide ((len : Int) > 16)) (Qp (.a (.one (.int .i64 5))) Z) (∃ len1 : Nat, (Len table len1) ∧ ∃ I : Int → Store → Prop, ∃ μ : Int → Store → Nat, (I 0 Z) ∧ ∀ n1 : Int, ∀ Z1, (I n1 Z1) → bcase (decide (n1 < (len1 : Int))) (∃ len2 : Nat, (Idx Try.prog Z1 table 3 len2) ∧ ((0 : Int) ≤ n1) ∧ (n1 < (len2 : Int)) ∧ ∃ row : List D, (Row Z1 table (Int.toNat n1) row) ∧ ∃ n2 n3 n4 : Int, ((List.take 3 row) = ([.int .i64 n2, .int .i64 n3, .int .i64 n4] : List D)) ∧ DCalls Try.prog n_ref13_Time [.one (.int .i64 n2)] Z1 (fun r1 Z2 => ∃ b : Bool, (r1 = (.a (.one (.bool b)) : RV)) ∧ bcase (!b) (Qp (.a (.one (.int .i64 32))) Z2) (bcase (decide (n3 < 0)) (Qp (.a (.one (.int .i64 32))) Z2) (∃ len3 : Nat, (Len c4 len3) ∧ bcase (decide (n3 ≥ (len3 : Int))) (Qp (.a (.one (.int .i64 32))) Z2) (bcase (decide (n4 < 1)) (Qp (.a (.one (.int .i64 32))) Z2) (bcase (decide (n4 > 9999)) (Qp (.a (.one (.int .i64 32))) Z2) ((I (w64 (n1 + 1)) Z2) ∧ ((μ (w64 (n1 + 1)) Z2) < (μ n1 Z1))))))))) (Qp (.a (.one (.int .i64 0))) Z1))))
theorem W_ref16_Check (c0 : D) (c1 : D) (c2 : D) (c3 : D) (c4 : D) (c5 : Int) (c6 : Int) (c7 : Int) (c8 : Int) (table : D) (σ : Store) (Qp : RV → Store → Prop) (h : V_ref16_Check c0 c1 c2 c3 c4 c5 c6 c7 c8 table σ Qp) : DCalls Try.prog n_ref16_Check [.agg [c0, c1, c2, c3, c4, .int .i64 c5, .int .i64 c6, .int .i64 c7, .int .i64 c8], .one table] σ Qp :=
 dcalls_of_body mixed (by kernel_rfl) Try.func7 an_ref16_Check (Eq.mp (by kernel_rfl) h)
def an_ars_Berths : Ann := { esc := [], cbs := [4, 5, 6], draws := [], loops := [(6, { mods := [(36, SlotSh.one (Sh.int IntKind.i64))], keep := [5, 6, 9, 34, 35] })], joins := [(3, { mods := [], keep := [3, 4, 5, 6] }), (10, { mods := [], keep := [5, 6, 9, 11, 34, 35, 36] })] }
def V_ars_Berths (c0 : D) (c1 : D) (c2 : D) (c3 : D) (c4 : D) (c5 : Int) (c6 : Int) (c7 : Int) (c8 : Int) (was0 : D) (was1 : D) (was2 : D) (was3 : D) (was4 : D) (was5 : D) (was6 : Bool) (is0 : D) (is1 : D) (is2 : D) (is3 : D) (is4 : D) (is5 : D) (is6 : Bool) (berths : D) (σ : Store) (Qp : RV → Store → Prop) : Prop :=
 ∀ R : Store → Prop, (∀ Z, (∃ len : Nat, (Len c2 len) ∧ ((0 : Int) ≤ (len : Int)) ∧ ((len : Int) ≤ (len : Int)) ∧ (((8 : Int) * (len : Int)) ≤ (2 ^ 48)) ∧ Fw.newObj Z (.live t_int (List.replicate (Int.toNat (len : Int)) [.int .i64 0])) (fun id Z1 => copyTo Try.prog Z1 t_int (.osl id 0 (Int.toNat (len : Int))) berths (fun n Z2 => ∃ len1 : Nat, (Len c4 len1) ∧ ∃ I : Int → Store → Prop, ∃ μ : Int → Store → Nat, (I 0 Z2) ∧ ∀ n1 : Int, ∀ Z3, (I n1 Z3) → bcase (decide (n1 < (len1 : Int))) (∃ len2 : Nat, (Idx Try.prog Z3 c4 6 len2) ∧ ((0 : Int) ≤ n1) ∧ (n1 < (len2 : Int)) ∧ ∃ row : List D, (Row Z3 c4 (Int.toNat n1) row) ∧ ∃ n2 n3 : Int, ∃ d d1 d2 : D, ∃ b : Bool, ((List.take 6 row) = ([.int .i64 n2, .int .i64 n3, d, d1, d2, .bool b] : List D)) ∧ ∃ len3 : Nat, (Idx Try.prog Z3 was1 4 len3) ∧ ((0 : Int) ≤ n1) ∧ (n1 < (len3 : Int)) ∧ ∃ row1 : List D, (Row Z3 was1 (Int.toNat n1) row1) ∧ ∃ n4 : Int, ((List.take 1 row1) = ([.int .i64 n4] : List D)) ∧ ∀ R1 : Store → Prop, (∀ Z4, (∃ len4 : Nat, (Idx Try.prog Z4 (.osl id 0 (Int.toNat (len : Int))) 1 len4) ∧ ((0 : Int) ≤ n2) ∧ (n2 < (len4 : Int)) ∧ ∃ row2 : List D, (Row Z4 (.osl id 0 (Int.toNat (len : Int))) (Int.toNat n2) row2) ∧ ∃ n5 : Int, ((List.take 1 row2) = ([.int .i64 n5] : List D)) ∧ ∃ len5 : Nat, (Idx Try.prog Z4 (.osl id 0 (Int.toNat (len : Int))) 1 len5) ∧ ((0 : Int) ≤ n2) ∧ (n2 < (len5 : Int)) ∧ storeEl [.int .i64 0] Z4 (.osl id 0 (Int.toNat (len : Int))) (Int.toNat n2) 0 (fun Z5 => bcase (decide (n3 ≥ 0)) (bcase (n3 != n2) (∃ len6 : Nat, (Idx Try.prog Z5 (.osl id 0 (Int.toNat (len : Int))) 1 len6) ∧ ((0 : Int) ≤ n3) ∧ (n3 < (len6 : Int)) ∧ storeEl [.int .i64 n5] Z5 (.osl id 0 (Int.toNat (len : Int))) (Int.toNat n3) 0 (fun Z6 => (I (w64 (n1 + 1)) Z6) ∧ ((μ (w64 (n1 + 1)) Z6) < (μ n1 Z3)))) ((I (w64 (n1 + 1)) Z5) ∧ ((μ (w64 (n1 + 1)) Z5) < (μ n1 Z3)))) ((I (w64 (n1 + 1)) Z5) ∧ ((μ (w64 (n1 + 1)) Z5) < (μ n1 Z3))))) → R1 Z4) → bcase (n4 != 2) (bcase (n4 != 3) ((I (w64 (n1 + 1)) Z3) ∧ ((μ (w64 (n1 + 1)) Z3) < (μ n1 Z3))) (∃ len4 : Nat, (Idx Try.prog Z3 is1 4 len4) ∧ ((0 : Int) ≤ n1) ∧ (n1 < (len4 : Int)) ∧ ∃ row2 : List D, (Row Z3 is1 (Int.toNat n1) row2) ∧ ∃ n5 : Int, ((List.take 1 row2) = ([.int .i64 n5] : List D)) ∧ bcase (n5 != 4) ((I (w64 (n1 + 1)) Z3) ∧ ((μ (w64 (n1 + 1)) Z3) < (μ n1 Z3))) (∃ len5 : Nat, (Idx Try.prog Z3 (.osl id 0 (Int.toNat (len : Int))) 1 len5) ∧ ((0 : Int) ≤ n2) ∧ (n2 < (len5 : Int)) ∧ ∃ row3 : List D, (Row Z3 (.osl id 0 (Int.toNat (len : Int))) (Int.toNat n2) row3) ∧ ∃ n6 : Int, ((List.take 1 row3) = ([.int .i64 n6] : List D)) ∧ bcase (n6 == 0) ((I (w64 (n1 + 1)) Z3) ∧ ((μ (w64 (n1 + 1)) Z3) < (μ n1 Z3))) ((([[.int .i64 n2, .int .i64 n3, d, d1, d2, .bool b]] : List (List D)) = ([[.int .i64 n2, .int .i64 n3, d, d1, d2, .bool b]] : List (List D))) ∧ R1 Z3)))) (∃ len4 : Nat, (Idx Try.prog Z3 is1 4 len4) ∧ ((0 : Int) ≤ n1) ∧ (n1 < (len4 : Int)) ∧ ∃ row2 : List D, (Row Z3 is1 (Int.toNat n1) row2) ∧ ∃ n5 : Int, ((List.take 1 row2) = ([.int .i64 n5] : List D)) ∧ bcase (n5 != 4) ((I (w64 (n1 + 1)) Z3) ∧ ((μ (w64 (n1 + 1)) Z3) < (μ n1 Z3))) (∃ len5 : Nat, (Idx Try.prog Z3 (.osl id 0 (Int.toNat (len : Int))) 1 len5) ∧ ((0 : Int) ≤ n2) ∧ (n2 < (len5 : Int)) ∧ ∃ row3 : List D, (Row Z3 (.osl id 0 (Int.toNat (len : Int))) (Int.toNat n2) row3) ∧ ∃ n6 : Int, ((List.take 1 row3) = ([.int .i64 n6] : List D)) ∧ bcase (n6 == 0) ((I (w64 (n1 + 1)) Z3) ∧ ((μ (w64 (n1 + 1)) Z3) < (μ n1 Z3))) ((([[.int .i64 n2, .int .i64 n3, d, d1, d2, .bool b]] : List (List D)) = ([[.int .i64 n2, .int .i64 n3, d, d1, d2, .bool b]] : List (List D))) ∧ R1 Z3)))) (Qp (.a (.one (.osl id 0 (Int.toNat (len : Int))))) Z3)))) → R Z) → DCalls Try.prog n_locks_Fits [.agg [c0, c1, c2, c3, c4, .int .i64 c5, .int .i64 c6, .int .i64 c7, .int .i64 c8], .agg [was0, was1, was2, was3, was4, was5, .bool was6]] σ (fun r Z => ∃ b : Bool, (r = (.a (.one (.bool b)) : RV)) ∧ bcase (!b) (DCalls Try.prog n_slices_Clone_int [.one berths] Z (fun r1 Z1 => ∃ d : D, (r1 = (.a (.one d) : RV)) ∧ Qp (.a (.one d)) Z1)) (DCalls Try.prog n_locks_Fits [.agg [c0, c1, c2, c3, c4, .int .i64 c5, .int .i64 c6, .int .i64 c7, .int .i64 c8], .agg [is0, is1, is2, is3, is4, is5, .bool is6]] Z (fun r1 Z1 => ∃ b1 : Bool, (r1 = (.a (.one (.bool b1)) : RV)) ∧ bcase (!b1) (DCalls Try.prog n_slices_Clone_int [.one berths] Z1 (fun r2 Z2 => ∃ d : D, (r2 = (.a (.one d) : RV)) ∧ Qp (.a (.one d)) Z2)) (R Z1))))
theorem W_ars_Berths (c0 : D) (c1 : D) (c2 : D) (c3 : D) (c4 : D) (c5 : Int) (c6 : Int) (c7 : Int) (c8 : Int) (was0 : D) (was1 : D) (was2 : D) (was3 : D) (was4 : D) (was5 : D) (was6 : Bool) (is0 : D) (is1 : D) (is2 : D) (is3 : D) (is4 : D) (is5 : D) (is6 : Bool) (berths : D) (σ : Store) (Qp : RV → Store → Prop) (h : V_ars_Berths c0 c1 c2 c3 c4 c5 c6 c7 c8 was0 was1 was2 was3 was4 was5 was6 is0 is1 is2 is3 is4 is5 is6 berths σ Qp) : DCalls Try.prog n_ars_Berths [.agg [c0, c1, c2, c3, c4, .int .i64 c5, .int .i64 c6, .int .i64 c7, .int .i64 c8], .agg [was0, was1, was2, was3, was4, was5, .bool was6], .agg [is0, is1, is2, is3, is4, is5, .bool is6], .one berths] σ Qp :=
 dcalls_of_body mixed (by kernel_rfl) Try.func11 an_ars_Berths (Eq.mp (by kernel_rfl) h)
def an_locks_New : Ann := { esc := [], cbs := [2], draws := [(1, { ord := [1, 2, 3, 5, 6, 7, 10, 11, 12, 15, 0, 4, 8, 9, 13, 14, 16], nb := [2, 6, 11], av := [], dir := [], sp := [4] })], loops := [], joins := [] }
def V_locks_New (c0 : D) (c1 : D) (c2 : D) (c3 : D) (c4 : D) (c5 : Int) (c6 : Int) (c7 : Int) (c8 : Int) (now : Int) (σ : Store) (Qp : RV → Store → Prop) : Prop :=
 ∃ pre : List A → Store → Prop, ∃ post : List A → Store → RV → Store → Prop, (SpecOk Try.prog n_slices_Repeat_int pre post) ∧ ∃ len : Nat, (Len c0 len) ∧ ∃ len1 : Nat, (Len c4 len1) ∧ ∃ len2 : Nat, (Len c0 len2) ∧ Fw.newObj σ (.live t_int [[.int .i64 (-1)]]) (fun id Z => (pre [.one (.osl id 0 1), .one (.int .i64 (len : Int))] Z) ∧ ∀ r : RV, ∀ s : Store, (post [.one (.osl id 0 1), .one (.int .i64 (len : Int))] Z r s) → ∃ d : D, (r = (.a (.one d) : RV)) ∧ ((0 : Int) ≤ (len1 : Int)) ∧ ((len1 : Int) ≤ (len1 : Int)) ∧ (((32 : Int) * (len1 : Int)) ≤ (2 ^ 48)) ∧ Fw.newObj s (.live t_RouteState (List.replicate (Int.toNat (len1 : Int)) [.int .i64 0, .int .i64 0, .int .i64 0, .int .i64 0])) (fun id1 Z1 => ((0 : Int) ≤ 4) ∧ ((4 : Int) ≤ 4) ∧ (((64 : Int) * 4) ≤ (2 ^ 48)) ∧ Fw.newObj Z1 (.live t_LineState [[.int .i64 0, .int .i64 0, .int .i64 0, .int .i64 0, .int .i64 0, .int .i64 0, .int .i64 0, .int .i64 0], [.int .i64 0, .int .i64 0, .int .i64 0, .int .i64 0, .int .i64 0, .int .i64 0, .int .i64 0, .int .i64 0], [.int .i64 0, .int .i64 0, .int .i64 0, .int .i64 0, .int .i64 0, .int .i64 0, .int .i64 0, .int .i64 0], [.int .i64 0, .int .i64 0, .int .i64 0, .int .i64 0, .int .i64 0, .int .i64 0, .int .i64 0, .int .i64 0]]) (fun id2 Z2 => ((0 : Int) ≤ (len2 : Int)) ∧ ((len2 : Int) ≤ (len2 : Int)) ∧ (((8 : Int) * (len2 : Int)) ≤ (2 ^ 48)) ∧ Fw.newObj Z2 (.live t_int (List.replicate (Int.toNat (len2 : Int)) [.int .i64 0])) (fun id3 Z3 => DCalls Try.prog n_locks_movers [.agg [c0, c1, c2, c3, c4, .int .i64 c5, .int .i64 c6, .int .i64 c7, .int .i64 c8], .one (.int .i64 now)] Z3 (fun r1 Z4 => ∃ d1 d2 : D, (r1 = (.tup [.one d1, .one d2] : RV)) ∧ Qp (.a (.agg [d, .osl id1 0 (Int.toNat (len1 : Int)), d1, d2, .osl id2 0 4, .osl id3 0 (Int.toNat (len2 : Int)), .bool true])) Z4)))))
theorem W_locks_New (c0 : D) (c1 : D) (c2 : D) (c3 : D) (c4 : D) (c5 : Int) (c6 : Int) (c7 : Int) (c8 : Int) (now : Int) (σ : Store) (Qp : RV → Store → Prop) (h : V_locks_New c0 c1 c2 c3 c4 c5 c6 c7 c8 now σ Qp) : DCalls Try.prog n_locks_New [.agg [c0, c1, c2, c3, c4, .int .i64 c5, .int .i64 c6, .int .i64 c7, .int .i64 c8], .one (.int .i64 now)] σ Qp :=
 dcalls_of_body mixed (by kernel_rfl) Try.func15 an_locks_New (Eq.mp (by kernel_rfl) h)
def an_ref06_Check : Ann := { esc := [], cbs := [1], draws := [(14, { ord := [0, 1, 2, 3, 4, 6, 7, 5, 8, 9, 10], nb := [1, 2, 7], av := [], dir := [] }), (16, { ord := [0, 1, 2, 3, 4, 5, 6], nb := [1], av := [], dir := [] })], loops := [(10, { mods := [(25, SlotSh.one (Sh.int IntKind.i64))], keep := [1, 23, 24] })], joins := [] }
def V_ref06_Check (c0 : D) (c1 : D) (c2 : D) (c3 : D) (c4 : D) (c5 : Int) (c6 : Int) (c7 : Int) (c8 : Int) (σ : Store) (Qp : RV → Store → Prop) : Prop :=
 DCalls Try.prog n_ref05_Check [.one c0, .one c1] σ (fun r Z => ∃ n : Int, (r = (.a (.one (.int .i64 n)) : RV)) ∧ bcase (n != 0) (Qp (.a (.one (.int .i64 6))) Z) (DCalls Try.prog n_ref06_signals [.agg [c0, c1, c2, c3, c4, .int .i64 c5, .int .i64 c6, .int .i64 c7, .int .i64 c8]] Z (fun r1 Z1 => ∃ b : Bool, (r1 = (.a (.one (.bool b)) : RV)) ∧ bcase (!b) (Qp (.a (.one (.int .i64 7))) Z1) (DCalls Try.prog n_ref06_crossings [.agg [c0, c1, c2, c3, c4, .int .i64 c5, .int .i64 c6, .int .i64 c7, .int .i64 c8]] Z1 (fun r2 Z2 => ∃ b1 : Bool, (r2 = (.a (.one (.bool b1)) : RV)) ∧ bcase (!b1) (Qp (.a (.one (.int .i64 8))) Z2) (∃ len : Nat, (Len c4 len) ∧ bcase (decide ((len : Int) > 12)) (Qp (.a (.one (.int .i64 9))) Z2) (∃ len1 : Nat, (Len c4 len1) ∧ ∃ I : Int → Store → Prop, ∃ μ : Int → Store → Nat, (I 0 Z2) ∧ ∀ n1 : Int, ∀ Z3, (I n1 Z3) → bcase (decide (n1 < (len1 : Int))) (∃ len2 : Nat, (Idx Try.prog Z3 c4 6 len2) ∧ ((0 : Int) ≤ n1) ∧ (n1 < (len2 : Int)) ∧ ∃ row : List D, (Row Z3 c4 (Int.toNat n1) row) ∧ ∃ n2 n3 : Int, ∃ d d1 d2 : D, ∃ b2 : Bool, ((List.take 6 row) = ([.int .i64 n2, .int .i64 n3, d, d1, d2, .bool b2] : List D)) ∧ DCalls Try.prog n_ref06_path [.agg [c0, c1, c2, c3, c4, .int .i64 c5, .int .i64 c6, .int .i64 c7, .int .i64 c8], .agg [.int .i64 n2, .int .i64 n3, d, d1, d2, .bool b2]] Z3 (fun r3 Z4 => ∃ b3 : Bool, (r3 = (.a (.one (.bool b3)) : RV)) ∧ bcase (!b3) (Qp (.a (.one (.int .i64 9))) Z4) (DCalls Try.prog n_ref06_Approach [.agg [c0, c1, c2, c3, c4, .int .i64 c5, .int .i64 c6, .int .i64 c7, .int .i64 c8], .one (.int .i64 n1)] Z4 (fun r4 Z5 => ∃ n4 : Int, (r4 = (.a (.one (.int .i64 n4)) : RV)) ∧ DCalls Try.prog n_ref06_Flank [.agg [c0, c1, c2, c3, c4, .int .i64 c5, .int .i64 c6, .int .i64 c7, .int .i64 c8], .one (.int .i64 n4), .one d] Z5 (fun r5 Z6 => ∃ d3 : D, (r5 = (.a (.one d3) : RV)) ∧ DCalls Try.prog n_ref06_SameNeeds [.one d1, .one d3] Z6 (fun r6 Z7 => ∃ b4 : Bool, (r6 = (.a (.one (.bool b4)) : RV)) ∧ bcase (!b4) (Qp (.a (.one (.int .i64 10))) Z7) (DCalls Try.prog n_ref06_Overlap [.agg [c0, c1, c2, c3, c4, .int .i64 c5, .int .i64 c6, .int .i64 c7, .int .i64 c8], .agg [.int .i64 n2, .int .i64 n3, d, d1, d2, .bool b2]] Z7 (fun r7 Z8 => ∃ d4 : D, (r7 = (.a (.one d4) : RV)) ∧ DCalls Try.prog n_ref06_sameInts [.one d2, .one d4] Z8 (fun r8 Z9 => ∃ b5 : Bool, (r8 = (.a (.one (.bool b5)) : RV)) ∧ bcase (!b5) (Qp (.a (.one (.int .i64 11))) Z9) ((I (w64 (n1 + 1)) Z9) ∧ ((μ (w64 (n1 + 1)) Z9) < (μ n1 Z3)))))))))))) (bcase (decide (c5 < 1)) (Qp (.a (.one (.int .i64 12))) Z3) (bcase (decide (c5 > 8)) (Qp (.a (.one (.int .i64 12))) Z3) (bcase (decide (c6 < 0)) (Qp (.a (.one (.int .i64 12))) Z3) (bcase (decide (c6 > 8)) (Qp (.a (.one (.int .i64 12))) Z3) (bcase (decide (c7 < (w64 ((w64 (c5 + c6)) + 1)))) (Qp (.a (.one (.int .i64 12))) Z3) (bcase (decide (c7 > 40)) (Qp (.a (.one (.int .i64 12))) Z3) (bcase (decide (c8 < 1)) (Qp (.a (.one (.int .i64 12))) Z3) (bcase (decide (c8 > 1000000)) (Qp (.a (.one (.int .i64 12))) Z3) (Qp (.a (.one (.int .i64 0))) Z3))))))))))))))))
theorem W_ref06_Check (c0 : D) (c1 : D) (c2 : D) (c3 : D) (c4 : D) (c5 : Int) (c6 : Int) (c7 : Int) (c8 : Int) (σ : Store) (Qp : RV → Store → Prop) (h : V_ref06_Check c0 c1 c2 c3 c4 c5 c6 c7 c8 σ Qp) : DCalls Try.prog n_ref06_Check [.agg [c0, c1, c2, c3, c4, .int .i64 c5, .int .i64 c6, .int .i64 c7, .int .i64 c8]] σ Qp :=
 dcalls_of_body mixed (by kernel_rfl) Try.func19 an_ref06_Check (Eq.mp (by kernel_rfl) h)
def an_slices_SortStableFunc_ars_due : Ann := { esc := [], cbs := [], draws := [], loops := [], joins := [] }
def V_slices_SortStableFunc_ars_due (x : D) (cmp : D) (σ : Store) (Qp : RV → Store → Prop) : Prop :=
 ∃ len : Nat, (Len x len) ∧ DCalls Try.prog n_slices_stableCmpFunc_ars_due [.one x, .one (.int .i64 (len : Int)), .one cmp] σ (fun r Z => (r = (.tup [] : RV)) ∧ Qp (.tup []) Z)
theorem W_slices_SortStableFunc_ars_due (x : D) (cmp : D) (σ : Store) (Qp : RV → Store → Prop) (h : V_slices_SortStableFunc_ars_due x cmp σ Qp) : DCalls Try.prog n_slices_SortStableFunc_ars_due [.one x, .one cmp] σ Qp :=
 dcalls_of_body mixed (by kernel_rfl) Try.func23 an_slices_SortStableFunc_ars_due (Eq.mp (by kernel_rfl) h)
def an_ref06_Approach : Ann := { esc := [], cbs := [2], draws := [(1, { ord := [0, 1, 2, 3, 4, 5, 6, 7, 8, 9, 10, 11, 12, 13, 14, 15, 16, 17, 18, 19, 20, 21, 22, 23, 24, 25, 26, 27, 28, 29], nb := [], av := [], dir := [] }), (3, { ord := [0, 1, 2, 3, 4, 5, 6, 7, 8, 9, 10, 11], nb := [], av := [], dir := [] })], loops := [], joins := [] }
def V_ref06_Approach (c0 : D) (c1 : D) (c2 : D) (c3 : D) (c4 : D) (c5 : Int) (c6 : Int) (c7 : Int) (c8 : Int) (r : Int) (σ : Store) (Qp : RV → Store → Prop) : Prop :=
 bcase (decide (r < 0)) (Qp (.a (.one (.int .i64 (-1)))) σ) (∃ len : Nat, (Len c4 len) ∧ bcase (decide (r ≥ (len : Int))) (Qp (.a (.one (.int .i64 (-1)))) σ) (∃ len1 : Nat, (Idx Try.prog σ c4 6 len1) ∧ ((0 : Int) ≤ r) ∧ (r < (len1 : Int)) ∧ ∃ row : List D, (Row σ c4 (Int.toNat r) row) ∧ ∃ n : Int, ((List.take 1 row) = ([.int .i64 n] : List D)) ∧ bcase (decide (n < 0)) (Qp (.a (.one (.int .i64 (-1)))) σ) (∃ len2 : Nat, (Idx Try.prog σ c4 6 len2) ∧ ((0 : Int) ≤ r) ∧ (r < (len2 : Int)) ∧ ∃ row1 : List D, (Row σ c4 (Int.toNat r) row1) ∧ ∃ n1 : Int, ((List.take 1 row1) = ([.int .i64 n1] : List D)) ∧ ∃ len3 : Nat, (Len c2 len3) ∧ bcase (decide (n1 ≥ (len3 : Int))) (Qp (.a (.one (.int .i64 (-1)))) σ) (∃ len4 : Nat, (Idx Try.prog σ c4 6 len4) ∧ ((0 : Int) ≤ r) ∧ (r < (len4 : Int)) ∧ ∃ row2 : List D, (Row σ c4 (Int.toNat r) row2) ∧ ∃ n2 : Int, ((List.take 1 row2) = ([.int .i64 n2] : List D)) ∧ ∃ len5 : Nat, (Idx Try.prog σ c2 2 len5) ∧ ((0 : Int) ≤ n2) ∧ (n2 < (len5 : Int)) ∧ ∃ row3 : List D, (Row σ c2 (Int.toNat n2) row3) ∧ ∃ n3 : Int, ((List.take 1 row3) = ([.int .i64 n3] : List D)) ∧ Qp (.a (.one (.int .i64 n3))) σ))))
theorem W_ref06_Approach (c0 : D) (c1 : D) (c2 : D) (c3 : D) (c4 : D) (c5 : Int) (c6 : Int) (c7 : Int) (c8 : Int) (r : Int) (σ : Store) (Qp : RV → Store → Prop) (h : V_ref06_Approach c0 c1 c2 c3 c4 c5 c6 c7 c8 r σ Qp) : DCalls Try.prog n_ref06_Approach [.agg [c0, c1, c2, c3, c4, .int .i64 c5, .int .i64 c6, .int .i64 c7, .int .i64 c8], .one (.int .i64 r)] σ Qp :=
 dcalls_of_body mixed (by kernel_rfl) Try.func27 an_ref06_Approach (Eq.mp (by kernel_rfl) h)
def an_slices_Repeat_int : Ann := { esc := [], cbs := [], draws := [(9, { ord := [0, 1, 2, 3, 4, 5, 6, 7, 8, 9], nb := [], av := [], dir := [] })], loops := [(8, { mods := [(8, SlotSh.one (Sh.int IntKind.i64))], keep := [7] })], joins := [(3, { mods := [], keep := [0, 1] }), (6, { mods := [], keep := [0, 6] })] }
def V_slices_Repeat_int (x : D) (count : Int) (σ : Store) (Qp : RV → Store → Prop) : Prop :=
 ∀ R : Store → Prop, (∀ Z, (∃ len : Nat, (Len x len) ∧ DCalls Try.prog n_math_bits_Mul [.one (.int .u64 (IntKind.wrap .u64 (len : Int))), .one (.int .u64 (IntKind.wrap .u64 count))] Z (fun r Z1 => ∃ n n1 : Int, (r = (.tup [.one (.int .u64 n), .one (.int .u64 n1)] : RV)) ∧ ∀ R1 : Store → Prop, (∀ Z2, (((0 : Int) ≤ (w64 n1)) ∧ ((w64 n1) ≤ (w64 n1)) ∧ (((8 : Int) * (w64 n1)) ≤ (2 ^ 48)) ∧ Fw.newObj Z2 (.live t_int (List.replicate (Int.toNat (w64 n1)) [.int .i64 0])) (fun id Z3 => copyTo Try.prog Z3 t_int (.osl id 0 (Int.toNat (w64 n1))) x (fun n2 Z4 => ∃ I : Int → Store → Prop, ∃ μ : Int → Store → Nat, (I n2 Z4) ∧ ∀ n3 : Int, ∀ Z5, (I n3 Z5) → ∃ len1 : Nat, (Len (.osl id 0 (Int.toNat (w64 n1))) len1) ∧ bcase (decide (n3 < (len1 : Int))) (∃ len2 : Nat, (IdxN Try.prog Z5 (.osl id 0 (Int.toNat (w64 n1))) 1 len2) ∧ ((0 : Int) ≤ n3) ∧ (n3 ≤ (len2 : Int)) ∧ ∃ len3 : Nat, (IdxN Try.prog Z5 (.osl id 0 (Int.toNat (w64 n1))) 1 len3) ∧ ((0 : Int) ≤ 0) ∧ ((0 : Int) ≤ n3) ∧ (n3 ≤ (len3 : Int)) ∧ copyTo Try.prog Z5 t_int (.osl id (0 + (Int.toNat n3)) (len2 - (Int.toNat n3))) (.osl id 0 ((Int.toNat n3) - 0)) (fun n4 Z6 => (I (w64 (n3 + n4)) Z6) ∧ ((μ (w64 (n3 + n4)) Z6) < (μ n3 Z5)))) (Qp (.a (.one (.osl id 0 (Int.toNat (w64 n1))))) Z5)))) → R1 Z2) → bcase (decide (n > 0)) False (bcase (decide (n1 > 9223372036854775807)) False (R1 Z1)))) → R Z) → bcase (decide (count < 0)) False (R σ)
theorem W_slices_Repeat_int (x : D) (count : Int) (σ : Store) (Qp : RV → Store → Prop) (h : V_slices_Repeat_int x count σ Qp) : DCalls Try.prog n_slices_Repeat_int [.one x, .one (.int .i64 count)] σ Qp :=
 dcalls_of_body mixed (by kernel_rfl) Try.func31 an_slices_Repeat_int (Eq.mp (by kernel_rfl) h)
def an_conf_plan_signals : Ann := { esc := [], cbs := [1], draws := [(6, { ord := [0, 1, 2, 3, 4, 5, 6], nb := [], av := [], dir := [] })], loops := [(3, { mods := [(14, SlotSh.one (Sh.int IntKind.i64))], keep := [1, 3, 12, 13] })], joins := [] }
def V_conf_plan_signals (p0 : D) (p1 : D) (p2 : D) (p3 : D) (p4 : D) (p5 : Int) (p6 : Int) (p7 : Int) (p8 : Int) (σ : Store) (Qp : RV → Store → Prop) : Prop :=
 Fw.newObj σ (.mp 0 []) (fun id Z => ∃ len : Nat, (Len p2 len) ∧ ∃ I : Int → Store → Prop, ∃ μ : Int → Store → Nat, (I 0 Z) ∧ ∀ n : Int, ∀ Z1, (I n Z1) → bcase (decide (n < (len : Int))) (∃ len1 : Nat, (Idx Try.prog Z1 p2 2 len1) ∧ ((0 : Int) ≤ n) ∧ (n < (len1 : Int)) ∧ ∃ row : List D, (Row Z1 p2 (Int.toNat n) row) ∧ ∃ n1 n2 : Int, ((List.take 2 row) = ([.int .i64 n1, .int .i64 n2] : List D)) ∧ DCalls Try.prog n_topo_Next [.one p1, .one (.int .i64 n1), .one (.int .i64 n2)] Z1 (fun r Z2 => ∃ n3 n4 : Int, ∃ b : Bool, (r = (.tup [.one (.int .i64 n3), .one (.int .i64 n4), .one (.bool b)] : RV)) ∧ ∃ r1 : Option A, (MLook Try.prog t_Signal Z2 (.omap id) (.agg [.int .i64 n1, .int .i64 n2]) r1) ∧ ∃ n5 : Int, ((Option.getD r1 (.one (.int .i64 0))) = (.one (.int .i64 n5) : A)) ∧ MEntry Try.prog t_Signal Z2 (.omap id) (.agg [.int .i64 n1, .int .i64 n2]) (.one (.int .i64 0)) (fun (v : A) => fun n6 Z3 => MStamp Z3 (.omap id) n6 (.one (.int .i64 (w64 (n5 + 1)))) (fun Z4 => bcase (!b) (Qp (.a (.one (.bool false))) Z4) (∃ r2 : Option A, (MLook Try.prog t_Signal Z4 (.omap id) (.agg [.int .i64 n1, .int .i64 n2]) r2) ∧ ∃ n7 : Int, ((Option.getD r2 (.one (.int .i64 0))) = (.one (.int .i64 n7) : A)) ∧ bcase (decide (n7 > 1)) (Qp (.a (.one (.bool false))) Z4) ((I (w64 (n + 1)) Z4) ∧ ((μ (w64 (n + 1)) Z4) < (μ n Z1)))))))) (∃ len1 : Nat, (Len p2 len1) ∧ Qp (.a (.one (.bool (decide ((len1 : Int) ≤ 12))))) Z1))
theorem W_conf_plan_signals (p0 : D) (p1 : D) (p2 : D) (p3 : D) (p4 : D) (p5 : Int) (p6 : Int) (p7 : Int) (p8 : Int) (σ : Store) (Qp : RV → Store → Prop) (h : V_conf_plan_signals p0 p1 p2 p3 p4 p5 p6 p7 p8 σ Qp) : DCalls Try.prog n_conf_plan_signals [.agg [p0, p1, p2, p3, p4, .int .i64 p5, .int .i64 p6, .int .i64 p7, .int .i64 p8]] σ Qp :=
 dcalls_of_body mixed (by kernel_rfl) Try.func35 an_conf_plan_signals (Eq.mp (by kernel_rfl) h)
def an_ref05_Check : Ann := { esc := [], cbs := [], draws := [(14, { ord := [0, 1, 2, 3, 4, 5, 6, 7], nb := [], av := [], dir := [] }), (22, { ord := [0, 1, 2, 3, 4, 5, 6, 7, 8, 9, 10, 11, 12, 13, 14, 15, 16, 17, 18, 19, 20, 21, 22, 23, 24, 25, 26, 27, 28, 29, 30, 31, 32, 33, 34, 35, 36, 37, 38, 39, 40, 41, 42, 43, 44, 45, 46, 47, 48, 49], nb := [5, 22], av := [], dir := [] })], loops := [(4, { mods := [(25, SlotSh.one (Sh.int IntKind.i64))], keep := [0, 1, 23, 24] }), (12, { mods := [(7, SlotSh.one (Sh.int IntKind.i64))], keep := [0, 1, 5, 6, 23, 24, 25] }), (18, { mods := [(82, SlotSh.one (Sh.int IntKind.i64))], keep := [0, 1, 80, 81] })], joins := [(3, { mods := [], keep := [0, 1] }), (8, { mods := [], keep := [0, 1, 5, 6, 23, 24, 25] }), (24, { mods := [], keep := [0, 1, 80, 81, 82] }), (22, { mods := [], keep := [0, 1, 9, 80, 81, 82] })] }
def V_ref05_Check (sections : D) (joints : D) (σ : Store) (Qp : RV → Store → Prop) : Prop :=
 ∀ R : Store → Prop, (∀ Z, (∃ len : Nat, (Len sections len) ∧ ∃ I : Int → Store → Prop, ∃ μ : Int → Store → Nat, (I 0 Z) ∧ ∀ n : Int, ∀ Z1, (I n Z1) → bcase (decide (n < (len : Int))) (∃ len1 : Nat, (Idx Try.prog Z1 sections 3 len1) ∧ ((0 : Int) ≤ n) ∧ (n < (len1 : Int)) ∧ ∃ row : List D, (Row Z1 sections (Int.toNat n) row) ∧ ∃ n1 n2 n3 : Int, ((List.take 3 row) = ([.int .i64 n1, .int .i64 n2, .int .i64 n3] : List D)) ∧ ∀ R1 : Store → Prop, (∀ Z2, (bcase (n3 == 0) ((I (w64 (n + 1)) Z2) ∧ ((μ (w64 (n + 1)) Z2) < (μ n Z1))) (bcase (n1 != 0) (Qp (.a (.one (.int .i64 6))) Z2) (DCalls Try.prog n_ref05_count [.one joints, .one (.int .i64 n), .one (.int .i64 1)] Z2 (fun r Z3 => ∃ n4 : Int, (r = (.a (.one (.int .i64 n4)) : RV)) ∧ bcase (decide (n4 > 0)) (Qp (.a (.one (.int .i64 6))) Z3) (∃ I1 : Int → Store → Prop, ∃ μ1 : Int → Store → Nat, (I1 0 Z3) ∧ ∀ n5 : Int, ∀ Z4, (I1 n5 Z4) → bcase (decide (n5 < n)) (∃ len2 : Nat, (Idx Try.prog Z4 sections 3 len2) ∧ ((0 : Int) ≤ n5) ∧ (n5 < (len2 : Int)) ∧ ∃ row1 : List D, (Row Z4 sections (Int.toNat n5) row1) ∧ ∃ n6 : Int, ((List.take 1 (List.drop 2 row1)) = ([.int .i64 n6] : List D)) ∧ bcase (n6 == n3) (Qp (.a (.one (.int .i64 6))) Z4) ((([[.int .i64 n1, .int .i64 n2, .int .i64 n3]] : List (List D)) = ([[.int .i64 n1, .int .i64 n2, .int .i64 n3]] : List (List D))) ∧ (I1 (w64 (n5 + 1)) Z4) ∧ ((μ1 (w64 (n5 + 1)) Z4) < (μ1 n5 Z4)))) ((I (w64 (n + 1)) Z4) ∧ ((μ (w64 (n + 1)) Z4) < (μ n Z1)))))))) → R1 Z2) → DCalls Try.prog n_ref05_Ends [.one (.int .i64 n1)] Z1 (fun r Z2 => ∃ n4 : Int, (r = (.a (.one (.int .i64 n4)) : RV)) ∧ bcase (n4 == 0) (Qp (.a (.one (.int .i64 6))) Z2) (bcase (decide (n2 < 0)) (Qp (.a (.one (.int .i64 6))) Z2) (bcase (decide (n2 ≥ 4)) (Qp (.a (.one (.int .i64 6))) Z2) (bcase (decide (n3 < 0)) (Qp (.a (.one (.int .i64 6))) Z2) (bcase (decide (n3 > 3)) (Qp (.a (.one (.int .i64 6))) Z2) ((([[.int .i64 n1, .int .i64 n2, .int .i64 n3]] : List (List D)) = ([[.int .i64 n1, .int .i64 n2, .int .i64 n3]] : List (List D))) ∧ R1 Z2))))))) (∃ len1 : Nat, (Len joints len1) ∧ ∃ I1 : Int → Store → Prop, ∃ μ1 : Int → Store → Nat, (I1 0 Z1) ∧ ∀ n1 : Int, ∀ Z2, (I1 n1 Z2) → bcase (decide (n1 < (len1 : Int))) (∀ R1 : Store → Prop, (∀ Z3, ((I1 (w64 (n1 + 1)) Z3) ∧ ((μ1 (w64 (n1 + 1)) Z3) < (μ1 n1 Z2))) → R1 Z3) → ∃ len2 : Nat, (Idx Try.prog Z2 joints 4 len2) ∧ ((0 : Int) ≤ n1) ∧ (n1 < (len2 : Int)) ∧ ∃ row : List D, (Row Z2 joints (Int.toNat n1) row) ∧ ∃ n2 n3 n4 n5 : Int, ((List.take 4 row) = ([.int .i64 n2, .int .i64 n3, .int .i64 n4, .int .i64 n5] : List D)) ∧ ∀ R2 : Store → Prop, (∀ Z3, (bcase (decide (n3 < 0)) (Qp (.a (.one (.int .i64 6))) Z3) (∃ len3 : Nat, (Idx Try.prog Z3 sections 3 len3) ∧ ((0 : Int) ≤ n2) ∧ (n2 < (len3 : Int)) ∧ ∃ row1 : List D, (Row Z3 sections (Int.toNat n2) row1) ∧ ∃ n6 : Int, ((List.take 1 row1) = ([.int .i64 n6] : List D)) ∧ DCalls Try.prog n_ref05_Ends [.one (.int .i64 n6)] Z3 (fun r Z4 => ∃ n7 : Int, (r = (.a (.one (.int .i64 n7)) : RV)) ∧ bcase (decide (n3 ≥ n7)) (Qp (.a (.one (.int .i64 6))) Z4) (bcase (decide (n5 < 0)) (Qp (.a (.one (.int .i64 6))) Z4) (∃ len4 : Nat, (Idx Try.prog Z4 sections 3 len4) ∧ ((0 : Int) ≤ n4) ∧ (n4 < (len4 : Int)) ∧ ∃ row2 : List D, (Row Z4 sections (Int.toNat n4) row2) ∧ ∃ n8 : Int, ((List.take 1 row2) = ([.int .i64 n8] : List D)) ∧ DCalls Try.prog n_ref05_Ends [.one (.int .i64 n8)] Z4 (fun r1 Z5 => ∃ n9 : Int, (r1 = (.a (.one (.int .i64 n9)) : RV)) ∧ bcase (decide (n5 ≥ n9)) (Qp (.a (.one (.int .i64 6))) Z5) (DCalls Try.prog n_ref05_count [.one joints, .one (.int .i64 n2), .one (.int .i64 n3)] Z5 (fun r2 Z6 => ∃ n10 : Int, (r2 = (.a (.one (.int .i64 n10)) : RV)) ∧ bcase (decide (n10 > 1)) (Qp (.a (.one (.int .i64 6))) Z6) (DCalls Try.prog n_ref05_count [.one joints, .one (.int .i64 n4), .one (.int .i64 n5)] Z6 (fun r3 Z7 => ∃ n11 : Int, (r3 = (.a (.one (.int .i64 n11)) : RV)) ∧ bcase (decide (n11 > 1)) (Qp (.a (.one (.int .i64 6))) Z7) (R1 Z7))))))))))) → R2 Z3) → bcase (decide (n2 < 0)) (Qp (.a (.one (.int .i64 6))) Z2) (∃ len3 : Nat, (Len sections len3) ∧ bcase (decide (n2 ≥ (len3 : Int))) (Qp (.a (.one (.int .i64 6))) Z2) (bcase (decide (n4 < 0)) (Qp (.a (.one (.int .i64 6))) Z2) (∃ len4 : Nat, (Len sections len4) ∧ bcase (decide (n4 ≥ (len4 : Int))) (Qp (.a (.one (.int .i64 6))) Z2) (bcase (n2 == n4) (Qp (.a (.one (.int .i64 6))) Z2) ((([[.int .i64 n2, .int .i64 n3, .int .i64 n4, .int .i64 n5]] : List (List D)) = ([[.int .i64 n2, .int .i64 n3, .int .i64 n4, .int .i64 n5]] : List (List D))) ∧ R2 Z2)))))) (Qp (.a (.one (.int .i64 0))) Z2))) → R Z) → ∃ len : Nat, (Len sections len) ∧ bcase (decide ((len : Int) < 1)) (Qp (.a (.one (.int .i64 6))) σ) (∃ len1 : Nat, (Len sections len1) ∧ bcase (decide ((len1 : Int) > 16)) (Qp (.a (.one (.int .i64 6))) σ) (∃ len2 : Nat, (Len joints len2) ∧ bcase (decide ((len2 : Int) > 24)) (Qp (.a (.one (.int .i64 6))) σ) (R σ)))
theorem W_ref05_Check (sections : D) (joints : D) (σ : Store) (Qp : RV → Store → Prop) (h : V_ref05_Check sections joints σ Qp) : DCalls Try.prog n_ref05_Check [.one sections, .one joints] σ Qp :=
 dcalls_of_body mixed (by kernel_rfl) Try.func39 an_ref05_Check (Eq.mp (by kernel_rfl) h)
def an_ref06_SameNeeds : Ann := { esc := [], cbs := [], draws := [(6, { ord := [0, 1, 2, 3, 4, 5, 6, 7, 8], nb := [], av := [], dir := [] })], loops := [(4, { mods := [(13, SlotSh.one (Sh.int IntKind.i64))], keep := [0, 1, 12] })], joins := [] }
def V_ref06_SameNeeds (a : D) (b : D) (σ : Store) (Qp : RV → Store → Prop) : Prop :=
 ∃ len : Nat, (Len a len) ∧ ∃ len1 : Nat, (Len b len1) ∧ bcase ((len : Int) != (len1 : Int)) (Qp (.a (.one (.bool false))) σ) (∃ len2 : Nat, (Len a len2) ∧ ∃ I : Int → Store → Prop, ∃ μ : Int → Store → Nat, (I 0 σ) ∧ ∀ n : Int, ∀ Z, (I n Z) → bcase (decide (n < (len2 : Int))) (∃ len3 : Nat, (Idx Try.prog Z a 2 len3) ∧ ((0 : Int) ≤ n) ∧ (n < (len3 : Int)) ∧ ∃ row : List D, (Row Z a (Int.toNat n) row) ∧ ∃ n1 n2 : Int, ((List.take 2 row) = ([.int .i64 n1, .int .i64 n2] : List D)) ∧ ∃ len4 : Nat, (Idx Try.prog Z b 2 len4) ∧ ((0 : Int) ≤ n) ∧ (n < (len4 : Int)) ∧ ∃ row1 : List D, (Row Z b (Int.toNat n) row1) ∧ ∃ n3 n4 : Int, ((List.take 2 row1) = ([.int .i64 n3, .int .i64 n4] : List D)) ∧ bcase (!((n1 == n3) && (n2 == n4))) (Qp (.a (.one (.bool false))) Z) ((I (w64 (n + 1)) Z) ∧ ((μ (w64 (n + 1)) Z) < (μ n Z)))) (Qp (.a (.one (.bool true))) Z))
theorem W_ref06_SameNeeds (a : D) (b : D) (σ : Store) (Qp : RV → Store → Prop) (h : V_ref06_SameNeeds a b σ Qp) : DCalls Try.prog n_ref06_SameNeeds [.one a, .one b] σ Qp :=
 dcalls_of_body mixed (by kernel_rfl) Try.func43 an_ref06_SameNeeds (Eq.mp (by kernel_rfl) h)
def an_locks_between : Ann := { esc := [], cbs := [], draws := [], loops := [], joins := [] }
def V_locks_between (n : Int) (lo : Int) (hi : Int) (σ : Store) (Qp : RV → Store → Prop) : Prop :=
 bcase (decide (lo ≤ n)) (Qp (.a (.one (.bool (decide (n ≤ hi))))) σ) (Qp (.a (.one (.bool false))) σ)
theorem W_locks_between (n : Int) (lo : Int) (hi : Int) (σ : Store) (Qp : RV → Store → Prop) (h : V_locks_between n lo hi σ Qp) : DCalls Try.prog n_locks_between [.one (.int .i64 n), .one (.int .i64 lo), .one (.int .i64 hi)] σ Qp :=
 dcalls_of_body mixed (by kernel_rfl) Try.func47 an_locks_between (Eq.mp (by kernel_rfl) h)
def an_slices_stableCmpFunc_ars_due : Ann := { esc := [], cbs := [], draws := [], loops := [(2, { mods := [(7, SlotSh.one (Sh.int IntKind.i64)), (8, SlotSh.one (Sh.int IntKind.i64))], keep := [0, 1, 2, 6] }), (7, { mods := [(6, SlotSh.one (Sh.int IntKind.i64))], keep := [0, 1, 2] }), (9, { mods := [(7, SlotSh.one (Sh.int IntKind.i64)), (8, SlotSh.one (Sh.int IntKind.i64))], keep := [0, 1, 2, 6] })], joins := [] }
def V_slices_stableCmpFunc_ars_due (data : D) (n : Int) (cmp : D) (σ : Store) (Qp : RV → Store → Prop) : Prop :=
 ∃ I : Int → Int → Store → Prop, ∃ μ : Int → Int → Store → Nat, (I 0 20 σ) ∧ ∀ n1 n2 : Int, ∀ Z, (I n1 n2 Z) → bcase (decide (n2 ≤ n)) (DCalls Try.prog n_slices_insertionSortCmpFunc_ars_due [.one data, .one (.int .i64 n1), .one (.int .i64 n2), .one cmp] Z (fun r Z1 => (r = (.tup [] : RV)) ∧ (I n2 (w64 (n2 + 20)) Z1) ∧ ((μ n2 (w64 (n2 + 20)) Z1) < (μ n1 n2 Z)))) (DCalls Try.prog n_slices_insertionSortCmpFunc_ars_due [.one data, .one (.int .i64 n1), .one (.int .i64 n), .one cmp] Z (fun r Z1 => (r = (.tup [] : RV)) ∧ ∃ I1 : Int → Store → Prop, ∃ μ1 : Int → Store → Nat, (I1 20 Z1) ∧ ∀ n3 : Int, ∀ Z2, (I1 n3 Z2) → bcase (decide (n3 < n)) (∃ I2 : Int → Int → Store → Prop, ∃ μ2 : Int → Int → Store → Nat, (I2 0 (w64 (2 * n3)) Z2) ∧ ∀ n4 n5 : Int, ∀ Z3, (I2 n4 n5 Z3) → bcase (decide (n5 ≤ n)) (DCalls Try.prog n_slices_symMergeCmpFunc_ars_due [.one data, .one (.int .i64 n4), .one (.int .i64 (w64 (n4 + n3))), .one (.int .i64 n5), .one cmp] Z3 (fun r1 Z4 => (r1 = (.tup [] : RV)) ∧ (I2 n5 (w64 (n5 + (w64 (2 * n3)))) Z4) ∧ ((μ2 n5 (w64 (n5 + (w64 (2 * n3)))) Z4) < (μ2 n4 n5 Z3)))) (bcase (decide ((w64 (n4 + n3)) < n)) (DCalls Try.prog n_slices_symMergeCmpFunc_ars_due [.one data, .one (.int .i64 n4), .one (.int .i64 (w64 (n4 + n3))), .one (.int .i64 n), .one cmp] Z3 (fun r1 Z4 => (r1 = (.tup [] : RV)) ∧ (I1 (w64 (n3 * 2)) Z4) ∧ ((μ1 (w64 (n3 * 2)) Z4) < (μ1 n3 Z2)))) ((I1 (w64 (n3 * 2)) Z3) ∧ ((μ1 (w64 (n3 * 2)) Z3) < (μ1 n3 Z2))))) (Qp (.tup []) Z2)))
theorem W_slices_stableCmpFunc_ars_due (data : D) (n : Int) (cmp : D) (σ : Store) (Qp : RV → Store → Prop) (h : V_slices_stableCmpFunc_ars_due data n cmp σ Qp) : DCalls Try.prog n_slices_stableCmpFunc_ars_due [.one data, .one (.int .i64 n), .one cmp] σ Qp :=
 dcalls_of_body mixed (by kernel_rfl) Try.func51 an_slices_stableCmpFunc_ars_due (Eq.mp (by kernel_rfl) h)
def an_math_bits_Mul : Ann := { esc := [], cbs := [], draws := [], loops := [], joins := [] }
def V_math_bits_Mul (x : Int) (y : Int) (σ : Store) (Qp : RV → Store → Prop) : Prop :=
 DCalls Try.prog n_math_bits_Mul64 [.one (.int .u64 x), .one (.int .u64 y)] σ (fun r Z => ∃ n n1 : Int, (r = (.tup [.one (.int .u64 n), .one (.int .u64 n1)] : RV)) ∧ Qp (.tup [.one (.int .u64 n), .one (.int .u64 n1)]) Z)
theorem W_math_bits_Mul (x : Int) (y : Int) (σ : Store) (Qp : RV → Store → Prop) (h : V_math_bits_Mul x y σ Qp) : DCalls Try.prog n_math_bits_Mul [.one (.int .u64 x), .one (.int .u64 y)] σ Qp :=
 dcalls_of_body mixed (by kernel_rfl) Try.func55 an_math_bits_Mul (Eq.mp (by kernel_rfl) h)
def an_topo_Ends : Ann := { esc := [], cbs := [], draws := [], loops := [(3, { mods := [(3, SlotSh.one (Sh.int IntKind.i64)), (9, SlotSh.one (Sh.int IntKind.i64))], keep := [7, 8] })], joins := [] }
def V_topo_Ends (kind : Int) (σ : Store) (Qp : RV → Store → Prop) : Prop :=
 DCalls Try.prog n_topo_ways [.one (.int .i64 kind)] σ (fun r Z => ∃ d : D, (r = (.a (.one d) : RV)) ∧ ∃ len : Nat, (Len d len) ∧ ∃ I : Int → Int → Store → Prop, ∃ μ : Int → Int → Store → Nat, (I 0 0 Z) ∧ ∀ n n1 : Int, ∀ Z1, (I n n1 Z1) → bcase (decide (n1 < (len : Int))) (∃ len1 : Nat, (Idx Try.prog Z1 d 3 len1) ∧ ((0 : Int) ≤ n1) ∧ (n1 < (len1 : Int)) ∧ ∃ row : List D, (Row Z1 d (Int.toNat n1) row) ∧ ∃ n2 n3 n4 : Int, ((List.take 3 row) = ([.int .i64 n2, .int .i64 n3, .int .i64 n4] : List D)) ∧ ((0 : Int) ≤ 0) ∧ ((0 : Int) < (2 : Int)) ∧ ((0 : Int) ≤ 1) ∧ ((1 : Int) < (2 : Int)) ∧ (I (ite ((w64 (n3 + 1)) > (ite ((w64 (n2 + 1)) > n) (w64 (n2 + 1)) n)) (w64 (n3 + 1)) (ite ((w64 (n2 + 1)) > n) (w64 (n2 + 1)) n)) (w64 (n1 + 1)) Z1) ∧ ((μ (ite ((w64 (n3 + 1)) > (ite ((w64 (n2 + 1)) > n) (w64 (n2 + 1)) n)) (w64 (n3 + 1)) (ite ((w64 (n2 + 1)) > n) (w64 (n2 + 1)) n)) (w64 (n1 + 1)) Z1) < (μ n n1 Z1))) (Qp (.a (.one (.int .i64 n))) Z1))
theorem W_topo_Ends (kind : Int) (σ : Store) (Qp : RV → Store → Prop) (h : V_topo_Ends kind σ Qp) : DCalls Try.prog n_topo_Ends [.one (.int .i64 kind)] σ Qp :=
 dcalls_of_body mixed (by kernel_rfl) Try.func59 an_topo_Ends (Eq.mp (by kernel_rfl) h)
def an_slices_Equal_Need : Ann := { esc := [], cbs := [], draws := [(6, { ord := [0, 1, 2, 3, 4, 5, 6, 7, 8], nb := [], av := [], dir := [] })], loops := [(4, { mods := [(13, SlotSh.one (Sh.int IntKind.i64))], keep := [0, 1, 12] })], joins := [] }
def V_slices_Equal_Need (s1 : D) (s2 : D) (σ : Store) (Qp : RV → Store → Prop) : Prop :=
 ∃ len : Nat, (Len s1 len) ∧ ∃ len1 : Nat, (Len s2 len1) ∧ bcase ((len : Int) != (len1 : Int)) (Qp (.a (.one (.bool false))) σ) (∃ len2 : Nat, (Len s1 len2) ∧ ∃ I : Int → Store → Prop, ∃ μ : Int → Store → Nat, (I 0 σ) ∧ ∀ n : Int, ∀ Z, (I n Z) → bcase (decide (n < (len2 : Int))) (∃ len3 : Nat, (Idx Try.prog Z s1 2 len3) ∧ ((0 : Int) ≤ n) ∧ (n < (len3 : Int)) ∧ ∃ row : List D, (Row Z s1 (Int.toNat n) row) ∧ ∃ n1 n2 : Int, ((List.take 2 row) = ([.int .i64 n1, .int .i64 n2] : List D)) ∧ ∃ len4 : Nat, (Idx Try.prog Z s2 2 len4) ∧ ((0 : Int) ≤ n) ∧ (n < (len4 : Int)) ∧ ∃ row1 : List D, (Row Z s2 (Int.toNat n) row1) ∧ ∃ n3 n4 : Int, ((List.take 2 row1) = ([.int .i64 n3, .int .i64 n4] : List D)) ∧ bcase (!((n1 == n3) && (n2 == n4))) (Qp (.a (.one (.bool false))) Z) ((I (w64 (n + 1)) Z) ∧ ((μ (w64 (n + 1)) Z) < (μ n Z)))) (Qp (.a (.one (.bool true))) Z))
theorem W_slices_Equal_Need (s1 : D) (s2 : D) (σ : Store) (Qp : RV → Store → Prop) (h : V_slices_Equal_Need s1 s2 σ Qp) : DCalls Try.prog n_slices_Equal_Need [.one s1, .one s2] σ Qp :=
 dcalls_of_body mixed (by kernel_rfl) Try.func63 an_slices_Equal_Need (Eq.mp (by kernel_rfl) h)
def an_ref05_Ends : Ann := { esc := [], cbs := [], draws := [], loops := [(3, { mods := [(3, SlotSh.one (Sh.int IntKind.i64)), (9, SlotSh.one (Sh.int IntKind.i64))], keep := [7, 8] })], joins := [] }
def V_ref05_Ends (kind : Int) (σ : Store) (Qp : RV → Store → Prop) : Prop :=
 DCalls Try.prog n_ref05_ways [.one (.int .i64 kind)] σ (fun r Z => ∃ d : D, (r = (.a (.one d) : RV)) ∧ ∃ len : Nat, (Len d len) ∧ ∃ I : Int → Int → Store → Prop, ∃ μ : Int → Int → Store → Nat, (I 0 0 Z) ∧ ∀ n n1 : Int, ∀ Z1, (I n n1 Z1) → bcase (decide (n1 < (len : Int))) (∃ len1 : Nat, (Idx Try.prog Z1 d 3 len1) ∧ ((0 : Int) ≤ n1) ∧ (n1 < (len1 : Int)) ∧ ∃ row : List D, (Row Z1 d (Int.toNat n1) row) ∧ ∃ n2 n3 n4 : Int, ((List.take 3 row) = ([.int .i64 n2, .int .i64 n3, .int .i64 n4] : List D)) ∧ (I (ite ((w64 (n3 + 1)) > (ite ((w64 (n2 + 1)) > n) (w64 (n2 + 1)) n)) (w64 (n3 + 1)) (ite ((w64 (n2 + 1)) > n) (w64 (n2 + 1)) n)) (w64 (n1 + 1)) Z1) ∧ ((μ (ite ((w64 (n3 + 1)) > (ite ((w64 (n2 + 1)) > n) (w64 (n2 + 1)) n)) (w64 (n3 + 1)) (ite ((w64 (n2 + 1)) > n) (w64 (n2 + 1)) n)) (w64 (n1 + 1)) Z1) < (μ n n1 Z1))) (Qp (.a (.one (.int .i64 n))) Z1))
theorem W_ref05_Ends (kind : Int) (σ : Store) (Qp : RV → Store → Prop) (h : V_ref05_Ends kind σ Qp) : DCalls Try.prog n_ref05_Ends [.one (.int .i64 kind)] σ Qp :=
 dcalls_of_body mixed (by kernel_rfl) Try.func67 an_ref05_Ends (Eq.mp (by kernel_rfl) h)
def an_ref06_kind : Ann := { esc := [], cbs := [2], draws := [], loops := [], joins := [] }
def V_ref06_kind (c0 : D) (c1 : D) (c2 : D) (c3 : D) (c4 : D) (c5 : Int) (c6 : Int) (c7 : Int) (c8 : Int) (s : Int) (σ : Store) (Qp : RV → Store → Prop) : Prop :=
 bcase (decide (s < 0)) (Qp (.a (.one (.int .i64 (-1)))) σ) (∃ len : Nat, (Len c0 len) ∧ bcase (decide (s ≥ (len : Int))) (Qp (.a (.one (.int .i64 (-1)))) σ) (∃ len1 : Nat, (Idx Try.prog σ c0 3 len1) ∧ ((0 : Int) ≤ s) ∧ (s < (len1 : Int)) ∧ ∃ row : List D, (Row σ c0 (Int.toNat s) row) ∧ ∃ n : Int, ((List.take 1 row) = ([.int .i64 n] : List D)) ∧ Qp (.a (.one (.int .i64 n))) σ))
theorem W_ref06_kind (c0 : D) (c1 : D) (c2 : D) (c3 : D) (c4 : D) (c5 : Int) (c6 : Int) (c7 : Int) (c8 : Int) (s : Int) (σ : Store) (Qp : RV → Store → Prop) (h : V_ref06_kind c0 c1 c2 c3 c4 c5 c6 c7 c8 s σ Qp) : DCalls Try.prog n_ref06_kind [.agg [c0, c1, c2, c3, c4, .int .i64 c5, .int .i64 c6, .int .i64 c7, .int .i64 c8], .one (.int .i64 s)] σ Qp :=
 dcalls_of_body mixed (by kernel_rfl) Try.func71 an_ref06_kind (Eq.mp (by kernel_rfl) h)
def an_slices_Grow_Mover : Ann := { esc := [], cbs := [], draws := [], loops := [], joins := [] }
def V_slices_Grow_Mover (n : Int) (σ : Store) (Qp : RV → Store → Prop) : Prop :=
 bcase (decide (n < 0)) False (∃ len : Nat, (Len .nils len) ∧ bcase (decide ((w64 (n - (w64 (0 - (len : Int))))) > 0)) (∃ len1 : Nat, (IdxN Try.prog σ .nils 2 len1) ∧ ((0 : Int) ≤ 0) ∧ ((0 : Int) ≤ 0) ∧ ((0 : Int) ≤ (len1 : Int)) ∧ ((0 : Int) ≤ (w64 (n - (w64 (0 - (len : Int)))))) ∧ (((16 : Int) * (w64 (n - (w64 (0 - (len : Int)))))) ≤ (2 ^ 47)) ∧ bcase (decide ((w64 (n - (w64 (0 - (len : Int)))) : Int) = 0)) (∃ len2 : Nat, (Len .nils len2) ∧ ∃ len3 : Nat, (IdxN Try.prog σ .nils 2 len3) ∧ ((0 : Int) ≤ 0) ∧ ((0 : Int) ≤ (len2 : Int)) ∧ ((len2 : Int) ≤ (len3 : Int)) ∧ Qp (.a (.one .nils)) σ) (Fw.newObj σ (.live t_Mover (List.replicate (Int.toNat (w64 (n - (w64 (0 - (len : Int)))))) [.int .i64 0, .int .i64 0])) (fun id Z => ∃ len2 : Nat, (Len .nils len2) ∧ ∃ len3 : Nat, (IdxN Try.prog Z (.osl id 0 (Int.toNat (w64 (n - (w64 (0 - (len : Int))))))) 2 len3) ∧ ((0 : Int) ≤ 0) ∧ ((0 : Int) ≤ (len2 : Int)) ∧ ((len2 : Int) ≤ (len3 : Int)) ∧ Qp (.a (.one (.osl id 0 ((Int.toNat (len2 : Int)) - 0)))) Z))) (Qp (.a (.one .nils)) σ))
theorem W_slices_Grow_Mover (n : Int) (σ : Store) (Qp : RV → Store → Prop) (h : V_slices_Grow_Mover n σ Qp) : DCalls Try.prog n_slices_Grow_Mover [.one .nils, .one (.int .i64 n)] σ Qp :=
 dcalls_of_body mixed (by kernel_rfl) Try.func75 an_slices_Grow_Mover (Eq.mp (by kernel_rfl) h)
def an_math_bits_Mul64 : Ann := { esc := [], cbs := [], draws := [], loops := [], joins := [] }
def V_math_bits_Mul64 (x : Int) (y : Int) (σ : Store) (Qp : RV → Store → Prop) : Prop :=
 Qp (.tup [.one (.int .u64 (IntKind.wrap .u64 ((IntKind.wrap .u64 ((IntKind.wrap .u64 ((Int.fdiv x (2 ^ 32)) * (Int.fdiv y (2 ^ 32)))) + (Int.fdiv (IntKind.wrap .u64 ((IntKind.wrap .u64 ((Int.fdiv x (2 ^ 32)) * (IntKind.wrap .u64 (BitVec.toNat ((BitVec.ofInt 64 y) &&& (BitVec.ofInt 64 4294967295)) : Int)))) + (Int.fdiv (IntKind.wrap .u64 ((IntKind.wrap .u64 (BitVec.toNat ((BitVec.ofInt 64 x) &&& (BitVec.ofInt 64 4294967295)) : Int)) * (IntKind.wrap .u64 (BitVec.toNat ((BitVec.ofInt 64 y) &&& (BitVec.ofInt 64 4294967295)) : Int)))) (2 ^ 32)))) (2 ^ 32)))) + (Int.fdiv (IntKind.wrap .u64 ((IntKind.wrap .u64 (BitVec.toNat ((BitVec.ofInt 64 (IntKind.wrap .u64 ((IntKind.wrap .u64 ((Int.fdiv x (2 ^ 32)) * (IntKind.wrap .u64 (BitVec.toNat ((BitVec.ofInt 64 y) &&& (BitVec.ofInt 64 4294967295)) : Int)))) + (Int.fdiv (IntKind.wrap .u64 ((IntKind.wrap .u64 (BitVec.toNat ((BitVec.ofInt 64 x) &&& (BitVec.ofInt 64 4294967295)) : Int)) * (IntKind.wrap .u64 (BitVec.toNat ((BitVec.ofInt 64 y) &&& (BitVec.ofInt 64 4294967295)) : Int)))) (2 ^ 32))))) &&& (BitVec.ofInt 64 4294967295)) : Int)) + (IntKind.wrap .u64 ((IntKind.wrap .u64 (BitVec.toNat ((BitVec.ofInt 64 x) &&& (BitVec.ofInt 64 4294967295)) : Int)) * (Int.fdiv y (2 ^ 32)))))) (2 ^ 32))))), .one (.int .u64 (IntKind.wrap .u64 (x * y)))]) σ
theorem W_math_bits_Mul64 (x : Int) (y : Int) (σ : Store) (Qp : RV → Store → Prop) (h : V_math_bits_Mul64 x y σ Qp) : DCalls Try.prog n_math_bits_Mul64 [.one (.int .u64 x), .one (.int .u64 y)] σ Qp :=
 dcalls_of_body mixed (by kernel_rfl) Try.func88 an_math_bits_Mul64 (Eq.mp (by kernel_rfl) h)
def an_conf_has : Ann := { esc := [3], cbs := [], draws := [], loops := [], joins := [] }
def V_conf_has (path : D) (section_ : Int) (σ : Store) (Qp : RV → Store → Prop) : Prop :=
 Fw.newObj σ (.live t_int [[.int .i64 section_]]) (fun id Z => DCalls Try.prog n_slices_ContainsFunc_Step [.one path, .one (.fn n_conf_has_1 [] [(false, [.el (.osl id 0 1) 0 0])])] Z (fun r Z1 => ∃ b : Bool, (r = (.a (.one (.bool b)) : RV)) ∧ Qp (.a (.one (.bool b))) Z1))
theorem W_conf_has (path : D) (section_ : Int) (σ : Store) (Qp : RV → Store → Prop) (h : V_conf_has path section_ σ Qp) : DCalls Try.prog n_conf_has [.one path, .one (.int .i64 section_)] σ Qp :=
 dcalls_of_body mixed (by kernel_rfl) Try.func92 an_conf_has (Eq.mp (by kernel_rfl) h)
def an_slices_ContainsFunc_Step : Ann := { esc := [], cbs := [], draws := [], loops := [], joins := [] }
def V_slices_ContainsFunc_Step (s : D) (f : D) (σ : Store) (Qp : RV → Store → Prop) : Prop :=
 DCalls Try.prog n_slices_IndexFunc_Step [.one s, .one f] σ (fun r Z => ∃ n : Int, (r = (.a (.one (.int .i64 n)) : RV)) ∧ Qp (.a (.one (.bool (decide (n ≥ 0))))) Z)
theorem W_slices_ContainsFunc_Step (s : D) (f : D) (σ : Store) (Qp : RV → Store → Prop) (h : V_slices_ContainsFunc_Step s f σ Qp) : DCalls Try.prog n_slices_ContainsFunc_Step [.one s, .one f] σ Qp :=
 dcalls_of_body mixed (by kernel_rfl) Try.func105 an_slices_ContainsFunc_Step (Eq.mp (by kernel_rfl) h)
def an_conf_has_1 : Ann := { esc := [], cbs := [2], draws := [], loops := [], joins := [] }
def V_conf_has_1 (s0 : Int) (s1 : Int) (s2 : Int) (a1 : D) (σ : Store) (Qp : RV → Store → Prop) : Prop :=
 ∃ s : D, ∃ i off : Nat, (a1 = (.el s i off : D)) ∧ ∃ row : List D, (Row σ s i row) ∧ ∃ n : Int, ((List.take 1 (List.drop off row)) = ([.int .i64 n] : List D)) ∧ Qp (.a (.one (.bool (s0 == n)))) σ
theorem W_conf_has_1 (s0 : Int) (s1 : Int) (s2 : Int) (a1 : D) (σ : Store) (Qp : RV → Store → Prop) (h : V_conf_has_1 s0 s1 s2 a1 σ Qp) : DCalls Try.prog n_conf_has_1 [.agg [.int .i64 s0, .int .i64 s1, .int .i64 s2], .one a1] σ Qp :=
 dcalls_of_body mixed (by kernel_rfl) Try.func109 an_conf_has_1 (Eq.mp (by kernel_rfl) h)
def an_slices_IndexFunc_Step : Ann := { esc := [], cbs := [], draws := [], loops := [(2, { mods := [(8, SlotSh.one (Sh.int IntKind.i64))], keep := [0, 1, 7] })], joins := [] }
def V_slices_IndexFunc_Step (s : D) (f : D) (σ : Store) (Qp : RV → Store → Prop) : Prop :=
 ∃ len : Nat, (Len s len) ∧ ∃ I : Int → Store → Prop, ∃ μ : Int → Store → Nat, (I 0 σ) ∧ ∀ n : Int, ∀ Z, (I n Z) → bcase (decide (n < (len : Int))) (∃ len1 : Nat, (Idx Try.prog Z s 3 len1) ∧ ((0 : Int) ≤ n) ∧ (n < (len1 : Int)) ∧ ∃ row : List D, (Row Z s (Int.toNat n) row) ∧ ∃ n1 n2 n3 : Int, ((List.take 3 row) = ([.int .i64 n1, .int .i64 n2, .int .i64 n3] : List D)) ∧ ∃ f1 : FuncId, ∃ a : List (Bool × (List D)), ∃ b : List (Bool × (List D)), ∃ as0' : List A, ∃ bs : List A, (f = (.fn f1 a b : D)) ∧ ((capAs a) = (Option.some as0')) ∧ ((capAs b) = (Option.some bs)) ∧ DCalls Try.prog f1 (HAppend.hAppend (HAppend.hAppend as0' [.agg [.int .i64 n1, .int .i64 n2, .int .i64 n3]]) bs) Z (fun r Z1 => ∃ b1 : Bool, (r = (.a (.one (.bool b1)) : RV)) ∧ bcase b1 (Qp (.a (.one (.int .i64 n))) Z1) ((I (w64 (n + 1)) Z1) ∧ ((μ (w64 (n + 1)) Z1) < (μ n Z))))) (Qp (.a (.one (.int .i64 (-1)))) Z)
theorem W_slices_IndexFunc_Step (s : D) (f : D) (σ : Store) (Qp : RV → Store → Prop) (h : V_slices_IndexFunc_Step s f σ Qp) : DCalls Try.prog n_slices_IndexFunc_Step [.one s, .one f] σ Qp :=
 dcalls_of_body mixed (by kernel_rfl) Try.func115 an_slices_IndexFunc_Step (Eq.mp (by kernel_rfl) h)
end Go.Proofs.Ytjdpkjembijbeaa
end
section
set_option maxRecDepth 100000
namespace Go.Proofs.Ytjdpkjembijbeaa
open Go.Fw Go.Proofs
def an_ars_Due : Ann := { esc := [], cbs := [6, 7, 8], draws := [(7, { ord := [0, 1, 2, 3, 4, 8, 5, 6, 7, 9], nb := [1], av := [], dir := [] })], loops := [(5, { mods := [(13, SlotSh.one (Sh.any)), (68, SlotSh.one (Sh.int IntKind.i64))], keep := [3, 4, 6, 7, 8, 66, 67] }), (14, { mods := [(17, SlotSh.one (Sh.any)), (128, SlotSh.one (Sh.int IntKind.i64))], keep := [126, 127] })], joins := [(3, { mods := [], keep := [3, 4, 5, 6, 7, 8] }), (9, { mods := [], keep := [3, 4, 6, 7, 8, 13, 14, 15, 66, 67, 68] })] }
def V_ars_Due (c0 : D) (c1 : D) (c2 : D) (c3 : D) (c4 : D) (c5 : Int) (c6 : Int) (c7 : Int) (c8 : Int) (k0 : D) (k1 : D) (k2 : D) (k3 : D) (k4 : D) (k5 : D) (k6 : Bool) (v0 : D) (v1 : D) (v2 : D) (v3 : D) (now : Int) (done : D) (table : D) (σ : Store) (Qp : RV → Store → Prop) : Prop :=
 ∀ R : Store → Prop, (∀ Z, (∃ len : Nat, (Len table len) ∧ ∃ I : D → Int → Store → Prop, ∃ μ : D → Int → Store → Nat, (I .nils 0 Z) ∧ ∀ d : D, ∀ n : Int, ∀ Z1, (I d n Z1) → bcase (decide (n < (len : Int))) (∃ len1 : Nat, (Idx Try.prog Z1 table 3 len1) ∧ ((0 : Int) ≤ n) ∧ (n < (len1 : Int)) ∧ ∃ row : List D, (Row Z1 table (Int.toNat n) row) ∧ ∃ n1 n2 n3 : Int, ((List.take 3 row) = ([.int .i64 n1, .int .i64 n2, .int .i64 n3] : List D)) ∧ DCalls Try.prog n_conf_Approach [.agg [c0, c1, c2, c3, c4, .int .i64 c5, .int .i64 c6, .int .i64 c7, .int .i64 c8], .one (.int .i64 n2)] Z1 (fun r Z2 => ∃ n4 : Int, (r = (.a (.one (.int .i64 n4)) : RV)) ∧ ∃ len2 : Nat, (Idx Try.prog Z2 v0 3 len2) ∧ ((0 : Int) ≤ n4) ∧ (n4 < (len2 : Int)) ∧ ∃ row1 : List D, (Row Z2 v0 (Int.toNat n4) row1) ∧ ∃ n5 n6 : Int, ∃ b : Bool, ((List.take 3 row1) = ([.int .i64 n5, .int .i64 n6, .bool b] : List D)) ∧ ∀ R1 : Store → Prop, (∀ Z3, (Fw.newObj Z3 (.live t_ars_due [[.int .i64 n1, .int .i64 n2, .int .i64 n3, .int .i64 n]]) (fun id Z4 => appendTo Try.prog Z4 t_ars_due 32 d (.osl id 0 1) (fun d1 Z5 => (I d1 (w64 (n + 1)) Z5) ∧ ((μ d1 (w64 (n + 1)) Z5) < (μ d n Z1))))) → R1 Z3) → ∃ len3 : Nat, (Len done len3) ∧ bcase (decide (n < (len3 : Int))) (∃ len4 : Nat, (Idx Try.prog Z2 done 1 len4) ∧ ((0 : Int) ≤ n) ∧ (n < (len4 : Int)) ∧ ∃ row2 : List D, (Row Z2 done (Int.toNat n) row2) ∧ ∃ b1 : Bool, ((List.take 1 row2) = ([.bool b1] : List D)) ∧ bcase b1 ((I d (w64 (n + 1)) Z2) ∧ ((μ d (w64 (n + 1)) Z2) < (μ d n Z1))) (bcase (decide (n1 > now)) ((I d (w64 (n + 1)) Z2) ∧ ((μ d (w64 (n + 1)) Z2) < (μ d n Z1))) (∃ len5 : Nat, (Idx Try.prog Z2 k1 4 len5) ∧ ((0 : Int) ≤ n2) ∧ (n2 < (len5 : Int)) ∧ ∃ row3 : List D, (Row Z2 k1 (Int.toNat n2) row3) ∧ ∃ n7 : Int, ((List.take 1 row3) = ([.int .i64 n7] : List D)) ∧ bcase (n7 != 0) ((I d (w64 (n + 1)) Z2) ∧ ((μ d (w64 (n + 1)) Z2) < (μ d n Z1))) (bcase (!b) ((I d (w64 (n + 1)) Z2) ∧ ((μ d (w64 (n + 1)) Z2) < (μ d n Z1))) (bcase (n5 != 1) ((I d (w64 (n + 1)) Z2) ∧ ((μ d (w64 (n + 1)) Z2) < (μ d n Z1))) ((([[.int .i64 n1, .int .i64 n2, .int .i64 n3]] : List (List D)) = ([[.int .i64 n1, .int .i64 n2, .int .i64 n3]] : List (List D))) ∧ R1 Z2)))))) (bcase (decide (n1 > now)) ((I d (w64 (n + 1)) Z2) ∧ ((μ d (w64 (n + 1)) Z2) < (μ d n Z1))) (∃ len4 : Nat, (Idx Try.prog Z2 k1 4 len4) ∧ ((0 : Int) ≤ n2) ∧ (n2 < (len4 : Int)) ∧ ∃ row2 : List D, (Row Z2 k1 (Int.toNat n2) row2) ∧ ∃ n7 : Int, ((List.take 1 row2) = ([.int .i64 n7] : List D)) ∧ bcase (n7 != 0) ((I d (w64 (n + 1)) Z2) ∧ ((μ d (w64 (n + 1)) Z2) < (μ d n Z1))) (bcase (!b) ((I d (w64 (n + 1)) Z2) ∧ ((μ d (w64 (n + 1)) Z2) < (μ d n Z1))) (bcase (n5 != 1) ((I d (w64 (n + 1)) Z2) ∧ ((μ d (w64 (n + 1)) Z2) < (μ d n Z1))) ((([[.int .i64 n1, .int .i64 n2, .int .i64 n3]] : List (List D)) = ([[.int .i64 n1, .int .i64 n2, .int .i64 n3]] : List (List D))) ∧ R1 Z2))))))) (DCalls Try.prog n_slices_SortStableFunc_ars_due [.one d, .one (.fn n_ars_Due_1 [] [])] Z1 (fun r Z2 => (r = (.tup [] : RV)) ∧ ∃ len1 : Nat, (Len d len1) ∧ ∃ I1 : D → Int → Store → Prop, ∃ μ1 : D → Int → Store → Nat, (I1 .nils 0 Z2) ∧ ∀ d1 : D, ∀ n1 : Int, ∀ Z3, (I1 d1 n1 Z3) → bcase (decide (n1 < (len1 : Int))) (∃ len2 : Nat, (Idx Try.prog Z3 d 4 len2) ∧ ((0 : Int) ≤ n1) ∧ (n1 < (len2 : Int)) ∧ ∃ row : List D, (Row Z3 d (Int.toNat n1) row) ∧ ∃ n2 n3 n4 n5 : Int, ((List.take 4 row) = ([.int .i64 n2, .int .i64 n3, .int .i64 n4, .int .i64 n5] : List D)) ∧ Fw.newObj Z3 (.live t_int [[.int .i64 n5]]) (fun id Z4 => appendTo Try.prog Z4 t_int 8 d1 (.osl id 0 1) (fun d2 Z5 => (I1 d2 (w64 (n1 + 1)) Z5) ∧ ((μ1 d2 (w64 (n1 + 1)) Z5) < (μ1 d1 n1 Z3))))) (Qp (.a (.one d1)) Z3)))) → R Z) → DCalls Try.prog n_ars_Check [.agg [c0, c1, c2, c3, c4, .int .i64 c5, .int .i64 c6, .int .i64 c7, .int .i64 c8], .one table] σ (fun r Z => ∃ n : Int, (r = (.a (.one (.int .i64 n)) : RV)) ∧ bcase (n != 0) (Qp (.a (.one .nils)) Z) (DCalls Try.prog n_locks_Fits [.agg [c0, c1, c2, c3, c4, .int .i64 c5, .int .i64 c6, .int .i64 c7, .int .i64 c8], .agg [k0, k1, k2, k3, k4, k5, .bool k6]] Z (fun r1 Z1 => ∃ b : Bool, (r1 = (.a (.one (.bool b)) : RV)) ∧ bcase (!b) (Qp (.a (.one .nils)) Z1) (∃ len : Nat, (Len v0 len) ∧ ∃ len1 : Nat, (Len c0 len1) ∧ bcase ((len : Int) != (len1 : Int)) (Qp (.a (.one .nils)) Z1) (∃ len2 : Nat, (Len v1 len2) ∧ ∃ len3 : Nat, (Len c0 len3) ∧ bcase ((len2 : Int) != (len3 : Int)) (Qp (.a (.one .nils)) Z1) (∃ len4 : Nat, (Len v2 len4) ∧ ∃ len5 : Nat, (Len c3 len5) ∧ bcase ((len4 : Int) != (len5 : Int)) (Qp (.a (.one .nils)) Z1) (∃ len6 : Nat, (Len v3 len6) ∧ ∃ len7 : Nat, (Len c2 len7) ∧ bcase ((len6 : Int) != (len7 : Int)) (Qp (.a (.one .nils)) Z1) (R Z1))))))))
theorem W_ars_Due (c0 : D) (c1 : D) (c2 : D) (c3 : D) (c4 : D) (c5 : Int) (c6 : Int) (c7 : Int) (c8 : Int) (k0 : D) (k1 : D) (k2 : D) (k3 : D) (k4 : D) (k5 : D) (k6 : Bool) (v0 : D) (v1 : D) (v2 : D) (v3 : D) (now : Int) (done : D) (table : D) (σ : Store) (Qp : RV → Store → Prop) (h : V_ars_Due c0 c1 c2 c3 c4 c5 c6 c7 c8 k0 k1 k2 k3 k4 k5 k6 v0 v1 v2 v3 now done table σ Qp) : DCalls Try.prog n_ars_Due [.agg [c0, c1, c2, c3, c4, .int .i64 c5, .int .i64 c6, .int .i64 c7, .int .i64 c8], .agg [k0, k1, k2, k3, k4, k5, .bool k6], .agg [v0, v1, v2, v3], .one (.int .i64 now), .one done, .one table] σ Qp :=
 dcalls_of_body mixed (by kernel_rfl) Try.func8 an_ars_Due (Eq.mp (by kernel_rfl) h)
def an_ref16_Berths : Ann := { esc := [], cbs := [4, 5, 6], draws := [(13, { ord := [0, 1, 2, 3, 4, 5, 6, 7, 8, 9], nb := [], av := [], dir := [] })], loops := [(4, { mods := [(9, SlotSh.one (Sh.any))], keep := [4, 5, 6] }), (8, { mods := [(44, SlotSh.one (Sh.int IntKind.i64))], keep := [5, 6, 9, 42, 43] })], joins := [(4, { mods := [], keep := [4, 5, 6, 9] }), (15, { mods := [], keep := [5, 6, 9, 42, 43, 44] }), (11, { mods := [(12, SlotSh.one (Sh.bool))], keep := [5, 6, 9, 10, 11, 42, 43, 44] }), (12, { mods := [], keep := [5, 6, 9, 11, 42, 43, 44] })] }
def V_ref16_Berths (c0 : D) (c1 : D) (c2 : D) (c3 : D) (c4 : D) (c5 : Int) (c6 : Int) (c7 : Int) (c8 : Int) (was0 : D) (was1 : D) (was2 : D) (was3 : D) (was4 : D) (was5 : D) (was6 : Bool) (is0 : D) (is1 : D) (is2 : D) (is3 : D) (is4 : D) (is5 : D) (is6 : Bool) (berths : D) (σ : Store) (Qp : RV → Store → Prop) : Prop :=
 Fw.newObj σ (.live t_int []) (fun id Z => appendTo Try.prog Z t_int 8 (.osl id 0 0) berths (fun d Z1 => ∀ R : Store → Prop, (∀ Z2, (∃ I : D → Store → Prop, ∃ μ : D → Store → Nat, (I d Z2) ∧ ∀ d1 : D, ∀ Z3, (I d1 Z3) → ∃ len : Nat, (Len d1 len) ∧ ∃ len1 : Nat, (Len c2 len1) ∧ bcase (decide ((len : Int) < (len1 : Int))) (Fw.newObj Z3 (.live t_int [[.int .i64 0]]) (fun id1 Z4 => appendTo Try.prog Z4 t_int 8 d1 (.osl id1 0 1) (fun d2 Z5 => (I d2 Z5) ∧ ((μ d2 Z5) < (μ d1 Z3))))) (∃ len2 : Nat, (Len c2 len2) ∧ ∃ len3 : Nat, (IdxN Try.prog Z3 d1 1 len3) ∧ ((0 : Int) ≤ 0) ∧ ((0 : Int) ≤ (len2 : Int)) ∧ ((len2 : Int) ≤ (len3 : Int)) ∧ ∃ len4 : Nat, (Len c4 len4) ∧ ∃ I1 : Int → Store → Prop, ∃ μ1 : Int → Store → Nat, (I1 0 Z3) ∧ ∀ n : Int, ∀ Z4, (I1 n Z4) → bcase (decide (n < (len4 : Int))) (∀ R1 : Store → Prop, (∀ Z5, ((I1 (w64 (n + 1)) Z5) ∧ ((μ1 (w64 (n + 1)) Z5) < (μ1 n Z4))) → R1 Z5) → ∃ len5 : Nat, (Idx Try.prog Z4 c4 6 len5) ∧ ((0 : Int) ≤ n) ∧ (n < (len5 : Int)) ∧ ∃ row : List D, (Row Z4 c4 (Int.toNat n) row) ∧ ∃ n1 n2 : Int, ∃ d2 d3 d4 : D, ∃ b : Bool, ((List.take 6 row) = ([.int .i64 n1, .int .i64 n2, d2, d3, d4, .bool b] : List D)) ∧ ∀ R2 : Bool → Store → Prop, (∀ b1 : Bool, ∀ Z5, (∀ R3 : Store → Prop, (∀ Z6, (bcase (decide (n2 ≥ 0)) (bcase (n2 != n1) (∃ len6 : Nat, (Idx Try.prog Z6 (dsub d1 0 (Int.toNat (len2 : Int))) 1 len6) ∧ ((0 : Int) ≤ n1) ∧ (n1 < (len6 : Int)) ∧ ∃ row1 : List D, (Row Z6 (dsub d1 0 (Int.toNat (len2 : Int))) (Int.toNat n1) row1) ∧ ∃ n3 : Int, ((List.take 1 row1) = ([.int .i64 n3] : List D)) ∧ ∃ len7 : Nat, (Idx Try.prog Z6 (dsub d1 0 (Int.toNat (len2 : Int))) 1 len7) ∧ ((0 : Int) ≤ n2) ∧ (n2 < (len7 : Int)) ∧ storeEl [.int .i64 n3] Z6 (dsub d1 0 (Int.toNat (len2 : Int))) (Int.toNat n2) 0 (fun Z7 => ∃ len8 : Nat, (Idx Try.prog Z7 (dsub d1 0 (Int.toNat (len2 : Int))) 1 len8) ∧ ((0 : Int) ≤ n1) ∧ (n1 < (len8 : Int)) ∧ storeEl [.int .i64 0] Z7 (dsub d1 0 (Int.toNat (len2 : Int))) (Int.toNat n1) 0 (fun Z8 => R1 Z8))) (∃ len6 : Nat, (Idx Try.prog Z6 (dsub d1 0 (Int.toNat (len2 : Int))) 1 len6) ∧ ((0 : Int) ≤ n1) ∧ (n1 < (len6 : Int)) ∧ storeEl [.int .i64 0] Z6 (dsub d1 0 (Int.toNat (len2 : Int))) (Int.toNat n1) 0 (fun Z7 => R1 Z7))) (∃ len6 : Nat, (Idx Try.prog Z6 (dsub d1 0 (Int.toNat (len2 : Int))) 1 len6) ∧ ((0 : Int) ≤ n1) ∧ (n1 < (len6 : Int)) ∧ storeEl [.int .i64 0] Z6 (dsub d1 0 (Int.toNat (len2 : Int))) (Int.toNat n1) 0 (fun Z7 => R1 Z7))) → R3 Z6) → bcase (!b1) (R1 Z5) (∃ len6 : Nat, (Idx Try.prog Z5 is1 4 len6) ∧ ((0 : Int) ≤ n) ∧ (n < (len6 : Int)) ∧ ∃ row1 : List D, (Row Z5 is1 (Int.toNat n) row1) ∧ ∃ n3 : Int, ((List.take 1 row1) = ([.int .i64 n3] : List D)) ∧ bcase (n3 != 4) (R1 Z5) (∃ len7 : Nat, (Idx Try.prog Z5 (dsub d1 0 (Int.toNat (len2 : Int))) 1 len7) ∧ ((0 : Int) ≤ n1) ∧ (n1 < (len7 : Int)) ∧ ∃ row2 : List D, (Row Z5 (dsub d1 0 (Int.toNat (len2 : Int))) (Int.toNat n1) row2) ∧ ∃ n4 : Int, ((List.take 1 row2) = ([.int .i64 n4] : List D)) ∧ bcase (n4 == 0) (R1 Z5) ((([[.int .i64 n1, .int .i64 n2, d2, d3, d4, .bool b]] : List (List D)) = ([[.int .i64 n1, .int .i64 n2, d2, d3, d4, .bool b]] : List (List D))) ∧ R3 Z5)))) → R2 b1 Z5) → ∃ len6 : Nat, (Idx Try.prog Z4 was1 4 len6) ∧ ((0 : Int) ≤ n) ∧ (n < (len6 : Int)) ∧ ∃ row1 : List D, (Row Z4 was1 (Int.toNat n) row1) ∧ ∃ n3 : Int, ((List.take 1 row1) = ([.int .i64 n3] : List D)) ∧ bcase (n3 == 2) ((([[.int .i64 n1, .int .i64 n2, d2, d3, d4, .bool b]] : List (List D)) = ([[.int .i64 n1, .int .i64 n2, d2, d3, d4, .bool b]] : List (List D))) ∧ R2 true Z4) (∃ len7 : Nat, (Idx Try.prog Z4 was1 4 len7) ∧ ((0 : Int) ≤ n) ∧ (n < (len7 : Int)) ∧ ∃ row2 : List D, (Row Z4 was1 (Int.toNat n) row2) ∧ ∃ n4 : Int, ((List.take 1 row2) = ([.int .i64 n4] : List D)) ∧ (([[.int .i64 n1, .int .i64 n2, d2, d3, d4, .bool b]] : List (List D)) = ([[.int .i64 n1, .int .i64 n2, d2, d3, d4, .bool b]] : List (List D))) ∧ R2 (n4 == 3) Z4)) (Qp (.a (.one (dsub d1 0 (Int.toNat (len2 : Int))))) Z4))) → R Z2) → DCalls Try.prog n_ref13_Fits [.agg [c0, c1, c2, c3, c4, .int .i64 c5, .int .i64 c6, .int .i64 c7, .int .i64 c8], .agg [was0, was1, was2, was3, was4, was5, .bool was6]] Z1 (fun r Z2 => ∃ b : Bool, (r = (.a (.one (.bool b)) : RV)) ∧ bcase (!b) (Qp (.a (.one d)) Z2) (DCalls Try.prog n_ref13_Fits [.agg [c0, c1, c2, c3, c4, .int .i64 c5, .int .i64 c6, .int .i64 c7, .int .i64 c8], .agg [is0, is1, is2, is3, is4, is5, .bool is6]] Z2 (fun r1 Z3 => ∃ b1 : Bool, (r1 = (.a (.one (.bool b1)) : RV)) ∧ bcase (!b1) (Qp (.a (.one d)) Z3) (R Z3))))))
theorem W_ref16_Berths (c0 : D) (c1 : D) (c2 : D) (c3 : D) (c4 : D) (c5 : Int) (c6 : Int) (c7 : Int) (c8 : Int) (was0 : D) (was1 : D) (was2 : D) (was3 : D) (was4 : D) (was5 : D) (was6 : Bool) (is0 : D) (is1 : D) (is2 : D) (is3 : D) (is4 : D) (is5 : D) (is6 : Bool) (berths : D) (σ : Store) (Qp : RV → Store → Prop) (h : V_ref16_Berths c0 c1 c2 c3 c4 c5 c6 c7 c8 was0 was1 was2 was3 was4 was5 was6 is0 is1 is2 is3 is4 is5 is6 berths σ Qp) : DCalls Try.prog n_ref16_Berths [.agg [c0, c1, c2, c3, c4, .int .i64 c5, .int .i64 c6, .int .i64 c7, .int .i64 c8], .agg [was0, was1, was2, was3, was4, was5, .bool was6], .agg [is0, is1, is2, is3, is4, is5, .bool is6], .one berths] σ Qp :=
 dcalls_of_body mixed (by kernel_rfl) Try.func12 an_ref16_Berths (Eq.mp (by kernel_rfl) h)
def an_ref13_Time : Ann := { esc := [], cbs := [], draws := [], loops := [], joins := [] }
def V_ref13_Time (n : Int) (σ : Store) (Qp : RV → Store → Prop) : Prop :=
 bcase (decide (n ≥ 0)) (Qp (.a (.one (.bool (decide (n ≤ 4294967295))))) σ) (Qp (.a (.one (.bool false))) σ)
theorem W_ref13_Time (n : Int) (σ : Store) (Qp : RV → Store → Prop) (h : V_ref13_Time n σ Qp) : DCalls Try.prog n_ref13_Time [.one (.int .i64 n)] σ Qp :=
 dcalls_of_body mixed (by kernel_rfl) Try.func20 an_ref13_Time (Eq.mp (by kernel_rfl) h)
def an_ars_Due_1 : Ann := { esc := [], cbs := [2, 3], draws := [], loops := [], joins := [] }
def V_ars_Due_1 (a0 : Int) (a1 : Int) (a2 : Int) (a3 : Int) (b0 : Int) (b1 : Int) (b2 : Int) (b3 : Int) (σ : Store) (Qp : RV → Store → Prop) : Prop :=
 Qp (.a (.one (.int .i64 (w64 (a0 - b0))))) σ
theorem W_ars_Due_1 (a0 : Int) (a1 : Int) (a2 : Int) (a3 : Int) (b0 : Int) (b1 : Int) (b2 : Int) (b3 : Int) (σ : Store) (Qp : RV → Store → Prop) (h : V_ars_Due_1 a0 a1 a2 a3 b0 b1 b2 b3 σ Qp) : DCalls Try.prog n_ars_Due_1 [.agg [.int .i64 a0, .int .i64 a1, .int .i64 a2, .int .i64 a3], .agg [.int .i64 b0, .int .i64 b1, .int .i64 b2, .int .i64 b3]] σ Qp :=
 dcalls_of_body mixed (by kernel_rfl) Try.func24 an_ars_Due_1 (Eq.mp (by kernel_rfl) h)
def an_slices_Clone_int : Ann := { esc := [], cbs := [], draws := [], loops := [], joins := [] }
def V_slices_Clone_int (s : D) (σ : Store) (Qp : RV → Store → Prop) : Prop :=
 ∃ b : Bool, (IsNil .sl s b) ∧ bcase (b != false) (Qp (.a (.one .nils)) σ) (Fw.newObj σ (.live t_int []) (fun id Z => appendTo Try.prog Z t_int 8 (.osl id 0 0) s (fun d Z1 => Qp (.a (.one d)) Z1)))
theorem W_slices_Clone_int (s : D) (σ : Store) (Qp : RV → Store → Prop) (h : V_slices_Clone_int s σ Qp) : DCalls Try.prog n_slices_Clone_int [.one s] σ Qp :=
 dcalls_of_body mixed (by kernel_rfl) Try.func28 an_slices_Clone_int (Eq.mp (by kernel_rfl) h)
def an_locks_movers : Ann := { esc := [], cbs := [2], draws := [], loops := [(3, { mods := [(16, SlotSh.one (Sh.int IntKind.i64))], keep := [1, 2, 6, 14, 15] })], joins := [] }
def V_locks_movers (c0 : D) (c1 : D) (c2 : D) (c3 : D) (c4 : D) (c5 : Int) (c6 : Int) (c7 : Int) (c8 : Int) (now : Int) (σ : Store) (Qp : RV → Store → Prop) : Prop :=
 ∃ len : Nat, (Len c0 len) ∧ ((0 : Int) ≤ (len : Int)) ∧ ((len : Int) ≤ (len : Int)) ∧ (((16 : Int) * (len : Int)) ≤ (2 ^ 48)) ∧ Fw.newObj σ (.live t_Mover (List.replicate (Int.toNat (len : Int)) [.int .i64 0, .int .i64 0])) (fun id Z => ∃ len1 : Nat, (Len c0 len1) ∧ ∃ I : Int → Store → Prop, ∃ μ : Int → Store → Nat, (I 0 Z) ∧ ∀ n : Int, ∀ Z1, (I n Z1) → bcase (decide (n < (len1 : Int))) (∃ len2 : Nat, (Idx Try.prog Z1 c0 3 len2) ∧ ((0 : Int) ≤ n) ∧ (n < (len2 : Int)) ∧ ∃ row : List D, (Row Z1 c0 (Int.toNat n) row) ∧ ∃ n1 n2 n3 : Int, ((List.take 3 row) = ([.int .i64 n1, .int .i64 n2, .int .i64 n3] : List D)) ∧ bcase (n1 == 1) (DCalls Try.prog n_mover_Start [.one (.int .i64 now)] Z1 (fun r Z2 => ∃ n4 n5 : Int, (r = (.a (.agg [.int .i64 n4, .int .i64 n5]) : RV)) ∧ ∃ len3 : Nat, (Idx Try.prog Z2 (.osl id 0 (Int.toNat (len : Int))) 2 len3) ∧ ((0 : Int) ≤ n) ∧ (n < (len3 : Int)) ∧ storeEl [.int .i64 n4, .int .i64 n5] Z2 (.osl id 0 (Int.toNat (len : Int))) (Int.toNat n) 0 (fun Z3 => (I (w64 (n + 1)) Z3) ∧ ((μ (w64 (n + 1)) Z3) < (μ n Z1))))) ((I (w64 (n + 1)) Z1) ∧ ((μ (w64 (n + 1)) Z1) < (μ n Z1)))) (Fw.newObj Z1 (.live t_Mover [[.int .i64 1, .int .i64 now]]) (fun id1 Z2 => ∃ len2 : Nat, (Len c3 len2) ∧ DCalls Try.prog n_slices_Repeat_Mover [.one (.osl id1 0 1), .one (.int .i64 (len2 : Int))] Z2 (fun r Z3 => ∃ d : D, (r = (.a (.one d) : RV)) ∧ Qp (.tup [.one (.osl id 0 (Int.toNat (len : Int))), .one d]) Z3))))
theorem W_locks_movers (c0 : D) (c1 : D) (c2 : D) (c3 : D) (c4 : D) (c5 : Int) (c6 : Int) (c7 : Int) (c8 : Int) (now : Int) (σ : Store) (Qp : RV → Store → Prop) (h : V_locks_movers c0 c1 c2 c3 c4 c5 c6 c7 c8 now σ Qp) : DCalls Try.prog n_locks_movers [.agg [c0, c1, c2, c3, c4, .int .i64 c5, .int .i64 c6, .int .i64 c7, .int .i64 c8], .one (.int .i64 now)] σ Qp :=
 dcalls_of_body mixed (by kernel_rfl) Try.func32 an_locks_movers (Eq.mp (by kernel_rfl) h)
def an_conf_plan_crossings : Ann := { esc := [], cbs := [1], draws := [], loops := [(3, { mods := [(13, SlotSh.one (Sh.int IntKind.i64))], keep := [1, 3, 11, 12] })], joins := [] }
def V_conf_plan_crossings (p0 : D) (p1 : D) (p2 : D) (p3 : D) (p4 : D) (p5 : Int) (p6 : Int) (p7 : Int) (p8 : Int) (σ : Store) (Qp : RV → Store → Prop) : Prop :=
 Fw.newObj σ (.mp 0 []) (fun id Z => ∃ len : Nat, (Len p3 len) ∧ ∃ I : Int → Store → Prop, ∃ μ : Int → Store → Nat, (I 0 Z) ∧ ∀ n : Int, ∀ Z1, (I n Z1) → bcase (decide (n < (len : Int))) (∃ len1 : Nat, (Idx Try.prog Z1 p3 1 len1) ∧ ((0 : Int) ≤ n) ∧ (n < (len1 : Int)) ∧ ∃ row : List D, (Row Z1 p3 (Int.toNat n) row) ∧ ∃ n1 : Int, ((List.take 1 row) = ([.int .i64 n1] : List D)) ∧ DCalls Try.prog n_conf_plan_section [.agg [p0, p1, p2, p3, p4, .int .i64 p5, .int .i64 p6, .int .i64 p7, .int .i64 p8], .one (.int .i64 n1)] Z1 (fun r Z2 => ∃ n2 n3 n4 : Int, ∃ b : Bool, (r = (.tup [.agg [.int .i64 n2, .int .i64 n3, .int .i64 n4], .one (.bool b)] : RV)) ∧ ∃ r1 : Option A, (MLook Try.prog t_int Z2 (.omap id) (.one (.int .i64 n1)) r1) ∧ ∃ n5 : Int, ((Option.getD r1 (.one (.int .i64 0))) = (.one (.int .i64 n5) : A)) ∧ MPut Try.prog t_int Z2 (.omap id) (.one (.int .i64 n1)) (.one (.int .i64 (w64 (n5 + 1)))) (fun Z3 => bcase (!b) (Qp (.a (.one (.bool false))) Z3) (bcase (n4 != 0) (Qp (.a (.one (.bool false))) Z3) (∃ r2 : Option A, (MLook Try.prog t_int Z3 (.omap id) (.one (.int .i64 n1)) r2) ∧ ∃ n6 : Int, ((Option.getD r2 (.one (.int .i64 0))) = (.one (.int .i64 n6) : A)) ∧ bcase (decide (n6 > 1)) (Qp (.a (.one (.bool false))) Z3) ((I (w64 (n + 1)) Z3) ∧ ((μ (w64 (n + 1)) Z3) < (μ n Z1)))))))) (∃ len1 : Nat, (Len p3 len1) ∧ Qp (.a (.one (.bool (decide ((len1 : Int) ≤ 4))))) Z1))
theorem W_conf_plan_crossings (p0 : D) (p1 : D) (p2 : D) (p3 : D) (p4 : D) (p5 : Int) (p6 : Int) (p7 : Int) (p8 : Int) (σ : Store) (Qp : RV → Store → Prop) (h : V_conf_plan_crossings p0 p1 p2 p3 p4 p5 p6 p7 p8 σ Qp) : DCalls Try.prog n_conf_plan_crossings [.agg [p0, p1, p2, p3, p4, .int .i64 p5, .int .i64 p6, .int .i64 p7, .int .i64 p8]] σ Qp :=
 dcalls_of_body mixed (by kernel_rfl) Try.func36 an_conf_plan_crossings (Eq.mp (by kernel_rfl) h)
def an_ref06_signals : Ann := { esc := [], cbs := [1], draws := [], loops := [(2, { mods := [(11, SlotSh.one (Sh.int IntKind.i64))], keep := [1, 9, 10] })], joins := [] }
def V_ref06_signals (c0 : D) (c1 : D) (c2 : D) (c3 : D) (c4 : D) (c5 : Int) (c6 : Int) (c7 : Int) (c8 : Int) (σ : Store) (Qp : RV → Store → Prop) : Prop :=
 ∃ len : Nat, (Len c2 len) ∧ ∃ I : Int → Store → Prop, ∃ μ : Int → Store → Nat, (I 0 σ) ∧ ∀ n : Int, ∀ Z, (I n Z) → bcase (decide (n < (len : Int))) (∃ len1 : Nat, (Idx Try.prog Z c2 2 len1) ∧ ((0 : Int) ≤ n) ∧ (n < (len1 : Int)) ∧ ∃ row : List D, (Row Z c2 (Int.toNat n) row) ∧ ∃ n1 n2 : Int, ((List.take 2 row) = ([.int .i64 n1, .int .i64 n2] : List D)) ∧ DCalls Try.prog n_ref05_Next [.one c1, .one (.int .i64 n1), .one (.int .i64 n2)] Z (fun r Z1 => ∃ n3 n4 : Int, ∃ b : Bool, (r = (.tup [.one (.int .i64 n3), .one (.int .i64 n4), .one (.bool b)] : RV)) ∧ bcase (!b) (Qp (.a (.one (.bool false))) Z1) (DCalls Try.prog n_ref06_at [.agg [c0, c1, c2, c3, c4, .int .i64 c5, .int .i64 c6, .int .i64 c7, .int .i64 c8], .one (.int .i64 n1), .one (.int .i64 n2), .one (.int .i64 n)] Z1 (fun r1 Z2 => ∃ b1 : Bool, (r1 = (.a (.one (.bool b1)) : RV)) ∧ bcase b1 (Qp (.a (.one (.bool false))) Z2) ((I (w64 (n + 1)) Z2) ∧ ((μ (w64 (n + 1)) Z2) < (μ n Z))))))) (∃ len1 : Nat, (Len c2 len1) ∧ Qp (.a (.one (.bool (decide ((len1 : Int) ≤ 12))))) Z)
theorem W_ref06_signals (c0 : D) (c1 : D) (c2 : D) (c3 : D) (c4 : D) (c5 : Int) (c6 : Int) (c7 : Int) (c8 : Int) (σ : Store) (Qp : RV → Store → Prop) (h : V_ref06_signals c0 c1 c2 c3 c4 c5 c6 c7 c8 σ Qp) : DCalls Try.prog n_ref06_signals [.agg [c0, c1, c2, c3, c4, .int .i64 c5, .int .i64 c6, .int .i64 c7, .int .i64 c8]] σ Qp :=
 dcalls_of_body mixed (by kernel_rfl) Try.func40 an_ref06_signals (Eq.mp (by kernel_rfl) h)
def an_ref06_Flank : Ann := { esc := [], cbs := [3], draws := [], loops := [(4, { mods := [(7, SlotSh.one (Sh.any)), (8, SlotSh.one (Sh.any)), (18, SlotSh.one (Sh.int IntKind.i64))], keep := [1, 2, 3, 16, 17] }), (8, { mods := [(7, SlotSh.one (Sh.any)), (8, SlotSh.one (Sh.any)), (12, SlotSh.one (Sh.int IntKind.i64))], keep := [1, 2, 3, 10, 11, 16, 17, 18] })], joins := [(9, { mods := [(7, SlotSh.one (Sh.any)), (8, SlotSh.one (Sh.any))], keep := [1, 2, 3, 10, 11, 12, 16, 17, 18] }), (11, { mods := [], keep := [1, 2, 3, 7, 8, 10, 11, 12, 16, 17, 18] }), (13, { mods := [], keep := [1, 2, 3, 7, 8, 10, 11, 12, 13, 14, 16, 17, 18] })] }
def V_ref06_Flank (c0 : D) (c1 : D) (c2 : D) (c3 : D) (c4 : D) (c5 : Int) (c6 : Int) (c7 : Int) (c8 : Int) (approach : Int) (path : D) (σ : Store) (Qp : RV → Store → Prop) : Prop :=
 ∃ len : Nat, (Len path len) ∧ ∃ I : D → D → Int → Store → Prop, ∃ μ : D → D → Int → Store → Nat, (I .nils .nils 0 σ) ∧ ∀ d d1 : D, ∀ n : Int, ∀ Z, (I d d1 n Z) → bcase (decide (n < (len : Int))) (∃ len1 : Nat, (Idx Try.prog Z path 3 len1) ∧ ((0 : Int) ≤ n) ∧ (n < (len1 : Int)) ∧ ∃ row : List D, (Row Z path (Int.toNat n) row) ∧ ∃ n1 n2 n3 : Int, ((List.take 3 row) = ([.int .i64 n1, .int .i64 n2, .int .i64 n3] : List D)) ∧ DCalls Try.prog n_ref06_kind [.agg [c0, c1, c2, c3, c4, .int .i64 c5, .int .i64 c6, .int .i64 c7, .int .i64 c8], .one (.int .i64 n1)] Z (fun r Z1 => ∃ n4 : Int, (r = (.a (.one (.int .i64 n4)) : RV)) ∧ ∃ I1 : D → D → Int → Store → Prop, ∃ μ1 : D → D → Int → Store → Nat, (I1 d d1 0 Z1) ∧ ∀ d2 d3 : D, ∀ n5 : Int, ∀ Z2, (I1 d2 d3 n5 Z2) → DCalls Try.prog n_ref05_Ends [.one (.int .i64 n4)] Z2 (fun r1 Z3 => ∃ n6 : Int, (r1 = (.a (.one (.int .i64 n6)) : RV)) ∧ bcase (decide (n5 < n6)) (∀ R : D → D → Store → Prop, (∀ d4 d5 : D, ∀ Z4, ((([[.int .i64 n1, .int .i64 n2, .int .i64 n3]] : List (List D)) = ([[.int .i64 n1, .int .i64 n2, .int .i64 n3]] : List (List D))) ∧ (I1 d4 d5 (w64 (n5 + 1)) Z4) ∧ ((μ1 d4 d5 (w64 (n5 + 1)) Z4) < (μ1 d2 d3 n5 Z2))) → R d4 d5 Z4) → ∀ R1 : Store → Prop, (∀ Z4, (DCalls Try.prog n_ref05_Next [.one c1, .one (.int .i64 n1), .one (.int .i64 n5)] Z4 (fun r2 Z5 => ∃ n7 n8 : Int, ∃ b : Bool, (r2 = (.tup [.one (.int .i64 n7), .one (.int .i64 n8), .one (.bool b)] : RV)) ∧ ∀ R2 : Store → Prop, (∀ Z6, (Fw.newObj Z6 (.live t_int [[.int .i64 n7]]) (fun id Z7 => appendTo Try.prog Z7 t_int 8 d3 (.osl id 0 1) (fun d4 Z8 => Fw.newObj Z8 (.live t_Need [[.int .i64 n7, .int .i64 (w64 (3 - n8))]]) (fun id1 Z9 => appendTo Try.prog Z9 t_Need 16 d2 (.osl id1 0 1) (fun d5 Z10 => (([[.int .i64 n1, .int .i64 n2, .int .i64 n3]] : List (List D)) = ([[.int .i64 n1, .int .i64 n2, .int .i64 n3]] : List (List D))) ∧ R d5 d4 Z10))))) → R2 Z6) → bcase (!b) ((([[.int .i64 n1, .int .i64 n2, .int .i64 n3]] : List (List D)) = ([[.int .i64 n1, .int .i64 n2, .int .i64 n3]] : List (List D))) ∧ R d2 d3 Z5) (DCalls Try.prog n_ref06_kind [.agg [c0, c1, c2, c3, c4, .int .i64 c5, .int .i64 c6, .int .i64 c7, .int .i64 c8], .one (.int .i64 n7)] Z5 (fun r3 Z6 => ∃ n9 : Int, (r3 = (.a (.one (.int .i64 n9)) : RV)) ∧ bcase (n9 != 1) ((([[.int .i64 n1, .int .i64 n2, .int .i64 n3]] : List (List D)) = ([[.int .i64 n1, .int .i64 n2, .int .i64 n3]] : List (List D))) ∧ R d2 d3 Z6) (bcase (n8 != 1) (bcase (n8 != 2) ((([[.int .i64 n1, .int .i64 n2, .int .i64 n3]] : List (List D)) = ([[.int .i64 n1, .int .i64 n2, .int .i64 n3]] : List (List D))) ∧ R d2 d3 Z6) (DCalls Try.prog n_ref06_Sections [.one path] Z6 (fun r4 Z7 => ∃ d4 : D, (r4 = (.a (.one d4) : RV)) ∧ DCalls Try.prog n_ref06_in [.one d4, .one (.int .i64 n7)] Z7 (fun r5 Z8 => ∃ b1 : Bool, (r5 = (.a (.one (.bool b1)) : RV)) ∧ bcase b1 ((([[.int .i64 n1, .int .i64 n2, .int .i64 n3]] : List (List D)) = ([[.int .i64 n1, .int .i64 n2, .int .i64 n3]] : List (List D))) ∧ R d2 d3 Z8) (bcase (n7 == approach) ((([[.int .i64 n1, .int .i64 n2, .int .i64 n3]] : List (List D)) = ([[.int .i64 n1, .int .i64 n2, .int .i64 n3]] : List (List D))) ∧ R d2 d3 Z8) (DCalls Try.prog n_ref06_in [.one d3, .one (.int .i64 n7)] Z8 (fun r6 Z9 => ∃ b2 : Bool, (r6 = (.a (.one (.bool b2)) : RV)) ∧ bcase b2 ((([[.int .i64 n1, .int .i64 n2, .int .i64 n3]] : List (List D)) = ([[.int .i64 n1, .int .i64 n2, .int .i64 n3]] : List (List D))) ∧ R d2 d3 Z9) ((([[.int .i64 n1, .int .i64 n2, .int .i64 n3]] : List (List D)) = ([[.int .i64 n1, .int .i64 n2, .int .i64 n3]] : List (List D))) ∧ R2 Z9)))))))) (DCalls Try.prog n_ref06_Sections [.one path] Z6 (fun r4 Z7 => ∃ d4 : D, (r4 = (.a (.one d4) : RV)) ∧ DCalls Try.prog n_ref06_in [.one d4, .one (.int .i64 n7)] Z7 (fun r5 Z8 => ∃ b1 : Bool, (r5 = (.a (.one (.bool b1)) : RV)) ∧ bcase b1 ((([[.int .i64 n1, .int .i64 n2, .int .i64 n3]] : List (List D)) = ([[.int .i64 n1, .int .i64 n2, .int .i64 n3]] : List (List D))) ∧ R d2 d3 Z8) (bcase (n7 == approach) ((([[.int .i64 n1, .int .i64 n2, .int .i64 n3]] : List (List D)) = ([[.int .i64 n1, .int .i64 n2, .int .i64 n3]] : List (List D))) ∧ R d2 d3 Z8) (DCalls Try.prog n_ref06_in [.one d3, .one (.int .i64 n7)] Z8 (fun r6 Z9 => ∃ b2 : Bool, (r6 = (.a (.one (.bool b2)) : RV)) ∧ bcase b2 ((([[.int .i64 n1, .int .i64 n2, .int .i64 n3]] : List (List D)) = ([[.int .i64 n1, .int .i64 n2, .int .i64 n3]] : List (List D))) ∧ R d2 d3 Z9) ((([[.int .i64 n1, .int .i64 n2, .int .i64 n3]] : List (List D)) = ([[.int .i64 n1, .int .i64 n2, .int .i64 n3]] : List (List D))) ∧ R2 Z9)))))))))))) → R1 Z4) → bcase (n5 == n2) ((([[.int .i64 n1, .int .i64 n2, .int .i64 n3]] : List (List D)) = ([[.int .i64 n1, .int .i64 n2, .int .i64 n3]] : List (List D))) ∧ R d2 d3 Z3) (bcase (n5 == n3) ((([[.int .i64 n1, .int .i64 n2, .int .i64 n3]] : List (List D)) = ([[.int .i64 n1, .int .i64 n2, .int .i64 n3]] : List (List D))) ∧ R d2 d3 Z3) ((([[.int .i64 n1, .int .i64 n2, .int .i64 n3]] : List (List D)) = ([[.int .i64 n1, .int .i64 n2, .int .i64 n3]] : List (List D))) ∧ R1 Z3))) ((I d2 d3 (w64 (n + 1)) Z3) ∧ ((μ d2 d3 (w64 (n + 1)) Z3) < (μ d d1 n Z)))))) (Qp (.a (.one d)) Z)
theorem W_ref06_Flank (c0 : D) (c1 : D) (c2 : D) (c3 : D) (c4 : D) (c5 : Int) (c6 : Int) (c7 : Int) (c8 : Int) (approach : Int) (path : D) (σ : Store) (Qp : RV → Store → Prop) (h : V_ref06_Flank c0 c1 c2 c3 c4 c5 c6 c7 c8 approach path σ Qp) : DCalls Try.prog n_ref06_Flank [.agg [c0, c1, c2, c3, c4, .int .i64 c5, .int .i64 c6, .int .i64 c7, .int .i64 c8], .one (.int .i64 approach), .one path] σ Qp :=
 dcalls_of_body mixed (by kernel_rfl) Try.func44 an_ref06_Flank (Eq.mp (by kernel_rfl) h)
def an_locks_times : Ann := { esc := [], cbs := [], draws := [], loops := [(2, { mods := [(9, SlotSh.one (Sh.int IntKind.i64))], keep := [0, 7, 8] })], joins := [] }
def V_locks_times (beyond : Int) (list : D) (σ : Store) (Qp : RV → Store → Prop) : Prop :=
 ∃ len : Nat, (Len list len) ∧ ∃ I : Int → Store → Prop, ∃ μ : Int → Store → Nat, (I 0 σ) ∧ ∀ n : Int, ∀ Z, (I n Z) → bcase (decide (n < (len : Int))) (∃ len1 : Nat, (Idx Try.prog Z list 1 len1) ∧ ((0 : Int) ≤ n) ∧ (n < (len1 : Int)) ∧ ∃ row : List D, (Row Z list (Int.toNat n) row) ∧ ∃ n1 : Int, ((List.take 1 row) = ([.int .i64 n1] : List D)) ∧ DCalls Try.prog n_locks_between [.one (.int .i64 n1), .one (.int .i64 0), .one (.int .i64 (w64 (4294967295 + beyond)))] Z (fun r Z1 => ∃ b : Bool, (r = (.a (.one (.bool b)) : RV)) ∧ bcase (!b) (Qp (.a (.one (.bool false))) Z1) ((I (w64 (n + 1)) Z1) ∧ ((μ (w64 (n + 1)) Z1) < (μ n Z))))) (Qp (.a (.one (.bool true))) Z)
theorem W_locks_times (beyond : Int) (list : D) (σ : Store) (Qp : RV → Store → Prop) (h : V_locks_times beyond list σ Qp) : DCalls Try.prog n_locks_times [.one (.int .i64 beyond), .one list] σ Qp :=
 dcalls_of_body mixed (by kernel_rfl) Try.func48 an_locks_times (Eq.mp (by kernel_rfl) h)
def an_mover_Start : Ann := { esc := [], cbs := [], draws := [], loops := [], joins := [] }
def V_mover_Start (now : Int) (σ : Store) (Qp : RV → Store → Prop) : Prop :=
 Qp (.a (.agg [.int .i64 0, .int .i64 now])) σ
theorem W_mover_Start (now : Int) (σ : Store) (Qp : RV → Store → Prop) (h : V_mover_Start now σ Qp) : DCalls Try.prog n_mover_Start [.one (.int .i64 now)] σ Qp :=
 dcalls_of_body mixed (by kernel_rfl) Try.func56 an_mover_Start (Eq.mp (by kernel_rfl) h)
def an_topo_Next : Ann := { esc := [], cbs := [], draws := [(5, { ord := [0, 1, 2, 3, 4, 5, 6], nb := [], av := [], dir := [] }), (7, { ord := [0, 1, 2, 3, 4, 5, 6], nb := [], av := [], dir := [] })], loops := [(2, { mods := [(13, SlotSh.one (Sh.int IntKind.i64))], keep := [1, 2, 11, 12] })], joins := [] }
def V_topo_Next (joints : D) (section_ : Int) (end_ : Int) (σ : Store) (Qp : RV → Store → Prop) : Prop :=
 ∃ len : Nat, (Len joints len) ∧ ∃ I : Int → Store → Prop, ∃ μ : Int → Store → Nat, (I 0 σ) ∧ ∀ n : Int, ∀ Z, (I n Z) → bcase (decide (n < (len : Int))) (∃ len1 : Nat, (Idx Try.prog Z joints 4 len1) ∧ ((0 : Int) ≤ n) ∧ (n < (len1 : Int)) ∧ ∃ row : List D, (Row Z joints (Int.toNat n) row) ∧ ∃ n1 n2 n3 n4 : Int, ((List.take 4 row) = ([.int .i64 n1, .int .i64 n2, .int .i64 n3, .int .i64 n4] : List D)) ∧ bcase (n1 == section_) (bcase (n2 == end_) (Qp (.tup [.one (.int .i64 n3), .one (.int .i64 n4), .one (.bool true)]) Z) (bcase (n3 == section_) (bcase (n4 == end_) (Qp (.tup [.one (.int .i64 n1), .one (.int .i64 n2), .one (.bool true)]) Z) ((I (w64 (n + 1)) Z) ∧ ((μ (w64 (n + 1)) Z) < (μ n Z)))) ((I (w64 (n + 1)) Z) ∧ ((μ (w64 (n + 1)) Z) < (μ n Z))))) (bcase (n3 == section_) (bcase (n4 == end_) (Qp (.tup [.one (.int .i64 n1), .one (.int .i64 n2), .one (.bool true)]) Z) ((I (w64 (n + 1)) Z) ∧ ((μ (w64 (n + 1)) Z) < (μ n Z)))) ((I (w64 (n + 1)) Z) ∧ ((μ (w64 (n + 1)) Z) < (μ n Z))))) (Qp (.tup [.one (.int .i64 0), .one (.int .i64 0), .one (.bool false)]) Z)
theorem W_topo_Next (joints : D) (section_ : Int) (end_ : Int) (σ : Store) (Qp : RV → Store → Prop) (h : V_topo_Next joints section_ end_ σ Qp) : DCalls Try.prog n_topo_Next [.one joints, .one (.int .i64 section_), .one (.int .i64 end_)] σ Qp :=
 dcalls_of_body mixed (by kernel_rfl) Try.func60 an_topo_Next (Eq.mp (by kernel_rfl) h)
def an_conf_plan_flank : Ann := { esc := [13], cbs := [3], draws := [], loops := [(3, { mods := [(7, SlotSh.one (Sh.any)), (20, SlotSh.one (Sh.int IntKind.i64))], keep := [1, 2, 3, 18, 19] }), (8, { mods := [(7, SlotSh.one (Sh.any)), (36, SlotSh.one (Sh.int IntKind.i64))], keep := [1, 2, 3, 9, 18, 19, 20, 35] })], joins := [(11, { mods := [], keep := [1, 2, 3, 7, 9, 12, 18, 19, 20, 35, 36] }), (14, { mods := [], keep := [1, 2, 3, 7, 9, 13, 14, 18, 19, 20, 35, 36] })] }
def V_conf_plan_flank (p0 : D) (p1 : D) (p2 : D) (p3 : D) (p4 : D) (p5 : Int) (p6 : Int) (p7 : Int) (p8 : Int) (approach : Int) (path : D) (σ : Store) (Qp : RV → Store → Prop) : Prop :=
 ∃ len : Nat, (Len path len) ∧ ∃ I : D → Int → Store → Prop, ∃ μ : D → Int → Store → Nat, (I .nils 0 σ) ∧ ∀ d : D, ∀ n : Int, ∀ Z, (I d n Z) → bcase (decide (n < (len : Int))) (∃ len1 : Nat, (Idx Try.prog Z path 3 len1) ∧ ((0 : Int) ≤ n) ∧ (n < (len1 : Int)) ∧ ∃ row : List D, (Row Z path (Int.toNat n) row) ∧ ∃ n1 n2 n3 : Int, ((List.take 3 row) = ([.int .i64 n1, .int .i64 n2, .int .i64 n3] : List D)) ∧ DCalls Try.prog n_conf_plan_section [.agg [p0, p1, p2, p3, p4, .int .i64 p5, .int .i64 p6, .int .i64 p7, .int .i64 p8], .one (.int .i64 n1)] Z (fun r Z1 => ∃ n4 n5 n6 : Int, ∃ b : Bool, (r = (.tup [.agg [.int .i64 n4, .int .i64 n5, .int .i64 n6], .one (.bool b)] : RV)) ∧ bcase (!b) ((I d (w64 (n + 1)) Z1) ∧ ((μ d (w64 (n + 1)) Z1) < (μ d n Z))) (DCalls Try.prog n_topo_Ends [.one (.int .i64 n4)] Z1 (fun r1 Z2 => ∃ n7 : Int, (r1 = (.a (.one (.int .i64 n7)) : RV)) ∧ ∃ I1 : D → Int → Store → Prop, ∃ μ1 : D → Int → Store → Nat, (I1 d 0 Z2) ∧ ∀ d1 : D, ∀ n8 : Int, ∀ Z3, (I1 d1 n8 Z3) → bcase (decide (n8 < n7)) (∀ R : Store → Prop, (∀ Z4, (DCalls Try.prog n_topo_Next [.one p1, .one (.int .i64 n1), .one (.int .i64 n8)] Z4 (fun r2 Z5 => ∃ n9 n10 : Int, ∃ b1 : Bool, (r2 = (.tup [.one (.int .i64 n9), .one (.int .i64 n10), .one (.bool b1)] : RV)) ∧ Fw.newObj Z5 (.live t_int [[.int .i64 0]]) (fun id Z6 => storeEl [.int .i64 n9] Z6 (.osl id 0 1) 0 0 (fun Z7 => ∃ row1 : List D, (Row Z7 (.osl id 0 1) 0 row1) ∧ ∃ n11 : Int, ((List.take 1 row1) = ([.int .i64 n11] : List D)) ∧ DCalls Try.prog n_conf_plan_section [.agg [p0, p1, p2, p3, p4, .int .i64 p5, .int .i64 p6, .int .i64 p7, .int .i64 p8], .one (.int .i64 n11)] Z7 (fun r3 Z8 => ∃ n12 n13 n14 : Int, ∃ b2 : Bool, (r3 = (.tup [.agg [.int .i64 n12, .int .i64 n13, .int .i64 n14], .one (.bool b2)] : RV)) ∧ ∀ R1 : Store → Prop, (∀ Z9, (∃ row2 : List D, (Row Z9 (.osl id 0 1) 0 row2) ∧ ∃ n15 : Int, ((List.take 1 row2) = ([.int .i64 n15] : List D)) ∧ Fw.newObj Z9 (.live t_Need [[.int .i64 n15, .int .i64 (w64 (3 - n10))]]) (fun id1 Z10 => appendTo Try.prog Z10 t_Need 16 d1 (.osl id1 0 1) (fun d2 Z11 => (([[.int .i64 n1, .int .i64 n2, .int .i64 n3]] : List (List D)) = ([[.int .i64 n1, .int .i64 n2, .int .i64 n3]] : List (List D))) ∧ (I1 d2 (w64 (n8 + 1)) Z11) ∧ ((μ1 d2 (w64 (n8 + 1)) Z11) < (μ1 d1 n8 Z3))))) → R1 Z9) → bcase (!b1) ((([[.int .i64 n1, .int .i64 n2, .int .i64 n3]] : List (List D)) = ([[.int .i64 n1, .int .i64 n2, .int .i64 n3]] : List (List D))) ∧ (I1 d1 (w64 (n8 + 1)) Z8) ∧ ((μ1 d1 (w64 (n8 + 1)) Z8) < (μ1 d1 n8 Z3))) (bcase (!b2) ((([[.int .i64 n1, .int .i64 n2, .int .i64 n3]] : List (List D)) = ([[.int .i64 n1, .int .i64 n2, .int .i64 n3]] : List (List D))) ∧ (I1 d1 (w64 (n8 + 1)) Z8) ∧ ((μ1 d1 (w64 (n8 + 1)) Z8) < (μ1 d1 n8 Z3))) (bcase (n12 != 1) ((([[.int .i64 n1, .int .i64 n2, .int .i64 n3]] : List (List D)) = ([[.int .i64 n1, .int .i64 n2, .int .i64 n3]] : List (List D))) ∧ (I1 d1 (w64 (n8 + 1)) Z8) ∧ ((μ1 d1 (w64 (n8 + 1)) Z8) < (μ1 d1 n8 Z3))) (bcase (decide (n10 < 1)) ((([[.int .i64 n1, .int .i64 n2, .int .i64 n3]] : List (List D)) = ([[.int .i64 n1, .int .i64 n2, .int .i64 n3]] : List (List D))) ∧ (I1 d1 (w64 (n8 + 1)) Z8) ∧ ((μ1 d1 (w64 (n8 + 1)) Z8) < (μ1 d1 n8 Z3))) (bcase (decide (n10 > 2)) ((([[.int .i64 n1, .int .i64 n2, .int .i64 n3]] : List (List D)) = ([[.int .i64 n1, .int .i64 n2, .int .i64 n3]] : List (List D))) ∧ (I1 d1 (w64 (n8 + 1)) Z8) ∧ ((μ1 d1 (w64 (n8 + 1)) Z8) < (μ1 d1 n8 Z3))) (∃ row2 : List D, (Row Z8 (.osl id 0 1) 0 row2) ∧ ∃ n15 : Int, ((List.take 1 row2) = ([.int .i64 n15] : List D)) ∧ bcase (n15 == approach) ((([[.int .i64 n1, .int .i64 n2, .int .i64 n3]] : List (List D)) = ([[.int .i64 n1, .int .i64 n2, .int .i64 n3]] : List (List D))) ∧ (I1 d1 (w64 (n8 + 1)) Z8) ∧ ((μ1 d1 (w64 (n8 + 1)) Z8) < (μ1 d1 n8 Z3))) (∃ row3 : List D, (Row Z8 (.osl id 0 1) 0 row3) ∧ ∃ n16 : Int, ((List.take 1 row3) = ([.int .i64 n16] : List D)) ∧ DCalls Try.prog n_conf_has [.one path, .one (.int .i64 n16)] Z8 (fun r4 Z9 => ∃ b3 : Bool, (r4 = (.a (.one (.bool b3)) : RV)) ∧ bcase b3 ((([[.int .i64 n1, .int .i64 n2, .int .i64 n3]] : List (List D)) = ([[.int .i64 n1, .int .i64 n2, .int .i64 n3]] : List (List D))) ∧ (I1 d1 (w64 (n8 + 1)) Z9) ∧ ((μ1 d1 (w64 (n8 + 1)) Z9) < (μ1 d1 n8 Z3))) (DCalls Try.prog n_slices_ContainsFunc_Need [.one d1, .one (.fn n_conf_plan_flank_1 [] [(false, [.el (.osl id 0 1) 0 0])])] Z9 (fun r5 Z10 => ∃ b4 : Bool, (r5 = (.a (.one (.bool b4)) : RV)) ∧ bcase b4 ((([[.int .i64 n1, .int .i64 n2, .int .i64 n3]] : List (List D)) = ([[.int .i64 n1, .int .i64 n2, .int .i64 n3]] : List (List D))) ∧ (I1 d1 (w64 (n8 + 1)) Z10) ∧ ((μ1 d1 (w64 (n8 + 1)) Z10) < (μ1 d1 n8 Z3))) ((([[.int .i64 n1, .int .i64 n2, .int .i64 n3]] : List (List D)) = ([[.int .i64 n1, .int .i64 n2, .int .i64 n3]] : List (List D))) ∧ R1 Z10))))))))))))))) → R Z4) → bcase (n8 == n2) ((([[.int .i64 n1, .int .i64 n2, .int .i64 n3]] : List (List D)) = ([[.int .i64 n1, .int .i64 n2, .int .i64 n3]] : List (List D))) ∧ (I1 d1 (w64 (n8 + 1)) Z3) ∧ ((μ1 d1 (w64 (n8 + 1)) Z3) < (μ1 d1 n8 Z3))) (bcase (n8 == n3) ((([[.int .i64 n1, .int .i64 n2, .int .i64 n3]] : List (List D)) = ([[.int .i64 n1, .int .i64 n2, .int .i64 n3]] : List (List D))) ∧ (I1 d1 (w64 (n8 + 1)) Z3) ∧ ((μ1 d1 (w64 (n8 + 1)) Z3) < (μ1 d1 n8 Z3))) ((([[.int .i64 n1, .int .i64 n2, .int .i64 n3]] : List (List D)) = ([[.int .i64 n1, .int .i64 n2, .int .i64 n3]] : List (List D))) ∧ R Z3))) ((I d1 (w64 (n + 1)) Z3) ∧ ((μ d1 (w64 (n + 1)) Z3) < (μ d n Z))))))) (Qp (.a (.one d)) Z)
theorem W_conf_plan_flank (p0 : D) (p1 : D) (p2 : D) (p3 : D) (p4 : D) (p5 : Int) (p6 : Int) (p7 : Int) (p8 : Int) (approach : Int) (path : D) (σ : Store) (Qp : RV → Store → Prop) (h : V_conf_plan_flank p0 p1 p2 p3 p4 p5 p6 p7 p8 approach path σ Qp) : DCalls Try.prog n_conf_plan_flank [.agg [p0, p1, p2, p3, p4, .int .i64 p5, .int .i64 p6, .int .i64 p7, .int .i64 p8], .one (.int .i64 approach), .one path] σ Qp :=
 dcalls_of_body mixed (by kernel_rfl) Try.func64 an_conf_plan_flank (Eq.mp (by kernel_rfl) h)
def an_ref05_count : Ann := { esc := [], cbs := [], draws := [], loops := [(3, { mods := [(7, SlotSh.one (Sh.int IntKind.i64)), (12, SlotSh.one (Sh.int IntKind.i64))], keep := [1, 2, 10, 11] })], joins := [(7, { mods := [(7, SlotSh.one (Sh.int IntKind.i64))], keep := [1, 2, 9, 10, 11, 12] })] }
def V_ref05_count (joints : D) (section_ : Int) (end_ : Int) (σ : Store) (Qp : RV → Store → Prop) : Prop :=
 ∃ len : Nat, (Len joints len) ∧ ∃ I : Int → Int → Store → Prop, ∃ μ : Int → Int → Store → Nat, (I 0 0 σ) ∧ ∀ n n1 : Int, ∀ Z, (I n n1 Z) → bcase (decide (n1 < (len : Int))) (∃ len1 : Nat, (Idx Try.prog Z joints 4 len1) ∧ ((0 : Int) ≤ n1) ∧ (n1 < (len1 : Int)) ∧ ∃ row : List D, (Row Z joints (Int.toNat n1) row) ∧ ∃ n2 n3 n4 n5 : Int, ((List.take 4 row) = ([.int .i64 n2, .int .i64 n3, .int .i64 n4, .int .i64 n5] : List D)) ∧ ∀ R : Int → Store → Prop, (∀ n6 : Int, ∀ Z1, (bcase (n4 == section_) (bcase (n5 == end_) ((I (w64 (n6 + 1)) (w64 (n1 + 1)) Z1) ∧ ((μ (w64 (n6 + 1)) (w64 (n1 + 1)) Z1) < (μ n n1 Z))) ((I n6 (w64 (n1 + 1)) Z1) ∧ ((μ n6 (w64 (n1 + 1)) Z1) < (μ n n1 Z)))) ((I n6 (w64 (n1 + 1)) Z1) ∧ ((μ n6 (w64 (n1 + 1)) Z1) < (μ n n1 Z)))) → R n6 Z1) → bcase (n2 == section_) (bcase (n3 == end_) ((([[.int .i64 n2, .int .i64 n3, .int .i64 n4, .int .i64 n5]] : List (List D)) = ([[.int .i64 n2, .int .i64 n3, .int .i64 n4, .int .i64 n5]] : List (List D))) ∧ R (w64 (n + 1)) Z) ((([[.int .i64 n2, .int .i64 n3, .int .i64 n4, .int .i64 n5]] : List (List D)) = ([[.int .i64 n2, .int .i64 n3, .int .i64 n4, .int .i64 n5]] : List (List D))) ∧ R n Z)) ((([[.int .i64 n2, .int .i64 n3, .int .i64 n4, .int .i64 n5]] : List (List D)) = ([[.int .i64 n2, .int .i64 n3, .int .i64 n4, .int .i64 n5]] : List (List D))) ∧ R n Z)) (Qp (.a (.one (.int .i64 n))) Z)
theorem W_ref05_count (joints : D) (section_ : Int) (end_ : Int) (σ : Store) (Qp : RV → Store → Prop) (h : V_ref05_count joints section_ end_ σ Qp) : DCalls Try.prog n_ref05_count [.one joints, .one (.int .i64 section_), .one (.int .i64 end_)] σ Qp :=
 dcalls_of_body mixed (by kernel_rfl) Try.func68 an_ref05_count (Eq.mp (by kernel_rfl) h)
def an_ref06_in : Ann := { esc := [], cbs := [], draws := [], loops := [(2, { mods := [(9, SlotSh.one (Sh.int IntKind.i64))], keep := [1, 7, 8] })], joins := [] }
def V_ref06_in (l : D) (n : Int) (σ : Store) (Qp : RV → Store → Prop) : Prop :=
 ∃ len : Nat, (Len l len) ∧ ∃ I : Int → Store → Prop, ∃ μ : Int → Store → Nat, (I 0 σ) ∧ ∀ n1 : Int, ∀ Z, (I n1 Z) → bcase (decide (n1 < (len : Int))) (∃ len1 : Nat, (Idx Try.prog Z l 1 len1) ∧ ((0 : Int) ≤ n1) ∧ (n1 < (len1 : Int)) ∧ ∃ row : List D, (Row Z l (Int.toNat n1) row) ∧ ∃ n2 : Int, ((List.take 1 row) = ([.int .i64 n2] : List D)) ∧ bcase (n2 == n) (Qp (.a (.one (.bool true))) Z) ((I (w64 (n1 + 1)) Z) ∧ ((μ (w64 (n1 + 1)) Z) < (μ n1 Z)))) (Qp (.a (.one (.bool false))) Z)
theorem W_ref06_in (l : D) (n : Int) (σ : Store) (Qp : RV → Store → Prop) (h : V_ref06_in l n σ Qp) : DCalls Try.prog n_ref06_in [.one l, .one (.int .i64 n)] σ Qp :=
 dcalls_of_body mixed (by kernel_rfl) Try.func72 an_ref06_in (Eq.mp (by kernel_rfl) h)
def an_conf_plan_signal : Ann := { esc := [], cbs := [2], draws := [], loops := [], joins := [] }
def V_conf_plan_signal (p0 : D) (p1 : D) (p2 : D) (p3 : D) (p4 : D) (p5 : Int) (p6 : Int) (p7 : Int) (p8 : Int) (x : Int) (σ : Store) (Qp : RV → Store → Prop) : Prop :=
 bcase (decide (x < 0)) (Qp (.tup [.agg [.int .i64 0, .int .i64 0], .one (.bool false)]) σ) (∃ len : Nat, (Len p2 len) ∧ bcase (decide (x ≥ (len : Int))) (Qp (.tup [.agg [.int .i64 0, .int .i64 0], .one (.bool false)]) σ) (∃ len1 : Nat, (Idx Try.prog σ p2 2 len1) ∧ ((0 : Int) ≤ x) ∧ (x < (len1 : Int)) ∧ ∃ row : List D, (Row σ p2 (Int.toNat x) row) ∧ ∃ n n1 : Int, ((List.take 2 row) = ([.int .i64 n, .int .i64 n1] : List D)) ∧ Qp (.tup [.agg [.int .i64 n, .int .i64 n1], .one (.bool true)]) σ))
theorem W_conf_plan_signal (p0 : D) (p1 : D) (p2 : D) (p3 : D) (p4 : D) (p5 : Int) (p6 : Int) (p7 : Int) (p8 : Int) (x : Int) (σ : Store) (Qp : RV → Store → Prop) (h : V_conf_plan_signal p0 p1 p2 p3 p4 p5 p6 p7 p8 x σ Qp) : DCalls Try.prog n_conf_plan_signal [.agg [p0, p1, p2, p3, p4, .int .i64 p5, .int .i64 p6, .int .i64 p7, .int .i64 p8], .one (.int .i64 x)] σ Qp :=
 dcalls_of_body mixed (by kernel_rfl) Try.func76 an_conf_plan_signal (Eq.mp (by kernel_rfl) h)
def an_topo_ways : Ann := { esc := [], cbs := [], draws := [], loops := [], joins := [] }
def V_topo_ways (kind : Int) (σ : Store) (Qp : RV → Store → Prop) : Prop :=
 bcase (kind == 0) (Fw.newObj σ (.live t_topo_way [[.int .i64 0, .int .i64 1, .int .i64 0]]) (fun id Z => Qp (.a (.one (.osl id 0 1))) Z)) (bcase (kind == 1) (Fw.newObj σ (.live t_topo_way [[.int .i64 0, .int .i64 1, .int .i64 1], [.int .i64 0, .int .i64 2, .int .i64 2]]) (fun id Z => Qp (.a (.one (.osl id 0 2))) Z)) (bcase (kind == 2) (Fw.newObj σ (.live t_topo_way [[.int .i64 0, .int .i64 1, .int .i64 0], [.int .i64 2, .int .i64 3, .int .i64 0]]) (fun id Z => Qp (.a (.one (.osl id 0 2))) Z)) (Qp (.a (.one .nils)) σ)))
theorem W_topo_ways (kind : Int) (σ : Store) (Qp : RV → Store → Prop) (h : V_topo_ways kind σ Qp) : DCalls Try.prog n_topo_ways [.one (.int .i64 kind)] σ Qp :=
 dcalls_of_body mixed (by kernel_rfl) Try.func89 an_topo_ways (Eq.mp (by kernel_rfl) h)
def an_slices_ContainsFunc_Need : Ann := { esc := [], cbs := [], draws := [], loops := [], joins := [] }
def V_slices_ContainsFunc_Need (s : D) (f : D) (σ : Store) (Qp : RV → Store → Prop) : Prop :=
 DCalls Try.prog n_slices_IndexFunc_Need [.one s, .one f] σ (fun r Z => ∃ n : Int, (r = (.a (.one (.int .i64 n)) : RV)) ∧ Qp (.a (.one (.bool (decide (n ≥ 0))))) Z)
theorem W_slices_ContainsFunc_Need (s : D) (f : D) (σ : Store) (Qp : RV → Store → Prop) (h : V_slices_ContainsFunc_Need s f σ Qp) : DCalls Try.prog n_slices_ContainsFunc_Need [.one s, .one f] σ Qp :=
 dcalls_of_body mixed (by kernel_rfl) Try.func93 an_slices_ContainsFunc_Need (Eq.mp (by kernel_rfl) h)
def an_slices_IndexFunc_Need : Ann := { esc := [], cbs := [], draws := [], loops := [(2, { mods := [(8, SlotSh.one (Sh.int IntKind.i64))], keep := [0, 1, 7] })], joins := [] }
def V_slices_IndexFunc_Need (s : D) (f : D) (σ : Store) (Qp : RV → Store → Prop) : Prop :=
 ∃ len : Nat, (Len s len) ∧ ∃ I : Int → Store → Prop, ∃ μ : Int → Store → Nat, (I 0 σ) ∧ ∀ n : Int, ∀ Z, (I n Z) → bcase (decide (n < (len : Int))) (∃ len1 : Nat, (Idx Try.prog Z s 2 len1) ∧ ((0 : Int) ≤ n) ∧ (n < (len1 : Int)) ∧ ∃ row : List D, (Row Z s (Int.toNat n) row) ∧ ∃ n1 n2 : Int, ((List.take 2 row) = ([.int .i64 n1, .int .i64 n2] : List D)) ∧ ∃ f1 : FuncId, ∃ a : List (Bool × (List D)), ∃ b : List (Bool × (List D)), ∃ as0' : List A, ∃ bs : List A, (f = (.fn f1 a b : D)) ∧ ((capAs a) = (Option.some as0')) ∧ ((capAs b) = (Option.some bs)) ∧ DCalls Try.prog f1 (HAppend.hAppend (HAppend.hAppend as0' [.agg [.int .i64 n1, .int .i64 n2]]) bs) Z (fun r Z1 => ∃ b1 : Bool, (r = (.a (.one (.bool b1)) : RV)) ∧ bcase b1 (Qp (.a (.one (.int .i64 n))) Z1) ((I (w64 (n + 1)) Z1) ∧ ((μ (w64 (n + 1)) Z1) < (μ n Z))))) (Qp (.a (.one (.int .i64 (-1)))) Z)
theorem W_slices_IndexFunc_Need (s : D) (f : D) (σ : Store) (Qp : RV → Store → Prop) (h : V_slices_IndexFunc_Need s f σ Qp) : DCalls Try.prog n_slices_IndexFunc_Need [.one s, .one f] σ Qp :=
 dcalls_of_body mixed (by kernel_rfl) Try.func110 an_slices_IndexFunc_Need (Eq.mp (by kernel_rfl) h)
end Go.Proofs.Ytjdpkjembijbeaa
end
section
set_option maxRecDepth 100000
namespace Go.Proofs.Ytjdpkjembijbeaa
open Go.Fw Go.Proofs
def an_law16_lives : Ann := { esc := [], cbs := [], draws := [(2, { ord := [0, 1, 6, 2, 3, 4, 5, 7], nb := [], av := [], dir := [] }), (4, { ord := [0, 1, 2, 3, 4, 5, 6, 7, 9, 10, 8, 11, 12, 13, 14, 15, 16, 17, 18, 20, 21, 19, 22, 23, 24, 25, 26, 27], nb := [0, 6, 7, 9, 10, 17, 18, 20, 21], av := [], dir := [], sp := [8, 12, 19] })], loops := [], joins := [], frz := [6, 8, 10, 12, 14, 19, 26, 35, 37, 46] }
def V_law16_lives (σ : Store) (Qp : RV → Store → Prop) : Prop :=
 Fw.newObj σ (.live t_Look [[.int .i64 1, .int .i64 9, .bool true], [.int .i64 0, .int .i64 9, .bool true]]) (fun id Z => ((0 : Int) ≤ 2) ∧ ((2 : Int) ≤ 2) ∧ (((24 : Int) * 2) ≤ (2 ^ 48)) ∧ Fw.newObj Z (.live t_Look [[.int .i64 0, .int .i64 0, .bool false], [.int .i64 0, .int .i64 0, .bool false]]) (fun id1 Z1 => ((0 : Int) ≤ 1) ∧ ((1 : Int) ≤ 1) ∧ (((24 : Int) * 1) ≤ (2 ^ 48)) ∧ Fw.newObj Z1 (.live t_Look [[.int .i64 0, .int .i64 0, .bool false]]) (fun id2 Z2 => ∃ pre : List A → Store → Prop, ∃ post : List A → Store → RV → Store → Prop, (SpecOk Try.prog n_locks_New pre post) ∧ ∃ pre1 : List A → Store → Prop, ∃ post1 : List A → Store → RV → Store → Prop, (SpecOk Try.prog n_ars_Due pre1 post1) ∧ ∃ pre2 : List A → Store → Prop, ∃ post2 : List A → Store → RV → Store → Prop, (SpecOk Try.prog n_locks_New pre2 post2) ∧ Fw.newObj Z2 (.live t_Entry [[.int .i64 5, .int .i64 0, .int .i64 7]]) (fun id3 Z3 => DCalls Try.prog n_ars_Check [.agg [.sl 3 [[.int .i64 0, .int .i64 0, .int .i64 0], [.int .i64 0, .int .i64 0, .int .i64 0]], .sl 4 [[.int .i64 0, .int .i64 1, .int .i64 1, .int .i64 0]], .sl 2 [[.int .i64 0, .int .i64 1]], .nils, .sl 6 [[.int .i64 0, .int .i64 (-1), .sl 3 [[.int .i64 1, .int .i64 0, .int .i64 1]], .nils, .nils, .bool false]], .int .i64 2, .int .i64 1, .int .i64 4, .int .i64 1000], .one (.osl id3 0 1)] Z3 (fun r Z4 => ∃ n : Int, (r = (.a (.one (.int .i64 n)) : RV)) ∧ bcase (n == 0) ((pre [.agg [.sl 3 [[.int .i64 0, .int .i64 0, .int .i64 0], [.int .i64 0, .int .i64 0, .int .i64 0]], .sl 4 [[.int .i64 0, .int .i64 1, .int .i64 1, .int .i64 0]], .sl 2 [[.int .i64 0, .int .i64 1]], .nils, .sl 6 [[.int .i64 0, .int .i64 (-1), .sl 3 [[.int .i64 1, .int .i64 0, .int .i64 1]], .nils, .nils, .bool false]], .int .i64 2, .int .i64 1, .int .i64 4, .int .i64 1000], .one (.int .i64 0)] Z4) ∧ ∀ r1 : RV, ∀ s : Store, (post [.agg [.sl 3 [[.int .i64 0, .int .i64 0, .int .i64 0], [.int .i64 0, .int .i64 0, .int .i64 0]], .sl 4 [[.int .i64 0, .int .i64 1, .int .i64 1, .int .i64 0]], .sl 2 [[.int .i64 0, .int .i64 1]], .nils, .sl 6 [[.int .i64 0, .int .i64 (-1), .sl 3 [[.int .i64 1, .int .i64 0, .int .i64 1]], .nils, .nils, .bool false]], .int .i64 2, .int .i64 1, .int .i64 4, .int .i64 1000], .one (.int .i64 0)] Z4 r1 s) → ∃ d d1 d2 d3 d4 d5 : D, ∃ b : Bool, (r1 = (.a (.agg [d, d1, d2, d3, d4, d5, .bool b]) : RV)) ∧ Fw.newObj s (.live t_Entry [[.int .i64 5, .int .i64 0, .int .i64 7]]) (fun id4 Z5 => (pre1 [.agg [.sl 3 [[.int .i64 0, .int .i64 0, .int .i64 0], [.int .i64 0, .int .i64 0, .int .i64 0]], .sl 4 [[.int .i64 0, .int .i64 1, .int .i64 1, .int .i64 0]], .sl 2 [[.int .i64 0, .int .i64 1]], .nils, .sl 6 [[.int .i64 0, .int .i64 (-1), .sl 3 [[.int .i64 1, .int .i64 0, .int .i64 1]], .nils, .nils, .bool false]], .int .i64 2, .int .i64 1, .int .i64 4, .int .i64 1000], .agg [d, d1, d2, d3, d4, d5, .bool b], .agg [.osl id 0 2, .osl id1 0 2, .nils, .osl id2 0 1], .one (.int .i64 9), .one .nils, .one (.osl id4 0 1)] Z5) ∧ ∀ r2 : RV, ∀ s1 : Store, (post1 [.agg [.sl 3 [[.int .i64 0, .int .i64 0, .int .i64 0], [.int .i64 0, .int .i64 0, .int .i64 0]], .sl 4 [[.int .i64 0, .int .i64 1, .int .i64 1, .int .i64 0]], .sl 2 [[.int .i64 0, .int .i64 1]], .nils, .sl 6 [[.int .i64 0, .int .i64 (-1), .sl 3 [[.int .i64 1, .int .i64 0, .int .i64 1]], .nils, .nils, .bool false]], .int .i64 2, .int .i64 1, .int .i64 4, .int .i64 1000], .agg [d, d1, d2, d3, d4, d5, .bool b], .agg [.osl id 0 2, .osl id1 0 2, .nils, .osl id2 0 1], .one (.int .i64 9), .one .nils, .one (.osl id4 0 1)] Z5 r2 s1) → ∃ d6 : D, (r2 = (.a (.one d6) : RV)) ∧ Fw.newObj s1 (.live t_int [[.int .i64 0]]) (fun id5 Z6 => DCalls Try.prog n_ref01_SameInts [.one d6, .one (.osl id5 0 1)] Z6 (fun r3 Z7 => ∃ b1 : Bool, (r3 = (.a (.one (.bool b1)) : RV)) ∧ bcase b1 ((pre2 [.agg [.sl 3 [[.int .i64 0, .int .i64 0, .int .i64 0], [.int .i64 0, .int .i64 0, .int .i64 0]], .sl 4 [[.int .i64 0, .int .i64 1, .int .i64 1, .int .i64 0]], .sl 2 [[.int .i64 0, .int .i64 1]], .nils, .sl 6 [[.int .i64 0, .int .i64 (-1), .sl 3 [[.int .i64 1, .int .i64 0, .int .i64 1]], .nils, .nils, .bool false]], .int .i64 2, .int .i64 1, .int .i64 4, .int .i64 1000], .one (.int .i64 0)] Z7) ∧ ∀ r4 : RV, ∀ s2 : Store, (post2 [.agg [.sl 3 [[.int .i64 0, .int .i64 0, .int .i64 0], [.int .i64 0, .int .i64 0, .int .i64 0]], .sl 4 [[.int .i64 0, .int .i64 1, .int .i64 1, .int .i64 0]], .sl 2 [[.int .i64 0, .int .i64 1]], .nils, .sl 6 [[.int .i64 0, .int .i64 (-1), .sl 3 [[.int .i64 1, .int .i64 0, .int .i64 1]], .nils, .nils, .bool false]], .int .i64 2, .int .i64 1, .int .i64 4, .int .i64 1000], .one (.int .i64 0)] Z7 r4 s2) → ∃ d7 d8 d9 d10 d11 d12 : D, ∃ b2 : Bool, (r4 = (.a (.agg [d7, d8, d9, d10, d11, d12, .bool b2]) : RV)) ∧ Fw.newObj s2 (.live t_Entry [[.int .i64 5, .int .i64 0, .int .i64 7]]) (fun id6 Z8 => DCalls Try.prog n_ars_Due [.agg [.sl 3 [[.int .i64 0, .int .i64 0, .int .i64 0], [.int .i64 0, .int .i64 0, .int .i64 0]], .sl 4 [[.int .i64 0, .int .i64 1, .int .i64 1, .int .i64 0]], .sl 2 [[.int .i64 0, .int .i64 1]], .nils, .sl 6 [[.int .i64 0, .int .i64 (-1), .sl 3 [[.int .i64 1, .int .i64 0, .int .i64 1]], .nils, .nils, .bool false]], .int .i64 2, .int .i64 1, .int .i64 4, .int .i64 1000], .agg [d7, d8, d9, d10, d11, d12, .bool b2], .agg [.osl id 0 2, .osl id1 0 2, .nils, .osl id2 0 1], .one (.int .i64 4), .one .nils, .one (.osl id6 0 1)] Z8 (fun r5 Z9 => ∃ d13 : D, (r5 = (.a (.one d13) : RV)) ∧ ∃ len : Nat, (Len d13 len) ∧ Qp (.a (.one (.bool ((len : Int) == 0)))) Z9))) (Qp (.a (.one (.bool false))) Z7))))) (Qp (.a (.one (.bool false))) Z4))))))
theorem W_law16_lives (σ : Store) (Qp : RV → Store → Prop) (h : V_law16_lives σ Qp) : DCalls Try.prog n_law16_lives [] σ Qp :=
 dcalls_of_body mixed (by kernel_rfl) Try.func5 an_law16_lives (Eq.mp (by kernel_rfl) h)
def an_ref16_Due : Ann := { esc := [], cbs := [6, 7, 8], draws := [(7, { ord := [0, 1, 2, 3, 4, 8, 5, 6, 7, 9], nb := [1], av := [], dir := [] }), (10, { ord := [0, 1, 2, 3, 4, 5, 6, 7, 8, 9, 10, 11, 12, 13, 14, 15], nb := [], av := [], dir := [] })], loops := [(5, { mods := [(13, SlotSh.one (Sh.any)), (37, SlotSh.one (Sh.int IntKind.i64))], keep := [3, 4, 5, 6, 7, 8, 35, 36] }), (10, { mods := [(17, SlotSh.one (Sh.int IntKind.i64))], keep := [3, 4, 5, 6, 7, 8, 13, 14, 15, 35, 36, 37] })], joins := [(3, { mods := [], keep := [3, 4, 5, 6, 7, 8] }), (9, { mods := [], keep := [3, 4, 5, 6, 7, 8, 13, 14, 15, 35, 36, 37] })] }
def V_ref16_Due (c0 : D) (c1 : D) (c2 : D) (c3 : D) (c4 : D) (c5 : Int) (c6 : Int) (c7 : Int) (c8 : Int) (k0 : D) (k1 : D) (k2 : D) (k3 : D) (k4 : D) (k5 : D) (k6 : Bool) (v0 : D) (v1 : D) (v2 : D) (v3 : D) (now : Int) (done : D) (table : D) (σ : Store) (Qp : RV → Store → Prop) : Prop :=
 ∀ R : Store → Prop, (∀ Z, (∃ len : Nat, (Len table len) ∧ ∃ I : D → Int → Store → Prop, ∃ μ : D → Int → Store → Nat, (I .nils 0 Z) ∧ ∀ d : D, ∀ n : Int, ∀ Z1, (I d n Z1) → bcase (decide (n < (len : Int))) (∃ len1 : Nat, (Idx Try.prog Z1 table 3 len1) ∧ ((0 : Int) ≤ n) ∧ (n < (len1 : Int)) ∧ ∃ row : List D, (Row Z1 table (Int.toNat n) row) ∧ ∃ n1 n2 n3 : Int, ((List.take 3 row) = ([.int .i64 n1, .int .i64 n2, .int .i64 n3] : List D)) ∧ DCalls Try.prog n_ref06_Approach [.agg [c0, c1, c2, c3, c4, .int .i64 c5, .int .i64 c6, .int .i64 c7, .int .i64 c8], .one (.int .i64 n2)] Z1 (fun r Z2 => ∃ n4 : Int, (r = (.a (.one (.int .i64 n4)) : RV)) ∧ ∃ len2 : Nat, (Idx Try.prog Z2 v0 3 len2) ∧ ((0 : Int) ≤ n4) ∧ (n4 < (len2 : Int)) ∧ ∃ row1 : List D, (Row Z2 v0 (Int.toNat n4) row1) ∧ ∃ n5 n6 : Int, ∃ b : Bool, ((List.take 3 row1) = ([.int .i64 n5, .int .i64 n6, .bool b] : List D)) ∧ ∀ R1 : Store → Prop, (∀ Z3, (∃ len3 : Nat, (Len d len3) ∧ ∃ I1 : Int → Store → Prop, ∃ μ1 : Int → Store → Nat, (I1 (len3 : Int) Z3) ∧ ∀ n7 : Int, ∀ Z4, (I1 n7 Z4) → bcase (decide (n7 > 0)) (∃ len4 : Nat, (Idx Try.prog Z4 d 1 len4) ∧ ((0 : Int) ≤ (w64 (n7 - 1))) ∧ ((w64 (n7 - 1)) < (len4 : Int)) ∧ ∃ row2 : List D, (Row Z4 d (Int.toNat (w64 (n7 - 1))) row2) ∧ ∃ n8 : Int, ((List.take 1 row2) = ([.int .i64 n8] : List D)) ∧ ∃ len5 : Nat, (Idx Try.prog Z4 table 3 len5) ∧ ((0 : Int) ≤ n8) ∧ (n8 < (len5 : Int)) ∧ ∃ row3 : List D, (Row Z4 table (Int.toNat n8) row3) ∧ ∃ n9 : Int, ((List.take 1 row3) = ([.int .i64 n9] : List D)) ∧ bcase (decide (n9 > n1)) ((([[.int .i64 n1, .int .i64 n2, .int .i64 n3]] : List (List D)) = ([[.int .i64 n1, .int .i64 n2, .int .i64 n3]] : List (List D))) ∧ (I1 (w64 (n7 - 1)) Z4) ∧ ((μ1 (w64 (n7 - 1)) Z4) < (μ1 n7 Z4))) (∃ len6 : Nat, (IdxN Try.prog Z4 d 1 len6) ∧ ((0 : Int) ≤ 0) ∧ ((0 : Int) ≤ n7) ∧ (n7 ≤ (len6 : Int)) ∧ appendTo Try.prog Z4 t_int 8 .nils (dsub d 0 (Int.toNat n7)) (fun d1 Z5 => Fw.newObj Z5 (.live t_int [[.int .i64 n]]) (fun id Z6 => appendTo Try.prog Z6 t_int 8 d1 (.osl id 0 1) (fun d2 Z7 => ∃ len7 : Nat, (IdxN Try.prog Z7 d 1 len7) ∧ ((0 : Int) ≤ n7) ∧ (n7 ≤ (len7 : Int)) ∧ appendTo Try.prog Z7 t_int 8 d2 (dsub d (Int.toNat n7) len7) (fun d3 Z8 => (I d3 (w64 (n + 1)) Z8) ∧ ((μ d3 (w64 (n + 1)) Z8) < (μ d n Z1)))))))) (∃ len4 : Nat, (IdxN Try.prog Z4 d 1 len4) ∧ ((0 : Int) ≤ 0) ∧ ((0 : Int) ≤ n7) ∧ (n7 ≤ (len4 : Int)) ∧ appendTo Try.prog Z4 t_int 8 .nils (dsub d 0 (Int.toNat n7)) (fun d1 Z5 => Fw.newObj Z5 (.live t_int [[.int .i64 n]]) (fun id Z6 => appendTo Try.prog Z6 t_int 8 d1 (.osl id 0 1) (fun d2 Z7 => ∃ len5 : Nat, (IdxN Try.prog Z7 d 1 len5) ∧ ((0 : Int) ≤ n7) ∧ (n7 ≤ (len5 : Int)) ∧ appendTo Try.prog Z7 t_int 8 d2 (dsub d (Int.toNat n7) len5) (fun d3 Z8 => (I d3 (w64 (n + 1)) Z8) ∧ ((μ d3 (w64 (n + 1)) Z8) < (μ d n Z1)))))))) → R1 Z3) → ∃ len3 : Nat, (Len done len3) ∧ bcase (decide (n < (len3 : Int))) (∃ len4 : Nat, (Idx Try.prog Z2 done 1 len4) ∧ ((0 : Int) ≤ n) ∧ (n < (len4 : Int)) ∧ ∃ row2 : List D, (Row Z2 done (Int.toNat n) row2) ∧ ∃ b1 : Bool, ((List.take 1 row2) = ([.bool b1] : List D)) ∧ bcase b1 ((I d (w64 (n + 1)) Z2) ∧ ((μ d (w64 (n + 1)) Z2) < (μ d n Z1))) (bcase (decide (n1 > now)) ((I d (w64 (n + 1)) Z2) ∧ ((μ d (w64 (n + 1)) Z2) < (μ d n Z1))) (∃ len5 : Nat, (Idx Try.prog Z2 k1 4 len5) ∧ ((0 : Int) ≤ n2) ∧ (n2 < (len5 : Int)) ∧ ∃ row3 : List D, (Row Z2 k1 (Int.toNat n2) row3) ∧ ∃ n7 : Int, ((List.take 1 row3) = ([.int .i64 n7] : List D)) ∧ bcase (n7 != 0) ((I d (w64 (n + 1)) Z2) ∧ ((μ d (w64 (n + 1)) Z2) < (μ d n Z1))) (bcase (!b) ((I d (w64 (n + 1)) Z2) ∧ ((μ d (w64 (n + 1)) Z2) < (μ d n Z1))) (bcase (n5 != 1) ((I d (w64 (n + 1)) Z2) ∧ ((μ d (w64 (n + 1)) Z2) < (μ d n Z1))) ((([[.int .i64 n1, .int .i64 n2, .int .i64 n3]] : List (List D)) = ([[.int .i64 n1, .int .i64 n2, .int .i64 n3]] : List (List D))) ∧ R1 Z2)))))) (bcase (decide (n1 > now)) ((I d (w64 (n + 1)) Z2) ∧ ((μ d (w64 (n + 1)) Z2) < (μ d n Z1))) (∃ len4 : Nat, (Idx Try.prog Z2 k1 4 len4) ∧ ((0 : Int) ≤ n2) ∧ (n2 < (len4 : Int)) ∧ ∃ row2 : List D, (Row Z2 k1 (Int.toNat n2) row2) ∧ ∃ n7 : Int, ((List.take 1 row2) = ([.int .i64 n7] : List D)) ∧ bcase (n7 != 0) ((I d (w64 (n + 1)) Z2) ∧ ((μ d (w64 (n + 1)) Z2) < (μ d n Z1))) (bcase (!b) ((I d (w64 (n + 1)) Z2) ∧ ((μ d (w64 (n + 1)) Z2) < (μ d n Z1))) (bcase (n5 != 1) ((I d (w64 (n + 1)) Z2) ∧ ((μ d (w64 (n + 1)) Z2) < (μ d n Z1))) ((([[.int .i64 n1, .int .i64 n2, .int .i64 n3]] : List (List D)) = ([[.int .i64 n1, .int .i64 n2, .int .i64 n3]] : List (List D))) ∧ R1 Z2))))))) (Qp (.a (.one d)) Z1)) → R Z) → DCalls Try.prog n_ref16_Check [.agg [c0, c1, c2, c3, c4, .int .i64 c5, .int .i64 c6, .int .i64 c7, .int .i64 c8], .one table] σ (fun r Z => ∃ n : Int, (r = (.a (.one (.int .i64 n)) : RV)) ∧ bcase (n != 0) (Qp (.a (.one .nils)) Z) (DCalls Try.prog n_ref13_Fits [.agg [c0, c1, c2, c3, c4, .int .i64 c5, .int .i64 c6, .int .i64 c7, .int .i64 c8], .agg [k0, k1, k2, k3, k4, k5, .bool k6]] Z (fun r1 Z1 => ∃ b : Bool, (r1 = (.a (.one (.bool b)) : RV)) ∧ bcase (!b) (Qp (.a (.one .nils)) Z1) (DCalls Try.prog n_ref14_Seen [.agg [c0, c1, c2, c3, c4, .int .i64 c5, .int .i64 c6, .int .i64 c7, .int .i64 c8], .agg [v0, v1, v2, v3]] Z1 (fun r2 Z2 => ∃ b1 : Bool, (r2 = (.a (.one (.bool b1)) : RV)) ∧ bcase (!b1) (Qp (.a (.one .nils)) Z2) (R Z2))))))
theorem W_ref16_Due (c0 : D) (c1 : D) (c2 : D) (c3 : D) (c4 : D) (c5 : Int) (c6 : Int) (c7 : Int) (c8 : Int) (k0 : D) (k1 : D) (k2 : D) (k3 : D) (k4 : D) (k5 : D) (k6 : Bool) (v0 : D) (v1 : D) (v2 : D) (v3 : D) (now : Int) (done : D) (table : D) (σ : Store) (Qp : RV → Store → Prop) (h : V_ref16_Due c0 c1 c2 c3 c4 c5 c6 c7 c8 k0 k1 k2 k3 k4 k5 k6 v0 v1 v2 v3 now done table σ Qp) : DCalls Try.prog n_ref16_Due [.agg [c0, c1, c2, c3, c4, .int .i64 c5, .int .i64 c6, .int .i64 c7, .int .i64 c8], .agg [k0, k1, k2, k3, k4, k5, .bool k6], .agg [v0, v1, v2, v3], .one (.int .i64 now), .one done, .one table] σ Qp :=
 dcalls_of_body mixed (by kernel_rfl) Try.func9 an_ref16_Due (Eq.mp (by kernel_rfl) h)
def an_conf_Check : Ann := { esc := [], cbs := [1], draws := [], loops := [(11, { mods := [(33, SlotSh.one (Sh.int IntKind.i64))], keep := [1, 3, 31, 32] })], joins := [] }
def V_conf_Check (c0 : D) (c1 : D) (c2 : D) (c3 : D) (c4 : D) (c5 : Int) (c6 : Int) (c7 : Int) (c8 : Int) (σ : Store) (Qp : RV → Store → Prop) : Prop :=
 DCalls Try.prog n_topo_Check [.one c0, .one c1] σ (fun r Z => ∃ n : Int, (r = (.a (.one (.int .i64 n)) : RV)) ∧ bcase (n != 0) (Qp (.a (.one (.int .i64 6))) Z) (DCalls Try.prog n_conf_plan_signals [.agg [c0, c1, c2, c3, c4, .int .i64 c5, .int .i64 c6, .int .i64 c7, .int .i64 c8]] Z (fun r1 Z1 => ∃ b : Bool, (r1 = (.a (.one (.bool b)) : RV)) ∧ bcase (!b) (Qp (.a (.one (.int .i64 7))) Z1) (DCalls Try.prog n_conf_plan_crossings [.agg [c0, c1, c2, c3, c4, .int .i64 c5, .int .i64 c6, .int .i64 c7, .int .i64 c8]] Z1 (fun r2 Z2 => ∃ b1 : Bool, (r2 = (.a (.one (.bool b1)) : RV)) ∧ bcase (!b1) (Qp (.a (.one (.int .i64 8))) Z2) (∃ len : Nat, (Len c4 len) ∧ bcase (decide ((len : Int) > 12)) (Qp (.a (.one (.int .i64 9))) Z2) (∃ len1 : Nat, (Len c4 len1) ∧ ∃ I : Int → Store → Prop, ∃ μ : Int → Store → Nat, (I 0 Z2) ∧ ∀ n1 : Int, ∀ Z3, (I n1 Z3) → bcase (decide (n1 < (len1 : Int))) (∃ len2 : Nat, (Idx Try.prog Z3 c4 6 len2) ∧ ((0 : Int) ≤ n1) ∧ (n1 < (len2 : Int)) ∧ ∃ row : List D, (Row Z3 c4 (Int.toNat n1) row) ∧ ∃ n2 n3 : Int, ∃ d d1 d2 : D, ∃ b2 : Bool, ((List.take 6 row) = ([.int .i64 n2, .int .i64 n3, d, d1, d2, .bool b2] : List D)) ∧ DCalls Try.prog n_conf_plan_route [.agg [c0, c1, c2, c3, c4, .int .i64 c5, .int .i64 c6, .int .i64 c7, .int .i64 c8], .agg [.int .i64 n2, .int .i64 n3, d, d1, d2, .bool b2]] Z3 (fun r3 Z4 => ∃ n4 : Int, (r3 = (.a (.one (.int .i64 n4)) : RV)) ∧ bcase (n4 != 0) (Qp (.a (.one (.int .i64 n4))) Z4) ((([[c0, c1, c2, c3, c4, .int .i64 c5, .int .i64 c6, .int .i64 c7, .int .i64 c8]] : List (List D)) = ([[c0, c1, c2, c3, c4, .int .i64 c5, .int .i64 c6, .int .i64 c7, .int .i64 c8]] : List (List D))) ∧ (I (w64 (n1 + 1)) Z4) ∧ ((μ (w64 (n1 + 1)) Z4) < (μ n1 Z3))))) (DCalls Try.prog n_conf_between [.one (.int .i64 c5), .one (.int .i64 1), .one (.int .i64 8)] Z3 (fun r3 Z4 => ∃ b2 : Bool, (r3 = (.a (.one (.bool b2)) : RV)) ∧ bcase (!b2) (Qp (.a (.one (.int .i64 12))) Z4) (DCalls Try.prog n_conf_between [.one (.int .i64 c6), .one (.int .i64 0), .one (.int .i64 8)] Z4 (fun r4 Z5 => ∃ b3 : Bool, (r4 = (.a (.one (.bool b3)) : RV)) ∧ bcase (!b3) (Qp (.a (.one (.int .i64 12))) Z5) (DCalls Try.prog n_conf_between [.one (.int .i64 c7), .one (.int .i64 (w64 ((w64 (c5 + c6)) + 1))), .one (.int .i64 40)] Z5 (fun r5 Z6 => ∃ b4 : Bool, (r5 = (.a (.one (.bool b4)) : RV)) ∧ bcase (!b4) (Qp (.a (.one (.int .i64 12))) Z6) (DCalls Try.prog n_conf_between [.one (.int .i64 c8), .one (.int .i64 1), .one (.int .i64 1000000)] Z6 (fun r6 Z7 => ∃ b5 : Bool, (r6 = (.a (.one (.bool b5)) : RV)) ∧ bcase (!b5) (Qp (.a (.one (.int .i64 12))) Z7) (Qp (.a (.one (.int .i64 0))) Z7))))))))))))))))
theorem W_conf_Check (c0 : D) (c1 : D) (c2 : D) (c3 : D) (c4 : D) (c5 : Int) (c6 : Int) (c7 : Int) (c8 : Int) (σ : Store) (Qp : RV → Store → Prop) (h : V_conf_Check c0 c1 c2 c3 c4 c5 c6 c7 c8 σ Qp) : DCalls Try.prog n_conf_Check [.agg [c0, c1, c2, c3, c4, .int .i64 c5, .int .i64 c6, .int .i64 c7, .int .i64 c8]] σ Qp :=
 dcalls_of_body mixed (by kernel_rfl) Try.func17 an_conf_Check (Eq.mp (by kernel_rfl) h)
def an_locks_Fits : Ann := { esc := [], cbs := [2, 3], draws := [(13, { ord := [0, 1, 2, 3, 4, 5, 6, 7, 8, 9, 10, 11, 12, 13, 14, 15, 16, 17, 18, 19, 20, 21, 22, 23, 24, 25], nb := [], av := [], dir := [] })], loops := [(5, { mods := [(68, SlotSh.one (Sh.int IntKind.i64))], keep := [2, 3, 66, 67] }), (11, { mods := [(82, SlotSh.one (Sh.int IntKind.i64))], keep := [2, 3, 80, 81] }), (17, { mods := [(121, SlotSh.one (Sh.int IntKind.i64))], keep := [3, 119, 120] }), (23, { mods := [(139, SlotSh.one (Sh.int IntKind.i64))], keep := [3, 137, 138] })], joins := [(4, { mods := [], keep := [2, 3] })] }
def V_locks_Fits (c0 : D) (c1 : D) (c2 : D) (c3 : D) (c4 : D) (c5 : Int) (c6 : Int) (c7 : Int) (c8 : Int) (k0 : D) (k1 : D) (k2 : D) (k3 : D) (k4 : D) (k5 : D) (k6 : Bool) (σ : Store) (Qp : RV → Store → Prop) : Prop :=
 ∃ len : Nat, (Len c0 len) ∧ ∀ R : Store → Prop, (∀ Z, (∃ len1 : Nat, (Len k0 len1) ∧ ∃ I : Int → Store → Prop, ∃ μ : Int → Store → Nat, (I 0 Z) ∧ ∀ n : Int, ∀ Z1, (I n Z1) → bcase (decide (n < (len1 : Int))) (∃ len2 : Nat, (Idx Try.prog Z1 k0 1 len2) ∧ ((0 : Int) ≤ n) ∧ (n < (len2 : Int)) ∧ ∃ row : List D, (Row Z1 k0 (Int.toNat n) row) ∧ ∃ n1 : Int, ((List.take 1 row) = ([.int .i64 n1] : List D)) ∧ ∃ len3 : Nat, (Len c4 len3) ∧ DCalls Try.prog n_locks_between [.one (.int .i64 n1), .one (.int .i64 (-2)), .one (.int .i64 (len3 : Int))] Z1 (fun r Z2 => ∃ b : Bool, (r = (.a (.one (.bool b)) : RV)) ∧ bcase (!b) (Qp (.a (.one (.bool false))) Z2) ((I (w64 (n + 1)) Z2) ∧ ((μ (w64 (n + 1)) Z2) < (μ n Z1))))) (∃ len2 : Nat, (Len k1 len2) ∧ ∃ I1 : Int → Store → Prop, ∃ μ1 : Int → Store → Nat, (I1 0 Z1) ∧ ∀ n1 : Int, ∀ Z2, (I1 n1 Z2) → bcase (decide (n1 < (len2 : Int))) (∃ len3 : Nat, (Idx Try.prog Z2 k1 4 len3) ∧ ((0 : Int) ≤ n1) ∧ (n1 < (len3 : Int)) ∧ ∃ row : List D, (Row Z2 k1 (Int.toNat n1) row) ∧ ∃ n2 n3 n4 n5 : Int, ((List.take 4 row) = ([.int .i64 n2, .int .i64 n3, .int .i64 n4, .int .i64 n5] : List D)) ∧ DCalls Try.prog n_locks_between [.one (.int .i64 n2), .one (.int .i64 0), .one (.int .i64 5)] Z2 (fun r Z3 => ∃ b : Bool, (r = (.a (.one (.bool b)) : RV)) ∧ bcase (!b) (Qp (.a (.one (.bool false))) Z3) (∃ len4 : Nat, (Idx Try.prog Z3 c4 6 len4) ∧ ((0 : Int) ≤ n1) ∧ (n1 < (len4 : Int)) ∧ ∃ row1 : List D, (Row Z3 c4 (Int.toNat n1) row1) ∧ ∃ d : D, ((List.take 1 (List.drop 2 row1)) = ([d] : List D)) ∧ ∃ len5 : Nat, (Len d len5) ∧ DCalls Try.prog n_locks_between [.one (.int .i64 n4), .one (.int .i64 0), .one (.int .i64 (len5 : Int))] Z3 (fun r1 Z4 => ∃ b1 : Bool, (r1 = (.a (.one (.bool b1)) : RV)) ∧ bcase (!b1) (Qp (.a (.one (.bool false))) Z4) (Fw.newObj Z4 (.live t_int [[.int .i64 n3], [.int .i64 n5]]) (fun id Z5 => DCalls Try.prog n_locks_times [.one (.int .i64 0), .one (.osl id 0 2)] Z5 (fun r2 Z6 => ∃ b2 : Bool, (r2 = (.a (.one (.bool b2)) : RV)) ∧ bcase (!b2) (Qp (.a (.one (.bool false))) Z6) ((I1 (w64 (n1 + 1)) Z6) ∧ ((μ1 (w64 (n1 + 1)) Z6) < (μ1 n1 Z2)))))))))) (Fw.newObj Z2 (.live t_sl_Mover [[k2], [k3]]) (fun id Z3 => DCalls Try.prog n_slices_Concat_Mover [.one (.osl id 0 2)] Z3 (fun r Z4 => ∃ d : D, (r = (.a (.one d) : RV)) ∧ ∃ len3 : Nat, (Len d len3) ∧ ∃ I2 : Int → Store → Prop, ∃ μ2 : Int → Store → Nat, (I2 0 Z4) ∧ ∀ n2 : Int, ∀ Z5, (I2 n2 Z5) → bcase (decide (n2 < (len3 : Int))) (∃ len4 : Nat, (Idx Try.prog Z5 d 2 len4) ∧ ((0 : Int) ≤ n2) ∧ (n2 < (len4 : Int)) ∧ ∃ row : List D, (Row Z5 d (Int.toNat n2) row) ∧ ∃ n3 n4 : Int, ((List.take 2 row) = ([.int .i64 n3, .int .i64 n4] : List D)) ∧ DCalls Try.prog n_locks_between [.one (.int .i64 n3), .one (.int .i64 0), .one (.int .i64 2)] Z5 (fun r1 Z6 => ∃ b : Bool, (r1 = (.a (.one (.bool b)) : RV)) ∧ bcase (!b) (Qp (.a (.one (.bool false))) Z6) (DCalls Try.prog n_locks_between [.one (.int .i64 n4), .one (.int .i64 (-1)), .one (.int .i64 4294967295)] Z6 (fun r2 Z7 => ∃ b1 : Bool, (r2 = (.a (.one (.bool b1)) : RV)) ∧ bcase (!b1) (Qp (.a (.one (.bool false))) Z7) ((I2 (w64 (n2 + 1)) Z7) ∧ ((μ2 (w64 (n2 + 1)) Z7) < (μ2 n2 Z5))))))) (∃ len4 : Nat, (Len k4 len4) ∧ ∃ I3 : Int → Store → Prop, ∃ μ3 : Int → Store → Nat, (I3 0 Z5) ∧ ∀ n3 : Int, ∀ Z6, (I3 n3 Z6) → bcase (decide (n3 < (len4 : Int))) (∃ len5 : Nat, (Idx Try.prog Z6 k4 8 len5) ∧ ((0 : Int) ≤ n3) ∧ (n3 < (len5 : Int)) ∧ ∃ row : List D, (Row Z6 k4 (Int.toNat n3) row) ∧ ∃ n4 n5 n6 n7 n8 n9 n10 n11 : Int, ((List.take 8 row) = ([.int .i64 n4, .int .i64 n5, .int .i64 n6, .int .i64 n7, .int .i64 n8, .int .i64 n9, .int .i64 n10, .int .i64 n11] : List D)) ∧ Fw.newObj Z6 (.live t_int [[.int .i64 n4], [.int .i64 n5], [.int .i64 n6], [.int .i64 n7], [.int .i64 n8], [.int .i64 n9], [.int .i64 n10]]) (fun id1 Z7 => DCalls Try.prog n_locks_times [.one (.int .i64 0), .one (.osl id1 0 7)] Z7 (fun r1 Z8 => ∃ b : Bool, (r1 = (.a (.one (.bool b)) : RV)) ∧ bcase (!b) (Qp (.a (.one (.bool false))) Z8) (Fw.newObj Z8 (.live t_int [[.int .i64 n11]]) (fun id2 Z9 => DCalls Try.prog n_locks_times [.one (.int .i64 1), .one (.osl id2 0 1)] Z9 (fun r2 Z10 => ∃ b1 : Bool, (r2 = (.a (.one (.bool b1)) : RV)) ∧ bcase (!b1) (Qp (.a (.one (.bool false))) Z10) ((I3 (w64 (n3 + 1)) Z10) ∧ ((μ3 (w64 (n3 + 1)) Z10) < (μ3 n3 Z6))))))))) (DCalls Try.prog n_locks_times [.one (.int .i64 1), .one k5] Z6 (fun r1 Z7 => ∃ b : Bool, (r1 = (.a (.one (.bool b)) : RV)) ∧ Qp (.a (.one (.bool b))) Z7)))))))) → R Z) → DCalls Try.prog n_conf_Check [.agg [c0, c1, c2, c3, c4, .int .i64 c5, .int .i64 c6, .int .i64 c7, .int .i64 c8]] σ (fun r Z => ∃ n : Int, (r = (.a (.one (.int .i64 n)) : RV)) ∧ bcase (n != 0) (Qp (.a (.one (.bool false))) Z) (∃ len1 : Nat, (Len k0 len1) ∧ bcase ((len1 : Int) != (len : Int)) (Qp (.a (.one (.bool false))) Z) (∃ len2 : Nat, (Len k2 len2) ∧ bcase ((len2 : Int) != (len : Int)) (Qp (.a (.one (.bool false))) Z) (∃ len3 : Nat, (Len k5 len3) ∧ bcase ((len3 : Int) != (len : Int)) (Qp (.a (.one (.bool false))) Z) (∃ len4 : Nat, (Len k1 len4) ∧ ∃ len5 : Nat, (Len c4 len5) ∧ bcase ((len4 : Int) != (len5 : Int)) (Qp (.a (.one (.bool false))) Z) (∃ len6 : Nat, (Len k3 len6) ∧ ∃ len7 : Nat, (Len c3 len7) ∧ bcase ((len6 : Int) != (len7 : Int)) (Qp (.a (.one (.bool false))) Z) (∃ len8 : Nat, (Len k4 len8) ∧ bcase ((len8 : Int) != 4) (Qp (.a (.one (.bool false))) Z) (R Z))))))))
theorem W_locks_Fits (c0 : D) (c1 : D) (c2 : D) (c3 : D) (c4 : D) (c5 : Int) (c6 : Int) (c7 : Int) (c8 : Int) (k0 : D) (k1 : D) (k2 : D) (k3 : D) (k4 : D) (k5 : D) (k6 : Bool) (σ : Store) (Qp : RV → Store → Prop) (h : V_locks_Fits c0 c1 c2 c3 c4 c5 c6 c7 c8 k0 k1 k2 k3 k4 k5 k6 σ Qp) : DCalls Try.prog n_locks_Fits [.agg [c0, c1, c2, c3, c4, .int .i64 c5, .int .i64 c6, .int .i64 c7, .int .i64 c8], .agg [k0, k1, k2, k3, k4, k5, .bool k6]] σ Qp :=
 dcalls_of_body mixed (by kernel_rfl) Try.func21 an_locks_Fits (Eq.mp (by kernel_rfl) h)
def an_ref13_Fits : Ann := { esc := [], cbs := [2, 3], draws := [(13, { ord := [0, 1, 2, 3, 4, 5, 6, 7, 8, 9, 10, 11, 12, 13, 14, 15, 16, 17, 18, 19, 20, 21, 22, 23, 24, 25, 26, 27, 28, 29, 30, 31, 32, 33, 34, 35, 36], nb := [], av := [], dir := [] }), (16, { ord := [1, 2, 4, 5, 8, 0, 3, 6, 7], nb := [2, 5], av := [], dir := [] })], loops := [(5, { mods := [(70, SlotSh.one (Sh.int IntKind.i64))], keep := [2, 3, 68, 69] }), (11, { mods := [(87, SlotSh.one (Sh.int IntKind.i64))], keep := [2, 3, 85, 86] }), (17, { mods := [(138, SlotSh.one (Sh.int IntKind.i64))], keep := [3, 136, 137] }), (23, { mods := [(165, SlotSh.one (Sh.int IntKind.i64))], keep := [3, 163, 164] }), (29, { mods := [(179, SlotSh.one (Sh.int IntKind.i64))], keep := [177, 178] })], joins := [(4, { mods := [], keep := [2, 3] })] }
def V_ref13_Fits (c0 : D) (c1 : D) (c2 : D) (c3 : D) (c4 : D) (c5 : Int) (c6 : Int) (c7 : Int) (c8 : Int) (k0 : D) (k1 : D) (k2 : D) (k3 : D) (k4 : D) (k5 : D) (k6 : Bool) (σ : Store) (Qp : RV → Store → Prop) : Prop :=
 ∃ len : Nat, (Len c0 len) ∧ ∀ R : Store → Prop, (∀ Z, (∃ len1 : Nat, (Len k0 len1) ∧ ∃ I : Int → Store → Prop, ∃ μ : Int → Store → Nat, (I 0 Z) ∧ ∀ n : Int, ∀ Z1, (I n Z1) → bcase (decide (n < (len1 : Int))) (∃ len2 : Nat, (Idx Try.prog Z1 k0 1 len2) ∧ ((0 : Int) ≤ n) ∧ (n < (len2 : Int)) ∧ ∃ row : List D, (Row Z1 k0 (Int.toNat n) row) ∧ ∃ n1 : Int, ((List.take 1 row) = ([.int .i64 n1] : List D)) ∧ bcase (decide (n1 < (-2))) (Qp (.a (.one (.bool false))) Z1) (∃ len3 : Nat, (Len c4 len3) ∧ bcase (decide (n1 > (len3 : Int))) (Qp (.a (.one (.bool false))) Z1) ((I (w64 (n + 1)) Z1) ∧ ((μ (w64 (n + 1)) Z1) < (μ n Z1))))) (∃ len2 : Nat, (Len k1 len2) ∧ ∃ I1 : Int → Store → Prop, ∃ μ1 : Int → Store → Nat, (I1 0 Z1) ∧ ∀ n1 : Int, ∀ Z2, (I1 n1 Z2) → bcase (decide (n1 < (len2 : Int))) (∃ len3 : Nat, (Idx Try.prog Z2 k1 4 len3) ∧ ((0 : Int) ≤ n1) ∧ (n1 < (len3 : Int)) ∧ ∃ row : List D, (Row Z2 k1 (Int.toNat n1) row) ∧ ∃ n2 n3 n4 n5 : Int, ((List.take 4 row) = ([.int .i64 n2, .int .i64 n3, .int .i64 n4, .int .i64 n5] : List D)) ∧ bcase (decide (n2 < 0)) (Qp (.a (.one (.bool false))) Z2) (bcase (decide (n2 > 5)) (Qp (.a (.one (.bool false))) Z2) (bcase (decide (n4 < 0)) (Qp (.a (.one (.bool false))) Z2) (∃ len4 : Nat, (Idx Try.prog Z2 c4 6 len4) ∧ ((0 : Int) ≤ n1) ∧ (n1 < (len4 : Int)) ∧ ∃ row1 : List D, (Row Z2 c4 (Int.toNat n1) row1) ∧ ∃ d : D, ((List.take 1 (List.drop 2 row1)) = ([d] : List D)) ∧ ∃ len5 : Nat, (Len d len5) ∧ bcase (decide (n4 > (len5 : Int))) (Qp (.a (.one (.bool false))) Z2) (DCalls Try.prog n_ref13_Time [.one (.int .i64 n3)] Z2 (fun r Z3 => ∃ b : Bool, (r = (.a (.one (.bool b)) : RV)) ∧ bcase (!b) (Qp (.a (.one (.bool false))) Z3) (DCalls Try.prog n_ref13_Time [.one (.int .i64 n5)] Z3 (fun r1 Z4 => ∃ b1 : Bool, (r1 = (.a (.one (.bool b1)) : RV)) ∧ bcase (!b1) (Qp (.a (.one (.bool false))) Z4) ((I1 (w64 (n1 + 1)) Z4) ∧ ((μ1 (w64 (n1 + 1)) Z4) < (μ1 n1 Z2))))))))))) (Fw.newObj Z2 (.live t_Mover []) (fun id Z3 => appendTo Try.prog Z3 t_Mover 16 (.osl id 0 0) k2 (fun d Z4 => appendTo Try.prog Z4 t_Mover 16 d k3 (fun d1 Z5 => ∃ len3 : Nat, (Len d1 len3) ∧ ∃ I2 : Int → Store → Prop, ∃ μ2 : Int → Store → Nat, (I2 0 Z5) ∧ ∀ n2 : Int, ∀ Z6, (I2 n2 Z6) → bcase (decide (n2 < (len3 : Int))) (∃ len4 : Nat, (Idx Try.prog Z6 d1 2 len4) ∧ ((0 : Int) ≤ n2) ∧ (n2 < (len4 : Int)) ∧ ∃ row : List D, (Row Z6 d1 (Int.toNat n2) row) ∧ ∃ n3 n4 : Int, ((List.take 2 row) = ([.int .i64 n3, .int .i64 n4] : List D)) ∧ bcase (decide (n3 < 0)) (Qp (.a (.one (.bool false))) Z6) (bcase (decide (n3 > 2)) (Qp (.a (.one (.bool false))) Z6) (bcase (n4 != (-1)) (DCalls Try.prog n_ref13_Time [.one (.int .i64 n4)] Z6 (fun r Z7 => ∃ b : Bool, (r = (.a (.one (.bool b)) : RV)) ∧ bcase (!b) (Qp (.a (.one (.bool false))) Z7) ((I2 (w64 (n2 + 1)) Z7) ∧ ((μ2 (w64 (n2 + 1)) Z7) < (μ2 n2 Z6))))) ((I2 (w64 (n2 + 1)) Z6) ∧ ((μ2 (w64 (n2 + 1)) Z6) < (μ2 n2 Z6)))))) (∃ len4 : Nat, (Len k5 len4) ∧ ∃ I3 : Int → Store → Prop, ∃ μ3 : Int → Store → Nat, (I3 0 Z6) ∧ ∀ n3 : Int, ∀ Z7, (I3 n3 Z7) → bcase (decide (n3 < (len4 : Int))) (∃ len5 : Nat, (Idx Try.prog Z7 k5 1 len5) ∧ ((0 : Int) ≤ n3) ∧ (n3 < (len5 : Int)) ∧ ∃ row : List D, (Row Z7 k5 (Int.toNat n3) row) ∧ ∃ n4 : Int, ((List.take 1 row) = ([.int .i64 n4] : List D)) ∧ bcase (decide (n4 < 0)) (Qp (.a (.one (.bool false))) Z7) (bcase (decide (n4 > 4294967296)) (Qp (.a (.one (.bool false))) Z7) ((I3 (w64 (n3 + 1)) Z7) ∧ ((μ3 (w64 (n3 + 1)) Z7) < (μ3 n3 Z7))))) (∃ len5 : Nat, (Len k4 len5) ∧ ∃ I4 : Int → Store → Prop, ∃ μ4 : Int → Store → Nat, (I4 0 Z7) ∧ ∀ n4 : Int, ∀ Z8, (I4 n4 Z8) → bcase (decide (n4 < (len5 : Int))) (∃ len6 : Nat, (Idx Try.prog Z8 k4 8 len6) ∧ ((0 : Int) ≤ n4) ∧ (n4 < (len6 : Int)) ∧ ∃ row : List D, (Row Z8 k4 (Int.toNat n4) row) ∧ ∃ n5 n6 n7 n8 n9 n10 n11 n12 : Int, ((List.take 8 row) = ([.int .i64 n5, .int .i64 n6, .int .i64 n7, .int .i64 n8, .int .i64 n9, .int .i64 n10, .int .i64 n11, .int .i64 n12] : List D)) ∧ DCalls Try.prog n_ref13_Time [.one (.int .i64 n5)] Z8 (fun r Z9 => ∃ b : Bool, (r = (.a (.one (.bool b)) : RV)) ∧ bcase (!b) (Qp (.a (.one (.bool false))) Z9) (DCalls Try.prog n_ref13_Time [.one (.int .i64 n6)] Z9 (fun r1 Z10 => ∃ b1 : Bool, (r1 = (.a (.one (.bool b1)) : RV)) ∧ bcase (!b1) (Qp (.a (.one (.bool false))) Z10) (DCalls Try.prog n_ref13_Time [.one (.int .i64 n7)] Z10 (fun r2 Z11 => ∃ b2 : Bool, (r2 = (.a (.one (.bool b2)) : RV)) ∧ bcase (!b2) (Qp (.a (.one (.bool false))) Z11) (DCalls Try.prog n_ref13_Time [.one (.int .i64 n8)] Z11 (fun r3 Z12 => ∃ b3 : Bool, (r3 = (.a (.one (.bool b3)) : RV)) ∧ bcase (!b3) (Qp (.a (.one (.bool false))) Z12) (DCalls Try.prog n_ref13_Time [.one (.int .i64 n9)] Z12 (fun r4 Z13 => ∃ b4 : Bool, (r4 = (.a (.one (.bool b4)) : RV)) ∧ bcase (!b4) (Qp (.a (.one (.bool false))) Z13) (DCalls Try.prog n_ref13_Time [.one (.int .i64 n10)] Z13 (fun r5 Z14 => ∃ b5 : Bool, (r5 = (.a (.one (.bool b5)) : RV)) ∧ bcase (!b5) (Qp (.a (.one (.bool false))) Z14) (DCalls Try.prog n_ref13_Time [.one (.int .i64 n11)] Z14 (fun r6 Z15 => ∃ b6 : Bool, (r6 = (.a (.one (.bool b6)) : RV)) ∧ bcase (!b6) (Qp (.a (.one (.bool false))) Z15) (bcase (decide (n12 < 0)) (Qp (.a (.one (.bool false))) Z15) (bcase (decide (n12 > 4294967296)) (Qp (.a (.one (.bool false))) Z15) ((I4 (w64 (n4 + 1)) Z15) ∧ ((μ4 (w64 (n4 + 1)) Z15) < (μ4 n4 Z8))))))))))))))))))) (Qp (.a (.one (.bool true))) Z8))))))))) → R Z) → DCalls Try.prog n_ref06_Check [.agg [c0, c1, c2, c3, c4, .int .i64 c5, .int .i64 c6, .int .i64 c7, .int .i64 c8]] σ (fun r Z => ∃ n : Int, (r = (.a (.one (.int .i64 n)) : RV)) ∧ bcase (n != 0) (Qp (.a (.one (.bool false))) Z) (∃ len1 : Nat, (Len k0 len1) ∧ bcase ((len1 : Int) != (len : Int)) (Qp (.a (.one (.bool false))) Z) (∃ len2 : Nat, (Len k2 len2) ∧ bcase ((len2 : Int) != (len : Int)) (Qp (.a (.one (.bool false))) Z) (∃ len3 : Nat, (Len k5 len3) ∧ bcase ((len3 : Int) != (len : Int)) (Qp (.a (.one (.bool false))) Z) (∃ len4 : Nat, (Len k1 len4) ∧ ∃ len5 : Nat, (Len c4 len5) ∧ bcase ((len4 : Int) != (len5 : Int)) (Qp (.a (.one (.bool false))) Z) (∃ len6 : Nat, (Len k3 len6) ∧ ∃ len7 : Nat, (Len c3 len7) ∧ bcase ((len6 : Int) != (len7 : Int)) (Qp (.a (.one (.bool false))) Z) (∃ len8 : Nat, (Len k4 len8) ∧ bcase ((len8 : Int) != 4) (Qp (.a (.one (.bool false))) Z) (R Z))))))))
theorem W_ref13_Fits (c0 : D) (c1 : D) (c2 : D) (c3 : D) (c4 : D) (c5 : Int) (c6 : Int) (c7 : Int) (c8 : Int) (k0 : D) (k1 : D) (k2 : D) (k3 : D) (k4 : D) (k5 : D) (k6 : Bool) (σ : Store) (Qp : RV → Store → Prop) (h : V_ref13_Fits c0 c1 c2 c3 c4 c5 c6 c7 c8 k0 k1 k2 k3 k4 k5 k6 σ Qp) : DCalls Try.prog n_ref13_Fits [.agg [c0, c1, c2, c3, c4, .int .i64 c5, .int .i64 c6, .int .i64 c7, .int .i64 c8], .agg [k0, k1, k2, k3, k4, k5, .bool k6]] σ Qp :=
 dcalls_of_body mixed (by kernel_rfl) Try.func25 an_ref13_Fits (Eq.mp (by kernel_rfl) h)
def an_conf_plan_route : Ann := { esc := [], cbs := [2, 3], draws := [(3, { ord := [0, 1, 2, 3, 4, 6, 7, 5, 8, 9, 10, 11], nb := [1, 2, 7], av := [], dir := [] }), (5, { ord := [0, 1, 2, 3, 4, 5, 6, 7], nb := [1], av := [], dir := [] })], loops := [], joins := [] }
def V_conf_plan_route (p0 : D) (p1 : D) (p2 : D) (p3 : D) (p4 : D) (p5 : Int) (p6 : Int) (p7 : Int) (p8 : Int) (r0 : Int) (r1 : Int) (r2 : D) (r3 : D) (r4 : D) (r5 : Bool) (σ : Store) (Qp : RV → Store → Prop) : Prop :=
 DCalls Try.prog n_conf_plan_path [.agg [p0, p1, p2, p3, p4, .int .i64 p5, .int .i64 p6, .int .i64 p7, .int .i64 p8], .agg [.int .i64 r0, .int .i64 r1, r2, r3, r4, .bool r5]] σ (fun r Z => ∃ b : Bool, (r = (.a (.one (.bool b)) : RV)) ∧ bcase (!b) (Qp (.a (.one (.int .i64 9))) Z) (DCalls Try.prog n_conf_plan_approach [.agg [p0, p1, p2, p3, p4, .int .i64 p5, .int .i64 p6, .int .i64 p7, .int .i64 p8], .agg [.int .i64 r0, .int .i64 r1, r2, r3, r4, .bool r5]] Z (fun r6 Z1 => ∃ n : Int, (r6 = (.a (.one (.int .i64 n)) : RV)) ∧ DCalls Try.prog n_conf_plan_flank [.agg [p0, p1, p2, p3, p4, .int .i64 p5, .int .i64 p6, .int .i64 p7, .int .i64 p8], .one (.int .i64 n), .one r2] Z1 (fun r7 Z2 => ∃ d : D, (r7 = (.a (.one d) : RV)) ∧ DCalls Try.prog n_slices_Equal_Need [.one r3, .one d] Z2 (fun r8 Z3 => ∃ b1 : Bool, (r8 = (.a (.one (.bool b1)) : RV)) ∧ bcase (!b1) (Qp (.a (.one (.int .i64 10))) Z3) (DCalls Try.prog n_conf_plan_overlap [.agg [p0, p1, p2, p3, p4, .int .i64 p5, .int .i64 p6, .int .i64 p7, .int .i64 p8], .agg [.int .i64 r0, .int .i64 r1, r2, r3, r4, .bool r5]] Z3 (fun r9 Z4 => ∃ d1 : D, (r9 = (.a (.one d1) : RV)) ∧ DCalls Try.prog n_slices_Equal_int [.one r4, .one d1] Z4 (fun r10 Z5 => ∃ b2 : Bool, (r10 = (.a (.one (.bool b2)) : RV)) ∧ bcase (!b2) (Qp (.a (.one (.int .i64 11))) Z5) (Qp (.a (.one (.int .i64 0))) Z5)))))))))
theorem W_conf_plan_route (p0 : D) (p1 : D) (p2 : D) (p3 : D) (p4 : D) (p5 : Int) (p6 : Int) (p7 : Int) (p8 : Int) (r0 : Int) (r1 : Int) (r2 : D) (r3 : D) (r4 : D) (r5 : Bool) (σ : Store) (Qp : RV → Store → Prop) (h : V_conf_plan_route p0 p1 p2 p3 p4 p5 p6 p7 p8 r0 r1 r2 r3 r4 r5 σ Qp) : DCalls Try.prog n_conf_plan_route [.agg [p0, p1, p2, p3, p4, .int .i64 p5, .int .i64 p6, .int .i64 p7, .int .i64 p8], .agg [.int .i64 r0, .int .i64 r1, r2, r3, r4, .bool r5]] σ Qp :=
 dcalls_of_body mixed (by kernel_rfl) Try.func37 an_conf_plan_route (Eq.mp (by kernel_rfl) h)
def an_ref06_crossings : Ann := { esc := [], cbs := [1], draws := [], loops := [(2, { mods := [(8, SlotSh.one (Sh.int IntKind.i64))], keep := [1, 6, 7] })], joins := [] }
def V_ref06_crossings (c0 : D) (c1 : D) (c2 : D) (c3 : D) (c4 : D) (c5 : Int) (c6 : Int) (c7 : Int) (c8 : Int) (σ : Store) (Qp : RV → Store → Prop) : Prop :=
 ∃ len : Nat, (Len c3 len) ∧ ∃ I : Int → Store → Prop, ∃ μ : Int → Store → Nat, (I 0 σ) ∧ ∀ n : Int, ∀ Z, (I n Z) → bcase (decide (n < (len : Int))) (∃ len1 : Nat, (Idx Try.prog Z c3 1 len1) ∧ ((0 : Int) ≤ n) ∧ (n < (len1 : Int)) ∧ ∃ row : List D, (Row Z c3 (Int.toNat n) row) ∧ ∃ n1 : Int, ((List.take 1 row) = ([.int .i64 n1] : List D)) ∧ DCalls Try.prog n_ref06_kind [.agg [c0, c1, c2, c3, c4, .int .i64 c5, .int .i64 c6, .int .i64 c7, .int .i64 c8], .one (.int .i64 n1)] Z (fun r Z1 => ∃ n2 : Int, (r = (.a (.one (.int .i64 n2)) : RV)) ∧ bcase (decide (n2 < 0)) (Qp (.a (.one (.bool false))) Z1) (∃ len2 : Nat, (Idx Try.prog Z1 c0 3 len2) ∧ ((0 : Int) ≤ n1) ∧ (n1 < (len2 : Int)) ∧ ∃ row1 : List D, (Row Z1 c0 (Int.toNat n1) row1) ∧ ∃ n3 : Int, ((List.take 1 (List.drop 2 row1)) = ([.int .i64 n3] : List D)) ∧ bcase (n3 != 0) (Qp (.a (.one (.bool false))) Z1) (∃ len3 : Nat, (IdxN Try.prog Z1 c3 1 len3) ∧ ((0 : Int) ≤ 0) ∧ ((0 : Int) ≤ n) ∧ (n ≤ (len3 : Int)) ∧ DCalls Try.prog n_ref06_in [.one (dsub c3 0 (Int.toNat n)), .one (.int .i64 n1)] Z1 (fun r1 Z2 => ∃ b : Bool, (r1 = (.a (.one (.bool b)) : RV)) ∧ bcase b (Qp (.a (.one (.bool false))) Z2) ((I (w64 (n + 1)) Z2) ∧ ((μ (w64 (n + 1)) Z2) < (μ n Z)))))))) (∃ len1 : Nat, (Len c3 len1) ∧ Qp (.a (.one (.bool (decide ((len1 : Int) ≤ 4))))) Z)
theorem W_ref06_crossings (c0 : D) (c1 : D) (c2 : D) (c3 : D) (c4 : D) (c5 : Int) (c6 : Int) (c7 : Int) (c8 : Int) (σ : Store) (Qp : RV → Store → Prop) (h : V_ref06_crossings c0 c1 c2 c3 c4 c5 c6 c7 c8 σ Qp) : DCalls Try.prog n_ref06_crossings [.agg [c0, c1, c2, c3, c4, .int .i64 c5, .int .i64 c6, .int .i64 c7, .int .i64 c8]] σ Qp :=
 dcalls_of_body mixed (by kernel_rfl) Try.func41 an_ref06_crossings (Eq.mp (by kernel_rfl) h)
def an_ref06_sameInts : Ann := { esc := [], cbs := [], draws := [(6, { ord := [0, 1, 2, 3, 4, 5, 6, 7, 8], nb := [], av := [], dir := [] })], loops := [(4, { mods := [(13, SlotSh.one (Sh.int IntKind.i64))], keep := [0, 1, 12] })], joins := [] }
def V_ref06_sameInts (a : D) (b : D) (σ : Store) (Qp : RV → Store → Prop) : Prop :=
 ∃ len : Nat, (Len a len) ∧ ∃ len1 : Nat, (Len b len1) ∧ bcase ((len : Int) != (len1 : Int)) (Qp (.a (.one (.bool false))) σ) (∃ len2 : Nat, (Len a len2) ∧ ∃ I : Int → Store → Prop, ∃ μ : Int → Store → Nat, (I 0 σ) ∧ ∀ n : Int, ∀ Z, (I n Z) → bcase (decide (n < (len2 : Int))) (∃ len3 : Nat, (Idx Try.prog Z a 1 len3) ∧ ((0 : Int) ≤ n) ∧ (n < (len3 : Int)) ∧ ∃ row : List D, (Row Z a (Int.toNat n) row) ∧ ∃ n1 : Int, ((List.take 1 row) = ([.int .i64 n1] : List D)) ∧ ∃ len4 : Nat, (Idx Try.prog Z b 1 len4) ∧ ((0 : Int) ≤ n) ∧ (n < (len4 : Int)) ∧ ∃ row1 : List D, (Row Z b (Int.toNat n) row1) ∧ ∃ n2 : Int, ((List.take 1 row1) = ([.int .i64 n2] : List D)) ∧ bcase (n1 != n2) (Qp (.a (.one (.bool false))) Z) ((I (w64 (n + 1)) Z) ∧ ((μ (w64 (n + 1)) Z) < (μ n Z)))) (Qp (.a (.one (.bool true))) Z))
theorem W_ref06_sameInts (a : D) (b : D) (σ : Store) (Qp : RV → Store → Prop) (h : V_ref06_sameInts a b σ Qp) : DCalls Try.prog n_ref06_sameInts [.one a, .one b] σ Qp :=
 dcalls_of_body mixed (by kernel_rfl) Try.func45 an_ref06_sameInts (Eq.mp (by kernel_rfl) h)
def an_slices_Concat_Mover : Ann := { esc := [], cbs := [], draws := [], loops := [(3, { mods := [(3, SlotSh.one (Sh.int IntKind.i64)), (11, SlotSh.one (Sh.int IntKind.i64))], keep := [0, 9, 10] }), (11, { mods := [(6, SlotSh.one (Sh.any)), (27, SlotSh.one (Sh.int IntKind.i64))], keep := [25, 26] })], joins := [] }
def V_slices_Concat_Mover (slices : D) (σ : Store) (Qp : RV → Store → Prop) : Prop :=
 ∃ len : Nat, (Len slices len) ∧ ∃ I : Int → Int → Store → Prop, ∃ μ : Int → Int → Store → Nat, (I 0 0 σ) ∧ ∀ n n1 : Int, ∀ Z, (I n n1 Z) → bcase (decide (n1 < (len : Int))) (∃ len1 : Nat, (Idx Try.prog Z slices 1 len1) ∧ ((0 : Int) ≤ n1) ∧ (n1 < (len1 : Int)) ∧ ∃ row : List D, (Row Z slices (Int.toNat n1) row) ∧ ∃ d : D, ((List.take 1 row) = ([d] : List D)) ∧ ∃ len2 : Nat, (Len d len2) ∧ bcase (decide ((w64 (n + (len2 : Int))) < 0)) False ((I (w64 (n + (len2 : Int))) (w64 (n1 + 1)) Z) ∧ ((μ (w64 (n + (len2 : Int))) (w64 (n1 + 1)) Z) < (μ n n1 Z)))) (DCalls Try.prog n_slices_Grow_Mover [.one .nils, .one (.int .i64 n)] Z (fun r Z1 => ∃ d : D, (r = (.a (.one d) : RV)) ∧ ∃ len1 : Nat, (Len slices len1) ∧ ∃ I1 : D → Int → Store → Prop, ∃ μ1 : D → Int → Store → Nat, (I1 d 0 Z1) ∧ ∀ d1 : D, ∀ n2 : Int, ∀ Z2, (I1 d1 n2 Z2) → bcase (decide (n2 < (len1 : Int))) (∃ len2 : Nat, (Idx Try.prog Z2 slices 1 len2) ∧ ((0 : Int) ≤ n2) ∧ (n2 < (len2 : Int)) ∧ ∃ row : List D, (Row Z2 slices (Int.toNat n2) row) ∧ ∃ d2 : D, ((List.take 1 row) = ([d2] : List D)) ∧ appendTo Try.prog Z2 t_Mover 16 d1 d2 (fun d3 Z3 => (I1 d3 (w64 (n2 + 1)) Z3) ∧ ((μ1 d3 (w64 (n2 + 1)) Z3) < (μ1 d1 n2 Z2)))) (Qp (.a (.one d1)) Z2)))
theorem W_slices_Concat_Mover (slices : D) (σ : Store) (Qp : RV → Store → Prop) (h : V_slices_Concat_Mover slices σ Qp) : DCalls Try.prog n_slices_Concat_Mover [.one slices] σ Qp :=
 dcalls_of_body mixed (by kernel_rfl) Try.func49 an_slices_Concat_Mover (Eq.mp (by kernel_rfl) h)
def an_slices_Repeat_Mover : Ann := { esc := [], cbs := [], draws := [(9, { ord := [0, 1, 2, 3, 4, 5, 6, 7, 8, 9], nb := [], av := [], dir := [] })], loops := [(8, { mods := [(8, SlotSh.one (Sh.int IntKind.i64))], keep := [7] })], joins := [(3, { mods := [], keep := [0, 1] }), (6, { mods := [], keep := [0, 6] })] }
def V_slices_Repeat_Mover (x : D) (count : Int) (σ : Store) (Qp : RV → Store → Prop) : Prop :=
 ∀ R : Store → Prop, (∀ Z, (∃ len : Nat, (Len x len) ∧ DCalls Try.prog n_math_bits_Mul [.one (.int .u64 (IntKind.wrap .u64 (len : Int))), .one (.int .u64 (IntKind.wrap .u64 count))] Z (fun r Z1 => ∃ n n1 : Int, (r = (.tup [.one (.int .u64 n), .one (.int .u64 n1)] : RV)) ∧ ∀ R1 : Store → Prop, (∀ Z2, (((0 : Int) ≤ (w64 n1)) ∧ ((w64 n1) ≤ (w64 n1)) ∧ (((16 : Int) * (w64 n1)) ≤ (2 ^ 48)) ∧ Fw.newObj Z2 (.live t_Mover (List.replicate (Int.toNat (w64 n1)) [.int .i64 0, .int .i64 0])) (fun id Z3 => copyTo Try.prog Z3 t_Mover (.osl id 0 (Int.toNat (w64 n1))) x (fun n2 Z4 => ∃ I : Int → Store → Prop, ∃ μ : Int → Store → Nat, (I n2 Z4) ∧ ∀ n3 : Int, ∀ Z5, (I n3 Z5) → ∃ len1 : Nat, (Len (.osl id 0 (Int.toNat (w64 n1))) len1) ∧ bcase (decide (n3 < (len1 : Int))) (∃ len2 : Nat, (IdxN Try.prog Z5 (.osl id 0 (Int.toNat (w64 n1))) 2 len2) ∧ ((0 : Int) ≤ n3) ∧ (n3 ≤ (len2 : Int)) ∧ ∃ len3 : Nat, (IdxN Try.prog Z5 (.osl id 0 (Int.toNat (w64 n1))) 2 len3) ∧ ((0 : Int) ≤ 0) ∧ ((0 : Int) ≤ n3) ∧ (n3 ≤ (len3 : Int)) ∧ copyTo Try.prog Z5 t_Mover (.osl id (0 + (Int.toNat n3)) (len2 - (Int.toNat n3))) (.osl id 0 ((Int.toNat n3) - 0)) (fun n4 Z6 => (I (w64 (n3 + n4)) Z6) ∧ ((μ (w64 (n3 + n4)) Z6) < (μ n3 Z5)))) (Qp (.a (.one (.osl id 0 (Int.toNat (w64 n1))))) Z5)))) → R1 Z2) → bcase (decide (n > 0)) False (bcase (decide (n1 > 9223372036854775807)) False (R1 Z1)))) → R Z) → bcase (decide (count < 0)) False (R σ)
theorem W_slices_Repeat_Mover (x : D) (count : Int) (σ : Store) (Qp : RV → Store → Prop) (h : V_slices_Repeat_Mover x count σ Qp) : DCalls Try.prog n_slices_Repeat_Mover [.one x, .one (.int .i64 count)] σ Qp :=
 dcalls_of_body mixed (by kernel_rfl) Try.func57 an_slices_Repeat_Mover (Eq.mp (by kernel_rfl) h)
def an_conf_plan_section : Ann := { esc := [], cbs := [2], draws := [], loops := [], joins := [] }
def V_conf_plan_section (p0 : D) (p1 : D) (p2 : D) (p3 : D) (p4 : D) (p5 : Int) (p6 : Int) (p7 : Int) (p8 : Int) (s : Int) (σ : Store) (Qp : RV → Store → Prop) : Prop :=
 bcase (decide (s < 0)) (Qp (.tup [.agg [.int .i64 0, .int .i64 0, .int .i64 0], .one (.bool false)]) σ) (∃ len : Nat, (Len p0 len) ∧ bcase (decide (s ≥ (len : Int))) (Qp (.tup [.agg [.int .i64 0, .int .i64 0, .int .i64 0], .one (.bool false)]) σ) (∃ len1 : Nat, (Idx Try.prog σ p0 3 len1) ∧ ((0 : Int) ≤ s) ∧ (s < (len1 : Int)) ∧ ∃ row : List D, (Row σ p0 (Int.toNat s) row) ∧ ∃ n n1 n2 : Int, ((List.take 3 row) = ([.int .i64 n, .int .i64 n1, .int .i64 n2] : List D)) ∧ Qp (.tup [.agg [.int .i64 n, .int .i64 n1, .int .i64 n2], .one (.bool true)]) σ))
theorem W_conf_plan_section (p0 : D) (p1 : D) (p2 : D) (p3 : D) (p4 : D) (p5 : Int) (p6 : Int) (p7 : Int) (p8 : Int) (s : Int) (σ : Store) (Qp : RV → Store → Prop) (h : V_conf_plan_section p0 p1 p2 p3 p4 p5 p6 p7 p8 s σ Qp) : DCalls Try.prog n_conf_plan_section [.agg [p0, p1, p2, p3, p4, .int .i64 p5, .int .i64 p6, .int .i64 p7, .int .i64 p8], .one (.int .i64 s)] σ Qp :=
 dcalls_of_body mixed (by kernel_rfl) Try.func61 an_conf_plan_section (Eq.mp (by kernel_rfl) h)
def an_slices_Equal_int : Ann := { esc := [], cbs := [], draws := [(6, { ord := [0, 1, 2, 3, 4, 5, 6, 7, 8], nb := [], av := [], dir := [] })], loops := [(4, { mods := [(13, SlotSh.one (Sh.int IntKind.i64))], keep := [0, 1, 12] })], joins := [] }
def V_slices_Equal_int (s1 : D) (s2 : D) (σ : Store) (Qp : RV → Store → Prop) : Prop :=
 ∃ len : Nat, (Len s1 len) ∧ ∃ len1 : Nat, (Len s2 len1) ∧ bcase ((len : Int) != (len1 : Int)) (Qp (.a (.one (.bool false))) σ) (∃ len2 : Nat, (Len s1 len2) ∧ ∃ I : Int → Store → Prop, ∃ μ : Int → Store → Nat, (I 0 σ) ∧ ∀ n : Int, ∀ Z, (I n Z) → bcase (decide (n < (len2 : Int))) (∃ len3 : Nat, (Idx Try.prog Z s1 1 len3) ∧ ((0 : Int) ≤ n) ∧ (n < (len3 : Int)) ∧ ∃ row : List D, (Row Z s1 (Int.toNat n) row) ∧ ∃ n1 : Int, ((List.take 1 row) = ([.int .i64 n1] : List D)) ∧ ∃ len4 : Nat, (Idx Try.prog Z s2 1 len4) ∧ ((0 : Int) ≤ n) ∧ (n < (len4 : Int)) ∧ ∃ row1 : List D, (Row Z s2 (Int.toNat n) row1) ∧ ∃ n2 : Int, ((List.take 1 row1) = ([.int .i64 n2] : List D)) ∧ bcase (n1 != n2) (Qp (.a (.one (.bool false))) Z) ((I (w64 (n + 1)) Z) ∧ ((μ (w64 (n + 1)) Z) < (μ n Z)))) (Qp (.a (.one (.bool true))) Z))
theorem W_slices_Equal_int (s1 : D) (s2 : D) (σ : Store) (Qp : RV → Store → Prop) (h : V_slices_Equal_int s1 s2 σ Qp) : DCalls Try.prog n_slices_Equal_int [.one s1, .one s2] σ Qp :=
 dcalls_of_body mixed (by kernel_rfl) Try.func65 an_slices_Equal_int (Eq.mp (by kernel_rfl) h)
def an_ref05_Next : Ann := { esc := [], cbs := [], draws := [(5, { ord := [0, 1, 2, 3, 4, 5, 6], nb := [], av := [], dir := [] }), (7, { ord := [0, 1, 2, 3, 4, 5, 6], nb := [], av := [], dir := [] })], loops := [(2, { mods := [(13, SlotSh.one (Sh.int IntKind.i64))], keep := [1, 2, 11, 12] })], joins := [] }
def V_ref05_Next (joints : D) (section_ : Int) (end_ : Int) (σ : Store) (Qp : RV → Store → Prop) : Prop :=
 ∃ len : Nat, (Len joints len) ∧ ∃ I : Int → Store → Prop, ∃ μ : Int → Store → Nat, (I 0 σ) ∧ ∀ n : Int, ∀ Z, (I n Z) → bcase (decide (n < (len : Int))) (∃ len1 : Nat, (Idx Try.prog Z joints 4 len1) ∧ ((0 : Int) ≤ n) ∧ (n < (len1 : Int)) ∧ ∃ row : List D, (Row Z joints (Int.toNat n) row) ∧ ∃ n1 n2 n3 n4 : Int, ((List.take 4 row) = ([.int .i64 n1, .int .i64 n2, .int .i64 n3, .int .i64 n4] : List D)) ∧ bcase (n1 == section_) (bcase (n2 == end_) (Qp (.tup [.one (.int .i64 n3), .one (.int .i64 n4), .one (.bool true)]) Z) (bcase (n3 == section_) (bcase (n4 == end_) (Qp (.tup [.one (.int .i64 n1), .one (.int .i64 n2), .one (.bool true)]) Z) ((I (w64 (n + 1)) Z) ∧ ((μ (w64 (n + 1)) Z) < (μ n Z)))) ((I (w64 (n + 1)) Z) ∧ ((μ (w64 (n + 1)) Z) < (μ n Z))))) (bcase (n3 == section_) (bcase (n4 == end_) (Qp (.tup [.one (.int .i64 n1), .one (.int .i64 n2), .one (.bool true)]) Z) ((I (w64 (n + 1)) Z) ∧ ((μ (w64 (n + 1)) Z) < (μ n Z)))) ((I (w64 (n + 1)) Z) ∧ ((μ (w64 (n + 1)) Z) < (μ n Z))))) (Qp (.tup [.one (.int .i64 0), .one (.int .i64 0), .one (.bool false)]) Z)
theorem W_ref05_Next (joints : D) (section_ : Int) (end_ : Int) (σ : Store) (Qp : RV → Store → Prop) (h : V_ref05_Next joints section_ end_ σ Qp) : DCalls Try.prog n_ref05_Next [.one joints, .one (.int .i64 section_), .one (.int .i64 end_)] σ Qp :=
 dcalls_of_body mixed (by kernel_rfl) Try.func69 an_ref05_Next (Eq.mp (by kernel_rfl) h)
def an_ref05_Pos : Ann := { esc := [], cbs := [], draws := [], loops := [(2, { mods := [(13, SlotSh.one (Sh.int IntKind.i64))], keep := [1, 2, 11, 12] })], joins := [] }
def V_ref05_Pos (kind : Int) (in_ : Int) (out_ : Int) (σ : Store) (Qp : RV → Store → Prop) : Prop :=
 DCalls Try.prog n_ref05_ways [.one (.int .i64 kind)] σ (fun r Z => ∃ d : D, (r = (.a (.one d) : RV)) ∧ ∃ len : Nat, (Len d len) ∧ ∃ I : Int → Store → Prop, ∃ μ : Int → Store → Nat, (I 0 Z) ∧ ∀ n : Int, ∀ Z1, (I n Z1) → bcase (decide (n < (len : Int))) (∃ len1 : Nat, (Idx Try.prog Z1 d 3 len1) ∧ ((0 : Int) ≤ n) ∧ (n < (len1 : Int)) ∧ ∃ row : List D, (Row Z1 d (Int.toNat n) row) ∧ ∃ n1 n2 n3 : Int, ((List.take 3 row) = ([.int .i64 n1, .int .i64 n2, .int .i64 n3] : List D)) ∧ bcase (n1 == in_) (bcase (n2 == out_) (Qp (.tup [.one (.int .i64 n3), .one (.bool true)]) Z1) (bcase (n2 == in_) (bcase (n1 == out_) (Qp (.tup [.one (.int .i64 n3), .one (.bool true)]) Z1) ((I (w64 (n + 1)) Z1) ∧ ((μ (w64 (n + 1)) Z1) < (μ n Z1)))) ((I (w64 (n + 1)) Z1) ∧ ((μ (w64 (n + 1)) Z1) < (μ n Z1))))) (bcase (n2 == in_) (bcase (n1 == out_) (Qp (.tup [.one (.int .i64 n3), .one (.bool true)]) Z1) ((I (w64 (n + 1)) Z1) ∧ ((μ (w64 (n + 1)) Z1) < (μ n Z1)))) ((I (w64 (n + 1)) Z1) ∧ ((μ (w64 (n + 1)) Z1) < (μ n Z1))))) (Qp (.tup [.one (.int .i64 0), .one (.bool false)]) Z1))
theorem W_ref05_Pos (kind : Int) (in_ : Int) (out_ : Int) (σ : Store) (Qp : RV → Store → Prop) (h : V_ref05_Pos kind in_ out_ σ Qp) : DCalls Try.prog n_ref05_Pos [.one (.int .i64 kind), .one (.int .i64 in_), .one (.int .i64 out_)] σ Qp :=
 dcalls_of_body mixed (by kernel_rfl) Try.func73 an_ref05_Pos (Eq.mp (by kernel_rfl) h)
def an_slices_insertionSortCmpFunc_ars_due : Ann := { esc := [], cbs := [], draws := [(4, { ord := [0, 1, 2, 3, 4, 5, 6, 7, 8, 9, 10, 11, 12, 13, 14, 15, 16], nb := [], av := [], dir := [] }), (6, { ord := [0, 1, 2, 3, 4, 5, 6, 7, 8, 9, 10, 11, 12, 13, 14, 15, 16, 17], nb := [], av := [], dir := [] })], loops := [(1, { mods := [(8, SlotSh.one (Sh.int IntKind.i64))], keep := [0, 1, 2, 3] }), (4, { mods := [(9, SlotSh.one (Sh.int IntKind.i64))], keep := [0, 1, 2, 3, 8] })], joins := [] }
def V_slices_insertionSortCmpFunc_ars_due (data : D) (a : Int) (b : Int) (cmp : D) (σ : Store) (Qp : RV → Store → Prop) : Prop :=
 ∃ I : Int → Store → Prop, ∃ μ : Int → Store → Nat, (I (w64 (a + 1)) σ) ∧ ∀ n : Int, ∀ Z, (I n Z) → bcase (decide (n < b)) (∃ I1 : Int → Store → Prop, ∃ μ1 : Int → Store → Nat, (I1 n Z) ∧ ∀ n1 : Int, ∀ Z1, (I1 n1 Z1) → bcase (decide (n1 > a)) (∃ len : Nat, (Idx Try.prog Z1 data 4 len) ∧ ((0 : Int) ≤ n1) ∧ (n1 < (len : Int)) ∧ ∃ row : List D, (Row Z1 data (Int.toNat n1) row) ∧ ∃ n2 n3 n4 n5 : Int, ((List.take 4 row) = ([.int .i64 n2, .int .i64 n3, .int .i64 n4, .int .i64 n5] : List D)) ∧ ∃ len1 : Nat, (Idx Try.prog Z1 data 4 len1) ∧ ((0 : Int) ≤ (w64 (n1 - 1))) ∧ ((w64 (n1 - 1)) < (len1 : Int)) ∧ ∃ row1 : List D, (Row Z1 data (Int.toNat (w64 (n1 - 1))) row1) ∧ ∃ n6 n7 n8 n9 : Int, ((List.take 4 row1) = ([.int .i64 n6, .int .i64 n7, .int .i64 n8, .int .i64 n9] : List D)) ∧ ∃ f : FuncId, ∃ a1 : List (Bool × (List D)), ∃ b1 : List (Bool × (List D)), ∃ as0' : List A, ∃ bs : List A, (cmp = (.fn f a1 b1 : D)) ∧ ((capAs a1) = (Option.some as0')) ∧ ((capAs b1) = (Option.some bs)) ∧ DCalls Try.prog f (HAppend.hAppend (HAppend.hAppend as0' [.agg [.int .i64 n2, .int .i64 n3, .int .i64 n4, .int .i64 n5], .agg [.int .i64 n6, .int .i64 n7, .int .i64 n8, .int .i64 n9]]) bs) Z1 (fun r Z2 => ∃ n10 : Int, (r = (.a (.one (.int .i64 n10)) : RV)) ∧ bcase (decide (n10 < 0)) (∃ len2 : Nat, (Idx Try.prog Z2 data 4 len2) ∧ ((0 : Int) ≤ (w64 (n1 - 1))) ∧ ((w64 (n1 - 1)) < (len2 : Int)) ∧ ∃ row2 : List D, (Row Z2 data (Int.toNat (w64 (n1 - 1))) row2) ∧ ∃ n11 n12 n13 n14 : Int, ((List.take 4 row2) = ([.int .i64 n11, .int .i64 n12, .int .i64 n13, .int .i64 n14] : List D)) ∧ ∃ len3 : Nat, (Idx Try.prog Z2 data 4 len3) ∧ ((0 : Int) ≤ n1) ∧ (n1 < (len3 : Int)) ∧ ∃ row3 : List D, (Row Z2 data (Int.toNat n1) row3) ∧ ∃ n15 n16 n17 n18 : Int, ((List.take 4 row3) = ([.int .i64 n15, .int .i64 n16, .int .i64 n17, .int .i64 n18] : List D)) ∧ ∃ len4 : Nat, (Idx Try.prog Z2 data 4 len4) ∧ ((0 : Int) ≤ n1) ∧ (n1 < (len4 : Int)) ∧ storeEl [.int .i64 n11, .int .i64 n12, .int .i64 n13, .int .i64 n14] Z2 data (Int.toNat n1) 0 (fun Z3 => ∃ len5 : Nat, (Idx Try.prog Z3 data 4 len5) ∧ ((0 : Int) ≤ (w64 (n1 - 1))) ∧ ((w64 (n1 - 1)) < (len5 : Int)) ∧ storeEl [.int .i64 n15, .int .i64 n16, .int .i64 n17, .int .i64 n18] Z3 data (Int.toNat (w64 (n1 - 1))) 0 (fun Z4 => (I1 (w64 (n1 - 1)) Z4) ∧ ((μ1 (w64 (n1 - 1)) Z4) < (μ1 n1 Z1))))) ((I (w64 (n + 1)) Z2) ∧ ((μ (w64 (n + 1)) Z2) < (μ n Z))))) ((I (w64 (n + 1)) Z1) ∧ ((μ (w64 (n + 1)) Z1) < (μ n Z)))) (Qp (.tup []) Z)
theorem W_slices_insertionSortCmpFunc_ars_due (data : D) (a : Int) (b : Int) (cmp : D) (σ : Store) (Qp : RV → Store → Prop) (h : V_slices_insertionSortCmpFunc_ars_due data a b cmp σ Qp) : DCalls Try.prog n_slices_insertionSortCmpFunc_ars_due [.one data, .one (.int .i64 a), .one (.int .i64 b), .one cmp] σ Qp :=
 dcalls_of_body mixed (by kernel_rfl) Try.func77 an_slices_insertionSortCmpFunc_ars_due (Eq.mp (by kernel_rfl) h)
def an_topo_Pos : Ann := { esc := [], cbs := [], draws := [], loops := [(2, { mods := [(15, SlotSh.one (Sh.int IntKind.i64))], keep := [1, 2, 13, 14] })], joins := [] }
def V_topo_Pos (kind : Int) (in_ : Int) (out_ : Int) (σ : Store) (Qp : RV → Store → Prop) : Prop :=
 DCalls Try.prog n_topo_ways [.one (.int .i64 kind)] σ (fun r Z => ∃ d : D, (r = (.a (.one d) : RV)) ∧ ∃ len : Nat, (Len d len) ∧ ∃ I : Int → Store → Prop, ∃ μ : Int → Store → Nat, (I 0 Z) ∧ ∀ n : Int, ∀ Z1, (I n Z1) → bcase (decide (n < (len : Int))) (∃ len1 : Nat, (Idx Try.prog Z1 d 3 len1) ∧ ((0 : Int) ≤ n) ∧ (n < (len1 : Int)) ∧ ∃ row : List D, (Row Z1 d (Int.toNat n) row) ∧ ∃ n1 n2 n3 : Int, ((List.take 3 row) = ([.int .i64 n1, .int .i64 n2, .int .i64 n3] : List D)) ∧ DCalls Try.prog n_topo_way_other [.agg [.int .i64 n1, .int .i64 n2, .int .i64 n3], .one (.int .i64 in_)] Z1 (fun r1 Z2 => ∃ n4 : Int, ∃ b : Bool, (r1 = (.tup [.one (.int .i64 n4), .one (.bool b)] : RV)) ∧ bcase b (bcase (n4 == out_) (Qp (.tup [.one (.int .i64 n3), .one (.bool true)]) Z2) ((I (w64 (n + 1)) Z2) ∧ ((μ (w64 (n + 1)) Z2) < (μ n Z1)))) ((I (w64 (n + 1)) Z2) ∧ ((μ (w64 (n + 1)) Z2) < (μ n Z1))))) (Qp (.tup [.one (.int .i64 0), .one (.bool false)]) Z1))
theorem W_topo_Pos (kind : Int) (in_ : Int) (out_ : Int) (σ : Store) (Qp : RV → Store → Prop) (h : V_topo_Pos kind in_ out_ σ Qp) : DCalls Try.prog n_topo_Pos [.one (.int .i64 kind), .one (.int .i64 in_), .one (.int .i64 out_)] σ Qp :=
 dcalls_of_body mixed (by kernel_rfl) Try.func90 an_topo_Pos (Eq.mp (by kernel_rfl) h)
def an_conf_plan_flank_1 : Ann := { esc := [], cbs := [2], draws := [], loops := [], joins := [] }
def V_conf_plan_flank_1 (n0 : Int) (n1 : Int) (a1 : D) (σ : Store) (Qp : RV → Store → Prop) : Prop :=
 ∃ s : D, ∃ i off : Nat, (a1 = (.el s i off : D)) ∧ ∃ row : List D, (Row σ s i row) ∧ ∃ n : Int, ((List.take 1 (List.drop off row)) = ([.int .i64 n] : List D)) ∧ Qp (.a (.one (.bool (n0 == n)))) σ
theorem W_conf_plan_flank_1 (n0 : Int) (n1 : Int) (a1 : D) (σ : Store) (Qp : RV → Store → Prop) (h : V_conf_plan_flank_1 n0 n1 a1 σ Qp) : DCalls Try.prog n_conf_plan_flank_1 [.agg [.int .i64 n0, .int .i64 n1], .one a1] σ Qp :=
 dcalls_of_body mixed (by kernel_rfl) Try.func94 an_conf_plan_flank_1 (Eq.mp (by kernel_rfl) h)
end Go.Proofs.Ytjdpkjembijbeaa
end
