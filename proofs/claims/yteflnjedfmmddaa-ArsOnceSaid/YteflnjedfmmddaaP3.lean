/-
  Proofs that the statement of this claim leans on: part 3.
-/
import Derived.Test.YteflnjedfmmddaaP2
section
set_option linter.unusedVariables false
set_option linter.unusedSimpArgs false
namespace Go.Fw
open Go.ChangeShapes Go.WideShapes Go.RowKit
def tyF (P : Program) (ty : TypeId → List D → Prop) : List Field → List D → Prop
  | [], ds => ds = []
  | f :: fs, ds => ∃ a b, ds = a ++ b ∧ a.length = P.cellsOf f.type ∧ ty f.type a ∧ tyF P ty fs b
def tyR (P : Program) (ty : TypeId → List D → Prop) (e : TypeId) : Nat → List D → Prop
  | 0, ds => ds = []
  | n + 1, ds => ∃ a b, ds = a ++ b ∧ a.length = P.cellsOf e ∧ ty e a ∧ tyR P ty e n b
/-- The cells of a value of a plain type. -/
def tyD (P : Program) : Nat → TypeId → List D → Prop
  | 0, _, _ => False
  | n + 1, t, ds => match P.underlying t with
    | some .bool => ∃ b, ds = [.bool b]
    | some (.int k) => ∃ m, ds = [.int k m] ∧ (Lit.int k m).wf = true
    | some .string => ∃ s, ds = [.str s] ∧ s.size ≤ 140737488351232
    | some (.slice e) => ds = [.nils] ∨ ∃ rows, ds = [.sl (P.cellsOf e) rows] ∧ rows.length * P.bytesOf e ≤ 140737488351232 ∧ ∀ row ∈ rows, tyD P n e row
    | some (.struct fs) => tyF P (tyD P n) fs.toList ds
    | some (.array m e) => tyR P (tyD P n) e m ds
    | _ => False
def tilesB (P : Program) : Nat → List Field → Nat → Bool
  | o, [], n => Nat.beq o n
  | o, f :: fs, n => Nat.beq f.offset o && tilesB P (o + P.cellsOf f.type) fs n
def plainT (P : Program) : Nat → TypeId → Bool
  | 0, _ => false
  | n + 1, t => match P.underlying t with
    | some .bool => true
    | some (.int _) => true
    | some .string => true
    | some (.slice e) => plainT P n e && decide (0 < P.cellsOf e)
    | some (.struct fs) => tilesB P 0 fs.toList (P.cellsOf t) && fs.toList.all fun f => plainT P n f.type
    | some (.array m e) => plainT P n e && Nat.beq (m * P.cellsOf e) (P.cellsOf t)
    | _ => false
/-- An argument of a plain type. -/
def TyA (P : Program) (t : TypeId) : A → Prop
  | .one d => isAggT P t = some false ∧ tyD P 30 t [d]
  | .agg cs => isAggT P t = some true ∧ tyD P 30 t cs
def TyAs (P : Program) : List TypeId → List A → Prop
  | [], as0 => as0 = []
  | t :: ts, as0 => ∃ a r, as0 = a :: r ∧ TyA P t a ∧ TyAs P ts r
section
variable {H : Type} {enc : TypeId × Value → H} {P : Program} {w : World}
abbrev allK (w : World) : Nat → Prop := fun b => b < w.heap.size
abbrev noB : Bk := fun _ => none
abbrev noS : Store := fun _ => .free
theorem srel0 : SRel P (allK w) noB w noS where
  fin := ⟨0, fun _ _ => rfl⟩
  dom i := by simp
  klt b hb := hb
  blt i bi h := by cases h
  inj i j bi bj h := by cases h
  notk i bi h := by cases h
  obj i bi t rows h := by cases h
  omap i bi c es h := by cases h
theorem cells?_spec {base : Nat} {a : Addr} {n : Nat} {cs : List Value} (h : w.cells? base a n = some cs) : cs.length = n ∧ ∀ (j : Nat) v, cs[j]? = some v → w.cell? (a.add j) = some v := by
  unfold World.cells? at h
  split at h
  · have hl := mapM_some_length h
    refine ⟨by simpa using hl, fun j v hv => ?_⟩
    have hlt := (List.getElem?_eq_some_iff.1 hv).1
    have hn : cs.length = n := by simpa using hl
    have := mapM_some_get h j j (by simp [show j < n by omega])
    rw [this, hv]
  · cases h
theorem cell_lt {a : Addr} {v : Value} (h : w.cell? a = some v) : a.block < w.heap.size ∧ a.spot = none := by
  unfold World.cell? at h
  split at h
  · rename_i c t fr hb
    refine ⟨(Array.getElem?_eq_some_iff.1 hb).1, ?_⟩
    split at h
    · cases h
    · rename_i hs; simpa using hs
  · cases h
/-- Field by field. -/
theorem fields_ty {β : Bk} (n : Nat) (ih : ∀ (t : TypeId) (cs : List Value), plainT P n t = true → ∀ (fuel : Nat) (x : DataW H × List MemPlace), DataW.trod enc P w 0 (fun _ => true) true fuel t cs = some x →
      (∀ m ∈ x.1.weights P t, m ≤ 140737488351232) → ∃ ds, VL (allK w) β w cs ds ∧ tyD P n t ds) (cs : List Value) (m : Nat) :
    ∀ (fs : List Field) (o : Nat) (xs : List (DataW H × List MemPlace)), tilesB P o fs cs.length = true → (∀ f ∈ fs, plainT P n f.type = true) → xs.length = fs.length →
      (∀ (i : Nat) (f : Field), fs[i]? = some f → DataW.trod enc P w 0 (fun _ => true) true m f.type ((cs.drop f.offset).take (P.cellsOf f.type)) = xs[i]?) →
      (∀ q ∈ DataW.weightsEach P (fs.map (·.type)) (xs.map (·.1)), q ≤ 140737488351232) → o ≤ cs.length → ∃ ds, VL (allK w) β w (cs.drop o) ds ∧ tyF P (tyD P n) fs ds
  | [], o, xs, ht, _, _, _, _, ho => by
    have : o = cs.length := Nat.eq_of_beq_eq_true ht
    subst this
    exact ⟨[], by simp [VL], rfl⟩
  | f :: fs, o, xs, ht, hp, hl, he, hw, ho => by
    simp only [tilesB, Bool.and_eq_true] at ht
    have hfo := Nat.eq_of_beq_eq_true ht.1
    cases xs with
    | nil => simp at hl
    | cons x xs =>
      have h0 := he 0 f rfl
      rw [hfo] at h0
      simp only [List.map_cons, DataW.weightsEach, List.mem_append] at hw
      have tl : ∀ (fs : List Field) (o : Nat), tilesB P o fs cs.length = true → o ≤ cs.length := by
        intro fs
        induction fs with
        | nil => intro o h; exact Nat.le_of_eq (Nat.eq_of_beq_eq_true h)
        | cons g gs ihg => intro o h; simp only [tilesB, Bool.and_eq_true] at h; have := ihg _ h.2; omega
      have hle := tl _ _ ht.2
      obtain ⟨a, hva, hta⟩ := ih f.type _ (hp f (by simp)) m x (by simpa using h0) (fun q hq => hw q (.inl hq))
      obtain ⟨b, hvb, htb⟩ := fields_ty n ih cs m fs (o + P.cellsOf f.type) xs ht.2 (fun g hg => hp g (by simp [hg])) (by simpa using hl) (fun i g hg => by have := he (i + 1) g (by simpa using hg); simpa using this)
        (fun q hq => hw q (.inr hq)) hle
      refine ⟨a ++ b, ?_, a, b, rfl, ?_, hta, htb⟩
      · have := hva.append hvb
        have e1 : List.take (P.cellsOf f.type) (cs.drop o) ++ cs.drop (o + P.cellsOf f.type) = cs.drop o := by
          rw [← List.drop_drop]; exact List.take_append_drop _ _
        rw [e1] at this; exact this
      · rw [← hva.1, List.length_take, List.length_drop]; omega
theorem weightsAll_mem {e : TypeId} : ∀ {ds : List (DataW H)} {d : DataW H} {m : Nat}, d ∈ ds → m ∈ d.weights P e → m ∈ DataW.weightsAll P e ds
  | x :: r, d, m, hd, hm => by
    simp only [DataW.weightsAll, List.mem_append]
    rcases List.mem_cons.1 hd with rfl | hd
    · exact .inl hm
    · exact .inr (weightsAll_mem hd hm)
theorem arr_ty {β : Bk} (n : Nat) (ih : ∀ (t : TypeId) (cs : List Value), plainT P n t = true → ∀ (fuel : Nat) (x : DataW H × List MemPlace), DataW.trod enc P w 0 (fun _ => true) true fuel t cs = some x →
      (∀ m ∈ x.1.weights P t, m ≤ 140737488351232) → ∃ ds, VL (allK w) β w cs ds ∧ tyD P n t ds) (e : TypeId) (hp : plainT P n e = true) (fuel : Nat) :
    ∀ (m : Nat) (cs : List Value) (xs : List (DataW H × List MemPlace)), cs.length = m * P.cellsOf e → xs.length = m →
      (∀ i, i < m → DataW.trod enc P w 0 (fun _ => true) true fuel e ((cs.drop (i * P.cellsOf e)).take (P.cellsOf e)) = xs[i]?) → (∀ q ∈ DataW.weightsAll P e (xs.map (·.1)), q ≤ 140737488351232) →
      ∃ ds, VL (allK w) β w cs ds ∧ tyR P (tyD P n) e m ds
  | 0, cs, xs, hl, hx, _, _ => by
    have : cs = [] := List.eq_nil_of_length_eq_zero (by simpa using hl)
    subst this
    exact ⟨[], by simp [VL], rfl⟩
  | m + 1, cs, xs, hl, hx, he, hw => by
    cases xs with
    | nil => simp at hx
    | cons x xs =>
      have h0 := he 0 (by omega)
      simp only [List.map_cons, DataW.weightsAll, List.mem_append] at hw
      rw [Nat.add_mul] at hl
      obtain ⟨a, hva, hta⟩ := ih e _ hp fuel x (by simpa using h0) (fun q hq => hw q (.inl hq))
      obtain ⟨b, hvb, htb⟩ := arr_ty n ih e hp fuel m (cs.drop (P.cellsOf e)) xs (by rw [List.length_drop]; omega) (by simpa using hx) (fun i hi => by
        have := he (i + 1) (by omega)
        rw [List.drop_drop, show P.cellsOf e + i * P.cellsOf e = (i + 1) * P.cellsOf e by rw [Nat.add_mul]; omega, this]; rfl) (fun q hq => hw q (.inr hq))
      refine ⟨a ++ b, ?_, a, b, rfl, ?_, hta, htb⟩
      · have := hva.append hvb
        rw [List.take_append_drop] at this; exact this
      · rw [← hva.1, List.length_take]; omega
/-- What can be read reads as data of the type. -/
theorem trod_ty {β : Bk} : ∀ (n : Nat) (t : TypeId) (cs : List Value), plainT P n t = true → ∀ (fuel : Nat) (x : DataW H × List MemPlace), DataW.trod enc P w 0 (fun _ => true) true fuel t cs = some x →
      (∀ m ∈ x.1.weights P t, m ≤ 140737488351232) → ∃ ds, VL (allK w) β w cs ds ∧ tyD P n t ds
  | 0, t, cs, hp => by simp [plainT] at hp
  | n + 1, t, cs, hp => by
    intro fuel x h hw
    have one : ∀ {v : Value} {d : D}, V (allK w) β w v d → VL (allK w) β w [v] [d] := fun hv => ⟨rfl, fun i u y h1 h2 => by
      cases i with
      | zero => simp at h1 h2; subst h1 h2; exact hv
      | succ i => simp at h1⟩
    unfold plainT at hp
    unfold tyD
    split at hp
    · rename_i hu
      obtain ⟨b, rfl, rfl⟩ := DataW.trod_bool hu h
      exact ⟨[.bool b], one (.bool b), b, rfl⟩
    · rename_i q hu
      obtain ⟨m, rfl, rfl, hm⟩ := DataW.trod_int hu h
      exact ⟨[.int q m], one (.int q m), m, rfl, hm⟩
    · rename_i hu
      obtain ⟨s, rfl, rfl, hm⟩ := DataW.trod_string hu h
      exact ⟨[.str s], one (.str s), s, rfl, by have := hw s.data.toList.length (by simp [DataW.weights]); simpa using this⟩
    · rename_i e hu
      simp only [Bool.and_eq_true, decide_eq_true_eq] at hp
      obtain ⟨hpe, hpos⟩ := hp
      rcases DataW.trod_slice hu h with ⟨rfl, rfl⟩ | ⟨a, len, cap, elems, rest, m, _, rfl, rfl, _, hlc, hcm, hel, hr, _, _⟩
      · exact ⟨[.nils], one .nils, .inl rfl⟩
      · simp only [DataW.weights, hu, List.mem_cons, List.mem_append] at hw
        have each : ∀ i, i < len → ∃ cs row, w.cells? 0 (a.add (i * P.cellsOf e)) (P.cellsOf e) = some cs ∧ VL (allK w) β w cs row ∧ tyD P n e row := by
          intro i hi
          have h1 := hr i hi
          have h2 := List.getElem?_eq_getElem (l := elems) (i := i) (by omega)
          rw [h2] at h1
          cases hc : w.cells? 0 (a.add (i * P.cellsOf e)) (P.cellsOf e) with
          | none => rw [hc] at h1; cases h1
          | some cs =>
            rw [hc] at h1
            obtain ⟨row, r1, r2⟩ := trod_ty n e cs hpe m _ h1 (fun q hq => hw q (.inr (.inl (weightsAll_mem (List.mem_map.2 ⟨_, List.getElem_mem (h := by omega), rfl⟩) hq))))
            exact ⟨cs, row, rfl, r1, r2⟩
        have each' : ∀ i, ∃ row, i < len → ∃ cs, w.cells? 0 (a.add (i * P.cellsOf e)) (P.cellsOf e) = some cs ∧ VL (allK w) β w cs row ∧ tyD P n e row := fun i => by
          by_cases hi : i < len
          · obtain ⟨cs, row, h⟩ := each i hi
            exact ⟨row, fun _ => ⟨cs, h⟩⟩
          · exact ⟨[], fun h => absurd h hi⟩
        obtain ⟨F, hF⟩ := Classical.axiomOfChoice each'
        have hget : ∀ (i : Nat) row, ((List.range len).map F)[i]? = some row → i < len ∧ row = F i := fun i row hi => by
          have hlt := (List.getElem?_eq_some_iff.1 hi).1
          simp at hlt
          simp [List.getElem?_map, List.getElem?_range hlt] at hi
          exact ⟨hlt, hi.symm⟩
        have hsp : 0 < len → a.block < w.heap.size ∧ a.spot = none := fun h0 => by
          obtain ⟨cs, c1, _, _⟩ := hF 0 h0
          obtain ⟨c2, c3⟩ := cells?_spec c1
          have := c3 0 cs[0] (List.getElem?_eq_getElem (by omega))
          simp [Addr.add] at this
          exact cell_lt this
        have hcell : ∀ i j, i < len → j < P.cellsOf e → ∃ v, w.cell? ⟨a.block, a.off + i * P.cellsOf e + j, none⟩ = some v ∧ ∀ d, (F i)[j]? = some d → V (allK w) β w v d := by
          intro i j hi hj
          obtain ⟨cs, c1, c2, _⟩ := hF i hi
          obtain ⟨c3, c4⟩ := cells?_spec c1
          have hg := List.getElem?_eq_getElem (l := cs) (i := j) (by omega)
          have := c4 j _ hg
          have hsp := (hsp (by omega)).2
          have e1 : (a.add (i * P.cellsOf e)).add j = ⟨a.block, a.off + i * P.cellsOf e + j, none⟩ := by
            obtain ⟨b, o', sp⟩ := a
            simp at hsp; subst hsp
            rw [add_mk, add_mk]
          rw [e1] at this
          exact ⟨_, this, fun d hd => c2.2 j _ d hg hd⟩
        refine ⟨[.sl (P.cellsOf e) ((List.range len).map F)], one (.sl a len cap (P.cellsOf e) _ (fun i j => (w.cell? ⟨a.block, a.off + i * P.cellsOf e + j, none⟩).getD undef) (fun hne => hsp (by
          cases len with
          | zero => simp at hne
          | succ => omega)) (by simp) hlc (fun i row hi => ?_) (fun i row j d hi hj => ?_) (fun i row j d hi hj => ?_)), .inr ⟨_, rfl, ?_, fun row hrow => ?_⟩⟩
        · obtain ⟨hi', rfl⟩ := hget i row hi
          obtain ⟨cs, c1, c2, _⟩ := hF i hi'
          rw [← c2.1, (cells?_spec c1).1]
        · obtain ⟨hi', rfl⟩ := hget i row hi
          obtain ⟨cs, c1, c2, _⟩ := hF i hi'
          have hlt := (List.getElem?_eq_some_iff.1 hj).1
          rw [← c2.1, (cells?_spec c1).1] at hlt
          obtain ⟨v, v1, _⟩ := hcell i j hi' hlt
          rw [v1]; rfl
        · obtain ⟨hi', rfl⟩ := hget i row hi
          obtain ⟨cs, c1, c2, _⟩ := hF i hi'
          have hlt := (List.getElem?_eq_some_iff.1 hj).1
          rw [← c2.1, (cells?_spec c1).1] at hlt
          obtain ⟨v, v1, v2⟩ := hcell i j hi' hlt
          rw [v1]; exact v2 d hj
        · have := hw _ (.inl rfl)
          simp only [List.length_map, List.length_range] at this ⊢
          have h2 : len * P.bytesOf e ≤ (elems.length + rest.length) * P.bytesOf e := Nat.mul_le_mul_right _ (by omega)
          omega
        · obtain ⟨i, hi, rfl⟩ := List.mem_map.1 hrow
          obtain ⟨cs, _, _, c3⟩ := hF i (by simpa using hi)
          exact c3
    · rename_i fs hu
      simp only [Bool.and_eq_true, List.all_eq_true] at hp
      obtain ⟨xs, m, _, rfl, hl, hlen, hf⟩ := DataW.trod_struct hu h
      simp only [DataW.weights, hu] at hw
      have := fields_ty (β := β) n (fun t cs hp fuel x => trod_ty n t cs hp fuel x) cs m fs.toList 0 xs (by rw [hl]; exact hp.1) (fun f hf => hp.2 f hf) (by simpa using hlen) (fun i f hi => hf i f (by simpa using hi)) hw (by omega)
      simpa using this
    · rename_i m e hu
      simp only [Bool.and_eq_true] at hp
      cases fuel with
      | zero => simp [DataW.trod] at h
      | succ fuel =>
        unfold DataW.trod at h
        rw [hu] at h
        have h : (if cs.length = P.cellsOf t then ((List.range m).mapM fun i => DataW.trod enc P w 0 (fun _ => true) true fuel e ((cs.drop (i * P.cellsOf e)).take (P.cellsOf e))).map fun xs => ((.agg (xs.map (·.1)) : DataW H), xs.flatMap (·.2)) else none) = some x := by
          cases cs <;> simpa using h
        split at h
        · rename_i hl
          rw [Option.map_eq_some_iff] at h
          obtain ⟨xs, hx, rfl⟩ := h
          simp only [DataW.weights, hu] at hw
          have hxl := mapM_some_length hx
          exact arr_ty n (fun t cs hp fuel x => trod_ty n t cs hp fuel x) e hp.1 fuel m cs xs (by rw [hl]; exact (Nat.eq_of_beq_eq_true hp.2).symm) (by simpa using hxl) (fun i hi => mapM_some_get hx i i (by simp [hi])) hw
        · cases h
    · cases hp
theorem ty_one {n : Nat} {t : TypeId} {v : Value} {W : World} {base : Nat} (hp : plainT P (n + 1) t = true) (hok : Value.okWide P W .any base t v) :
    (isAggT P t = some false ∧ v.cells = #[v]) ∨ (isAggT P t = some true ∧ ∃ cs, v = .agg cs) := by
  unfold plainT at hp
  unfold isAggT
  split at hp
  · rename_i hu; obtain ⟨b, rfl⟩ := okWide_bool hu hok; rw [hu]; exact .inl ⟨rfl, rfl⟩
  · rename_i hu; obtain ⟨b, rfl⟩ := okWide_int hu hok; rw [hu]; exact .inl ⟨rfl, rfl⟩
  · rename_i hu
    rw [hu]
    simp only [Value.okWide, hu, Cell.okWide] at hok
    cases v <;> simp [Cell.ok, hu] at hok <;> exact .inl ⟨rfl, rfl⟩
  · rename_i e hu
    rw [hu]
    simp only [Value.okWide, hu, Cell.okWide] at hok
    cases v <;> simp [Cell.ok, hu] at hok <;> exact .inl ⟨rfl, rfl⟩
  · rename_i fs hu; obtain ⟨cs, rfl, _⟩ := okWide_struct hu hok; rw [hu]; exact .inr ⟨rfl, cs, rfl⟩
  · rename_i m e hu
    rw [hu]
    simp only [Value.okWide, hu] at hok
    obtain ⟨cs, rfl, _⟩ := hok
    exact .inr ⟨rfl, cs, rfl⟩
  · cases hp
theorem arg_ty {t : TypeId} {v : Value} {d : DataW H} {ps : List MemPlace} {base : Nat} (hp : plainT P 30 t = true) (hok : Value.okWide P w .any base t v) (h : DataW.Trod enc P w 0 (fun _ => true) true t v d ps)
    (hw : ∀ m ∈ d.weights P t, m ≤ 140737488351232) : ∃ x, TyA P t x ∧ VA (allK w) noB w v x := by
  obtain ⟨fuel, h⟩ := h
  obtain ⟨ds, h1, h2⟩ := trod_ty (β := noB) 30 t _ hp fuel _ h hw
  rcases ty_one hp hok with ⟨q1, q2⟩ | ⟨q1, cs, rfl⟩
  · rw [q2] at h1
    have hl := h1.1
    match ds, hl with
    | [d'], _ => exact ⟨.one d', ⟨q1, h2⟩, h1.2 0 v d' rfl rfl⟩
  · exact ⟨.agg ds, ⟨q1, h2⟩, cs, rfl, h1⟩
theorem args_ty {base : Nat} : ∀ {ts : List TypeId} {vs : List Value} {ds : List (DataW H)} {ps : List MemPlace}, (∀ t ∈ ts, plainT P 30 t = true) → (∀ (j : Nat) t v, ts[j]? = some t → vs[j]? = some v → Value.okWide P w .any base t v) →
    DataW.TrodAll enc P w 0 (fun _ => true) true ts vs ds ps → (∀ m ∈ DataW.weightsEach P ts ds, m ≤ 140737488351232) →
    ∃ as0, TyAs P ts as0 ∧ vs.length = as0.length ∧ ∀ (i : Nat) v x, vs[i]? = some v → as0[i]? = some x → VA (allK w) noB w v x
  | [], vs, ds, ps, _, _, h, _ => by
    obtain ⟨rfl, rfl, rfl⟩ := trodAll_nil h
    exact ⟨[], rfl, rfl, fun i v x hv => by simp at hv⟩
  | t :: ts, vs, ds, ps, hp, hok, h, hw => by
    obtain ⟨v, vs1, d, ds1, a, b, rfl, rfl, rfl, h1, h2⟩ := trodAll_cons h
    simp only [DataW.weightsEach, List.mem_append] at hw
    obtain ⟨x, x1, x2⟩ := arg_ty (hp t (by simp)) (hok 0 t v rfl rfl) h1 (fun m hm => hw m (.inl hm))
    obtain ⟨as0, a1, a2, a3⟩ := args_ty (fun t ht => hp t (by simp [ht])) (fun j t v h1 h2 => hok (j + 1) t v (by simpa using h1) (by simpa using h2)) h2 (fun m hm => hw m (.inr hm))
    refine ⟨x :: as0, ⟨x, as0, rfl, x1, a1⟩, by simp [a2], fun i u y hu hy => ?_⟩
    cases i with
    | zero => simp at hu hy; subst hu hy; exact x2
    | succ i => exact a3 i u y (by simpa using hu) (by simpa using hy)
theorem trodAll_stays (hl : laidOutB P = true) {W W' : World} (hb : Below W.heap.size W W') (sp : Nat → Bool) : ∀ {ts : List TypeId} {vs : List Value} {ds : List (DataW H)} {ps : List MemPlace},
    (∀ t ∈ ts, P.readableRec t = true ∧ t < P.types.size) → DataW.TrodAll enc P W 0 (fun _ => true) true ts vs ds ps → (∀ p ∈ ps, p.block < W.heap.size) → (∀ p ∈ ps, sp p.block = true) → DataW.TrodAll enc P W' 0 sp true ts vs ds ps
  | [], vs, ds, ps, _, h, _, _ => by
    obtain ⟨rfl, rfl, rfl⟩ := trodAll_nil h
    rfl
  | t :: ts, vs, ds, ps, hr, h, hlt, hs => by
    obtain ⟨v, vs1, d, ds1, a, b, rfl, rfl, rfl, h1, h2⟩ := trodAll_cons h
    exact ⟨a, b, WideElems.Trod_stays hl (hr t (by simp)).1 (hr t (by simp)).2 h1 (fun x hx => hb.same (hlt x (by simp [hx]))) (fun x hx => hs x (by simp [hx])),
      trodAll_stays hl hb sp (fun t ht => hr t (by simp [ht])) h2 (fun x hx => hlt x (by simp [hx])) (fun x hx => hs x (by simp [hx])), rfl⟩
/-- The law's row: its call ends in 'true' and has turned nothing that was there. -/
theorem law_post {f : Func} {s : ChangeSpec} {W W' : World} {args : Array Value} {ds gs : List (DataW H)} {before : List MemPlace} {tb : TypeId} (hl : laidOutB P = true)
    (hr : ∀ t ∈ f.params.toList, P.readableRec t = true ∧ t < P.types.size) (hvars : s.vars = []) (hres : f.resultTypes = #[tb]) (htb : P.underlying tb = some .bool)
    (hfn : (s.fn H ds) = { results := [.lit (.bool true)], args := ds }) (hW : DataW.Whole enc P f.params.toList s.vars false W args.toList ds gs before) (hb : Below W.heap.size W W') :
    s.post enc P f false true false false W args (.bool true) W' := by
  have hlt : ∀ p ∈ before, p.block < W.heap.size := fun p hp => hW.lt p hp
  have hW' := hW
  obtain ⟨p, q, hA, hV, rfl, hz, _⟩ := hW'
  rw [hvars] at hV
  obtain ⟨rfl, rfl⟩ := trodVars_none hV
  have hres' : (s.fn H (ds ++ [])).results = [.lit (.bool true)] := by rw [List.append_nil, hfn]
  have hargs' : (s.fn H (ds ++ [])).args = ds := by rw [List.append_nil, hfn]
  have hvars' : (s.fn H (ds ++ [])).vars = [] := by rw [List.append_nil, hfn]
  have hst : ∀ sp : Nat → Bool, (∀ x ∈ p, sp x.block = true) → DataW.TrodAll enc P W' 0 sp true f.params.toList args.toList ds p := fun sp hs =>
    trodAll_stays hl hb sp hr hA (fun x hx => hlt x (by simp [hx])) hs
  refine ⟨ds, [], p ++ [], [], p, [], hW, ?_, ?_, ?_, ?_, fun h => by cases h⟩
  · rw [hres', hres]
    exact trodAll_mk1 (shut_bool htb true)
  · rw [hargs']; exact hst _ (fun x hx => by simpa using hlt x (by simp [hx]))
  · rw [hvars', hvars]; rfl
  · refine World.keptBut_mono (fun x hx => ⟨hx, .inr (.inl (by simpa using hx))⟩) (hb.frame (· ∈ p ++ []))
theorem law_calls {f : FuncId} {fn : Func} {s : ChangeSpec} {W : World} {base : Nat} {args : Array Value} {ds gs : List (DataW H)} {before : List MemPlace} {tb : TypeId} (hl : laidOutB P = true)
    (hp : (fn.params.toList.all fun t => plainT P 30 t && P.readableRec t && decide (t < P.types.size)) = true) (hvars : s.vars = []) (hres : fn.resultTypes = #[tb]) (htb : P.underlying tb = some .bool)
    (hfn : ds.length = fn.params.size → (s.fn H ds) = { results := [.lit (.bool true)], args := ds })
    (law : ∀ as0, TyAs P fn.params.toList as0 → DCalls P f as0 noS fun r _ => r = .a (.one (.bool true)))
    (hval : ∀ (j : Nat) t v, fn.params[j]? = some t → args[j]? = some v → Value.okWide P W .any base t v)
    (hW : DataW.Whole enc P fn.params.toList s.vars false W args.toList ds gs before)
    (hw : ((DataW.weightsEach P (fn.params.toList ++ s.plain.varTypes P) (ds ++ gs)).all (· ≤ reachBytes)) = true) :
    Calls P f args W fun e W' => ∃ v, e = .returned v ∧ s.post enc P fn false true false false W args v W' := by
  simp only [List.all_eq_true, Bool.and_eq_true, decide_eq_true_eq] at hp
  have hW' := hW
  obtain ⟨p, q, hA, hV, rfl, hz, _⟩ := hW'
  have hg : gs = [] := by rw [hvars] at hV; exact (trodVars_none hV).1
  subst hg
  have hvt : s.plain.varTypes P = [] := by
    have : s.plain.vars = [] := hvars
    simp [DataSpec.varTypes, this]
  rw [hvt, List.append_nil, List.append_nil] at hw
  obtain ⟨as0, a1, a2, a3⟩ := args_ty (base := base) (fun t ht => (hp t ht).1.1) (fun j t v h1 h2 => hval j t v (by simpa using h1) (by simpa using h2)) hA (fun m hm => by
    have := of_decide_eq_true (List.all_eq_true.1 hw m hm)
    simpa [reachBytes] using this)
  have hlen : ds.length = fn.params.size := by
    have key : ∀ {ts : List TypeId} {vs : List Value} {ds : List (DataW H)} {ps : List MemPlace}, DataW.TrodAll enc P W 0 (fun _ => true) true ts vs ds ps → ds.length = ts.length := by
      intro ts
      induction ts with
      | nil => intro vs ds ps h; obtain ⟨_, rfl, _⟩ := trodAll_nil h; rfl
      | cons t ts ih => intro vs ds ps h; obtain ⟨v, vs1, d, ds1, a, b, _, rfl, _, _, h2⟩ := trodAll_cons h; simp [ih h2]
    simpa using key hA
  have hd := (law as0 a1).2 (allK W) noB W args srel0 (by simpa using a2) (fun i v x h1 h2 => a3 i v x (by simpa using h1) h2)
  refine hd.mono fun e W' ⟨v, r, σ', k', β', q1, q2, q3, q4, q5, q6⟩ => ⟨v, q1, ?_⟩
  subst q2
  have hv : v = .bool true := V.inv_bool q3
  subst hv
  exact law_post hl (fun t ht => ⟨(hp t ht).1.2, (hp t ht).2⟩) hvars hres htb (hfn hlen) hW ⟨q6.os, q6.tape, q6.output, q6.size, fun b hb => q6.block b hb (fun i bi hi => by cases hi)⟩
theorem law_lifted {C : Checked} {os : Os} {f : FuncId} {fn : Func} {s : ChangeSpec} {tb : TypeId} (own : ownKnob C.prog.godebug = none) (started : os.Started) (noInit : C.prog.inits.idxOf? f = none) (hf : C.prog.funcs[f]? = some fn)
    (witness : ∃ (w : World) (tape : Tape) (i : Input), w.os = os ∧ (w.forCall tape i).Shaped C.prog ∧ i.vars = [] ∧ Input.okWide C.prog (w.forCall tape i) .any w.heap.size f i ∧
      s.pre6 enc C.prog fn [] false (w.forCall tape i).memory i.args ∧ ({} : Assume).holds C.prog (lone (Frame.enter C.prog f i.args .normal) [] (w.forCall tape i)))
    (hl : laidOutB C.prog = true) (hp : (fn.params.toList.all fun t => plainT C.prog 30 t && C.prog.readableRec t && decide (t < C.prog.types.size)) = true) (hvars : s.vars = []) (hres : fn.resultTypes = #[tb])
    (htb : C.prog.underlying tb = some .bool) (hfn : ∀ ds : List (DataW H), ds.length = fn.params.size → (s.fn H ds) = { results := [.lit (.bool true)], args := ds })
    (law : ∀ as0, TyAs C.prog fn.params.toList as0 → DCalls C.prog f as0 noS fun r _ => r = .a (.one (.bool true))) :
    ReturnsInHanded {} C os f .any (s.pre6 enc C.prog fn [] false) (s.post enc C.prog fn false true false false) := by
  have e : (fun w args => (s.pre enc C.prog fn [] false w args ∧ True) ∧ sizedMet enc C.prog fn (OpenSpec.ofChange s) false w args) = s.pre6 enc C.prog fn [] false := by
    funext w args; simp [ChangeSpec.pre6]
  rw [← e]
  refine returnsInHanded_of_change_and (X := fun _ _ => True) (fun _ _ _ _ _ => trivial) own started noInit hf ?_ ?_
  · obtain ⟨w, tape, i, h1, h2, h3, h4, h5, h6⟩ := witness
    exact ⟨w, tape, i, h1, h2, h3, h4, ⟨⟨h5.1, trivial⟩, h5.2⟩, h6⟩
  · intro W base args ds gs before hval hW _ hw _ _
    exact law_calls hl hp hvars hres htb (hfn ds) law hval hW hw
end
end Go.Fw
end
section
set_option linter.unusedVariables false
set_option linter.unusedSimpArgs false
namespace Go.Fw
variable {P : Program} {σ σ' : Store} {el : TypeId} {d : D} {rs : List (List D)}
theorem w64_id {n : Int} (h1 : -9223372036854775808 ≤ n) (h2 : n ≤ 9223372036854775807) : w64 n = n := by
  simp only [w64, IntKind.wrap, IntKind.signed, IntKind.bits]; simp; omega
theorem w64_succ {j : Nat} (h : j < 2 ^ 62) : w64 ((j : Int) + 1) = ((j + 1 : Nat) : Int) := by
  rw [w64_id (by omega) (by omega)]; omega
/-- Cells of whole numbers. -/
abbrev iD (n : Int) : D := .int .i64 n
abbrev iA (n : Int) : A := .one (.int .i64 n)
abbrev bA (b : Bool) : A := .one (.bool b)
/-- A slice of so many rows, in a store. -/
structure At (P : Program) (σ : Store) (el : TypeId) (d : D) (rs : List (List D)) : Prop where
  rows : Rows P σ el d rs
  size : rs.length < 2 ^ 60
  es : ∀ es rows, d = .sl es rows → es = P.cellsOf el
theorem At.lenI (h : At P σ el d rs) : Len d rs.length := by
  have hr := h.rows
  cases d <;> simp only [Rows] at hr <;> try exact hr.elim
  · subst hr; rfl
  · subst hr; rfl
  · rw [hr.1]; rfl
  · obtain ⟨t, rows, h1, h2, h3, rfl⟩ := hr
    show _ = _
    simp; omega
theorem At.len {n : Nat} (h : At P σ el d rs) (hl : Len d n) : n = rs.length := by
  have hr := h.rows
  cases d <;> simp only [Rows] at hr <;> try exact hr.elim
  · subst hr; exact hl
  · subst hr; exact hl
  · rw [hr.1]; exact hl
  · obtain ⟨t, rows, h1, h2, h3, rfl⟩ := hr
    have : n = _ := hl
    simp; omega
theorem At.lenK {K : Nat → Prop} (h : At P σ el d rs) (hk : K rs.length) : ∃ len : Nat, Len d len ∧ K len := ⟨_, h.lenI, hk⟩
theorem At.row {i : Nat} {row : List D} (h : At P σ el d rs) (hi : rs[i]? = some row) : Row σ d i row := by
  have hr := h.rows
  have hlt := (List.getElem?_eq_some_iff.1 hi).1
  cases d <;> simp only [Rows] at hr <;> try exact hr.elim
  · subst hr; simp at hi
  · subst hr; simp at hi
  · rw [hr.1] at hi; exact hi
  · obtain ⟨t, rows, h1, h2, h3, rfl⟩ := hr
    refine ⟨?_, t, rows, h1, ?_⟩
    · simp at hlt; omega
    · rw [List.getElem?_take] at hi
      split at hi
      · rw [List.getElem?_drop] at hi; exact hi
      · cases hi
theorem At.idx {es : Nat} (h : At P σ el d rs) (hes : P.cellsOf el = es) (hne : 0 < rs.length) : Idx P σ d es rs.length := by
  have hr := h.rows
  subst hes
  cases d <;> simp only [Rows] at hr <;> try exact hr.elim
  · subst hr; simp at hne
  · subst hr; simp at hne
  · obtain ⟨rfl, h2⟩ := hr
    refine ⟨h2.resolve_left (fun e => by subst e; simp at hne), rfl⟩
  · obtain ⟨t, rows, h1, h2, h3, rfl⟩ := hr
    exact ⟨by simp; omega, t, rows, h1, h2⟩
/-- An element's place. -/
theorem At.idxK {es : Nat} {n : Int} {j : Nat} {K : Prop} (h : At P σ el d rs) (hes : P.cellsOf el = es) (hn : n = j) (hj : j < rs.length) (hk : K) :
    ∃ len : Nat, Idx P σ d es len ∧ 0 ≤ n ∧ n < (len : Int) ∧ K := ⟨_, h.idx hes (by omega), by omega, by omega, hk⟩
theorem At.rowK {i : Nat} {j : Nat} {row : List D} {K : List D → Prop} (h : At P σ el d rs) (hi : rs[j]? = some row) (hij : i = j) (hk : K row) : ∃ row, Row σ d i row ∧ K row := ⟨row, h.row (hij ▸ hi), hk⟩
/-- An element, read. -/
theorem At.load {es : Nat} {n : Int} {j : Nat} {row : List D} {K : List D → Prop} (h : At P σ el d rs) (hi : rs[j]? = some row) (hes : P.cellsOf el = es) (hn : n = j) (hk : K row) :
    ∃ len : Nat, Idx P σ d es len ∧ 0 ≤ n ∧ n < (len : Int) ∧ ∃ row, Row σ d n.toNat row ∧ K row :=
  h.idxK hes hn (List.getElem?_eq_some_iff.1 hi).1 (h.rowK hi (by omega) hk)
/-- What was there is as it was. -/
def Ext (σ σ' : Store) : Prop := ∀ i, σ i ≠ .free → σ' i = σ i
theorem Ext.refl (σ : Store) : Ext σ σ := fun _ _ => rfl
theorem Ext.trans {σ1 σ2 σ3 : Store} (h : Ext σ1 σ2) (h' : Ext σ2 σ3) : Ext σ1 σ3 := fun i hi => by
  have := h i hi
  rw [h' i (by rw [this]; exact hi), this]
theorem Ext.new {id : Nat} (h : σ id = .free) (so : SO) : Ext σ (σ.set id so) := fun i hi => Store.set_ne _ _ (fun e => hi (e ▸ h))
theorem Ext.set {σ0 : Store} {id : Nat} (h : Ext σ0 σ) (hid : σ0 id = .free) (so : SO) : Ext σ0 (σ.set id so) := fun i hi => by
  have hne : i ≠ id := fun e => hi (by rw [e]; exact hid)
  rw [Store.set_ne _ _ hne]; exact h i hi
theorem Rows.same (h : Rows P σ el d rs) (hs : ∀ id i len, d = .osl id i len → σ' id = σ id) : Rows P σ' el d rs := by
  cases d <;> first | exact h | skip
  obtain ⟨t, rows, h1, h2⟩ := h
  exact ⟨t, rows, by rw [hs _ _ _ rfl]; exact h1, h2⟩
theorem At.same (h : At P σ el d rs) (hs : ∀ id i len, d = .osl id i len → σ' id = σ id) : At P σ' el d rs := ⟨h.rows.same hs, h.size, h.es⟩
theorem At.ext (h : At P σ el d rs) (he : Ext σ σ') : At P σ' el d rs := h.same fun id i len e => he id (by
  have := h.rows; subst e
  obtain ⟨t, rows, h1, _⟩ := this
  rw [h1]; intro e; cases e)
theorem At.nil : At P σ el .nils [] := ⟨rfl, by simp, fun es rows e => by cases e⟩
theorem At.new {t : TypeId} {id : Nat} (rs : List (List D)) (h : σ id = .live t rs) (hes : P.cellsOf t = P.cellsOf el) (hsz : rs.length < 2 ^ 60) {n : Nat} (hn : n = rs.length) : At P σ el (.osl id 0 n) rs :=
  ⟨⟨t, rs, h, hes, by omega, by subst hn; simp⟩, hsz, fun es rows e => by cases e⟩
theorem At.fresh {id : Nat} {rs : List (List D)} (h : σ id = .live el rs) (hsz : rs.length < 2 ^ 60) {n : Nat} (hn : n = rs.length) : At P σ el (.osl id 0 n) rs := .new rs h rfl hsz hn
theorem newObj_intro {so : SO} {K : Nat → Store → Prop} (h : ∀ id σ', σ id = .free → σ' = σ.set id so → Ext σ σ' → σ' id = so → K id σ') : Fw.newObj σ so K :=
  fun id hid => h id _ hid rfl (Ext.new hid so) (Store.set_same _ _ _)
/-! ### cases -/
theorem bc {b : Bool} {x y : Prop} (h1 : b = true → x) (h2 : b = false → y) : bcase b x y := by cases b; exact h2 rfl; exact h1 rfl
theorem bcd {p : Prop} [Decidable p] {x y : Prop} (h1 : p → x) (h2 : ¬ p → y) : bcase (decide p) x y := bc (fun h => h1 (of_decide_eq_true h)) (fun h => h2 (of_decide_eq_false h))
theorem bce {a b : Int} {x y : Prop} (h1 : a = b → x) (h2 : a ≠ b → y) : bcase (a == b) x y := bc (fun h => h1 (by simpa using h)) (fun h => h2 (by simpa using h))
theorem bcn {a b : Int} {x y : Prop} (h1 : a ≠ b → x) (h2 : a = b → y) : bcase (a != b) x y := bc (fun h => h1 (by simpa using h)) (fun h => h2 (by simpa using h))
theorem bcnot {b : Bool} {x y : Prop} (h1 : b = false → x) (h2 : b = true → y) : bcase (!b) x y := by cases b; exact h1 rfl; exact h2 rfl
/-! ### calls -/
/-- A call that computes and leaves the store. -/
def Pure (P : Program) (f : FuncId) (as0 : List A) (σ : Store) (r : RV) : Prop := DCalls P f as0 σ fun r' σ' => r' = r ∧ σ' = σ
theorem Pure.use {f : FuncId} {as0 : List A} {r : RV} {Q : RV → Store → Prop} (h : Pure P f as0 σ r) (hq : Q r σ) : DCalls P f as0 σ Q := h.mono fun r' s ⟨h1, h2⟩ => by subst h1 h2; exact hq
/-! ### what a call hands back -/
theorem Fz.refl {S : Nat → Prop} {es : Nat} {rows : List (List D)} (h : ∀ row ∈ rows, ∀ d ∈ row, Fz P σ S d d) : Fz P σ S (.sl es rows) (.sl es rows) :=
  .sl es rows rows rfl (fun i row row' h1 h2 => by rw [h1] at h2; injection h2 with h2; rw [h2]) (fun i row row' j d d' h1 h2 h3 h4 => by
    rw [h1] at h2; injection h2 with h2; subst h2
    rw [h3] at h4; injection h4 with h4; subst h4
    exact h row (List.mem_of_getElem? h1) d (List.mem_of_getElem? h3))
/-- Flat data: whole numbers, truth values, texts. -/
inductive Flat : D → Prop
  | int (q n) : Flat (.int q n)
  | bool (b) : Flat (.bool b)
  | str (s) : Flat (.str s)
theorem Flat.fz {S : Nat → Prop} {d : D} (h : Flat d) : Fz P σ S d d := by cases h <;> constructor
theorem Fz.osl_flat {S : Nat → Prop} {id i len : Nat} {rows' : List (List D)} {t : TypeId} {rows : List (List D)} (hn : ¬ S id) (hs : σ id = .live t rows) (hi : i + len ≤ rows.length) (hr : rows' = (rows.drop i).take len)
    (hf : ∀ row ∈ rows', ∀ d ∈ row, Flat d) : Fz P σ S (.osl id i len) (.sl (P.cellsOf t) rows') := by
  have hl : rows'.length = len := by rw [hr]; simp; omega
  have key : ∀ (j : Nat) row row', rows[i + j]? = some row → rows'[j]? = some row' → row' = row := fun j row row' h1 h2 => by
    have hlt := (List.getElem?_eq_some_iff.1 h2).1
    rw [hr, List.getElem?_take, if_pos (by omega), List.getElem?_drop, h1] at h2
    injection h2 with h2; exact h2.symm
  exact .osl id i len t rows rows' hn hs hi hl (fun j row row' h1 h2 => by rw [key j row row' h1 h2]) (fun j row row' m d d' h1 h2 h3 h4 => by
    have e := key j row row' h1 h2
    subst e
    rw [h3] at h4; injection h4 with h4; subst h4
    exact (hf row' (List.mem_of_getElem? h2) d (List.mem_of_getElem? h3)).fz)
theorem Ret.pure {σ0 : Store} {r r' : RV} (he : Ext σ0 σ) (hr : FzR P σ (fun i => σ0 i ≠ .free) r r') : Ret P σ0 σ r σ0 r' :=
  ⟨fun i => σ0 i ≠ .free, fun i h => h, fun i h => Classical.not_not.1 h, fun i h => .inl ⟨(he i h).symm, he i h⟩, hr⟩
theorem FzL.cons {S : Nat → Prop} {d d' : D} {ds ds' : List D} (h : Fz P σ S d d') (ht : FzL P σ S ds ds') : FzL P σ S (d :: ds) (d' :: ds') :=
  ⟨by simp [ht.1], fun i x y h1 h2 => by
    cases i with
    | zero => simp at h1 h2; subst h1 h2; exact h
    | succ i => exact ht.2 i x y (by simpa using h1) (by simpa using h2)⟩
theorem FzL.nil {S : Nat → Prop} : FzL P σ S [] [] := ⟨rfl, fun i x y h => by simp at h⟩
theorem FzL.flat {S : Nat → Prop} {ds : List D} (h : ∀ d ∈ ds, Flat d) : FzL P σ S ds ds :=
  ⟨rfl, fun i x y h1 h2 => by rw [h1] at h2; injection h2 with h2; subst h2; exact (h x (List.mem_of_getElem? h1)).fz⟩
/-- A flat slice that a call has made, handed back as plain data. -/
theorem ret_slice {σ0 : Store} {rs : List (List D)} (h : At P σ el d rs) (he : Ext σ0 σ) (hid : ∀ id i len, d = .osl id i len → σ0 id = .free) (hf : ∀ row ∈ rs, ∀ x ∈ row, Flat x) :
    ∃ d', Fz P σ (fun i => σ0 i ≠ .free) d d' ∧ (∀ σ'', At P σ'' el d' rs) := by
  have hr := h.rows
  cases d <;> simp only [Rows] at hr <;> try exact hr.elim
  · subst hr; exact ⟨.nils, .nils, fun _ => .nil⟩
  · subst hr; exact ⟨.zsl, .zsl, fun _ => ⟨rfl, by simp, fun es rows e => by cases e⟩⟩
  · rename_i es rows
    obtain ⟨rfl, h3⟩ := hr
    exact ⟨_, .refl fun row hrow x hx => (hf row hrow x hx).fz, fun σ'' => ⟨⟨rfl, h3⟩, h.size, h.es⟩⟩
  · obtain ⟨t, rows, q1, q2, q3, rfl⟩ := hr
    rename_i id i len
    refine ⟨.sl (P.cellsOf t) ((rows.drop i).take len), .osl_flat (fun hn => hn (hid _ _ _ rfl)) q1 q3 rfl hf, fun σ'' => ⟨⟨rfl, .inr q2⟩, h.size, fun es rows e => ?_⟩⟩
    injection e with e1 e2
    rw [← e1]; exact q2
/-! ### slices that grow -/
/-- A slice of the call's own. -/
structure Own (P : Program) (σ0 σ : Store) (el : TypeId) (d : D) (rs : List (List D)) : Prop where
  at_ : At P σ el d rs
  ext : Ext σ0 σ
  new : ∀ id i len, d = .osl id i len → σ0 id = .free
  nsl : ¬ isSl d
  nz : d ≠ .zsl
theorem Own.nil (σ0 : Store) (h : Ext σ0 σ) : Own P σ0 σ el .nils [] := ⟨.nil, h, fun id i len e => (by cases e), fun h => h, by intro e; cases e⟩
theorem Own.ext' {σ0 : Store} (h : Own P σ0 σ el d rs) (he : Ext σ σ') : Own P σ0 σ' el d rs := ⟨h.at_.ext he, h.ext.trans he, h.new, h.nsl, h.nz⟩
theorem Own.append {σ0 : Store} {x : D} {ns : List (List D)} {bytes : Nat} {K : D → Store → Prop} (h : Own P σ0 σ el d rs) (hx : At P σ el x ns) (hb : bytes * (rs.length + ns.length) ≤ 140737488355328)
    (hsz : rs.length + ns.length < 2 ^ 60) (hk : ∀ d' σ', Own P σ0 σ' el d' (rs ++ ns) → (∀ i, σ i ≠ .free → (∀ a b, d ≠ .osl i a b) → σ' i = σ i) → (∀ i a b, d' = .osl i a b → σ i = .free ∨ ∃ a b, d = .osl i a b) → K d' σ') : appendTo P σ el bytes d x K := by
  refine ⟨rs, ns, h.at_.rows, hx.rows, hb, fun hs => absurd hs h.nsl, fun d' σ' ha => ?_⟩
  have hl : (rs ++ ns).length < 2 ^ 60 := by simp; omega
  rcases ha with ⟨rfl, rfl, rfl⟩ | ⟨hne, id, hid, rfl, rfl⟩ | ⟨hne, id, i0, len, t, rows, rfl, hlive, rfl, rfl⟩
  · refine hk _ _ ?_ (fun i _ _ => rfl) (fun i a b e => .inr ⟨a, b, e⟩)
    rw [List.append_nil]; exact h
  · refine hk _ _ ⟨.new (t := el) _ (Store.set_same _ _ _) rfl hl (by simp), fun i hi => ?_, fun id' i len e => ?_, fun h => h, by intro e; cases e⟩ (fun i hi _ => ?_) (fun i a b e => .inl ?_)
    · rw [Store.set_ne _ _ (fun e => ?_)]
      · exact h.ext i hi
      · subst e
        have := h.ext i hi
        rw [hid] at this; exact hi this.symm
    · injection e with e1; subst e1
      by_cases hf : σ0 id = .free
      · exact hf
      · have := h.ext id hf
        rw [hid] at this; exact this.symm
    · exact Store.set_ne _ _ (fun e => hi (e ▸ hid))
    · injection e with e1; subst e1; exact hid
  · have hrow := h.at_.rows
    obtain ⟨t', rows', q1, q2, q3, hrs⟩ := hrow
    rw [hlive] at q1; injection q1 with q1 q1'; subst q1 q1'
    have hnew := h.new id i0 len rfl
    have hlen : rs.length = len := by rw [hrs]; simp; omega
    refine hk _ _ ⟨⟨⟨t, _, Store.set_same _ _ _, q2, ?_, ?_⟩, hl, fun es rows e => by cases e⟩, h.ext.set hnew _, fun id' i l e => ?_, fun h => h, by intro e; cases e⟩ (fun i hi hd => Store.set_ne _ _ (fun e => hd i0 len (by rw [e]))) (fun i a b e => .inr ?_)
    · simp; omega
    · have e1 : rows.take (i0 + len) = rows.take i0 ++ rs := by
        rw [List.take_add, hrs]
      rw [e1, List.append_assoc, List.append_assoc, List.drop_append_of_le_length (by simp; omega)]
      have e2 : (rows.take i0).drop i0 = [] := by rw [List.drop_eq_nil_iff]; simp; omega
      rw [e2, List.nil_append, ← List.append_assoc, List.take_append_of_le_length (by simp; omega), List.take_of_length_le (by simp; omega)]
    · injection e with e1; subst e1; exact hnew
    · injection e with e1; subst e1; exact ⟨_, _, rfl⟩
/-! ### ranges -/
theorem drop_get {α : Type} {l : List α} {j : Nat} {x : α} (h : l[j]? = some x) : l.drop j = x :: l.drop (j + 1) := by
  obtain ⟨h1, h2⟩ := List.getElem?_eq_some_iff.1 h
  rw [List.drop_eq_getElem_cons h1, h2]
theorem drop_end {α : Type} {l : List α} {j : Nat} (h : l.length ≤ j) : l.drop j = [] := List.drop_eq_nil_iff.2 h
theorem get_of_lt {α : Type} {l : List α} {j : Nat} (h : j < l.length) : ∃ x, l[j]? = some x := ⟨l[j], List.getElem?_eq_getElem h⟩
theorem map_get {α β : Type} {f : α → β} {l : List α} {j : Nat} {x : α} (h : l[j]? = some x) : (l.map f)[j]? = some (f x) := by simp [h]
/-- How far a range over a list has come: F speaks of what is left. -/
def Rng {α : Type} (l : List α) (F : List α → Prop) (n : Int) : Prop := ∃ j : Nat, n = j ∧ j ≤ l.length ∧ F (l.drop j)
theorem Rng.start {α : Type} {l : List α} {F : List α → Prop} (h : F l) : Rng l F 0 := ⟨0, rfl, by omega, h⟩
theorem Rng.step {α : Type} {l : List α} {F : List α → Prop} {n : Int} {m : Nat} (h : Rng l F n) (hm : m = l.length) (hl : l.length < 2 ^ 60) (hlt : n < (m : Int)) :
    ∃ (j : Nat) (x : α), n = j ∧ l[j]? = some x ∧ j < l.length ∧ F (x :: l.drop (j + 1)) ∧
      ∀ F' : List α → Prop, F' (l.drop (j + 1)) → Rng l F' (w64 (n + 1)) ∧ l.length - (w64 (n + 1)).toNat < l.length - n.toNat := by
  obtain ⟨j, rfl, hj, hF⟩ := h
  have hj' : j < l.length := by omega
  obtain ⟨x, hx⟩ := get_of_lt hj'
  refine ⟨j, x, rfl, hx, hj', by rw [← drop_get hx]; exact hF, fun F' h' => ?_⟩
  rw [w64_succ (by omega)]
  exact ⟨⟨j + 1, rfl, by omega, h'⟩, by omega⟩
theorem Rng.done {α : Type} {l : List α} {F : List α → Prop} {n : Int} {m : Nat} (h : Rng l F n) (hm : m = l.length) (hge : ¬ n < (m : Int)) : F [] := by
  obtain ⟨j, rfl, hj, hF⟩ := h
  rw [drop_end (by omega)] at hF; exact hF
theorem andl {p a b : Prop} (hp : p) (h : a ∧ b) : (p ∧ a) ∧ b := ⟨⟨hp, h.1⟩, h.2⟩
/-! ### maps -/
/-- A map that holds f: keys by enc. -/
def MapAt {κ : Type} (P : Program) (kt : TypeId) (enc : κ → A) (σ : Store) (id : Nat) (f : κ → Option A) : Prop :=
  ∃ clock es, σ id = .mp clock es ∧ keysOk P kt es ∧ ∀ x, findM (enc x) es = f x
/-- Keys that differ are told apart. -/
def Keys {κ : Type} (P : Program) (kt : TypeId) (enc : κ → A) : Prop := (∀ x, keyOk P kt (enc x) = true) ∧ ∀ x y, eqA (enc x) (enc y) = true ↔ x = y
variable {κ : Type} {kt : TypeId} {enc : κ → A} {id : Nat} {f : κ → Option A}
theorem MapAt.new (h : σ id = .mp 0 []) : MapAt P kt enc σ id fun _ => none := ⟨0, [], h, fun e he => (by cases he), fun x => rfl⟩
theorem MapAt.same (h : MapAt P kt enc σ id f) (hs : σ' id = σ id) : MapAt P kt enc σ' id f := by
  obtain ⟨c, es, h1, h2⟩ := h
  exact ⟨c, es, hs.trans h1, h2⟩
theorem MapAt.look (hk : Keys P kt enc) (h : MapAt P kt enc σ id f) (x : κ) : MLook P kt σ (.omap id) (enc x) (f x) := by
  obtain ⟨c, es, h1, h2, h3⟩ := h
  exact ⟨hk.1 x, .inr ⟨id, c, es, rfl, h1, h2, (h3 x).symm⟩⟩
theorem MapAt.lookI (hk : Keys P kt enc) (h : MapAt P kt enc σ id f) (x : κ) {n : Int} {K : Int → Prop} (hn : (f x).getD (iA 0) = iA n) (hK : K n) :
    ∃ r : Option A, MLook P kt σ (.omap id) (enc x) r ∧ ∃ n : Int, Option.getD r (iA 0) = iA n ∧ K n := ⟨_, h.look hk x, n, hn, hK⟩
theorem eqA_symm (x y : A) : eqA x y = eqA y x := by
  unfold eqA
  generalize aCells x = as0
  generalize aCells y = bs
  induction as0 generalizing bs with
  | nil => cases bs <;> rfl
  | cons a as0 ih =>
    cases bs with
    | nil => rfl
    | cons b bs =>
      simp only [eqCells, ih]
      congr 1
      cases a <;> cases b <;> simp [eqCell]
      · exact Bool.eq_iff_iff.2 (by simp; exact eq_comm)
      · exact Bool.eq_iff_iff.2 (by simp; exact eq_comm)
      · exact Bool.eq_iff_iff.2 (by rw [MapKept.bytes_beq, MapKept.bytes_beq]; exact eq_comm)
theorem findM_append {x : A} {es : List Ent} {e : Ent} : findM x (es ++ [e]) = (findM x es).or (if eqA x e.2.1 = true then some e.2.2 else none) := by
  unfold findM
  rw [List.find?_append]
  cases es.find? (fun e => eqA x e.2.1) with
  | some w => simp
  | none =>
    simp only [Option.none_or, Option.map_none, List.find?_cons, List.find?_nil]
    cases eqA x e.2.1 <;> simp
theorem findM_set {x y : A} {es : List Ent} {j : Nat} {e : Ent} {v : A} (hf : FirstAt y es j e) : findM x (es.set j (e.1, y, v)) = if eqA x y = true then some v else findM x es := by
  unfold findM
  induction es generalizing j with
  | nil => simp [FirstAt] at hf
  | cons e0 es ih =>
    cases j with
    | zero =>
      obtain ⟨h1, h2, _⟩ := hf
      simp at h1; subst h1
      simp only [List.set_cons_zero, List.find?_cons]
      have := eqA_congr h2 x
      cases hxy : eqA x y with
      | true => simp
      | false => rw [hxy] at this; simp [← this]
    | succ j =>
      obtain ⟨h1, h2⟩ := hf.tail
      have ih := ih h2
      simp only [List.set_cons_succ, List.find?_cons]
      cases h0 : eqA x e0.2.1 with
      | true =>
        have hxy : eqA x y = false := by
          cases hxy : eqA x y with
          | false => rfl
          | true =>
            rw [eqA_symm] at hxy
            have := eqA_congr hxy e0.2.1
            rw [eqA_symm e0.2.1 y, h1, eqA_symm e0.2.1 x, h0] at this
            cases this
        simp [hxy]
      | false => simp only [ih]
theorem findM_none {x : A} {es : List Ent} (h : ∀ e ∈ es, eqA x e.2.1 = false) : findM x es = none := by simp [findM, find_none h]
/-- What a put leaves, key by key. -/
theorem mput_spec {clock : Nat} {es : List Ent} {y v : A} (hy : keyOk P kt y = true) (hk : keysOk P kt es) : ∃ c es', mput clock es y v = .mp c es' ∧ keysOk P kt es' ∧ ∀ x, findM x es' = if eqA x y = true then some v else findM x es := by
  rcases put_cases clock es y v with ⟨hn, e1, _, _⟩ | ⟨j, e, hf, e1, _, _⟩
  · refine ⟨_, _, e1, fun w hw => ?_, fun x => ?_⟩
    · rcases List.mem_append.1 hw with hw | hw
      · exact hk w hw
      · simp at hw; subst hw; exact hy
    · rw [findM_append]
      by_cases hxy : eqA x y = true
      · have hnx : findM x es = none := findM_none fun e he => by
          have h1 := hn e he
          have := eqA_congr (by rw [eqA_symm]; exact hxy : eqA y x = true) e.2.1
          rw [eqA_symm e.2.1 y, h1, eqA_symm e.2.1 x] at this
          exact this.symm
        simp [hxy, hnx]
      · simp [hxy]
  · refine ⟨_, _, e1, fun w hw => ?_, fun x => findM_set hf⟩
    rcases List.mem_or_eq_of_mem_set hw with hw | hw
    · exact hk w hw
    · subst hw; exact hy
theorem MapAt.put (hk : Keys P kt enc) (h : MapAt P kt enc σ id f) (x : κ) {v : A} {K : Store → Prop}
    (hK : ∀ σ' f', MapAt P kt enc σ' id f' → (∀ z, z ≠ x → f' z = f z) → f' x = some v → (∀ i, i ≠ id → σ' i = σ i) → σ' id ≠ .free → K σ') : MPut P kt σ (.omap id) (enc x) v K := by
  obtain ⟨c, es, h1, h2, h3⟩ := h
  obtain ⟨c', es', e1, e2, e3⟩ := mput_spec (clock := c) (v := v) (hk.1 x) h2
  refine ⟨id, c, es, ⟨hk.1 x, rfl, h1, h2⟩, ?_⟩
  rw [e1]
  exact hK _ (fun z => findM (enc z) es') ⟨c', es', Store.set_same _ _ _, e2, fun z => rfl⟩ (fun z hz => by rw [e3, if_neg (fun h => hz ((hk.2 z x).1 h)), h3]) (by rw [e3, if_pos ((hk.2 x x).2 rfl)])
    (fun i hi => Store.set_ne _ _ hi) (by rw [Store.set_same]; intro e; cases e)
/-- 'm[x] += ..': its entry is found or made, then written. -/
theorem MapAt.bump (hk : Keys P kt enc) (h : MapAt P kt enc σ id f) (x : κ) {z v : A} {K : Store → Prop}
    (hK : ∀ σ' f', MapAt P kt enc σ' id f' → (∀ z, z ≠ x → f' z = f z) → f' x = some v → (∀ i, i ≠ id → σ' i = σ i) → σ' id ≠ .free → K σ') :
    MEntry P kt σ (.omap id) (enc x) z fun _ n σ' => MStamp σ' (.omap id) n v K := by
  obtain ⟨c, es, h1, h2, h3⟩ := h
  refine ⟨id, c, es, ⟨hk.1 x, rfl, h1, h2⟩, fun hb => ?_⟩
  have fin : ∀ (c' : Nat) (es1 : List Ent), keysOk P kt es1 → (∀ y, findM y (stampL (mstamp c es (enc x)) v es1) = if eqA y (enc x) = true then some v else findM y es) → keysOk P kt (stampL (mstamp c es (enc x)) v es1) →
      mput c es (enc x) ((findM (enc x) es).getD z) = .mp c' es1 → (∃ e ∈ es1, (e.1 : Int) = (mstamp c es (enc x) : Nat)) →
      MStamp (σ.set id (mput c es (enc x) ((findM (enc x) es).getD z))) (.omap id) (mstamp c es (enc x) : Nat) v K := by
    intro c' es1 hk1 hf hk2 he hm
    refine ⟨id, c', es1, rfl, by rw [Store.set_same, he], hm, ?_⟩
    exact hK _ (fun y => findM (enc y) (stampL (mstamp c es (enc x)) v es1)) ⟨c', _, Store.set_same _ _ _, hk2, fun y => rfl⟩ (fun y hy => by rw [hf, if_neg (fun h => hy ((hk.2 y x).1 h)), h3]) (by rw [hf, if_pos ((hk.2 x x).2 rfl)])
      (fun i hi => by rw [Store.set_ne _ _ hi, Store.set_ne _ _ hi]) (by rw [Store.set_same]; intro e; cases e)
  rcases put_cases c es (enc x) ((findM (enc x) es).getD z) with ⟨hn, e1, e2, e3⟩ | ⟨j, e, hf, e1, e2, e3⟩
  · rw [e2, Option.getD_none] at e1
    have hst : stampL (mstamp c es (enc x)) v (es ++ [(c, enc x, z)]) = es ++ [(c, enc x, v)] := by
      have hj : (es ++ [(c, enc x, z)])[es.length]? = some (c, enc x, z) := by simp
      rw [stampL_at (hb.push (enc x) z).2 hj (by rw [e3])]
      simp
    refine fin (c + 1) (es ++ [(c, enc x, z)]) (fun w hw => ?_) (fun y => ?_) ?_ (by rw [e2, Option.getD_none]; exact e1) ⟨(c, enc x, z), List.mem_append_right _ (List.mem_singleton.2 rfl), by rw [e3]⟩
    · rcases List.mem_append.1 hw with hw | hw
      · exact h2 w hw
      · simp at hw; subst hw; exact hk.1 x
    · rw [hst, findM_append]
      by_cases hxy : eqA y (enc x) = true
      · have hnx : findM y es = none := findM_none fun e he => by
          have h1 := hn e he
          have := eqA_congr (by rw [eqA_symm]; exact hxy : eqA (enc x) y = true) e.2.1
          rw [eqA_symm e.2.1 (enc x), h1, eqA_symm e.2.1 y] at this
          exact this.symm
        simp [hxy, hnx]
      · simp [hxy]
    · rw [hst]
      intro w hw
      rcases List.mem_append.1 hw with hw | hw
      · exact h2 w hw
      · simp at hw; subst hw; exact hk.1 x
  · rw [e2, Option.getD_some] at e1
    have hlt := (List.getElem?_eq_some_iff.1 hf.1).1
    have hj : (es.set j (e.1, enc x, e.2.2))[j]? = some (e.1, enc x, e.2.2) := by simp [hlt]
    have hst : stampL (mstamp c es (enc x)) v (es.set j (e.1, enc x, e.2.2)) = es.set j (e.1, enc x, v) := by
      rw [stampL_at (hb.set hf.1 (enc x) e.2.2).2 hj (by rw [e3]), List.set_set]
    refine fin c (es.set j (e.1, enc x, e.2.2)) (fun w hw => ?_) (fun y => by rw [hst]; exact findM_set hf) ?_ (by rw [e2, Option.getD_some]; exact e1) ⟨_, List.mem_of_getElem? hj, by rw [e3]⟩
    · rcases List.mem_or_eq_of_mem_set hw with hw | hw
      · exact h2 w hw
      · subst hw; exact hk.1 x
    · rw [hst]
      intro w hw
      rcases List.mem_or_eq_of_mem_set hw with hw | hw
      · exact h2 w hw
      · subst hw; exact hk.1 x
theorem osl_new {σ0 : Store} {id i0 n : Nat} (h : σ0 id = .free) : ∀ id' i len, D.osl id i0 n = .osl id' i len → σ0 id' = .free := fun id' i len e => by
  have := (D.osl.inj e).1
  rw [← this]; exact h
/-- A result without ids. -/
inductive FlatR : RV → Prop
  | one (x : D) (h : Flat x) : FlatR (.a (.one x))
  | agg (ds : List D) (h : ∀ d ∈ ds, Flat d) : FlatR (.a (.agg ds))
  | tup (ds : List D) (h : ∀ d ∈ ds, Flat d) : FlatR (.tup (ds.map .one))
theorem FlatR.fz {S : Nat → Prop} {r : RV} (h : FlatR r) : FzR P σ S r r := by
  cases h with
  | one d h => exact h.fz
  | agg ds h => exact FzL.flat h
  | tup ds h =>
    refine ⟨rfl, fun i x y h1 h2 => ?_⟩
    rw [h1] at h2; injection h2 with h2; subst h2
    simp only [List.getElem?_map, Option.map_eq_some_iff] at h1
    obtain ⟨d, h1, rfl⟩ := h1
    exact (h d (List.mem_of_getElem? h1)).fz
theorem Pure.of {f : FuncId} {as0 : List A} {r : RV} (h : DCalls P f as0 σ fun r' s => r' = r ∧ Ext σ s) (hf : FlatR r) : Pure P f as0 σ r :=
  h.ret fun r' s ⟨h1, h2⟩ => by subst h1; exact ⟨r', σ, .pure h2 hf.fz, rfl, rfl⟩
theorem flat_i (n : Int) : FlatR (.a (iA n)) := .one _ (.int _ _)
theorem flat_b (b : Bool) : FlatR (.a (bA b)) := .one _ (.bool _)
theorem keys_int2 (h : ∀ a b : Int, keyOk P kt (.agg [iD a, iD b]) = true) : Keys P kt fun p : Int × Int => .agg [iD p.1, iD p.2] :=
  ⟨fun x => h _ _, fun x y => by simp [eqA, eqCells, aCells, eqCell, Prod.ext_iff]⟩
end Go.Fw
end
section
namespace Go.Fw
structure Sec where
  Kind : Int
  OC : Int
  Line : Int
structure Jt where
  A : Int
  AEnd : Int
  B : Int
  BEnd : Int
structure Sg where
  Sec : Int
  End_ : Int
  deriving DecidableEq
structure St where
  Sec : Int
  In : Int
  Out : Int
structure Nd where
  Sec : Int
  Pos : Int
  deriving DecidableEq
def Sec.enc (s : Sec) : List D := [iD s.Kind, iD s.OC, iD s.Line]
def Jt.enc (s : Jt) : List D := [iD s.A, iD s.AEnd, iD s.B, iD s.BEnd]
def Sg.enc (s : Sg) : List D := [iD s.Sec, iD s.End_]
def St.enc (s : St) : List D := [iD s.Sec, iD s.In, iD s.Out]
def Nd.enc (s : Nd) : List D := [iD s.Sec, iD s.Pos]
def encI (n : Int) : List D := [iD n]
def wayL (k : Int) : List (Int × Int × Int) :=
  if k = 0 then [(0, 1, 0)] else if k = 1 then [(0, 1, 1), (0, 2, 2)] else if k = 2 then [(0, 1, 0), (2, 3, 0)] else []
def encW (w : Int × Int × Int) : List D := [iD w.1, iD w.2.1, iD w.2.2]
def nends (k : Int) : Int := if k = 0 then 2 else if k = 1 then 3 else if k = 2 then 4 else 0
def endStep (n : Int) (w : Int × Int × Int) : Int :=
  ite (w64 (w.2.1 + 1) > ite (w64 (w.1 + 1) > n) (w64 (w.1 + 1)) n) (w64 (w.2.1 + 1)) (ite (w64 (w.1 + 1) > n) (w64 (w.1 + 1)) n)
theorem ends_eq (k : Int) : (wayL k).foldl endStep 0 = nends k := by
  unfold wayL nends
  split
  · decide
  · split
    · decide
    · split
      · decide
      · rfl
/-- In which position a way goes. -/
def wpos : List (Int × Int × Int) → Int → Int → Option Int
  | [], _, _ => none
  | w :: r, i, o => if (w.1 = i ∧ w.2.1 = o) ∨ (w.2.1 = i ∧ w.1 = o) then some w.2.2 else wpos r i o
/-- What meets an end. -/
def nxt : List Jt → Int → Int → Option (Int × Int)
  | [], _, _ => none
  | j :: r, s, e => if j.A = s ∧ j.AEnd = e then some (j.B, j.BEnd) else if j.B = s ∧ j.BEnd = e then some (j.A, j.AEnd) else nxt r s e
/-- Two whole numbers and whether they are there. -/
def opt2 : Option (Int × Int) → RV
  | none => .tup [iA 0, iA 0, bA false]
  | some p => .tup [iA p.1, iA p.2, bA true]
def opt1 : Option Int → RV
  | none => .tup [iA 0, bA false]
  | some p => .tup [iA p, bA true]
/-- In how many joints' places an end stands. -/
def cnt : List Jt → Int → Int → Int
  | [], _, _ => 0
  | j :: r, s, e => (if j.A = s ∧ j.AEnd = e then 1 else 0) + (if j.B = s ∧ j.BEnd = e then 1 else 0) + cnt r s e
/-- The first place of a number, counted from j on; -1: none. -/
def idxOf : List Int → Int → Nat → Int
  | [], _, _ => -1
  | x :: r, v, j => if v = x then j else idxOf r v (j + 1)
/-! ### is the plan right? -/
def kindAt (secs : List Sec) (i : Int) : Int := (secs[i.toNat]?.map Sec.Kind).getD (-1)
/-- An end that there is. -/
def spotOk (secs : List Sec) (p : Int × Int) : Bool := decide (0 ≤ p.1 ∧ p.1 ≤ (secs.length : Int) - 1) && decide (0 ≤ p.2 ∧ p.2 ≤ nends (kindAt secs p.1) - 1)
def prun (secs : List Sec) : List (Int × Int) → List (Int × Int) → Option (List (Int × Int))
  | [], tk => some tk
  | p :: r, tk => if spotOk secs p = true ∧ p ∉ tk then prun secs r (p :: tk) else none
def Jt.spots (j : Jt) : List (Int × Int) := [(j.A, j.AEnd), (j.B, j.BEnd)]
def jrun (secs : List Sec) : List Jt → List (Int × Int) → Option (List (Int × Int))
  | [], tk => some tk
  | j :: r, tk => match prun secs j.spots tk with
    | none => none
    | some tk' => if j.A = j.B then none else jrun secs r tk'
def srun (tk : List (Int × Int)) : List Sec → Int → List Int → Bool
  | [], _, _ => true
  | s :: r, i, ls => if nends s.Kind = 0 ∨ ¬ (0 ≤ s.OC ∧ s.OC ≤ 3) ∨ ¬ (0 ≤ s.Line ∧ s.Line ≤ 3) ∨ s.Line ≠ 0 ∧ (s.Kind ≠ 0 ∨ (i, 1) ∈ tk ∨ s.Line ∈ ls) then false else srun tk r (i + 1) (s.Line :: ls)
def topoOk (secs : List Sec) (js : List Jt) : Bool :=
  decide (1 ≤ secs.length ∧ secs.length ≤ 16 ∧ js.length ≤ 24) && match jrun secs js [] with
    | none => false
    | some tk => srun tk secs 0 []
theorem nends_le (k : Int) : 0 ≤ nends k ∧ nends k ≤ 4 := by unfold nends; split <;> (try split) <;> (try split) <;> omega
end Go.Fw
end
section
namespace Go.Proofs.Yteflnjedfmmddaa
open Go.Fw
theorem mixed : Go.Proofs.Try.prog.follows .mixedOrders = true := Go.Proofs.Try.checked.mixed
abbrev n_law16_ArsDue : FuncId := 4
abbrev n_law16_ArsOnce : FuncId := 5
abbrev n_law16_ArsBerths : FuncId := 7
abbrev n_law16_ArsStays : FuncId := 8
abbrev n_ref01_SameInts : FuncId := 15
abbrev n_law16_lives : FuncId := 18
abbrev n_ars_Due : FuncId := 19
abbrev n_ars_Check : FuncId := 20
abbrev n_ars_Berths : FuncId := 23
abbrev n_locks_New : FuncId := 25
abbrev n_locks_Fits : FuncId := 26
abbrev n_conf_Approach : FuncId := 37
abbrev n_slices_SortStableFunc_ars_due : FuncId := 38
abbrev n_ars_Due_1 : FuncId := 39
abbrev n_conf_Check : FuncId := 40
abbrev n_ars_between : FuncId := 41
abbrev n_slices_Clone_int : FuncId := 46
abbrev n_slices_Repeat_int : FuncId := 47
abbrev n_locks_movers : FuncId := 48
abbrev n_locks_between : FuncId := 49
abbrev n_locks_times : FuncId := 50
abbrev n_slices_Concat_Mover : FuncId := 51
abbrev n_conf_plan_approach : FuncId := 61
abbrev n_slices_stableCmpFunc_ars_due : FuncId := 62
abbrev n_topo_Check : FuncId := 63
abbrev n_conf_plan_signals : FuncId := 64
abbrev n_conf_plan_crossings : FuncId := 65
abbrev n_conf_plan_route : FuncId := 66
abbrev n_conf_between : FuncId := 67
abbrev n_math_bits_Mul : FuncId := 76
abbrev n_mover_Start : FuncId := 77
abbrev n_slices_Repeat_Mover : FuncId := 78
abbrev n_slices_Grow_Mover : FuncId := 79
abbrev n_topo_Pos : FuncId := 82
abbrev n_slices_ContainsFunc_Step : FuncId := 83
abbrev n_conf_plan_signal : FuncId := 86
abbrev n_slices_insertionSortCmpFunc_ars_due : FuncId := 87
abbrev n_slices_symMergeCmpFunc_ars_due : FuncId := 88
abbrev n_topo_between : FuncId := 89
abbrev n_topo_Ends : FuncId := 90
abbrev n_topo_Next : FuncId := 91
abbrev n_conf_plan_section : FuncId := 92
abbrev n_conf_plan_path : FuncId := 93
abbrev n_slices_Equal_Need : FuncId := 94
abbrev n_conf_plan_flank : FuncId := 95
abbrev n_slices_Equal_int : FuncId := 96
abbrev n_conf_plan_overlap : FuncId := 97
abbrev n_math_bits_Mul64 : FuncId := 106
abbrev n_slices_Index_int : FuncId := 107
abbrev n_topo_ways : FuncId := 108
abbrev n_topo_way_other : FuncId := 109
abbrev n_slices_IndexFunc_Step : FuncId := 110
abbrev n_slices_Contains_Signal : FuncId := 113
abbrev n_conf_has : FuncId := 114
abbrev n_slices_ContainsFunc_Need : FuncId := 115
abbrev n_conf_plan_flank_1 : FuncId := 116
abbrev n_slices_Index_Signal : FuncId := 118
abbrev n_conf_has_1 : FuncId := 119
abbrev n_slices_IndexFunc_Need : FuncId := 120
abbrev t_int : TypeId := 3
abbrev t_bool : TypeId := 4
abbrev t_sl_int : TypeId := 25
abbrev t_Config : TypeId := 30
abbrev t_sl_Mover : TypeId := 32
abbrev t_Breach : TypeId := 42
abbrev t_law16_World : TypeId := 51
abbrev t_law16_Ask : TypeId := 55
abbrev t_Entry : TypeId := 59
abbrev t_RouteState : TypeId := 61
abbrev t_Section : TypeId := 71
abbrev t_Joint : TypeId := 73
abbrev t_Signal : TypeId := 75
abbrev t_Step : TypeId := 77
abbrev t_Route : TypeId := 81
abbrev t_watch_judge : TypeId := 85
abbrev t_LineState : TypeId := 94
abbrev t_Mover : TypeId := 96
abbrev t_Look : TypeId := 98
abbrev t_ars_due : TypeId := 101
abbrev t_Need : TypeId := 116
abbrev t_topo_spot : TypeId := 150
abbrev t_topo_way : TypeId := 175
theorem c_int : Go.Proofs.Try.prog.cellsOf t_int = 1 := by kernel_rfl
theorem c_bool : Go.Proofs.Try.prog.cellsOf t_bool = 1 := by kernel_rfl
theorem c_sl_Mover : Go.Proofs.Try.prog.cellsOf t_sl_Mover = 1 := by kernel_rfl
theorem c_Entry : Go.Proofs.Try.prog.cellsOf t_Entry = 3 := by kernel_rfl
theorem c_RouteState : Go.Proofs.Try.prog.cellsOf t_RouteState = 4 := by kernel_rfl
theorem c_Section : Go.Proofs.Try.prog.cellsOf t_Section = 3 := by kernel_rfl
theorem c_Joint : Go.Proofs.Try.prog.cellsOf t_Joint = 4 := by kernel_rfl
theorem c_Signal : Go.Proofs.Try.prog.cellsOf t_Signal = 2 := by kernel_rfl
theorem c_Step : Go.Proofs.Try.prog.cellsOf t_Step = 3 := by kernel_rfl
theorem c_Route : Go.Proofs.Try.prog.cellsOf t_Route = 6 := by kernel_rfl
theorem c_LineState : Go.Proofs.Try.prog.cellsOf t_LineState = 8 := by kernel_rfl
theorem c_Mover : Go.Proofs.Try.prog.cellsOf t_Mover = 2 := by kernel_rfl
theorem c_Look : Go.Proofs.Try.prog.cellsOf t_Look = 3 := by kernel_rfl
theorem c_ars_due : Go.Proofs.Try.prog.cellsOf t_ars_due = 4 := by kernel_rfl
theorem c_Need : Go.Proofs.Try.prog.cellsOf t_Need = 2 := by kernel_rfl
theorem c_topo_spot : Go.Proofs.Try.prog.cellsOf t_topo_spot = 2 := by kernel_rfl
theorem c_topo_way : Go.Proofs.Try.prog.cellsOf t_topo_way = 3 := by kernel_rfl
end Go.Proofs.Yteflnjedfmmddaa
end
section
set_option maxRecDepth 100000
set_option linter.unusedVariables false
namespace Go.Proofs.Yteflnjedfmmddaa
open Go.Fw Go.Proofs
def an_law16_ArsBerths : Ann := { esc := [], cbs := [3, 4], draws := [], loops := [(5, { mods := [(19, SlotSh.one (Sh.int IntKind.i64))], keep := [2, 3, 4, 7, 17, 18] }), (12, { mods := [(38, SlotSh.one (Sh.int IntKind.i64))], keep := [7, 11, 36, 37] })], joins := [] }
def V_law16_ArsBerths (c0 : D) (c1 : D) (c2 : D) (c3 : D) (c4 : D) (c5 : Int) (c6 : Int) (c7 : Int) (c8 : Int) (w0 : D) (w1 : D) (w2 : D) (w3 : D) (w4 : D) (w5 : D) (w6 : Bool) (w7 : D) (w8 : D) (w9 : D) (w10 : D) (w11 : D) (w12 : D) (w13 : Bool) (w14 : D) (w15 : D) (w16 : D) (w17 : D) (berths : D) (σ : Store) (Qp : RV → Store → Prop) : Prop :=
  DCalls Try.prog n_law16_lives [] σ (fun (r : RV) => fun (σ' : Store) => ∃ b : Bool, (r = (.a (.one (.bool b)) : RV)) ∧ bcase (!b) (Qp (.a (.one (.bool false))) σ') (Fw.newObj σ' (.mp 0 []) (fun (id : Nat) => fun (σ'1 : Store) => ∃ len : Nat, (Len berths len) ∧ ∃ I : Int → Store → Prop, ∃ μ : Int → Store → Nat, (I 0 σ'1) ∧ ∀ n : Int, ∀ σ'2 : Store, (I n σ'2) → bcase (decide (n < (len : Int))) (∃ len1 : Nat, (Idx Try.prog σ'2 berths 1 len1) ∧ ((0 : Int) ≤ n) ∧ (n < (len1 : Int)) ∧ ∃ row : List D, (Row σ'2 berths (Int.toNat n) row) ∧ ∃ n1 : Int, ((List.take 1 row) = ([.int .i64 n1] : List D)) ∧ ∃ r1 : Option A, (MLook Try.prog t_int σ'2 (.omap id) (.one (.int .i64 n1)) r1) ∧ ∃ n2 : Int, ((Option.getD r1 (.one (.int .i64 0))) = (.one (.int .i64 n2) : A)) ∧ MPut Try.prog t_int σ'2 (.omap id) (.one (.int .i64 n1)) (.one (.int .i64 (w64 (n2 + 1)))) (fun (σ'3 : Store) => (I (w64 (n + 1)) σ'3) ∧ ((μ (w64 (n + 1)) σ'3) < (μ n σ'2)))) (DCalls Try.prog n_ars_Berths [.agg [c0, c1, c2, c3, c4, .int .i64 c5, .int .i64 c6, .int .i64 c7, .int .i64 c8], .agg [w0, w1, w2, w3, w4, w5, .bool w6], .agg [w7, w8, w9, w10, w11, w12, .bool w13], .one berths] σ'2 (fun (r1 : RV) => fun (σ'3 : Store) => ∃ d : D, (r1 = (.a (.one d) : RV)) ∧ Fw.newObj σ'3 (.mp 0 []) (fun (id1 : Nat) => fun (σ'4 : Store) => ∃ len1 : Nat, (Len d len1) ∧ ∃ I1 : Int → Store → Prop, ∃ μ1 : Int → Store → Nat, (I1 0 σ'4) ∧ ∀ n1 : Int, ∀ σ'5 : Store, (I1 n1 σ'5) → bcase (decide (n1 < (len1 : Int))) (∃ len2 : Nat, (Idx Try.prog σ'5 d 1 len2) ∧ ((0 : Int) ≤ n1) ∧ (n1 < (len2 : Int)) ∧ ∃ row : List D, (Row σ'5 d (Int.toNat n1) row) ∧ ∃ n2 : Int, ((List.take 1 row) = ([.int .i64 n2] : List D)) ∧ ∃ r2 : Option A, (MLook Try.prog t_int σ'5 (.omap id1) (.one (.int .i64 n2)) r2) ∧ ∃ n3 : Int, ((Option.getD r2 (.one (.int .i64 0))) = (.one (.int .i64 n3) : A)) ∧ MPut Try.prog t_int σ'5 (.omap id1) (.one (.int .i64 n2)) (.one (.int .i64 (w64 (n3 + 1)))) (fun (σ'6 : Store) => bcase (n2 != 0) (∃ r3 : Option A, (MLook Try.prog t_int σ'6 (.omap id1) (.one (.int .i64 n2)) r3) ∧ ∃ n4 : Int, ((Option.getD r3 (.one (.int .i64 0))) = (.one (.int .i64 n4) : A)) ∧ ∃ r4 : Option A, (MLook Try.prog t_int σ'6 (.omap id) (.one (.int .i64 n2)) r4) ∧ ∃ n5 : Int, ((Option.getD r4 (.one (.int .i64 0))) = (.one (.int .i64 n5) : A)) ∧ bcase (decide (n4 > n5)) (Qp (.a (.one (.bool false))) σ'6) ((I1 (w64 (n1 + 1)) σ'6) ∧ ((μ1 (w64 (n1 + 1)) σ'6) < (μ1 n1 σ'5)))) ((I1 (w64 (n1 + 1)) σ'6) ∧ ((μ1 (w64 (n1 + 1)) σ'6) < (μ1 n1 σ'5))))) (Qp (.a (.one (.bool true))) σ'5)))))))
theorem W_law16_ArsBerths (c0 : D) (c1 : D) (c2 : D) (c3 : D) (c4 : D) (c5 : Int) (c6 : Int) (c7 : Int) (c8 : Int) (w0 : D) (w1 : D) (w2 : D) (w3 : D) (w4 : D) (w5 : D) (w6 : Bool) (w7 : D) (w8 : D) (w9 : D) (w10 : D) (w11 : D) (w12 : D) (w13 : Bool) (w14 : D) (w15 : D) (w16 : D) (w17 : D) (berths : D) (σ : Store) (Qp : RV → Store → Prop) (h : V_law16_ArsBerths c0 c1 c2 c3 c4 c5 c6 c7 c8 w0 w1 w2 w3 w4 w5 w6 w7 w8 w9 w10 w11 w12 w13 w14 w15 w16 w17 berths σ Qp) : DCalls Try.prog n_law16_ArsBerths [.agg [c0, c1, c2, c3, c4, .int .i64 c5, .int .i64 c6, .int .i64 c7, .int .i64 c8], .agg [w0, w1, w2, w3, w4, w5, .bool w6, w7, w8, w9, w10, w11, w12, .bool w13, w14, w15, w16, w17], .one berths] σ Qp :=
  dcalls_of_body mixed (by kernel_rfl) Try.func7 an_law16_ArsBerths ((show V_law16_ArsBerths c0 c1 c2 c3 c4 c5 c6 c7 c8 w0 w1 w2 w3 w4 w5 w6 w7 w8 w9 w10 w11 w12 w13 w14 w15 w16 w17 berths σ Qp = dbody Try.prog Try.f7 an_law16_ArsBerths [.agg [c0, c1, c2, c3, c4, .int .i64 c5, .int .i64 c6, .int .i64 c7, .int .i64 c8], .agg [w0, w1, w2, w3, w4, w5, .bool w6, w7, w8, w9, w10, w11, w12, .bool w13, w14, w15, w16, w17], .one berths] σ Qp by kernel_rfl) ▸ h)
def an_ref01_SameInts : Ann := { esc := [], cbs := [], draws := [(6, { ord := [0, 1, 2, 3, 4, 5, 6, 7, 8], nb := [], av := [], dir := [] })], loops := [(4, { mods := [(13, SlotSh.one (Sh.int IntKind.i64))], keep := [0, 1, 12] })], joins := [] }
def V_ref01_SameInts (a : D) (b : D) (σ : Store) (Qp : RV → Store → Prop) : Prop :=
  ∃ len : Nat, (Len a len) ∧ ∃ len1 : Nat, (Len b len1) ∧ bcase ((len : Int) != (len1 : Int)) (Qp (.a (.one (.bool false))) σ) (∃ len2 : Nat, (Len a len2) ∧ ∃ I : Int → Store → Prop, ∃ μ : Int → Store → Nat, (I 0 σ) ∧ ∀ n : Int, ∀ σ' : Store, (I n σ') → bcase (decide (n < (len2 : Int))) (∃ len3 : Nat, (Idx Try.prog σ' a 1 len3) ∧ ((0 : Int) ≤ n) ∧ (n < (len3 : Int)) ∧ ∃ row : List D, (Row σ' a (Int.toNat n) row) ∧ ∃ n1 : Int, ((List.take 1 row) = ([.int .i64 n1] : List D)) ∧ ∃ len4 : Nat, (Idx Try.prog σ' b 1 len4) ∧ ((0 : Int) ≤ n) ∧ (n < (len4 : Int)) ∧ ∃ row1 : List D, (Row σ' b (Int.toNat n) row1) ∧ ∃ n2 : Int, ((List.take 1 row1) = ([.int .i64 n2] : List D)) ∧ bcase (n1 != n2) (Qp (.a (.one (.bool false))) σ') ((I (w64 (n + 1)) σ') ∧ ((μ (w64 (n + 1)) σ') < (μ n σ')))) (Qp (.a (.one (.bool true))) σ'))
theorem W_ref01_SameInts (a : D) (b : D) (σ : Store) (Qp : RV → Store → Prop) (h : V_ref01_SameInts a b σ Qp) : DCalls Try.prog n_ref01_SameInts [.one a, .one b] σ Qp :=
  dcalls_of_body mixed (by kernel_rfl) Try.func15 an_ref01_SameInts ((show V_ref01_SameInts a b σ Qp = dbody Try.prog Try.f15 an_ref01_SameInts [.one a, .one b] σ Qp by kernel_rfl) ▸ h)
def an_ars_Due : Ann := { esc := [], cbs := [6, 7, 8], draws := [(7, { ord := [0, 1, 2, 3, 4, 8, 5, 6, 7, 9], nb := [1], av := [], dir := [] })], loops := [(5, { mods := [(13, SlotSh.one (Sh.any)), (68, SlotSh.one (Sh.int IntKind.i64))], keep := [3, 4, 6, 7, 8, 66, 67] }), (14, { mods := [(17, SlotSh.one (Sh.any)), (128, SlotSh.one (Sh.int IntKind.i64))], keep := [126, 127] })], joins := [(3, { mods := [], keep := [3, 4, 5, 6, 7, 8] }), (9, { mods := [], keep := [3, 4, 6, 7, 8, 13, 14, 15, 66, 67, 68] })] }
def V_ars_Due (c0 : D) (c1 : D) (c2 : D) (c3 : D) (c4 : D) (c5 : Int) (c6 : Int) (c7 : Int) (c8 : Int) (k0 : D) (k1 : D) (k2 : D) (k3 : D) (k4 : D) (k5 : D) (k6 : Bool) (v0 : D) (v1 : D) (v2 : D) (v3 : D) (now : Int) (done : D) (table : D) (σ : Store) (Qp : RV → Store → Prop) : Prop :=
  ∀ R : Store → Prop, (∀ σ' : Store, (∃ len : Nat, (Len table len) ∧ ∃ I : D → Int → Store → Prop, ∃ μ : D → Int → Store → Nat, (I .nils 0 σ') ∧ ∀ d : D, ∀ n : Int, ∀ σ'1 : Store, (I d n σ'1) → bcase (decide (n < (len : Int))) (∃ len1 : Nat, (Idx Try.prog σ'1 table 3 len1) ∧ ((0 : Int) ≤ n) ∧ (n < (len1 : Int)) ∧ ∃ row : List D, (Row σ'1 table (Int.toNat n) row) ∧ ∃ n1 : Int, ∃ n2 : Int, ∃ n3 : Int, ((List.take 3 row) = ([.int .i64 n1, .int .i64 n2, .int .i64 n3] : List D)) ∧ DCalls Try.prog n_conf_Approach [.agg [c0, c1, c2, c3, c4, .int .i64 c5, .int .i64 c6, .int .i64 c7, .int .i64 c8], .one (.int .i64 n2)] σ'1 (fun (r : RV) => fun (σ'2 : Store) => ∃ n4 : Int, (r = (.a (.one (.int .i64 n4)) : RV)) ∧ ∃ len2 : Nat, (Idx Try.prog σ'2 v0 3 len2) ∧ ((0 : Int) ≤ n4) ∧ (n4 < (len2 : Int)) ∧ ∃ row1 : List D, (Row σ'2 v0 (Int.toNat n4) row1) ∧ ∃ n5 : Int, ∃ n6 : Int, ∃ b : Bool, ((List.take 3 row1) = ([.int .i64 n5, .int .i64 n6, .bool b] : List D)) ∧ ∀ R1 : Store → Prop, (∀ σ'3 : Store, (Fw.newObj σ'3 (.live t_ars_due [[.int .i64 n1, .int .i64 n2, .int .i64 n3, .int .i64 n]]) (fun (id : Nat) => fun (σ'4 : Store) => appendTo Try.prog σ'4 t_ars_due 32 d (.osl id 0 1) (fun (d1 : D) => fun (σ'5 : Store) => (I d1 (w64 (n + 1)) σ'5) ∧ ((μ d1 (w64 (n + 1)) σ'5) < (μ d n σ'1))))) → R1 σ'3) → ∃ len3 : Nat, (Len done len3) ∧ bcase (decide (n < (len3 : Int))) (∃ len4 : Nat, (Idx Try.prog σ'2 done 1 len4) ∧ ((0 : Int) ≤ n) ∧ (n < (len4 : Int)) ∧ ∃ row2 : List D, (Row σ'2 done (Int.toNat n) row2) ∧ ∃ b1 : Bool, ((List.take 1 row2) = ([.bool b1] : List D)) ∧ bcase b1 ((I d (w64 (n + 1)) σ'2) ∧ ((μ d (w64 (n + 1)) σ'2) < (μ d n σ'1))) (bcase (decide (n1 > now)) ((I d (w64 (n + 1)) σ'2) ∧ ((μ d (w64 (n + 1)) σ'2) < (μ d n σ'1))) (∃ len5 : Nat, (Idx Try.prog σ'2 k1 4 len5) ∧ ((0 : Int) ≤ n2) ∧ (n2 < (len5 : Int)) ∧ ∃ row3 : List D, (Row σ'2 k1 (Int.toNat n2) row3) ∧ ∃ n7 : Int, ((List.take 1 row3) = ([.int .i64 n7] : List D)) ∧ bcase (n7 != 0) ((I d (w64 (n + 1)) σ'2) ∧ ((μ d (w64 (n + 1)) σ'2) < (μ d n σ'1))) (bcase (!b) ((I d (w64 (n + 1)) σ'2) ∧ ((μ d (w64 (n + 1)) σ'2) < (μ d n σ'1))) (bcase (n5 != 1) ((I d (w64 (n + 1)) σ'2) ∧ ((μ d (w64 (n + 1)) σ'2) < (μ d n σ'1))) ((([[.int .i64 n1, .int .i64 n2, .int .i64 n3]] : List (List D)) = ([[.int .i64 n1, .int .i64 n2, .int .i64 n3]] : List (List D))) ∧ R1 σ'2)))))) (bcase (decide (n1 > now)) ((I d (w64 (n + 1)) σ'2) ∧ ((μ d (w64 (n + 1)) σ'2) < (μ d n σ'1))) (∃ len4 : Nat, (Idx Try.prog σ'2 k1 4 len4) ∧ ((0 : Int) ≤ n2) ∧ (n2 < (len4 : Int)) ∧ ∃ row2 : List D, (Row σ'2 k1 (Int.toNat n2) row2) ∧ ∃ n7 : Int, ((List.take 1 row2) = ([.int .i64 n7] : List D)) ∧ bcase (n7 != 0) ((I d (w64 (n + 1)) σ'2) ∧ ((μ d (w64 (n + 1)) σ'2) < (μ d n σ'1))) (bcase (!b) ((I d (w64 (n + 1)) σ'2) ∧ ((μ d (w64 (n + 1)) σ'2) < (μ d n σ'1))) (bcase (n5 != 1) ((I d (w64 (n + 1)) σ'2) ∧ ((μ d (w64 (n + 1)) σ'2) < (μ d n σ'1))) ((([[.int .i64 n1, .int .i64 n2, .int .i64 n3]] : List (List D)) = ([[.int .i64 n1, .int .i64 n2, .int .i64 n3]] : List (List D))) ∧ R1 σ'2))))))) (DCalls Try.prog n_slices_SortStableFunc_ars_due [.one d, .one (.fn n_ars_Due_1 [] [])] σ'1 (fun (r : RV) => fun (σ'2 : Store) => (r = (.tup [] : RV)) ∧ ∃ len1 : Nat, (Len d len1) ∧ ∃ I1 : D → Int → Store → Prop, ∃ μ1 : D → Int → Store → Nat, (I1 .nils 0 σ'2) ∧ ∀ d1 : D, ∀ n1 : Int, ∀ σ'3 : Store, (I1 d1 n1 σ'3) → bcase (decide (n1 < (len1 : Int))) (∃ len2 : Nat, (Idx Try.prog σ'3 d 4 len2) ∧ ((0 : Int) ≤ n1) ∧ (n1 < (len2 : Int)) ∧ ∃ row : List D, (Row σ'3 d (Int.toNat n1) row) ∧ ∃ n2 : Int, ∃ n3 : Int, ∃ n4 : Int, ∃ n5 : Int, ((List.take 4 row) = ([.int .i64 n2, .int .i64 n3, .int .i64 n4, .int .i64 n5] : List D)) ∧ Fw.newObj σ'3 (.live t_int [[.int .i64 n5]]) (fun (id : Nat) => fun (σ'4 : Store) => appendTo Try.prog σ'4 t_int 8 d1 (.osl id 0 1) (fun (d2 : D) => fun (σ'5 : Store) => (I1 d2 (w64 (n1 + 1)) σ'5) ∧ ((μ1 d2 (w64 (n1 + 1)) σ'5) < (μ1 d1 n1 σ'3))))) (Qp (.a (.one d1)) σ'3)))) → R σ') → DCalls Try.prog n_ars_Check [.agg [c0, c1, c2, c3, c4, .int .i64 c5, .int .i64 c6, .int .i64 c7, .int .i64 c8], .one table] σ (fun (r : RV) => fun (σ' : Store) => ∃ n : Int, (r = (.a (.one (.int .i64 n)) : RV)) ∧ bcase (n != 0) (Qp (.a (.one .nils)) σ') (DCalls Try.prog n_locks_Fits [.agg [c0, c1, c2, c3, c4, .int .i64 c5, .int .i64 c6, .int .i64 c7, .int .i64 c8], .agg [k0, k1, k2, k3, k4, k5, .bool k6]] σ' (fun (r1 : RV) => fun (σ'1 : Store) => ∃ b : Bool, (r1 = (.a (.one (.bool b)) : RV)) ∧ bcase (!b) (Qp (.a (.one .nils)) σ'1) (∃ len : Nat, (Len v0 len) ∧ ∃ len1 : Nat, (Len c0 len1) ∧ bcase ((len : Int) != (len1 : Int)) (Qp (.a (.one .nils)) σ'1) (∃ len2 : Nat, (Len v1 len2) ∧ ∃ len3 : Nat, (Len c0 len3) ∧ bcase ((len2 : Int) != (len3 : Int)) (Qp (.a (.one .nils)) σ'1) (∃ len4 : Nat, (Len v2 len4) ∧ ∃ len5 : Nat, (Len c3 len5) ∧ bcase ((len4 : Int) != (len5 : Int)) (Qp (.a (.one .nils)) σ'1) (∃ len6 : Nat, (Len v3 len6) ∧ ∃ len7 : Nat, (Len c2 len7) ∧ bcase ((len6 : Int) != (len7 : Int)) (Qp (.a (.one .nils)) σ'1) (R σ'1))))))))
theorem W_ars_Due (c0 : D) (c1 : D) (c2 : D) (c3 : D) (c4 : D) (c5 : Int) (c6 : Int) (c7 : Int) (c8 : Int) (k0 : D) (k1 : D) (k2 : D) (k3 : D) (k4 : D) (k5 : D) (k6 : Bool) (v0 : D) (v1 : D) (v2 : D) (v3 : D) (now : Int) (done : D) (table : D) (σ : Store) (Qp : RV → Store → Prop) (h : V_ars_Due c0 c1 c2 c3 c4 c5 c6 c7 c8 k0 k1 k2 k3 k4 k5 k6 v0 v1 v2 v3 now done table σ Qp) : DCalls Try.prog n_ars_Due [.agg [c0, c1, c2, c3, c4, .int .i64 c5, .int .i64 c6, .int .i64 c7, .int .i64 c8], .agg [k0, k1, k2, k3, k4, k5, .bool k6], .agg [v0, v1, v2, v3], .one (.int .i64 now), .one done, .one table] σ Qp :=
  dcalls_of_body mixed (by kernel_rfl) Try.func19 an_ars_Due ((show V_ars_Due c0 c1 c2 c3 c4 c5 c6 c7 c8 k0 k1 k2 k3 k4 k5 k6 v0 v1 v2 v3 now done table σ Qp = dbody Try.prog Try.f19 an_ars_Due [.agg [c0, c1, c2, c3, c4, .int .i64 c5, .int .i64 c6, .int .i64 c7, .int .i64 c8], .agg [k0, k1, k2, k3, k4, k5, .bool k6], .agg [v0, v1, v2, v3], .one (.int .i64 now), .one done, .one table] σ Qp by kernel_rfl) ▸ h)
def an_ars_Berths : Ann := { esc := [], cbs := [4, 5, 6], draws := [], loops := [(6, { mods := [(36, SlotSh.one (Sh.int IntKind.i64))], keep := [5, 6, 9, 34, 35] })], joins := [(3, { mods := [], keep := [3, 4, 5, 6] }), (10, { mods := [], keep := [5, 6, 9, 11, 34, 35, 36] })] }
def V_ars_Berths (c0 : D) (c1 : D) (c2 : D) (c3 : D) (c4 : D) (c5 : Int) (c6 : Int) (c7 : Int) (c8 : Int) (was0 : D) (was1 : D) (was2 : D) (was3 : D) (was4 : D) (was5 : D) (was6 : Bool) (is0 : D) (is1 : D) (is2 : D) (is3 : D) (is4 : D) (is5 : D) (is6 : Bool) (berths : D) (σ : Store) (Qp : RV → Store → Prop) : Prop :=
  ∀ R : Store → Prop, (∀ σ' : Store, (∃ len : Nat, (Len c2 len) ∧ ((0 : Int) ≤ (len : Int)) ∧ ((len : Int) ≤ (len : Int)) ∧ (((8 : Int) * (len : Int)) ≤ (2 ^ 48)) ∧ Fw.newObj σ' (.live t_int (List.replicate (Int.toNat (len : Int)) [.int .i64 0])) (fun (id : Nat) => fun (σ'1 : Store) => copyTo Try.prog σ'1 t_int (.osl id 0 (Int.toNat (len : Int))) berths (fun (n : Int) => fun (σ'2 : Store) => ∃ len1 : Nat, (Len c4 len1) ∧ ∃ I : Int → Store → Prop, ∃ μ : Int → Store → Nat, (I 0 σ'2) ∧ ∀ n1 : Int, ∀ σ'3 : Store, (I n1 σ'3) → bcase (decide (n1 < (len1 : Int))) (∃ len2 : Nat, (Idx Try.prog σ'3 c4 6 len2) ∧ ((0 : Int) ≤ n1) ∧ (n1 < (len2 : Int)) ∧ ∃ row : List D, (Row σ'3 c4 (Int.toNat n1) row) ∧ ∃ n2 : Int, ∃ n3 : Int, ∃ d : D, ∃ d1 : D, ∃ d2 : D, ∃ b : Bool, ((List.take 6 row) = ([.int .i64 n2, .int .i64 n3, d, d1, d2, .bool b] : List D)) ∧ ∃ len3 : Nat, (Idx Try.prog σ'3 was1 4 len3) ∧ ((0 : Int) ≤ n1) ∧ (n1 < (len3 : Int)) ∧ ∃ row1 : List D, (Row σ'3 was1 (Int.toNat n1) row1) ∧ ∃ n4 : Int, ((List.take 1 row1) = ([.int .i64 n4] : List D)) ∧ ∀ R1 : Store → Prop, (∀ σ'4 : Store, (∃ len4 : Nat, (Idx Try.prog σ'4 (.osl id 0 (Int.toNat (len : Int))) 1 len4) ∧ ((0 : Int) ≤ n2) ∧ (n2 < (len4 : Int)) ∧ ∃ row2 : List D, (Row σ'4 (.osl id 0 (Int.toNat (len : Int))) (Int.toNat n2) row2) ∧ ∃ n5 : Int, ((List.take 1 row2) = ([.int .i64 n5] : List D)) ∧ ∃ len5 : Nat, (Idx Try.prog σ'4 (.osl id 0 (Int.toNat (len : Int))) 1 len5) ∧ ((0 : Int) ≤ n2) ∧ (n2 < (len5 : Int)) ∧ storeEl [.int .i64 0] σ'4 (.osl id 0 (Int.toNat (len : Int))) (Int.toNat n2) 0 (fun (σ'5 : Store) => bcase (decide (n3 ≥ 0)) (bcase (n3 != n2) (∃ len6 : Nat, (Idx Try.prog σ'5 (.osl id 0 (Int.toNat (len : Int))) 1 len6) ∧ ((0 : Int) ≤ n3) ∧ (n3 < (len6 : Int)) ∧ storeEl [.int .i64 n5] σ'5 (.osl id 0 (Int.toNat (len : Int))) (Int.toNat n3) 0 (fun (σ'6 : Store) => (I (w64 (n1 + 1)) σ'6) ∧ ((μ (w64 (n1 + 1)) σ'6) < (μ n1 σ'3)))) ((I (w64 (n1 + 1)) σ'5) ∧ ((μ (w64 (n1 + 1)) σ'5) < (μ n1 σ'3)))) ((I (w64 (n1 + 1)) σ'5) ∧ ((μ (w64 (n1 + 1)) σ'5) < (μ n1 σ'3))))) → R1 σ'4) → bcase (n4 != 2) (bcase (n4 != 3) ((I (w64 (n1 + 1)) σ'3) ∧ ((μ (w64 (n1 + 1)) σ'3) < (μ n1 σ'3))) (∃ len4 : Nat, (Idx Try.prog σ'3 is1 4 len4) ∧ ((0 : Int) ≤ n1) ∧ (n1 < (len4 : Int)) ∧ ∃ row2 : List D, (Row σ'3 is1 (Int.toNat n1) row2) ∧ ∃ n5 : Int, ((List.take 1 row2) = ([.int .i64 n5] : List D)) ∧ bcase (n5 != 4) ((I (w64 (n1 + 1)) σ'3) ∧ ((μ (w64 (n1 + 1)) σ'3) < (μ n1 σ'3))) (∃ len5 : Nat, (Idx Try.prog σ'3 (.osl id 0 (Int.toNat (len : Int))) 1 len5) ∧ ((0 : Int) ≤ n2) ∧ (n2 < (len5 : Int)) ∧ ∃ row3 : List D, (Row σ'3 (.osl id 0 (Int.toNat (len : Int))) (Int.toNat n2) row3) ∧ ∃ n6 : Int, ((List.take 1 row3) = ([.int .i64 n6] : List D)) ∧ bcase (n6 == 0) ((I (w64 (n1 + 1)) σ'3) ∧ ((μ (w64 (n1 + 1)) σ'3) < (μ n1 σ'3))) ((([[.int .i64 n2, .int .i64 n3, d, d1, d2, .bool b]] : List (List D)) = ([[.int .i64 n2, .int .i64 n3, d, d1, d2, .bool b]] : List (List D))) ∧ R1 σ'3)))) (∃ len4 : Nat, (Idx Try.prog σ'3 is1 4 len4) ∧ ((0 : Int) ≤ n1) ∧ (n1 < (len4 : Int)) ∧ ∃ row2 : List D, (Row σ'3 is1 (Int.toNat n1) row2) ∧ ∃ n5 : Int, ((List.take 1 row2) = ([.int .i64 n5] : List D)) ∧ bcase (n5 != 4) ((I (w64 (n1 + 1)) σ'3) ∧ ((μ (w64 (n1 + 1)) σ'3) < (μ n1 σ'3))) (∃ len5 : Nat, (Idx Try.prog σ'3 (.osl id 0 (Int.toNat (len : Int))) 1 len5) ∧ ((0 : Int) ≤ n2) ∧ (n2 < (len5 : Int)) ∧ ∃ row3 : List D, (Row σ'3 (.osl id 0 (Int.toNat (len : Int))) (Int.toNat n2) row3) ∧ ∃ n6 : Int, ((List.take 1 row3) = ([.int .i64 n6] : List D)) ∧ bcase (n6 == 0) ((I (w64 (n1 + 1)) σ'3) ∧ ((μ (w64 (n1 + 1)) σ'3) < (μ n1 σ'3))) ((([[.int .i64 n2, .int .i64 n3, d, d1, d2, .bool b]] : List (List D)) = ([[.int .i64 n2, .int .i64 n3, d, d1, d2, .bool b]] : List (List D))) ∧ R1 σ'3)))) (Qp (.a (.one (.osl id 0 (Int.toNat (len : Int))))) σ'3)))) → R σ') → DCalls Try.prog n_locks_Fits [.agg [c0, c1, c2, c3, c4, .int .i64 c5, .int .i64 c6, .int .i64 c7, .int .i64 c8], .agg [was0, was1, was2, was3, was4, was5, .bool was6]] σ (fun (r : RV) => fun (σ' : Store) => ∃ b : Bool, (r = (.a (.one (.bool b)) : RV)) ∧ bcase (!b) (DCalls Try.prog n_slices_Clone_int [.one berths] σ' (fun (r1 : RV) => fun (σ'1 : Store) => ∃ d : D, (r1 = (.a (.one d) : RV)) ∧ Qp (.a (.one d)) σ'1)) (DCalls Try.prog n_locks_Fits [.agg [c0, c1, c2, c3, c4, .int .i64 c5, .int .i64 c6, .int .i64 c7, .int .i64 c8], .agg [is0, is1, is2, is3, is4, is5, .bool is6]] σ' (fun (r1 : RV) => fun (σ'1 : Store) => ∃ b1 : Bool, (r1 = (.a (.one (.bool b1)) : RV)) ∧ bcase (!b1) (DCalls Try.prog n_slices_Clone_int [.one berths] σ'1 (fun (r2 : RV) => fun (σ'2 : Store) => ∃ d : D, (r2 = (.a (.one d) : RV)) ∧ Qp (.a (.one d)) σ'2)) (R σ'1))))
theorem W_ars_Berths (c0 : D) (c1 : D) (c2 : D) (c3 : D) (c4 : D) (c5 : Int) (c6 : Int) (c7 : Int) (c8 : Int) (was0 : D) (was1 : D) (was2 : D) (was3 : D) (was4 : D) (was5 : D) (was6 : Bool) (is0 : D) (is1 : D) (is2 : D) (is3 : D) (is4 : D) (is5 : D) (is6 : Bool) (berths : D) (σ : Store) (Qp : RV → Store → Prop) (h : V_ars_Berths c0 c1 c2 c3 c4 c5 c6 c7 c8 was0 was1 was2 was3 was4 was5 was6 is0 is1 is2 is3 is4 is5 is6 berths σ Qp) : DCalls Try.prog n_ars_Berths [.agg [c0, c1, c2, c3, c4, .int .i64 c5, .int .i64 c6, .int .i64 c7, .int .i64 c8], .agg [was0, was1, was2, was3, was4, was5, .bool was6], .agg [is0, is1, is2, is3, is4, is5, .bool is6], .one berths] σ Qp :=
  dcalls_of_body mixed (by kernel_rfl) Try.func23 an_ars_Berths ((show V_ars_Berths c0 c1 c2 c3 c4 c5 c6 c7 c8 was0 was1 was2 was3 was4 was5 was6 is0 is1 is2 is3 is4 is5 is6 berths σ Qp = dbody Try.prog Try.f23 an_ars_Berths [.agg [c0, c1, c2, c3, c4, .int .i64 c5, .int .i64 c6, .int .i64 c7, .int .i64 c8], .agg [was0, was1, was2, was3, was4, was5, .bool was6], .agg [is0, is1, is2, is3, is4, is5, .bool is6], .one berths] σ Qp by kernel_rfl) ▸ h)
def an_ars_Due_1 : Ann := { esc := [], cbs := [2, 3], draws := [], loops := [], joins := [] }
def V_ars_Due_1 (a0 : Int) (a1 : Int) (a2 : Int) (a3 : Int) (b0 : Int) (b1 : Int) (b2 : Int) (b3 : Int) (σ : Store) (Qp : RV → Store → Prop) : Prop :=
  Qp (.a (.one (.int .i64 (w64 (a0 - b0))))) σ
theorem W_ars_Due_1 (a0 : Int) (a1 : Int) (a2 : Int) (a3 : Int) (b0 : Int) (b1 : Int) (b2 : Int) (b3 : Int) (σ : Store) (Qp : RV → Store → Prop) (h : V_ars_Due_1 a0 a1 a2 a3 b0 b1 b2 b3 σ Qp) : DCalls Try.prog n_ars_Due_1 [.agg [.int .i64 a0, .int .i64 a1, .int .i64 a2, .int .i64 a3], .agg [.int .i64 b0, .int .i64 b1, .int .i64 b2, .int .i64 b3]] σ Qp :=
  dcalls_of_body mixed (by kernel_rfl) Try.func39 an_ars_Due_1 ((show V_ars_Due_1 a0 a1 a2 a3 b0 b1 b2 b3 σ Qp = dbody Try.prog Try.f39 an_ars_Due_1 [.agg [.int .i64 a0, .int .i64 a1, .int .i64 a2, .int .i64 a3], .agg [.int .i64 b0, .int .i64 b1, .int .i64 b2, .int .i64 b3]] σ Qp by kernel_rfl) ▸ h)
def an_slices_Repeat_int : Ann := { esc := [], cbs := [], draws := [(9, { ord := [0, 1, 2, 3, 4, 5, 6, 7, 8, 9], nb := [], av := [], dir := [] })], loops := [(8, { mods := [(8, SlotSh.one (Sh.int IntKind.i64))], keep := [7] })], joins := [(3, { mods := [], keep := [0, 1] }), (6, { mods := [], keep := [0, 6] })] }
def V_slices_Repeat_int (x : D) (count : Int) (σ : Store) (Qp : RV → Store → Prop) : Prop :=
  ∀ R : Store → Prop, (∀ σ' : Store, (∃ len : Nat, (Len x len) ∧ DCalls Try.prog n_math_bits_Mul [.one (.int .u64 (IntKind.wrap .u64 (len : Int))), .one (.int .u64 (IntKind.wrap .u64 count))] σ' (fun (r : RV) => fun (σ'1 : Store) => ∃ n : Int, ∃ n1 : Int, (r = (.tup [.one (.int .u64 n), .one (.int .u64 n1)] : RV)) ∧ ∀ R1 : Store → Prop, (∀ σ'2 : Store, (((0 : Int) ≤ (w64 n1)) ∧ ((w64 n1) ≤ (w64 n1)) ∧ (((8 : Int) * (w64 n1)) ≤ (2 ^ 48)) ∧ Fw.newObj σ'2 (.live t_int (List.replicate (Int.toNat (w64 n1)) [.int .i64 0])) (fun (id : Nat) => fun (σ'3 : Store) => copyTo Try.prog σ'3 t_int (.osl id 0 (Int.toNat (w64 n1))) x (fun (n2 : Int) => fun (σ'4 : Store) => ∃ I : Int → Store → Prop, ∃ μ : Int → Store → Nat, (I n2 σ'4) ∧ ∀ n3 : Int, ∀ σ'5 : Store, (I n3 σ'5) → ∃ len1 : Nat, (Len (.osl id 0 (Int.toNat (w64 n1))) len1) ∧ bcase (decide (n3 < (len1 : Int))) (∃ len2 : Nat, (IdxN Try.prog σ'5 (.osl id 0 (Int.toNat (w64 n1))) 1 len2) ∧ ((0 : Int) ≤ n3) ∧ (n3 ≤ (len2 : Int)) ∧ ∃ len3 : Nat, (IdxN Try.prog σ'5 (.osl id 0 (Int.toNat (w64 n1))) 1 len3) ∧ ((0 : Int) ≤ 0) ∧ ((0 : Int) ≤ n3) ∧ (n3 ≤ (len3 : Int)) ∧ copyTo Try.prog σ'5 t_int (.osl id (0 + (Int.toNat n3)) (len2 - (Int.toNat n3))) (.osl id 0 ((Int.toNat n3) - 0)) (fun (n4 : Int) => fun (σ'6 : Store) => (I (w64 (n3 + n4)) σ'6) ∧ ((μ (w64 (n3 + n4)) σ'6) < (μ n3 σ'5)))) (Qp (.a (.one (.osl id 0 (Int.toNat (w64 n1))))) σ'5)))) → R1 σ'2) → bcase (decide (n > 0)) False (bcase (decide (n1 > 9223372036854775807)) False (R1 σ'1)))) → R σ') → bcase (decide (count < 0)) False (R σ)
theorem W_slices_Repeat_int (x : D) (count : Int) (σ : Store) (Qp : RV → Store → Prop) (h : V_slices_Repeat_int x count σ Qp) : DCalls Try.prog n_slices_Repeat_int [.one x, .one (.int .i64 count)] σ Qp :=
  dcalls_of_body mixed (by kernel_rfl) Try.func47 an_slices_Repeat_int ((show V_slices_Repeat_int x count σ Qp = dbody Try.prog Try.f47 an_slices_Repeat_int [.one x, .one (.int .i64 count)] σ Qp by kernel_rfl) ▸ h)
def an_slices_Concat_Mover : Ann := { esc := [], cbs := [], draws := [], loops := [(3, { mods := [(3, SlotSh.one (Sh.int IntKind.i64)), (11, SlotSh.one (Sh.int IntKind.i64))], keep := [0, 9, 10] }), (11, { mods := [(6, SlotSh.one (Sh.any)), (27, SlotSh.one (Sh.int IntKind.i64))], keep := [25, 26] })], joins := [] }
def V_slices_Concat_Mover (slices : D) (σ : Store) (Qp : RV → Store → Prop) : Prop :=
  ∃ len : Nat, (Len slices len) ∧ ∃ I : Int → Int → Store → Prop, ∃ μ : Int → Int → Store → Nat, (I 0 0 σ) ∧ ∀ n : Int, ∀ n1 : Int, ∀ σ' : Store, (I n n1 σ') → bcase (decide (n1 < (len : Int))) (∃ len1 : Nat, (Idx Try.prog σ' slices 1 len1) ∧ ((0 : Int) ≤ n1) ∧ (n1 < (len1 : Int)) ∧ ∃ row : List D, (Row σ' slices (Int.toNat n1) row) ∧ ∃ d : D, ((List.take 1 row) = ([d] : List D)) ∧ ∃ len2 : Nat, (Len d len2) ∧ bcase (decide ((w64 (n + (len2 : Int))) < 0)) False ((I (w64 (n + (len2 : Int))) (w64 (n1 + 1)) σ') ∧ ((μ (w64 (n + (len2 : Int))) (w64 (n1 + 1)) σ') < (μ n n1 σ')))) (DCalls Try.prog n_slices_Grow_Mover [.one .nils, .one (.int .i64 n)] σ' (fun (r : RV) => fun (σ'1 : Store) => ∃ d : D, (r = (.a (.one d) : RV)) ∧ ∃ len1 : Nat, (Len slices len1) ∧ ∃ I1 : D → Int → Store → Prop, ∃ μ1 : D → Int → Store → Nat, (I1 d 0 σ'1) ∧ ∀ d1 : D, ∀ n2 : Int, ∀ σ'2 : Store, (I1 d1 n2 σ'2) → bcase (decide (n2 < (len1 : Int))) (∃ len2 : Nat, (Idx Try.prog σ'2 slices 1 len2) ∧ ((0 : Int) ≤ n2) ∧ (n2 < (len2 : Int)) ∧ ∃ row : List D, (Row σ'2 slices (Int.toNat n2) row) ∧ ∃ d2 : D, ((List.take 1 row) = ([d2] : List D)) ∧ appendTo Try.prog σ'2 t_Mover 16 d1 d2 (fun (d3 : D) => fun (σ'3 : Store) => (I1 d3 (w64 (n2 + 1)) σ'3) ∧ ((μ1 d3 (w64 (n2 + 1)) σ'3) < (μ1 d1 n2 σ'2)))) (Qp (.a (.one d1)) σ'2)))
theorem W_slices_Concat_Mover (slices : D) (σ : Store) (Qp : RV → Store → Prop) (h : V_slices_Concat_Mover slices σ Qp) : DCalls Try.prog n_slices_Concat_Mover [.one slices] σ Qp :=
  dcalls_of_body mixed (by kernel_rfl) Try.func51 an_slices_Concat_Mover ((show V_slices_Concat_Mover slices σ Qp = dbody Try.prog Try.f51 an_slices_Concat_Mover [.one slices] σ Qp by kernel_rfl) ▸ h)
def an_topo_Check : Ann := { esc := [], cbs := [], draws := [(10, { ord := [0, 1, 2, 3, 4, 5, 6, 7, 8, 9, 10, 11, 12, 13, 14, 15, 16, 17, 18, 19, 20, 21, 22, 23, 24, 25, 26], nb := [9], av := [], dir := [] }), (12, { ord := [0, 1, 2, 3, 4, 5, 6], nb := [], av := [], dir := [] })], loops := [(5, { mods := [(25, SlotSh.one (Sh.int IntKind.i64))], keep := [0, 5, 23, 24] }), (8, { mods := [(41, SlotSh.one (Sh.int IntKind.i64))], keep := [0, 5, 7, 23, 24, 25, 39, 40] }), (19, { mods := [(88, SlotSh.one (Sh.int IntKind.i64))], keep := [5, 10, 86, 87] })], joins := [(3, { mods := [], keep := [0, 1] }), (23, { mods := [], keep := [5, 10, 11, 12, 86, 87, 88] })] }
def V_topo_Check (sections : D) (joints : D) (σ : Store) (Qp : RV → Store → Prop) : Prop :=
  ∀ R : Store → Prop, (∀ σ' : Store, (Fw.newObj σ' (.mp 0 []) (fun (id : Nat) => fun (σ'1 : Store) => ∃ len : Nat, (Len joints len) ∧ ∃ I : Int → Store → Prop, ∃ μ : Int → Store → Nat, (I 0 σ'1) ∧ ∀ n : Int, ∀ σ'2 : Store, (I n σ'2) → bcase (decide (n < (len : Int))) (∃ len1 : Nat, (Idx Try.prog σ'2 joints 4 len1) ∧ ((0 : Int) ≤ n) ∧ (n < (len1 : Int)) ∧ ∃ row : List D, (Row σ'2 joints (Int.toNat n) row) ∧ ∃ n1 : Int, ∃ n2 : Int, ∃ n3 : Int, ∃ n4 : Int, ((List.take 4 row) = ([.int .i64 n1, .int .i64 n2, .int .i64 n3, .int .i64 n4] : List D)) ∧ Fw.newObj σ'2 (.live t_topo_spot [[.int .i64 n1, .int .i64 n2], [.int .i64 n3, .int .i64 n4]]) (fun (id1 : Nat) => fun (σ'3 : Store) => ∃ len2 : Nat, (Len (.osl id1 0 2) len2) ∧ ∃ I1 : Int → Store → Prop, ∃ μ1 : Int → Store → Nat, (I1 0 σ'3) ∧ ∀ n5 : Int, ∀ σ'4 : Store, (I1 n5 σ'4) → bcase (decide (n5 < (len2 : Int))) (∃ len3 : Nat, (Idx Try.prog σ'4 (.osl id1 0 2) 2 len3) ∧ ((0 : Int) ≤ n5) ∧ (n5 < (len3 : Int)) ∧ ∃ row1 : List D, (Row σ'4 (.osl id1 0 2) (Int.toNat n5) row1) ∧ ∃ n6 : Int, ∃ n7 : Int, ((List.take 2 row1) = ([.int .i64 n6, .int .i64 n7] : List D)) ∧ ∃ len4 : Nat, (Len sections len4) ∧ DCalls Try.prog n_topo_between [.one (.int .i64 n6), .one (.int .i64 0), .one (.int .i64 (w64 ((len4 : Int) - 1)))] σ'4 (fun (r : RV) => fun (σ'5 : Store) => ∃ b : Bool, (r = (.a (.one (.bool b)) : RV)) ∧ bcase (!b) (Qp (.a (.one (.int .i64 6))) σ'5) (∃ len5 : Nat, (Idx Try.prog σ'5 sections 3 len5) ∧ ((0 : Int) ≤ n6) ∧ (n6 < (len5 : Int)) ∧ ∃ row2 : List D, (Row σ'5 sections (Int.toNat n6) row2) ∧ ∃ n8 : Int, ((List.take 1 row2) = ([.int .i64 n8] : List D)) ∧ DCalls Try.prog n_topo_Ends [.one (.int .i64 n8)] σ'5 (fun (r1 : RV) => fun (σ'6 : Store) => ∃ n9 : Int, (r1 = (.a (.one (.int .i64 n9)) : RV)) ∧ DCalls Try.prog n_topo_between [.one (.int .i64 n7), .one (.int .i64 0), .one (.int .i64 (w64 (n9 - 1)))] σ'6 (fun (r2 : RV) => fun (σ'7 : Store) => ∃ b1 : Bool, (r2 = (.a (.one (.bool b1)) : RV)) ∧ bcase (!b1) (Qp (.a (.one (.int .i64 6))) σ'7) (∃ r3 : Option A, (MLook Try.prog t_topo_spot σ'7 (.omap id) (.agg [.int .i64 n6, .int .i64 n7]) r3) ∧ ∃ n10 : Int, ((Option.getD r3 (.one (.int .i64 0))) = (.one (.int .i64 n10) : A)) ∧ bcase (decide (n10 > 0)) (Qp (.a (.one (.int .i64 6))) σ'7) (∃ r4 : Option A, (MLook Try.prog t_topo_spot σ'7 (.omap id) (.agg [.int .i64 n6, .int .i64 n7]) r4) ∧ ∃ n11 : Int, ((Option.getD r4 (.one (.int .i64 0))) = (.one (.int .i64 n11) : A)) ∧ MEntry Try.prog t_topo_spot σ'7 (.omap id) (.agg [.int .i64 n6, .int .i64 n7]) (.one (.int .i64 0)) (fun (v : A) => fun (n12 : Int) => fun (σ'8 : Store) => MStamp σ'8 (.omap id) n12 (.one (.int .i64 (w64 (n11 + 1)))) (fun (σ'9 : Store) => (([[.int .i64 n1, .int .i64 n2, .int .i64 n3, .int .i64 n4]] : List (List D)) = ([[.int .i64 n1, .int .i64 n2, .int .i64 n3, .int .i64 n4]] : List (List D))) ∧ (I1 (w64 (n5 + 1)) σ'9) ∧ ((μ1 (w64 (n5 + 1)) σ'9) < (μ1 n5 σ'4))))))))))) (bcase (n1 == n3) (Qp (.a (.one (.int .i64 6))) σ'4) ((I (w64 (n + 1)) σ'4) ∧ ((μ (w64 (n + 1)) σ'4) < (μ n σ'2)))))) (Fw.newObj σ'2 (.mp 0 []) (fun (id1 : Nat) => fun (σ'3 : Store) => ∃ len1 : Nat, (Len sections len1) ∧ ∃ I1 : Int → Store → Prop, ∃ μ1 : Int → Store → Nat, (I1 0 σ'3) ∧ ∀ n1 : Int, ∀ σ'4 : Store, (I1 n1 σ'4) → bcase (decide (n1 < (len1 : Int))) (∃ len2 : Nat, (Idx Try.prog σ'4 sections 3 len2) ∧ ((0 : Int) ≤ n1) ∧ (n1 < (len2 : Int)) ∧ ∃ row : List D, (Row σ'4 sections (Int.toNat n1) row) ∧ ∃ n2 : Int, ∃ n3 : Int, ∃ n4 : Int, ((List.take 3 row) = ([.int .i64 n2, .int .i64 n3, .int .i64 n4] : List D)) ∧ ∀ R1 : Store → Prop, (∀ σ'5 : Store, (bcase (n4 != 0) (bcase (n2 != 0) (Qp (.a (.one (.int .i64 6))) σ'5) (∃ r : Option A, (MLook Try.prog t_topo_spot σ'5 (.omap id) (.agg [.int .i64 n1, .int .i64 1]) r) ∧ ∃ n5 : Int, ((Option.getD r (.one (.int .i64 0))) = (.one (.int .i64 n5) : A)) ∧ bcase (decide (n5 > 0)) (Qp (.a (.one (.int .i64 6))) σ'5) (∃ r1 : Option A, (MLook Try.prog t_int σ'5 (.omap id1) (.one (.int .i64 n4)) r1) ∧ ∃ n6 : Int, ((Option.getD r1 (.one (.int .i64 0))) = (.one (.int .i64 n6) : A)) ∧ bcase (decide (n6 > 0)) (Qp (.a (.one (.int .i64 6))) σ'5) (∃ r2 : Option A, (MLook Try.prog t_int σ'5 (.omap id1) (.one (.int .i64 n4)) r2) ∧ ∃ n7 : Int, ((Option.getD r2 (.one (.int .i64 0))) = (.one (.int .i64 n7) : A)) ∧ MPut Try.prog t_int σ'5 (.omap id1) (.one (.int .i64 n4)) (.one (.int .i64 (w64 (n7 + 1)))) (fun (σ'6 : Store) => (I1 (w64 (n1 + 1)) σ'6) ∧ ((μ1 (w64 (n1 + 1)) σ'6) < (μ1 n1 σ'4))))))) (∃ r : Option A, (MLook Try.prog t_int σ'5 (.omap id1) (.one (.int .i64 n4)) r) ∧ ∃ n5 : Int, ((Option.getD r (.one (.int .i64 0))) = (.one (.int .i64 n5) : A)) ∧ MPut Try.prog t_int σ'5 (.omap id1) (.one (.int .i64 n4)) (.one (.int .i64 (w64 (n5 + 1)))) (fun (σ'6 : Store) => (I1 (w64 (n1 + 1)) σ'6) ∧ ((μ1 (w64 (n1 + 1)) σ'6) < (μ1 n1 σ'4))))) → R1 σ'5) → DCalls Try.prog n_topo_Ends [.one (.int .i64 n2)] σ'4 (fun (r : RV) => fun (σ'5 : Store) => ∃ n5 : Int, (r = (.a (.one (.int .i64 n5)) : RV)) ∧ bcase (n5 == 0) (Qp (.a (.one (.int .i64 6))) σ'5) (DCalls Try.prog n_topo_between [.one (.int .i64 n3), .one (.int .i64 0), .one (.int .i64 3)] σ'5 (fun (r1 : RV) => fun (σ'6 : Store) => ∃ b : Bool, (r1 = (.a (.one (.bool b)) : RV)) ∧ bcase (!b) (Qp (.a (.one (.int .i64 6))) σ'6) (DCalls Try.prog n_topo_between [.one (.int .i64 n4), .one (.int .i64 0), .one (.int .i64 3)] σ'6 (fun (r2 : RV) => fun (σ'7 : Store) => ∃ b1 : Bool, (r2 = (.a (.one (.bool b1)) : RV)) ∧ bcase (!b1) (Qp (.a (.one (.int .i64 6))) σ'7) ((([[.int .i64 n2, .int .i64 n3, .int .i64 n4]] : List (List D)) = ([[.int .i64 n2, .int .i64 n3, .int .i64 n4]] : List (List D))) ∧ R1 σ'7))))))) (Qp (.a (.one (.int .i64 0))) σ'4))))) → R σ') → ∃ len : Nat, (Len sections len) ∧ DCalls Try.prog n_topo_between [.one (.int .i64 (len : Int)), .one (.int .i64 1), .one (.int .i64 16)] σ (fun (r : RV) => fun (σ' : Store) => ∃ b : Bool, (r = (.a (.one (.bool b)) : RV)) ∧ bcase (!b) (Qp (.a (.one (.int .i64 6))) σ') (∃ len1 : Nat, (Len joints len1) ∧ bcase (decide ((len1 : Int) > 24)) (Qp (.a (.one (.int .i64 6))) σ') (R σ')))
theorem W_topo_Check (sections : D) (joints : D) (σ : Store) (Qp : RV → Store → Prop) (h : V_topo_Check sections joints σ Qp) : DCalls Try.prog n_topo_Check [.one sections, .one joints] σ Qp :=
  dcalls_of_body mixed (by kernel_rfl) Try.func63 an_topo_Check ((show V_topo_Check sections joints σ Qp = dbody Try.prog Try.f63 an_topo_Check [.one sections, .one joints] σ Qp by kernel_rfl) ▸ h)
def an_conf_between : Ann := { esc := [], cbs := [], draws := [], loops := [], joins := [] }
def V_conf_between (n : Int) (lo : Int) (hi : Int) (σ : Store) (Qp : RV → Store → Prop) : Prop :=
  bcase (decide (lo ≤ n)) (Qp (.a (.one (.bool (decide (n ≤ hi))))) σ) (Qp (.a (.one (.bool false))) σ)
theorem W_conf_between (n : Int) (lo : Int) (hi : Int) (σ : Store) (Qp : RV → Store → Prop) (h : V_conf_between n lo hi σ Qp) : DCalls Try.prog n_conf_between [.one (.int .i64 n), .one (.int .i64 lo), .one (.int .i64 hi)] σ Qp :=
  dcalls_of_body mixed (by kernel_rfl) Try.func67 an_conf_between ((show V_conf_between n lo hi σ Qp = dbody Try.prog Try.f67 an_conf_between [.one (.int .i64 n), .one (.int .i64 lo), .one (.int .i64 hi)] σ Qp by kernel_rfl) ▸ h)
def an_slices_Grow_Mover : Ann := { esc := [], cbs := [], draws := [], loops := [], joins := [] }
def V_slices_Grow_Mover (n : Int) (σ : Store) (Qp : RV → Store → Prop) : Prop :=
  bcase (decide (n < 0)) False (∃ len : Nat, (Len .nils len) ∧ bcase (decide ((w64 (n - (w64 (0 - (len : Int))))) > 0)) (∃ len1 : Nat, (IdxN Try.prog σ .nils 2 len1) ∧ ((0 : Int) ≤ 0) ∧ ((0 : Int) ≤ 0) ∧ ((0 : Int) ≤ (len1 : Int)) ∧ ((0 : Int) ≤ (w64 (n - (w64 (0 - (len : Int)))))) ∧ (((16 : Int) * (w64 (n - (w64 (0 - (len : Int)))))) ≤ (2 ^ 47)) ∧ bcase (decide ((w64 (n - (w64 (0 - (len : Int)))) : Int) = 0)) (∃ len2 : Nat, (Len .nils len2) ∧ ∃ len3 : Nat, (IdxN Try.prog σ .nils 2 len3) ∧ ((0 : Int) ≤ 0) ∧ ((0 : Int) ≤ (len2 : Int)) ∧ ((len2 : Int) ≤ (len3 : Int)) ∧ Qp (.a (.one .nils)) σ) (Fw.newObj σ (.live t_Mover (List.replicate (Int.toNat (w64 (n - (w64 (0 - (len : Int)))))) [.int .i64 0, .int .i64 0])) (fun (id : Nat) => fun (σ' : Store) => ∃ len2 : Nat, (Len .nils len2) ∧ ∃ len3 : Nat, (IdxN Try.prog σ' (.osl id 0 (Int.toNat (w64 (n - (w64 (0 - (len : Int))))))) 2 len3) ∧ ((0 : Int) ≤ 0) ∧ ((0 : Int) ≤ (len2 : Int)) ∧ ((len2 : Int) ≤ (len3 : Int)) ∧ Qp (.a (.one (.osl id 0 ((Int.toNat (len2 : Int)) - 0)))) σ'))) (Qp (.a (.one .nils)) σ))
theorem W_slices_Grow_Mover (n : Int) (σ : Store) (Qp : RV → Store → Prop) (h : V_slices_Grow_Mover n σ Qp) : DCalls Try.prog n_slices_Grow_Mover [.one .nils, .one (.int .i64 n)] σ Qp :=
  dcalls_of_body mixed (by kernel_rfl) Try.func79 an_slices_Grow_Mover ((show V_slices_Grow_Mover n σ Qp = dbody Try.prog Try.f79 an_slices_Grow_Mover [.one .nils, .one (.int .i64 n)] σ Qp by kernel_rfl) ▸ h)
def an_slices_ContainsFunc_Step : Ann := { esc := [], cbs := [], draws := [], loops := [], joins := [] }
def V_slices_ContainsFunc_Step (s : D) (f : D) (σ : Store) (Qp : RV → Store → Prop) : Prop :=
  DCalls Try.prog n_slices_IndexFunc_Step [.one s, .one f] σ (fun (r : RV) => fun (σ' : Store) => ∃ n : Int, (r = (.a (.one (.int .i64 n)) : RV)) ∧ Qp (.a (.one (.bool (decide (n ≥ 0))))) σ')
theorem W_slices_ContainsFunc_Step (s : D) (f : D) (σ : Store) (Qp : RV → Store → Prop) (h : V_slices_ContainsFunc_Step s f σ Qp) : DCalls Try.prog n_slices_ContainsFunc_Step [.one s, .one f] σ Qp :=
  dcalls_of_body mixed (by kernel_rfl) Try.func83 an_slices_ContainsFunc_Step ((show V_slices_ContainsFunc_Step s f σ Qp = dbody Try.prog Try.f83 an_slices_ContainsFunc_Step [.one s, .one f] σ Qp by kernel_rfl) ▸ h)
def an_slices_insertionSortCmpFunc_ars_due : Ann := { esc := [], cbs := [], draws := [(4, { ord := [0, 1, 2, 3, 4, 5, 6, 7, 8, 9, 10, 11, 12, 13, 14, 15, 16], nb := [], av := [], dir := [] }), (6, { ord := [0, 1, 2, 3, 4, 5, 6, 7, 8, 9, 10, 11, 12, 13, 14, 15, 16, 17], nb := [], av := [], dir := [] })], loops := [(1, { mods := [(8, SlotSh.one (Sh.int IntKind.i64))], keep := [0, 1, 2, 3] }), (4, { mods := [(9, SlotSh.one (Sh.int IntKind.i64))], keep := [0, 1, 2, 3, 8] })], joins := [] }
def V_slices_insertionSortCmpFunc_ars_due (data : D) (a : Int) (b : Int) (cmp : D) (σ : Store) (Qp : RV → Store → Prop) : Prop :=
  ∃ I : Int → Store → Prop, ∃ μ : Int → Store → Nat, (I (w64 (a + 1)) σ) ∧ ∀ n : Int, ∀ σ' : Store, (I n σ') → bcase (decide (n < b)) (∃ I1 : Int → Store → Prop, ∃ μ1 : Int → Store → Nat, (I1 n σ') ∧ ∀ n1 : Int, ∀ σ'1 : Store, (I1 n1 σ'1) → bcase (decide (n1 > a)) (∃ len : Nat, (Idx Try.prog σ'1 data 4 len) ∧ ((0 : Int) ≤ n1) ∧ (n1 < (len : Int)) ∧ ∃ row : List D, (Row σ'1 data (Int.toNat n1) row) ∧ ∃ n2 : Int, ∃ n3 : Int, ∃ n4 : Int, ∃ n5 : Int, ((List.take 4 row) = ([.int .i64 n2, .int .i64 n3, .int .i64 n4, .int .i64 n5] : List D)) ∧ ∃ len1 : Nat, (Idx Try.prog σ'1 data 4 len1) ∧ ((0 : Int) ≤ (w64 (n1 - 1))) ∧ ((w64 (n1 - 1)) < (len1 : Int)) ∧ ∃ row1 : List D, (Row σ'1 data (Int.toNat (w64 (n1 - 1))) row1) ∧ ∃ n6 : Int, ∃ n7 : Int, ∃ n8 : Int, ∃ n9 : Int, ((List.take 4 row1) = ([.int .i64 n6, .int .i64 n7, .int .i64 n8, .int .i64 n9] : List D)) ∧ ∃ f : FuncId, ∃ a1 : List (Bool × (List D)), ∃ b1 : List (Bool × (List D)), ∃ as0' : List A, ∃ bs : List A, (cmp = (.fn f a1 b1 : D)) ∧ ((capAs a1) = (Option.some as0')) ∧ ((capAs b1) = (Option.some bs)) ∧ DCalls Try.prog f (HAppend.hAppend (HAppend.hAppend as0' [.agg [.int .i64 n2, .int .i64 n3, .int .i64 n4, .int .i64 n5], .agg [.int .i64 n6, .int .i64 n7, .int .i64 n8, .int .i64 n9]]) bs) σ'1 (fun (r : RV) => fun (σ'2 : Store) => ∃ n10 : Int, (r = (.a (.one (.int .i64 n10)) : RV)) ∧ bcase (decide (n10 < 0)) (∃ len2 : Nat, (Idx Try.prog σ'2 data 4 len2) ∧ ((0 : Int) ≤ (w64 (n1 - 1))) ∧ ((w64 (n1 - 1)) < (len2 : Int)) ∧ ∃ row2 : List D, (Row σ'2 data (Int.toNat (w64 (n1 - 1))) row2) ∧ ∃ n11 : Int, ∃ n12 : Int, ∃ n13 : Int, ∃ n14 : Int, ((List.take 4 row2) = ([.int .i64 n11, .int .i64 n12, .int .i64 n13, .int .i64 n14] : List D)) ∧ ∃ len3 : Nat, (Idx Try.prog σ'2 data 4 len3) ∧ ((0 : Int) ≤ n1) ∧ (n1 < (len3 : Int)) ∧ ∃ row3 : List D, (Row σ'2 data (Int.toNat n1) row3) ∧ ∃ n15 : Int, ∃ n16 : Int, ∃ n17 : Int, ∃ n18 : Int, ((List.take 4 row3) = ([.int .i64 n15, .int .i64 n16, .int .i64 n17, .int .i64 n18] : List D)) ∧ ∃ len4 : Nat, (Idx Try.prog σ'2 data 4 len4) ∧ ((0 : Int) ≤ n1) ∧ (n1 < (len4 : Int)) ∧ storeEl [.int .i64 n11, .int .i64 n12, .int .i64 n13, .int .i64 n14] σ'2 data (Int.toNat n1) 0 (fun (σ'3 : Store) => ∃ len5 : Nat, (Idx Try.prog σ'3 data 4 len5) ∧ ((0 : Int) ≤ (w64 (n1 - 1))) ∧ ((w64 (n1 - 1)) < (len5 : Int)) ∧ storeEl [.int .i64 n15, .int .i64 n16, .int .i64 n17, .int .i64 n18] σ'3 data (Int.toNat (w64 (n1 - 1))) 0 (fun (σ'4 : Store) => (I1 (w64 (n1 - 1)) σ'4) ∧ ((μ1 (w64 (n1 - 1)) σ'4) < (μ1 n1 σ'1))))) ((I (w64 (n + 1)) σ'2) ∧ ((μ (w64 (n + 1)) σ'2) < (μ n σ'))))) ((I (w64 (n + 1)) σ'1) ∧ ((μ (w64 (n + 1)) σ'1) < (μ n σ')))) (Qp (.tup []) σ')
theorem W_slices_insertionSortCmpFunc_ars_due (data : D) (a : Int) (b : Int) (cmp : D) (σ : Store) (Qp : RV → Store → Prop) (h : V_slices_insertionSortCmpFunc_ars_due data a b cmp σ Qp) : DCalls Try.prog n_slices_insertionSortCmpFunc_ars_due [.one data, .one (.int .i64 a), .one (.int .i64 b), .one cmp] σ Qp :=
  dcalls_of_body mixed (by kernel_rfl) Try.func87 an_slices_insertionSortCmpFunc_ars_due ((show V_slices_insertionSortCmpFunc_ars_due data a b cmp σ Qp = dbody Try.prog Try.f87 an_slices_insertionSortCmpFunc_ars_due [.one data, .one (.int .i64 a), .one (.int .i64 b), .one cmp] σ Qp by kernel_rfl) ▸ h)
def an_topo_Next : Ann := { esc := [], cbs := [], draws := [(5, { ord := [0, 1, 2, 3, 4, 5, 6], nb := [], av := [], dir := [] }), (7, { ord := [0, 1, 2, 3, 4, 5, 6], nb := [], av := [], dir := [] })], loops := [(2, { mods := [(13, SlotSh.one (Sh.int IntKind.i64))], keep := [1, 2, 11, 12] })], joins := [] }
def V_topo_Next (joints : D) (section_ : Int) (end_ : Int) (σ : Store) (Qp : RV → Store → Prop) : Prop :=
  ∃ len : Nat, (Len joints len) ∧ ∃ I : Int → Store → Prop, ∃ μ : Int → Store → Nat, (I 0 σ) ∧ ∀ n : Int, ∀ σ' : Store, (I n σ') → bcase (decide (n < (len : Int))) (∃ len1 : Nat, (Idx Try.prog σ' joints 4 len1) ∧ ((0 : Int) ≤ n) ∧ (n < (len1 : Int)) ∧ ∃ row : List D, (Row σ' joints (Int.toNat n) row) ∧ ∃ n1 : Int, ∃ n2 : Int, ∃ n3 : Int, ∃ n4 : Int, ((List.take 4 row) = ([.int .i64 n1, .int .i64 n2, .int .i64 n3, .int .i64 n4] : List D)) ∧ bcase (n1 == section_) (bcase (n2 == end_) (Qp (.tup [.one (.int .i64 n3), .one (.int .i64 n4), .one (.bool true)]) σ') (bcase (n3 == section_) (bcase (n4 == end_) (Qp (.tup [.one (.int .i64 n1), .one (.int .i64 n2), .one (.bool true)]) σ') ((I (w64 (n + 1)) σ') ∧ ((μ (w64 (n + 1)) σ') < (μ n σ')))) ((I (w64 (n + 1)) σ') ∧ ((μ (w64 (n + 1)) σ') < (μ n σ'))))) (bcase (n3 == section_) (bcase (n4 == end_) (Qp (.tup [.one (.int .i64 n1), .one (.int .i64 n2), .one (.bool true)]) σ') ((I (w64 (n + 1)) σ') ∧ ((μ (w64 (n + 1)) σ') < (μ n σ')))) ((I (w64 (n + 1)) σ') ∧ ((μ (w64 (n + 1)) σ') < (μ n σ'))))) (Qp (.tup [.one (.int .i64 0), .one (.int .i64 0), .one (.bool false)]) σ')
theorem W_topo_Next (joints : D) (section_ : Int) (end_ : Int) (σ : Store) (Qp : RV → Store → Prop) (h : V_topo_Next joints section_ end_ σ Qp) : DCalls Try.prog n_topo_Next [.one joints, .one (.int .i64 section_), .one (.int .i64 end_)] σ Qp :=
  dcalls_of_body mixed (by kernel_rfl) Try.func91 an_topo_Next ((show V_topo_Next joints section_ end_ σ Qp = dbody Try.prog Try.f91 an_topo_Next [.one joints, .one (.int .i64 section_), .one (.int .i64 end_)] σ Qp by kernel_rfl) ▸ h)
def an_conf_plan_flank : Ann := { esc := [13], cbs := [3], draws := [], loops := [(3, { mods := [(7, SlotSh.one (Sh.any)), (20, SlotSh.one (Sh.int IntKind.i64))], keep := [1, 2, 3, 18, 19] }), (8, { mods := [(7, SlotSh.one (Sh.any)), (36, SlotSh.one (Sh.int IntKind.i64))], keep := [1, 2, 3, 9, 18, 19, 20, 35] })], joins := [(11, { mods := [], keep := [1, 2, 3, 7, 9, 12, 18, 19, 20, 35, 36] }), (14, { mods := [], keep := [1, 2, 3, 7, 9, 13, 14, 18, 19, 20, 35, 36] })] }
def V_conf_plan_flank (p0 : D) (p1 : D) (p2 : D) (p3 : D) (p4 : D) (p5 : Int) (p6 : Int) (p7 : Int) (p8 : Int) (approach : Int) (path : D) (σ : Store) (Qp : RV → Store → Prop) : Prop :=
  ∃ len : Nat, (Len path len) ∧ ∃ I : D → Int → Store → Prop, ∃ μ : D → Int → Store → Nat, (I .nils 0 σ) ∧ ∀ d : D, ∀ n : Int, ∀ σ' : Store, (I d n σ') → bcase (decide (n < (len : Int))) (∃ len1 : Nat, (Idx Try.prog σ' path 3 len1) ∧ ((0 : Int) ≤ n) ∧ (n < (len1 : Int)) ∧ ∃ row : List D, (Row σ' path (Int.toNat n) row) ∧ ∃ n1 : Int, ∃ n2 : Int, ∃ n3 : Int, ((List.take 3 row) = ([.int .i64 n1, .int .i64 n2, .int .i64 n3] : List D)) ∧ DCalls Try.prog n_conf_plan_section [.agg [p0, p1, p2, p3, p4, .int .i64 p5, .int .i64 p6, .int .i64 p7, .int .i64 p8], .one (.int .i64 n1)] σ' (fun (r : RV) => fun (σ'1 : Store) => ∃ n4 : Int, ∃ n5 : Int, ∃ n6 : Int, ∃ b : Bool, (r = (.tup [.agg [.int .i64 n4, .int .i64 n5, .int .i64 n6], .one (.bool b)] : RV)) ∧ bcase (!b) ((I d (w64 (n + 1)) σ'1) ∧ ((μ d (w64 (n + 1)) σ'1) < (μ d n σ'))) (DCalls Try.prog n_topo_Ends [.one (.int .i64 n4)] σ'1 (fun (r1 : RV) => fun (σ'2 : Store) => ∃ n7 : Int, (r1 = (.a (.one (.int .i64 n7)) : RV)) ∧ ∃ I1 : D → Int → Store → Prop, ∃ μ1 : D → Int → Store → Nat, (I1 d 0 σ'2) ∧ ∀ d1 : D, ∀ n8 : Int, ∀ σ'3 : Store, (I1 d1 n8 σ'3) → bcase (decide (n8 < n7)) (∀ R : Store → Prop, (∀ σ'4 : Store, (DCalls Try.prog n_topo_Next [.one p1, .one (.int .i64 n1), .one (.int .i64 n8)] σ'4 (fun (r2 : RV) => fun (σ'5 : Store) => ∃ n9 : Int, ∃ n10 : Int, ∃ b1 : Bool, (r2 = (.tup [.one (.int .i64 n9), .one (.int .i64 n10), .one (.bool b1)] : RV)) ∧ Fw.newObj σ'5 (.live t_int [[.int .i64 0]]) (fun (id : Nat) => fun (σ'6 : Store) => storeEl [.int .i64 n9] σ'6 (.osl id 0 1) 0 0 (fun (σ'7 : Store) => ∃ row1 : List D, (Row σ'7 (.osl id 0 1) 0 row1) ∧ ∃ n11 : Int, ((List.take 1 row1) = ([.int .i64 n11] : List D)) ∧ DCalls Try.prog n_conf_plan_section [.agg [p0, p1, p2, p3, p4, .int .i64 p5, .int .i64 p6, .int .i64 p7, .int .i64 p8], .one (.int .i64 n11)] σ'7 (fun (r3 : RV) => fun (σ'8 : Store) => ∃ n12 : Int, ∃ n13 : Int, ∃ n14 : Int, ∃ b2 : Bool, (r3 = (.tup [.agg [.int .i64 n12, .int .i64 n13, .int .i64 n14], .one (.bool b2)] : RV)) ∧ ∀ R1 : Store → Prop, (∀ σ'9 : Store, (∃ row2 : List D, (Row σ'9 (.osl id 0 1) 0 row2) ∧ ∃ n15 : Int, ((List.take 1 row2) = ([.int .i64 n15] : List D)) ∧ Fw.newObj σ'9 (.live t_Need [[.int .i64 n15, .int .i64 (w64 (3 - n10))]]) (fun (id1 : Nat) => fun (σ'10 : Store) => appendTo Try.prog σ'10 t_Need 16 d1 (.osl id1 0 1) (fun (d2 : D) => fun (σ'11 : Store) => (([[.int .i64 n1, .int .i64 n2, .int .i64 n3]] : List (List D)) = ([[.int .i64 n1, .int .i64 n2, .int .i64 n3]] : List (List D))) ∧ (I1 d2 (w64 (n8 + 1)) σ'11) ∧ ((μ1 d2 (w64 (n8 + 1)) σ'11) < (μ1 d1 n8 σ'3))))) → R1 σ'9) → bcase (!b1) ((([[.int .i64 n1, .int .i64 n2, .int .i64 n3]] : List (List D)) = ([[.int .i64 n1, .int .i64 n2, .int .i64 n3]] : List (List D))) ∧ (I1 d1 (w64 (n8 + 1)) σ'8) ∧ ((μ1 d1 (w64 (n8 + 1)) σ'8) < (μ1 d1 n8 σ'3))) (bcase (!b2) ((([[.int .i64 n1, .int .i64 n2, .int .i64 n3]] : List (List D)) = ([[.int .i64 n1, .int .i64 n2, .int .i64 n3]] : List (List D))) ∧ (I1 d1 (w64 (n8 + 1)) σ'8) ∧ ((μ1 d1 (w64 (n8 + 1)) σ'8) < (μ1 d1 n8 σ'3))) (bcase (n12 != 1) ((([[.int .i64 n1, .int .i64 n2, .int .i64 n3]] : List (List D)) = ([[.int .i64 n1, .int .i64 n2, .int .i64 n3]] : List (List D))) ∧ (I1 d1 (w64 (n8 + 1)) σ'8) ∧ ((μ1 d1 (w64 (n8 + 1)) σ'8) < (μ1 d1 n8 σ'3))) (bcase (decide (n10 < 1)) ((([[.int .i64 n1, .int .i64 n2, .int .i64 n3]] : List (List D)) = ([[.int .i64 n1, .int .i64 n2, .int .i64 n3]] : List (List D))) ∧ (I1 d1 (w64 (n8 + 1)) σ'8) ∧ ((μ1 d1 (w64 (n8 + 1)) σ'8) < (μ1 d1 n8 σ'3))) (bcase (decide (n10 > 2)) ((([[.int .i64 n1, .int .i64 n2, .int .i64 n3]] : List (List D)) = ([[.int .i64 n1, .int .i64 n2, .int .i64 n3]] : List (List D))) ∧ (I1 d1 (w64 (n8 + 1)) σ'8) ∧ ((μ1 d1 (w64 (n8 + 1)) σ'8) < (μ1 d1 n8 σ'3))) (∃ row2 : List D, (Row σ'8 (.osl id 0 1) 0 row2) ∧ ∃ n15 : Int, ((List.take 1 row2) = ([.int .i64 n15] : List D)) ∧ bcase (n15 == approach) ((([[.int .i64 n1, .int .i64 n2, .int .i64 n3]] : List (List D)) = ([[.int .i64 n1, .int .i64 n2, .int .i64 n3]] : List (List D))) ∧ (I1 d1 (w64 (n8 + 1)) σ'8) ∧ ((μ1 d1 (w64 (n8 + 1)) σ'8) < (μ1 d1 n8 σ'3))) (∃ row3 : List D, (Row σ'8 (.osl id 0 1) 0 row3) ∧ ∃ n16 : Int, ((List.take 1 row3) = ([.int .i64 n16] : List D)) ∧ DCalls Try.prog n_conf_has [.one path, .one (.int .i64 n16)] σ'8 (fun (r4 : RV) => fun (σ'9 : Store) => ∃ b3 : Bool, (r4 = (.a (.one (.bool b3)) : RV)) ∧ bcase b3 ((([[.int .i64 n1, .int .i64 n2, .int .i64 n3]] : List (List D)) = ([[.int .i64 n1, .int .i64 n2, .int .i64 n3]] : List (List D))) ∧ (I1 d1 (w64 (n8 + 1)) σ'9) ∧ ((μ1 d1 (w64 (n8 + 1)) σ'9) < (μ1 d1 n8 σ'3))) (DCalls Try.prog n_slices_ContainsFunc_Need [.one d1, .one (.fn n_conf_plan_flank_1 [] [(false, [.el (.osl id 0 1) 0 0])])] σ'9 (fun (r5 : RV) => fun (σ'10 : Store) => ∃ b4 : Bool, (r5 = (.a (.one (.bool b4)) : RV)) ∧ bcase b4 ((([[.int .i64 n1, .int .i64 n2, .int .i64 n3]] : List (List D)) = ([[.int .i64 n1, .int .i64 n2, .int .i64 n3]] : List (List D))) ∧ (I1 d1 (w64 (n8 + 1)) σ'10) ∧ ((μ1 d1 (w64 (n8 + 1)) σ'10) < (μ1 d1 n8 σ'3))) ((([[.int .i64 n1, .int .i64 n2, .int .i64 n3]] : List (List D)) = ([[.int .i64 n1, .int .i64 n2, .int .i64 n3]] : List (List D))) ∧ R1 σ'10))))))))))))))) → R σ'4) → bcase (n8 == n2) ((([[.int .i64 n1, .int .i64 n2, .int .i64 n3]] : List (List D)) = ([[.int .i64 n1, .int .i64 n2, .int .i64 n3]] : List (List D))) ∧ (I1 d1 (w64 (n8 + 1)) σ'3) ∧ ((μ1 d1 (w64 (n8 + 1)) σ'3) < (μ1 d1 n8 σ'3))) (bcase (n8 == n3) ((([[.int .i64 n1, .int .i64 n2, .int .i64 n3]] : List (List D)) = ([[.int .i64 n1, .int .i64 n2, .int .i64 n3]] : List (List D))) ∧ (I1 d1 (w64 (n8 + 1)) σ'3) ∧ ((μ1 d1 (w64 (n8 + 1)) σ'3) < (μ1 d1 n8 σ'3))) ((([[.int .i64 n1, .int .i64 n2, .int .i64 n3]] : List (List D)) = ([[.int .i64 n1, .int .i64 n2, .int .i64 n3]] : List (List D))) ∧ R σ'3))) ((I d1 (w64 (n + 1)) σ'3) ∧ ((μ d1 (w64 (n + 1)) σ'3) < (μ d n σ'))))))) (Qp (.a (.one d)) σ')
theorem W_conf_plan_flank (p0 : D) (p1 : D) (p2 : D) (p3 : D) (p4 : D) (p5 : Int) (p6 : Int) (p7 : Int) (p8 : Int) (approach : Int) (path : D) (σ : Store) (Qp : RV → Store → Prop) (h : V_conf_plan_flank p0 p1 p2 p3 p4 p5 p6 p7 p8 approach path σ Qp) : DCalls Try.prog n_conf_plan_flank [.agg [p0, p1, p2, p3, p4, .int .i64 p5, .int .i64 p6, .int .i64 p7, .int .i64 p8], .one (.int .i64 approach), .one path] σ Qp :=
  dcalls_of_body mixed (by kernel_rfl) Try.func95 an_conf_plan_flank ((show V_conf_plan_flank p0 p1 p2 p3 p4 p5 p6 p7 p8 approach path σ Qp = dbody Try.prog Try.f95 an_conf_plan_flank [.agg [p0, p1, p2, p3, p4, .int .i64 p5, .int .i64 p6, .int .i64 p7, .int .i64 p8], .one (.int .i64 approach), .one path] σ Qp by kernel_rfl) ▸ h)
def an_topo_ways : Ann := { esc := [], cbs := [], draws := [], loops := [], joins := [] }
def V_topo_ways (kind : Int) (σ : Store) (Qp : RV → Store → Prop) : Prop :=
  bcase (kind == 0) (Fw.newObj σ (.live t_topo_way [[.int .i64 0, .int .i64 1, .int .i64 0]]) (fun (id : Nat) => fun (σ' : Store) => Qp (.a (.one (.osl id 0 1))) σ')) (bcase (kind == 1) (Fw.newObj σ (.live t_topo_way [[.int .i64 0, .int .i64 1, .int .i64 1], [.int .i64 0, .int .i64 2, .int .i64 2]]) (fun (id : Nat) => fun (σ' : Store) => Qp (.a (.one (.osl id 0 2))) σ')) (bcase (kind == 2) (Fw.newObj σ (.live t_topo_way [[.int .i64 0, .int .i64 1, .int .i64 0], [.int .i64 2, .int .i64 3, .int .i64 0]]) (fun (id : Nat) => fun (σ' : Store) => Qp (.a (.one (.osl id 0 2))) σ')) (Qp (.a (.one .nils)) σ)))
theorem W_topo_ways (kind : Int) (σ : Store) (Qp : RV → Store → Prop) (h : V_topo_ways kind σ Qp) : DCalls Try.prog n_topo_ways [.one (.int .i64 kind)] σ Qp :=
  dcalls_of_body mixed (by kernel_rfl) Try.func108 an_topo_ways ((show V_topo_ways kind σ Qp = dbody Try.prog Try.f108 an_topo_ways [.one (.int .i64 kind)] σ Qp by kernel_rfl) ▸ h)
def an_conf_plan_flank_1 : Ann := { esc := [], cbs := [2], draws := [], loops := [], joins := [] }
def V_conf_plan_flank_1 (n0 : Int) (n1 : Int) (a1 : D) (σ : Store) (Qp : RV → Store → Prop) : Prop :=
  ∃ s : D, ∃ i : Nat, ∃ off : Nat, (a1 = (.el s i off : D)) ∧ ∃ row : List D, (Row σ s i row) ∧ ∃ n : Int, ((List.take 1 (List.drop off row)) = ([.int .i64 n] : List D)) ∧ Qp (.a (.one (.bool (n0 == n)))) σ
theorem W_conf_plan_flank_1 (n0 : Int) (n1 : Int) (a1 : D) (σ : Store) (Qp : RV → Store → Prop) (h : V_conf_plan_flank_1 n0 n1 a1 σ Qp) : DCalls Try.prog n_conf_plan_flank_1 [.agg [.int .i64 n0, .int .i64 n1], .one a1] σ Qp :=
  dcalls_of_body mixed (by kernel_rfl) Try.func116 an_conf_plan_flank_1 ((show V_conf_plan_flank_1 n0 n1 a1 σ Qp = dbody Try.prog Try.f116 an_conf_plan_flank_1 [.agg [.int .i64 n0, .int .i64 n1], .one a1] σ Qp by kernel_rfl) ▸ h)
def an_slices_IndexFunc_Need : Ann := { esc := [], cbs := [], draws := [], loops := [(2, { mods := [(8, SlotSh.one (Sh.int IntKind.i64))], keep := [0, 1, 7] })], joins := [] }
def V_slices_IndexFunc_Need (s : D) (f : D) (σ : Store) (Qp : RV → Store → Prop) : Prop :=
  ∃ len : Nat, (Len s len) ∧ ∃ I : Int → Store → Prop, ∃ μ : Int → Store → Nat, (I 0 σ) ∧ ∀ n : Int, ∀ σ' : Store, (I n σ') → bcase (decide (n < (len : Int))) (∃ len1 : Nat, (Idx Try.prog σ' s 2 len1) ∧ ((0 : Int) ≤ n) ∧ (n < (len1 : Int)) ∧ ∃ row : List D, (Row σ' s (Int.toNat n) row) ∧ ∃ n1 : Int, ∃ n2 : Int, ((List.take 2 row) = ([.int .i64 n1, .int .i64 n2] : List D)) ∧ ∃ f1 : FuncId, ∃ a : List (Bool × (List D)), ∃ b : List (Bool × (List D)), ∃ as0' : List A, ∃ bs : List A, (f = (.fn f1 a b : D)) ∧ ((capAs a) = (Option.some as0')) ∧ ((capAs b) = (Option.some bs)) ∧ DCalls Try.prog f1 (HAppend.hAppend (HAppend.hAppend as0' [.agg [.int .i64 n1, .int .i64 n2]]) bs) σ' (fun (r : RV) => fun (σ'1 : Store) => ∃ b1 : Bool, (r = (.a (.one (.bool b1)) : RV)) ∧ bcase b1 (Qp (.a (.one (.int .i64 n))) σ'1) ((I (w64 (n + 1)) σ'1) ∧ ((μ (w64 (n + 1)) σ'1) < (μ n σ'))))) (Qp (.a (.one (.int .i64 (-1)))) σ')
theorem W_slices_IndexFunc_Need (s : D) (f : D) (σ : Store) (Qp : RV → Store → Prop) (h : V_slices_IndexFunc_Need s f σ Qp) : DCalls Try.prog n_slices_IndexFunc_Need [.one s, .one f] σ Qp :=
  dcalls_of_body mixed (by kernel_rfl) Try.func120 an_slices_IndexFunc_Need ((show V_slices_IndexFunc_Need s f σ Qp = dbody Try.prog Try.f120 an_slices_IndexFunc_Need [.one s, .one f] σ Qp by kernel_rfl) ▸ h)
end Go.Proofs.Yteflnjedfmmddaa
end
section
set_option maxRecDepth 100000
set_option linter.unusedVariables false
namespace Go.Proofs.Yteflnjedfmmddaa
open Go.Fw Go.Proofs
def an_law16_ArsDue : Ann := { esc := [], cbs := [3, 4, 5], draws := [(14, { ord := [0, 1, 2, 3, 4, 5, 6, 7, 8, 9, 10, 11, 12, 13, 14, 15, 16, 17, 18, 19, 20, 21, 22, 23, 24, 25, 26, 27, 28, 29, 30, 31, 32, 33, 34, 35, 36, 37, 38, 39, 40], nb := [], av := [], dir := [] })], loops := [(6, { mods := [(29, SlotSh.one (Sh.int IntKind.i64))], keep := [4, 5, 7, 8, 27, 28] })], joins := [(16, { mods := [], keep := [4, 5, 7, 8, 27, 28, 29] }), (10, { mods := [], keep := [4, 5, 7, 8, 9, 10, 27, 28, 29] }), (14, { mods := [], keep := [4, 5, 7, 8, 9, 10, 11, 27, 28, 29] })] }
def V_law16_ArsDue (c0 : D) (c1 : D) (c2 : D) (c3 : D) (c4 : D) (c5 : Int) (c6 : Int) (c7 : Int) (c8 : Int) (w0 : D) (w1 : D) (w2 : D) (w3 : D) (w4 : D) (w5 : D) (w6 : Bool) (w7 : D) (w8 : D) (w9 : D) (w10 : D) (w11 : D) (w12 : D) (w13 : Bool) (w14 : D) (w15 : D) (w16 : D) (w17 : D) (a0 : Int) (a1 : D) (a2 : D) (σ : Store) (Qp : RV → Store → Prop) : Prop :=
  DCalls Try.prog n_law16_lives [] σ (fun (r : RV) => fun (σ' : Store) => ∃ b : Bool, (r = (.a (.one (.bool b)) : RV)) ∧ bcase (!b) (Qp (.a (.one (.bool false))) σ') (DCalls Try.prog n_ars_Due [.agg [c0, c1, c2, c3, c4, .int .i64 c5, .int .i64 c6, .int .i64 c7, .int .i64 c8], .agg [w0, w1, w2, w3, w4, w5, .bool w6], .agg [w14, w15, w16, w17], .one (.int .i64 a0), .one a1, .one a2] σ' (fun (r1 : RV) => fun (σ'1 : Store) => ∃ d : D, (r1 = (.a (.one d) : RV)) ∧ Fw.newObj σ'1 (.mp 0 []) (fun (id : Nat) => fun (σ'2 : Store) => ∃ len : Nat, (Len d len) ∧ ∃ I : Int → Store → Prop, ∃ μ : Int → Store → Nat, (I 0 σ'2) ∧ ∀ n : Int, ∀ σ'3 : Store, (I n σ'3) → bcase (decide (n < (len : Int))) (∀ R : Store → Prop, (∀ σ'4 : Store, ((I (w64 (n + 1)) σ'4) ∧ ((μ (w64 (n + 1)) σ'4) < (μ n σ'3))) → R σ'4) → ∃ len1 : Nat, (Idx Try.prog σ'3 d 1 len1) ∧ ((0 : Int) ≤ n) ∧ (n < (len1 : Int)) ∧ ∃ row : List D, (Row σ'3 d (Int.toNat n) row) ∧ ∃ n1 : Int, ((List.take 1 row) = ([.int .i64 n1] : List D)) ∧ ∀ R1 : Store → Prop, (∀ σ'4 : Store, (∃ r2 : Option A, (MLook Try.prog t_int σ'4 (.omap id) (.one (.int .i64 n1)) r2) ∧ ∃ n2 : Int, ((Option.getD r2 (.one (.int .i64 0))) = (.one (.int .i64 n2) : A)) ∧ MPut Try.prog t_int σ'4 (.omap id) (.one (.int .i64 n1)) (.one (.int .i64 (w64 (n2 + 1)))) (fun (σ'5 : Store) => ∃ len2 : Nat, (Idx Try.prog σ'5 a2 3 len2) ∧ ((0 : Int) ≤ n1) ∧ (n1 < (len2 : Int)) ∧ ∃ row1 : List D, (Row σ'5 a2 (Int.toNat n1) row1) ∧ ∃ n3 : Int, ∃ n4 : Int, ∃ n5 : Int, ((List.take 3 row1) = ([.int .i64 n3, .int .i64 n4, .int .i64 n5] : List D)) ∧ ∀ R2 : Store → Prop, (∀ σ'6 : Store, (bcase (decide (n > 0)) (∃ len3 : Nat, (Idx Try.prog σ'6 d 1 len3) ∧ ((0 : Int) ≤ (w64 (n - 1))) ∧ ((w64 (n - 1)) < (len3 : Int)) ∧ ∃ row2 : List D, (Row σ'6 d (Int.toNat (w64 (n - 1))) row2) ∧ ∃ n6 : Int, ((List.take 1 row2) = ([.int .i64 n6] : List D)) ∧ ∃ len4 : Nat, (Idx Try.prog σ'6 a2 3 len4) ∧ ((0 : Int) ≤ n6) ∧ (n6 < (len4 : Int)) ∧ ∃ row3 : List D, (Row σ'6 a2 (Int.toNat n6) row3) ∧ ∃ n7 : Int, ((List.take 1 row3) = ([.int .i64 n7] : List D)) ∧ bcase (decide (n7 > n3)) (Qp (.a (.one (.bool false))) σ'6) (∃ len5 : Nat, (Idx Try.prog σ'6 d 1 len5) ∧ ((0 : Int) ≤ (w64 (n - 1))) ∧ ((w64 (n - 1)) < (len5 : Int)) ∧ ∃ row4 : List D, (Row σ'6 d (Int.toNat (w64 (n - 1))) row4) ∧ ∃ n8 : Int, ((List.take 1 row4) = ([.int .i64 n8] : List D)) ∧ ∃ len6 : Nat, (Idx Try.prog σ'6 a2 3 len6) ∧ ((0 : Int) ≤ n8) ∧ (n8 < (len6 : Int)) ∧ ∃ row5 : List D, (Row σ'6 a2 (Int.toNat n8) row5) ∧ ∃ n9 : Int, ((List.take 1 row5) = ([.int .i64 n9] : List D)) ∧ bcase (n9 == n3) (∃ len7 : Nat, (Idx Try.prog σ'6 d 1 len7) ∧ ((0 : Int) ≤ (w64 (n - 1))) ∧ ((w64 (n - 1)) < (len7 : Int)) ∧ ∃ row6 : List D, (Row σ'6 d (Int.toNat (w64 (n - 1))) row6) ∧ ∃ n10 : Int, ((List.take 1 row6) = ([.int .i64 n10] : List D)) ∧ bcase (decide (n10 > n1)) (Qp (.a (.one (.bool false))) σ'6) (R σ'6)) (R σ'6))) (R σ'6)) → R2 σ'6) → bcase (decide (n3 > a0)) (Qp (.a (.one (.bool false))) σ'5) (∃ len3 : Nat, (Len a1 len3) ∧ bcase (decide (n1 < (len3 : Int))) (∃ len4 : Nat, (Idx Try.prog σ'5 a1 1 len4) ∧ ((0 : Int) ≤ n1) ∧ (n1 < (len4 : Int)) ∧ ∃ row2 : List D, (Row σ'5 a1 (Int.toNat n1) row2) ∧ ∃ b1 : Bool, ((List.take 1 row2) = ([.bool b1] : List D)) ∧ bcase b1 (Qp (.a (.one (.bool false))) σ'5) (∃ len5 : Nat, (Idx Try.prog σ'5 w1 4 len5) ∧ ((0 : Int) ≤ n4) ∧ (n4 < (len5 : Int)) ∧ ∃ row3 : List D, (Row σ'5 w1 (Int.toNat n4) row3) ∧ ∃ n6 : Int, ((List.take 1 row3) = ([.int .i64 n6] : List D)) ∧ bcase (n6 != 0) (Qp (.a (.one (.bool false))) σ'5) ((([[.int .i64 n3, .int .i64 n4, .int .i64 n5]] : List (List D)) = ([[.int .i64 n3, .int .i64 n4, .int .i64 n5]] : List (List D))) ∧ R2 σ'5))) (∃ len4 : Nat, (Idx Try.prog σ'5 w1 4 len4) ∧ ((0 : Int) ≤ n4) ∧ (n4 < (len4 : Int)) ∧ ∃ row2 : List D, (Row σ'5 w1 (Int.toNat n4) row2) ∧ ∃ n6 : Int, ((List.take 1 row2) = ([.int .i64 n6] : List D)) ∧ bcase (n6 != 0) (Qp (.a (.one (.bool false))) σ'5) ((([[.int .i64 n3, .int .i64 n4, .int .i64 n5]] : List (List D)) = ([[.int .i64 n3, .int .i64 n4, .int .i64 n5]] : List (List D))) ∧ R2 σ'5))))) → R1 σ'4) → bcase (decide (n1 < 0)) (Qp (.a (.one (.bool false))) σ'3) (∃ len2 : Nat, (Len a2 len2) ∧ bcase (decide (n1 ≥ (len2 : Int))) (Qp (.a (.one (.bool false))) σ'3) (∃ r2 : Option A, (MLook Try.prog t_int σ'3 (.omap id) (.one (.int .i64 n1)) r2) ∧ ∃ n2 : Int, ((Option.getD r2 (.one (.int .i64 0))) = (.one (.int .i64 n2) : A)) ∧ bcase (decide (n2 > 0)) (Qp (.a (.one (.bool false))) σ'3) (R1 σ'3)))) (Qp (.a (.one (.bool true))) σ'3)))))
theorem W_law16_ArsDue (c0 : D) (c1 : D) (c2 : D) (c3 : D) (c4 : D) (c5 : Int) (c6 : Int) (c7 : Int) (c8 : Int) (w0 : D) (w1 : D) (w2 : D) (w3 : D) (w4 : D) (w5 : D) (w6 : Bool) (w7 : D) (w8 : D) (w9 : D) (w10 : D) (w11 : D) (w12 : D) (w13 : Bool) (w14 : D) (w15 : D) (w16 : D) (w17 : D) (a0 : Int) (a1 : D) (a2 : D) (σ : Store) (Qp : RV → Store → Prop) (h : V_law16_ArsDue c0 c1 c2 c3 c4 c5 c6 c7 c8 w0 w1 w2 w3 w4 w5 w6 w7 w8 w9 w10 w11 w12 w13 w14 w15 w16 w17 a0 a1 a2 σ Qp) : DCalls Try.prog n_law16_ArsDue [.agg [c0, c1, c2, c3, c4, .int .i64 c5, .int .i64 c6, .int .i64 c7, .int .i64 c8], .agg [w0, w1, w2, w3, w4, w5, .bool w6, w7, w8, w9, w10, w11, w12, .bool w13, w14, w15, w16, w17], .agg [.int .i64 a0, a1, a2]] σ Qp :=
  dcalls_of_body mixed (by kernel_rfl) Try.func4 an_law16_ArsDue ((show V_law16_ArsDue c0 c1 c2 c3 c4 c5 c6 c7 c8 w0 w1 w2 w3 w4 w5 w6 w7 w8 w9 w10 w11 w12 w13 w14 w15 w16 w17 a0 a1 a2 σ Qp = dbody Try.prog Try.f4 an_law16_ArsDue [.agg [c0, c1, c2, c3, c4, .int .i64 c5, .int .i64 c6, .int .i64 c7, .int .i64 c8], .agg [w0, w1, w2, w3, w4, w5, .bool w6, w7, w8, w9, w10, w11, w12, .bool w13, w14, w15, w16, w17], .agg [.int .i64 a0, a1, a2]] σ Qp by kernel_rfl) ▸ h)
def an_law16_ArsStays : Ann := { esc := [], cbs := [3, 4], draws := [], loops := [(7, { mods := [(36, SlotSh.one (Sh.int IntKind.i64))], keep := [2, 3, 4, 7, 34, 35] }), (13, { mods := [(56, SlotSh.one (Sh.int IntKind.i64))], keep := [2, 3, 4, 7, 54, 55] })], joins := [(6, { mods := [], keep := [2, 3, 4, 7] })] }
def V_law16_ArsStays (c0 : D) (c1 : D) (c2 : D) (c3 : D) (c4 : D) (c5 : Int) (c6 : Int) (c7 : Int) (c8 : Int) (w0 : D) (w1 : D) (w2 : D) (w3 : D) (w4 : D) (w5 : D) (w6 : Bool) (w7 : D) (w8 : D) (w9 : D) (w10 : D) (w11 : D) (w12 : D) (w13 : Bool) (w14 : D) (w15 : D) (w16 : D) (w17 : D) (berths : D) (σ : Store) (Qp : RV → Store → Prop) : Prop :=
  DCalls Try.prog n_law16_lives [] σ (fun (r : RV) => fun (σ' : Store) => ∃ b : Bool, (r = (.a (.one (.bool b)) : RV)) ∧ bcase (!b) (Qp (.a (.one (.bool false))) σ') (DCalls Try.prog n_ars_Berths [.agg [c0, c1, c2, c3, c4, .int .i64 c5, .int .i64 c6, .int .i64 c7, .int .i64 c8], .agg [w0, w1, w2, w3, w4, w5, .bool w6], .agg [w0, w1, w2, w3, w4, w5, .bool w6], .one berths] σ' (fun (r1 : RV) => fun (σ'1 : Store) => ∃ d : D, (r1 = (.a (.one d) : RV)) ∧ ∀ R : Store → Prop, (∀ σ'2 : Store, (∃ len : Nat, (Len berths len) ∧ ∃ I : Int → Store → Prop, ∃ μ : Int → Store → Nat, (I 0 σ'2) ∧ ∀ n : Int, ∀ σ'3 : Store, (I n σ'3) → bcase (decide (n < (len : Int))) (∃ len1 : Nat, (Idx Try.prog σ'3 berths 1 len1) ∧ ((0 : Int) ≤ n) ∧ (n < (len1 : Int)) ∧ ∃ row : List D, (Row σ'3 berths (Int.toNat n) row) ∧ ∃ n1 : Int, ((List.take 1 row) = ([.int .i64 n1] : List D)) ∧ ∃ len2 : Nat, (Len d len2) ∧ bcase (decide (n < (len2 : Int))) (∃ len3 : Nat, (Idx Try.prog σ'3 d 1 len3) ∧ ((0 : Int) ≤ n) ∧ (n < (len3 : Int)) ∧ ∃ row1 : List D, (Row σ'3 d (Int.toNat n) row1) ∧ ∃ n2 : Int, ((List.take 1 row1) = ([.int .i64 n2] : List D)) ∧ bcase (n2 != n1) (Qp (.a (.one (.bool false))) σ'3) ((I (w64 (n + 1)) σ'3) ∧ ((μ (w64 (n + 1)) σ'3) < (μ n σ'3)))) ((I (w64 (n + 1)) σ'3) ∧ ((μ (w64 (n + 1)) σ'3) < (μ n σ'3)))) (∃ len1 : Nat, (Len d len1) ∧ ∃ I1 : Int → Store → Prop, ∃ μ1 : Int → Store → Nat, (I1 0 σ'3) ∧ ∀ n1 : Int, ∀ σ'4 : Store, (I1 n1 σ'4) → bcase (decide (n1 < (len1 : Int))) (∃ len2 : Nat, (Idx Try.prog σ'4 d 1 len2) ∧ ((0 : Int) ≤ n1) ∧ (n1 < (len2 : Int)) ∧ ∃ row : List D, (Row σ'4 d (Int.toNat n1) row) ∧ ∃ n2 : Int, ((List.take 1 row) = ([.int .i64 n2] : List D)) ∧ ∃ len3 : Nat, (Len berths len3) ∧ bcase (decide (n1 ≥ (len3 : Int))) (bcase (n2 != 0) (Qp (.a (.one (.bool false))) σ'4) ((I1 (w64 (n1 + 1)) σ'4) ∧ ((μ1 (w64 (n1 + 1)) σ'4) < (μ1 n1 σ'4)))) ((I1 (w64 (n1 + 1)) σ'4) ∧ ((μ1 (w64 (n1 + 1)) σ'4) < (μ1 n1 σ'4)))) (DCalls Try.prog n_ars_Berths [.agg [c0, c1, c2, c3, c4, .int .i64 c5, .int .i64 c6, .int .i64 c7, .int .i64 c8], .agg [w0, w1, w2, w3, w4, w5, .bool w6], .agg [w0, w1, w2, w3, w4, w5, .bool w6], .one d] σ'4 (fun (r2 : RV) => fun (σ'5 : Store) => ∃ d1 : D, (r2 = (.a (.one d1) : RV)) ∧ DCalls Try.prog n_ref01_SameInts [.one d1, .one d] σ'5 (fun (r3 : RV) => fun (σ'6 : Store) => ∃ b1 : Bool, (r3 = (.a (.one (.bool b1)) : RV)) ∧ Qp (.a (.one (.bool b1))) σ'6))))) → R σ'2) → ∃ len : Nat, (Len d len) ∧ ∃ len1 : Nat, (Len berths len1) ∧ bcase ((len : Int) != (len1 : Int)) (∃ len2 : Nat, (Len d len2) ∧ ∃ len3 : Nat, (Len c2 len3) ∧ bcase ((len2 : Int) != (len3 : Int)) (Qp (.a (.one (.bool false))) σ'1) (R σ'1)) (R σ'1))))
theorem W_law16_ArsStays (c0 : D) (c1 : D) (c2 : D) (c3 : D) (c4 : D) (c5 : Int) (c6 : Int) (c7 : Int) (c8 : Int) (w0 : D) (w1 : D) (w2 : D) (w3 : D) (w4 : D) (w5 : D) (w6 : Bool) (w7 : D) (w8 : D) (w9 : D) (w10 : D) (w11 : D) (w12 : D) (w13 : Bool) (w14 : D) (w15 : D) (w16 : D) (w17 : D) (berths : D) (σ : Store) (Qp : RV → Store → Prop) (h : V_law16_ArsStays c0 c1 c2 c3 c4 c5 c6 c7 c8 w0 w1 w2 w3 w4 w5 w6 w7 w8 w9 w10 w11 w12 w13 w14 w15 w16 w17 berths σ Qp) : DCalls Try.prog n_law16_ArsStays [.agg [c0, c1, c2, c3, c4, .int .i64 c5, .int .i64 c6, .int .i64 c7, .int .i64 c8], .agg [w0, w1, w2, w3, w4, w5, .bool w6, w7, w8, w9, w10, w11, w12, .bool w13, w14, w15, w16, w17], .one berths] σ Qp :=
  dcalls_of_body mixed (by kernel_rfl) Try.func8 an_law16_ArsStays ((show V_law16_ArsStays c0 c1 c2 c3 c4 c5 c6 c7 c8 w0 w1 w2 w3 w4 w5 w6 w7 w8 w9 w10 w11 w12 w13 w14 w15 w16 w17 berths σ Qp = dbody Try.prog Try.f8 an_law16_ArsStays [.agg [c0, c1, c2, c3, c4, .int .i64 c5, .int .i64 c6, .int .i64 c7, .int .i64 c8], .agg [w0, w1, w2, w3, w4, w5, .bool w6, w7, w8, w9, w10, w11, w12, .bool w13, w14, w15, w16, w17], .one berths] σ Qp by kernel_rfl) ▸ h)
def an_ars_Check : Ann := { esc := [], cbs := [2], draws := [], loops := [(6, { mods := [(17, SlotSh.one (Sh.int IntKind.i64))], keep := [2, 15, 16] })], joins := [] }
def V_ars_Check (c0 : D) (c1 : D) (c2 : D) (c3 : D) (c4 : D) (c5 : Int) (c6 : Int) (c7 : Int) (c8 : Int) (table : D) (σ : Store) (Qp : RV → Store → Prop) : Prop :=
  DCalls Try.prog n_conf_Check [.agg [c0, c1, c2, c3, c4, .int .i64 c5, .int .i64 c6, .int .i64 c7, .int .i64 c8]] σ (fun (r : RV) => fun (σ' : Store) => ∃ n : Int, (r = (.a (.one (.int .i64 n)) : RV)) ∧ bcase (n != 0) (Qp (.a (.one (.int .i64 21))) σ') (∃ len : Nat, (Len table len) ∧ bcase (decide ((len : Int) > 16)) (Qp (.a (.one (.int .i64 5))) σ') (∃ len1 : Nat, (Len table len1) ∧ ∃ I : Int → Store → Prop, ∃ μ : Int → Store → Nat, (I 0 σ') ∧ ∀ n1 : Int, ∀ σ'1 : Store, (I n1 σ'1) → bcase (decide (n1 < (len1 : Int))) (∃ len2 : Nat, (Idx Try.prog σ'1 table 3 len2) ∧ ((0 : Int) ≤ n1) ∧ (n1 < (len2 : Int)) ∧ ∃ row : List D, (Row σ'1 table (Int.toNat n1) row) ∧ ∃ n2 : Int, ∃ n3 : Int, ∃ n4 : Int, ((List.take 3 row) = ([.int .i64 n2, .int .i64 n3, .int .i64 n4] : List D)) ∧ DCalls Try.prog n_ars_between [.one (.int .i64 n2), .one (.int .i64 0), .one (.int .i64 4294967295)] σ'1 (fun (r1 : RV) => fun (σ'2 : Store) => ∃ b : Bool, (r1 = (.a (.one (.bool b)) : RV)) ∧ bcase (!b) (Qp (.a (.one (.int .i64 32))) σ'2) (∃ len3 : Nat, (Len c4 len3) ∧ DCalls Try.prog n_ars_between [.one (.int .i64 n3), .one (.int .i64 0), .one (.int .i64 (w64 ((len3 : Int) - 1)))] σ'2 (fun (r2 : RV) => fun (σ'3 : Store) => ∃ b1 : Bool, (r2 = (.a (.one (.bool b1)) : RV)) ∧ bcase (!b1) (Qp (.a (.one (.int .i64 32))) σ'3) (DCalls Try.prog n_ars_between [.one (.int .i64 n4), .one (.int .i64 1), .one (.int .i64 9999)] σ'3 (fun (r3 : RV) => fun (σ'4 : Store) => ∃ b2 : Bool, (r3 = (.a (.one (.bool b2)) : RV)) ∧ bcase (!b2) (Qp (.a (.one (.int .i64 32))) σ'4) ((I (w64 (n1 + 1)) σ'4) ∧ ((μ (w64 (n1 + 1)) σ'4) < (μ n1 σ'1))))))))) (Qp (.a (.one (.int .i64 0))) σ'1))))
theorem W_ars_Check (c0 : D) (c1 : D) (c2 : D) (c3 : D) (c4 : D) (c5 : Int) (c6 : Int) (c7 : Int) (c8 : Int) (table : D) (σ : Store) (Qp : RV → Store → Prop) (h : V_ars_Check c0 c1 c2 c3 c4 c5 c6 c7 c8 table σ Qp) : DCalls Try.prog n_ars_Check [.agg [c0, c1, c2, c3, c4, .int .i64 c5, .int .i64 c6, .int .i64 c7, .int .i64 c8], .one table] σ Qp :=
  dcalls_of_body mixed (by kernel_rfl) Try.func20 an_ars_Check ((show V_ars_Check c0 c1 c2 c3 c4 c5 c6 c7 c8 table σ Qp = dbody Try.prog Try.f20 an_ars_Check [.agg [c0, c1, c2, c3, c4, .int .i64 c5, .int .i64 c6, .int .i64 c7, .int .i64 c8], .one table] σ Qp by kernel_rfl) ▸ h)
def an_conf_Check : Ann := { esc := [], cbs := [1], draws := [], loops := [(11, { mods := [(33, SlotSh.one (Sh.int IntKind.i64))], keep := [1, 3, 31, 32] })], joins := [] }
def V_conf_Check (c0 : D) (c1 : D) (c2 : D) (c3 : D) (c4 : D) (c5 : Int) (c6 : Int) (c7 : Int) (c8 : Int) (σ : Store) (Qp : RV → Store → Prop) : Prop :=
  DCalls Try.prog n_topo_Check [.one c0, .one c1] σ (fun (r : RV) => fun (σ' : Store) => ∃ n : Int, (r = (.a (.one (.int .i64 n)) : RV)) ∧ bcase (n != 0) (Qp (.a (.one (.int .i64 6))) σ') (DCalls Try.prog n_conf_plan_signals [.agg [c0, c1, c2, c3, c4, .int .i64 c5, .int .i64 c6, .int .i64 c7, .int .i64 c8]] σ' (fun (r1 : RV) => fun (σ'1 : Store) => ∃ b : Bool, (r1 = (.a (.one (.bool b)) : RV)) ∧ bcase (!b) (Qp (.a (.one (.int .i64 7))) σ'1) (DCalls Try.prog n_conf_plan_crossings [.agg [c0, c1, c2, c3, c4, .int .i64 c5, .int .i64 c6, .int .i64 c7, .int .i64 c8]] σ'1 (fun (r2 : RV) => fun (σ'2 : Store) => ∃ b1 : Bool, (r2 = (.a (.one (.bool b1)) : RV)) ∧ bcase (!b1) (Qp (.a (.one (.int .i64 8))) σ'2) (∃ len : Nat, (Len c4 len) ∧ bcase (decide ((len : Int) > 12)) (Qp (.a (.one (.int .i64 9))) σ'2) (∃ len1 : Nat, (Len c4 len1) ∧ ∃ I : Int → Store → Prop, ∃ μ : Int → Store → Nat, (I 0 σ'2) ∧ ∀ n1 : Int, ∀ σ'3 : Store, (I n1 σ'3) → bcase (decide (n1 < (len1 : Int))) (∃ len2 : Nat, (Idx Try.prog σ'3 c4 6 len2) ∧ ((0 : Int) ≤ n1) ∧ (n1 < (len2 : Int)) ∧ ∃ row : List D, (Row σ'3 c4 (Int.toNat n1) row) ∧ ∃ n2 : Int, ∃ n3 : Int, ∃ d : D, ∃ d1 : D, ∃ d2 : D, ∃ b2 : Bool, ((List.take 6 row) = ([.int .i64 n2, .int .i64 n3, d, d1, d2, .bool b2] : List D)) ∧ DCalls Try.prog n_conf_plan_route [.agg [c0, c1, c2, c3, c4, .int .i64 c5, .int .i64 c6, .int .i64 c7, .int .i64 c8], .agg [.int .i64 n2, .int .i64 n3, d, d1, d2, .bool b2]] σ'3 (fun (r3 : RV) => fun (σ'4 : Store) => ∃ n4 : Int, (r3 = (.a (.one (.int .i64 n4)) : RV)) ∧ bcase (n4 != 0) (Qp (.a (.one (.int .i64 n4))) σ'4) ((([[c0, c1, c2, c3, c4, .int .i64 c5, .int .i64 c6, .int .i64 c7, .int .i64 c8]] : List (List D)) = ([[c0, c1, c2, c3, c4, .int .i64 c5, .int .i64 c6, .int .i64 c7, .int .i64 c8]] : List (List D))) ∧ (I (w64 (n1 + 1)) σ'4) ∧ ((μ (w64 (n1 + 1)) σ'4) < (μ n1 σ'3))))) (DCalls Try.prog n_conf_between [.one (.int .i64 c5), .one (.int .i64 1), .one (.int .i64 8)] σ'3 (fun (r3 : RV) => fun (σ'4 : Store) => ∃ b2 : Bool, (r3 = (.a (.one (.bool b2)) : RV)) ∧ bcase (!b2) (Qp (.a (.one (.int .i64 12))) σ'4) (DCalls Try.prog n_conf_between [.one (.int .i64 c6), .one (.int .i64 0), .one (.int .i64 8)] σ'4 (fun (r4 : RV) => fun (σ'5 : Store) => ∃ b3 : Bool, (r4 = (.a (.one (.bool b3)) : RV)) ∧ bcase (!b3) (Qp (.a (.one (.int .i64 12))) σ'5) (DCalls Try.prog n_conf_between [.one (.int .i64 c7), .one (.int .i64 (w64 ((w64 (c5 + c6)) + 1))), .one (.int .i64 40)] σ'5 (fun (r5 : RV) => fun (σ'6 : Store) => ∃ b4 : Bool, (r5 = (.a (.one (.bool b4)) : RV)) ∧ bcase (!b4) (Qp (.a (.one (.int .i64 12))) σ'6) (DCalls Try.prog n_conf_between [.one (.int .i64 c8), .one (.int .i64 1), .one (.int .i64 1000000)] σ'6 (fun (r6 : RV) => fun (σ'7 : Store) => ∃ b5 : Bool, (r6 = (.a (.one (.bool b5)) : RV)) ∧ bcase (!b5) (Qp (.a (.one (.int .i64 12))) σ'7) (Qp (.a (.one (.int .i64 0))) σ'7))))))))))))))))
theorem W_conf_Check (c0 : D) (c1 : D) (c2 : D) (c3 : D) (c4 : D) (c5 : Int) (c6 : Int) (c7 : Int) (c8 : Int) (σ : Store) (Qp : RV → Store → Prop) (h : V_conf_Check c0 c1 c2 c3 c4 c5 c6 c7 c8 σ Qp) : DCalls Try.prog n_conf_Check [.agg [c0, c1, c2, c3, c4, .int .i64 c5, .int .i64 c6, .int .i64 c7, .int .i64 c8]] σ Qp :=
  dcalls_of_body mixed (by kernel_rfl) Try.func40 an_conf_Check ((show V_conf_Check c0 c1 c2 c3 c4 c5 c6 c7 c8 σ Qp = dbody Try.prog Try.f40 an_conf_Check [.agg [c0, c1, c2, c3, c4, .int .i64 c5, .int .i64 c6, .int .i64 c7, .int .i64 c8]] σ Qp by kernel_rfl) ▸ h)
def an_locks_movers : Ann := { esc := [], cbs := [2], draws := [], loops := [(3, { mods := [(16, SlotSh.one (Sh.int IntKind.i64))], keep := [1, 2, 6, 14, 15] })], joins := [] }
def V_locks_movers (c0 : D) (c1 : D) (c2 : D) (c3 : D) (c4 : D) (c5 : Int) (c6 : Int) (c7 : Int) (c8 : Int) (now : Int) (σ : Store) (Qp : RV → Store → Prop) : Prop :=
  ∃ len : Nat, (Len c0 len) ∧ ((0 : Int) ≤ (len : Int)) ∧ ((len : Int) ≤ (len : Int)) ∧ (((16 : Int) * (len : Int)) ≤ (2 ^ 48)) ∧ Fw.newObj σ (.live t_Mover (List.replicate (Int.toNat (len : Int)) [.int .i64 0, .int .i64 0])) (fun (id : Nat) => fun (σ' : Store) => ∃ len1 : Nat, (Len c0 len1) ∧ ∃ I : Int → Store → Prop, ∃ μ : Int → Store → Nat, (I 0 σ') ∧ ∀ n : Int, ∀ σ'1 : Store, (I n σ'1) → bcase (decide (n < (len1 : Int))) (∃ len2 : Nat, (Idx Try.prog σ'1 c0 3 len2) ∧ ((0 : Int) ≤ n) ∧ (n < (len2 : Int)) ∧ ∃ row : List D, (Row σ'1 c0 (Int.toNat n) row) ∧ ∃ n1 : Int, ∃ n2 : Int, ∃ n3 : Int, ((List.take 3 row) = ([.int .i64 n1, .int .i64 n2, .int .i64 n3] : List D)) ∧ bcase (n1 == 1) (DCalls Try.prog n_mover_Start [.one (.int .i64 now)] σ'1 (fun (r : RV) => fun (σ'2 : Store) => ∃ n4 : Int, ∃ n5 : Int, (r = (.a (.agg [.int .i64 n4, .int .i64 n5]) : RV)) ∧ ∃ len3 : Nat, (Idx Try.prog σ'2 (.osl id 0 (Int.toNat (len : Int))) 2 len3) ∧ ((0 : Int) ≤ n) ∧ (n < (len3 : Int)) ∧ storeEl [.int .i64 n4, .int .i64 n5] σ'2 (.osl id 0 (Int.toNat (len : Int))) (Int.toNat n) 0 (fun (σ'3 : Store) => (I (w64 (n + 1)) σ'3) ∧ ((μ (w64 (n + 1)) σ'3) < (μ n σ'1))))) ((I (w64 (n + 1)) σ'1) ∧ ((μ (w64 (n + 1)) σ'1) < (μ n σ'1)))) (Fw.newObj σ'1 (.live t_Mover [[.int .i64 1, .int .i64 now]]) (fun (id1 : Nat) => fun (σ'2 : Store) => ∃ len2 : Nat, (Len c3 len2) ∧ DCalls Try.prog n_slices_Repeat_Mover [.one (.osl id1 0 1), .one (.int .i64 (len2 : Int))] σ'2 (fun (r : RV) => fun (σ'3 : Store) => ∃ d : D, (r = (.a (.one d) : RV)) ∧ Qp (.tup [.one (.osl id 0 (Int.toNat (len : Int))), .one d]) σ'3))))
theorem W_locks_movers (c0 : D) (c1 : D) (c2 : D) (c3 : D) (c4 : D) (c5 : Int) (c6 : Int) (c7 : Int) (c8 : Int) (now : Int) (σ : Store) (Qp : RV → Store → Prop) (h : V_locks_movers c0 c1 c2 c3 c4 c5 c6 c7 c8 now σ Qp) : DCalls Try.prog n_locks_movers [.agg [c0, c1, c2, c3, c4, .int .i64 c5, .int .i64 c6, .int .i64 c7, .int .i64 c8], .one (.int .i64 now)] σ Qp :=
  dcalls_of_body mixed (by kernel_rfl) Try.func48 an_locks_movers ((show V_locks_movers c0 c1 c2 c3 c4 c5 c6 c7 c8 now σ Qp = dbody Try.prog Try.f48 an_locks_movers [.agg [c0, c1, c2, c3, c4, .int .i64 c5, .int .i64 c6, .int .i64 c7, .int .i64 c8], .one (.int .i64 now)] σ Qp by kernel_rfl) ▸ h)
def an_conf_plan_signals : Ann := { esc := [], cbs := [1], draws := [(6, { ord := [0, 1, 2, 3, 4, 5, 6], nb := [], av := [], dir := [] })], loops := [(3, { mods := [(14, SlotSh.one (Sh.int IntKind.i64))], keep := [1, 3, 12, 13] })], joins := [] }
def V_conf_plan_signals (p0 : D) (p1 : D) (p2 : D) (p3 : D) (p4 : D) (p5 : Int) (p6 : Int) (p7 : Int) (p8 : Int) (σ : Store) (Qp : RV → Store → Prop) : Prop :=
  Fw.newObj σ (.mp 0 []) (fun (id : Nat) => fun (σ' : Store) => ∃ len : Nat, (Len p2 len) ∧ ∃ I : Int → Store → Prop, ∃ μ : Int → Store → Nat, (I 0 σ') ∧ ∀ n : Int, ∀ σ'1 : Store, (I n σ'1) → bcase (decide (n < (len : Int))) (∃ len1 : Nat, (Idx Try.prog σ'1 p2 2 len1) ∧ ((0 : Int) ≤ n) ∧ (n < (len1 : Int)) ∧ ∃ row : List D, (Row σ'1 p2 (Int.toNat n) row) ∧ ∃ n1 : Int, ∃ n2 : Int, ((List.take 2 row) = ([.int .i64 n1, .int .i64 n2] : List D)) ∧ DCalls Try.prog n_topo_Next [.one p1, .one (.int .i64 n1), .one (.int .i64 n2)] σ'1 (fun (r : RV) => fun (σ'2 : Store) => ∃ n3 : Int, ∃ n4 : Int, ∃ b : Bool, (r = (.tup [.one (.int .i64 n3), .one (.int .i64 n4), .one (.bool b)] : RV)) ∧ ∃ r1 : Option A, (MLook Try.prog t_Signal σ'2 (.omap id) (.agg [.int .i64 n1, .int .i64 n2]) r1) ∧ ∃ n5 : Int, ((Option.getD r1 (.one (.int .i64 0))) = (.one (.int .i64 n5) : A)) ∧ MEntry Try.prog t_Signal σ'2 (.omap id) (.agg [.int .i64 n1, .int .i64 n2]) (.one (.int .i64 0)) (fun (v : A) => fun (n6 : Int) => fun (σ'3 : Store) => MStamp σ'3 (.omap id) n6 (.one (.int .i64 (w64 (n5 + 1)))) (fun (σ'4 : Store) => bcase (!b) (Qp (.a (.one (.bool false))) σ'4) (∃ r2 : Option A, (MLook Try.prog t_Signal σ'4 (.omap id) (.agg [.int .i64 n1, .int .i64 n2]) r2) ∧ ∃ n7 : Int, ((Option.getD r2 (.one (.int .i64 0))) = (.one (.int .i64 n7) : A)) ∧ bcase (decide (n7 > 1)) (Qp (.a (.one (.bool false))) σ'4) ((I (w64 (n + 1)) σ'4) ∧ ((μ (w64 (n + 1)) σ'4) < (μ n σ'1)))))))) (∃ len1 : Nat, (Len p2 len1) ∧ Qp (.a (.one (.bool (decide ((len1 : Int) ≤ 12))))) σ'1))
theorem W_conf_plan_signals (p0 : D) (p1 : D) (p2 : D) (p3 : D) (p4 : D) (p5 : Int) (p6 : Int) (p7 : Int) (p8 : Int) (σ : Store) (Qp : RV → Store → Prop) (h : V_conf_plan_signals p0 p1 p2 p3 p4 p5 p6 p7 p8 σ Qp) : DCalls Try.prog n_conf_plan_signals [.agg [p0, p1, p2, p3, p4, .int .i64 p5, .int .i64 p6, .int .i64 p7, .int .i64 p8]] σ Qp :=
  dcalls_of_body mixed (by kernel_rfl) Try.func64 an_conf_plan_signals ((show V_conf_plan_signals p0 p1 p2 p3 p4 p5 p6 p7 p8 σ Qp = dbody Try.prog Try.f64 an_conf_plan_signals [.agg [p0, p1, p2, p3, p4, .int .i64 p5, .int .i64 p6, .int .i64 p7, .int .i64 p8]] σ Qp by kernel_rfl) ▸ h)
def an_math_bits_Mul : Ann := { esc := [], cbs := [], draws := [], loops := [], joins := [] }
def V_math_bits_Mul (x : Int) (y : Int) (σ : Store) (Qp : RV → Store → Prop) : Prop :=
  DCalls Try.prog n_math_bits_Mul64 [.one (.int .u64 x), .one (.int .u64 y)] σ (fun (r : RV) => fun (σ' : Store) => ∃ n : Int, ∃ n1 : Int, (r = (.tup [.one (.int .u64 n), .one (.int .u64 n1)] : RV)) ∧ Qp (.tup [.one (.int .u64 n), .one (.int .u64 n1)]) σ')
theorem W_math_bits_Mul (x : Int) (y : Int) (σ : Store) (Qp : RV → Store → Prop) (h : V_math_bits_Mul x y σ Qp) : DCalls Try.prog n_math_bits_Mul [.one (.int .u64 x), .one (.int .u64 y)] σ Qp :=
  dcalls_of_body mixed (by kernel_rfl) Try.func76 an_math_bits_Mul ((show V_math_bits_Mul x y σ Qp = dbody Try.prog Try.f76 an_math_bits_Mul [.one (.int .u64 x), .one (.int .u64 y)] σ Qp by kernel_rfl) ▸ h)
def an_conf_plan_section : Ann := { esc := [], cbs := [2], draws := [], loops := [], joins := [] }
def V_conf_plan_section (p0 : D) (p1 : D) (p2 : D) (p3 : D) (p4 : D) (p5 : Int) (p6 : Int) (p7 : Int) (p8 : Int) (s : Int) (σ : Store) (Qp : RV → Store → Prop) : Prop :=
  bcase (decide (s < 0)) (Qp (.tup [.agg [.int .i64 0, .int .i64 0, .int .i64 0], .one (.bool false)]) σ) (∃ len : Nat, (Len p0 len) ∧ bcase (decide (s ≥ (len : Int))) (Qp (.tup [.agg [.int .i64 0, .int .i64 0, .int .i64 0], .one (.bool false)]) σ) (∃ len1 : Nat, (Idx Try.prog σ p0 3 len1) ∧ ((0 : Int) ≤ s) ∧ (s < (len1 : Int)) ∧ ∃ row : List D, (Row σ p0 (Int.toNat s) row) ∧ ∃ n : Int, ∃ n1 : Int, ∃ n2 : Int, ((List.take 3 row) = ([.int .i64 n, .int .i64 n1, .int .i64 n2] : List D)) ∧ Qp (.tup [.agg [.int .i64 n, .int .i64 n1, .int .i64 n2], .one (.bool true)]) σ))
theorem W_conf_plan_section (p0 : D) (p1 : D) (p2 : D) (p3 : D) (p4 : D) (p5 : Int) (p6 : Int) (p7 : Int) (p8 : Int) (s : Int) (σ : Store) (Qp : RV → Store → Prop) (h : V_conf_plan_section p0 p1 p2 p3 p4 p5 p6 p7 p8 s σ Qp) : DCalls Try.prog n_conf_plan_section [.agg [p0, p1, p2, p3, p4, .int .i64 p5, .int .i64 p6, .int .i64 p7, .int .i64 p8], .one (.int .i64 s)] σ Qp :=
  dcalls_of_body mixed (by kernel_rfl) Try.func92 an_conf_plan_section ((show V_conf_plan_section p0 p1 p2 p3 p4 p5 p6 p7 p8 s σ Qp = dbody Try.prog Try.f92 an_conf_plan_section [.agg [p0, p1, p2, p3, p4, .int .i64 p5, .int .i64 p6, .int .i64 p7, .int .i64 p8], .one (.int .i64 s)] σ Qp by kernel_rfl) ▸ h)
def an_slices_Equal_int : Ann := { esc := [], cbs := [], draws := [(6, { ord := [0, 1, 2, 3, 4, 5, 6, 7, 8], nb := [], av := [], dir := [] })], loops := [(4, { mods := [(13, SlotSh.one (Sh.int IntKind.i64))], keep := [0, 1, 12] })], joins := [] }
def V_slices_Equal_int (s1 : D) (s2 : D) (σ : Store) (Qp : RV → Store → Prop) : Prop :=
  ∃ len : Nat, (Len s1 len) ∧ ∃ len1 : Nat, (Len s2 len1) ∧ bcase ((len : Int) != (len1 : Int)) (Qp (.a (.one (.bool false))) σ) (∃ len2 : Nat, (Len s1 len2) ∧ ∃ I : Int → Store → Prop, ∃ μ : Int → Store → Nat, (I 0 σ) ∧ ∀ n : Int, ∀ σ' : Store, (I n σ') → bcase (decide (n < (len2 : Int))) (∃ len3 : Nat, (Idx Try.prog σ' s1 1 len3) ∧ ((0 : Int) ≤ n) ∧ (n < (len3 : Int)) ∧ ∃ row : List D, (Row σ' s1 (Int.toNat n) row) ∧ ∃ n1 : Int, ((List.take 1 row) = ([.int .i64 n1] : List D)) ∧ ∃ len4 : Nat, (Idx Try.prog σ' s2 1 len4) ∧ ((0 : Int) ≤ n) ∧ (n < (len4 : Int)) ∧ ∃ row1 : List D, (Row σ' s2 (Int.toNat n) row1) ∧ ∃ n2 : Int, ((List.take 1 row1) = ([.int .i64 n2] : List D)) ∧ bcase (n1 != n2) (Qp (.a (.one (.bool false))) σ') ((I (w64 (n + 1)) σ') ∧ ((μ (w64 (n + 1)) σ') < (μ n σ')))) (Qp (.a (.one (.bool true))) σ'))
theorem W_slices_Equal_int (s1 : D) (s2 : D) (σ : Store) (Qp : RV → Store → Prop) (h : V_slices_Equal_int s1 s2 σ Qp) : DCalls Try.prog n_slices_Equal_int [.one s1, .one s2] σ Qp :=
  dcalls_of_body mixed (by kernel_rfl) Try.func96 an_slices_Equal_int ((show V_slices_Equal_int s1 s2 σ Qp = dbody Try.prog Try.f96 an_slices_Equal_int [.one s1, .one s2] σ Qp by kernel_rfl) ▸ h)
def an_slices_Contains_Signal : Ann := { esc := [], cbs := [3], draws := [], loops := [], joins := [] }
def V_slices_Contains_Signal (s : D) (v0 : Int) (v1 : Int) (σ : Store) (Qp : RV → Store → Prop) : Prop :=
  DCalls Try.prog n_slices_Index_Signal [.one s, .agg [.int .i64 v0, .int .i64 v1]] σ (fun (r : RV) => fun (σ' : Store) => ∃ n : Int, (r = (.a (.one (.int .i64 n)) : RV)) ∧ Qp (.a (.one (.bool (decide (n ≥ 0))))) σ')
theorem W_slices_Contains_Signal (s : D) (v0 : Int) (v1 : Int) (σ : Store) (Qp : RV → Store → Prop) (h : V_slices_Contains_Signal s v0 v1 σ Qp) : DCalls Try.prog n_slices_Contains_Signal [.one s, .agg [.int .i64 v0, .int .i64 v1]] σ Qp :=
  dcalls_of_body mixed (by kernel_rfl) Try.func113 an_slices_Contains_Signal ((show V_slices_Contains_Signal s v0 v1 σ Qp = dbody Try.prog Try.f113 an_slices_Contains_Signal [.one s, .agg [.int .i64 v0, .int .i64 v1]] σ Qp by kernel_rfl) ▸ h)
end Go.Proofs.Yteflnjedfmmddaa
end
section
set_option maxRecDepth 100000
set_option linter.unusedVariables false
namespace Go.Proofs.Yteflnjedfmmddaa
open Go.Fw Go.Proofs
def an_law16_ArsOnce : Ann := { esc := [], cbs := [3, 4, 5], draws := [(20, { ord := [0, 1, 2, 3, 4, 5, 6, 7, 8, 9], nb := [], av := [], dir := [] })], loops := [(7, { mods := [(37, SlotSh.one (Sh.int IntKind.i64))], keep := [3, 4, 5, 8, 35, 36] }), (18, { mods := [(93, SlotSh.one (Sh.int IntKind.i64))], keep := [5, 91, 92] })], joins := [(17, { mods := [], keep := [3, 4, 5, 8] })] }
def V_law16_ArsOnce (c0 : D) (c1 : D) (c2 : D) (c3 : D) (c4 : D) (c5 : Int) (c6 : Int) (c7 : Int) (c8 : Int) (w0 : D) (w1 : D) (w2 : D) (w3 : D) (w4 : D) (w5 : D) (w6 : Bool) (w7 : D) (w8 : D) (w9 : D) (w10 : D) (w11 : D) (w12 : D) (w13 : Bool) (w14 : D) (w15 : D) (w16 : D) (w17 : D) (a0 : Int) (a1 : D) (a2 : D) (σ : Store) (Qp : RV → Store → Prop) : Prop :=
  DCalls Try.prog n_law16_lives [] σ (fun (r : RV) => fun (σ' : Store) => ∃ b : Bool, (r = (.a (.one (.bool b)) : RV)) ∧ bcase (!b) (Qp (.a (.one (.bool false))) σ') (DCalls Try.prog n_ars_Due [.agg [c0, c1, c2, c3, c4, .int .i64 c5, .int .i64 c6, .int .i64 c7, .int .i64 c8], .agg [w0, w1, w2, w3, w4, w5, .bool w6], .agg [w14, w15, w16, w17], .one (.int .i64 a0), .one a1, .one a2] σ' (fun (r1 : RV) => fun (σ'1 : Store) => ∃ d : D, (r1 = (.a (.one d) : RV)) ∧ ∃ len : Nat, (Len a2 len) ∧ ((0 : Int) ≤ (len : Int)) ∧ ((len : Int) ≤ (len : Int)) ∧ (((1 : Int) * (len : Int)) ≤ (2 ^ 48)) ∧ Fw.newObj σ'1 (.live t_bool (List.replicate (Int.toNat (len : Int)) [.bool false])) (fun (id : Nat) => fun (σ'2 : Store) => copyTo Try.prog σ'2 t_bool (.osl id 0 (Int.toNat (len : Int))) a1 (fun (n : Int) => fun (σ'3 : Store) => ∃ len1 : Nat, (Len d len1) ∧ ∃ I : Int → Store → Prop, ∃ μ : Int → Store → Nat, (I 0 σ'3) ∧ ∀ n1 : Int, ∀ σ'4 : Store, (I n1 σ'4) → bcase (decide (n1 < (len1 : Int))) (∃ len2 : Nat, (Idx Try.prog σ'4 d 1 len2) ∧ ((0 : Int) ≤ n1) ∧ (n1 < (len2 : Int)) ∧ ∃ row : List D, (Row σ'4 d (Int.toNat n1) row) ∧ ∃ n2 : Int, ((List.take 1 row) = ([.int .i64 n2] : List D)) ∧ bcase (decide (n2 < 0)) (Qp (.a (.one (.bool false))) σ'4) (∃ len3 : Nat, (Len (.osl id 0 (Int.toNat (len : Int))) len3) ∧ bcase (decide (n2 ≥ (len3 : Int))) (Qp (.a (.one (.bool false))) σ'4) (∃ len4 : Nat, (Idx Try.prog σ'4 (.osl id 0 (Int.toNat (len : Int))) 1 len4) ∧ ((0 : Int) ≤ n2) ∧ (n2 < (len4 : Int)) ∧ ∃ row1 : List D, (Row σ'4 (.osl id 0 (Int.toNat (len : Int))) (Int.toNat n2) row1) ∧ ∃ b1 : Bool, ((List.take 1 row1) = ([.bool b1] : List D)) ∧ bcase b1 (Qp (.a (.one (.bool false))) σ'4) (∃ len5 : Nat, (Idx Try.prog σ'4 (.osl id 0 (Int.toNat (len : Int))) 1 len5) ∧ ((0 : Int) ≤ n2) ∧ (n2 < (len5 : Int)) ∧ storeEl [.bool true] σ'4 (.osl id 0 (Int.toNat (len : Int))) (Int.toNat n2) 0 (fun (σ'5 : Store) => (I (w64 (n1 + 1)) σ'5) ∧ ((μ (w64 (n1 + 1)) σ'5) < (μ n1 σ'4))))))) (DCalls Try.prog n_ars_Due [.agg [c0, c1, c2, c3, c4, .int .i64 c5, .int .i64 c6, .int .i64 c7, .int .i64 c8], .agg [w0, w1, w2, w3, w4, w5, .bool w6], .agg [w14, w15, w16, w17], .one (.int .i64 a0), .one (.osl id 0 (Int.toNat (len : Int))), .one a2] σ'4 (fun (r2 : RV) => fun (σ'5 : Store) => ∃ d1 : D, (r2 = (.a (.one d1) : RV)) ∧ ∃ len2 : Nat, (Len d1 len2) ∧ bcase ((len2 : Int) != 0) (Qp (.a (.one (.bool false))) σ'5) (∀ R : Store → Prop, (∀ σ'6 : Store, (DCalls Try.prog n_ars_Due [.agg [c0, c1, c2, c3, c4, .int .i64 c5, .int .i64 c6, .int .i64 c7, .int .i64 c8], .agg [w0, w1, w2, w3, w4, w5, .bool w6], .agg [w14, w15, w16, w17], .one (.int .i64 (w64 (a0 + 1))), .one (.osl id 0 (Int.toNat (len : Int))), .one a2] σ'6 (fun (r3 : RV) => fun (σ'7 : Store) => ∃ d2 : D, (r3 = (.a (.one d2) : RV)) ∧ ∃ len3 : Nat, (Len d2 len3) ∧ ∃ I1 : Int → Store → Prop, ∃ μ1 : Int → Store → Nat, (I1 0 σ'7) ∧ ∀ n2 : Int, ∀ σ'8 : Store, (I1 n2 σ'8) → bcase (decide (n2 < (len3 : Int))) (∃ len4 : Nat, (Idx Try.prog σ'8 d2 1 len4) ∧ ((0 : Int) ≤ n2) ∧ (n2 < (len4 : Int)) ∧ ∃ row : List D, (Row σ'8 d2 (Int.toNat n2) row) ∧ ∃ n3 : Int, ((List.take 1 row) = ([.int .i64 n3] : List D)) ∧ ∃ len5 : Nat, (Idx Try.prog σ'8 a2 3 len5) ∧ ((0 : Int) ≤ n3) ∧ (n3 < (len5 : Int)) ∧ ∃ row1 : List D, (Row σ'8 a2 (Int.toNat n3) row1) ∧ ∃ n4 : Int, ((List.take 1 row1) = ([.int .i64 n4] : List D)) ∧ bcase (n4 != (w64 (a0 + 1))) (Qp (.a (.one (.bool false))) σ'8) ((I1 (w64 (n2 + 1)) σ'8) ∧ ((μ1 (w64 (n2 + 1)) σ'8) < (μ1 n2 σ'8)))) (Qp (.a (.one (.bool true))) σ'8))) → R σ'6) → bcase (decide (a0 > 4294967295)) (Qp (.a (.one (.bool true))) σ'5) (bcase (decide (a0 < 0)) (Qp (.a (.one (.bool true))) σ'5) (R σ'5))))))))))
theorem W_law16_ArsOnce (c0 : D) (c1 : D) (c2 : D) (c3 : D) (c4 : D) (c5 : Int) (c6 : Int) (c7 : Int) (c8 : Int) (w0 : D) (w1 : D) (w2 : D) (w3 : D) (w4 : D) (w5 : D) (w6 : Bool) (w7 : D) (w8 : D) (w9 : D) (w10 : D) (w11 : D) (w12 : D) (w13 : Bool) (w14 : D) (w15 : D) (w16 : D) (w17 : D) (a0 : Int) (a1 : D) (a2 : D) (σ : Store) (Qp : RV → Store → Prop) (h : V_law16_ArsOnce c0 c1 c2 c3 c4 c5 c6 c7 c8 w0 w1 w2 w3 w4 w5 w6 w7 w8 w9 w10 w11 w12 w13 w14 w15 w16 w17 a0 a1 a2 σ Qp) : DCalls Try.prog n_law16_ArsOnce [.agg [c0, c1, c2, c3, c4, .int .i64 c5, .int .i64 c6, .int .i64 c7, .int .i64 c8], .agg [w0, w1, w2, w3, w4, w5, .bool w6, w7, w8, w9, w10, w11, w12, .bool w13, w14, w15, w16, w17], .agg [.int .i64 a0, a1, a2]] σ Qp :=
  dcalls_of_body mixed (by kernel_rfl) Try.func5 an_law16_ArsOnce ((show V_law16_ArsOnce c0 c1 c2 c3 c4 c5 c6 c7 c8 w0 w1 w2 w3 w4 w5 w6 w7 w8 w9 w10 w11 w12 w13 w14 w15 w16 w17 a0 a1 a2 σ Qp = dbody Try.prog Try.f5 an_law16_ArsOnce [.agg [c0, c1, c2, c3, c4, .int .i64 c5, .int .i64 c6, .int .i64 c7, .int .i64 c8], .agg [w0, w1, w2, w3, w4, w5, .bool w6, w7, w8, w9, w10, w11, w12, .bool w13, w14, w15, w16, w17], .agg [.int .i64 a0, a1, a2]] σ Qp by kernel_rfl) ▸ h)
def an_locks_New : Ann := { esc := [], cbs := [2], draws := [(1, { ord := [1, 2, 3, 5, 6, 7, 10, 11, 12, 15, 0, 4, 8, 9, 13, 14, 16], nb := [2, 6, 11], av := [], dir := [], sp := [4] })], loops := [], joins := [] }
def V_locks_New (c0 : D) (c1 : D) (c2 : D) (c3 : D) (c4 : D) (c5 : Int) (c6 : Int) (c7 : Int) (c8 : Int) (now : Int) (σ : Store) (Qp : RV → Store → Prop) : Prop :=
  ∃ pre : List A → Store → Prop, ∃ post : List A → Store → RV → Store → Prop, (SpecOk Try.prog n_slices_Repeat_int pre post) ∧ ∃ len : Nat, (Len c0 len) ∧ ∃ len1 : Nat, (Len c4 len1) ∧ ∃ len2 : Nat, (Len c0 len2) ∧ Fw.newObj σ (.live t_int [[.int .i64 (-1)]]) (fun (id : Nat) => fun (σ' : Store) => (pre [.one (.osl id 0 1), .one (.int .i64 (len : Int))] σ') ∧ ∀ r : RV, ∀ s : Store, (post [.one (.osl id 0 1), .one (.int .i64 (len : Int))] σ' r s) → ∃ d : D, (r = (.a (.one d) : RV)) ∧ ((0 : Int) ≤ (len1 : Int)) ∧ ((len1 : Int) ≤ (len1 : Int)) ∧ (((32 : Int) * (len1 : Int)) ≤ (2 ^ 48)) ∧ Fw.newObj s (.live t_RouteState (List.replicate (Int.toNat (len1 : Int)) [.int .i64 0, .int .i64 0, .int .i64 0, .int .i64 0])) (fun (id1 : Nat) => fun (σ'1 : Store) => ((0 : Int) ≤ 4) ∧ ((4 : Int) ≤ 4) ∧ (((64 : Int) * 4) ≤ (2 ^ 48)) ∧ Fw.newObj σ'1 (.live t_LineState [[.int .i64 0, .int .i64 0, .int .i64 0, .int .i64 0, .int .i64 0, .int .i64 0, .int .i64 0, .int .i64 0], [.int .i64 0, .int .i64 0, .int .i64 0, .int .i64 0, .int .i64 0, .int .i64 0, .int .i64 0, .int .i64 0], [.int .i64 0, .int .i64 0, .int .i64 0, .int .i64 0, .int .i64 0, .int .i64 0, .int .i64 0, .int .i64 0], [.int .i64 0, .int .i64 0, .int .i64 0, .int .i64 0, .int .i64 0, .int .i64 0, .int .i64 0, .int .i64 0]]) (fun (id2 : Nat) => fun (σ'2 : Store) => ((0 : Int) ≤ (len2 : Int)) ∧ ((len2 : Int) ≤ (len2 : Int)) ∧ (((8 : Int) * (len2 : Int)) ≤ (2 ^ 48)) ∧ Fw.newObj σ'2 (.live t_int (List.replicate (Int.toNat (len2 : Int)) [.int .i64 0])) (fun (id3 : Nat) => fun (σ'3 : Store) => DCalls Try.prog n_locks_movers [.agg [c0, c1, c2, c3, c4, .int .i64 c5, .int .i64 c6, .int .i64 c7, .int .i64 c8], .one (.int .i64 now)] σ'3 (fun (r1 : RV) => fun (σ'4 : Store) => ∃ d1 : D, ∃ d2 : D, (r1 = (.tup [.one d1, .one d2] : RV)) ∧ Qp (.a (.agg [d, .osl id1 0 (Int.toNat (len1 : Int)), d1, d2, .osl id2 0 4, .osl id3 0 (Int.toNat (len2 : Int)), .bool true])) σ'4)))))
theorem W_locks_New (c0 : D) (c1 : D) (c2 : D) (c3 : D) (c4 : D) (c5 : Int) (c6 : Int) (c7 : Int) (c8 : Int) (now : Int) (σ : Store) (Qp : RV → Store → Prop) (h : V_locks_New c0 c1 c2 c3 c4 c5 c6 c7 c8 now σ Qp) : DCalls Try.prog n_locks_New [.agg [c0, c1, c2, c3, c4, .int .i64 c5, .int .i64 c6, .int .i64 c7, .int .i64 c8], .one (.int .i64 now)] σ Qp :=
  dcalls_of_body mixed (by kernel_rfl) Try.func25 an_locks_New ((show V_locks_New c0 c1 c2 c3 c4 c5 c6 c7 c8 now σ Qp = dbody Try.prog Try.f25 an_locks_New [.agg [c0, c1, c2, c3, c4, .int .i64 c5, .int .i64 c6, .int .i64 c7, .int .i64 c8], .one (.int .i64 now)] σ Qp by kernel_rfl) ▸ h)
def an_conf_Approach : Ann := { esc := [], cbs := [2], draws := [(3, { ord := [0, 1, 2, 3, 4, 5, 6, 7, 8], nb := [], av := [], dir := [] })], loops := [], joins := [] }
def V_conf_Approach (c0 : D) (c1 : D) (c2 : D) (c3 : D) (c4 : D) (c5 : Int) (c6 : Int) (c7 : Int) (c8 : Int) (r : Int) (σ : Store) (Qp : RV → Store → Prop) : Prop :=
  bcase (decide (r < 0)) (Qp (.a (.one (.int .i64 (-1)))) σ) (∃ len : Nat, (Len c4 len) ∧ bcase (decide (r ≥ (len : Int))) (Qp (.a (.one (.int .i64 (-1)))) σ) (∃ len1 : Nat, (Idx Try.prog σ c4 6 len1) ∧ ((0 : Int) ≤ r) ∧ (r < (len1 : Int)) ∧ ∃ row : List D, (Row σ c4 (Int.toNat r) row) ∧ ∃ n : Int, ∃ n1 : Int, ∃ d : D, ∃ d1 : D, ∃ d2 : D, ∃ b : Bool, ((List.take 6 row) = ([.int .i64 n, .int .i64 n1, d, d1, d2, .bool b] : List D)) ∧ DCalls Try.prog n_conf_plan_approach [.agg [c0, c1, c2, c3, c4, .int .i64 c5, .int .i64 c6, .int .i64 c7, .int .i64 c8], .agg [.int .i64 n, .int .i64 n1, d, d1, d2, .bool b]] σ (fun (r1 : RV) => fun (σ' : Store) => ∃ n2 : Int, (r1 = (.a (.one (.int .i64 n2)) : RV)) ∧ Qp (.a (.one (.int .i64 n2))) σ')))
theorem W_conf_Approach (c0 : D) (c1 : D) (c2 : D) (c3 : D) (c4 : D) (c5 : Int) (c6 : Int) (c7 : Int) (c8 : Int) (r : Int) (σ : Store) (Qp : RV → Store → Prop) (h : V_conf_Approach c0 c1 c2 c3 c4 c5 c6 c7 c8 r σ Qp) : DCalls Try.prog n_conf_Approach [.agg [c0, c1, c2, c3, c4, .int .i64 c5, .int .i64 c6, .int .i64 c7, .int .i64 c8], .one (.int .i64 r)] σ Qp :=
  dcalls_of_body mixed (by kernel_rfl) Try.func37 an_conf_Approach ((show V_conf_Approach c0 c1 c2 c3 c4 c5 c6 c7 c8 r σ Qp = dbody Try.prog Try.f37 an_conf_Approach [.agg [c0, c1, c2, c3, c4, .int .i64 c5, .int .i64 c6, .int .i64 c7, .int .i64 c8], .one (.int .i64 r)] σ Qp by kernel_rfl) ▸ h)
def an_ars_between : Ann := { esc := [], cbs := [], draws := [], loops := [], joins := [] }
def V_ars_between (n : Int) (lo : Int) (hi : Int) (σ : Store) (Qp : RV → Store → Prop) : Prop :=
  bcase (decide (lo ≤ n)) (Qp (.a (.one (.bool (decide (n ≤ hi))))) σ) (Qp (.a (.one (.bool false))) σ)
theorem W_ars_between (n : Int) (lo : Int) (hi : Int) (σ : Store) (Qp : RV → Store → Prop) (h : V_ars_between n lo hi σ Qp) : DCalls Try.prog n_ars_between [.one (.int .i64 n), .one (.int .i64 lo), .one (.int .i64 hi)] σ Qp :=
  dcalls_of_body mixed (by kernel_rfl) Try.func41 an_ars_between ((show V_ars_between n lo hi σ Qp = dbody Try.prog Try.f41 an_ars_between [.one (.int .i64 n), .one (.int .i64 lo), .one (.int .i64 hi)] σ Qp by kernel_rfl) ▸ h)
def an_locks_between : Ann := { esc := [], cbs := [], draws := [], loops := [], joins := [] }
def V_locks_between (n : Int) (lo : Int) (hi : Int) (σ : Store) (Qp : RV → Store → Prop) : Prop :=
  bcase (decide (lo ≤ n)) (Qp (.a (.one (.bool (decide (n ≤ hi))))) σ) (Qp (.a (.one (.bool false))) σ)
theorem W_locks_between (n : Int) (lo : Int) (hi : Int) (σ : Store) (Qp : RV → Store → Prop) (h : V_locks_between n lo hi σ Qp) : DCalls Try.prog n_locks_between [.one (.int .i64 n), .one (.int .i64 lo), .one (.int .i64 hi)] σ Qp :=
  dcalls_of_body mixed (by kernel_rfl) Try.func49 an_locks_between ((show V_locks_between n lo hi σ Qp = dbody Try.prog Try.f49 an_locks_between [.one (.int .i64 n), .one (.int .i64 lo), .one (.int .i64 hi)] σ Qp by kernel_rfl) ▸ h)
def an_conf_plan_approach : Ann := { esc := [], cbs := [2, 3], draws := [], loops := [], joins := [] }
def V_conf_plan_approach (p0 : D) (p1 : D) (p2 : D) (p3 : D) (p4 : D) (p5 : Int) (p6 : Int) (p7 : Int) (p8 : Int) (r0 : Int) (r1 : Int) (r2 : D) (r3 : D) (r4 : D) (r5 : Bool) (σ : Store) (Qp : RV → Store → Prop) : Prop :=
  DCalls Try.prog n_conf_plan_signal [.agg [p0, p1, p2, p3, p4, .int .i64 p5, .int .i64 p6, .int .i64 p7, .int .i64 p8], .one (.int .i64 r0)] σ (fun (r : RV) => fun (σ' : Store) => ∃ n : Int, ∃ n1 : Int, ∃ b : Bool, (r = (.tup [.agg [.int .i64 n, .int .i64 n1], .one (.bool b)] : RV)) ∧ bcase (!b) (Qp (.a (.one (.int .i64 (-1)))) σ') (Qp (.a (.one (.int .i64 n))) σ'))
theorem W_conf_plan_approach (p0 : D) (p1 : D) (p2 : D) (p3 : D) (p4 : D) (p5 : Int) (p6 : Int) (p7 : Int) (p8 : Int) (r0 : Int) (r1 : Int) (r2 : D) (r3 : D) (r4 : D) (r5 : Bool) (σ : Store) (Qp : RV → Store → Prop) (h : V_conf_plan_approach p0 p1 p2 p3 p4 p5 p6 p7 p8 r0 r1 r2 r3 r4 r5 σ Qp) : DCalls Try.prog n_conf_plan_approach [.agg [p0, p1, p2, p3, p4, .int .i64 p5, .int .i64 p6, .int .i64 p7, .int .i64 p8], .agg [.int .i64 r0, .int .i64 r1, r2, r3, r4, .bool r5]] σ Qp :=
  dcalls_of_body mixed (by kernel_rfl) Try.func61 an_conf_plan_approach ((show V_conf_plan_approach p0 p1 p2 p3 p4 p5 p6 p7 p8 r0 r1 r2 r3 r4 r5 σ Qp = dbody Try.prog Try.f61 an_conf_plan_approach [.agg [p0, p1, p2, p3, p4, .int .i64 p5, .int .i64 p6, .int .i64 p7, .int .i64 p8], .agg [.int .i64 r0, .int .i64 r1, r2, r3, r4, .bool r5]] σ Qp by kernel_rfl) ▸ h)
def an_conf_plan_crossings : Ann := { esc := [], cbs := [1], draws := [], loops := [(3, { mods := [(13, SlotSh.one (Sh.int IntKind.i64))], keep := [1, 3, 11, 12] })], joins := [] }
def V_conf_plan_crossings (p0 : D) (p1 : D) (p2 : D) (p3 : D) (p4 : D) (p5 : Int) (p6 : Int) (p7 : Int) (p8 : Int) (σ : Store) (Qp : RV → Store → Prop) : Prop :=
  Fw.newObj σ (.mp 0 []) (fun (id : Nat) => fun (σ' : Store) => ∃ len : Nat, (Len p3 len) ∧ ∃ I : Int → Store → Prop, ∃ μ : Int → Store → Nat, (I 0 σ') ∧ ∀ n : Int, ∀ σ'1 : Store, (I n σ'1) → bcase (decide (n < (len : Int))) (∃ len1 : Nat, (Idx Try.prog σ'1 p3 1 len1) ∧ ((0 : Int) ≤ n) ∧ (n < (len1 : Int)) ∧ ∃ row : List D, (Row σ'1 p3 (Int.toNat n) row) ∧ ∃ n1 : Int, ((List.take 1 row) = ([.int .i64 n1] : List D)) ∧ DCalls Try.prog n_conf_plan_section [.agg [p0, p1, p2, p3, p4, .int .i64 p5, .int .i64 p6, .int .i64 p7, .int .i64 p8], .one (.int .i64 n1)] σ'1 (fun (r : RV) => fun (σ'2 : Store) => ∃ n2 : Int, ∃ n3 : Int, ∃ n4 : Int, ∃ b : Bool, (r = (.tup [.agg [.int .i64 n2, .int .i64 n3, .int .i64 n4], .one (.bool b)] : RV)) ∧ ∃ r1 : Option A, (MLook Try.prog t_int σ'2 (.omap id) (.one (.int .i64 n1)) r1) ∧ ∃ n5 : Int, ((Option.getD r1 (.one (.int .i64 0))) = (.one (.int .i64 n5) : A)) ∧ MPut Try.prog t_int σ'2 (.omap id) (.one (.int .i64 n1)) (.one (.int .i64 (w64 (n5 + 1)))) (fun (σ'3 : Store) => bcase (!b) (Qp (.a (.one (.bool false))) σ'3) (bcase (n4 != 0) (Qp (.a (.one (.bool false))) σ'3) (∃ r2 : Option A, (MLook Try.prog t_int σ'3 (.omap id) (.one (.int .i64 n1)) r2) ∧ ∃ n6 : Int, ((Option.getD r2 (.one (.int .i64 0))) = (.one (.int .i64 n6) : A)) ∧ bcase (decide (n6 > 1)) (Qp (.a (.one (.bool false))) σ'3) ((I (w64 (n + 1)) σ'3) ∧ ((μ (w64 (n + 1)) σ'3) < (μ n σ'1)))))))) (∃ len1 : Nat, (Len p3 len1) ∧ Qp (.a (.one (.bool (decide ((len1 : Int) ≤ 4))))) σ'1))
theorem W_conf_plan_crossings (p0 : D) (p1 : D) (p2 : D) (p3 : D) (p4 : D) (p5 : Int) (p6 : Int) (p7 : Int) (p8 : Int) (σ : Store) (Qp : RV → Store → Prop) (h : V_conf_plan_crossings p0 p1 p2 p3 p4 p5 p6 p7 p8 σ Qp) : DCalls Try.prog n_conf_plan_crossings [.agg [p0, p1, p2, p3, p4, .int .i64 p5, .int .i64 p6, .int .i64 p7, .int .i64 p8]] σ Qp :=
  dcalls_of_body mixed (by kernel_rfl) Try.func65 an_conf_plan_crossings ((show V_conf_plan_crossings p0 p1 p2 p3 p4 p5 p6 p7 p8 σ Qp = dbody Try.prog Try.f65 an_conf_plan_crossings [.agg [p0, p1, p2, p3, p4, .int .i64 p5, .int .i64 p6, .int .i64 p7, .int .i64 p8]] σ Qp by kernel_rfl) ▸ h)
def an_mover_Start : Ann := { esc := [], cbs := [], draws := [], loops := [], joins := [] }
def V_mover_Start (now : Int) (σ : Store) (Qp : RV → Store → Prop) : Prop :=
  Qp (.a (.agg [.int .i64 0, .int .i64 now])) σ
theorem W_mover_Start (now : Int) (σ : Store) (Qp : RV → Store → Prop) (h : V_mover_Start now σ Qp) : DCalls Try.prog n_mover_Start [.one (.int .i64 now)] σ Qp :=
  dcalls_of_body mixed (by kernel_rfl) Try.func77 an_mover_Start ((show V_mover_Start now σ Qp = dbody Try.prog Try.f77 an_mover_Start [.one (.int .i64 now)] σ Qp by kernel_rfl) ▸ h)
def an_topo_between : Ann := { esc := [], cbs := [], draws := [], loops := [], joins := [] }
def V_topo_between (n : Int) (lo : Int) (hi : Int) (σ : Store) (Qp : RV → Store → Prop) : Prop :=
  bcase (decide (lo ≤ n)) (Qp (.a (.one (.bool (decide (n ≤ hi))))) σ) (Qp (.a (.one (.bool false))) σ)
theorem W_topo_between (n : Int) (lo : Int) (hi : Int) (σ : Store) (Qp : RV → Store → Prop) (h : V_topo_between n lo hi σ Qp) : DCalls Try.prog n_topo_between [.one (.int .i64 n), .one (.int .i64 lo), .one (.int .i64 hi)] σ Qp :=
  dcalls_of_body mixed (by kernel_rfl) Try.func89 an_topo_between ((show V_topo_between n lo hi σ Qp = dbody Try.prog Try.f89 an_topo_between [.one (.int .i64 n), .one (.int .i64 lo), .one (.int .i64 hi)] σ Qp by kernel_rfl) ▸ h)
def an_conf_plan_path : Ann := { esc := [], cbs := [2, 3], draws := [], loops := [(7, { mods := [(5, SlotSh.bx [Sh.int IntKind.i64, Sh.int IntKind.i64]), (63, SlotSh.one (Sh.int IntKind.i64))], keep := [2, 3, 7, 8, 9, 61, 62] })], joins := [(5, { mods := [], keep := [2, 3, 5, 7, 8] }), (18, { mods := [(5, SlotSh.bx [Sh.int IntKind.i64, Sh.int IntKind.i64])], keep := [2, 3, 7, 8, 9, 61, 62, 63] }), (16, { mods := [(20, SlotSh.one (Sh.bool))], keep := [2, 3, 5, 7, 8, 9, 11, 12, 13, 14, 15, 18, 19, 61, 62, 63] })] }
def V_conf_plan_path (p0 : D) (p1 : D) (p2 : D) (p3 : D) (p4 : D) (p5 : Int) (p6 : Int) (p7 : Int) (p8 : Int) (r0 : Int) (r1 : Int) (r2 : D) (r3 : D) (r4 : D) (r5 : Bool) (σ : Store) (Qp : RV → Store → Prop) : Prop :=
  DCalls Try.prog n_conf_plan_signal [.agg [p0, p1, p2, p3, p4, .int .i64 p5, .int .i64 p6, .int .i64 p7, .int .i64 p8], .one (.int .i64 r0)] σ (fun (r : RV) => fun (σ' : Store) => ∃ n : Int, ∃ n1 : Int, ∃ b : Bool, (r = (.tup [.agg [.int .i64 n, .int .i64 n1], .one (.bool b)] : RV)) ∧ DCalls Try.prog n_conf_plan_signal [.agg [p0, p1, p2, p3, p4, .int .i64 p5, .int .i64 p6, .int .i64 p7, .int .i64 p8], .one (.int .i64 r1)] σ' (fun (r6 : RV) => fun (σ'1 : Store) => ∃ n2 : Int, ∃ n3 : Int, ∃ b1 : Bool, (r6 = (.tup [.agg [.int .i64 n2, .int .i64 n3], .one (.bool b1)] : RV)) ∧ ∀ R : Store → Prop, (∀ σ'2 : Store, (Fw.newObj σ'2 (.mp 0 []) (fun (id : Nat) => fun (σ'3 : Store) => MPut Try.prog t_int σ'3 (.omap id) (.one (.int .i64 n)) (.one (.int .i64 1)) (fun (σ'4 : Store) => ∃ len : Nat, (Len r2 len) ∧ ∃ I : Int → Int → Int → Store → Prop, ∃ μ : Int → Int → Int → Store → Nat, (I n n1 0 σ'4) ∧ ∀ n4 : Int, ∀ n5 : Int, ∀ n6 : Int, ∀ σ'5 : Store, (I n4 n5 n6 σ'5) → bcase (decide (n6 < (len : Int))) (∀ R1 : Int → Int → Store → Prop, (∀ n7 : Int, ∀ n8 : Int, ∀ σ'6 : Store, ((([[.int .i64 n2, .int .i64 n3]] : List (List D)) = ([[.int .i64 n2, .int .i64 n3]] : List (List D))) ∧ (I n7 n8 (w64 (n6 + 1)) σ'6) ∧ ((μ n7 n8 (w64 (n6 + 1)) σ'6) < (μ n4 n5 n6 σ'5))) → R1 n7 n8 σ'6) → ∃ len1 : Nat, (Idx Try.prog σ'5 r2 3 len1) ∧ ((0 : Int) ≤ n6) ∧ (n6 < (len1 : Int)) ∧ ∃ row : List D, (Row σ'5 r2 (Int.toNat n6) row) ∧ ∃ n7 : Int, ∃ n8 : Int, ∃ n9 : Int, ((List.take 3 row) = ([.int .i64 n7, .int .i64 n8, .int .i64 n9] : List D)) ∧ DCalls Try.prog n_topo_Next [.one p1, .one (.int .i64 n4), .one (.int .i64 n5)] σ'5 (fun (r7 : RV) => fun (σ'6 : Store) => ∃ n10 : Int, ∃ n11 : Int, ∃ b2 : Bool, (r7 = (.tup [.one (.int .i64 n10), .one (.int .i64 n11), .one (.bool b2)] : RV)) ∧ DCalls Try.prog n_conf_plan_section [.agg [p0, p1, p2, p3, p4, .int .i64 p5, .int .i64 p6, .int .i64 p7, .int .i64 p8], .one (.int .i64 n10)] σ'6 (fun (r8 : RV) => fun (σ'7 : Store) => ∃ n12 : Int, ∃ n13 : Int, ∃ n14 : Int, ∃ b3 : Bool, (r8 = (.tup [.agg [.int .i64 n12, .int .i64 n13, .int .i64 n14], .one (.bool b3)] : RV)) ∧ DCalls Try.prog n_topo_Pos [.one (.int .i64 n12), .one (.int .i64 n8), .one (.int .i64 n9)] σ'7 (fun (r9 : RV) => fun (σ'8 : Store) => ∃ n15 : Int, ∃ b4 : Bool, (r9 = (.tup [.one (.int .i64 n15), .one (.bool b4)] : RV)) ∧ ∃ r10 : Option A, (MLook Try.prog t_int σ'8 (.omap id) (.one (.int .i64 n10)) r10) ∧ ∃ n16 : Int, ((Option.getD r10 (.one (.int .i64 0))) = (.one (.int .i64 n16) : A)) ∧ MPut Try.prog t_int σ'8 (.omap id) (.one (.int .i64 n10)) (.one (.int .i64 (w64 (n16 + 1)))) (fun (σ'9 : Store) => DCalls Try.prog n_slices_Contains_Signal [.one p2, .agg [.int .i64 n7, .int .i64 n9]] σ'9 (fun (r11 : RV) => fun (σ'10 : Store) => ∃ b5 : Bool, (r11 = (.a (.one (.bool b5)) : RV)) ∧ ∀ R2 : Bool → Store → Prop, (∀ b6 : Bool, ∀ σ'11 : Store, (bcase (!b2) (Qp (.a (.one (.bool false))) σ'11) (bcase (n10 != n7) (Qp (.a (.one (.bool false))) σ'11) (bcase (n11 != n8) (Qp (.a (.one (.bool false))) σ'11) (bcase (!b4) (Qp (.a (.one (.bool false))) σ'11) (∃ r12 : Option A, (MLook Try.prog t_int σ'11 (.omap id) (.one (.int .i64 n10)) r12) ∧ ∃ n17 : Int, ((Option.getD r12 (.one (.int .i64 0))) = (.one (.int .i64 n17) : A)) ∧ bcase (decide (n17 > 1)) (Qp (.a (.one (.bool false))) σ'11) (bcase b5 (bcase (!b6) (Qp (.a (.one (.bool false))) σ'11) (bcase r5 (bcase (n14 != 0) (Qp (.a (.one (.bool false))) σ'11) ((([[.int .i64 n2, .int .i64 n3]] : List (List D)) = ([[.int .i64 n2, .int .i64 n3]] : List (List D))) ∧ R1 n7 n9 σ'11)) ((([[.int .i64 n2, .int .i64 n3]] : List (List D)) = ([[.int .i64 n2, .int .i64 n3]] : List (List D))) ∧ R1 n7 n9 σ'11))) (bcase r5 (bcase (n14 != 0) (Qp (.a (.one (.bool false))) σ'11) ((([[.int .i64 n2, .int .i64 n3]] : List (List D)) = ([[.int .i64 n2, .int .i64 n3]] : List (List D))) ∧ R1 n7 n9 σ'11)) ((([[.int .i64 n2, .int .i64 n3]] : List (List D)) = ([[.int .i64 n2, .int .i64 n3]] : List (List D))) ∧ R1 n7 n9 σ'11)))))))) → R2 b6 σ'11) → ∃ len2 : Nat, (Len r2 len2) ∧ bcase (n6 == (w64 ((len2 : Int) - 1))) (bcase b1 ((([[.int .i64 n7, .int .i64 n9], [.int .i64 n2, .int .i64 n3], [.int .i64 n7, .int .i64 n8, .int .i64 n9], [.int .i64 n12, .int .i64 n13, .int .i64 n14]] : List (List D)) = ([[.int .i64 n7, .int .i64 n9], [.int .i64 n2, .int .i64 n3], [.int .i64 n7, .int .i64 n8, .int .i64 n9], [.int .i64 n12, .int .i64 n13, .int .i64 n14]] : List (List D))) ∧ R2 ((n7 == n2) && (n9 == n3)) σ'10) ((([[.int .i64 n7, .int .i64 n9], [.int .i64 n2, .int .i64 n3], [.int .i64 n7, .int .i64 n8, .int .i64 n9], [.int .i64 n12, .int .i64 n13, .int .i64 n14]] : List (List D)) = ([[.int .i64 n7, .int .i64 n9], [.int .i64 n2, .int .i64 n3], [.int .i64 n7, .int .i64 n8, .int .i64 n9], [.int .i64 n12, .int .i64 n13, .int .i64 n14]] : List (List D))) ∧ R2 false σ'10)) ((([[.int .i64 n7, .int .i64 n9], [.int .i64 n2, .int .i64 n3], [.int .i64 n7, .int .i64 n8, .int .i64 n9], [.int .i64 n12, .int .i64 n13, .int .i64 n14]] : List (List D)) = ([[.int .i64 n7, .int .i64 n9], [.int .i64 n2, .int .i64 n3], [.int .i64 n7, .int .i64 n8, .int .i64 n9], [.int .i64 n12, .int .i64 n13, .int .i64 n14]] : List (List D))) ∧ R2 false σ'10))))))) (bcase b1 (Qp (.a (.one (.bool ((n4 == n2) && (n5 == n3))))) σ'5) (DCalls Try.prog n_topo_Next [.one p1, .one (.int .i64 n4), .one (.int .i64 n5)] σ'5 (fun (r7 : RV) => fun (σ'6 : Store) => ∃ n7 : Int, ∃ n8 : Int, ∃ b2 : Bool, (r7 = (.tup [.one (.int .i64 n7), .one (.int .i64 n8), .one (.bool b2)] : RV)) ∧ Qp (.a (.one (.bool (!b2)))) σ'6)))))) → R σ'2) → bcase (!b) (Qp (.a (.one (.bool false))) σ'1) (bcase (!b1) (bcase (r1 != (-1)) (Qp (.a (.one (.bool false))) σ'1) (∃ len : Nat, (Len r2 len) ∧ DCalls Try.prog n_conf_between [.one (.int .i64 (len : Int)), .one (.int .i64 1), .one (.int .i64 8)] σ'1 (fun (r7 : RV) => fun (σ'2 : Store) => ∃ b2 : Bool, (r7 = (.a (.one (.bool b2)) : RV)) ∧ bcase (!b2) (Qp (.a (.one (.bool false))) σ'2) ((([[.int .i64 n, .int .i64 n1], [.int .i64 n2, .int .i64 n3]] : List (List D)) = ([[.int .i64 n, .int .i64 n1], [.int .i64 n2, .int .i64 n3]] : List (List D))) ∧ R σ'2)))) (∃ len : Nat, (Len r2 len) ∧ DCalls Try.prog n_conf_between [.one (.int .i64 (len : Int)), .one (.int .i64 1), .one (.int .i64 8)] σ'1 (fun (r7 : RV) => fun (σ'2 : Store) => ∃ b2 : Bool, (r7 = (.a (.one (.bool b2)) : RV)) ∧ bcase (!b2) (Qp (.a (.one (.bool false))) σ'2) ((([[.int .i64 n, .int .i64 n1], [.int .i64 n2, .int .i64 n3]] : List (List D)) = ([[.int .i64 n, .int .i64 n1], [.int .i64 n2, .int .i64 n3]] : List (List D))) ∧ R σ'2))))))
theorem W_conf_plan_path (p0 : D) (p1 : D) (p2 : D) (p3 : D) (p4 : D) (p5 : Int) (p6 : Int) (p7 : Int) (p8 : Int) (r0 : Int) (r1 : Int) (r2 : D) (r3 : D) (r4 : D) (r5 : Bool) (σ : Store) (Qp : RV → Store → Prop) (h : V_conf_plan_path p0 p1 p2 p3 p4 p5 p6 p7 p8 r0 r1 r2 r3 r4 r5 σ Qp) : DCalls Try.prog n_conf_plan_path [.agg [p0, p1, p2, p3, p4, .int .i64 p5, .int .i64 p6, .int .i64 p7, .int .i64 p8], .agg [.int .i64 r0, .int .i64 r1, r2, r3, r4, .bool r5]] σ Qp :=
  dcalls_of_body mixed (by kernel_rfl) Try.func93 an_conf_plan_path ((show V_conf_plan_path p0 p1 p2 p3 p4 p5 p6 p7 p8 r0 r1 r2 r3 r4 r5 σ Qp = dbody Try.prog Try.f93 an_conf_plan_path [.agg [p0, p1, p2, p3, p4, .int .i64 p5, .int .i64 p6, .int .i64 p7, .int .i64 p8], .agg [.int .i64 r0, .int .i64 r1, r2, r3, r4, .bool r5]] σ Qp by kernel_rfl) ▸ h)
def an_conf_plan_overlap : Ann := { esc := [], cbs := [2, 3], draws := [], loops := [], joins := [(4, { mods := [], keep := [2, 3, 5] })] }
def V_conf_plan_overlap (p0 : D) (p1 : D) (p2 : D) (p3 : D) (p4 : D) (p5 : Int) (p6 : Int) (p7 : Int) (p8 : Int) (r0 : Int) (r1 : Int) (r2 : D) (r3 : D) (r4 : D) (r5 : Bool) (σ : Store) (Qp : RV → Store → Prop) : Prop :=
  DCalls Try.prog n_conf_plan_signal [.agg [p0, p1, p2, p3, p4, .int .i64 p5, .int .i64 p6, .int .i64 p7, .int .i64 p8], .one (.int .i64 r1)] σ (fun (r : RV) => fun (σ' : Store) => ∃ n : Int, ∃ n1 : Int, ∃ b : Bool, (r = (.tup [.agg [.int .i64 n, .int .i64 n1], .one (.bool b)] : RV)) ∧ ∀ R : Store → Prop, (∀ σ'1 : Store, (DCalls Try.prog n_topo_Next [.one p1, .one (.int .i64 n), .one (.int .i64 n1)] σ'1 (fun (r6 : RV) => fun (σ'2 : Store) => ∃ n2 : Int, ∃ n3 : Int, ∃ b1 : Bool, (r6 = (.tup [.one (.int .i64 n2), .one (.int .i64 n3), .one (.bool b1)] : RV)) ∧ DCalls Try.prog n_conf_plan_section [.agg [p0, p1, p2, p3, p4, .int .i64 p5, .int .i64 p6, .int .i64 p7, .int .i64 p8], .one (.int .i64 n2)] σ'2 (fun (r7 : RV) => fun (σ'3 : Store) => ∃ n4 : Int, ∃ n5 : Int, ∃ n6 : Int, ∃ b2 : Bool, (r7 = (.tup [.agg [.int .i64 n4, .int .i64 n5, .int .i64 n6], .one (.bool b2)] : RV)) ∧ bcase (!b1) (Qp (.a (.one .nils)) σ'3) (bcase (!b2) (Qp (.a (.one .nils)) σ'3) (bcase (n6 != 0) (Qp (.a (.one .nils)) σ'3) (DCalls Try.prog n_conf_has [.one r2, .one (.int .i64 n2)] σ'3 (fun (r8 : RV) => fun (σ'4 : Store) => ∃ b3 : Bool, (r8 = (.a (.one (.bool b3)) : RV)) ∧ bcase b3 (Qp (.a (.one .nils)) σ'4) (DCalls Try.prog n_conf_plan_approach [.agg [p0, p1, p2, p3, p4, .int .i64 p5, .int .i64 p6, .int .i64 p7, .int .i64 p8], .agg [.int .i64 r0, .int .i64 r1, r2, r3, r4, .bool r5]] σ'4 (fun (r9 : RV) => fun (σ'5 : Store) => ∃ n7 : Int, (r9 = (.a (.one (.int .i64 n7)) : RV)) ∧ bcase (n2 == n7) (Qp (.a (.one .nils)) σ'5) (Fw.newObj σ'5 (.live t_int [[.int .i64 n2]]) (fun (id : Nat) => fun (σ'6 : Store) => Qp (.a (.one (.osl id 0 1))) σ'6))))))))))) → R σ'1) → bcase r5 (Qp (.a (.one .nils)) σ') (bcase (!b) (Qp (.a (.one .nils)) σ') ((([[.int .i64 n, .int .i64 n1]] : List (List D)) = ([[.int .i64 n, .int .i64 n1]] : List (List D))) ∧ R σ')))
theorem W_conf_plan_overlap (p0 : D) (p1 : D) (p2 : D) (p3 : D) (p4 : D) (p5 : Int) (p6 : Int) (p7 : Int) (p8 : Int) (r0 : Int) (r1 : Int) (r2 : D) (r3 : D) (r4 : D) (r5 : Bool) (σ : Store) (Qp : RV → Store → Prop) (h : V_conf_plan_overlap p0 p1 p2 p3 p4 p5 p6 p7 p8 r0 r1 r2 r3 r4 r5 σ Qp) : DCalls Try.prog n_conf_plan_overlap [.agg [p0, p1, p2, p3, p4, .int .i64 p5, .int .i64 p6, .int .i64 p7, .int .i64 p8], .agg [.int .i64 r0, .int .i64 r1, r2, r3, r4, .bool r5]] σ Qp :=
  dcalls_of_body mixed (by kernel_rfl) Try.func97 an_conf_plan_overlap ((show V_conf_plan_overlap p0 p1 p2 p3 p4 p5 p6 p7 p8 r0 r1 r2 r3 r4 r5 σ Qp = dbody Try.prog Try.f97 an_conf_plan_overlap [.agg [p0, p1, p2, p3, p4, .int .i64 p5, .int .i64 p6, .int .i64 p7, .int .i64 p8], .agg [.int .i64 r0, .int .i64 r1, r2, r3, r4, .bool r5]] σ Qp by kernel_rfl) ▸ h)
def an_math_bits_Mul64 : Ann := { esc := [], cbs := [], draws := [], loops := [], joins := [] }
def V_math_bits_Mul64 (x : Int) (y : Int) (σ : Store) (Qp : RV → Store → Prop) : Prop :=
  Qp (.tup [.one (.int .u64 (IntKind.wrap .u64 ((IntKind.wrap .u64 ((IntKind.wrap .u64 ((Int.fdiv x (2 ^ 32)) * (Int.fdiv y (2 ^ 32)))) + (Int.fdiv (IntKind.wrap .u64 ((IntKind.wrap .u64 ((Int.fdiv x (2 ^ 32)) * (IntKind.wrap .u64 (BitVec.toNat ((BitVec.ofInt 64 y) &&& (BitVec.ofInt 64 4294967295)) : Int)))) + (Int.fdiv (IntKind.wrap .u64 ((IntKind.wrap .u64 (BitVec.toNat ((BitVec.ofInt 64 x) &&& (BitVec.ofInt 64 4294967295)) : Int)) * (IntKind.wrap .u64 (BitVec.toNat ((BitVec.ofInt 64 y) &&& (BitVec.ofInt 64 4294967295)) : Int)))) (2 ^ 32)))) (2 ^ 32)))) + (Int.fdiv (IntKind.wrap .u64 ((IntKind.wrap .u64 (BitVec.toNat ((BitVec.ofInt 64 (IntKind.wrap .u64 ((IntKind.wrap .u64 ((Int.fdiv x (2 ^ 32)) * (IntKind.wrap .u64 (BitVec.toNat ((BitVec.ofInt 64 y) &&& (BitVec.ofInt 64 4294967295)) : Int)))) + (Int.fdiv (IntKind.wrap .u64 ((IntKind.wrap .u64 (BitVec.toNat ((BitVec.ofInt 64 x) &&& (BitVec.ofInt 64 4294967295)) : Int)) * (IntKind.wrap .u64 (BitVec.toNat ((BitVec.ofInt 64 y) &&& (BitVec.ofInt 64 4294967295)) : Int)))) (2 ^ 32))))) &&& (BitVec.ofInt 64 4294967295)) : Int)) + (IntKind.wrap .u64 ((IntKind.wrap .u64 (BitVec.toNat ((BitVec.ofInt 64 x) &&& (BitVec.ofInt 64 4294967295)) : Int)) * (Int.fdiv y (2 ^ 32)))))) (2 ^ 32))))), .one (.int .u64 (IntKind.wrap .u64 (x * y)))]) σ
theorem W_math_bits_Mul64 (x : Int) (y : Int) (σ : Store) (Qp : RV → Store → Prop) (h : V_math_bits_Mul64 x y σ Qp) : DCalls Try.prog n_math_bits_Mul64 [.one (.int .u64 x), .one (.int .u64 y)] σ Qp :=
  dcalls_of_body mixed (by kernel_rfl) Try.func106 an_math_bits_Mul64 ((show V_math_bits_Mul64 x y σ Qp = dbody Try.prog Try.f106 an_math_bits_Mul64 [.one (.int .u64 x), .one (.int .u64 y)] σ Qp by kernel_rfl) ▸ h)
def an_slices_IndexFunc_Step : Ann := { esc := [], cbs := [], draws := [], loops := [(2, { mods := [(8, SlotSh.one (Sh.int IntKind.i64))], keep := [0, 1, 7] })], joins := [] }
def V_slices_IndexFunc_Step (s : D) (f : D) (σ : Store) (Qp : RV → Store → Prop) : Prop :=
  ∃ len : Nat, (Len s len) ∧ ∃ I : Int → Store → Prop, ∃ μ : Int → Store → Nat, (I 0 σ) ∧ ∀ n : Int, ∀ σ' : Store, (I n σ') → bcase (decide (n < (len : Int))) (∃ len1 : Nat, (Idx Try.prog σ' s 3 len1) ∧ ((0 : Int) ≤ n) ∧ (n < (len1 : Int)) ∧ ∃ row : List D, (Row σ' s (Int.toNat n) row) ∧ ∃ n1 : Int, ∃ n2 : Int, ∃ n3 : Int, ((List.take 3 row) = ([.int .i64 n1, .int .i64 n2, .int .i64 n3] : List D)) ∧ ∃ f1 : FuncId, ∃ a : List (Bool × (List D)), ∃ b : List (Bool × (List D)), ∃ as0' : List A, ∃ bs : List A, (f = (.fn f1 a b : D)) ∧ ((capAs a) = (Option.some as0')) ∧ ((capAs b) = (Option.some bs)) ∧ DCalls Try.prog f1 (HAppend.hAppend (HAppend.hAppend as0' [.agg [.int .i64 n1, .int .i64 n2, .int .i64 n3]]) bs) σ' (fun (r : RV) => fun (σ'1 : Store) => ∃ b1 : Bool, (r = (.a (.one (.bool b1)) : RV)) ∧ bcase b1 (Qp (.a (.one (.int .i64 n))) σ'1) ((I (w64 (n + 1)) σ'1) ∧ ((μ (w64 (n + 1)) σ'1) < (μ n σ'))))) (Qp (.a (.one (.int .i64 (-1)))) σ')
theorem W_slices_IndexFunc_Step (s : D) (f : D) (σ : Store) (Qp : RV → Store → Prop) (h : V_slices_IndexFunc_Step s f σ Qp) : DCalls Try.prog n_slices_IndexFunc_Step [.one s, .one f] σ Qp :=
  dcalls_of_body mixed (by kernel_rfl) Try.func110 an_slices_IndexFunc_Step ((show V_slices_IndexFunc_Step s f σ Qp = dbody Try.prog Try.f110 an_slices_IndexFunc_Step [.one s, .one f] σ Qp by kernel_rfl) ▸ h)
def an_conf_has : Ann := { esc := [3], cbs := [], draws := [], loops := [], joins := [] }
def V_conf_has (path : D) (section_ : Int) (σ : Store) (Qp : RV → Store → Prop) : Prop :=
  Fw.newObj σ (.live t_int [[.int .i64 section_]]) (fun (id : Nat) => fun (σ' : Store) => DCalls Try.prog n_slices_ContainsFunc_Step [.one path, .one (.fn n_conf_has_1 [] [(false, [.el (.osl id 0 1) 0 0])])] σ' (fun (r : RV) => fun (σ'1 : Store) => ∃ b : Bool, (r = (.a (.one (.bool b)) : RV)) ∧ Qp (.a (.one (.bool b))) σ'1))
theorem W_conf_has (path : D) (section_ : Int) (σ : Store) (Qp : RV → Store → Prop) (h : V_conf_has path section_ σ Qp) : DCalls Try.prog n_conf_has [.one path, .one (.int .i64 section_)] σ Qp :=
  dcalls_of_body mixed (by kernel_rfl) Try.func114 an_conf_has ((show V_conf_has path section_ σ Qp = dbody Try.prog Try.f114 an_conf_has [.one path, .one (.int .i64 section_)] σ Qp by kernel_rfl) ▸ h)
def an_slices_Index_Signal : Ann := { esc := [], cbs := [3], draws := [(4, { ord := [0, 1, 2, 3, 4, 5], nb := [], av := [], dir := [] })], loops := [(2, { mods := [(8, SlotSh.one (Sh.int IntKind.i64))], keep := [0, 3, 7] })], joins := [] }
def V_slices_Index_Signal (s : D) (v0 : Int) (v1 : Int) (σ : Store) (Qp : RV → Store → Prop) : Prop :=
  ∃ len : Nat, (Len s len) ∧ ∃ I : Int → Store → Prop, ∃ μ : Int → Store → Nat, (I 0 σ) ∧ ∀ n : Int, ∀ σ' : Store, (I n σ') → bcase (decide (n < (len : Int))) (∃ len1 : Nat, (Idx Try.prog σ' s 2 len1) ∧ ((0 : Int) ≤ n) ∧ (n < (len1 : Int)) ∧ ∃ row : List D, (Row σ' s (Int.toNat n) row) ∧ ∃ n1 : Int, ∃ n2 : Int, ((List.take 2 row) = ([.int .i64 n1, .int .i64 n2] : List D)) ∧ bcase ((v0 == n1) && (v1 == n2)) (Qp (.a (.one (.int .i64 n))) σ') ((I (w64 (n + 1)) σ') ∧ ((μ (w64 (n + 1)) σ') < (μ n σ')))) (Qp (.a (.one (.int .i64 (-1)))) σ')
theorem W_slices_Index_Signal (s : D) (v0 : Int) (v1 : Int) (σ : Store) (Qp : RV → Store → Prop) (h : V_slices_Index_Signal s v0 v1 σ Qp) : DCalls Try.prog n_slices_Index_Signal [.one s, .agg [.int .i64 v0, .int .i64 v1]] σ Qp :=
  dcalls_of_body mixed (by kernel_rfl) Try.func118 an_slices_Index_Signal ((show V_slices_Index_Signal s v0 v1 σ Qp = dbody Try.prog Try.f118 an_slices_Index_Signal [.one s, .agg [.int .i64 v0, .int .i64 v1]] σ Qp by kernel_rfl) ▸ h)
end Go.Proofs.Yteflnjedfmmddaa
end
section
set_option maxRecDepth 100000
set_option linter.unusedVariables false
namespace Go.Proofs.Yteflnjedfmmddaa
open Go.Fw Go.Proofs
def an_law16_lives : Ann := { esc := [], cbs := [], draws := [(2, { ord := [0, 1, 6, 2, 3, 4, 5, 7], nb := [], av := [], dir := [] }), (4, { ord := [0, 1, 2, 3, 4, 5, 6, 7, 9, 10, 8, 11, 12, 13, 14, 15, 16, 17, 18, 20, 21, 19, 22, 23, 24, 25, 26, 27], nb := [0, 6, 7, 9, 10, 17, 18, 20, 21], av := [], dir := [], sp := [8, 12, 19] })], loops := [], joins := [], frz := [6, 8, 10, 12, 14, 19, 26, 35, 37, 46] }
def V_law16_lives (σ : Store) (Qp : RV → Store → Prop) : Prop :=
  Fw.newObj σ (.live t_Look [[.int .i64 1, .int .i64 9, .bool true], [.int .i64 0, .int .i64 9, .bool true]]) (fun (id : Nat) => fun (σ' : Store) => ((0 : Int) ≤ 2) ∧ ((2 : Int) ≤ 2) ∧ (((24 : Int) * 2) ≤ (2 ^ 48)) ∧ Fw.newObj σ' (.live t_Look [[.int .i64 0, .int .i64 0, .bool false], [.int .i64 0, .int .i64 0, .bool false]]) (fun (id1 : Nat) => fun (σ'1 : Store) => ((0 : Int) ≤ 1) ∧ ((1 : Int) ≤ 1) ∧ (((24 : Int) * 1) ≤ (2 ^ 48)) ∧ Fw.newObj σ'1 (.live t_Look [[.int .i64 0, .int .i64 0, .bool false]]) (fun (id2 : Nat) => fun (σ'2 : Store) => ∃ pre : List A → Store → Prop, ∃ post : List A → Store → RV → Store → Prop, (SpecOk Try.prog n_locks_New pre post) ∧ ∃ pre1 : List A → Store → Prop, ∃ post1 : List A → Store → RV → Store → Prop, (SpecOk Try.prog n_ars_Due pre1 post1) ∧ ∃ pre2 : List A → Store → Prop, ∃ post2 : List A → Store → RV → Store → Prop, (SpecOk Try.prog n_locks_New pre2 post2) ∧ Fw.newObj σ'2 (.live t_Entry [[.int .i64 5, .int .i64 0, .int .i64 7]]) (fun (id3 : Nat) => fun (σ'3 : Store) => DCalls Try.prog n_ars_Check [.agg [.sl 3 [[.int .i64 0, .int .i64 0, .int .i64 0], [.int .i64 0, .int .i64 0, .int .i64 0]], .sl 4 [[.int .i64 0, .int .i64 1, .int .i64 1, .int .i64 0]], .sl 2 [[.int .i64 0, .int .i64 1]], .nils, .sl 6 [[.int .i64 0, .int .i64 (-1), .sl 3 [[.int .i64 1, .int .i64 0, .int .i64 1]], .nils, .nils, .bool false]], .int .i64 2, .int .i64 1, .int .i64 4, .int .i64 1000], .one (.osl id3 0 1)] σ'3 (fun (r : RV) => fun (σ'4 : Store) => ∃ n : Int, (r = (.a (.one (.int .i64 n)) : RV)) ∧ bcase (n == 0) ((pre [.agg [.sl 3 [[.int .i64 0, .int .i64 0, .int .i64 0], [.int .i64 0, .int .i64 0, .int .i64 0]], .sl 4 [[.int .i64 0, .int .i64 1, .int .i64 1, .int .i64 0]], .sl 2 [[.int .i64 0, .int .i64 1]], .nils, .sl 6 [[.int .i64 0, .int .i64 (-1), .sl 3 [[.int .i64 1, .int .i64 0, .int .i64 1]], .nils, .nils, .bool false]], .int .i64 2, .int .i64 1, .int .i64 4, .int .i64 1000], .one (.int .i64 0)] σ'4) ∧ ∀ r1 : RV, ∀ s : Store, (post [.agg [.sl 3 [[.int .i64 0, .int .i64 0, .int .i64 0], [.int .i64 0, .int .i64 0, .int .i64 0]], .sl 4 [[.int .i64 0, .int .i64 1, .int .i64 1, .int .i64 0]], .sl 2 [[.int .i64 0, .int .i64 1]], .nils, .sl 6 [[.int .i64 0, .int .i64 (-1), .sl 3 [[.int .i64 1, .int .i64 0, .int .i64 1]], .nils, .nils, .bool false]], .int .i64 2, .int .i64 1, .int .i64 4, .int .i64 1000], .one (.int .i64 0)] σ'4 r1 s) → ∃ d : D, ∃ d1 : D, ∃ d2 : D, ∃ d3 : D, ∃ d4 : D, ∃ d5 : D, ∃ b : Bool, (r1 = (.a (.agg [d, d1, d2, d3, d4, d5, .bool b]) : RV)) ∧ Fw.newObj s (.live t_Entry [[.int .i64 5, .int .i64 0, .int .i64 7]]) (fun (id4 : Nat) => fun (σ'5 : Store) => (pre1 [.agg [.sl 3 [[.int .i64 0, .int .i64 0, .int .i64 0], [.int .i64 0, .int .i64 0, .int .i64 0]], .sl 4 [[.int .i64 0, .int .i64 1, .int .i64 1, .int .i64 0]], .sl 2 [[.int .i64 0, .int .i64 1]], .nils, .sl 6 [[.int .i64 0, .int .i64 (-1), .sl 3 [[.int .i64 1, .int .i64 0, .int .i64 1]], .nils, .nils, .bool false]], .int .i64 2, .int .i64 1, .int .i64 4, .int .i64 1000], .agg [d, d1, d2, d3, d4, d5, .bool b], .agg [.osl id 0 2, .osl id1 0 2, .nils, .osl id2 0 1], .one (.int .i64 9), .one .nils, .one (.osl id4 0 1)] σ'5) ∧ ∀ r2 : RV, ∀ s1 : Store, (post1 [.agg [.sl 3 [[.int .i64 0, .int .i64 0, .int .i64 0], [.int .i64 0, .int .i64 0, .int .i64 0]], .sl 4 [[.int .i64 0, .int .i64 1, .int .i64 1, .int .i64 0]], .sl 2 [[.int .i64 0, .int .i64 1]], .nils, .sl 6 [[.int .i64 0, .int .i64 (-1), .sl 3 [[.int .i64 1, .int .i64 0, .int .i64 1]], .nils, .nils, .bool false]], .int .i64 2, .int .i64 1, .int .i64 4, .int .i64 1000], .agg [d, d1, d2, d3, d4, d5, .bool b], .agg [.osl id 0 2, .osl id1 0 2, .nils, .osl id2 0 1], .one (.int .i64 9), .one .nils, .one (.osl id4 0 1)] σ'5 r2 s1) → ∃ d6 : D, (r2 = (.a (.one d6) : RV)) ∧ Fw.newObj s1 (.live t_int [[.int .i64 0]]) (fun (id5 : Nat) => fun (σ'6 : Store) => DCalls Try.prog n_ref01_SameInts [.one d6, .one (.osl id5 0 1)] σ'6 (fun (r3 : RV) => fun (σ'7 : Store) => ∃ b1 : Bool, (r3 = (.a (.one (.bool b1)) : RV)) ∧ bcase b1 ((pre2 [.agg [.sl 3 [[.int .i64 0, .int .i64 0, .int .i64 0], [.int .i64 0, .int .i64 0, .int .i64 0]], .sl 4 [[.int .i64 0, .int .i64 1, .int .i64 1, .int .i64 0]], .sl 2 [[.int .i64 0, .int .i64 1]], .nils, .sl 6 [[.int .i64 0, .int .i64 (-1), .sl 3 [[.int .i64 1, .int .i64 0, .int .i64 1]], .nils, .nils, .bool false]], .int .i64 2, .int .i64 1, .int .i64 4, .int .i64 1000], .one (.int .i64 0)] σ'7) ∧ ∀ r4 : RV, ∀ s2 : Store, (post2 [.agg [.sl 3 [[.int .i64 0, .int .i64 0, .int .i64 0], [.int .i64 0, .int .i64 0, .int .i64 0]], .sl 4 [[.int .i64 0, .int .i64 1, .int .i64 1, .int .i64 0]], .sl 2 [[.int .i64 0, .int .i64 1]], .nils, .sl 6 [[.int .i64 0, .int .i64 (-1), .sl 3 [[.int .i64 1, .int .i64 0, .int .i64 1]], .nils, .nils, .bool false]], .int .i64 2, .int .i64 1, .int .i64 4, .int .i64 1000], .one (.int .i64 0)] σ'7 r4 s2) → ∃ d7 : D, ∃ d8 : D, ∃ d9 : D, ∃ d10 : D, ∃ d11 : D, ∃ d12 : D, ∃ b2 : Bool, (r4 = (.a (.agg [d7, d8, d9, d10, d11, d12, .bool b2]) : RV)) ∧ Fw.newObj s2 (.live t_Entry [[.int .i64 5, .int .i64 0, .int .i64 7]]) (fun (id6 : Nat) => fun (σ'8 : Store) => DCalls Try.prog n_ars_Due [.agg [.sl 3 [[.int .i64 0, .int .i64 0, .int .i64 0], [.int .i64 0, .int .i64 0, .int .i64 0]], .sl 4 [[.int .i64 0, .int .i64 1, .int .i64 1, .int .i64 0]], .sl 2 [[.int .i64 0, .int .i64 1]], .nils, .sl 6 [[.int .i64 0, .int .i64 (-1), .sl 3 [[.int .i64 1, .int .i64 0, .int .i64 1]], .nils, .nils, .bool false]], .int .i64 2, .int .i64 1, .int .i64 4, .int .i64 1000], .agg [d7, d8, d9, d10, d11, d12, .bool b2], .agg [.osl id 0 2, .osl id1 0 2, .nils, .osl id2 0 1], .one (.int .i64 4), .one .nils, .one (.osl id6 0 1)] σ'8 (fun (r5 : RV) => fun (σ'9 : Store) => ∃ d13 : D, (r5 = (.a (.one d13) : RV)) ∧ ∃ len : Nat, (Len d13 len) ∧ Qp (.a (.one (.bool ((len : Int) == 0)))) σ'9))) (Qp (.a (.one (.bool false))) σ'7))))) (Qp (.a (.one (.bool false))) σ'4))))))
theorem W_law16_lives (σ : Store) (Qp : RV → Store → Prop) (h : V_law16_lives σ Qp) : DCalls Try.prog n_law16_lives [] σ Qp :=
  dcalls_of_body mixed (by kernel_rfl) Try.func18 an_law16_lives ((show V_law16_lives σ Qp = dbody Try.prog Try.f18 an_law16_lives [] σ Qp by kernel_rfl) ▸ h)
def an_locks_Fits : Ann := { esc := [], cbs := [2, 3], draws := [(13, { ord := [0, 1, 2, 3, 4, 5, 6, 7, 8, 9, 10, 11, 12, 13, 14, 15, 16, 17, 18, 19, 20, 21, 22, 23, 24, 25], nb := [], av := [], dir := [] })], loops := [(5, { mods := [(68, SlotSh.one (Sh.int IntKind.i64))], keep := [2, 3, 66, 67] }), (11, { mods := [(82, SlotSh.one (Sh.int IntKind.i64))], keep := [2, 3, 80, 81] }), (17, { mods := [(121, SlotSh.one (Sh.int IntKind.i64))], keep := [3, 119, 120] }), (23, { mods := [(139, SlotSh.one (Sh.int IntKind.i64))], keep := [3, 137, 138] })], joins := [(4, { mods := [], keep := [2, 3] })] }
def V_locks_Fits (c0 : D) (c1 : D) (c2 : D) (c3 : D) (c4 : D) (c5 : Int) (c6 : Int) (c7 : Int) (c8 : Int) (k0 : D) (k1 : D) (k2 : D) (k3 : D) (k4 : D) (k5 : D) (k6 : Bool) (σ : Store) (Qp : RV → Store → Prop) : Prop :=
  ∃ len : Nat, (Len c0 len) ∧ ∀ R : Store → Prop, (∀ σ' : Store, (∃ len1 : Nat, (Len k0 len1) ∧ ∃ I : Int → Store → Prop, ∃ μ : Int → Store → Nat, (I 0 σ') ∧ ∀ n : Int, ∀ σ'1 : Store, (I n σ'1) → bcase (decide (n < (len1 : Int))) (∃ len2 : Nat, (Idx Try.prog σ'1 k0 1 len2) ∧ ((0 : Int) ≤ n) ∧ (n < (len2 : Int)) ∧ ∃ row : List D, (Row σ'1 k0 (Int.toNat n) row) ∧ ∃ n1 : Int, ((List.take 1 row) = ([.int .i64 n1] : List D)) ∧ ∃ len3 : Nat, (Len c4 len3) ∧ DCalls Try.prog n_locks_between [.one (.int .i64 n1), .one (.int .i64 (-2)), .one (.int .i64 (len3 : Int))] σ'1 (fun (r : RV) => fun (σ'2 : Store) => ∃ b : Bool, (r = (.a (.one (.bool b)) : RV)) ∧ bcase (!b) (Qp (.a (.one (.bool false))) σ'2) ((I (w64 (n + 1)) σ'2) ∧ ((μ (w64 (n + 1)) σ'2) < (μ n σ'1))))) (∃ len2 : Nat, (Len k1 len2) ∧ ∃ I1 : Int → Store → Prop, ∃ μ1 : Int → Store → Nat, (I1 0 σ'1) ∧ ∀ n1 : Int, ∀ σ'2 : Store, (I1 n1 σ'2) → bcase (decide (n1 < (len2 : Int))) (∃ len3 : Nat, (Idx Try.prog σ'2 k1 4 len3) ∧ ((0 : Int) ≤ n1) ∧ (n1 < (len3 : Int)) ∧ ∃ row : List D, (Row σ'2 k1 (Int.toNat n1) row) ∧ ∃ n2 : Int, ∃ n3 : Int, ∃ n4 : Int, ∃ n5 : Int, ((List.take 4 row) = ([.int .i64 n2, .int .i64 n3, .int .i64 n4, .int .i64 n5] : List D)) ∧ DCalls Try.prog n_locks_between [.one (.int .i64 n2), .one (.int .i64 0), .one (.int .i64 5)] σ'2 (fun (r : RV) => fun (σ'3 : Store) => ∃ b : Bool, (r = (.a (.one (.bool b)) : RV)) ∧ bcase (!b) (Qp (.a (.one (.bool false))) σ'3) (∃ len4 : Nat, (Idx Try.prog σ'3 c4 6 len4) ∧ ((0 : Int) ≤ n1) ∧ (n1 < (len4 : Int)) ∧ ∃ row1 : List D, (Row σ'3 c4 (Int.toNat n1) row1) ∧ ∃ d : D, ((List.take 1 (List.drop 2 row1)) = ([d] : List D)) ∧ ∃ len5 : Nat, (Len d len5) ∧ DCalls Try.prog n_locks_between [.one (.int .i64 n4), .one (.int .i64 0), .one (.int .i64 (len5 : Int))] σ'3 (fun (r1 : RV) => fun (σ'4 : Store) => ∃ b1 : Bool, (r1 = (.a (.one (.bool b1)) : RV)) ∧ bcase (!b1) (Qp (.a (.one (.bool false))) σ'4) (Fw.newObj σ'4 (.live t_int [[.int .i64 n3], [.int .i64 n5]]) (fun (id : Nat) => fun (σ'5 : Store) => DCalls Try.prog n_locks_times [.one (.int .i64 0), .one (.osl id 0 2)] σ'5 (fun (r2 : RV) => fun (σ'6 : Store) => ∃ b2 : Bool, (r2 = (.a (.one (.bool b2)) : RV)) ∧ bcase (!b2) (Qp (.a (.one (.bool false))) σ'6) ((I1 (w64 (n1 + 1)) σ'6) ∧ ((μ1 (w64 (n1 + 1)) σ'6) < (μ1 n1 σ'2)))))))))) (Fw.newObj σ'2 (.live t_sl_Mover [[k2], [k3]]) (fun (id : Nat) => fun (σ'3 : Store) => DCalls Try.prog n_slices_Concat_Mover [.one (.osl id 0 2)] σ'3 (fun (r : RV) => fun (σ'4 : Store) => ∃ d : D, (r = (.a (.one d) : RV)) ∧ ∃ len3 : Nat, (Len d len3) ∧ ∃ I2 : Int → Store → Prop, ∃ μ2 : Int → Store → Nat, (I2 0 σ'4) ∧ ∀ n2 : Int, ∀ σ'5 : Store, (I2 n2 σ'5) → bcase (decide (n2 < (len3 : Int))) (∃ len4 : Nat, (Idx Try.prog σ'5 d 2 len4) ∧ ((0 : Int) ≤ n2) ∧ (n2 < (len4 : Int)) ∧ ∃ row : List D, (Row σ'5 d (Int.toNat n2) row) ∧ ∃ n3 : Int, ∃ n4 : Int, ((List.take 2 row) = ([.int .i64 n3, .int .i64 n4] : List D)) ∧ DCalls Try.prog n_locks_between [.one (.int .i64 n3), .one (.int .i64 0), .one (.int .i64 2)] σ'5 (fun (r1 : RV) => fun (σ'6 : Store) => ∃ b : Bool, (r1 = (.a (.one (.bool b)) : RV)) ∧ bcase (!b) (Qp (.a (.one (.bool false))) σ'6) (DCalls Try.prog n_locks_between [.one (.int .i64 n4), .one (.int .i64 (-1)), .one (.int .i64 4294967295)] σ'6 (fun (r2 : RV) => fun (σ'7 : Store) => ∃ b1 : Bool, (r2 = (.a (.one (.bool b1)) : RV)) ∧ bcase (!b1) (Qp (.a (.one (.bool false))) σ'7) ((I2 (w64 (n2 + 1)) σ'7) ∧ ((μ2 (w64 (n2 + 1)) σ'7) < (μ2 n2 σ'5))))))) (∃ len4 : Nat, (Len k4 len4) ∧ ∃ I3 : Int → Store → Prop, ∃ μ3 : Int → Store → Nat, (I3 0 σ'5) ∧ ∀ n3 : Int, ∀ σ'6 : Store, (I3 n3 σ'6) → bcase (decide (n3 < (len4 : Int))) (∃ len5 : Nat, (Idx Try.prog σ'6 k4 8 len5) ∧ ((0 : Int) ≤ n3) ∧ (n3 < (len5 : Int)) ∧ ∃ row : List D, (Row σ'6 k4 (Int.toNat n3) row) ∧ ∃ n4 : Int, ∃ n5 : Int, ∃ n6 : Int, ∃ n7 : Int, ∃ n8 : Int, ∃ n9 : Int, ∃ n10 : Int, ∃ n11 : Int, ((List.take 8 row) = ([.int .i64 n4, .int .i64 n5, .int .i64 n6, .int .i64 n7, .int .i64 n8, .int .i64 n9, .int .i64 n10, .int .i64 n11] : List D)) ∧ Fw.newObj σ'6 (.live t_int [[.int .i64 n4], [.int .i64 n5], [.int .i64 n6], [.int .i64 n7], [.int .i64 n8], [.int .i64 n9], [.int .i64 n10]]) (fun (id1 : Nat) => fun (σ'7 : Store) => DCalls Try.prog n_locks_times [.one (.int .i64 0), .one (.osl id1 0 7)] σ'7 (fun (r1 : RV) => fun (σ'8 : Store) => ∃ b : Bool, (r1 = (.a (.one (.bool b)) : RV)) ∧ bcase (!b) (Qp (.a (.one (.bool false))) σ'8) (Fw.newObj σ'8 (.live t_int [[.int .i64 n11]]) (fun (id2 : Nat) => fun (σ'9 : Store) => DCalls Try.prog n_locks_times [.one (.int .i64 1), .one (.osl id2 0 1)] σ'9 (fun (r2 : RV) => fun (σ'10 : Store) => ∃ b1 : Bool, (r2 = (.a (.one (.bool b1)) : RV)) ∧ bcase (!b1) (Qp (.a (.one (.bool false))) σ'10) ((I3 (w64 (n3 + 1)) σ'10) ∧ ((μ3 (w64 (n3 + 1)) σ'10) < (μ3 n3 σ'6))))))))) (DCalls Try.prog n_locks_times [.one (.int .i64 1), .one k5] σ'6 (fun (r1 : RV) => fun (σ'7 : Store) => ∃ b : Bool, (r1 = (.a (.one (.bool b)) : RV)) ∧ Qp (.a (.one (.bool b))) σ'7)))))))) → R σ') → DCalls Try.prog n_conf_Check [.agg [c0, c1, c2, c3, c4, .int .i64 c5, .int .i64 c6, .int .i64 c7, .int .i64 c8]] σ (fun (r : RV) => fun (σ' : Store) => ∃ n : Int, (r = (.a (.one (.int .i64 n)) : RV)) ∧ bcase (n != 0) (Qp (.a (.one (.bool false))) σ') (∃ len1 : Nat, (Len k0 len1) ∧ bcase ((len1 : Int) != (len : Int)) (Qp (.a (.one (.bool false))) σ') (∃ len2 : Nat, (Len k2 len2) ∧ bcase ((len2 : Int) != (len : Int)) (Qp (.a (.one (.bool false))) σ') (∃ len3 : Nat, (Len k5 len3) ∧ bcase ((len3 : Int) != (len : Int)) (Qp (.a (.one (.bool false))) σ') (∃ len4 : Nat, (Len k1 len4) ∧ ∃ len5 : Nat, (Len c4 len5) ∧ bcase ((len4 : Int) != (len5 : Int)) (Qp (.a (.one (.bool false))) σ') (∃ len6 : Nat, (Len k3 len6) ∧ ∃ len7 : Nat, (Len c3 len7) ∧ bcase ((len6 : Int) != (len7 : Int)) (Qp (.a (.one (.bool false))) σ') (∃ len8 : Nat, (Len k4 len8) ∧ bcase ((len8 : Int) != 4) (Qp (.a (.one (.bool false))) σ') (R σ'))))))))
theorem W_locks_Fits (c0 : D) (c1 : D) (c2 : D) (c3 : D) (c4 : D) (c5 : Int) (c6 : Int) (c7 : Int) (c8 : Int) (k0 : D) (k1 : D) (k2 : D) (k3 : D) (k4 : D) (k5 : D) (k6 : Bool) (σ : Store) (Qp : RV → Store → Prop) (h : V_locks_Fits c0 c1 c2 c3 c4 c5 c6 c7 c8 k0 k1 k2 k3 k4 k5 k6 σ Qp) : DCalls Try.prog n_locks_Fits [.agg [c0, c1, c2, c3, c4, .int .i64 c5, .int .i64 c6, .int .i64 c7, .int .i64 c8], .agg [k0, k1, k2, k3, k4, k5, .bool k6]] σ Qp :=
  dcalls_of_body mixed (by kernel_rfl) Try.func26 an_locks_Fits ((show V_locks_Fits c0 c1 c2 c3 c4 c5 c6 c7 c8 k0 k1 k2 k3 k4 k5 k6 σ Qp = dbody Try.prog Try.f26 an_locks_Fits [.agg [c0, c1, c2, c3, c4, .int .i64 c5, .int .i64 c6, .int .i64 c7, .int .i64 c8], .agg [k0, k1, k2, k3, k4, k5, .bool k6]] σ Qp by kernel_rfl) ▸ h)
def an_slices_SortStableFunc_ars_due : Ann := { esc := [], cbs := [], draws := [], loops := [], joins := [] }
def V_slices_SortStableFunc_ars_due (x : D) (cmp : D) (σ : Store) (Qp : RV → Store → Prop) : Prop :=
  ∃ len : Nat, (Len x len) ∧ DCalls Try.prog n_slices_stableCmpFunc_ars_due [.one x, .one (.int .i64 (len : Int)), .one cmp] σ (fun (r : RV) => fun (σ' : Store) => (r = (.tup [] : RV)) ∧ Qp (.tup []) σ')
theorem W_slices_SortStableFunc_ars_due (x : D) (cmp : D) (σ : Store) (Qp : RV → Store → Prop) (h : V_slices_SortStableFunc_ars_due x cmp σ Qp) : DCalls Try.prog n_slices_SortStableFunc_ars_due [.one x, .one cmp] σ Qp :=
  dcalls_of_body mixed (by kernel_rfl) Try.func38 an_slices_SortStableFunc_ars_due ((show V_slices_SortStableFunc_ars_due x cmp σ Qp = dbody Try.prog Try.f38 an_slices_SortStableFunc_ars_due [.one x, .one cmp] σ Qp by kernel_rfl) ▸ h)
def an_slices_Clone_int : Ann := { esc := [], cbs := [], draws := [], loops := [], joins := [] }
def V_slices_Clone_int (s : D) (σ : Store) (Qp : RV → Store → Prop) : Prop :=
  ∃ b : Bool, (IsNil .sl s b) ∧ bcase (b != false) (Qp (.a (.one .nils)) σ) (Fw.newObj σ (.live t_int []) (fun (id : Nat) => fun (σ' : Store) => appendTo Try.prog σ' t_int 8 (.osl id 0 0) s (fun (d : D) => fun (σ'1 : Store) => Qp (.a (.one d)) σ'1)))
theorem W_slices_Clone_int (s : D) (σ : Store) (Qp : RV → Store → Prop) (h : V_slices_Clone_int s σ Qp) : DCalls Try.prog n_slices_Clone_int [.one s] σ Qp :=
  dcalls_of_body mixed (by kernel_rfl) Try.func46 an_slices_Clone_int ((show V_slices_Clone_int s σ Qp = dbody Try.prog Try.f46 an_slices_Clone_int [.one s] σ Qp by kernel_rfl) ▸ h)
def an_locks_times : Ann := { esc := [], cbs := [], draws := [], loops := [(2, { mods := [(9, SlotSh.one (Sh.int IntKind.i64))], keep := [0, 7, 8] })], joins := [] }
def V_locks_times (beyond : Int) (list : D) (σ : Store) (Qp : RV → Store → Prop) : Prop :=
  ∃ len : Nat, (Len list len) ∧ ∃ I : Int → Store → Prop, ∃ μ : Int → Store → Nat, (I 0 σ) ∧ ∀ n : Int, ∀ σ' : Store, (I n σ') → bcase (decide (n < (len : Int))) (∃ len1 : Nat, (Idx Try.prog σ' list 1 len1) ∧ ((0 : Int) ≤ n) ∧ (n < (len1 : Int)) ∧ ∃ row : List D, (Row σ' list (Int.toNat n) row) ∧ ∃ n1 : Int, ((List.take 1 row) = ([.int .i64 n1] : List D)) ∧ DCalls Try.prog n_locks_between [.one (.int .i64 n1), .one (.int .i64 0), .one (.int .i64 (w64 (4294967295 + beyond)))] σ' (fun (r : RV) => fun (σ'1 : Store) => ∃ b : Bool, (r = (.a (.one (.bool b)) : RV)) ∧ bcase (!b) (Qp (.a (.one (.bool false))) σ'1) ((I (w64 (n + 1)) σ'1) ∧ ((μ (w64 (n + 1)) σ'1) < (μ n σ'))))) (Qp (.a (.one (.bool true))) σ')
theorem W_locks_times (beyond : Int) (list : D) (σ : Store) (Qp : RV → Store → Prop) (h : V_locks_times beyond list σ Qp) : DCalls Try.prog n_locks_times [.one (.int .i64 beyond), .one list] σ Qp :=
  dcalls_of_body mixed (by kernel_rfl) Try.func50 an_locks_times ((show V_locks_times beyond list σ Qp = dbody Try.prog Try.f50 an_locks_times [.one (.int .i64 beyond), .one list] σ Qp by kernel_rfl) ▸ h)
def an_slices_stableCmpFunc_ars_due : Ann := { esc := [], cbs := [], draws := [], loops := [(2, { mods := [(7, SlotSh.one (Sh.int IntKind.i64)), (8, SlotSh.one (Sh.int IntKind.i64))], keep := [0, 1, 2, 6] }), (7, { mods := [(6, SlotSh.one (Sh.int IntKind.i64))], keep := [0, 1, 2] }), (9, { mods := [(7, SlotSh.one (Sh.int IntKind.i64)), (8, SlotSh.one (Sh.int IntKind.i64))], keep := [0, 1, 2, 6] })], joins := [] }
def V_slices_stableCmpFunc_ars_due (data : D) (n : Int) (cmp : D) (σ : Store) (Qp : RV → Store → Prop) : Prop :=
  ∃ I : Int → Int → Store → Prop, ∃ μ : Int → Int → Store → Nat, (I 0 20 σ) ∧ ∀ n1 : Int, ∀ n2 : Int, ∀ σ' : Store, (I n1 n2 σ') → bcase (decide (n2 ≤ n)) (DCalls Try.prog n_slices_insertionSortCmpFunc_ars_due [.one data, .one (.int .i64 n1), .one (.int .i64 n2), .one cmp] σ' (fun (r : RV) => fun (σ'1 : Store) => (r = (.tup [] : RV)) ∧ (I n2 (w64 (n2 + 20)) σ'1) ∧ ((μ n2 (w64 (n2 + 20)) σ'1) < (μ n1 n2 σ')))) (DCalls Try.prog n_slices_insertionSortCmpFunc_ars_due [.one data, .one (.int .i64 n1), .one (.int .i64 n), .one cmp] σ' (fun (r : RV) => fun (σ'1 : Store) => (r = (.tup [] : RV)) ∧ ∃ I1 : Int → Store → Prop, ∃ μ1 : Int → Store → Nat, (I1 20 σ'1) ∧ ∀ n3 : Int, ∀ σ'2 : Store, (I1 n3 σ'2) → bcase (decide (n3 < n)) (∃ I2 : Int → Int → Store → Prop, ∃ μ2 : Int → Int → Store → Nat, (I2 0 (w64 (2 * n3)) σ'2) ∧ ∀ n4 : Int, ∀ n5 : Int, ∀ σ'3 : Store, (I2 n4 n5 σ'3) → bcase (decide (n5 ≤ n)) (DCalls Try.prog n_slices_symMergeCmpFunc_ars_due [.one data, .one (.int .i64 n4), .one (.int .i64 (w64 (n4 + n3))), .one (.int .i64 n5), .one cmp] σ'3 (fun (r1 : RV) => fun (σ'4 : Store) => (r1 = (.tup [] : RV)) ∧ (I2 n5 (w64 (n5 + (w64 (2 * n3)))) σ'4) ∧ ((μ2 n5 (w64 (n5 + (w64 (2 * n3)))) σ'4) < (μ2 n4 n5 σ'3)))) (bcase (decide ((w64 (n4 + n3)) < n)) (DCalls Try.prog n_slices_symMergeCmpFunc_ars_due [.one data, .one (.int .i64 n4), .one (.int .i64 (w64 (n4 + n3))), .one (.int .i64 n), .one cmp] σ'3 (fun (r1 : RV) => fun (σ'4 : Store) => (r1 = (.tup [] : RV)) ∧ (I1 (w64 (n3 * 2)) σ'4) ∧ ((μ1 (w64 (n3 * 2)) σ'4) < (μ1 n3 σ'2)))) ((I1 (w64 (n3 * 2)) σ'3) ∧ ((μ1 (w64 (n3 * 2)) σ'3) < (μ1 n3 σ'2))))) (Qp (.tup []) σ'2)))
theorem W_slices_stableCmpFunc_ars_due (data : D) (n : Int) (cmp : D) (σ : Store) (Qp : RV → Store → Prop) (h : V_slices_stableCmpFunc_ars_due data n cmp σ Qp) : DCalls Try.prog n_slices_stableCmpFunc_ars_due [.one data, .one (.int .i64 n), .one cmp] σ Qp :=
  dcalls_of_body mixed (by kernel_rfl) Try.func62 an_slices_stableCmpFunc_ars_due ((show V_slices_stableCmpFunc_ars_due data n cmp σ Qp = dbody Try.prog Try.f62 an_slices_stableCmpFunc_ars_due [.one data, .one (.int .i64 n), .one cmp] σ Qp by kernel_rfl) ▸ h)
def an_conf_plan_route : Ann := { esc := [], cbs := [2, 3], draws := [(3, { ord := [0, 1, 2, 3, 4, 6, 7, 5, 8, 9, 10, 11], nb := [1, 2, 7], av := [], dir := [] }), (5, { ord := [0, 1, 2, 3, 4, 5, 6, 7], nb := [1], av := [], dir := [] })], loops := [], joins := [] }
def V_conf_plan_route (p0 : D) (p1 : D) (p2 : D) (p3 : D) (p4 : D) (p5 : Int) (p6 : Int) (p7 : Int) (p8 : Int) (r0 : Int) (r1 : Int) (r2 : D) (r3 : D) (r4 : D) (r5 : Bool) (σ : Store) (Qp : RV → Store → Prop) : Prop :=
  DCalls Try.prog n_conf_plan_path [.agg [p0, p1, p2, p3, p4, .int .i64 p5, .int .i64 p6, .int .i64 p7, .int .i64 p8], .agg [.int .i64 r0, .int .i64 r1, r2, r3, r4, .bool r5]] σ (fun (r : RV) => fun (σ' : Store) => ∃ b : Bool, (r = (.a (.one (.bool b)) : RV)) ∧ bcase (!b) (Qp (.a (.one (.int .i64 9))) σ') (DCalls Try.prog n_conf_plan_approach [.agg [p0, p1, p2, p3, p4, .int .i64 p5, .int .i64 p6, .int .i64 p7, .int .i64 p8], .agg [.int .i64 r0, .int .i64 r1, r2, r3, r4, .bool r5]] σ' (fun (r6 : RV) => fun (σ'1 : Store) => ∃ n : Int, (r6 = (.a (.one (.int .i64 n)) : RV)) ∧ DCalls Try.prog n_conf_plan_flank [.agg [p0, p1, p2, p3, p4, .int .i64 p5, .int .i64 p6, .int .i64 p7, .int .i64 p8], .one (.int .i64 n), .one r2] σ'1 (fun (r7 : RV) => fun (σ'2 : Store) => ∃ d : D, (r7 = (.a (.one d) : RV)) ∧ DCalls Try.prog n_slices_Equal_Need [.one r3, .one d] σ'2 (fun (r8 : RV) => fun (σ'3 : Store) => ∃ b1 : Bool, (r8 = (.a (.one (.bool b1)) : RV)) ∧ bcase (!b1) (Qp (.a (.one (.int .i64 10))) σ'3) (DCalls Try.prog n_conf_plan_overlap [.agg [p0, p1, p2, p3, p4, .int .i64 p5, .int .i64 p6, .int .i64 p7, .int .i64 p8], .agg [.int .i64 r0, .int .i64 r1, r2, r3, r4, .bool r5]] σ'3 (fun (r9 : RV) => fun (σ'4 : Store) => ∃ d1 : D, (r9 = (.a (.one d1) : RV)) ∧ DCalls Try.prog n_slices_Equal_int [.one r4, .one d1] σ'4 (fun (r10 : RV) => fun (σ'5 : Store) => ∃ b2 : Bool, (r10 = (.a (.one (.bool b2)) : RV)) ∧ bcase (!b2) (Qp (.a (.one (.int .i64 11))) σ'5) (Qp (.a (.one (.int .i64 0))) σ'5)))))))))
theorem W_conf_plan_route (p0 : D) (p1 : D) (p2 : D) (p3 : D) (p4 : D) (p5 : Int) (p6 : Int) (p7 : Int) (p8 : Int) (r0 : Int) (r1 : Int) (r2 : D) (r3 : D) (r4 : D) (r5 : Bool) (σ : Store) (Qp : RV → Store → Prop) (h : V_conf_plan_route p0 p1 p2 p3 p4 p5 p6 p7 p8 r0 r1 r2 r3 r4 r5 σ Qp) : DCalls Try.prog n_conf_plan_route [.agg [p0, p1, p2, p3, p4, .int .i64 p5, .int .i64 p6, .int .i64 p7, .int .i64 p8], .agg [.int .i64 r0, .int .i64 r1, r2, r3, r4, .bool r5]] σ Qp :=
  dcalls_of_body mixed (by kernel_rfl) Try.func66 an_conf_plan_route ((show V_conf_plan_route p0 p1 p2 p3 p4 p5 p6 p7 p8 r0 r1 r2 r3 r4 r5 σ Qp = dbody Try.prog Try.f66 an_conf_plan_route [.agg [p0, p1, p2, p3, p4, .int .i64 p5, .int .i64 p6, .int .i64 p7, .int .i64 p8], .agg [.int .i64 r0, .int .i64 r1, r2, r3, r4, .bool r5]] σ Qp by kernel_rfl) ▸ h)
def an_slices_Repeat_Mover : Ann := { esc := [], cbs := [], draws := [(9, { ord := [0, 1, 2, 3, 4, 5, 6, 7, 8, 9], nb := [], av := [], dir := [] })], loops := [(8, { mods := [(8, SlotSh.one (Sh.int IntKind.i64))], keep := [7] })], joins := [(3, { mods := [], keep := [0, 1] }), (6, { mods := [], keep := [0, 6] })] }
def V_slices_Repeat_Mover (x : D) (count : Int) (σ : Store) (Qp : RV → Store → Prop) : Prop :=
  ∀ R : Store → Prop, (∀ σ' : Store, (∃ len : Nat, (Len x len) ∧ DCalls Try.prog n_math_bits_Mul [.one (.int .u64 (IntKind.wrap .u64 (len : Int))), .one (.int .u64 (IntKind.wrap .u64 count))] σ' (fun (r : RV) => fun (σ'1 : Store) => ∃ n : Int, ∃ n1 : Int, (r = (.tup [.one (.int .u64 n), .one (.int .u64 n1)] : RV)) ∧ ∀ R1 : Store → Prop, (∀ σ'2 : Store, (((0 : Int) ≤ (w64 n1)) ∧ ((w64 n1) ≤ (w64 n1)) ∧ (((16 : Int) * (w64 n1)) ≤ (2 ^ 48)) ∧ Fw.newObj σ'2 (.live t_Mover (List.replicate (Int.toNat (w64 n1)) [.int .i64 0, .int .i64 0])) (fun (id : Nat) => fun (σ'3 : Store) => copyTo Try.prog σ'3 t_Mover (.osl id 0 (Int.toNat (w64 n1))) x (fun (n2 : Int) => fun (σ'4 : Store) => ∃ I : Int → Store → Prop, ∃ μ : Int → Store → Nat, (I n2 σ'4) ∧ ∀ n3 : Int, ∀ σ'5 : Store, (I n3 σ'5) → ∃ len1 : Nat, (Len (.osl id 0 (Int.toNat (w64 n1))) len1) ∧ bcase (decide (n3 < (len1 : Int))) (∃ len2 : Nat, (IdxN Try.prog σ'5 (.osl id 0 (Int.toNat (w64 n1))) 2 len2) ∧ ((0 : Int) ≤ n3) ∧ (n3 ≤ (len2 : Int)) ∧ ∃ len3 : Nat, (IdxN Try.prog σ'5 (.osl id 0 (Int.toNat (w64 n1))) 2 len3) ∧ ((0 : Int) ≤ 0) ∧ ((0 : Int) ≤ n3) ∧ (n3 ≤ (len3 : Int)) ∧ copyTo Try.prog σ'5 t_Mover (.osl id (0 + (Int.toNat n3)) (len2 - (Int.toNat n3))) (.osl id 0 ((Int.toNat n3) - 0)) (fun (n4 : Int) => fun (σ'6 : Store) => (I (w64 (n3 + n4)) σ'6) ∧ ((μ (w64 (n3 + n4)) σ'6) < (μ n3 σ'5)))) (Qp (.a (.one (.osl id 0 (Int.toNat (w64 n1))))) σ'5)))) → R1 σ'2) → bcase (decide (n > 0)) False (bcase (decide (n1 > 9223372036854775807)) False (R1 σ'1)))) → R σ') → bcase (decide (count < 0)) False (R σ)
theorem W_slices_Repeat_Mover (x : D) (count : Int) (σ : Store) (Qp : RV → Store → Prop) (h : V_slices_Repeat_Mover x count σ Qp) : DCalls Try.prog n_slices_Repeat_Mover [.one x, .one (.int .i64 count)] σ Qp :=
  dcalls_of_body mixed (by kernel_rfl) Try.func78 an_slices_Repeat_Mover ((show V_slices_Repeat_Mover x count σ Qp = dbody Try.prog Try.f78 an_slices_Repeat_Mover [.one x, .one (.int .i64 count)] σ Qp by kernel_rfl) ▸ h)
def an_topo_Pos : Ann := { esc := [], cbs := [], draws := [], loops := [(2, { mods := [(15, SlotSh.one (Sh.int IntKind.i64))], keep := [1, 2, 13, 14] })], joins := [] }
def V_topo_Pos (kind : Int) (in_ : Int) (out_ : Int) (σ : Store) (Qp : RV → Store → Prop) : Prop :=
  DCalls Try.prog n_topo_ways [.one (.int .i64 kind)] σ (fun (r : RV) => fun (σ' : Store) => ∃ d : D, (r = (.a (.one d) : RV)) ∧ ∃ len : Nat, (Len d len) ∧ ∃ I : Int → Store → Prop, ∃ μ : Int → Store → Nat, (I 0 σ') ∧ ∀ n : Int, ∀ σ'1 : Store, (I n σ'1) → bcase (decide (n < (len : Int))) (∃ len1 : Nat, (Idx Try.prog σ'1 d 3 len1) ∧ ((0 : Int) ≤ n) ∧ (n < (len1 : Int)) ∧ ∃ row : List D, (Row σ'1 d (Int.toNat n) row) ∧ ∃ n1 : Int, ∃ n2 : Int, ∃ n3 : Int, ((List.take 3 row) = ([.int .i64 n1, .int .i64 n2, .int .i64 n3] : List D)) ∧ DCalls Try.prog n_topo_way_other [.agg [.int .i64 n1, .int .i64 n2, .int .i64 n3], .one (.int .i64 in_)] σ'1 (fun (r1 : RV) => fun (σ'2 : Store) => ∃ n4 : Int, ∃ b : Bool, (r1 = (.tup [.one (.int .i64 n4), .one (.bool b)] : RV)) ∧ bcase b (bcase (n4 == out_) (Qp (.tup [.one (.int .i64 n3), .one (.bool true)]) σ'2) ((I (w64 (n + 1)) σ'2) ∧ ((μ (w64 (n + 1)) σ'2) < (μ n σ'1)))) ((I (w64 (n + 1)) σ'2) ∧ ((μ (w64 (n + 1)) σ'2) < (μ n σ'1))))) (Qp (.tup [.one (.int .i64 0), .one (.bool false)]) σ'1))
theorem W_topo_Pos (kind : Int) (in_ : Int) (out_ : Int) (σ : Store) (Qp : RV → Store → Prop) (h : V_topo_Pos kind in_ out_ σ Qp) : DCalls Try.prog n_topo_Pos [.one (.int .i64 kind), .one (.int .i64 in_), .one (.int .i64 out_)] σ Qp :=
  dcalls_of_body mixed (by kernel_rfl) Try.func82 an_topo_Pos ((show V_topo_Pos kind in_ out_ σ Qp = dbody Try.prog Try.f82 an_topo_Pos [.one (.int .i64 kind), .one (.int .i64 in_), .one (.int .i64 out_)] σ Qp by kernel_rfl) ▸ h)
def an_conf_plan_signal : Ann := { esc := [], cbs := [2], draws := [], loops := [], joins := [] }
def V_conf_plan_signal (p0 : D) (p1 : D) (p2 : D) (p3 : D) (p4 : D) (p5 : Int) (p6 : Int) (p7 : Int) (p8 : Int) (x : Int) (σ : Store) (Qp : RV → Store → Prop) : Prop :=
  bcase (decide (x < 0)) (Qp (.tup [.agg [.int .i64 0, .int .i64 0], .one (.bool false)]) σ) (∃ len : Nat, (Len p2 len) ∧ bcase (decide (x ≥ (len : Int))) (Qp (.tup [.agg [.int .i64 0, .int .i64 0], .one (.bool false)]) σ) (∃ len1 : Nat, (Idx Try.prog σ p2 2 len1) ∧ ((0 : Int) ≤ x) ∧ (x < (len1 : Int)) ∧ ∃ row : List D, (Row σ p2 (Int.toNat x) row) ∧ ∃ n : Int, ∃ n1 : Int, ((List.take 2 row) = ([.int .i64 n, .int .i64 n1] : List D)) ∧ Qp (.tup [.agg [.int .i64 n, .int .i64 n1], .one (.bool true)]) σ))
theorem W_conf_plan_signal (p0 : D) (p1 : D) (p2 : D) (p3 : D) (p4 : D) (p5 : Int) (p6 : Int) (p7 : Int) (p8 : Int) (x : Int) (σ : Store) (Qp : RV → Store → Prop) (h : V_conf_plan_signal p0 p1 p2 p3 p4 p5 p6 p7 p8 x σ Qp) : DCalls Try.prog n_conf_plan_signal [.agg [p0, p1, p2, p3, p4, .int .i64 p5, .int .i64 p6, .int .i64 p7, .int .i64 p8], .one (.int .i64 x)] σ Qp :=
  dcalls_of_body mixed (by kernel_rfl) Try.func86 an_conf_plan_signal ((show V_conf_plan_signal p0 p1 p2 p3 p4 p5 p6 p7 p8 x σ Qp = dbody Try.prog Try.f86 an_conf_plan_signal [.agg [p0, p1, p2, p3, p4, .int .i64 p5, .int .i64 p6, .int .i64 p7, .int .i64 p8], .one (.int .i64 x)] σ Qp by kernel_rfl) ▸ h)
def an_topo_Ends : Ann := { esc := [], cbs := [], draws := [], loops := [(3, { mods := [(3, SlotSh.one (Sh.int IntKind.i64)), (9, SlotSh.one (Sh.int IntKind.i64))], keep := [7, 8] })], joins := [] }
def V_topo_Ends (kind : Int) (σ : Store) (Qp : RV → Store → Prop) : Prop :=
  DCalls Try.prog n_topo_ways [.one (.int .i64 kind)] σ (fun (r : RV) => fun (σ' : Store) => ∃ d : D, (r = (.a (.one d) : RV)) ∧ ∃ len : Nat, (Len d len) ∧ ∃ I : Int → Int → Store → Prop, ∃ μ : Int → Int → Store → Nat, (I 0 0 σ') ∧ ∀ n : Int, ∀ n1 : Int, ∀ σ'1 : Store, (I n n1 σ'1) → bcase (decide (n1 < (len : Int))) (∃ len1 : Nat, (Idx Try.prog σ'1 d 3 len1) ∧ ((0 : Int) ≤ n1) ∧ (n1 < (len1 : Int)) ∧ ∃ row : List D, (Row σ'1 d (Int.toNat n1) row) ∧ ∃ n2 : Int, ∃ n3 : Int, ∃ n4 : Int, ((List.take 3 row) = ([.int .i64 n2, .int .i64 n3, .int .i64 n4] : List D)) ∧ ((0 : Int) ≤ 0) ∧ ((0 : Int) < (2 : Int)) ∧ ((0 : Int) ≤ 1) ∧ ((1 : Int) < (2 : Int)) ∧ (I (ite ((w64 (n3 + 1)) > (ite ((w64 (n2 + 1)) > n) (w64 (n2 + 1)) n)) (w64 (n3 + 1)) (ite ((w64 (n2 + 1)) > n) (w64 (n2 + 1)) n)) (w64 (n1 + 1)) σ'1) ∧ ((μ (ite ((w64 (n3 + 1)) > (ite ((w64 (n2 + 1)) > n) (w64 (n2 + 1)) n)) (w64 (n3 + 1)) (ite ((w64 (n2 + 1)) > n) (w64 (n2 + 1)) n)) (w64 (n1 + 1)) σ'1) < (μ n n1 σ'1))) (Qp (.a (.one (.int .i64 n))) σ'1))
theorem W_topo_Ends (kind : Int) (σ : Store) (Qp : RV → Store → Prop) (h : V_topo_Ends kind σ Qp) : DCalls Try.prog n_topo_Ends [.one (.int .i64 kind)] σ Qp :=
  dcalls_of_body mixed (by kernel_rfl) Try.func90 an_topo_Ends ((show V_topo_Ends kind σ Qp = dbody Try.prog Try.f90 an_topo_Ends [.one (.int .i64 kind)] σ Qp by kernel_rfl) ▸ h)
def an_slices_Equal_Need : Ann := { esc := [], cbs := [], draws := [(6, { ord := [0, 1, 2, 3, 4, 5, 6, 7, 8], nb := [], av := [], dir := [] })], loops := [(4, { mods := [(13, SlotSh.one (Sh.int IntKind.i64))], keep := [0, 1, 12] })], joins := [] }
def V_slices_Equal_Need (s1 : D) (s2 : D) (σ : Store) (Qp : RV → Store → Prop) : Prop :=
  ∃ len : Nat, (Len s1 len) ∧ ∃ len1 : Nat, (Len s2 len1) ∧ bcase ((len : Int) != (len1 : Int)) (Qp (.a (.one (.bool false))) σ) (∃ len2 : Nat, (Len s1 len2) ∧ ∃ I : Int → Store → Prop, ∃ μ : Int → Store → Nat, (I 0 σ) ∧ ∀ n : Int, ∀ σ' : Store, (I n σ') → bcase (decide (n < (len2 : Int))) (∃ len3 : Nat, (Idx Try.prog σ' s1 2 len3) ∧ ((0 : Int) ≤ n) ∧ (n < (len3 : Int)) ∧ ∃ row : List D, (Row σ' s1 (Int.toNat n) row) ∧ ∃ n1 : Int, ∃ n2 : Int, ((List.take 2 row) = ([.int .i64 n1, .int .i64 n2] : List D)) ∧ ∃ len4 : Nat, (Idx Try.prog σ' s2 2 len4) ∧ ((0 : Int) ≤ n) ∧ (n < (len4 : Int)) ∧ ∃ row1 : List D, (Row σ' s2 (Int.toNat n) row1) ∧ ∃ n3 : Int, ∃ n4 : Int, ((List.take 2 row1) = ([.int .i64 n3, .int .i64 n4] : List D)) ∧ bcase (!((n1 == n3) && (n2 == n4))) (Qp (.a (.one (.bool false))) σ') ((I (w64 (n + 1)) σ') ∧ ((μ (w64 (n + 1)) σ') < (μ n σ')))) (Qp (.a (.one (.bool true))) σ'))
theorem W_slices_Equal_Need (s1 : D) (s2 : D) (σ : Store) (Qp : RV → Store → Prop) (h : V_slices_Equal_Need s1 s2 σ Qp) : DCalls Try.prog n_slices_Equal_Need [.one s1, .one s2] σ Qp :=
  dcalls_of_body mixed (by kernel_rfl) Try.func94 an_slices_Equal_Need ((show V_slices_Equal_Need s1 s2 σ Qp = dbody Try.prog Try.f94 an_slices_Equal_Need [.one s1, .one s2] σ Qp by kernel_rfl) ▸ h)
def an_slices_Index_int : Ann := { esc := [], cbs := [], draws := [], loops := [(2, { mods := [(8, SlotSh.one (Sh.int IntKind.i64))], keep := [0, 1, 7] })], joins := [] }
def V_slices_Index_int (s : D) (v : Int) (σ : Store) (Qp : RV → Store → Prop) : Prop :=
  ∃ len : Nat, (Len s len) ∧ ∃ I : Int → Store → Prop, ∃ μ : Int → Store → Nat, (I 0 σ) ∧ ∀ n : Int, ∀ σ' : Store, (I n σ') → bcase (decide (n < (len : Int))) (∃ len1 : Nat, (Idx Try.prog σ' s 1 len1) ∧ ((0 : Int) ≤ n) ∧ (n < (len1 : Int)) ∧ ∃ row : List D, (Row σ' s (Int.toNat n) row) ∧ ∃ n1 : Int, ((List.take 1 row) = ([.int .i64 n1] : List D)) ∧ bcase (v == n1) (Qp (.a (.one (.int .i64 n))) σ') ((I (w64 (n + 1)) σ') ∧ ((μ (w64 (n + 1)) σ') < (μ n σ')))) (Qp (.a (.one (.int .i64 (-1)))) σ')
theorem W_slices_Index_int (s : D) (v : Int) (σ : Store) (Qp : RV → Store → Prop) (h : V_slices_Index_int s v σ Qp) : DCalls Try.prog n_slices_Index_int [.one s, .one (.int .i64 v)] σ Qp :=
  dcalls_of_body mixed (by kernel_rfl) Try.func107 an_slices_Index_int ((show V_slices_Index_int s v σ Qp = dbody Try.prog Try.f107 an_slices_Index_int [.one s, .one (.int .i64 v)] σ Qp by kernel_rfl) ▸ h)
def an_slices_ContainsFunc_Need : Ann := { esc := [], cbs := [], draws := [], loops := [], joins := [] }
def V_slices_ContainsFunc_Need (s : D) (f : D) (σ : Store) (Qp : RV → Store → Prop) : Prop :=
  DCalls Try.prog n_slices_IndexFunc_Need [.one s, .one f] σ (fun (r : RV) => fun (σ' : Store) => ∃ n : Int, (r = (.a (.one (.int .i64 n)) : RV)) ∧ Qp (.a (.one (.bool (decide (n ≥ 0))))) σ')
theorem W_slices_ContainsFunc_Need (s : D) (f : D) (σ : Store) (Qp : RV → Store → Prop) (h : V_slices_ContainsFunc_Need s f σ Qp) : DCalls Try.prog n_slices_ContainsFunc_Need [.one s, .one f] σ Qp :=
  dcalls_of_body mixed (by kernel_rfl) Try.func115 an_slices_ContainsFunc_Need ((show V_slices_ContainsFunc_Need s f σ Qp = dbody Try.prog Try.f115 an_slices_ContainsFunc_Need [.one s, .one f] σ Qp by kernel_rfl) ▸ h)
def an_conf_has_1 : Ann := { esc := [], cbs := [2], draws := [], loops := [], joins := [] }
def V_conf_has_1 (s0 : Int) (s1 : Int) (s2 : Int) (a1 : D) (σ : Store) (Qp : RV → Store → Prop) : Prop :=
  ∃ s : D, ∃ i : Nat, ∃ off : Nat, (a1 = (.el s i off : D)) ∧ ∃ row : List D, (Row σ s i row) ∧ ∃ n : Int, ((List.take 1 (List.drop off row)) = ([.int .i64 n] : List D)) ∧ Qp (.a (.one (.bool (s0 == n)))) σ
theorem W_conf_has_1 (s0 : Int) (s1 : Int) (s2 : Int) (a1 : D) (σ : Store) (Qp : RV → Store → Prop) (h : V_conf_has_1 s0 s1 s2 a1 σ Qp) : DCalls Try.prog n_conf_has_1 [.agg [.int .i64 s0, .int .i64 s1, .int .i64 s2], .one a1] σ Qp :=
  dcalls_of_body mixed (by kernel_rfl) Try.func119 an_conf_has_1 ((show V_conf_has_1 s0 s1 s2 a1 σ Qp = dbody Try.prog Try.f119 an_conf_has_1 [.agg [.int .i64 s0, .int .i64 s1, .int .i64 s2], .one a1] σ Qp by kernel_rfl) ▸ h)
end Go.Proofs.Yteflnjedfmmddaa
end
section
set_option maxRecDepth 20000
set_option linter.unusedVariables false
set_option linter.unusedSimpArgs false
namespace Go.Proofs.Yteflnjedfmmddaa
open Go.Fw Go.Proofs Go.RowKit
variable {σ : Store}
theorem flatW (l : List (Int × Int × Int)) : ∀ row ∈ l.map encW, ∀ x ∈ row, Flat x := by
  intro row hrow x hx
  obtain ⟨w, _, rfl⟩ := List.mem_map.1 hrow
  simp [encW] at hx
  rcases hx with rfl | rfl | rfl <;> exact .int _ _
def WaysPost (σ : Store) (t : TypeId) (k : Int) (r : RV) (σ' : Store) : Prop := σ' = σ ∧ ∃ d, r = .a (.one d) ∧ ∀ s, At Try.prog s t d ((wayL k).map encW)
theorem ways_fin {t : TypeId} (hc : Try.prog.cellsOf t = 3) {k : Int} {rows : List (List D)} {n : Nat} {id : Nat} {σ' : Store} (hn : n = rows.length) (hl : rows.length < 100) (hid : σ id = .free) (he : Ext σ σ') (hs : σ' id = .live t rows) (hr : rows = (wayL k).map encW) :
    ∃ r' σ'', Ret Try.prog σ σ' (.a (.one (.osl id 0 n))) σ'' r' ∧ WaysPost σ t k r' σ'' := by
  have hat : At Try.prog σ' t (.osl id 0 n) rows := At.fresh hs (by omega) hn
  obtain ⟨d', h1, h2⟩ := ret_slice hat he (osl_new hid) (by rw [hr]; exact flatW _)
  exact ⟨.a (.one d'), σ, .pure he h1, rfl, d', rfl, fun s => hr ▸ h2 s⟩
theorem topo_ways_ok (k : Int) : DCalls Try.prog n_topo_ways [iA k] σ (WaysPost σ t_topo_way k) := by
  refine (W_topo_ways k σ _ ?_).ret (Q := fun r s => ∃ r' σ', Ret Try.prog σ s r σ' r' ∧ WaysPost σ t_topo_way k r' σ') (fun r s h => h)
  refine bce (fun h0 => newObj_intro fun id σ' hid _ he hs => ?_) (fun h0 => bce (fun h1 => newObj_intro fun id σ' hid _ he hs => ?_) (fun h1 => bce (fun h2 => newObj_intro fun id σ' hid _ he hs => ?_) (fun h2 => ?_)))
  · exact ways_fin c_topo_way rfl (by simp) hid he hs (by subst h0; rfl)
  · exact ways_fin c_topo_way rfl (by simp) hid he hs (by subst h1; rfl)
  · exact ways_fin c_topo_way rfl (by simp) hid he hs (by subst h2; rfl)
  · exact ⟨.a (.one .nils), σ, .pure (.refl _) .nils, rfl, .nils, rfl, fun s => by simp [wayL, h0, h1, h2]; exact .nil⟩
theorem wayL_len (k : Int) : (wayL k).length < 2 ^ 60 := by unfold wayL; split <;> (try split) <;> (try split) <;> simp
theorem topo_Ends_ok (k : Int) : Pure Try.prog n_topo_Ends [iA k] σ (.a (iA (nends k))) := by
  refine W_topo_Ends k σ _ ((topo_ways_ok k).mono ?_)
  rintro r σ' ⟨rfl, d, rfl, hd⟩
  refine ⟨d, rfl, (hd σ').lenK ⟨fun n m s => s = σ' ∧ Rng (wayL k) (fun r => r.foldl endStep n = nends k) m, fun n m _ => (wayL k).length - m.toNat, ⟨rfl, .start (ends_eq k)⟩, ?_⟩⟩
  rintro n m _ ⟨rfl, hr⟩
  refine bcd (fun hlt => ?_) (fun hge => ?_)
  · obtain ⟨j, x, rfl, hx, hj, hF, nx⟩ := hr.step (by simp) (wayL_len k) hlt
    refine (hd _).load (map_get hx) c_topo_way rfl ⟨x.1, x.2.1, x.2.2, rfl, by omega, by omega, by omega, by omega, andl rfl (nx (fun r => r.foldl endStep (endStep n x) = nends k) hF)⟩
  · have := hr.done (by simp) hge
    exact ⟨by rw [← this]; rfl, rfl⟩
theorem topo_between_ok (n lo hi : Int) : Pure Try.prog n_topo_between [iA n, iA lo, iA hi] σ (.a (bA (decide (lo ≤ n ∧ n ≤ hi)))) := by
  refine W_topo_between n lo hi σ _ (bcd (fun h => ⟨?_, rfl⟩) (fun h => ⟨?_, rfl⟩))
  · simp [h]
  · simp [h]
theorem topo_Next_ok {d : D} {js : List Jt} (s e : Int) (h : At Try.prog σ t_Joint d (js.map Jt.enc)) : Pure Try.prog n_topo_Next [.one d, iA s, iA e] σ (opt2 (nxt js s e)) := by
  have hl := h.size
  rw [List.length_map] at hl
  refine W_topo_Next d s e σ _ (h.lenK ⟨fun n σ' => σ' = σ ∧ Rng js (fun r => nxt r s e = nxt js s e) n, fun n _ => js.length - n.toNat, ⟨rfl, .start rfl⟩, ?_⟩)
  rintro n σ' ⟨rfl, hr⟩
  refine bcd (fun hlt => ?_) (fun hge => ?_)
  · obtain ⟨j, x, rfl, hx, hj, hF, nx⟩ := hr.step (by simp) hl hlt
    refine h.load (map_get hx) c_Joint rfl ⟨x.A, x.AEnd, x.B, x.BEnd, rfl, ?_⟩
    rw [nxt] at hF
    repeat' (first | refine bce (fun _ => ?_) (fun _ => ?_))
    all_goals first
      | exact ⟨by rw [← hF]; simp [*, opt2], rfl⟩
      | exact andl rfl (nx (fun r => nxt r s e = nxt js s e) (by simpa [*] using hF))
  · exact ⟨by rw [← hr.done (by simp) hge]; rfl, rfl⟩
theorem slices_Index_int_ok {d : D} {l : List Int} (v : Int) (h : At Try.prog σ t_int d (l.map encI)) : Pure Try.prog n_slices_Index_int [.one d, iA v] σ (.a (iA (idxOf l v 0))) := by
  have hl := h.size
  rw [List.length_map] at hl
  refine W_slices_Index_int d v σ _ (h.lenK ⟨fun n σ' => σ' = σ ∧ Rng l (fun r => (∀ j : Nat, n = j → idxOf r v j = idxOf l v 0)) n, fun n _ => l.length - n.toNat, ⟨rfl, .start fun j hj => by cases j with | zero => rfl | succ j => omega⟩, ?_⟩)
  rintro n σ' ⟨rfl, hr⟩
  refine bcd (fun hlt => ?_) (fun hge => ?_)
  · obtain ⟨j, x, rfl, hx, hj, hF, nx⟩ := hr.step (by simp) hl hlt
    refine h.load (map_get hx) c_int rfl ⟨x, rfl, ?_⟩
    have hF := hF j rfl
    rw [idxOf] at hF
    refine bce (fun _ => ?_) (fun _ => ?_)
    · exact ⟨by rw [← hF]; simp [*], rfl⟩
    · refine andl rfl (nx _ fun j' hj' => ?_)
      rw [w64_succ (by omega)] at hj'
      obtain rfl : j' = j + 1 := by omega
      rw [if_neg (fun e => by simp_all)] at hF
      exact hF
  · refine ⟨?_, rfl⟩
    obtain ⟨j, hj, hj2, hF⟩ := hr
    have hF := hF j hj
    rw [drop_end (by simp at hge; omega)] at hF
    rw [← hF]; rfl
theorem alloc_cell {W : World} {cs : Array Value} {t : TypeId} {j : Nat} {v : Value} (h : cs[j]? = some v) : (W.alloc (.cells cs t)).cell? ⟨W.heap.size, j, none⟩ = some v := by
  unfold World.cell?
  rw [(MapKept.heap_alloc W _).1]
  exact h
theorem index2_calls (a b p e : Int) (W : World) : Calls Try.prog n_slices_Index_int #[.slice (some ⟨W.heap.size, 0, none⟩) 2 2, .int .i64 e] (W.alloc (.cells #[.int .i64 a, .int .i64 b, .int .i64 p] t_topo_way)) fun r W' =>
    r = .returned (.int .i64 (idxOf [a, b] e 0)) ∧ Below (W.heap.size + 1) (W.alloc (.cells #[.int .i64 a, .int .i64 b, .int .i64 p] t_topo_way)) W' := by
  have hsz : (W.alloc (.cells #[.int .i64 a, .int .i64 b, .int .i64 p] t_topo_way)).heap.size = W.heap.size + 1 := Array.size_push _
  have hA : At Try.prog noS t_int (.sl 1 [[iD a], [iD b]]) ([a, b].map encI) := ⟨⟨rfl, .inr c_int.symm⟩, by simp, fun es rows e => by injection e with e1 _; rw [← e1, c_int]⟩
  have hcell : ∀ j v, #[Value.int .i64 a, .int .i64 b, .int .i64 p][j]? = some v → (W.alloc (.cells #[.int .i64 a, .int .i64 b, .int .i64 p] t_topo_way)).cell? ⟨W.heap.size, j, none⟩ = some v := fun j v h => alloc_cell h
  have hV : V (allK (W.alloc (.cells #[.int .i64 a, .int .i64 b, .int .i64 p] t_topo_way))) noB (W.alloc (.cells #[.int .i64 a, .int .i64 b, .int .i64 p] t_topo_way)) (.slice (some ⟨W.heap.size, 0, none⟩) 2 2) (.sl 1 [[iD a], [iD b]]) := by
    have key : ∀ (i : Nat) row (j : Nat) d, ([[iD a], [iD b]] : List (List D))[i]? = some row → row[j]? = some d → (i = 0 ∧ j = 0 ∧ row = [iD a] ∧ d = iD a) ∨ (i = 1 ∧ j = 0 ∧ row = [iD b] ∧ d = iD b) := by
      intro i row j d h1 h2
      rcases i with _ | _ | i
      · simp at h1; subst h1
        rcases j with _ | j
        · simp at h2; exact .inl ⟨rfl, rfl, rfl, h2.symm⟩
        · simp at h2
      · simp at h1; subst h1
        rcases j with _ | j
        · simp at h2; exact .inr ⟨rfl, rfl, rfl, h2.symm⟩
        · simp at h2
      · simp at h1
    refine V.sl ⟨W.heap.size, 0, none⟩ 2 2 1 _ (fun i j => if i = 0 then .int .i64 a else .int .i64 b) (fun _ => ⟨by show W.heap.size < _; rw [hsz]; omega, rfl⟩) rfl (by omega) (fun i row h => ?_) (fun i row j d h hj => ?_) (fun i row j d h hj => ?_)
    · rcases i with _ | _ | i
      · simp at h; subst h; rfl
      · simp at h; subst h; rfl
      · simp at h
    · rcases key i row j d h hj with ⟨rfl, rfl, rfl, rfl⟩ | ⟨rfl, rfl, rfl, rfl⟩
      · exact hcell 0 _ rfl
      · exact hcell 1 _ rfl
    · rcases key i row j d h hj with ⟨rfl, rfl, rfl, rfl⟩ | ⟨rfl, rfl, rfl, rfl⟩
      · exact V.int _ _
      · exact V.int _ _
  have hc := (slices_Index_int_ok e hA).2 (allK _) noB (W.alloc (.cells #[.int .i64 a, .int .i64 b, .int .i64 p] t_topo_way)) #[.slice (some ⟨W.heap.size, 0, none⟩) 2 2, .int .i64 e] srel0 rfl (by
    intro i v x hv hx
    rcases i with _ | _ | i
    · simp at hv hx
      subst hv hx
      exact hV
    · simp at hv hx
      subst hv hx
      exact V.int _ _
    · simp at hv)
  refine hc.mono fun r W' ⟨v, rr, σ', k', β', q1, ⟨q2, _⟩, q3, _, _, q6⟩ => ?_
  subst q2
  have hv := V.inv_int q3
  subst hv
  exact ⟨q1, q6.os, q6.tape, q6.output, q6.size, fun b hb => q6.block b (by rw [hsz]; exact hb) (fun i bi hi => by cases hi)⟩
theorem way_other_calls (a b p e : Int) (W : World) : Calls Try.prog n_topo_way_other #[.agg #[.int .i64 a, .int .i64 b, .int .i64 p], .int .i64 e] W fun r W' =>
    r = .returned (if e = a then .tuple #[.int .i64 b, .bool true] else if e = b then .tuple #[.int .i64 a, .bool true] else .tuple #[.int .i64 0, .bool false]) ∧ Below W.heap.size W W' := by
  have hI := index2_calls a b p e W
  have fin : ∀ W', Below (W.heap.size + 1) (W.alloc (.cells #[.int .i64 a, .int .i64 b, .int .i64 p] t_topo_way)) W' → Below W.heap.size W W' := fun W' hb =>
    ((Below.refl _ _).alloc (Nat.le_refl _) _).trans (hb.mono (by omega))
  have cells : ∀ W', Below (W.heap.size + 1) (W.alloc (.cells #[.int .i64 a, .int .i64 b, .int .i64 p] t_topo_way)) W' →
      W'.cell? ⟨W.heap.size, 0, none⟩ = some (.int .i64 a) ∧ W'.cell? ⟨W.heap.size, 1, none⟩ = some (.int .i64 b) := fun W' hb => by
    exact ⟨(hb.cell (p := ⟨W.heap.size, 0, none⟩) (Nat.lt_succ_self _)).trans (alloc_cell rfl), (hb.cell (p := ⟨W.heap.size, 1, none⟩) (Nat.lt_succ_self _)).trans (alloc_cell rfl)⟩
  by_cases h0 : e = a
  · subst h0
    rw [show idxOf [e, b] e 0 = 0 by simp [idxOf]] at hI
    rw [if_pos rfl]
    go_enter Try.func109, Try.ntmps109
    go_wp2_with fail
    refine hI.mono ?_
    rintro r W' ⟨rfl, hb⟩
    obtain ⟨c0, c1⟩ := cells W' hb
    have hf := fin W' hb
    clear cells fin hI hb
    go_wp2
    go_ret2
    exact ⟨rfl, hf⟩
  · by_cases h1 : e = b
    · subst h1
      rw [show idxOf [a, e] e 0 = 1 by simp [idxOf, h0]] at hI
      rw [if_neg h0, if_pos rfl]
      go_enter Try.func109, Try.ntmps109
      go_wp2_with fail
      refine hI.mono ?_
      rintro r W' ⟨rfl, hb⟩
      obtain ⟨c0, c1⟩ := cells W' hb
      have hf := fin W' hb
      clear cells fin hI hb
      go_wp2
      go_ret2
      exact ⟨rfl, hf⟩
    · rw [show idxOf [a, b] e 0 = -1 by simp [idxOf, h0, h1]] at hI
      rw [if_neg h0, if_neg h1]
      go_enter Try.func109, Try.ntmps109
      go_wp2_with fail
      refine hI.mono ?_
      rintro r W' ⟨rfl, hb⟩
      have hf := fin W' hb
      clear cells fin hI hb
      go_wp2
      go_ret2
      exact ⟨rfl, hf⟩
theorem way_other_ok (a b p e : Int) : Pure Try.prog n_topo_way_other [.agg [iD a, iD b, iD p], iA e] σ (opt1 (if e = a then some b else if e = b then some a else none)) := by
  refine ⟨by kernel_rfl, fun k β W vs hS hsz hv => ?_⟩
  have hvs : vs = #[.agg #[.int .i64 a, .int .i64 b, .int .i64 p], .int .i64 e] := by
    have h0 := hv 0 (vs.getD 0 undef) _ (by simp at hsz; simp [hsz]) rfl
    have h1 := hv 1 (vs.getD 1 undef) _ (by simp at hsz; simp [hsz]) rfl
    obtain ⟨us, e0, hu⟩ := h0
    have e1 := V.inv_int h1
    have hus : us = #[.int .i64 a, .int .i64 b, .int .i64 p] := by
      apply Array.ext'
      exact vsOfD_eq hu rfl
    apply Array.ext
    · simpa using hsz
    · intro i h1 h2
      simp at hsz
      match i, h1 with
      | 0, _ => simp [hsz] at e0; simp [e0, hus]
      | 1, _ => simp [hsz] at e1; simp [e1]
      | i + 2, h => omega
  subst hvs
  refine (way_other_calls a b p e W).mono fun r W' ⟨h1, h2⟩ => ?_
  have hg : Grow W W' := ⟨h2.os, h2.tape, h2.output, h2.size, h2.block⟩
  have tup : ∀ (x : Int) (c : Bool), VR k β W' (.tuple #[.int .i64 x, .bool c]) (.tup [iA x, bA c]) := fun x c => tup2 (v := iA x) (V.int _ _)
  refine ⟨_, _, σ, k, β, h1, ⟨rfl, rfl⟩, ?_, hS.grow hg, Ghost.refl _ _ _ _, hg.frm _ _⟩
  by_cases h0 : e = a
  · simp only [h0, if_true]; exact tup _ _
  · by_cases h1 : e = b
    · simp only [h0, h1, if_false, if_true]; split <;> exact tup _ _
    · simp only [h0, h1, if_false]; exact tup _ _
theorem topo_Pos_ok (k i o : Int) : Pure Try.prog n_topo_Pos [iA k, iA i, iA o] σ (opt1 (wpos (wayL k) i o)) := by
  refine W_topo_Pos k i o σ _ ((topo_ways_ok k).mono ?_)
  rintro r σ' ⟨rfl, d, rfl, hd⟩
  refine ⟨d, rfl, (hd σ').lenK ⟨fun m s => s = σ' ∧ Rng (wayL k) (fun r => wpos r i o = wpos (wayL k) i o) m, fun m _ => (wayL k).length - m.toNat, ⟨rfl, .start rfl⟩, ?_⟩⟩
  rintro m _ ⟨rfl, hr⟩
  refine bcd (fun hlt => ?_) (fun hge => ?_)
  · obtain ⟨j, x, rfl, hx, hj, hF, nx⟩ := hr.step (by simp) (wayL_len k) hlt
    refine (hd _).load (map_get hx) c_topo_way rfl ⟨x.1, x.2.1, x.2.2, rfl, (way_other_ok _ _ _ _).use ?_⟩
    have hne : x.1 ≠ x.2.1 := by
      have hm := List.mem_of_getElem? hx
      unfold wayL at hm
      split at hm
      · simp at hm; subst hm; decide
      · split at hm
        · simp at hm; rcases hm with rfl | rfl <;> decide
        · split at hm
          · simp at hm; rcases hm with rfl | rfl <;> decide
          · cases hm
    rw [wpos] at hF
    by_cases h0 : i = x.1
    · subst h0
      refine ⟨x.2.1, true, by simp [opt1], ?_⟩
      refine bce (fun h1 => ?_) (fun h1 => ?_)
      · exact ⟨by rw [← hF]; simp [*, opt1], rfl⟩
      · exact andl rfl (nx (fun r => wpos r x.1 o = wpos (wayL k) x.1 o) (by rw [if_neg (by rintro (⟨_, h⟩ | ⟨h, _⟩); exact h1 h; exact hne h.symm)] at hF; exact hF))
    · by_cases h1 : i = x.2.1
      · subst h1
        refine ⟨x.1, true, by simp [opt1, h0], ?_⟩
        refine bce (fun h1 => ?_) (fun h1 => ?_)
        · exact ⟨by rw [← hF]; simp [*, opt1], rfl⟩
        · exact andl rfl (nx (fun r => wpos r x.2.1 o = wpos (wayL k) x.2.1 o) (by rw [if_neg (by rintro (⟨h, _⟩ | ⟨_, h⟩); exact hne h; exact h1 h)] at hF; exact hF))
      · refine ⟨0, false, by simp [opt1, h0, h1], ?_⟩
        exact andl rfl (nx (fun r => wpos r i o = wpos (wayL k) i o) (by rw [if_neg (by rintro (⟨h, _⟩ | ⟨h, _⟩); exact h0 h.symm; exact h1 h.symm)] at hF; exact hF))
  · have := hr.done (by simp) hge
    exact ⟨by rw [← this]; rfl, rfl⟩
end Go.Proofs.Yteflnjedfmmddaa
end
section
namespace Go.Fw
def allSpots (js : List Jt) : List (Int × Int) := js.flatMap Jt.spots
theorem prun_iff (secs : List Sec) : ∀ (l tk tk' : List (Int × Int)), prun secs l tk = some tk' ↔ (∀ p ∈ l, spotOk secs p = true) ∧ l.Nodup ∧ (∀ p ∈ l, p ∉ tk) ∧ tk' = l.reverse ++ tk
  | [], tk, tk' => by simp [prun]; exact eq_comm
  | p :: r, tk, tk' => by
    rw [prun]
    by_cases h : spotOk secs p = true ∧ p ∉ tk
    · rw [if_pos h, prun_iff secs r (p :: tk) tk']
      simp only [List.mem_cons, forall_eq_or_imp, List.nodup_cons, List.reverse_cons, List.append_assoc, List.singleton_append]
      constructor
      · rintro ⟨h1, h2, h3, h4⟩
        exact ⟨⟨h.1, h1⟩, ⟨fun hp => (h3 p hp) (.inl rfl), h2⟩, ⟨h.2, fun q hq hqt => h3 q hq (.inr hqt)⟩, h4⟩
      · rintro ⟨⟨_, h1⟩, ⟨h2, h3⟩, ⟨_, h4⟩, h5⟩
        exact ⟨h1, h3, fun q hq hqt => hqt.elim (fun e => h2 (e ▸ hq)) (h4 q hq), h5⟩
    · rw [if_neg h]
      simp only [List.mem_cons, forall_eq_or_imp]
      constructor
      · intro h'; cases h'
      · rintro ⟨⟨h1, _⟩, _, ⟨h2, _⟩, _⟩; exact absurd ⟨h1, h2⟩ h
theorem jrun_iff (secs : List Sec) : ∀ (js : List Jt) (tk tk' : List (Int × Int)), jrun secs js tk = some tk' ↔
    (∀ p ∈ allSpots js, spotOk secs p = true) ∧ (allSpots js).Nodup ∧ (∀ p ∈ allSpots js, p ∉ tk) ∧ (∀ j ∈ js, j.A ≠ j.B) ∧ tk' = (allSpots js).reverse ++ tk
  | [], tk, tk' => by simp [jrun, allSpots]; exact eq_comm
  | j :: r, tk, tk' => by
    rw [jrun]
    have hall : allSpots (j :: r) = j.spots ++ allSpots r := by simp [allSpots]
    rw [hall]
    cases hp : prun secs j.spots tk with
    | none =>
      have hno : ¬ ∃ t, prun secs j.spots tk = some t := by rw [hp]; rintro ⟨t, h⟩; cases h
      constructor
      · intro h; cases h
      · rintro ⟨h1, h2, h3, _, _⟩
        exact absurd ⟨_, (prun_iff secs j.spots tk _).2 ⟨fun p hp => h1 p (List.mem_append_left _ hp), (List.nodup_append.1 h2).1, fun p hp => h3 p (List.mem_append_left _ hp), rfl⟩⟩ hno
    | some t =>
      obtain ⟨a1, a2, a3, a4⟩ := (prun_iff secs j.spots tk t).1 hp
      by_cases hAB : j.A = j.B
      · simp only [hAB, if_true]
        constructor
        · intro h; cases h
        · rintro ⟨_, _, _, h4, _⟩; exact absurd hAB (h4 j (by simp))
      · simp only [hAB, if_false]
        rw [jrun_iff secs r t tk', a4]
        constructor
        · rintro ⟨h1, h2, h3, h4, h5⟩
          refine ⟨fun p hp => (List.mem_append.1 hp).elim (a1 p) (h1 p), List.nodup_append.2 ⟨a2, h2, fun a ha b hb e => ?_⟩, fun p hp => (List.mem_append.1 hp).elim (a3 p) (fun hp ht => h3 p hp (by simp [ht])), fun x hx => ?_, by rw [h5]; simp⟩
          · subst e; exact h3 a hb (by simp [ha])
          · rcases List.mem_cons.1 hx with rfl | hx
            · exact hAB
            · exact h4 x hx
        · rintro ⟨h1, h2, h3, h4, h5⟩
          obtain ⟨b1, b2, b3⟩ := List.nodup_append.1 h2
          refine ⟨fun p hp => h1 p (List.mem_append_right _ hp), b2, fun p hp ht => ?_, fun x hx => h4 x (List.mem_cons_of_mem _ hx), by rw [h5]; simp⟩
          rcases List.mem_append.1 ht with ht | ht
          · exact b3 p (by simpa using ht) p hp rfl
          · exact h3 p (List.mem_append_right _ hp) ht
theorem cnt_count (s e : Int) : ∀ js : List Jt, cnt js s e = ((allSpots js).count (s, e) : Int)
  | [] => by simp [cnt, allSpots]
  | j :: r => by
    have hall : allSpots (j :: r) = (j.A, j.AEnd) :: (j.B, j.BEnd) :: allSpots r := by simp [allSpots, Jt.spots]
    rw [hall, cnt, cnt_count s e r, List.count_cons, List.count_cons]
    simp only [beq_iff_eq, Prod.mk.injEq]
    split <;> split <;> omega
theorem srun_iff (tk : List (Int × Int)) : ∀ (secs : List Sec) (i : Int) (ls : List Int), srun tk secs i ls = true ↔
    ∀ (k : Nat) s, secs[k]? = some s → nends s.Kind ≠ 0 ∧ (0 ≤ s.OC ∧ s.OC ≤ 3) ∧ (0 ≤ s.Line ∧ s.Line ≤ 3) ∧ (s.Line ≠ 0 → s.Kind = 0 ∧ (i + k, 1) ∉ tk ∧ s.Line ∉ ls ∧ ∀ k' s', k' < k → secs[k']? = some s' → s'.Line ≠ s.Line)
  | [], i, ls => by simp [srun]
  | x :: r, i, ls => by
    rw [srun]
    by_cases hc : nends x.Kind = 0 ∨ ¬ (0 ≤ x.OC ∧ x.OC ≤ 3) ∨ ¬ (0 ≤ x.Line ∧ x.Line ≤ 3) ∨ x.Line ≠ 0 ∧ (x.Kind ≠ 0 ∨ (i, 1) ∈ tk ∨ x.Line ∈ ls)
    · rw [if_pos hc]
      constructor
      · intro h; cases h
      · intro h
        obtain ⟨h1, h2, h3, h4⟩ := h 0 x rfl
        rcases hc with hc | hc | hc | ⟨hc, hd⟩
        · exact absurd hc h1
        · exact absurd h2 hc
        · exact absurd h3 hc
        · obtain ⟨g1, g2, g3, _⟩ := h4 hc
          rcases hd with hd | hd | hd
          · exact absurd g1 hd
          · exact absurd hd (by simpa using g2)
          · exact absurd hd g3
    · rw [if_neg hc, srun_iff tk r (i + 1) (x.Line :: ls)]
      have hx : nends x.Kind ≠ 0 ∧ (0 ≤ x.OC ∧ x.OC ≤ 3) ∧ (0 ≤ x.Line ∧ x.Line ≤ 3) ∧ (x.Line ≠ 0 → x.Kind = 0 ∧ (i, 1) ∉ tk ∧ x.Line ∉ ls) := by
        refine ⟨fun h => hc (.inl h), Classical.not_not.1 fun h => hc (.inr (.inl h)), Classical.not_not.1 fun h => hc (.inr (.inr (.inl h))), fun hl => ⟨Classical.not_not.1 fun h => hc (.inr (.inr (.inr ⟨hl, .inl h⟩))), fun h => hc (.inr (.inr (.inr ⟨hl, .inr (.inl h)⟩))), fun h => hc (.inr (.inr (.inr ⟨hl, .inr (.inr h)⟩)))⟩⟩
      constructor
      · intro h k s hk
        cases k with
        | zero =>
          simp at hk; subst hk
          exact ⟨hx.1, hx.2.1, hx.2.2.1, fun hl => by
            obtain ⟨a, b, c⟩ := hx.2.2.2 hl
            exact ⟨a, by simpa using b, c, fun k' s' hk' => by omega⟩⟩
        | succ k =>
          obtain ⟨h1, h2, h3, h4⟩ := h k s (by simpa using hk)
          refine ⟨h1, h2, h3, fun hl => ?_⟩
          obtain ⟨a, b, c, d⟩ := h4 hl
          refine ⟨a, by rw [show i + ((k + 1 : Nat) : Int) = i + 1 + k by omega]; exact b, fun hm => c (by simp [hm]), fun k' s' hk' hs' => ?_⟩
          cases k' with
          | zero => simp at hs'; subst hs'; exact fun e => c (by simp [e])
          | succ k' => exact d k' s' (by omega) (by simpa using hs')
      · intro h k s hk
        obtain ⟨h1, h2, h3, h4⟩ := h (k + 1) s (by simpa using hk)
        refine ⟨h1, h2, h3, fun hl => ?_⟩
        obtain ⟨a, b, c, d⟩ := h4 hl
        refine ⟨a, by rw [show i + 1 + (k : Int) = i + ((k + 1 : Nat) : Int) by omega]; exact b, fun hm => ?_, fun k' s' hk' hs' => d (k' + 1) s' (by omega) (by simpa using hs')⟩
        rcases List.mem_cons.1 hm with hm | hm
        · exact d 0 x (by omega) rfl hm.symm
        · exact c hm
/-- A section, as the document asks. -/
def secOk (secs : List Sec) (js : List Jt) (k : Nat) (s : Sec) : Prop :=
  nends s.Kind ≠ 0 ∧ (0 ≤ s.OC ∧ s.OC ≤ 3) ∧ (0 ≤ s.Line ∧ s.Line ≤ 3) ∧ (s.Line ≠ 0 → s.Kind = 0 ∧ cnt js k 1 ≤ 0 ∧ ∀ k' s', k' < k → secs[k']? = some s' → s'.Line ≠ s.Line)
/-- A joint, as the document asks. -/
def jtOk (secs : List Sec) (js : List Jt) (j : Jt) : Prop :=
  (0 ≤ j.A ∧ j.A < secs.length) ∧ (0 ≤ j.B ∧ j.B < secs.length) ∧ j.A ≠ j.B ∧ (0 ≤ j.AEnd ∧ j.AEnd < nends (kindAt secs j.A)) ∧ (0 ≤ j.BEnd ∧ j.BEnd < nends (kindAt secs j.B)) ∧ cnt js j.A j.AEnd ≤ 1 ∧ cnt js j.B j.BEnd ≤ 1
theorem spotOk_iff (secs : List Sec) (p : Int × Int) : spotOk secs p = true ↔ (0 ≤ p.1 ∧ p.1 < secs.length) ∧ (0 ≤ p.2 ∧ p.2 < nends (kindAt secs p.1)) := by
  simp only [spotOk, Bool.and_eq_true, decide_eq_true_eq]; omega
theorem mem_spots {js : List Jt} {p : Int × Int} : p ∈ allSpots js ↔ ∃ j ∈ js, p = (j.A, j.AEnd) ∨ p = (j.B, j.BEnd) := by
  simp [allSpots, Jt.spots]
theorem topoOk_iff (secs : List Sec) (js : List Jt) : topoOk secs js = true ↔
    (1 ≤ secs.length ∧ secs.length ≤ 16 ∧ js.length ≤ 24) ∧ (∀ (k : Nat) s, secs[k]? = some s → secOk secs js k s) ∧ ∀ j ∈ js, jtOk secs js j := by
  simp only [topoOk, Bool.and_eq_true, decide_eq_true_eq]
  refine and_congr_right fun _ => ?_
  have hnd : (allSpots js).Nodup ↔ ∀ j ∈ js, cnt js j.A j.AEnd ≤ 1 ∧ cnt js j.B j.BEnd ≤ 1 := by
    rw [List.nodup_iff_count]
    constructor
    · intro h j _
      rw [cnt_count, cnt_count]
      have h1 := h (j.A, j.AEnd)
      have h2 := h (j.B, j.BEnd)
      omega
    · intro h p
      by_cases hp : p ∈ allSpots js
      · obtain ⟨j, hj, rfl | rfl⟩ := mem_spots.1 hp
        · have := (h j hj).1; rw [cnt_count] at this; omega
        · have := (h j hj).2; rw [cnt_count] at this; omega
      · rw [List.count_eq_zero_of_not_mem hp]; omega
  have hsp : (∀ p ∈ allSpots js, spotOk secs p = true) ↔ ∀ j ∈ js, ((0 ≤ j.A ∧ j.A < secs.length) ∧ (0 ≤ j.AEnd ∧ j.AEnd < nends (kindAt secs j.A))) ∧ ((0 ≤ j.B ∧ j.B < secs.length) ∧ (0 ≤ j.BEnd ∧ j.BEnd < nends (kindAt secs j.B))) := by
    constructor
    · intro h j hj
      exact ⟨(spotOk_iff _ _).1 (h (j.A, j.AEnd) (mem_spots.2 ⟨j, hj, .inl rfl⟩)), (spotOk_iff _ _).1 (h (j.B, j.BEnd) (mem_spots.2 ⟨j, hj, .inr rfl⟩))⟩
    · intro h p hp
      obtain ⟨j, hj, rfl | rfl⟩ := mem_spots.1 hp
      · exact (spotOk_iff _ _).2 (h j hj).1
      · exact (spotOk_iff _ _).2 (h j hj).2
  have hcz : ∀ k : Nat, cnt js k 1 ≤ 0 ↔ ((k : Int), (1 : Int)) ∉ (allSpots js).reverse ++ [] := fun k => by
    rw [cnt_count, List.append_nil, List.mem_reverse, ← List.count_eq_zero]; omega
  constructor
  · intro h
    cases hj : jrun secs js [] with
    | none => rw [hj] at h; cases h
    | some tk =>
      rw [hj] at h
      obtain ⟨h1, h2, _, h4, rfl⟩ := (jrun_iff secs js [] tk).1 hj
      have h5 := (srun_iff _ secs 0 []).1 h
      refine ⟨fun k s hk => ?_, fun j hj => ?_⟩
      · obtain ⟨a, b, c, d⟩ := h5 k s hk
        refine ⟨a, b, c, fun hl => ?_⟩
        obtain ⟨d1, d2, _, d4⟩ := d hl
        exact ⟨d1, (hcz k).2 (by simpa using d2), d4⟩
      · obtain ⟨⟨a1, a2⟩, b1, b2⟩ := hsp.1 h1 j hj
        exact ⟨a1, b1, h4 j hj, a2, b2, hnd.1 h2 j hj⟩
  · rintro ⟨h1, h2⟩
    have hj : jrun secs js [] = some ((allSpots js).reverse ++ []) := (jrun_iff secs js [] _).2 ⟨hsp.2 fun j hj => by obtain ⟨a, b, c, d, e, f⟩ := h2 j hj; exact ⟨⟨a, d⟩, b, e⟩, hnd.2 fun j hj => (h2 j hj).2.2.2.2.2, by simp, fun j hj => (h2 j hj).2.2.1, rfl⟩
    rw [hj]
    refine (srun_iff _ secs 0 []).2 fun k s hk => ?_
    obtain ⟨a, b, c, d⟩ := h1 k s hk
    refine ⟨a, b, c, fun hl => ?_⟩
    obtain ⟨d1, d2, d3⟩ := d hl
    exact ⟨d1, by simpa using (hcz k).1 d2, by simp, d3⟩
end Go.Fw
end
section
set_option linter.unusedVariables false
set_option linter.unusedSimpArgs false
namespace Go.Proofs.Yteflnjedfmmddaa
open Go.Fw Go.Proofs Go.RowKit
variable {σ : Store}
abbrev encP (p : Int × Int) : A := .agg [iD p.1, iD p.2]
theorem keys_spot : Keys Try.prog t_topo_spot encP := keys_int2 fun a b => by kernel_rfl
theorem keysI : Keys Try.prog t_int iA := ⟨fun x => by kernel_rfl, fun x y => by simp [eqA, eqCells, aCells, eqCell]⟩
theorem topo_Check_ok {d1 d2 : D} {secs : List Sec} {js : List Jt} (hs : ∀ s, At Try.prog s t_Section d1 (secs.map Sec.enc)) (hj : ∀ s, At Try.prog s t_Joint d2 (js.map Jt.enc)) :
    Pure Try.prog n_topo_Check [.one d1, .one d2] σ (.a (iA (if topoOk secs js = true then 0 else 6))) := by
  have hls := (hs σ).size
  have hlj := (hj σ).size
  rw [List.length_map] at hls hlj
  refine .of (W_topo_Check d1 d2 σ _ ?_) (flat_i _)
  intro R hR
  refine (hs σ).lenK ((topo_between_ok _ _ _).use ⟨_, rfl, bcnot (fun h => ?_) (fun h => (hj σ).lenK (bcd (fun h2 => ?_) (fun h2 => hR σ ?_)))⟩)
  · simp at h
    exact ⟨by rw [if_neg]; simp [topoOk]; omega, .refl _⟩
  · simp at h2
    exact ⟨by rw [if_neg]; simp [topoOk]; omega, .refl _⟩
  simp at h h2
  have hsize : decide (1 ≤ secs.length ∧ secs.length ≤ 16 ∧ js.length ≤ 24) = true := by simp; omega
  refine newObj_intro fun id σ1 hid _ he hs1 => (hj σ1).lenK ⟨fun n s => ∃ tk f, MapAt Try.prog t_topo_spot encP s id f ∧ (∀ z, f z = if z ∈ tk then some (iA 1) else none) ∧ Ext σ s ∧ Rng js (fun r => jrun secs r tk = jrun secs js []) n,
    fun n _ => js.length - n.toNat, ⟨[], _, .new hs1, fun z => by simp, he, .start rfl⟩, ?_⟩
  rintro n s ⟨tk, f, hm, hf, hes, hr⟩
  refine bcd (fun hlt => ?_) (fun hge => ?_)
  · obtain ⟨j, x, rfl, hx, hjl, hF, nx⟩ := hr.step (by simp) hlj hlt
    refine (hj s).load (map_get hx) c_Joint rfl ⟨x.A, x.AEnd, x.B, x.BEnd, rfl, ?_⟩
    refine newObj_intro fun id1 s1 hid1 _ he1 hs2 => ?_
    have hne : id ≠ id1 := fun e => by
      obtain ⟨c, es, h1, _⟩ := hm
      rw [e, hid1] at h1; cases h1
    have hbad : prun secs x.spots tk = none ∨ x.A = x.B → (if topoOk secs js = true then (0 : Int) else 6) = 6 := by
      intro hb
      have : jrun secs js [] = none := by
        rw [← hF, jrun]
        rcases hb with hb | hb
        · rw [hb]
        · cases prun secs x.spots tk with
          | none => rfl
          | some tk' => simp [hb]
      rw [if_neg]; simp [topoOk, this]
    have hloc : ∀ s', s' id1 = .live t_topo_spot [[iD x.A, iD x.AEnd], [iD x.B, iD x.BEnd]] → At Try.prog s' t_topo_spot (.osl id1 0 2) (x.spots.map fun p => [iD p.1, iD p.2]) := fun s' h => At.fresh h (by simp) rfl
    refine (hloc s1 hs2).lenK ⟨fun m s' => ∃ tk' f', MapAt Try.prog t_topo_spot encP s' id f' ∧ (∀ z, f' z = if z ∈ tk' then some (iA 1) else none) ∧ Ext σ s' ∧ s' id1 = .live t_topo_spot [[iD x.A, iD x.AEnd], [iD x.B, iD x.BEnd]] ∧
      Rng x.spots (fun q => prun secs q tk' = prun secs x.spots tk) m, fun m _ => x.spots.length - m.toNat, ⟨tk, f, hm.same (he1 id (fun e => hne (by
        obtain ⟨c, es, h1, _⟩ := hm
        rw [e] at h1; cases h1))), hf, hes.trans he1, hs2, .start rfl⟩, ?_⟩
    rintro m s' ⟨tk', f', hm', hf', hes', hs2', hr'⟩
    refine bcd (fun hlt' => ?_) (fun hge' => ?_)
    · obtain ⟨i, p, rfl, hp, hil, hG, nx'⟩ := hr'.step (by simp) (by simp [Jt.spots]) hlt'
      refine (hloc s' hs2').load (map_get hp) c_topo_spot rfl ⟨p.1, p.2, rfl, (hs s').lenK ?_⟩
      rw [prun] at hG
      have hw1 : w64 (((secs.map Sec.enc).length : Int) - 1) = (secs.length : Int) - 1 := by rw [List.length_map, w64_id (by omega) (by omega)]
      refine (topo_between_ok _ _ _).use ⟨_, rfl, ?_⟩
      rw [hw1]
      refine bcnot (fun h3 => ?_) (fun h3 => ?_)
      · exact ⟨by rw [hbad (.inl ?_)]; rw [← hG, if_neg]; simp only [spotOk, h3]; simp, hes'⟩
      · have h3' := of_decide_eq_true h3
        obtain ⟨y, hy⟩ := get_of_lt (l := secs) (j := p.1.toNat) (by omega)
        refine (hs s').load (map_get hy) c_Section (by omega) ⟨y.Kind, rfl, (topo_Ends_ok _).use ⟨_, rfl, (topo_between_ok _ _ _).use ⟨_, rfl, ?_⟩⟩⟩
        have hk : kindAt secs p.1 = y.Kind := by simp [kindAt, hy]
        have hn := nends_le y.Kind
        rw [w64_id (n := nends y.Kind - 1) (by omega) (by omega)]
        refine bcnot (fun h4 => ?_) (fun h4 => ?_)
        · exact ⟨by rw [hbad (.inl ?_)]; rw [← hG, if_neg]; simp only [spotOk, hk, h4]; simp, hes'⟩
        · have hok : spotOk secs p = true := by simp only [spotOk, hk, h3, h4]; rfl
          by_cases hin : p ∈ tk'
          · refine hm'.lookI keys_spot p (n := 1) (by rw [hf', if_pos hin]; rfl) (bcd (fun _ => ?_) (fun h => absurd (by decide) h))
            exact ⟨by rw [hbad (.inl ?_)]; rw [← hG, if_neg]; simp [hin], hes'⟩
          · refine hm'.lookI keys_spot p (n := 0) (by rw [hf', if_neg hin]; rfl) (bcd (fun h => absurd h (by decide)) (fun _ => ?_))
            refine hm'.lookI keys_spot p (n := 0) (by rw [hf', if_neg hin]; rfl) ?_
            rw [if_pos ⟨hok, hin⟩] at hG
            refine hm'.bump keys_spot p fun s3 f3 hm3 hf3 hf3' hs3 hs3' => ⟨rfl, ?_⟩
            have hn2 := nx' (fun q => prun secs q (p :: tk') = prun secs x.spots tk) hG
            refine ⟨⟨p :: tk', f3, hm3, fun z => ?_, fun i hi => ?_, ?_, hn2.1⟩, hn2.2⟩
            · by_cases hz : z = p
              · subst hz; rw [hf3']; simp; rfl
              · rw [hf3 z hz, hf']; simp [hz]
            · rw [hs3 i (fun e => ?_)]
              · exact hes' i hi
              · subst e; rw [hid] at hi; exact hi rfl
            · rw [hs3 _ (Ne.symm hne)]; exact hs2'
    · have hG := hr'.done (by simp) hge'
      rw [prun] at hG
      refine bce (fun h5 => ⟨by rw [hbad (.inr h5)], hes'⟩) (fun h5 => ?_)
      rw [jrun, ← hG] at hF
      simp only [if_neg h5] at hF
      have hn2 := nx (fun r => jrun secs r tk' = jrun secs js []) hF
      exact ⟨⟨tk', f', hm', hf', hes', hn2.1⟩, hn2.2⟩
  · have hF := hr.done (by simp) hge
    rw [jrun] at hF
    have htop : topoOk secs js = srun tk secs 0 [] := by simp only [topoOk, hsize, ← hF, Bool.true_and]
    rw [htop]
    clear htop hr hF hR
    refine newObj_intro fun id1 s1 hid1 _ he1 hs2 => ?_
    have hne : id ≠ id1 := fun e => by
      obtain ⟨c, es, h1, _⟩ := hm
      rw [e, hid1] at h1; cases h1
    refine (hs s1).lenK ⟨fun n s' => ∃ ls f2, MapAt Try.prog t_int iA s' id1 f2 ∧ (∀ z, z ∉ ls → f2 z = none) ∧ (∀ z, z ∈ ls → ∃ c : Int, 1 ≤ c ∧ c ≤ n ∧ f2 z = some (iA c)) ∧ MapAt Try.prog t_topo_spot encP s' id f ∧ Ext σ s' ∧
      Rng secs (fun r => srun tk r n ls = srun tk secs 0 []) n, fun n _ => secs.length - n.toNat, ⟨[], _, .new hs2, fun z _ => rfl, fun z hz => (by cases hz), hm.same (he1 id (fun e => by
        obtain ⟨c, es, h1, _⟩ := hm
        rw [e] at h1; cases h1)), hes.trans he1, .start rfl⟩, ?_⟩
    rintro n s' ⟨ls, f2, hm2, hf2, hf2', hm', hes', hr⟩
    refine bcd (fun hlt => ?_) (fun hge => ?_)
    · obtain ⟨j, x, rfl, hx, hjl, hF, nx⟩ := hr.step (by simp) hls hlt
      refine (hs s').load (map_get hx) c_Section rfl ⟨x.Kind, x.OC, x.Line, rfl, ?_⟩
      intro R1 hR1
      rw [srun] at hF
      have hbad : ∀ hc : (nends x.Kind = 0 ∨ ¬ (0 ≤ x.OC ∧ x.OC ≤ 3) ∨ ¬ (0 ≤ x.Line ∧ x.Line ≤ 3) ∨ x.Line ≠ 0 ∧ (x.Kind ≠ 0 ∨ ((j : Int), 1) ∈ tk ∨ x.Line ∈ ls)), (if srun tk secs 0 [] = true then (0 : Int) else 6) = 6 := by
        intro hc
        rw [if_pos hc] at hF
        rw [← hF]; rfl
      refine (topo_Ends_ok _).use ⟨_, rfl, bce (fun h1 => ⟨by rw [hbad (.inl h1)], hes'⟩) (fun h1 => (topo_between_ok _ _ _).use ⟨_, rfl, bcnot (fun h2 => ⟨by rw [hbad (.inr (.inl (of_decide_eq_false h2)))], hes'⟩) (fun h2 => (topo_between_ok _ _ _).use ⟨_, rfl, bcnot (fun h3 => ⟨by rw [hbad (.inr (.inr (.inl (of_decide_eq_false h3))))], hes'⟩) (fun h3 => ⟨rfl, hR1 s' ?_⟩)⟩)⟩)⟩
      have put : ∀ hc : ¬ (x.Line ≠ 0 ∧ (x.Kind ≠ 0 ∨ ((j : Int), 1) ∈ tk ∨ x.Line ∈ ls)), ∃ c : Int, (f2 x.Line).getD (iA 0) = iA c ∧ 0 ≤ c ∧ c ≤ j ∧ (x.Line ∉ ls → c = 0) ∧ ∀ (c' : Int), c' = c → MPut Try.prog t_int s' (.omap id1) (iA x.Line) (iA (w64 (c' + 1))) fun s6 =>
          (∃ ls f2, MapAt Try.prog t_int iA s6 id1 f2 ∧ (∀ z, z ∉ ls → f2 z = none) ∧ (∀ z, z ∈ ls → ∃ c : Int, 1 ≤ c ∧ c ≤ w64 ((j : Int) + 1) ∧ f2 z = some (iA c)) ∧ MapAt Try.prog t_topo_spot encP s6 id f ∧ Ext σ s6 ∧
            Rng secs (fun r => srun tk r (w64 ((j : Int) + 1)) ls = srun tk secs 0 []) (w64 ((j : Int) + 1))) ∧ secs.length - (w64 ((j : Int) + 1)).toNat < secs.length - (j : Int).toNat := by
        intro hc
        have hgo : ¬ (nends x.Kind = 0 ∨ ¬ (0 ≤ x.OC ∧ x.OC ≤ 3) ∨ ¬ (0 ≤ x.Line ∧ x.Line ≤ 3) ∨ x.Line ≠ 0 ∧ (x.Kind ≠ 0 ∨ ((j : Int), 1) ∈ tk ∨ x.Line ∈ ls)) := by
          rintro (h | h | h | h)
          · exact h1 h
          · exact h (of_decide_eq_true h2)
          · exact h (of_decide_eq_true h3)
          · exact hc h
        rw [if_neg hgo] at hF
        have hcount : ∃ c : Int, (f2 x.Line).getD (iA 0) = iA c ∧ 0 ≤ c ∧ c ≤ j ∧ (x.Line ∉ ls → c = 0) := by
          by_cases hin : x.Line ∈ ls
          · obtain ⟨c, c1, c2, c3⟩ := hf2' _ hin
            exact ⟨c, by rw [c3]; rfl, by omega, c2, fun h => absurd hin h⟩
          · exact ⟨0, by rw [hf2 _ hin]; rfl, by omega, by omega, fun _ => rfl⟩
        obtain ⟨c, k1, k2, k3, k4⟩ := hcount
        refine ⟨c, k1, k2, k3, k4, fun c' hc' => ?_⟩
        subst hc'
        refine hm2.put keysI x.Line fun s6 f6 g1 g2 g3 g4 g5 => ?_
        have hn2 := nx (fun r => srun tk r (w64 ((j : Int) + 1)) (x.Line :: ls) = srun tk secs 0 []) (by rw [w64_succ (by omega)]; simpa using hF)
        have hw : w64 ((j : Int) + 1) = (j : Int) + 1 := w64_id (by omega) (by omega)
        refine ⟨⟨x.Line :: ls, f6, g1, fun z hz => ?_, fun z hz => ?_, hm'.same (g4 _ hne), fun i hi => ?_, hn2.1⟩, hn2.2⟩
        · simp only [List.mem_cons, not_or] at hz
          rw [g2 z hz.1]; exact hf2 z hz.2
        · by_cases hzx : z = x.Line
          · subst hzx
            exact ⟨c' + 1, by omega, by omega, by rw [g3, w64_id (by omega) (by omega)]⟩
          · rw [g2 z hzx]
            obtain ⟨c2, q1, q2, q3⟩ := hf2' z ((List.mem_cons.1 hz).resolve_left hzx)
            exact ⟨c2, q1, by omega, q3⟩
        · rw [g4 i (fun e => ?_)]
          · exact hes' i hi
          · subst e
            have := hes _ hi
            rw [hid1] at this; exact hi this.symm
      refine bcn (fun h4 => bcn (fun h5 => ⟨by rw [hbad (.inr (.inr (.inr ⟨h4, .inl h5⟩)))], hes'⟩) (fun h5 => ?_)) (fun h4 => ?_)
      · by_cases hin : ((j : Int), (1 : Int)) ∈ tk
        · refine hm'.lookI keys_spot ((j : Int), (1 : Int)) (n := 1) (by rw [hf, if_pos hin]; rfl) (bcd (fun _ => ⟨by rw [hbad (.inr (.inr (.inr ⟨h4, .inr (.inl hin)⟩)))], hes'⟩) (fun h => absurd (by decide) h))
        · refine hm'.lookI keys_spot ((j : Int), (1 : Int)) (n := 0) (by rw [hf, if_neg hin]; rfl) (bcd (fun h => absurd h (by decide)) (fun _ => ?_))
          by_cases hin2 : x.Line ∈ ls
          · obtain ⟨c, c1, c2, c3⟩ := hf2' _ hin2
            exact hm2.lookI keysI x.Line (n := c) (by rw [c3]; rfl) (bcd (fun _ => ⟨by rw [hbad (.inr (.inr (.inr ⟨h4, .inr (.inr hin2)⟩)))], hes'⟩) (fun h => absurd (show c > 0 by omega) h))
          · obtain ⟨c, k1, k2, k3, k4, k5⟩ := put (by rintro ⟨_, h | h | h⟩; exact h h5; exact hin h; exact hin2 h)
            have := k4 hin2
            refine hm2.lookI keysI x.Line k1 (bcd (fun h => absurd h (by omega)) (fun _ => hm2.lookI keysI x.Line k1 (k5 c rfl)))
      · obtain ⟨c, k1, k2, k3, k4, k5⟩ := put (fun h => h.1 h4)
        exact hm2.lookI keysI x.Line k1 (k5 c rfl)
    · have hF := hr.done (by simp) hge
      rw [srun] at hF
      exact ⟨by rw [← hF]; rfl, hes'⟩
end Go.Proofs.Yteflnjedfmmddaa
end
section
namespace Go.Fw
structure Rt where
  Entry : Int
  Exit : Int
  Path : List St
  Flank : List Nd
  Overlap : List Int
  Shunt : Bool
structure Cf where
  Secs : List Sec
  Jts : List Jt
  Sigs : List Sg
  Xs : List Int
  Rts : List Rt
  Age : Int
  Brake : Int
  Hold : Int
  Budget : Int
/-- A function value that answers whether p holds. -/
def FnIs {α : Type} (P : Program) (σ : Store) (f : D) (arg : α → A) (l : List α) (p : α → Bool) : Prop :=
  ∃ f1 a b as0' bs, f = .fn f1 a b ∧ capAs a = some as0' ∧ capAs b = some bs ∧ ∀ x ∈ l, DCalls P f1 (as0' ++ [arg x] ++ bs) σ fun r s => r = .a (bA (p x)) ∧ s = σ
/-- The first place where p holds, counted from j on; -1: none. -/
def fidx {α : Type} (p : α → Bool) : List α → Nat → Int
  | [], _ => -1
  | x :: r, j => if p x = true then j else fidx p r (j + 1)
theorem fidx_any {α : Type} (p : α → Bool) (l : List α) : decide (fidx p l 0 ≥ 0) = l.any p := by
  have key : ∀ (l : List α) (j : Nat), decide (fidx p l j ≥ 0) = l.any p := by
    intro l
    induction l with
    | nil => intro j; simp [fidx]
    | cons x r ih =>
      intro j
      rw [fidx, List.any_cons]
      by_cases hp : p x = true
      · rw [if_pos hp, hp]; simp
      · rw [if_neg hp, ih]; simp [hp]
  exact key l 0
/-- An element, by a whole number. -/
def geti {α : Type} (l : List α) (i : Int) : Option α := if i < 0 then none else l[i.toNat]?
theorem geti_some {α : Type} {l : List α} {i : Int} {x : α} (h : geti l i = some x) : 0 ≤ i ∧ i < l.length ∧ l[i.toNat]? = some x := by
  unfold geti at h
  split at h
  · cases h
  · have := (List.getElem?_eq_some_iff.1 h).1
    exact ⟨by omega, by omega, h⟩
theorem geti_neg {α : Type} {l : List α} {i : Int} (h : i < 0) : geti l i = none := if_pos h
theorem geti_ge {α : Type} {l : List α} {i : Int} (h : (l.length : Int) ≤ i) : geti l i = none := by
  unfold geti; rw [if_neg (by omega), List.getElem?_eq_none_iff]; omega
def secRV : Option Sec → RV
  | none => .tup [.agg [iD 0, iD 0, iD 0], bA false]
  | some s => .tup [.agg s.enc, bA true]
def sgRV : Option Sg → RV
  | none => .tup [.agg [iD 0, iD 0], bA false]
  | some s => .tup [.agg s.enc, bA true]
def Cf.approach (c : Cf) (r : Rt) : Int := ((geti c.Sigs r.Entry).map Sg.Sec).getD (-1)
def Cf.Approach (c : Cf) (i : Int) : Int := ((geti c.Rts i).map c.approach).getD (-1)
def hasSec (path : List St) (s : Int) : Bool := path.any fun x => x.Sec == s
/-- A route's cells. -/
def RtAt (P : Program) (tS tN tI : TypeId) (σ : Store) (cs : List D) (r : Rt) : Prop :=
  ∃ d1 d2 d3, cs = [iD r.Entry, iD r.Exit, d1, d2, d3, .bool r.Shunt] ∧ At P σ tS d1 (r.Path.map St.enc) ∧ At P σ tN d2 (r.Flank.map Nd.enc) ∧ At P σ tI d3 (r.Overlap.map encI)
/-- A list of routes. -/
def RtsAt (P : Program) (tR tS tN tI : TypeId) (σ : Store) (d : D) (l : List Rt) : Prop :=
  ∃ rows, At P σ tR d rows ∧ rows.length = l.length ∧ ∀ (i : Nat) row r, rows[i]? = some row → l[i]? = some r → RtAt P tS tN tI σ row r
def flankStep (c : Cf) (approach : Int) (path : List St) (s : St) (out : List Nd) (e : Int) : List Nd :=
  if e = s.In ∨ e = s.Out then out else
  match nxt c.Jts s.Sec e with
  | none => out
  | some (q, f) => match geti c.Secs q with
    | none => out
    | some y => if y.Kind = 1 ∧ (1 ≤ f ∧ f ≤ 2) ∧ q ≠ approach ∧ hasSec path q = false ∧ (out.any fun n => n.Sec == q) = false then out ++ [⟨q, 3 - f⟩] else out
/-- Over a section's ends, from e on, so many. -/
def flankEnds (c : Cf) (approach : Int) (path : List St) (s : St) : Nat → Int → List Nd → List Nd
  | 0, _, out => out
  | n + 1, e, out => flankEnds c approach path s n (e + 1) (flankStep c approach path s out e)
def flankRun (c : Cf) (approach : Int) (path : List St) : List St → List Nd → List Nd
  | [], out => out
  | s :: r, out => flankRun c approach path r (match geti c.Secs s.Sec with
    | none => out
    | some x => flankEnds c approach path s (nends x.Kind).toNat 0 out)
def Cf.flank (c : Cf) (approach : Int) (path : List St) : List Nd := flankRun c approach path path []
theorem flankStep_len (c : Cf) (a : Int) (p : List St) (s : St) (out : List Nd) (e : Int) : out.length ≤ (flankStep c a p s out e).length ∧ (flankStep c a p s out e).length ≤ out.length + 1 := by
  unfold flankStep
  split
  · omega
  · split
    · omega
    · split
      · omega
      · split <;> simp
/-- A route's overlap; none: there is none. -/
def Cf.overlap (c : Cf) (r : Rt) : List Int :=
  if r.Shunt = true then [] else
  match geti c.Sigs r.Exit with
  | none => []
  | some x => match nxt c.Jts x.Sec x.End_ with
    | none => []
    | some (q, _) => match geti c.Secs q with
      | none => []
      | some y => if y.Line = 0 ∧ hasSec r.Path q = false ∧ q ≠ c.approach r then [q] else []
def sgrun (js : List Jt) : List Sg → List Sg → Bool
  | [], _ => true
  | x :: r, seen => if (nxt js x.Sec x.End_).isSome = true ∧ x ∉ seen then sgrun js r (x :: seen) else false
def xrun (secs : List Sec) : List Int → List Int → Bool
  | [], _ => true
  | x :: r, seen => match geti secs x with
    | none => false
    | some s => if s.Line = 0 ∧ x ∉ seen then xrun secs r (x :: seen) else false
def Cf.sigsOk (c : Cf) : Bool := sgrun c.Jts c.Sigs [] && decide (c.Sigs.length ≤ 12)
def Cf.xsOk (c : Cf) : Bool := xrun c.Secs c.Xs [] && decide (c.Xs.length ≤ 4)
end Go.Fw
end
section
set_option linter.unusedVariables false
set_option linter.unusedSimpArgs false
namespace Go.Proofs.Yteflnjedfmmddaa
open Go.Fw Go.Proofs Go.RowKit
variable {σ : Store}
theorem IndexFunc_Step_ok {d f : D} {l : List St} {p : St → Bool} (h : At Try.prog σ t_Step d (l.map St.enc)) (hf : FnIs Try.prog σ f (fun x : St => .agg x.enc) l p) :
    Pure Try.prog n_slices_IndexFunc_Step [.one d, .one f] σ (.a (iA (fidx p l 0))) := by
  have hl := h.size
  rw [List.length_map] at hl
  obtain ⟨f1, a, b, as0', bs, rfl, ha, hb, hf⟩ := hf
  refine W_slices_IndexFunc_Step d _ σ _ (h.lenK ⟨fun n s => s = σ ∧ Rng l (fun r => ∀ j : Nat, n = j → fidx p r j = fidx p l 0) n, fun n _ => l.length - n.toNat, ⟨rfl, .start fun j hj => by cases j with | zero => rfl | succ j => omega⟩, ?_⟩)
  rintro n τ ⟨rfl, hr⟩
  refine bcd (fun hlt => ?_) (fun hge => ?_)
  · obtain ⟨j, x, rfl, hx, hj, hF, nx⟩ := hr.step (by simp) hl hlt
    refine h.load (map_get hx) c_Step rfl ⟨x.Sec, x.In, x.Out, rfl, f1, a, b, as0', bs, rfl, ha, hb, ?_⟩
    have hF := hF j rfl
    rw [fidx] at hF
    refine (hf x (List.mem_of_getElem? hx)).mono ?_
    rintro r s ⟨rfl, rfl⟩
    refine ⟨p x, rfl, bc (fun hp => ?_) (fun hp => ?_)⟩
    · rw [if_pos hp] at hF; exact ⟨by rw [← hF], rfl⟩
    · refine andl rfl (nx _ fun j' hj' => ?_)
      rw [w64_succ (by omega)] at hj'
      have : j' = j + 1 := by omega
      subst this
      rw [if_neg (by rw [hp]; simp)] at hF
      exact hF
  · refine ⟨?_, rfl⟩
    obtain ⟨j, hj, hj2, hF⟩ := hr
    have hF := hF j hj
    rw [List.length_map] at hge
    rw [drop_end (by omega)] at hF
    rw [← hF]; rfl
theorem ContainsFunc_Step_ok {d f : D} {l : List St} {p : St → Bool} (h : At Try.prog σ t_Step d (l.map St.enc)) (hf : FnIs Try.prog σ f (fun x : St => .agg x.enc) l p) :
    Pure Try.prog n_slices_ContainsFunc_Step [.one d, .one f] σ (.a (bA (l.any p))) :=
  W_slices_ContainsFunc_Step d f σ _ ((IndexFunc_Step_ok h hf).use ⟨_, rfl, by rw [fidx_any]; exact ⟨rfl, rfl⟩⟩)
theorem IndexFunc_Need_ok {d f : D} {l : List Nd} {p : Nd → Bool} (h : At Try.prog σ t_Need d (l.map Nd.enc)) (hf : FnIs Try.prog σ f (fun x : Nd => .agg x.enc) l p) :
    Pure Try.prog n_slices_IndexFunc_Need [.one d, .one f] σ (.a (iA (fidx p l 0))) := by
  have hl := h.size
  rw [List.length_map] at hl
  obtain ⟨f1, a, b, as0', bs, rfl, ha, hb, hf⟩ := hf
  refine W_slices_IndexFunc_Need d _ σ _ (h.lenK ⟨fun n s => s = σ ∧ Rng l (fun r => ∀ j : Nat, n = j → fidx p r j = fidx p l 0) n, fun n _ => l.length - n.toNat, ⟨rfl, .start fun j hj => by cases j with | zero => rfl | succ j => omega⟩, ?_⟩)
  rintro n τ ⟨rfl, hr⟩
  refine bcd (fun hlt => ?_) (fun hge => ?_)
  · obtain ⟨j, x, rfl, hx, hj, hF, nx⟩ := hr.step (by simp) hl hlt
    refine h.load (map_get hx) c_Need rfl ⟨x.Sec, x.Pos, rfl, f1, a, b, as0', bs, rfl, ha, hb, ?_⟩
    have hF := hF j rfl
    rw [fidx] at hF
    refine (hf x (List.mem_of_getElem? hx)).mono ?_
    rintro r s ⟨rfl, rfl⟩
    refine ⟨p x, rfl, bc (fun hp => ?_) (fun hp => ?_)⟩
    · rw [if_pos hp] at hF; exact ⟨by rw [← hF], rfl⟩
    · refine andl rfl (nx _ fun j' hj' => ?_)
      rw [w64_succ (by omega)] at hj'
      have : j' = j + 1 := by omega
      subst this
      rw [if_neg (by rw [hp]; simp)] at hF
      exact hF
  · refine ⟨?_, rfl⟩
    obtain ⟨j, hj, hj2, hF⟩ := hr
    have hF := hF j hj
    rw [List.length_map] at hge
    rw [drop_end (by omega)] at hF
    rw [← hF]; rfl
theorem ContainsFunc_Need_ok {d f : D} {l : List Nd} {p : Nd → Bool} (h : At Try.prog σ t_Need d (l.map Nd.enc)) (hf : FnIs Try.prog σ f (fun x : Nd => .agg x.enc) l p) :
    Pure Try.prog n_slices_ContainsFunc_Need [.one d, .one f] σ (.a (bA (l.any p))) :=
  W_slices_ContainsFunc_Need d f σ _ ((IndexFunc_Need_ok h hf).use ⟨_, rfl, by rw [fidx_any]; exact ⟨rfl, rfl⟩⟩)
theorem Index_Signal_ok {d : D} {l : List Sg} (v : Sg) (h : At Try.prog σ t_Signal d (l.map Sg.enc)) : Pure Try.prog n_slices_Index_Signal [.one d, .agg v.enc] σ (.a (iA (fidx (fun x => decide (v = x)) l 0))) := by
  have hl := h.size
  rw [List.length_map] at hl
  refine W_slices_Index_Signal d v.Sec v.End_ σ _ (h.lenK ⟨fun n s => s = σ ∧ Rng l (fun r => ∀ j : Nat, n = j → fidx (fun x => decide (v = x)) r j = fidx (fun x => decide (v = x)) l 0) n, fun n _ => l.length - n.toNat, ⟨rfl, .start fun j hj => by cases j with | zero => rfl | succ j => omega⟩, ?_⟩)
  rintro n τ ⟨rfl, hr⟩
  refine bcd (fun hlt => ?_) (fun hge => ?_)
  · obtain ⟨j, x, rfl, hx, hj, hF, nx⟩ := hr.step (by simp) hl hlt
    refine h.load (map_get hx) c_Signal rfl ⟨x.Sec, x.End_, rfl, ?_⟩
    have hF := hF j rfl
    rw [fidx] at hF
    have hd : ((v.Sec == x.Sec) && (v.End_ == x.End_)) = decide (v = x) := by
      rw [Bool.eq_iff_iff]; cases v; cases x; simp
    rw [hd]
    refine bc (fun hp => ?_) (fun hp => ?_)
    · rw [if_pos hp] at hF; exact ⟨by rw [← hF], rfl⟩
    · refine andl rfl (nx _ fun j' hj' => ?_)
      rw [w64_succ (by omega)] at hj'
      have : j' = j + 1 := by omega
      subst this
      rw [if_neg (by rw [hp]; simp)] at hF
      exact hF
  · refine ⟨?_, rfl⟩
    obtain ⟨j, hj, hj2, hF⟩ := hr
    have hF := hF j hj
    rw [List.length_map] at hge
    rw [drop_end (by omega)] at hF
    rw [← hF]; rfl
theorem Contains_Signal_ok {d : D} {l : List Sg} (v : Sg) (h : At Try.prog σ t_Signal d (l.map Sg.enc)) : Pure Try.prog n_slices_Contains_Signal [.one d, .agg v.enc] σ (.a (bA (l.any fun x => decide (v = x)))) :=
  W_slices_Contains_Signal d v.Sec v.End_ σ _ ((Index_Signal_ok v h).use ⟨_, rfl, by rw [fidx_any]; exact ⟨rfl, rfl⟩⟩)
theorem Equal_Need_ok {d1 d2 : D} {l1 l2 : List Nd} (h1 : At Try.prog σ t_Need d1 (l1.map Nd.enc)) (h2 : At Try.prog σ t_Need d2 (l2.map Nd.enc)) : Pure Try.prog n_slices_Equal_Need [.one d1, .one d2] σ (.a (bA (decide (l1 = l2)))) := by
  have hl1 := h1.size
  have hl2 := h2.size
  rw [List.length_map] at hl1 hl2
  refine W_slices_Equal_Need d1 d2 σ _ (h1.lenK (h2.lenK (bcn (fun hne => ?_) (fun heq => h1.lenK ?_))))
  · rw [List.length_map, List.length_map] at hne
    exact ⟨by rw [decide_eq_false (fun e => hne (by rw [e]))], rfl⟩
  rw [List.length_map, List.length_map] at heq
  refine ⟨fun n s => s = σ ∧ Rng l1 (fun r => ∀ j : Nat, n = j → (r = l2.drop j ↔ l1 = l2)) n, fun n _ => l1.length - n.toNat, ⟨rfl, .start fun j hj => by cases j with | zero => simp | succ j => omega⟩, ?_⟩
  rintro n τ ⟨rfl, hr⟩
  refine bcd (fun hlt => ?_) (fun hge => ?_)
  · obtain ⟨j, x, rfl, hx, hj, hF, nx⟩ := hr.step (by simp) hl1 hlt
    obtain ⟨y, hy⟩ := get_of_lt (l := l2) (j := j) (by omega)
    refine h1.load (map_get hx) c_Need rfl ⟨x.Sec, x.Pos, rfl, h2.load (map_get hy) c_Need rfl ⟨y.Sec, y.Pos, rfl, ?_⟩⟩
    have hF := hF j rfl
    rw [drop_get hy, List.cons.injEq] at hF
    have hd : ((x.Sec == y.Sec) && (x.Pos == y.Pos)) = decide (x = y) := by
      rw [Bool.eq_iff_iff]; cases x; cases y; simp
    rw [hd]
    refine bcnot (fun hp => ?_) (fun hp => ?_)
    · exact ⟨by rw [decide_eq_false (fun e => of_decide_eq_false hp (hF.2 e).1)], rfl⟩
    · refine andl rfl (nx _ fun j' hj' => ?_)
      rw [w64_succ (by omega)] at hj'
      have : j' = j + 1 := by omega
      subst this
      rw [← hF]; exact ⟨fun h => ⟨of_decide_eq_true hp, h⟩, fun h => h.2⟩
  · obtain ⟨j, hj, hj2, hF⟩ := hr
    rw [List.length_map] at hge
    have hF := hF j hj
    rw [drop_end (by omega), drop_end (by omega)] at hF
    exact ⟨by rw [decide_eq_true (hF.1 rfl)], rfl⟩
theorem Equal_int_ok {d1 d2 : D} {l1 l2 : List Int} (h1 : At Try.prog σ t_int d1 (l1.map encI)) (h2 : At Try.prog σ t_int d2 (l2.map encI)) : Pure Try.prog n_slices_Equal_int [.one d1, .one d2] σ (.a (bA (decide (l1 = l2)))) := by
  have hl1 := h1.size
  have hl2 := h2.size
  rw [List.length_map] at hl1 hl2
  refine W_slices_Equal_int d1 d2 σ _ (h1.lenK (h2.lenK (bcn (fun hne => ?_) (fun heq => h1.lenK ?_))))
  · rw [List.length_map, List.length_map] at hne
    exact ⟨by rw [decide_eq_false (fun e => hne (by rw [e]))], rfl⟩
  rw [List.length_map, List.length_map] at heq
  refine ⟨fun n s => s = σ ∧ Rng l1 (fun r => ∀ j : Nat, n = j → (r = l2.drop j ↔ l1 = l2)) n, fun n _ => l1.length - n.toNat, ⟨rfl, .start fun j hj => by cases j with | zero => simp | succ j => omega⟩, ?_⟩
  rintro n τ ⟨rfl, hr⟩
  refine bcd (fun hlt => ?_) (fun hge => ?_)
  · obtain ⟨j, x, rfl, hx, hj, hF, nx⟩ := hr.step (by simp) hl1 hlt
    obtain ⟨y, hy⟩ := get_of_lt (l := l2) (j := j) (by omega)
    refine h1.load (map_get hx) c_int rfl ⟨x, rfl, h2.load (map_get hy) c_int rfl ⟨y, rfl, ?_⟩⟩
    have hF := hF j rfl
    rw [drop_get hy, List.cons.injEq] at hF
    refine bcn (fun hp => ?_) (fun hp => ?_)
    · exact ⟨by rw [decide_eq_false (fun e => hp (hF.2 e).1)], rfl⟩
    · refine andl rfl (nx _ fun j' hj' => ?_)
      rw [w64_succ (by omega)] at hj'
      have : j' = j + 1 := by omega
      subst this
      rw [← hF]; exact ⟨fun h => ⟨hp, h⟩, fun h => h.2⟩
  · obtain ⟨j, hj, hj2, hF⟩ := hr
    rw [List.length_map] at hge
    have hF := hF j hj
    rw [drop_end (by omega), drop_end (by omega)] at hF
    exact ⟨by rw [decide_eq_true (hF.1 rfl)], rfl⟩
end Go.Proofs.Yteflnjedfmmddaa
end
