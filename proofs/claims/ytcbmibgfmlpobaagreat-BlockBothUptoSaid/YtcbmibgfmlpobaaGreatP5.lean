/-
  Proofs that the statement of this claim leans on: part 5.
-/
import Derived.Test.YtcbmibgfmlpobaaGreatP4
section
set_option linter.unusedVariables false
set_option linter.unusedSimpArgs false
namespace Go.Fw
def zRt : Rt := ⟨0, 0, [], [], [], false⟩
def Cf.rt (c : Cf) (i : Int) : Rt := (geti c.Rts i).getD zRt
def needOf (c : Cf) (s : St) : Option Nd :=
  match geti c.Secs s.Sec with
  | none => none
  | some y => match wpos (wayL y.Kind) s.In s.Out with
    | none => none
    | some p => if p = 0 then none else some ⟨s.Sec, p⟩
def Cf.needs (c : Cf) (r : Rt) : List Nd := r.Path.filterMap (needOf c) ++ r.Flank
def Cf.Needs (c : Cf) (i : Int) : List Nd := c.needs (c.rt i)
def crossL (path : List St) : List Int → Nat → List Int
  | [], _ => []
  | x :: r, j => if hasSec path x = true then (j : Int) :: crossL path r (j + 1) else crossL path r (j + 1)
def Cf.Cross (c : Cf) (i : Int) : List Int := crossL (c.rt i).Path c.Xs 0
theorem rt_some {c : Cf} {i : Int} {r : Rt} (h : geti c.Rts i = some r) : c.rt i = r := by unfold Cf.rt; rw [h]; rfl
theorem rt_none {c : Cf} {i : Int} (h : geti c.Rts i = none) : c.rt i = zRt := by unfold Cf.rt; rw [h]; rfl
theorem crossL_len (path : List St) : ∀ (l : List Int) (j : Nat), (crossL path l j).length ≤ l.length
  | [], _ => by simp [crossL]
  | x :: r, j => by
    rw [crossL]; have := crossL_len path r (j + 1)
    split <;> simp <;> omega
theorem crossL_mem (path : List St) : ∀ (l : List Int) (j : Nat) (n : Int), n ∈ crossL path l j → ∃ (i : Nat) (x : Int), n = ((j + i : Nat) : Int) ∧ l[i]? = some x ∧ hasSec path x = true
  | [], j, n, h => by simp [crossL] at h
  | x :: r, j, n, h => by
    have go : n ∈ crossL path r (j + 1) → ∃ (i : Nat) (y : Int), n = ((j + i : Nat) : Int) ∧ (x :: r)[i]? = some y ∧ hasSec path y = true := fun h => by
      obtain ⟨i, y, h1, h2, h3⟩ := crossL_mem path r (j + 1) n h
      exact ⟨i + 1, y, by omega, by simpa using h2, h3⟩
    rw [crossL] at h
    split at h
    · rename_i hx
      rcases List.mem_cons.1 h with rfl | h
      · exact ⟨0, x, by simp, rfl, hx⟩
      · exact go h
    · exact go h
theorem needs_len (c : Cf) (r : Rt) : (c.needs r).length ≤ r.Path.length + r.Flank.length := by
  unfold Cf.needs
  rw [List.length_append]
  have := List.length_filterMap_le (needOf c) r.Path
  omega
theorem needs_sec {c : Cf} {r : Rt} (h : RtOk c r) {n : Nd} (hn : n ∈ c.needs r) : (∃ y, geti c.Secs n.Sec = some y) ∧ 1 ≤ n.Pos ∧ n.Pos ≤ 2 := by
  unfold Cf.needs at hn
  rcases List.mem_append.1 hn with hn | hn
  · obtain ⟨s, hs, e⟩ := List.mem_filterMap.1 hn
    obtain ⟨⟨y, hy, _⟩⟩ := (h.step s hs).1
    unfold needOf at e
    rw [hy] at e
    simp only at e
    cases hp : wpos (wayL y.Kind) s.In s.Out with
    | none => rw [hp] at e; cases e
    | some p =>
      rw [hp] at e
      simp only at e
      split at e
      · cases e
      · rename_i hp0
        injection e with e; subst e
        refine ⟨⟨y, hy⟩, ?_⟩
        have key : ∀ (l : List (Int × Int × Int)), (∀ w ∈ l, w.2.2 = 0 ∨ w.2.2 = 1 ∨ w.2.2 = 2) → ∀ p, wpos l s.In s.Out = some p → p = 0 ∨ p = 1 ∨ p = 2 := by
          intro l
          induction l with
          | nil => intro _ p h; cases h
          | cons w r ih =>
            intro hw p h
            rw [wpos] at h
            split at h
            · injection h with h; rw [← h]; exact hw w (by simp)
            · exact ih (fun w hw' => hw w (by simp [hw'])) p h
        have hw : ∀ w ∈ wayL y.Kind, w.2.2 = 0 ∨ w.2.2 = 1 ∨ w.2.2 = 2 := by
          unfold wayL
          split
          · simp
          split
          · simp
          split
          · simp
          · simp
        have := key _ hw p hp
        simp only
        omega
  · have := h.fl.1 n hn
    obtain ⟨y, hy, _⟩ := this.sec
    exact ⟨⟨y, hy⟩, this.pos⟩
end Go.Fw
end
section
set_option linter.unusedVariables false
set_option linter.unusedSimpArgs false
namespace Go.Fw
open Go.Shelf Go.Sort Go.Proofs
variable {P : Program} {ρ : Ren} {σ : Store}
def intRow (z : Int) : List D := [.int .i64 z]
def sorted (l : List Int) : List Int := l.mergeSort fun x y => decide (x ≤ y)
theorem ints_over {k : Nat → Prop} {β : Bk} {W : World} (hS : SRel P k β W σ) {id i0 : Nat} {t : TypeId} {rows : List (List D)} {ys : List Int} {bi : BI} (ht : P.cellsOf t = 1) (hl : σ id = .live t rows) (hb : β id = some bi)
    (hfit : i0 + ys.length ≤ rows.length) (n : Nat) (os : Array Obj) :
    SRel P k β (grow (putRow (Value.int .i64) (Sort.ahead W n) bi.blk (i0 * bi.es) ys.toArray) os) (σ.set id (.live t (rows.take i0 ++ ys.map intRow ++ rows.drop (i0 + ys.length)))) ∧
    Ghost k β σ W k β (σ.set id (.live t (rows.take i0 ++ ys.map intRow ++ rows.drop (i0 + ys.length)))) ∧
    Frm β σ W (grow (putRow (Value.int .i64) (Sort.ahead W n) bi.blk (i0 * bi.es) ys.toArray) os) := by
  obtain ⟨arr, g1, g2, g3, g4, g5, g6, g7⟩ := hS.obj id bi t rows hb hl
  have hes : bi.es = 1 := by rw [← g3, ht]
  have hsz2 : i0 + ys.length ≤ arr.size := by rw [hes] at g4; omega
  have hov := hS.over hb hl g1 (ns := ys.map intRow) (vx := ys.map (Value.int .i64)) i0 (by omega) (by omega) (by simp [hes])
    (by
      have e : ∀ l : List Int, ((l.map intRow).flatten) = l.map (D.int .i64) := by
        intro l; induction l with
        | nil => rfl
        | cons x r ih => simp only [List.map_cons, List.flatten_cons, ih]; rfl
      rw [e]
      refine ⟨by simp, fun i v d hv hd => ?_⟩
      rw [List.getElem?_map] at hv hd
      cases hx : ys[i]? with
      | none => rw [hx] at hv; cases hv
      | some x => rw [hx] at hv hd; cases hv; cases hd; exact .int _ _)
    (by
      intro i r hr
      rw [List.getElem?_map] at hr
      cases hx : ys[i]? with
      | none => rw [hx] at hr; cases hr
      | some x => rw [hx] at hr; cases hr; rw [hes]; rfl)
    (by simp only [hes, List.length_map]; omega)
  have hrl : (ys.map intRow).length = ys.length := by rw [List.length_map]
  rw [hrl] at hov
  have hG : Grow (W.setRow bi.blk (arr.toList.take (i0 * bi.es) ++ ys.map (Value.int .i64) ++ arr.toList.drop (i0 * bi.es + (ys.map (Value.int .i64)).length)).toArray)
      (grow (putRow (Value.int .i64) (Sort.ahead W n) bi.blk (i0 * bi.es) ys.toArray) os) := by
    refine ⟨rfl, rfl, rfl, by rw [setRow_size]; simp, fun b hb => ?_⟩
    rw [setRow_size] at hb
    rw [heap_grow_old _ _ (by simpa using hb)]
    by_cases he : b = bi.blk
    · subst he
      rw [setRow_heap _ _ _ _ _ _ g1]
      simp only [putRow, mapBlock, heap_ahead, Array.getElem?_modify, if_true, g1, Option.map_some, onCells]
      congr 2
      apply Array.ext_getElem?
      intro m
      simp only [putCells, Array.getElem?_mapIdx, List.getElem?_toArray, hes, Nat.mul_one, List.length_map, List.size_toArray]
      by_cases c1 : m < i0
      · rw [List.getElem?_append_left (by simp; omega), List.getElem?_append_left (by simp; omega), List.getElem?_take, if_pos c1, Array.getElem?_toList, Array.getElem?_eq_getElem (by omega), Option.map_some, if_neg (by omega)]
      · by_cases c2 : m < i0 + ys.length
        · rw [List.getElem?_append_left (by simp; omega), List.getElem?_append_right (by simp; omega), Array.getElem?_eq_getElem (by omega), Option.map_some, if_pos ⟨by omega, by omega⟩]
          have hl1 : (arr.toList.take i0).length = i0 := by simp; omega
          have hk : m - i0 < ys.length := by omega
          rw [hl1, List.getElem?_map, List.getElem?_eq_getElem hk]
          simp [hk]
        · rw [List.getElem?_append_right (by simp; omega), List.getElem?_drop, Array.getElem?_toList]
          have hl1 : i0 + ys.length + (m - (arr.toList.take i0 ++ ys.map (Value.int .i64)).length) = m := by simp; omega
          rw [hl1]
          cases arr[m]? with
          | none => rfl
          | some y => rw [Option.map_some, if_neg (by omega)]
    · rw [setRow_get _ _ _ _ he]
      simp only [putRow, mapBlock, heap_ahead, Array.getElem?_modify]
      rw [if_neg (fun e => he e.symm)]
  have hne : σ id ≠ .dead := by rw [hl]; intro e; cases e
  refine ⟨hov.grow hG, ⟨fun _ h => h, fun _ h => .inl h, fun _ _ h => h, fun _ _ h => .inl h, fun i hi => ?_⟩, ?_⟩
  · rw [Store.set_ne _ _ (by intro e; subst e; exact hne hi)]; exact hi
  · refine ⟨hG.os, hG.tape, hG.output, by have := hG.size; rwa [setRow_size] at this, fun b hb' hn => ?_⟩
    rw [hG.block b (by rw [setRow_size]; exact hb'), setRow_get _ _ _ _ (fun e => hn id bi hb hne e.symm)]
theorem ints_hold {k : Nat → Prop} {β : Bk} {W : World} (hS : SRel P k β W σ) {id i0 : Nat} {t : TypeId} {rows : List (List D)} {zs : List Int} {bi : BI} (ht : P.cellsOf t = 1) (hl : σ id = .live t rows) (hb : β id = some bi)
    (hrows : (rows.drop i0).take zs.length = zs.map intRow) : Holds (Value.int .i64) W bi.blk (i0 * bi.es) zs.toArray := by
  obtain ⟨arr, g1, g2, g3, g4, g5, g6, g7⟩ := hS.obj id bi t rows hb hl
  have hes : bi.es = 1 := by rw [← g3, ht]
  have hget : ∀ j, j < zs.length → arr[i0 + j]? = some (Value.int .i64 (zs.getD j 0)) := by
    intro j hj
    have h1 : ((rows.drop i0).take zs.length)[j]? = some (intRow (zs.getD j 0)) := by rw [hrows]; simp [hj]
    rw [List.getElem?_take_of_lt hj, List.getElem?_drop] at h1
    obtain ⟨u, hu, hVu⟩ := g7 _ _ 0 (.int .i64 (zs.getD j 0)) h1 rfl
    rw [hes, Nat.mul_one, Nat.add_zero] at hu
    rw [hu]; cases hVu; rfl
  intro j hj
  have hj : j < zs.length := by simpa using hj
  refine ⟨?_, by simp [World.frozen?, g1]⟩
  have := hget j hj
  simp only [World.cell?, g1, hes, Nat.mul_one, Option.isSome_none, Bool.false_eq_true, if_false]
  rw [this]
  simp [hj]
theorem one_arg {k : Nat → Prop} {β : Bk} {W : World} {x : A} {vs : Array Value} (hvs : vs.size = [x].length) (hargs : ∀ (i : Nat) v y, vs[i]? = some v → [x][i]? = some y → VA k β W v y) : ∃ v, vs = #[v] ∧ VA k β W v x := by
  have hvs : vs.size = 1 := hvs
  obtain ⟨l⟩ := vs
  match l, hvs with
  | [v], _ => exact ⟨v, rfl, hargs 0 v x rfl rfl⟩
theorem sort_DCalls (Ly : Lays.n189 P ρ) {id i0 : Nat} {t : TypeId} {rows : List (List D)} {zs : List Int} (ht : P.cellsOf t = 1) (hl : σ id = .live t rows)
    (hfit : i0 + zs.length ≤ rows.length) (hrows : (rows.drop i0).take zs.length = zs.map intRow) (h0 : 0 < zs.length) (hsz : zs.length < 4611686018427387904) :
    DCalls P (ρ.f 189) [.one (.osl id i0 zs.length)] σ fun r σ' => r = .tup [] ∧ σ' = σ.set id (.live t (rows.take i0 ++ (sorted zs).map intRow ++ rows.drop (i0 + zs.length))) := by
  refine ⟨by unfold callOk; rw [Ly.f189]; rfl, fun k β W vs hS hvs hargs => ?_⟩
  obtain ⟨v, rfl, hV⟩ := one_arg hvs hargs
  have hV : V k β W v (.osl id i0 zs.length) := hV
  cases hV with
  | osl _ _ _ cap a bi hb ha hc hs =>
    have ha := ha (by omega)
    subst ha
    refine (calls_of_every_depth fun D => Go.Proofs.AnyS.slices_Sort_int_in Ly D bi.blk (i0 * bi.es) cap zs W (ints_hold hS ht hl hb hrows) (hS.blt id bi hb) hsz).mono ?_
    rintro e W' ⟨rfl, n, os, rfl⟩
    have hlen : (sorted zs).length = zs.length := by simp [sorted]
    obtain ⟨h1, h2, h3⟩ := ints_over hS (i0 := i0) (ys := sorted zs) ht hl hb (by omega) n os
    rw [hlen] at h1 h2
    exact ⟨.tuple #[], .tup [], _, k, β, rfl, ⟨rfl, rfl⟩, ⟨#[], rfl, rfl, fun i u x hu => by simp at hu⟩, h1, h2, h3⟩
theorem compact_DCalls (Ly : Lays2.n20 P ρ) {id i0 : Nat} {t : TypeId} {rows : List (List D)} {zs : List Int} (ht : P.cellsOf t = 1) (hl : σ id = .live t rows)
    (hfit : i0 + zs.length ≤ rows.length) (hrows : (rows.drop i0).take zs.length = zs.map intRow) (h0 : 0 < zs.length) (hsz : zs.length < 4611686018427387904) :
    DCalls P (ρ.f 20) [.one (.osl id i0 zs.length)] σ fun r σ' => r = .a (.one (.osl id i0 (Lib.compact zs).length)) ∧
      σ' = σ.set id (.live t (rows.take i0 ++ (Lib.compact zs ++ List.replicate (zs.length - (Lib.compact zs).length) 0).map intRow ++ rows.drop (i0 + zs.length))) := by
  refine ⟨by unfold callOk; rw [Ly.f20]; rfl, fun k β W vs hS hvs hargs => ?_⟩
  obtain ⟨v, rfl, hV⟩ := one_arg hvs hargs
  have hV : V k β W v (.osl id i0 zs.length) := hV
  cases hV with
  | osl _ _ _ cap a bi hb ha hc hs =>
    have ha := ha (by omega)
    subst ha
    refine (Go.Proofs.Any.slices_Compact_int Ly bi.blk (i0 * bi.es) cap zs W (ints_hold hS ht hl hb hrows) (by omega) hc).mono ?_
    rintro e W' ⟨rfl, n, rfl⟩
    have hle : (Lib.compact zs).length ≤ zs.length := by
      unfold Lib.compact Lib.compactUpTo
      rw [List.length_map]
      exact Nat.le_trans (List.length_filter_le _ _) (by simp)
    have hlen : (Lib.compact zs ++ List.replicate (zs.length - (Lib.compact zs).length) 0).length = zs.length := by simp; omega
    obtain ⟨h1, h2, h3⟩ := ints_over hS (i0 := i0) (ys := Lib.compact zs ++ List.replicate (zs.length - (Lib.compact zs).length) 0) ht hl hb (by omega) n #[]
    rw [hlen] at h1 h2
    rw [grow_empty] at h1 h3
    exact ⟨_, .a (.one (.osl id i0 (Lib.compact zs).length)), _, k, β, rfl, ⟨rfl, rfl⟩, .osl id i0 _ cap _ bi hb (fun _ => rfl) (by omega) hs, h1, h2, h3⟩
theorem sorted_perm (l : List Int) : (sorted l).Perm l := List.mergeSort_perm _ _
theorem sorted_pair (l : List Int) : (sorted l).Pairwise (· ≤ ·) := by
  have := List.pairwise_mergeSort (le := fun x y : Int => decide (x ≤ y)) (by intro a b c; simp; omega) (by intro a b; simp; omega) l
  exact this.imp fun h => by simpa using h
theorem compact_mem {zs : List Int} {z : Int} : z ∈ Lib.compact zs ↔ z ∈ zs := by
  unfold Lib.compact Lib.compactUpTo
  rw [List.mem_map]
  constructor
  · rintro ⟨j, hj, rfl⟩
    have hj := List.mem_range.1 (List.mem_filter.1 hj).1
    simp [hj]
  · intro hz
    obtain ⟨j, hj, e⟩ := List.getElem_of_mem hz
    have key : ∀ j, (hj : j < zs.length) → zs[j] = z → ∃ a, a ∈ List.filter (Lib.keeps zs.toArray) (List.range zs.length) ∧ zs.toArray[a]! = z := by
      intro j
      induction j with
      | zero => exact fun hj e => ⟨0, List.mem_filter.2 ⟨List.mem_range.2 hj, by simp [Lib.keeps]⟩, by simp [hj, e]⟩
      | succ j ih =>
        intro hj e
        by_cases h : zs[j]'(by omega) = z
        · exact ih (by omega) h
        · refine ⟨j + 1, List.mem_filter.2 ⟨List.mem_range.2 hj, Lib.keeps_pos ?_⟩, by simp [hj, e]⟩
          simp only [Nat.add_sub_cancel]
          have : j < zs.length := by omega
          simp only [List.getElem!_toArray, hj, this, getElem!_pos, e]
          exact fun h' => h h'.symm
    exact key j hj e
theorem compact_strict {zs : List Int} (h : zs.Pairwise (· ≤ ·)) : (Lib.compact zs).Pairwise (· < ·) := by
  unfold Lib.compact Lib.compactUpTo
  rw [List.pairwise_map]
  have hr : (List.filter (Lib.keeps zs.toArray) (List.range zs.length)).Pairwise (· < ·) := List.Pairwise.filter _ List.pairwise_lt_range
  refine hr.imp_of_mem ?_
  intro i j hi hj hij
  obtain ⟨h1, _⟩ := List.mem_filter.1 hi
  obtain ⟨h2, h3⟩ := List.mem_filter.1 hj
  have h1 := List.mem_range.1 h1
  have h2 := List.mem_range.1 h2
  have hm : j - 1 < zs.length := by omega
  have hne : zs[j]'h2 ≠ zs[j - 1]'hm := by
    intro e
    have : Lib.keeps zs.toArray j = false := Lib.keeps_neg (by omega) (by simp only [List.getElem!_toArray, h2, hm, getElem!_pos, e])
    rw [h3] at this; cases this
  have hle1 : zs[j - 1]'hm ≤ zs[j]'h2 := List.pairwise_iff_getElem.1 h _ _ _ _ (by omega)
  have hle2 : zs[i]'h1 ≤ zs[j - 1]'hm := by
    by_cases e : i = j - 1
    · subst e; exact Int.le_refl _
    · exact List.pairwise_iff_getElem.1 h _ _ _ _ (by omega)
  simp only [List.getElem!_toArray, h1, h2, getElem!_pos]
  omega
end Go.Fw
end
section
set_option linter.unusedVariables false
set_option linter.unusedSimpArgs false
namespace Go.Fw
def cpt : List Int → List Int
  | [] => []
  | x :: r => match cpt r with
    | [] => [x]
    | y :: q => if x = y then y :: q else x :: y :: q
theorem mem_cpt : ∀ (l : List Int) (z : Int), z ∈ cpt l ↔ z ∈ l
  | [], z => by simp [cpt]
  | x :: r, z => by
    have ih := mem_cpt r z
    rw [cpt]
    split
    · rename_i h; rw [h] at ih; simp at ih; simp [ih]
    · rename_i y q h
      rw [h] at ih
      split
      · rename_i e; rw [ih, List.mem_cons]; exact ⟨.inr, fun hz => hz.elim (fun e' => by rw [← ih, e', e]; simp) id⟩
      · rw [List.mem_cons, ih, List.mem_cons]
theorem cpt_pair : ∀ {l : List Int}, l.Pairwise (· ≤ ·) → (cpt l).Pairwise (· < ·)
  | [], _ => by simp [cpt]
  | x :: r, h => by
    rw [List.pairwise_cons] at h
    have ih := cpt_pair h.2
    rw [cpt]
    split
    · simp
    · rename_i y q hq
      rw [hq] at ih
      split
      · exact ih
      · rename_i hne
        rw [List.pairwise_cons]
        refine ⟨fun z hz => ?_, ih⟩
        have h1 : y ∈ r := (mem_cpt r y).1 (by rw [hq]; simp)
        have h2 := h.1 y h1
        rcases List.mem_cons.1 hz with rfl | hz
        · omega
        · have := (List.pairwise_cons.1 ih).1 z hz; omega
theorem strict_ext : ∀ {a b : List Int}, a.Pairwise (· < ·) → b.Pairwise (· < ·) → (∀ z, z ∈ a ↔ z ∈ b) → a = b
  | [], [], _, _, _ => rfl
  | [], y :: b, _, _, h => absurd ((h y).2 (by simp)) (by simp)
  | x :: a, [], _, _, h => absurd ((h x).1 (by simp)) (by simp)
  | x :: a, y :: b, ha, hb, h => by
    rw [List.pairwise_cons] at ha hb
    have e : x = y := by
      have h1 := (h x).1 (by simp)
      have h2 := (h y).2 (by simp)
      rcases List.mem_cons.1 h1 with h1 | h1
      · exact h1
      · rcases List.mem_cons.1 h2 with h2 | h2
        · exact h2.symm
        · have := hb.1 x h1; have := ha.1 y h2; omega
    subst e
    congr 1
    refine strict_ext ha.2 hb.2 fun z => ⟨fun hz => ?_, fun hz => ?_⟩
    · rcases List.mem_cons.1 ((h z).1 (by simp [hz])) with e | hz'
      · subst e; have := ha.1 z hz; omega
      · exact hz'
    · rcases List.mem_cons.1 ((h z).2 (by simp [hz])) with e | hz'
      · subst e; have := hb.1 z hz; omega
      · exact hz'
theorem compact_cpt {l : List Int} (h : l.Pairwise (· ≤ ·)) : Lib.compact l = cpt l := strict_ext (compact_strict h) (cpt_pair h) fun z => by rw [compact_mem, mem_cpt]
def Cf.lockR (r : Rt) : List Int := cpt (sorted (r.Overlap ++ r.Path.map St.Sec ++ r.Flank.map Nd.Sec))
def Cf.lockL (c : Cf) (i : Int) : List Int := match geti c.Rts i with
  | some r => Cf.lockR r
  | none => []
theorem mem_lockR {r : Rt} {z : Int} : z ∈ Cf.lockR r ↔ z ∈ r.Overlap ∨ z ∈ r.Path.map St.Sec ∨ z ∈ r.Flank.map Nd.Sec := by
  rw [Cf.lockR, mem_cpt, (sorted_perm _).mem_iff]; simp [or_assoc]
theorem lockR_sec {c : Cf} {r : Rt} (h : RtOk c r) {z : Int} (hz : z ∈ Cf.lockR r) : ∃ y, geti c.Secs z = some y := by
  rcases mem_lockR.1 hz with hz | hz | hz
  · obtain ⟨y, hy, _⟩ := (h.ov hz).1; exact ⟨y, hy⟩
  · obtain ⟨s, hs, rfl⟩ := List.mem_map.1 hz
    obtain ⟨y, hy, _⟩ := (h.step s hs).1.sec; exact ⟨y, hy⟩
  · obtain ⟨n, hn, rfl⟩ := List.mem_map.1 hz
    obtain ⟨y, hy, _⟩ := (h.fl.1 n hn).sec; exact ⟨y, hy⟩
theorem cpt_len : ∀ l : List Int, (cpt l).length ≤ l.length
  | [] => Nat.le_refl _
  | x :: r => by
    have ih := cpt_len r
    rw [cpt]
    split
    · simp
    · rename_i y q h
      rw [h] at ih
      split
      · simp at ih ⊢; omega
      · simp at ih ⊢; omega
def cmdM (m : Mv) (now cmd : Int) : Mv := if m.Cmd ≠ cmd then ⟨cmd, now⟩ else m
def Co.inh (c : Cf) (k : Co) (r s : Int) : Bool :=
  let o := (geti k.Own s).getD 0 - 1
  decide (0 ≤ o ∧ o ≠ r) && (decide ((c.rt o).Exit = (c.rt r).Entry) && inL (c.rt o).Overlap s)
def Co.blocked (c : Cf) (k : Co) (r : Int) (l : List Int) : Bool := l.any fun s => decide ((geti k.Own s).getD 0 ≠ 0) && !k.inh c r s
def Co.may (c : Cf) (k : Co) (r : Int) (l : List Int) : Int :=
  if apprS c l k.Routes 0 = true then 23 else if k.blocked c r l = true then 22 else 0
def lineF (c : Cf) : List St → Int
  | [] => 0
  | s :: r => let n := ((geti c.Secs s.Sec).getD ⟨0, 0, 0⟩).Line; if n > 0 then n else lineF c r
def ptsC (now : Int) (l : List Nd) (w : List Mv) : List Mv := l.foldl (fun w n => w.set n.Sec.toNat (cmdM ((geti w n.Sec).getD ⟨0, 0⟩) now n.Pos)) w
def xsC (now : Int) (l : List Int) (w : List Mv) : List Mv := l.foldl (fun w i => w.set i.toNat (cmdM ((geti w i).getD ⟨0, 0⟩) now 1)) w
def askC (n : Int) (w : List Ls) : List Ls := if n > 0 then w.set n.toNat { (geti w n).getD zLs with Ask := ((geti w n).getD zLs).Ask + 1 } else w
def Co.lockC (c : Cf) (k : Co) (now r : Int) : Co :=
  { k with Own := (c.lockL r).foldl (fun w s => w.set s.toNat ((r + 1))) k.Own, Routes := k.Routes.set r.toNat ⟨1, 0, 0, 0⟩, Points := ptsC now (c.Needs r) k.Points, Xs := xsC now (c.Cross r) k.Xs,
           Lines := askC (lineF c (c.rt r).Path) k.Lines, Dirty := true }
def Co.reqE (c : Cf) (k : Co) (r : Int) : Int :=
  match geti k.Routes r with
  | none => 20
  | some x => if x.State ≠ 0 then 28 else if k.may c r (c.lockL r) ≠ 0 then k.may c r (c.lockL r)
    else if lineF c (c.rt r).Path > 0 ∧ ((geti k.Lines (lineF c (c.rt r).Path)).getD zLs).Ask ≥ 4294967295 then 5 else 0
def Co.gate (c : Cf) (k : Co) (now : Int) (e : Int) : Int := if k.fits c = false then 21 else if tm 0 now = false then 32 else e
def Co.done (k : Co) (e : Int) (y : Co) : Co × Int := (if e = 0 then y else k, e)
def Co.requestC (c : Cf) (k : Co) (now r : Int) : Co × Int := k.done (k.gate c now (k.reqE c r)) (k.lockC c now r)
end Go.Fw
end
section
set_option linter.unusedVariables false
set_option linter.unusedSimpArgs false
namespace Go.Fw
theorem zip_all {α β : Type} {f : α × β → Bool} : ∀ {a : List α} {b : List β}, (a.zip b).all f = true ↔ ∀ (i : Nat) x y, a[i]? = some x → b[i]? = some y → f (x, y) = true
  | [], b => by simp
  | x :: a, [] => by simp
  | x :: a, y :: b => by
    rw [List.zip_cons_cons, List.all_cons, Bool.and_eq_true, zip_all (a := a) (b := b)]
    constructor
    · rintro ⟨h1, h2⟩ i p q hp hq
      cases i with
      | zero => cases hp; cases hq; exact h1
      | succ i => exact h2 i p q (by simpa using hp) (by simpa using hq)
    · intro h
      exact ⟨h 0 x y rfl rfl, fun i p q hp hq => h (i + 1) p q (by simpa using hp) (by simpa using hq)⟩
structure FitIs (c : Cf) (k : Co) : Prop where
  chk : c.check = 0
  lOwn : k.Own.length = c.Secs.length
  lPts : k.Points.length = c.Secs.length
  lRes : k.Resets.length = c.Secs.length
  lRts : k.Routes.length = c.Rts.length
  lXs : k.Xs.length = c.Xs.length
  lLn : k.Lines.length = 4
  own : ∀ o ∈ k.Own, -2 ≤ o ∧ o ≤ c.Rts.length
  rts : ∀ (i : Nat) x r, k.Routes[i]? = some x → c.Rts[i]? = some r → Rs.fits (x, r) = true
  pts : ∀ m ∈ k.Points, Mv.fits m = true
  xs : ∀ m ∈ k.Xs, Mv.fits m = true
  lns : ∀ l ∈ k.Lines, Ls.fits l = true
  res : ∀ z ∈ k.Resets, tm 1 z = true
theorem fits_iff {c : Cf} {k : Co} : k.fits c = true ↔ FitIs c k := by
  simp only [Co.fits, Co.lens, Co.parts, Bool.and_eq_true, decide_eq_true_eq, zip_all, List.all_eq_true, List.mem_append]
  constructor
  · rintro ⟨h1, ⟨a1, a2, a3, a4, a5, a6⟩, b1, b2, b3, b4, b5⟩
    exact ⟨h1, a1, a2, a3, a4, a5, a6, b1, zip_all.1 (List.all_eq_true.2 b2), fun m h => b3 m (.inl h), fun m h => b3 m (.inr h), b4, b5⟩
  · intro h
    exact ⟨h.chk, ⟨h.lOwn, h.lPts, h.lRes, h.lRts, h.lXs, h.lLn⟩, h.own, List.all_eq_true.1 (zip_all.2 h.rts), fun m hm => hm.elim (h.pts m) (h.xs m), h.lns, h.res⟩
theorem geti_mem {α : Type} {l : List α} {i : Int} {x : α} (h : geti l i = some x) : x ∈ l := List.mem_of_getElem? (geti_some h).2.2
theorem geti_d {α : Type} {l : List α} {i : Int} {p : α → Prop} {z : α} (hz : p z) (h : ∀ x ∈ l, p x) : p ((geti l i).getD z) := by
  cases hg : geti l i with
  | none => exact hz
  | some x => exact h x (geti_mem hg)
theorem ptsC_len (now : Int) : ∀ (l : List Nd) (w : List Mv), (ptsC now l w).length = w.length
  | [], w => rfl
  | n :: l, w => by unfold ptsC; rw [List.foldl_cons]; exact (ptsC_len now l _).trans (by simp)
theorem xsC_len (now : Int) : ∀ (l : List Int) (w : List Mv), (xsC now l w).length = w.length
  | [], w => rfl
  | n :: l, w => by unfold xsC; rw [List.foldl_cons]; exact (xsC_len now l _).trans (by simp)
theorem ownC_len (o : Int) : ∀ (l w : List Int), (l.foldl (fun w s => w.set s.toNat o) w).length = w.length
  | [], w => rfl
  | s :: l, w => by rw [List.foldl_cons, ownC_len o l]; simp
theorem line_ok {c : Cf} (h : c.check = 0) (l : List St) : 0 ≤ lineF c l ∧ lineF c l ≤ 3 := by
  induction l with
  | nil => exact ⟨Int.le_refl _, by unfold lineF; omega⟩
  | cons s r ih =>
    rw [lineF]
    have hs : 0 ≤ ((geti c.Secs s.Sec).getD ⟨0, 0, 0⟩).Line ∧ ((geti c.Secs s.Sec).getD ⟨0, 0, 0⟩).Line ≤ 3 := by
      refine geti_d (p := fun y : Sec => 0 ≤ y.Line ∧ y.Line ≤ 3) (by decide) fun y hy => ?_
      obtain ⟨i, hi, e⟩ := List.getElem_of_mem hy
      exact topo_line (check_parts h).1 (i := i) (by rw [List.getElem?_eq_getElem hi, e])
    split
    · exact hs
    · exact ih
theorem rt_of {c : Cf} {k : Co} (hf : FitIs c k) {r : Int} {x : Rs} (hx : geti k.Routes r = some x) : ∃ y, geti c.Rts r = some y ∧ y ∈ c.Rts := by
  obtain ⟨h1, h2, h3⟩ := geti_some hx
  have := (List.getElem?_eq_some_iff.1 h3).1
  obtain ⟨y, hy⟩ := geti_ex (l := c.Rts) (i := r) (by omega) (by have := hf.lRts; omega)
  exact ⟨y, hy, geti_mem hy⟩
end Go.Fw
end
section
set_option linter.unusedVariables false
set_option linter.unusedSimpArgs false
namespace Go.Proofs.YtcbmibgfmlpobaaGreat
open Go.Fw Go.Proofs Go.RowKit
variable {σ : Store}
structure En where
  o : Int
  st : Int
  x : Ls
  b : Bool
def En.co (e : En) : Co := ⟨[e.o, 0], [⟨e.st, 0, 0, 0⟩], [⟨0, 0⟩, ⟨0, 0⟩], [], [zLs, e.x, zLs, zLs], [0, 0], e.b⟩
structure En.Good (e : En) : Prop where
  o : -2 ≤ e.o ∧ e.o ≤ 1
  st : e.st = 0 ∨ e.st = 1
  own : e.st = 1 → e.o = 1
  ask : 0 ≤ e.x.Ask ∧ e.x.Ask ≤ 4294967295
  done : 0 ≤ e.x.Done ∧ e.x.Done ≤ e.x.Ask
  grant : 0 ≤ e.x.Grant ∧ e.x.Grant ≤ 4294967295
  told : 0 ≤ e.x.Told ∧ e.x.Told ≤ e.x.Grant
  pask : 0 ≤ e.x.PAsk ∧ e.x.PAsk ≤ 4294967295
  pdone : 0 ≤ e.x.PDone ∧ e.x.PDone ≤ 4294967295
  pgrant : 0 ≤ e.x.PGrant ∧ e.x.PGrant ≤ 4294967295
  since : 0 ≤ e.x.Since ∧ e.x.Since ≤ 4294967296
theorem En.Good.ls {e : En} (h : e.Good) : e.x.fits = true :=
  ls_fits h.ask ⟨h.done.1, by have := h.done; have := h.ask; omega⟩ h.grant ⟨h.told.1, by have := h.told; have := h.grant; omega⟩ h.pask h.pdone h.pgrant h.since
theorem En.Good.fits {e : En} (h : e.Good) : e.co.fits endC = true := by
  have h1 : Ls.fits zLs = true := by decide
  have hx := h.ls
  have h2 : e.co.lens endC = true := by unfold Co.lens En.co endC; simp
  have h3 : e.co.parts endC = true := by
    unfold Co.parts
    have e1 : (e.co.Routes.zip endC.Rts).all Rs.fits = true := by
      show (([⟨e.st, 0, 0, 0⟩] : List Rs).zip endC.Rts).all Rs.fits = true
      rcases h.st with g | g <;> rw [g] <;> decide
    have e2 : (e.co.Points ++ e.co.Xs).all Mv.fits = true := by
      show (([⟨0, 0⟩, ⟨0, 0⟩] : List Mv) ++ []).all Mv.fits = true
      decide
    have e3 : e.co.Resets.all (tm 1) = true := by
      show ([0, 0] : List Int).all (tm 1) = true
      decide
    have e4 : e.co.Lines.all Ls.fits = true := by simp [En.co, h1, hx]
    have e5 : (e.co.Own.all fun o => decide (-2 ≤ o ∧ o ≤ endC.Rts.length)) = true := by
      simp only [En.co, List.all_cons, List.all_nil, Bool.and_true, Bool.and_eq_true, decide_eq_true_eq]
      exact ⟨⟨h.o.1, h.o.2⟩, by decide⟩
    rw [e1, e2, e3, e4, e5]; rfl
  rw [Co.fits, h2, h3, decide_eq_true endC_check]; rfl
/-! ### what an end does -/
def En.asked (e : En) : En := ⟨1, 1, { e.x with Ask := e.x.Ask + 1 }, true⟩
theorem en_request {e : En} (h : e.Good) {now : Int} (hn : 0 ≤ now ∧ now ≤ 4294967295) :
    (e.co.requestC endC now 0).2 ≠ 0 ∨ (e.co.requestC endC now 0 = (e.asked.co, 0) ∧ e.o = 0 ∧ e.x.Ask < 4294967295) := by
  by_cases hr : e.co.reqE endC 0 = 0
  · right
    have hg : e.co.gate endC now 0 = 0 := by
      unfold Co.gate
      rw [if_neg (by rw [h.fits]; decide), if_neg (by rw [show tm 0 now = true from by simp only [tm, decide_eq_true_eq]; omega]; decide)]
    have hl : endC.lockL 0 = [0] := by decide +kernel
    have hln : lineF endC (endC.rt 0).Path = 1 := by decide +kernel
    have hrt : geti e.co.Routes 0 = some ⟨e.st, 0, 0, 0⟩ := rfl
    have hli : geti e.co.Lines 1 = some e.x := rfl
    have hr' := hr
    unfold Co.reqE at hr'
    rw [hrt, hl, hln] at hr'
    simp only at hr'
    split at hr'
    · cases hr'
    split at hr'
    · rename_i h1 h2; exact absurd hr' h2
    split at hr'
    · cases hr'
    rename_i h1 h2 h3
    have h2 := Classical.not_not.1 h2
    rw [hli] at h3
    simp only [Option.getD_some] at h3
    have ho : e.o = 0 := by
      unfold Co.may at h2
      split at h2
      · cases h2
      split at h2
      · cases h2
      rename_i g1 g2
      refine Classical.byContradiction fun hc => g2 ?_
      unfold Co.blocked Co.inh
      have e1 : geti e.co.Own 0 = some e.o := rfl
      simp only [List.any_cons, List.any_nil, Bool.or_false, e1, Option.getD_some, Bool.and_eq_true, decide_eq_true_eq, Bool.not_eq_true', Bool.and_eq_false_iff, decide_eq_false_iff_not]
      refine ⟨hc, .inl fun g => ?_⟩
      have := h.o
      omega
    refine ⟨?_, ho, by omega⟩
    unfold Co.requestC Co.done
    rw [hr, hg, if_pos rfl]
    congr 1
    unfold Co.lockC askC
    rw [hl, hln]
    have hN : endC.Needs 0 = [] := by decide +kernel
    have hX : endC.Cross 0 = [] := by decide +kernel
    rw [hN, hX, if_pos (by decide), hli]
    rfl
  · left
    unfold Co.requestC Co.done
    simp only
    unfold Co.gate
    rw [if_neg (by rw [h.fits]; decide), if_neg (by rw [show tm 0 now = true from by simp only [tm, decide_eq_true_eq]; omega]; decide)]
    exact hr
theorem en_hear {e : En} (h : e.Good) {a d g : Int} (ha : 0 ≤ a ∧ a ≤ 4294967295) (hd : 0 ≤ d ∧ d ≤ 4294967295) (hg : 0 ≤ g ∧ g ≤ 4294967295) :
    e.co.hearC endC 1 a d g = (En.co ⟨e.o, e.st, { e.x with PAsk := a, PDone := d, PGrant := g }, e.b⟩, 0) := by
  rw [Co.hearC, if_neg (by rw [h.fits]; simp), if_neg (by rw [endC_lines.1]; decide), if_neg (by omega)]
  rfl
def En.step (e : En) (occ stamp now : Int) (m : Bool) : En :=
  let y : En :=
    if e.o = -2 then
      if e.x.PDone < e.x.Grant then ⟨e.o, e.st, { e.x with Since := 0 }, e.b⟩
      else if e.x.Since = 0 then ⟨e.o, e.st, { e.x with Since := w64 (now + 1) }, e.b⟩
      else if occ = 0 ∧ e.x.Since ≤ stamp then ⟨0, e.st, { e.x with Since := 0 }, true⟩
      else e
    else if e.o = 0 ∧ m = true then ⟨-2, e.st, { e.x with Grant := e.x.PAsk, Since := 0 }, true⟩
    else e
  if e.b = true then y else ⟨y.o, y.st, { y.x with Told := e.x.Grant }, y.b⟩
theorem en_step {e : En} (h : e.Good) (occ stamp : Int) {now : Int} (hn : 0 ≤ now ∧ now ≤ 4294967295) :
    ∃ m : Bool, (m = true → e.x.PAsk > e.x.Grant ∧ e.x.PAsk > e.x.PDone) ∧ e.co.stepC endC (seenV occ stamp) now = ((e.step occ stamp now m).co, 0) := by
  have hv : (seenV occ stamp).fits endC = true := decide_eq_true ⟨rfl, rfl, rfl, rfl⟩
  obtain ⟨e1, e2, e3⟩ := endC_lines
  have hs : e.co.stepC endC (seenV occ stamp) now = (lineStep endC (seenV occ stamp).Occ now e.b e.co 1 0, 0) := by
    rw [Co.stepC, if_neg (by rw [h.fits, hv]; simp), if_neg (by omega)]
    simp only [stepRun]
    rw [if_neg (by show ¬ 0 ≤ endC.lineSec (3 : Int); rw [e3]; decide), if_neg (by show ¬ 0 ≤ endC.lineSec (2 : Int); rw [e2]; decide), if_pos (by show 0 ≤ endC.lineSec (1 : Int); rw [e1]; decide)]
    have : endC.lineSec ((1 : Nat) : Int) = 0 := e1
    rw [this]; rfl
  refine ⟨mayOk endC e.co e.x 0, fun hm => ?_, ?_⟩
  · unfold mayOk at hm
    simp only [Bool.and_eq_true, decide_eq_true_eq] at hm
    have := hm.2.1
    split at this <;> omega
  rw [hs]
  congr 1
  unfold lineStep En.step backStep
  have e1 : e.co.Lines[1]? = some e.x := rfl
  have e2 : e.co.Own[0]? = some e.o := rfl
  have e3 : (seenV occ stamp).Occ[0]? = some ⟨occ, stamp, true⟩ := rfl
  simp only [e1, e2, e3, Option.getD_some, true_and]
  have e5 : mayOk endC e.co e.x ((0 : Nat) : Int) = mayOk endC e.co e.x 0 := rfl
  rw [e5]
  generalize mayOk endC e.co e.x 0 = m
  by_cases hb : e.b = true
  · rw [if_pos hb, if_pos hb]
    split
    · split
      · rfl
      split
      · rfl
      split
      · rfl
      · rfl
    split
    · rfl
    · rfl
  · rw [if_neg hb, if_neg hb]
    split
    · split
      · rfl
      split
      · rfl
      split
      · rfl
      · rfl
    split
    · rfl
    · rfl
/-! ### what both ends keep -/
abbrev Msg := Int × Int × Int
structure Rel (a b : En) (sa : List Msg) (hb : Int) : Prop where
  pask : b.x.PAsk ≤ a.x.Ask
  pdone : b.x.PDone ≤ a.x.Done
  pgrant : b.x.PGrant ≤ a.x.Grant
  grant : b.x.Grant ≤ a.x.Ask
  free : b.o = -2 ∨ b.x.Grant ≤ b.x.PDone
  sent : ∀ m ∈ sa, 0 ≤ m.1 ∧ m.1 ≤ a.x.Ask ∧ 0 ≤ m.2.1 ∧ m.2.1 ≤ a.x.Done ∧ 0 ≤ m.2.2 ∧ m.2.2 ≤ a.x.Grant
  order : sa.Pairwise fun m m' => m.2.1 ≤ m'.2.1
  heard : ∀ (j : Nat) m, hb < j → sa[j]? = some m → b.x.PDone ≤ m.2.1
theorem both_held {a b : En} {sa sb : List Msg} {ha hb : Int} (gb : b.Good) (h1 : Rel a b sa hb) (h2 : Rel b a sb ha) (g1 : a.x.Ask ≠ a.x.Done) (g2 : a.x.PGrant = a.x.Ask) (ga : a.Good) : b.o = -2 := by
  rcases h1.free with h | h
  · exact h
  · have := h2.pgrant
    have := h1.grant
    have := h1.pdone
    have := ga.done
    omega
theorem Rel.fresh : Rel ⟨0, 0, zLs, false⟩ ⟨0, 0, zLs, false⟩ [] (-1) := ⟨by decide, by decide, by decide, by decide, .inr (by decide), by simp, .nil, by simp⟩
theorem En.Good.fresh : En.Good ⟨0, 0, zLs, false⟩ := ⟨by decide, .inl rfl, fun h => absurd h (by decide), by decide, by decide, by decide, by decide, by decide, by decide, by decide, by decide⟩
/-! the one end asks, is done, is recorded -/
theorem ask_good {a : En} (h : a.Good) (ho : a.o = 0) (hl : a.x.Ask < 4294967295) : a.asked.Good := by
  obtain ⟨h1, h2, h3, h4, h5, h6, h7, h8, h9, h10, h11⟩ := h
  exact ⟨by show (-2 : Int) ≤ 1 ∧ (1 : Int) ≤ 1; decide, .inr rfl, fun _ => rfl, by show 0 ≤ a.x.Ask + 1 ∧ a.x.Ask + 1 ≤ 4294967295; omega, by show 0 ≤ a.x.Done ∧ a.x.Done ≤ a.x.Ask + 1; omega, h6, h7, h8, h9, h10, h11⟩
theorem ask_rel1 {a b : En} {sa : List Msg} {hb : Int} (h : Rel a b sa hb) : Rel a.asked b sa hb := by
  obtain ⟨h1, h2, h3, h4, h5, h6, h7, h8⟩ := h
  exact ⟨by show _ ≤ a.x.Ask + 1; omega, h2, h3, by show _ ≤ a.x.Ask + 1; omega, h5, fun m hm => by have := h6 m hm; show _ ∧ _ ≤ a.x.Ask + 1 ∧ _; refine ⟨this.1, by omega, this.2.2⟩, h7, h8⟩
theorem ask_rel2 {a b : En} {sb : List Msg} {ha : Int} (h : Rel b a sb ha) (ho : a.o = 0) : Rel b a.asked sb ha := by
  obtain ⟨h1, h2, h3, h4, h5, h6, h7, h8⟩ := h
  exact ⟨h1, h2, h3, h4, .inr (h5.elim (fun g => by omega) id), h6, h7, h8⟩
def En.over (e : En) : En := ⟨0, 0, { e.x with Done := e.x.Ask }, true⟩
theorem over_good {a : En} (h : a.Good) : a.over.Good := by
  obtain ⟨h1, h2, h3, h4, h5, h6, h7, h8, h9, h10, h11⟩ := h
  exact ⟨by show (-2 : Int) ≤ 0 ∧ (0 : Int) ≤ 1; decide, .inl rfl, fun h => absurd h (show ¬ (0 : Int) = 1 by decide), h4, ⟨h4.1, Int.le_refl _⟩, h6, h7, h8, h9, h10, h11⟩
theorem over_rel1 {a b : En} {sa : List Msg} {hb : Int} (ga : a.Good) (h : Rel a b sa hb) : Rel a.over b sa hb := by
  obtain ⟨h1, h2, h3, h4, h5, h6, h7, h8⟩ := h
  have := ga.done
  exact ⟨h1, by show _ ≤ a.x.Ask; omega, h3, h4, h5, fun m hm => by have := h6 m hm; exact ⟨this.1, this.2.1, this.2.2.1, by show _ ≤ a.x.Ask; omega, this.2.2.2.2⟩, h7, h8⟩
theorem over_rel2 {a b : En} {sb : List Msg} {ha : Int} (ho : a.o = 1) (h : Rel b a sb ha) : Rel b a.over sb ha := by
  obtain ⟨h1, h2, h3, h4, h5, h6, h7, h8⟩ := h
  exact ⟨h1, h2, h3, h4, .inr (h5.elim (fun g => by omega) id), h6, h7, h8⟩
def En.noted (e : En) (b : Bool) : En := ⟨e.o, e.st, e.x, b⟩
theorem rec_good {a : En} (h : a.Good) (c : Bool) : (a.noted c).Good := ⟨h.o, h.st, h.own, h.ask, h.done, h.grant, h.told, h.pask, h.pdone, h.pgrant, h.since⟩
theorem rec_rel1 {a b : En} {sa : List Msg} {hb : Int} (h : Rel a b sa hb) (c : Bool) : Rel (a.noted c) b sa hb := ⟨h.pask, h.pdone, h.pgrant, h.grant, h.free, h.sent, h.order, h.heard⟩
theorem rec_rel2 {a b : En} {sb : List Msg} {ha : Int} (h : Rel b a sb ha) (c : Bool) : Rel b (a.noted c) sb ha := ⟨h.pask, h.pdone, h.pgrant, h.grant, h.free, h.sent, h.order, h.heard⟩
/-! it tells -/
theorem tell_rel {a b : En} {sa : List Msg} {hb : Int} (ga : a.Good) (h : Rel a b sa hb) : Rel a b (sa ++ [(a.x.Ask, a.x.Done, a.x.Told)]) hb := by
  obtain ⟨h1, h2, h3, h4, h5, h6, h7, h8⟩ := h
  have g1 := ga.ask
  have g2 := ga.done
  have g3 := ga.told
  refine ⟨h1, h2, h3, h4, h5, fun m hm => ?_, ?_, fun j m hj hm => ?_⟩
  · simp only [List.mem_append, List.mem_singleton] at hm
    rcases hm with hm | rfl
    · exact h6 m hm
    · exact ⟨g1.1, Int.le_refl _, g2.1, Int.le_refl _, g3.1, g3.2⟩
  · refine List.pairwise_append.2 ⟨h7, List.pairwise_singleton _ _, fun m hm m' hm' => ?_⟩
    simp only [List.mem_singleton] at hm'
    subst hm'
    exact (h6 m hm).2.2.2.1
  · have hm' := List.mem_of_getElem? hm
    simp only [List.mem_append, List.mem_singleton] at hm'
    by_cases hl : j < sa.length
    · rw [List.getElem?_append_left hl] at hm
      exact h8 j m hj hm
    · rw [List.getElem?_append_right (by omega)] at hm
      have : m = (a.x.Ask, a.x.Done, a.x.Told) := by
        have := List.mem_of_getElem? hm
        simpa using this
      rw [this]; exact h2
/-! it hears -/
def En.hears (e : En) (m : Msg) : En := ⟨e.o, e.st, { e.x with PAsk := m.1, PDone := m.2.1, PGrant := m.2.2 }, e.b⟩
theorem hear_good {a b : En} {sa : List Msg} {hb : Int} (ga : a.Good) (gb : b.Good) (h : Rel a b sa hb) {m : Msg} (hm : m ∈ sa) : (b.hears m).Good := by
  have := h.sent m hm
  have g1 := ga.ask
  have g2 := ga.done
  have g3 := ga.grant
  exact ⟨gb.o, gb.st, gb.own, gb.ask, gb.done, gb.grant, gb.told, by show 0 ≤ m.1 ∧ m.1 ≤ 4294967295; omega, by show 0 ≤ m.2.1 ∧ m.2.1 ≤ 4294967295; omega, by show 0 ≤ m.2.2 ∧ m.2.2 ≤ 4294967295; omega, gb.since⟩
theorem hear_rel1 {a b : En} {sa : List Msg} {hb : Int} (h : Rel a b sa hb) {j : Nat} {m : Msg} (hj : hb < j) (hm : sa[j]? = some m) : Rel a (b.hears m) sa j := by
  have hs := h.sent m (List.mem_of_getElem? hm)
  have hp := h.heard j m hj hm
  refine ⟨hs.2.1, hs.2.2.2.1, hs.2.2.2.2.2, h.grant, h.free.elim .inl fun g => .inr (by show b.x.Grant ≤ m.2.1; omega), h.sent, h.order, fun i m' hi hm' => ?_⟩
  obtain ⟨hl, e1⟩ := List.getElem?_eq_some_iff.1 hm
  obtain ⟨hl', e2⟩ := List.getElem?_eq_some_iff.1 hm'
  have := List.pairwise_iff_getElem.1 h.order j i hl hl' (by omega)
  rw [e1, e2] at this
  exact this
theorem hear_rel2 {a b : En} {sb : List Msg} {ha : Int} (h : Rel b a sb ha) (m : Msg) : Rel (b.hears m) a sb ha := ⟨h.pask, h.pdone, h.pgrant, h.grant, h.free, h.sent, h.order, h.heard⟩
/-! a cycle -/
theorem step_keeps {a b : En} {sa sb : List Msg} {ha hb : Int} (gb : b.Good) (h1 : Rel a b sa hb) (h2 : Rel b a sb ha) {occ stamp now : Int} (hn : 0 ≤ now ∧ now ≤ 4294967295) {m : Bool} (hm : m = true → b.x.PAsk > b.x.Grant ∧ b.x.PAsk > b.x.PDone) :
    (b.step occ stamp now m).Good ∧ Rel a (b.step occ stamp now m) sa hb ∧ Rel (b.step occ stamp now m) a sb ha := by
  have hw : w64 (now + 1) = now + 1 := w64_id (by omega) (by omega)
  have p1 := h1.pask
  obtain ⟨g1, g2, g3, g4, g5, g6, g7, g8, g9, g10, g11⟩ := gb
  -- what comes of the first part
  have told : ∀ y : En, y.Good → Rel a y sa hb → Rel y a sb ha → b.x.Grant ≤ y.x.Grant → ((if b.b = true then y else ⟨y.o, y.st, { y.x with Told := b.x.Grant }, y.b⟩ : En)).Good ∧ Rel a (if b.b = true then y else ⟨y.o, y.st, { y.x with Told := b.x.Grant }, y.b⟩) sa hb ∧
      Rel (if b.b = true then y else ⟨y.o, y.st, { y.x with Told := b.x.Grant }, y.b⟩) a sb ha := fun y gy r1 r2 hg => by
    split
    · exact ⟨gy, r1, r2⟩
    · exact ⟨⟨gy.o, gy.st, gy.own, gy.ask, gy.done, gy.grant, ⟨g6.1, hg⟩, gy.pask, gy.pdone, gy.pgrant, gy.since⟩, ⟨r1.pask, r1.pdone, r1.pgrant, r1.grant, r1.free, r1.sent, r1.order, r1.heard⟩, ⟨r2.pask, r2.pdone, r2.pgrant, r2.grant, r2.free, r2.sent, r2.order, r2.heard⟩⟩
  unfold En.step
  refine told _ ?_ ?_ ?_ ?_
  · split
    · split
      · exact ⟨g1, g2, g3, g4, g5, g6, g7, g8, g9, g10, by show (0 : Int) ≤ 0 ∧ (0 : Int) ≤ 4294967296; decide⟩
      split
      · exact ⟨g1, g2, g3, g4, g5, g6, g7, g8, g9, g10, by show 0 ≤ w64 (now + 1) ∧ w64 (now + 1) ≤ 4294967296; omega⟩
      split
      · refine ⟨by show (-2 : Int) ≤ 0 ∧ (0 : Int) ≤ 1; decide, g2, fun h => ?_, g4, g5, g6, g7, g8, g9, g10, by show (0 : Int) ≤ 0 ∧ (0 : Int) ≤ 4294967296; decide⟩
        have := g3 h; omega
      · exact ⟨g1, g2, g3, g4, g5, g6, g7, g8, g9, g10, g11⟩
    split
    · rename_i h3 h4
      have := hm h4.2
      refine ⟨by show (-2 : Int) ≤ -2 ∧ (-2 : Int) ≤ 1; decide, g2, fun h => ?_, g4, g5, g8, ⟨g7.1, by show b.x.Told ≤ b.x.PAsk; omega⟩, g8, g9, g10, by show (0 : Int) ≤ 0 ∧ (0 : Int) ≤ 4294967296; decide⟩
      have := g3 h; omega
    · exact ⟨g1, g2, g3, g4, g5, g6, g7, g8, g9, g10, g11⟩
  · obtain ⟨r1, r2, r3, r4, r5, r6, r7, r8⟩ := h1
    split
    · split
      · exact ⟨r1, r2, r3, r4, r5, r6, r7, r8⟩
      split
      · exact ⟨r1, r2, r3, r4, r5, r6, r7, r8⟩
      split
      · exact ⟨r1, r2, r3, r4, .inr (by show b.x.Grant ≤ b.x.PDone; omega), r6, r7, r8⟩
      · exact ⟨r1, r2, r3, r4, r5, r6, r7, r8⟩
    split
    · exact ⟨r1, r2, r3, r1, .inl rfl, r6, r7, r8⟩
    · exact ⟨r1, r2, r3, r4, r5, r6, r7, r8⟩
  · obtain ⟨r1, r2, r3, r4, r5, r6, r7, r8⟩ := h2
    split
    · split
      · exact ⟨r1, r2, r3, r4, r5, r6, r7, r8⟩
      split
      · exact ⟨r1, r2, r3, r4, r5, r6, r7, r8⟩
      split
      · exact ⟨r1, r2, r3, r4, r5, r6, r7, r8⟩
      · exact ⟨r1, r2, r3, r4, r5, r6, r7, r8⟩
    split
    · rename_i h3 h4
      have := hm h4.2
      exact ⟨r1, r2, by show _ ≤ b.x.PAsk; omega, r4, r5, fun m' hm' => by have := r6 m' hm'; exact ⟨this.1, this.2.1, this.2.2.1, this.2.2.2.1, this.2.2.2.2.1, by show _ ≤ b.x.PAsk; omega⟩, r7, r8⟩
    · exact ⟨r1, r2, r3, r4, r5, r6, r7, r8⟩
  · split
    · split
      · exact Int.le_refl _
      split
      · exact Int.le_refl _
      split
      · exact Int.le_refl _
      · exact Int.le_refl _
    split
    · rename_i h3 h4
      have := hm h4.2
      show b.x.Grant ≤ b.x.PAsk
      omega
    · exact Int.le_refl _
end Go.Proofs.YtcbmibgfmlpobaaGreat
end
section
set_option linter.unusedVariables false
set_option linter.unusedSimpArgs false
namespace Go.Fw
variable {P : Program} {σ σ' : Store}
theorem Apart.nil (d : D) : Apart .nils d := fun i h => by cases h
end Go.Fw
namespace Go.Fw
variable {P : Program} {σ σ' : Store}
theorem own_id' {σ0 s : Store} {el : TypeId} {d : D} {rs : List (List D)} {i : Nat} (h : Own P σ0 s el d rs) (hi : idOf d = some i) : σ0 i = .free := by
  cases d with
  | osl id a n =>
    have : id = i := by simpa [idOf] using hi
    subst this
    exact h.new _ _ _ rfl
  | _ => simp [idOf] at hi
end Go.Fw
namespace Go.Fw
variable {P : Program} {σ σ' : Store}
theorem Own.put {σ0 : Store} {el : TypeId} {d : D} {rs : List (List D)} {j off n : Nat} {row xs : List D} {K : Store → Prop} (h : Own P σ0 σ el d rs) (hr : rs[j]? = some row) (hn : n = j) (ho : off + xs.length ≤ row.length)
    (hK : ∀ s', Own P σ0 s' el d (rs.set j (patch row off xs)) → (∀ i, idOf d ≠ some i → s' i = σ i) → K s') : storeEl xs σ d n off K :=
  h.at_.store h.nsl hr hn ho fun s' id hid hat hs hne => hK s' ⟨hat, fun i hi => by
    have hne' : i ≠ id := fun e => hi (by rw [e]; exact own_id' h hid)
    rw [hs i hne']; exact h.ext i hi, h.new, h.nsl, h.nz⟩ fun i hi => hs i fun e => hi (by rw [e]; exact hid)
end Go.Fw
namespace Go.Fw
variable {P : Program} {σ σ' : Store}
theorem Own.copy {σ0 : Store} {el : TypeId} {d x : D} {rd rs : List (List D)} {K : Int → Store → Prop} (h : Own P σ0 σ el d rd) (hx : At P σ el x rs)
    (hK : ∀ s', Own P σ0 s' el d (rs.take (min rs.length rd.length) ++ rd.drop (min rs.length rd.length)) → (∀ i, idOf d ≠ some i → s' i = σ i) → K (min (rs.length : Int) (rd.length : Int)) s') : copyTo P σ el d x K := by
  refine ⟨rd, rs, h.at_.rows, hx.rows, ?_⟩
  by_cases hm : min rs.length rd.length = 0
  · refine .inl ⟨hm, ?_⟩
    have := hK σ (by rw [hm]; simpa using h) (fun _ _ => rfl)
    rw [show min (rs.length : Int) (rd.length : Int) = 0 by omega] at this; exact this
  · refine .inr ?_
    have hrow := h.at_.rows
    have hnew := h.new
    have hsz := h.at_.size
    cases d with
    | osl id i0 len =>
      obtain ⟨t, rows, h1, h2, h3, rfl⟩ := hrow
      have hml : min rs.length ((rows.drop i0).take len).length ≤ len := by simp; omega
      have hmr : min rs.length ((rows.drop i0).take len).length ≤ rs.length := Nat.min_le_left _ _
      have hmx : min rs.length ((rows.drop i0).take len).length ≤ ((rows.drop i0).take len).length := Nat.min_le_right _ _
      generalize min rs.length ((rows.drop i0).take len).length = m at *
      have hl : (rows.take i0 ++ rs.take m ++ rows.drop (i0 + m)).length = rows.length := by simp; omega
      refine ⟨id, i0, len, t, rows, rfl, h1, ?_⟩
      refine hK (σ.set id (.live t (rows.take i0 ++ rs.take m ++ rows.drop (i0 + m)))) ⟨⟨⟨t, _, Store.set_same _ _ _, h2, by rw [hl]; exact h3, ?_⟩, by rw [List.length_append, List.length_take, List.length_drop]; omega, fun es rows e => by cases e⟩, fun i hi => ?_, h.new, h.nsl, h.nz⟩ fun i hi => Store.set_ne _ _ fun e => hi (by rw [e]; rfl)
      · have hA : (rs.take m).length = m := by rw [List.length_take]; omega
        generalize rs.take m = A at *
        rw [List.append_assoc, List.drop_left' (by rw [List.length_take]; omega), List.take_append, List.take_of_length_le (show A.length ≤ len by omega), hA, List.drop_take, List.drop_drop]
      · rw [Store.set_ne _ _ (fun e => hi (by rw [e]; exact h.new _ _ _ rfl))]; exact h.ext i hi
    | nils => have : rd = [] := hrow; subst this; simp at hm
    | zsl => exact absurd rfl h.nz
    | sl es rows => exact absurd trivial h.nsl
    | _ => exact hrow.elim
end Go.Fw
namespace Go.Fw
variable {P : Program} {σ σ' : Store}
theorem Own.sub {σ0 : Store} {el : TypeId} {d : D} {rs : List (List D)} {lo hi : Nat} (h : Own P σ0 σ el d rs) (h1 : lo ≤ hi) (h2 : hi ≤ rs.length) : Own P σ0 σ el (dsub d lo hi) ((rs.drop lo).take (hi - lo)) := by
  have hr := h.at_.rows
  have hn := h.new
  have hl := h.nsl
  have hz := h.nz
  refine ⟨h.at_.sub h1 h2, h.ext, ?_, ?_, ?_⟩ <;> cases d <;> simp only [dsub, Rows] at * <;> first | (intro id i n e; cases e; exact hn _ _ _ rfl) | (intro id i n e; cases e; done) | exact hl | (intro e; cases e; done) | exact hr.elim | exact hz
end Go.Fw
end
section
set_option linter.unusedVariables false
set_option linter.unusedSimpArgs false
namespace Go.Proofs.YtcbmibgfmlpobaaGreat
open Go.Fw Go.Proofs Go.RowKit
variable {σ σ0 : Store} {d0 d1 d2 d3 d4 d5 : D} {k : Co}
theorem copy_ok {t : TypeId} {bytes : Nat} {d : D} {rows : List (List D)} {K : D → Store → Prop} (h : At Tryz.prog σ t d rows) (hb : bytes * rows.length ≤ 140737488355328)
    (hK : ∀ d' s, Own Tryz.prog σ s t d' rows → K d' s) : Fw.newObj σ (.live t []) fun id σ' => appendTo Tryz.prog σ' t bytes (.osl id 0 0) d K := by
  refine newObj_intro fun id s hid _ he hs => ?_
  have ho : Own Tryz.prog σ s t (.osl id 0 0) [] := .at_new hid he hs (by simp) rfl
  exact ho.append (h.ext he) (by simpa using hb) (by have := h.size; simpa using this) fun d' s' ho' _ _ => hK _ _ (by simpa using ho')
structure CoIn (σ0 σ : Store) (id : Nat) (t : TypeId) (pre post : List D) (d0 d1 d2 d3 d4 d5 : D) (k : Co) : Prop where
  new : σ0 id = .free
  row : σ id = .live t [pre ++ ([d0, d1, d2, d3, d4, d5, .bool k.Dirty] ++ post)]
  co : CoOwn σ0 σ d0 d1 d2 d3 d4 d5 k
  ids : ∀ d ∈ [d0, d1, d2, d3, d4, d5], idOf d ≠ some id
theorem CoIn.ext {id t pre post} (h : CoIn σ0 σ id t pre post d0 d1 d2 d3 d4 d5 k) : Ext σ0 σ := h.co.own.ext
theorem CoIn.at {id t pre post} (h : CoIn σ0 σ id t pre post d0 d1 d2 d3 d4 d5 k) : CoAt σ d0 d1 d2 d3 d4 d5 k := h.co.at
theorem CoIn.dirty {id t pre post} (h : CoIn σ0 σ id t pre post d0 d1 d2 d3 d4 d5 k) {b : Bool} {off : Nat} (ho : off = pre.length + 6) {K : Store → Prop}
    (hK : ∀ s', CoIn σ0 s' id t pre post d0 d1 d2 d3 d4 d5 { k with Dirty := b } → (∀ i, i ≠ id → s' i = σ i) → K s') : storeEl [.bool b] σ (.osl id 0 1) 0 off K := by
  refine cell_store h.row (by subst ho; simp; omega) fun s' hs hs' => hK s' ?_ hs'
  have al : ∀ {d : D} {el : TypeId} {rs : List (List D)}, d ∈ [d0, d1, d2, d3, d4, d5] → Own Tryz.prog σ0 σ el d rs → Own Tryz.prog σ0 s' el d rs := fun hd g => own_other g h.new (h.ids _ hd) hs'
  refine ⟨h.new, ?_, ⟨al (by simp) h.co.own, al (by simp) h.co.routes, al (by simp) h.co.points, al (by simp) h.co.xs, al (by simp) h.co.lines, al (by simp) h.co.resets, h.co.apart⟩, h.ids⟩
  rw [hs]
  have e : patch (pre ++ ([d0, d1, d2, d3, d4, d5, .bool k.Dirty] ++ post)) off [.bool b] = pre ++ ([d0, d1, d2, d3, d4, d5, .bool b] ++ post) := by
    subst ho
    unfold patch
    rw [List.take_length_add_append, List.length_singleton, Nat.add_assoc, List.drop_length_add_append]
    rw [List.append_assoc, List.append_assoc]; rfl
  rw [e]
theorem CoOwn.putO (h : CoOwn σ0 σ d0 d1 d2 d3 d4 d5 k) {j n off : Nat} {x y : Int} {ys : List D} (hj : k.Own[j]? = some x) (hn : n = j) (ho : off + ys.length ≤ 1) (hp : patch (Go.Fw.encI x) off ys = Go.Fw.encI y) {K : Store → Prop}
    (hK : ∀ s', CoOwn σ0 s' d0 d1 d2 d3 d4 d5 { k with Own := k.Own.set j y } → (∀ i, idOf d0 ≠ some i → s' i = σ i) → K s') : storeEl ys σ d0 n off K := by
  refine h.own.at_.store h.own.nsl (map_get hj) hn ho fun s' i hi hat hs hne => hK s' ?_ fun i' hi' => hs i' fun e => hi' (by rw [e]; exact hi)
  have hf := own_id h.own hi
  have ap : ∀ {m : Nat} {d : D}, [d0, d1, d2, d3, d4, d5][m]? = some d → m ≠ 0 → idOf d ≠ some i := fun hm hne0 => pw h.apart (i := 0) rfl hm (Ne.symm hne0) i hi
  refine ⟨⟨?_, ext_other h.own.ext hf hs, h.own.new, h.own.nsl, h.own.nz⟩, own_other h.routes hf (ap (m := 1) rfl (by omega)) hs, own_other h.points hf (ap (m := 2) rfl (by omega)) hs, own_other h.xs hf (ap (m := 3) rfl (by omega)) hs, own_other h.lines hf (ap (m := 4) rfl (by omega)) hs, own_other h.resets hf (ap (m := 5) rfl (by omega)) hs, h.apart⟩
  rw [hp, map_set (Go.Fw.encI) k.Own j y] at hat; exact hat
theorem CoIn.putO {id t pre post} (h : CoIn σ0 σ id t pre post d0 d1 d2 d3 d4 d5 k) {j n off : Nat} {x y : Int} {ys : List D} (hj : k.Own[j]? = some x) (hn : n = j) (ho : off + ys.length ≤ 1) (hp : patch (Go.Fw.encI x) off ys = Go.Fw.encI y) {K : Store → Prop}
    (hK : ∀ s', CoIn σ0 s' id t pre post d0 d1 d2 d3 d4 d5 { k with Own := k.Own.set j y } → (∀ i, idOf d0 ≠ some i → s' i = σ i) → K s') : storeEl ys σ d0 n off K :=
  h.co.putO hj hn ho hp fun s' h' hs => hK s' ⟨h.new, (hs id (h.ids _ (by simp))).trans h.row, h', h.ids⟩ hs
theorem CoOwn.putR (h : CoOwn σ0 σ d0 d1 d2 d3 d4 d5 k) {j n off : Nat} {x y : Rs} {ys : List D} (hj : k.Routes[j]? = some x) (hn : n = j) (ho : off + ys.length ≤ 4) (hp : patch (Rs.enc x) off ys = Rs.enc y) {K : Store → Prop}
    (hK : ∀ s', CoOwn σ0 s' d0 d1 d2 d3 d4 d5 { k with Routes := k.Routes.set j y } → (∀ i, idOf d1 ≠ some i → s' i = σ i) → K s') : storeEl ys σ d1 n off K := by
  refine h.routes.at_.store h.routes.nsl (map_get hj) hn ho fun s' i hi hat hs hne => hK s' ?_ fun i' hi' => hs i' fun e => hi' (by rw [e]; exact hi)
  have hf := own_id h.routes hi
  have ap : ∀ {m : Nat} {d : D}, [d0, d1, d2, d3, d4, d5][m]? = some d → m ≠ 1 → idOf d ≠ some i := fun hm hne0 => pw h.apart (i := 1) rfl hm (Ne.symm hne0) i hi
  refine ⟨own_other h.own hf (ap (m := 0) rfl (by omega)) hs, ⟨?_, ext_other h.routes.ext hf hs, h.routes.new, h.routes.nsl, h.routes.nz⟩, own_other h.points hf (ap (m := 2) rfl (by omega)) hs, own_other h.xs hf (ap (m := 3) rfl (by omega)) hs, own_other h.lines hf (ap (m := 4) rfl (by omega)) hs, own_other h.resets hf (ap (m := 5) rfl (by omega)) hs, h.apart⟩
  rw [hp, map_set (Rs.enc) k.Routes j y] at hat; exact hat
theorem CoIn.putR {id t pre post} (h : CoIn σ0 σ id t pre post d0 d1 d2 d3 d4 d5 k) {j n off : Nat} {x y : Rs} {ys : List D} (hj : k.Routes[j]? = some x) (hn : n = j) (ho : off + ys.length ≤ 4) (hp : patch (Rs.enc x) off ys = Rs.enc y) {K : Store → Prop}
    (hK : ∀ s', CoIn σ0 s' id t pre post d0 d1 d2 d3 d4 d5 { k with Routes := k.Routes.set j y } → (∀ i, idOf d1 ≠ some i → s' i = σ i) → K s') : storeEl ys σ d1 n off K :=
  h.co.putR hj hn ho hp fun s' h' hs => hK s' ⟨h.new, (hs id (h.ids _ (by simp))).trans h.row, h', h.ids⟩ hs
theorem CoOwn.putP (h : CoOwn σ0 σ d0 d1 d2 d3 d4 d5 k) {j n off : Nat} {x y : Mv} {ys : List D} (hj : k.Points[j]? = some x) (hn : n = j) (ho : off + ys.length ≤ 2) (hp : patch (Mv.enc x) off ys = Mv.enc y) {K : Store → Prop}
    (hK : ∀ s', CoOwn σ0 s' d0 d1 d2 d3 d4 d5 { k with Points := k.Points.set j y } → (∀ i, idOf d2 ≠ some i → s' i = σ i) → K s') : storeEl ys σ d2 n off K := by
  refine h.points.at_.store h.points.nsl (map_get hj) hn ho fun s' i hi hat hs hne => hK s' ?_ fun i' hi' => hs i' fun e => hi' (by rw [e]; exact hi)
  have hf := own_id h.points hi
  have ap : ∀ {m : Nat} {d : D}, [d0, d1, d2, d3, d4, d5][m]? = some d → m ≠ 2 → idOf d ≠ some i := fun hm hne0 => pw h.apart (i := 2) rfl hm (Ne.symm hne0) i hi
  refine ⟨own_other h.own hf (ap (m := 0) rfl (by omega)) hs, own_other h.routes hf (ap (m := 1) rfl (by omega)) hs, ⟨?_, ext_other h.points.ext hf hs, h.points.new, h.points.nsl, h.points.nz⟩, own_other h.xs hf (ap (m := 3) rfl (by omega)) hs, own_other h.lines hf (ap (m := 4) rfl (by omega)) hs, own_other h.resets hf (ap (m := 5) rfl (by omega)) hs, h.apart⟩
  rw [hp, map_set (Mv.enc) k.Points j y] at hat; exact hat
theorem CoIn.putP {id t pre post} (h : CoIn σ0 σ id t pre post d0 d1 d2 d3 d4 d5 k) {j n off : Nat} {x y : Mv} {ys : List D} (hj : k.Points[j]? = some x) (hn : n = j) (ho : off + ys.length ≤ 2) (hp : patch (Mv.enc x) off ys = Mv.enc y) {K : Store → Prop}
    (hK : ∀ s', CoIn σ0 s' id t pre post d0 d1 d2 d3 d4 d5 { k with Points := k.Points.set j y } → (∀ i, idOf d2 ≠ some i → s' i = σ i) → K s') : storeEl ys σ d2 n off K :=
  h.co.putP hj hn ho hp fun s' h' hs => hK s' ⟨h.new, (hs id (h.ids _ (by simp))).trans h.row, h', h.ids⟩ hs
theorem CoOwn.putX (h : CoOwn σ0 σ d0 d1 d2 d3 d4 d5 k) {j n off : Nat} {x y : Mv} {ys : List D} (hj : k.Xs[j]? = some x) (hn : n = j) (ho : off + ys.length ≤ 2) (hp : patch (Mv.enc x) off ys = Mv.enc y) {K : Store → Prop}
    (hK : ∀ s', CoOwn σ0 s' d0 d1 d2 d3 d4 d5 { k with Xs := k.Xs.set j y } → (∀ i, idOf d3 ≠ some i → s' i = σ i) → K s') : storeEl ys σ d3 n off K := by
  refine h.xs.at_.store h.xs.nsl (map_get hj) hn ho fun s' i hi hat hs hne => hK s' ?_ fun i' hi' => hs i' fun e => hi' (by rw [e]; exact hi)
  have hf := own_id h.xs hi
  have ap : ∀ {m : Nat} {d : D}, [d0, d1, d2, d3, d4, d5][m]? = some d → m ≠ 3 → idOf d ≠ some i := fun hm hne0 => pw h.apart (i := 3) rfl hm (Ne.symm hne0) i hi
  refine ⟨own_other h.own hf (ap (m := 0) rfl (by omega)) hs, own_other h.routes hf (ap (m := 1) rfl (by omega)) hs, own_other h.points hf (ap (m := 2) rfl (by omega)) hs, ⟨?_, ext_other h.xs.ext hf hs, h.xs.new, h.xs.nsl, h.xs.nz⟩, own_other h.lines hf (ap (m := 4) rfl (by omega)) hs, own_other h.resets hf (ap (m := 5) rfl (by omega)) hs, h.apart⟩
  rw [hp, map_set (Mv.enc) k.Xs j y] at hat; exact hat
theorem CoIn.putX {id t pre post} (h : CoIn σ0 σ id t pre post d0 d1 d2 d3 d4 d5 k) {j n off : Nat} {x y : Mv} {ys : List D} (hj : k.Xs[j]? = some x) (hn : n = j) (ho : off + ys.length ≤ 2) (hp : patch (Mv.enc x) off ys = Mv.enc y) {K : Store → Prop}
    (hK : ∀ s', CoIn σ0 s' id t pre post d0 d1 d2 d3 d4 d5 { k with Xs := k.Xs.set j y } → (∀ i, idOf d3 ≠ some i → s' i = σ i) → K s') : storeEl ys σ d3 n off K :=
  h.co.putX hj hn ho hp fun s' h' hs => hK s' ⟨h.new, (hs id (h.ids _ (by simp))).trans h.row, h', h.ids⟩ hs
theorem CoOwn.putL (h : CoOwn σ0 σ d0 d1 d2 d3 d4 d5 k) {j n off : Nat} {x y : Ls} {ys : List D} (hj : k.Lines[j]? = some x) (hn : n = j) (ho : off + ys.length ≤ 8) (hp : patch (Ls.enc x) off ys = Ls.enc y) {K : Store → Prop}
    (hK : ∀ s', CoOwn σ0 s' d0 d1 d2 d3 d4 d5 { k with Lines := k.Lines.set j y } → (∀ i, idOf d4 ≠ some i → s' i = σ i) → K s') : storeEl ys σ d4 n off K := by
  refine h.lines.at_.store h.lines.nsl (map_get hj) hn ho fun s' i hi hat hs hne => hK s' ?_ fun i' hi' => hs i' fun e => hi' (by rw [e]; exact hi)
  have hf := own_id h.lines hi
  have ap : ∀ {m : Nat} {d : D}, [d0, d1, d2, d3, d4, d5][m]? = some d → m ≠ 4 → idOf d ≠ some i := fun hm hne0 => pw h.apart (i := 4) rfl hm (Ne.symm hne0) i hi
  refine ⟨own_other h.own hf (ap (m := 0) rfl (by omega)) hs, own_other h.routes hf (ap (m := 1) rfl (by omega)) hs, own_other h.points hf (ap (m := 2) rfl (by omega)) hs, own_other h.xs hf (ap (m := 3) rfl (by omega)) hs, ⟨?_, ext_other h.lines.ext hf hs, h.lines.new, h.lines.nsl, h.lines.nz⟩, own_other h.resets hf (ap (m := 5) rfl (by omega)) hs, h.apart⟩
  rw [hp, map_set (Ls.enc) k.Lines j y] at hat; exact hat
theorem CoIn.putL {id t pre post} (h : CoIn σ0 σ id t pre post d0 d1 d2 d3 d4 d5 k) {j n off : Nat} {x y : Ls} {ys : List D} (hj : k.Lines[j]? = some x) (hn : n = j) (ho : off + ys.length ≤ 8) (hp : patch (Ls.enc x) off ys = Ls.enc y) {K : Store → Prop}
    (hK : ∀ s', CoIn σ0 s' id t pre post d0 d1 d2 d3 d4 d5 { k with Lines := k.Lines.set j y } → (∀ i, idOf d4 ≠ some i → s' i = σ i) → K s') : storeEl ys σ d4 n off K :=
  h.co.putL hj hn ho hp fun s' h' hs => hK s' ⟨h.new, (hs id (h.ids _ (by simp))).trans h.row, h', h.ids⟩ hs
end Go.Proofs.YtcbmibgfmlpobaaGreat
end
section
set_option linter.unusedVariables false
set_option linter.unusedSimpArgs false
namespace Go.Proofs.YtcbmibgfmlpobaaGreat
open Go.Fw Go.Proofs Go.RowKit
variable {σ : Store}
section
variable {c0 c1 c2 c3 c4 : D} {c : Cf} (h : ∀ s, CfAt s c0 c1 c2 c3 c4 c)
include h
theorem rt_frz {i : Nat} {x : Rt} (hx : c.Rts[i]? = some x) : ∃ rows d1 d2 d3, (∀ s, At Tryz.prog s t_Route c4 rows) ∧ rows.length = c.Rts.length ∧ rows[i]? = some [iD x.Entry, iD x.Exit, d1, d2, d3, .bool x.Shunt] ∧
    (∀ s, At Tryz.prog s t_Step d1 (x.Path.map St.enc)) ∧ (∀ s, At Tryz.prog s t_Need d2 (x.Flank.map Nd.enc)) ∧ (∀ s, At Tryz.prog s t_int d3 (x.Overlap.map Go.Fw.encI)) := by
  obtain ⟨rows, hat, hlen, hrow⟩ := rts_froz fun s => (h s).rts
  obtain ⟨row, hrw⟩ := get_of_lt (l := rows) (j := i) (by have := (List.getElem?_eq_some_iff.1 hx).1; omega)
  obtain ⟨d1, d2, d3, rfl, q1, q2, q3⟩ := hrow i row x hrw hx
  exact ⟨rows, d1, d2, d3, hat, hlen, hrw, q1, q2, q3⟩
theorem mover_route_ok (i : Int) : DCalls Tryz.prog n_mover_route [cfA c0 c1 c2 c3 c4 c, iA i] σ fun r s => s = σ ∧ ∃ d1 d2 d3, r = .tup [rtA d1 d2 d3 (c.rt i), bA (geti c.Rts i).isSome] ∧
    (∀ s, At Tryz.prog s t_Step d1 ((c.rt i).Path.map St.enc)) ∧ (∀ s, At Tryz.prog s t_Need d2 ((c.rt i).Flank.map Nd.enc)) ∧ (∀ s, At Tryz.prog s t_int d3 ((c.rt i).Overlap.map Go.Fw.encI)) := by
  have no : geti c.Rts i = none → (σ = σ ∧ ∃ d1 d2 d3, RV.tup [.agg [iD 0, iD 0, .nils, .nils, .nils, .bool false], bA false] = .tup [rtA d1 d2 d3 (c.rt i), bA (geti c.Rts i).isSome] ∧
    (∀ s, At Tryz.prog s t_Step d1 ((c.rt i).Path.map St.enc)) ∧ (∀ s, At Tryz.prog s t_Need d2 ((c.rt i).Flank.map Nd.enc)) ∧ (∀ s, At Tryz.prog s t_int d3 ((c.rt i).Overlap.map Go.Fw.encI))) := fun e => by
    rw [rt_none e, e]
    exact ⟨rfl, _, _, _, rfl, fun _ => .nil, fun _ => .nil, fun _ => .nil⟩
  obtain ⟨rows, hat, hlen⟩ := rts_len (h σ)
  refine W_mover_route _ _ _ _ _ _ _ _ _ i σ _ (bcd (fun e => no (geti_neg e)) (fun e0 => hat.lenK (bcd (fun e => no (geti_ge (by omega))) (fun e1 => ?_))))
  obtain ⟨x, hx⟩ := geti_ex (l := c.Rts) (i := i) e0 (by omega)
  obtain ⟨rows, d1, d2, d3, hat, hlen, hrow, q1, q2, q3⟩ := rt_frz h (geti_some hx).2.2
  refine (hat σ).load hrow c_Route (by omega) ⟨_, _, _, _, _, _, rfl, ?_⟩
  rw [rt_some hx, hx]
  exact ⟨rfl, _, _, _, rfl, q1, q2, q3⟩
theorem mover_Needs_ok (i : Int) (h1 : (c.rt i).Path.length ≤ 2 ^ 20) (h2 : (c.rt i).Flank.length ≤ 2 ^ 20) :
    DCalls Tryz.prog n_mover_Needs [cfA c0 c1 c2 c3 c4 c, iA i] σ (SlPost σ t_Need ((c.Needs i).map Nd.enc)) := by
  refine (W_mover_Needs _ _ _ _ _ _ _ _ _ i σ _ ?_).ret (Q := fun r s => ∃ r' σ', Ret Tryz.prog σ s r σ' r' ∧ SlPost σ t_Need ((c.Needs i).map Nd.enc) r' σ') (fun r s h => h)
  refine (mover_route_ok h i).mono ?_
  rintro r s ⟨rfl, d1, d2, d3, rfl, q1, q2, q3⟩
  rw [Cf.Needs]
  generalize c.rt i = x at *
  refine ⟨_, _, _, _, _, _, _, rfl, (q1 s).lenK ⟨fun d n s' => ∃ out : List Nd, Own Tryz.prog s s' t_Need d (out.map Nd.enc) ∧ (out.length : Int) ≤ n ∧ Rng x.Path (fun r => out ++ r.filterMap (needOf c) = x.Path.filterMap (needOf c)) n,
    fun _ n _ => x.Path.length - n.toNat, ⟨[], .nil _ (.refl _), by simp, .start rfl⟩, ?_⟩⟩
  rintro d n s' ⟨out, ho, hol, hr⟩
  rw [List.length_map]
  refine bcd (fun hlt => ?_) (fun hge => ?_)
  · obtain ⟨j, y, rfl, hy, hj, hF, nx⟩ := hr.step rfl (by omega) hlt
    rw [List.filterMap_cons] at hF
    have skip : needOf c y = none → ∀ s2, Ext s' s2 → (∃ out : List Nd, Own Tryz.prog s s2 t_Need d (out.map Nd.enc) ∧ (out.length : Int) ≤ w64 ((j : Int) + 1) ∧ Rng x.Path (fun r => out ++ r.filterMap (needOf c) = x.Path.filterMap (needOf c)) (w64 ((j : Int) + 1))) ∧
        x.Path.length - (w64 ((j : Int) + 1)).toNat < x.Path.length - (j : Int).toNat := fun hn s2 he => by
      rw [hn] at hF
      have := nx (fun r => out ++ r.filterMap (needOf c) = x.Path.filterMap (needOf c)) hF
      exact ⟨⟨out, ho.ext' he, by rw [w64_succ (by omega)]; omega, this.1⟩, this.2⟩
    refine (q1 s').load (map_get hy) c_Step rfl ⟨y.Sec, y.In, y.Out, rfl, bcd (fun e => ⟨rfl, skip (by unfold needOf; rw [geti_neg e]) _ (.refl _)⟩) (fun e0 => (h s').secs.lenK ?_)⟩
    rw [List.length_map]
    refine bcd (fun e => ⟨rfl, skip (by unfold needOf; rw [geti_ge e]) _ (.refl _)⟩) (fun e1 => ?_)
    obtain ⟨z, hz⟩ := geti_ex e0 e1
    have hneed : needOf c y = match wpos (wayL z.Kind) y.In y.Out with | none => none | some p => if p = 0 then none else some ⟨y.Sec, p⟩ := by unfold needOf; rw [hz] <;> rfl
    refine (h s').secs.load (map_get (geti_some hz).2.2) c_Section (by omega) ⟨z.Kind, rfl, (topo_Pos_ok _ _ _).use (opt1_ex _ ?_)⟩
    cases hp : wpos (wayL z.Kind) y.In y.Out with
    | none => rw [hp] at hneed; exact bc (fun e => by cases e) (fun _ => ⟨rfl, skip hneed _ (.refl _)⟩)
    | some p =>
      rw [hp] at hneed
      refine bc (fun _ => bcn (fun e => ?_) (fun e => ⟨rfl, skip (by rw [hneed]; exact if_pos e) _ (.refl _)⟩)) (fun e => by cases e)
      have hsome : needOf c y = some ⟨y.Sec, p⟩ := by rw [hneed]; exact if_neg e
      rw [hsome] at hF
      refine newObj_intro fun id s2 hid _ he hs2 => (ho.ext' he).append (At.fresh hs2 (by simp) rfl) (by simp; omega) (by simp; omega) fun d4 s5 ho5 _ _ => ⟨rfl, ?_⟩
      have := nx (fun r => (out ++ [⟨y.Sec, p⟩]) ++ r.filterMap (needOf c) = x.Path.filterMap (needOf c)) (by rw [List.append_assoc]; exact hF)
      exact ⟨⟨out ++ [⟨y.Sec, p⟩], by rw [List.map_append]; exact ho5, by rw [w64_succ (by omega), List.length_append, List.length_singleton]; omega, this.1⟩, this.2⟩
  · have hF := hr.done rfl hge
    have hn : n ≤ x.Path.length := by obtain ⟨j, rfl, hj, _⟩ := hr; omega
    rw [List.filterMap_nil, List.append_nil] at hF
    subst hF
    refine ho.append (q2 s') (by simp only [List.length_map]; omega) (by simp only [List.length_map]; omega) fun d4 s5 ho5 _ _ => ?_
    rw [← List.map_append] at ho5
    exact own_fin ho5 (flatNd _)
theorem mover_Crossings_ok (i : Int) (h1 : c.Xs.length ≤ 2 ^ 20) :
    DCalls Tryz.prog n_mover_Crossings [cfA c0 c1 c2 c3 c4 c, iA i] σ (SlPost σ t_int ((c.Cross i).map Go.Fw.encI)) := by
  refine (W_mover_Crossings _ _ _ _ _ _ _ _ _ i σ _ ?_).ret (Q := fun r s => ∃ r' σ', Ret Tryz.prog σ s r σ' r' ∧ SlPost σ t_int ((c.Cross i).map Go.Fw.encI) r' σ') (fun r s h => h)
  refine (mover_route_ok h i).mono ?_
  rintro r s ⟨rfl, d1, d2, d3, rfl, q1, q2, q3⟩
  rw [Cf.Cross]
  generalize c.rt i = x at *
  refine ⟨_, _, _, _, _, _, _, rfl, (h s).xs.lenK ⟨fun d n s' => ∃ out : List Int, Own Tryz.prog s s' t_int d (out.map Go.Fw.encI) ∧ (out.length : Int) ≤ n ∧ Rng c.Xs (fun r => out ++ crossL x.Path r n.toNat = crossL x.Path c.Xs 0) n,
    fun _ n _ => c.Xs.length - n.toNat, ⟨[], .nil _ (.refl _), by simp, .start rfl⟩, ?_⟩⟩
  rintro d n s' ⟨out, ho, hol, hr⟩
  rw [List.length_map]
  refine bcd (fun hlt => ?_) (fun hge => ?_)
  · obtain ⟨j, y, rfl, hy, hj, hF, nx⟩ := hr.step rfl (by omega) hlt
    have hw : w64 ((j : Int) + 1) = ((j + 1 : Nat) : Int) := w64_succ (by omega)
    have go : ∀ out2 d2 s2, out2 ++ crossL x.Path (c.Xs.drop (j + 1)) (j + 1) = crossL x.Path c.Xs 0 → Own Tryz.prog s s2 t_int d2 (out2.map Go.Fw.encI) → out2.length ≤ j + 1 → (∃ out : List Int, Own Tryz.prog s s2 t_int d2 (out.map Go.Fw.encI) ∧ (out.length : Int) ≤ w64 ((j : Int) + 1) ∧ Rng c.Xs (fun r => out ++ crossL x.Path r (w64 ((j : Int) + 1)).toNat = crossL x.Path c.Xs 0) (w64 ((j : Int) + 1))) ∧
        c.Xs.length - (w64 ((j : Int) + 1)).toNat < c.Xs.length - (j : Int).toNat := fun out2 d2 s2 he ho2 hl => by
      have := nx (fun r => out2 ++ crossL x.Path r (w64 ((j : Int) + 1)).toNat = crossL x.Path c.Xs 0) (by rw [hw, Int.toNat_natCast]; exact he)
      exact ⟨⟨out2, ho2, by rw [hw]; omega, this.1⟩, this.2⟩
    rw [Int.toNat_natCast, crossL] at hF
    refine (h s').xs.load (map_get hy) c_int rfl ⟨y, rfl, newObj_intro fun id s2 hid _ he hs2 => box_store hs2 fun s3 hs3 hs3' => ?_⟩
    have he3 : Ext s' s3 := fun i hi => by
      rw [hs3' i (fun e => hi (by rw [e]; exact hid))]; exact he i hi
    have ho3 := ho.ext' he3
    refine (ContainsFunc_Step_ok (p := fun x => x.Sec == y) (q1 s3) (cap_fn hs3 fun x _ => W_mover_Crossings_1 x.Sec x.In x.Out _ s3 _ ⟨_, _, _, rfl, _, box_row hs3, y, rfl, rfl, rfl⟩)).use ⟨_, rfl, ?_⟩
    refine bc (fun e => ?_) (fun e => ⟨rfl, go out _ _ (by rw [if_neg (fun g => by have : hasSec x.Path y = false := e; rw [this] at g; cases g)] at hF; exact hF) ho3 (by omega)⟩)
    rw [if_pos (show hasSec x.Path y = true from e)] at hF
    refine newObj_intro fun id1 s4 hid1 _ he4 hs4 => (ho3.ext' he4).append (At.fresh hs4 (by simp) rfl) (by simp; omega) (by simp; omega) fun d4 s5 ho5 _ _ => ⟨rfl, go (out ++ [(j : Int)]) _ _ (by rw [List.append_assoc]; exact hF) (by rw [List.map_append]; exact ho5) (by simp; omega)⟩
  · have hF := hr.done rfl hge
    rw [crossL, List.append_nil] at hF
    subst hF
    exact own_fin ho (flatI _)
end
end Go.Proofs.YtcbmibgfmlpobaaGreat
end
section
set_option linter.unusedVariables false
set_option linter.unusedSimpArgs false
namespace Go.Fw
structure Br where
  Kind : Int
  Route : Int
  Sec : Int
  deriving DecidableEq
def Br.enc (b : Br) : List D := [iD b.Kind, iD b.Route, iD b.Sec]
end Go.Fw
end
section
set_option linter.unusedVariables false
set_option linter.unusedSimpArgs false
namespace Go.Proofs.YtcbmibgfmlpobaaGreat
open Go.Fw Go.Proofs Go.RowKit
variable {σ : Store}
theorem Contains_int_ok {d : D} {l : List Int} (v : Int) (h : At Tryz.prog σ t_int d (l.map Go.Fw.encI)) : Pure Tryz.prog n_slices_Contains_int [.one d, iA v] σ (.a (bA (inL l v))) := by
  refine W_slices_Contains_int d v σ _ ((slices_Index_int_ok v h).use ⟨_, rfl, ?_, rfl⟩)
  have key : ∀ (l : List Int) (j : Nat), decide (idxOf l v j ≥ 0) = inL l v := by
    intro l
    induction l with
    | nil => intro j; simp [idxOf, inL]
    | cons x r ih =>
      intro j
      rw [idxOf]
      by_cases hx : v = x
      · rw [if_pos hx]; simp [inL, hx]
      · rw [if_neg hx, ih, inL, inL]; simp [hx]
  rw [key]
section
variable {c0 c1 c2 c3 c4 : D} {c : Cf} {k0 k1 k2 k3 k4 k5 : D} {k : Co} {σ0 : Store} {b : Bool} {id : Nat} {d : D} {out : List Br}
variable (hc : ∀ s, CfAt s c0 c1 c2 c3 c4 c) (hk : CoAt σ0 k0 k1 k2 k3 k4 k5 k) (hfit : k.fits c = true)
include hc hk hfit
end
end Go.Proofs.YtcbmibgfmlpobaaGreat
end
section
namespace Go.Proofs.YtcbmibgfmlpobaaGreat
open Go.Shelf Go.Proofs
def sortLays_ren : Go.Shelf.Ren := ⟨fun | 189 => 46 | 125 => 64 | 257 => 63 | 128 => 88 | 129 => 89 | 294 => 79 | 295 => 80 | 296 => 81 | 297 => 82 | 298 => 83 | 299 => 84 | 216 => 85 | 300 => 86 | 301 => 87 | 328 => 95 | 329 => 96 | 330 => 97 | 331 => 98 | 332 => 99 | 215 => 100 | 343 => 104 | n => n, fun | 28 => 27 | 3 => 3 | 46 => 57 | 0 => 0 | 51 => 141 | 53 => 144 | 4 => 4 | 183 => 175 | 182 => 174 | 131 => 132 | 5 => 5 | 9 => 9 | 218 => 188 | 222 => 192 | 228 => 197 | 229 => 198 | n => n, fun | n => n⟩
theorem sortLays : Go.Proofs.Lays.n189 Tryz.prog sortLays_ren := {
  mixed := by kernel_rfl
  f125 := Tryz.func64.trans (congrArg some (by kernel_rfl))
  f128 := Tryz.func88.trans (congrArg some (by kernel_rfl))
  f129 := Tryz.func89.trans (congrArg some (by kernel_rfl))
  f189 := Tryz.func46.trans (congrArg some (by kernel_rfl))
  f215 := Tryz.func100.trans (congrArg some (by kernel_rfl))
  f216 := Tryz.func85.trans (congrArg some (by kernel_rfl))
  f257 := Tryz.func63.trans (congrArg some (by kernel_rfl))
  f294 := Tryz.func79.trans (congrArg some (by kernel_rfl))
  f295 := Tryz.func80.trans (congrArg some (by kernel_rfl))
  f296 := Tryz.func81.trans (congrArg some (by kernel_rfl))
  f297 := Tryz.func82.trans (congrArg some (by kernel_rfl))
  f298 := Tryz.func83.trans (congrArg some (by kernel_rfl))
  f299 := Tryz.func84.trans (congrArg some (by kernel_rfl))
  f300 := Tryz.func86.trans (congrArg some (by kernel_rfl))
  f301 := Tryz.func87.trans (congrArg some (by kernel_rfl))
  f328 := Tryz.func95.trans (congrArg some (by kernel_rfl))
  f329 := Tryz.func96.trans (congrArg some (by kernel_rfl))
  f330 := Tryz.func97.trans (congrArg some (by kernel_rfl))
  f331 := Tryz.func98.trans (congrArg some (by kernel_rfl))
  f332 := Tryz.func99.trans (congrArg some (by kernel_rfl))
  f343 := Tryz.func104.trans (congrArg some (by kernel_rfl))
  t0 := Tryz.underlying0
  a0 := Tryz.isAgg0
  z0 := Tryz.sizeOf0
  v0 := Tryz.zeroValue0
  t3 := Tryz.underlying3
  a3 := Tryz.isAgg3
  z3 := Tryz.sizeOf3
  v3 := Tryz.zeroValue3
  t4 := Tryz.underlying4
  a4 := Tryz.isAgg4
  z4 := Tryz.sizeOf4
  v4 := Tryz.zeroValue4
  t5 := Tryz.underlying5
  a5 := Tryz.isAgg5
  z5 := Tryz.sizeOf5
  v5 := Tryz.zeroValue5
  t9 := Tryz.underlying9
  a9 := Tryz.isAgg9
  z9 := Tryz.sizeOf9
  v9 := Tryz.zeroValue9
  t28 := Tryz.underlying27
  a28 := Tryz.isAgg27
  z28 := Tryz.sizeOf27
  v28 := Tryz.zeroValue27
  t46 := Tryz.underlying57
  a46 := Tryz.isAgg57
  z46 := Tryz.sizeOf57
  v46 := Tryz.zeroValue57
  t51 := Tryz.underlying141
  a51 := Tryz.isAgg141
  z51 := Tryz.sizeOf141
  v51 := Tryz.zeroValue141
  t53 := Tryz.underlying144
  a53 := Tryz.isAgg144
  z53 := Tryz.sizeOf144
  v53 := Tryz.zeroValue144
  t131 := Tryz.underlying132
  a131 := Tryz.isAgg132
  z131 := Tryz.sizeOf132
  v131 := Tryz.zeroValue132
  t182 := Tryz.underlying174
  a182 := Tryz.isAgg174
  z182 := Tryz.sizeOf174
  v182 := Tryz.zeroValue174
  t183 := Tryz.underlying175
  a183 := Tryz.isAgg175
  z183 := Tryz.sizeOf175
  v183 := Tryz.zeroValue175
  t218 := Tryz.underlying188
  a218 := Tryz.isAgg188
  z218 := Tryz.sizeOf188
  v218 := Tryz.zeroValue188
  t222 := Tryz.underlying192
  a222 := Tryz.isAgg192
  z222 := Tryz.sizeOf192
  v222 := Tryz.zeroValue192
  t228 := Tryz.underlying197
  a228 := Tryz.isAgg197
  z228 := Tryz.sizeOf197
  v228 := Tryz.zeroValue197
  t229 := Tryz.underlying198
  a229 := Tryz.isAgg198
  z229 := Tryz.sizeOf198
  v229 := Tryz.zeroValue198 }
end Go.Proofs.YtcbmibgfmlpobaaGreat
end
section
namespace Go.Proofs.YtcbmibgfmlpobaaGreat
open Go.Shelf Go.Proofs
def compactLays_ren : Go.Shelf.Ren := ⟨fun | 20 => 47 | n => n, fun | 22 => 27 | 3 => 3 | 4 => 4 | 0 => 0 | n => n, fun | n => n⟩
theorem compactLays : Go.Proofs.Lays2.n20 Tryz.prog compactLays_ren := {
  mixed := by kernel_rfl
  f20 := Tryz.func47.trans (congrArg some (by kernel_rfl))
  t0 := Tryz.underlying0
  a0 := Tryz.isAgg0
  z0 := Tryz.sizeOf0
  v0 := Tryz.zeroValue0
  t3 := Tryz.underlying3
  a3 := Tryz.isAgg3
  z3 := Tryz.sizeOf3
  v3 := Tryz.zeroValue3
  t4 := Tryz.underlying4
  a4 := Tryz.isAgg4
  z4 := Tryz.sizeOf4
  v4 := Tryz.zeroValue4
  t22 := Tryz.underlying27
  a22 := Tryz.isAgg27
  z22 := Tryz.sizeOf27
  v22 := Tryz.zeroValue27
  i3 := by kernel_rfl }
end Go.Proofs.YtcbmibgfmlpobaaGreat
end
section
set_option linter.unusedVariables false
set_option linter.unusedSimpArgs false
namespace Go.Proofs.YtcbmibgfmlpobaaGreat
open Go.Fw Go.Proofs Go.RowKit
variable {σ σ0 : Store}
theorem own_over {s : Store} {d : D} {l ys : List Int} (h : Own Tryz.prog σ0 s t_int d (l.map Go.Fw.encI)) (h0 : l ≠ []) (hl : ys.length = l.length) :
    ∃ id i0 t rows, d = .osl id i0 l.length ∧ s id = .live t rows ∧ Tryz.prog.cellsOf t = 1 ∧ i0 + l.length ≤ rows.length ∧ (rows.drop i0).take l.length = l.map intRow ∧ σ0 id = .free ∧
      Own Tryz.prog σ0 (s.set id (.live t (rows.take i0 ++ ys.map intRow ++ rows.drop (i0 + l.length)))) t_int d (ys.map Go.Fw.encI) := by
  have hr := h.at_.rows
  have hsz := h.at_.size
  rw [List.length_map] at hsz
  have hnz := h.nz
  have hns := h.nsl
  have hnew := h.new
  have hlen := h.at_.lenI
  rw [List.length_map] at hlen
  cases d <;> simp only [Go.Fw.Rows] at hr <;> try exact hr.elim
  · exact absurd (List.map_eq_nil_iff.1 hr) h0
  · exact absurd rfl hnz
  · exact absurd trivial hns
  · rename_i id i0 len
    obtain ⟨t, rows, a1, a2, a3, a4⟩ := hr
    have e : l.length = len := hlen
    subst e
    have ht : Tryz.prog.cellsOf t = 1 := by rw [a2]; exact c_int
    have hn := hnew _ _ _ rfl
    refine ⟨id, i0, t, rows, rfl, a1, ht, a3, a4.symm, hn, ⟨⟨⟨t, _, Store.set_same _ _ _, a2, ?_, ?_⟩, ?_, fun es rows e => by cases e⟩, ?_, hnew, fun h => h, by intro e; cases e⟩⟩
    · simp; omega
    · have hi0 : (rows.take i0).length = i0 := by simp; omega
      rw [List.append_assoc, List.drop_append_of_le_length (by omega), List.drop_of_length_le (by omega), List.nil_append, List.take_append_of_le_length (by simp; omega), List.take_of_length_le (by simp; omega)]
      rfl
    · rw [List.length_map]; omega
    · intro i hi
      rw [Store.set_ne _ _ (by intro e; subst e; exact hi hn)]
      exact h.ext i hi
theorem Sort_int_ok {s : Store} {d : D} {l : List Int} (h : Own Tryz.prog σ0 s t_int d (l.map Go.Fw.encI)) (h0 : l ≠ []) :
    DCalls Tryz.prog n_slices_Sort_int [.one d] s fun r s' => r = .tup [] ∧ Own Tryz.prog σ0 s' t_int d ((sorted l).map Go.Fw.encI) := by
  have hsz := h.at_.size
  rw [List.length_map] at hsz
  obtain ⟨id, i0, t, rows, rfl, a1, ht, a3, a4, hn, ho⟩ := own_over (ys := sorted l) h h0 (by simp [sorted])
  refine (sort_DCalls sortLays ht a1 a3 a4 (List.length_pos_iff.2 h0) (by omega)).mono ?_
  rintro r s' ⟨rfl, rfl⟩
  exact ⟨rfl, ho⟩
theorem Compact_int_ok {s : Store} {d : D} {l : List Int} (h : Own Tryz.prog σ0 s t_int d (l.map Go.Fw.encI)) (h0 : l ≠ []) (hp : l.Pairwise (· ≤ ·)) :
    DCalls Tryz.prog n_slices_Compact_int [.one d] s fun r s' => ∃ d', r = .a (.one d') ∧ Own Tryz.prog σ0 s' t_int d' ((cpt l).map Go.Fw.encI) := by
  have hsz := h.at_.size
  rw [List.length_map] at hsz
  have hc := compact_cpt hp
  have hle := cpt_len l
  obtain ⟨id, i0, t, rows, rfl, a1, ht, a3, a4, hn, ho⟩ := own_over (ys := Lib.compact l ++ List.replicate (l.length - (Lib.compact l).length) 0) h h0 (by rw [hc]; simp; omega)
  refine (compact_DCalls compactLays ht a1 a3 a4 (List.length_pos_iff.2 h0) (by omega)).mono ?_
  rintro r s' ⟨rfl, rfl⟩
  have := ho.sub (lo := 0) (hi := (cpt l).length) (by omega) (by rw [hc]; simp)
  rw [hc] at this ⊢
  refine ⟨_, rfl, ?_⟩
  have e : ((((cpt l ++ List.replicate (l.length - (cpt l).length) 0).map Go.Fw.encI).drop 0).take ((cpt l).length - 0)) = (cpt l).map Go.Fw.encI := by
    rw [List.drop_zero, Nat.sub_zero, List.map_append, List.take_append_of_le_length (by simp), List.take_of_length_le (by simp)]
  rw [e] at this
  exact this
def RtsNz : D → Prop
  | .sl _ rows => ∀ row ∈ rows, row[4]? ≠ some .zsl
  | _ => True
theorem nz_over {c4 : D} {rows : List (List D)} (hz : RtsNz c4) (hat : ∀ s, At Tryz.prog s t_Route c4 rows) {i : Nat} {row : List D} (hr : rows[i]? = some row) : row[4]? ≠ some .zsl := by
  have hx := (hat (fun _ => .free)).rows
  cases c4 <;> simp only [Go.Fw.Rows] at hx <;> try exact hx.elim
  · subst hx; simp at hr
  · subst hx; simp at hr
  · obtain ⟨rfl, _⟩ := hx; exact hz _ (List.mem_of_getElem? hr)
  · obtain ⟨t, rows', h1, _⟩ := hx; cases h1
section
variable {c0 c1 c2 c3 c4 : D} {c : Cf} (h : ∀ s, CfAt s c0 c1 c2 c3 c4 c) (hok : c.check = 0) (hz : RtsNz c4)
include h hok hz
theorem conf_Locks_ok (i : Int) : DCalls Tryz.prog n_conf_Locks [cfA c0 c1 c2 c3 c4 c, iA i] σ (SlPost σ t_int ((c.lockL i).map Go.Fw.encI)) := by
  refine (W_conf_Locks _ _ _ _ _ _ _ _ _ i σ _ ?_).ret (Q := fun r s => ∃ r' σ', Ret Tryz.prog σ s r σ' r' ∧ SlPost σ t_int ((c.lockL i).map Go.Fw.encI) r' σ') (fun r s h => h)
  intro R hR
  have nil : geti c.Rts i = none → ∃ r' σ', Ret Tryz.prog σ σ (.a (.one .nils)) σ' r' ∧ SlPost σ t_int ((c.lockL i).map Go.Fw.encI) r' σ' := fun e => by
    have : c.lockL i = [] := by unfold Cf.lockL; rw [e]
    rw [this]; exact own_fin (.nil _ (.refl _)) (flatI _)
  obtain ⟨rows, hat, hlen⟩ := rts_len (h σ)
  refine bcd (fun e => nil (geti_neg e)) (fun e0 => hat.lenK (bcd (fun e => nil (geti_ge (by omega))) (fun e1 => hR σ ?_)))
  obtain ⟨x, hx⟩ := geti_ex (l := c.Rts) (i := i) e0 (by omega)
  clear hR nil hat
  have hr := check_rt hok (geti_mem hx)
  have hll : c.lockL i = Cf.lockR x := by unfold Cf.lockL; rw [hx]
  rw [hll]
  obtain ⟨rows, d1, d2, d3, hat, hlen, hrow, q1, q2, q3⟩ := rt_frz h (geti_some hx).2.2
  have w1 := hr.len
  have w2 := hr.flen
  have w3 := hr.olen
  refine (hat σ).load hrow c_Route (by omega) ⟨_, _, _, _, _, _, rfl, (Clone_int_ok (q3 σ) ?_ (by rw [List.length_map]; omega)).mono ?_⟩
  · exact fun e => nz_over hz hat hrow (by rw [e]; rfl)
  rintro r s ⟨d, rfl, ho⟩
  refine ⟨d, rfl, (q1 σ).lenK ⟨fun d n s' => ∃ j : Nat, n = j ∧ j ≤ x.Path.length ∧ Own Tryz.prog σ s' t_int d ((x.Overlap ++ (x.Path.take j).map St.Sec).map Go.Fw.encI), fun _ n _ => x.Path.length - n.toNat, ⟨0, rfl, by omega, by simpa using ho⟩, ?_⟩⟩
  rintro d n s' ⟨j, rfl, hj, ho⟩
  rw [List.length_map]
  refine bcd (fun hlt => ?_) (fun hge => ?_)
  · obtain ⟨y, hy⟩ := get_of_lt (l := x.Path) (j := j) (by omega)
    refine (q1 s').load (map_get hy) c_Step rfl ⟨y.Sec, y.In, y.Out, rfl, newObj_intro fun id s2 hid _ he hs2 => ?_⟩
    refine (ho.ext' he).append (At.fresh hs2 (by simp) rfl) (by simp; omega) (by simp; omega) fun d4 s5 ho5 _ _ => ?_
    rw [w64_succ (by omega)]
    refine ⟨rfl, ⟨j + 1, rfl, by omega, ?_⟩, dec_lt (by omega)⟩
    have e : x.Overlap ++ (x.Path.take (j + 1)).map St.Sec = (x.Overlap ++ (x.Path.take j).map St.Sec) ++ [y.Sec] := by rw [List.take_add_one, hy]; simp
    rw [e, List.map_append]; exact ho5
  have e : j = x.Path.length := by omega
  rw [e, List.take_length] at ho
  refine (q2 s').lenK ⟨fun d n s' => ∃ j : Nat, n = j ∧ j ≤ x.Flank.length ∧ Own Tryz.prog σ s' t_int d ((x.Overlap ++ x.Path.map St.Sec ++ (x.Flank.take j).map Nd.Sec).map Go.Fw.encI), fun _ n _ => x.Flank.length - n.toNat, ⟨0, rfl, by omega, by simpa using ho⟩, ?_⟩
  rintro d n s' ⟨j, rfl, hj, ho⟩
  rw [List.length_map]
  refine bcd (fun hlt => ?_) (fun hge => ?_)
  · obtain ⟨y, hy⟩ := get_of_lt (l := x.Flank) (j := j) (by omega)
    refine (q2 s').load (map_get hy) c_Need rfl ⟨y.Sec, y.Pos, rfl, newObj_intro fun id s2 hid _ he hs2 => ?_⟩
    refine (ho.ext' he).append (At.fresh hs2 (by simp) rfl) (by simp; omega) (by simp; omega) fun d4 s5 ho5 _ _ => ?_
    rw [w64_succ (by omega)]
    refine ⟨⟨j + 1, rfl, by omega, ?_⟩, dec_lt (by omega)⟩
    have e : x.Overlap ++ x.Path.map St.Sec ++ (x.Flank.take (j + 1)).map Nd.Sec = (x.Overlap ++ x.Path.map St.Sec ++ (x.Flank.take j).map Nd.Sec) ++ [y.Sec] := by rw [List.take_add_one, hy]; simp
    rw [e, List.map_append]; exact ho5
  have e : j = x.Flank.length := by omega
  rw [e, List.take_length] at ho
  have hne : x.Overlap ++ x.Path.map St.Sec ++ x.Flank.map Nd.Sec ≠ [] := by
    intro e
    have := congrArg List.length e
    simp only [List.length_append, List.length_map, List.length_nil] at this; omega
  refine (Sort_int_ok ho hne).mono ?_
  rintro r s2 ⟨rfl, ho⟩
  refine ⟨rfl, (Compact_int_ok ho (fun e => hne (by
    have := congrArg List.length e
    simp only [sorted, List.length_mergeSort] at this
    exact List.length_eq_zero_iff.1 this)) (sorted_pair _)).mono ?_⟩
  rintro r s3 ⟨d', rfl, ho⟩
  exact ⟨d', rfl, own_fin ho (flatI _)⟩
end
end Go.Proofs.YtcbmibgfmlpobaaGreat
end
section
set_option linter.unusedVariables false
set_option linter.unusedSimpArgs false
namespace Go.Proofs.YtcbmibgfmlpobaaGreat
open Go.Fw Go.Proofs Go.RowKit
variable {σ σ0 : Store}
def cfC (c0 c1 c2 c3 c4 : D) (c : Cf) : List D := [c0, c1, c2, c3, c4, iD c.Age, iD c.Brake, iD c.Hold, iD c.Budget]
theorem CoOwn.from {σ1 s : Store} {d0 d1 d2 d3 d4 d5 : D} {k : Co} (he : Ext σ σ1) (h : CoOwn σ1 s d0 d1 d2 d3 d4 d5 k) : CoOwn σ s d0 d1 d2 d3 d4 d5 k :=
  ⟨h.own.from he, h.routes.from he, h.points.from he, h.xs.from he, h.lines.from he, h.resets.from he, h.apart⟩
theorem CoAt.ext' {s : Store} {d0 d1 d2 d3 d4 d5 : D} {k : Co} (h : CoAt σ d0 d1 d2 d3 d4 d5 k) (he : Ext σ s) : CoAt s d0 d1 d2 d3 d4 d5 k :=
  ⟨h.own.ext he, h.routes.ext he, h.points.ext he, h.xs.ext he, h.lines.ext he, h.resets.ext he⟩
theorem locks_open_ok {c0 c1 c2 c3 c4 : D} {c : Cf} (hc : ∀ s, CfAt s c0 c1 c2 c3 c4 c) {k0 k1 k2 k3 k4 k5 : D} {k : Co} (h : CoAt σ k0 k1 k2 k3 k4 k5 k) (hf : CoFit k0 k1 k2 k3 k4 k5 k) :
    DCalls Tryz.prog n_locks_open [cfA c0 c1 c2 c3 c4 c, coA k0 k1 k2 k3 k4 k5 k.Dirty] σ fun r s =>
      ∃ id d0 d1 d2 d3 d4 d5, r = .tup [.one (.el (.osl id 0 1) 0 0), bA (k.fits c)] ∧ CoIn σ s id t_locks_desk (cfC c0 c1 c2 c3 c4 c) [] d0 d1 d2 d3 d4 d5 k := by
  refine W_locks_open _ _ _ _ _ _ _ _ _ k0 k1 k2 k3 k4 k5 k.Dirty σ _ (newObj_intro fun id a0 hid _ e0 q0 => ?_)
  have nid : ∀ {s0 s : Store} {el : TypeId} {d : D} {rs : List (List D)}, Own Tryz.prog s0 s el d rs → s0 id ≠ .free → idOf d ≠ some id := by
    intro s0 s el d rs ho hne he
    cases d with
    | osl i a n =>
      have : i = id := by simpa [idOf] using he
      subst this
      exact hne (ho.new _ _ _ rfl)
    | _ => simp [idOf] at he
  have n0 : a0 id ≠ .free := by rw [q0]; intro e; cases e
  refine (Clone_int_ok (h.own.ext e0) hf.n0 (by rw [List.length_map]; exact hf.b0)).mono ?_
  rintro r b0 ⟨d0, rfl, o0⟩
  refine ⟨d0, rfl, cell_store ((o0.ext id n0).trans q0) (by simp [patch]) fun a1 q1 f0 => ?_⟩
  have i0 := nid o0 n0
  have p0 := own_other (o0.from e0) hid i0 f0
  have e1 := p0.ext
  have n1 : a1 id ≠ .free := by rw [q1]; intro e; cases e
  refine (Clone_RouteState_ok (h.routes.ext e1) hf.n1 (by rw [List.length_map]; exact hf.b1)).mono ?_
  rintro r b1 ⟨d1, rfl, o1⟩
  refine ⟨d1, rfl, cell_store ((o1.ext id n1).trans q1) (by simp [patch]) fun a2 q2 f1 => ?_⟩
  have i1 := nid o1 n1
  have ap01 := o1.apart p0.at_
  have p0 := own_other (p0.ext' o1.ext) hid i0 f1
  have p1 := own_other (o1.from e1) hid i1 f1
  have e2 := p1.ext
  have n2 : a2 id ≠ .free := by rw [q2]; intro e; cases e
  refine (Clone_Mover_ok (h.points.ext e2) hf.n2 (by rw [List.length_map]; exact hf.b2)).mono ?_
  rintro r b2 ⟨d2, rfl, o2⟩
  refine ⟨d2, rfl, cell_store ((o2.ext id n2).trans q2) (by simp [patch]) fun a3 q3 f2 => ?_⟩
  have i2 := nid o2 n2
  have ap02 := o2.apart p0.at_
  have ap12 := o2.apart p1.at_
  have p0 := own_other (p0.ext' o2.ext) hid i0 f2
  have p1 := own_other (p1.ext' o2.ext) hid i1 f2
  have p2 := own_other (o2.from e2) hid i2 f2
  have e3 := p2.ext
  have n3 : a3 id ≠ .free := by rw [q3]; intro e; cases e
  refine (Clone_Mover_ok (h.xs.ext e3) hf.n3 (by rw [List.length_map]; exact hf.b3)).mono ?_
  rintro r b3 ⟨d3, rfl, o3⟩
  refine ⟨d3, rfl, cell_store ((o3.ext id n3).trans q3) (by simp [patch]) fun a4 q4 f3 => ?_⟩
  have i3 := nid o3 n3
  have ap03 := o3.apart p0.at_
  have ap13 := o3.apart p1.at_
  have ap23 := o3.apart p2.at_
  have p0 := own_other (p0.ext' o3.ext) hid i0 f3
  have p1 := own_other (p1.ext' o3.ext) hid i1 f3
  have p2 := own_other (p2.ext' o3.ext) hid i2 f3
  have p3 := own_other (o3.from e3) hid i3 f3
  have e4 := p3.ext
  have n4 : a4 id ≠ .free := by rw [q4]; intro e; cases e
  refine (Clone_LineState_ok (h.lines.ext e4) hf.n4 (by rw [List.length_map]; exact hf.b4)).mono ?_
  rintro r b4 ⟨d4, rfl, o4⟩
  refine ⟨d4, rfl, cell_store ((o4.ext id n4).trans q4) (by simp [patch]) fun a5 q5 f4 => ?_⟩
  have i4 := nid o4 n4
  have ap04 := o4.apart p0.at_
  have ap14 := o4.apart p1.at_
  have ap24 := o4.apart p2.at_
  have ap34 := o4.apart p3.at_
  have p0 := own_other (p0.ext' o4.ext) hid i0 f4
  have p1 := own_other (p1.ext' o4.ext) hid i1 f4
  have p2 := own_other (p2.ext' o4.ext) hid i2 f4
  have p3 := own_other (p3.ext' o4.ext) hid i3 f4
  have p4 := own_other (o4.from e4) hid i4 f4
  have e5 := p4.ext
  have n5 : a5 id ≠ .free := by rw [q5]; intro e; cases e
  refine (Clone_int_ok (h.resets.ext e5) hf.n5 (by rw [List.length_map]; exact hf.b5)).mono ?_
  rintro r b5 ⟨d5, rfl, o5⟩
  refine ⟨d5, rfl, cell_store ((o5.ext id n5).trans q5) (by simp [patch]) fun a6 q6 f5 => ?_⟩
  have i5 := nid o5 n5
  have ap05 := o5.apart p0.at_
  have ap15 := o5.apart p1.at_
  have ap25 := o5.apart p2.at_
  have ap35 := o5.apart p3.at_
  have ap45 := o5.apart p4.at_
  have p0 := own_other (p0.ext' o5.ext) hid i0 f5
  have p1 := own_other (p1.ext' o5.ext) hid i1 f5
  have p2 := own_other (p2.ext' o5.ext) hid i2 f5
  have p3 := own_other (p3.ext' o5.ext) hid i3 f5
  have p4 := own_other (p4.ext' o5.ext) hid i4 f5
  have p5 := own_other (o5.from e5) hid i5 f5
  have e6 := p5.ext
  have n6 : a6 id ≠ .free := by rw [q6]; intro e; cases e
  refine (locks_Fits_ok hc (h.ext' e6)).use ⟨_, rfl, id, d0, d1, d2, d3, d4, d5, rfl, hid, q6, ⟨p0, p1, p2, p3, p4, p5, ?_⟩, ?_⟩
  · simp only [List.pairwise_cons, List.mem_cons, List.not_mem_nil, or_false, forall_eq_or_imp, forall_eq, List.Pairwise.nil, and_true, false_imp_iff, implies_true]
    exact ⟨⟨ap01, ap02, ap03, ap04, ap05⟩, ⟨ap12, ap13, ap14, ap15⟩, ⟨ap23, ap24, ap25⟩, ⟨ap34, ap35⟩, ap45⟩
  · intro d hd
    simp only [List.mem_cons, List.not_mem_nil, or_false] at hd
    rcases hd with rfl | rfl | rfl | rfl | rfl | rfl <;> assumption
end Go.Proofs.YtcbmibgfmlpobaaGreat
end
section
set_option linter.unusedVariables false
set_option linter.unusedSimpArgs false
namespace Go.Proofs.YtcbmibgfmlpobaaGreat
open Go.Fw Go.Proofs Go.RowKit
variable {σ σ0 : Store}
section
variable {c0 c1 c2 c3 c4 : D} {c : Cf} (hc : ∀ s, CfAt s c0 c1 c2 c3 c4 c)
def Does (σ0 : Store) (c0 c1 c2 c3 c4 : D) (c : Cf) (k : Co) (f : FuncId) (bs : List A) (E : Int) (Y : Co) (s : Store) : Prop :=
  ∀ id d0 d1 d2 d3 d4 d5 s1, Ext s s1 → CoIn σ0 s1 id t_locks_desk (cfC c0 c1 c2 c3 c4 c) [] d0 d1 d2 d3 d4 d5 k →
    DCalls Tryz.prog f ([] ++ [.one (.el (.osl id 0 1) 0 0)] ++ bs) s1 fun r s' => r = .a (iA E) ∧ Ext σ0 s' ∧ (E = 0 → CoIn σ0 s' id t_locks_desk (cfC c0 c1 c2 c3 c4 c) [] d0 d1 d2 d3 d4 d5 Y)
include hc
theorem locks_change_ok {k0 k1 k2 k3 k4 k5 : D} {k Y : Co} {E : Int} {f : FuncId} {b : List (Bool × List D)} {bs : List A} (h : CoAt σ k0 k1 k2 k3 k4 k5 k) (hf : CoFit k0 k1 k2 k3 k4 k5 k) (now : Int) (hb : capAs b = some bs)
    (hd : k.fits c = true → tm 0 now = true → Does σ c0 c1 c2 c3 c4 c k f bs E Y σ) :
    DCalls Tryz.prog n_locks_change [cfA c0 c1 c2 c3 c4 c, coA k0 k1 k2 k3 k4 k5 k.Dirty, iA now, .one (.fn f [] b)] σ (CoPost σ (k.done (k.gate c now E) Y)) := by
  refine W_locks_change _ _ _ _ _ _ _ _ _ k0 k1 k2 k3 k4 k5 k.Dirty now _ σ _ ((locks_open_ok hc h hf).mono ?_)
  rintro r s1 ⟨id, d0, d1, d2, d3, d4, d5, rfl, hI⟩
  refine ⟨_, _, rfl, ?_⟩
  intro R hR
  have bad : ∀ (e : Int) s, Ext σ s → e ≠ 0 → k.gate c now E = e → R e s := fun e s he hne hg => by
    refine hR e s ?_
    rw [show (e != 0) = true by simpa using hne]
    refine (locks_open_ok hc (h.ext' he) hf).mono ?_
    rintro r s2 ⟨id, d0, d1, d2, d3, d4, d5, rfl, hI2⟩
    refine ⟨_, _, rfl, trivial, _, _, _, rfl, _, box_row hI2.row, d0, d1, d2, d3, d4, d5, k.Dirty, rfl, ?_⟩
    rw [Co.done, hg, if_neg hne]
    exact ⟨d0, d1, d2, d3, d4, d5, rfl, hI2.co.from he⟩
  refine bcnot (fun e1 => ⟨rfl, bad 21 s1 hI.ext (by decide) (by rw [Co.gate, if_pos e1])⟩) (fun e1 => ?_)
  have hg1 : k.gate c now E = if tm 0 now = false then 32 else E := by rw [Co.gate, if_neg (by rw [e1]; decide)]
  refine newObj_intro fun id2 s2 hid2 _ he2 hs2 => ?_
  have hat : At Tryz.prog s2 t_int (.osl id2 0 1) ([now].map Go.Fw.encI) := At.fresh hs2 (by simp) rfl
  refine (locks_times_ok 0 (by omega) hat).use ⟨_, rfl, ?_⟩
  have ht : ([now].all fun n => decide (0 ≤ n ∧ n ≤ 4294967295 + 0)) = tm 0 now := by simp [tm]
  rw [ht]
  refine bcnot (fun e2 => ⟨rfl, bad 32 s2 (hI.ext.trans he2) (by decide) (by rw [hg1, if_pos e2])⟩) (fun e2 => ?_)
  rw [if_neg (by rw [e2]; decide)] at hg1
  have hI2 : CoIn σ s2 id t_locks_desk (cfC c0 c1 c2 c3 c4 c) [] d0 d1 d2 d3 d4 d5 k :=
    ⟨hI.new, (he2 id (by rw [hI.row]; intro e; cases e)).trans hI.row, ⟨hI.co.own.ext' he2, hI.co.routes.ext' he2, hI.co.points.ext' he2, hI.co.xs.ext' he2, hI.co.lines.ext' he2, hI.co.resets.ext' he2, hI.co.apart⟩, hI.ids⟩
  refine ⟨f, [], b, [], bs, rfl, rfl, hb, (hd e1 e2 id d0 d1 d2 d3 d4 d5 s2 (hI.ext.trans he2) hI2).mono ?_⟩
  rintro r s3 ⟨rfl, he3, hy⟩
  refine ⟨E, rfl, rfl, ?_⟩
  by_cases hE : E = 0
  · subst hE
    have hI3 := hy rfl
    refine hR 0 s3 ?_
    refine ⟨trivial, _, _, _, rfl, _, box_row hI3.row, d0, d1, d2, d3, d4, d5, Y.Dirty, rfl, ?_⟩
    rw [Co.done, hg1, if_pos rfl]
    exact ⟨d0, d1, d2, d3, d4, d5, rfl, hI3.co⟩
  · exact bad E s3 he3 hE hg1
omit hc
variable {id : Nat} {t : TypeId} {d0 d1 d2 d3 d4 d5 : D} {k : Co}
theorem desk_state_ok (hI : CoIn σ0 σ id t (cfC c0 c1 c2 c3 c4 c) [] d0 d1 d2 d3 d4 d5 k) (r : Int) :
    Pure Tryz.prog n_locks_desk_state [.one (.el (.osl id 0 1) 0 0), iA r] σ (match geti k.Routes r with | none => .tup [.one .nilp, iA 20] | some _ => .tup [.one (.el d1 r.toNat 0), iA 0]) := by
  have hs := hI.at.routes.size
  rw [List.length_map] at hs
  refine W_locks_desk_state _ r σ _ ⟨trivial, _, _, _, rfl, _, box_row hI.row, d1, rfl, hI.at.routes.lenK ((locks_between_ok _ _ _).use ⟨_, rfl, ?_⟩)⟩
  rw [List.length_map, w64_id (by omega) (by omega)]
  refine bcnot (fun e => ?_) (fun e => ?_)
  · have e := of_decide_eq_false e
    have : geti k.Routes r = none := by
      by_cases h0 : r < 0
      · exact geti_neg h0
      · exact geti_ge (by omega)
    rw [this]; exact ⟨rfl, rfl⟩
  · have e := of_decide_eq_true e
    obtain ⟨x, hx⟩ := geti_ex (l := k.Routes) (i := r) (by omega) (by omega)
    rw [hx]
    refine ⟨trivial, _, _, _, rfl, _, box_row hI.row, d1, rfl, hI.at.routes.idxK c_RouteState (Int.toNat_of_nonneg e.1).symm (by rw [List.length_map]; omega) ⟨rfl, rfl⟩⟩
include hc
theorem desk_inherits_ok (hI : CoIn σ0 σ id t (cfC c0 c1 c2 c3 c4 c) [] d0 d1 d2 d3 d4 d5 k) {r s o : Int} (ho : geti k.Own s = some o) (hlo : -2 ≤ o ∧ o ≤ c.Rts.length) (hr : 0 ≤ r ∧ r < c.Rts.length) :
    Pure Tryz.prog n_locks_desk_inherits [.one (.el (.osl id 0 1) 0 0), iA r, iA s] σ (.a (bA (k.inh c r s))) := by
  obtain ⟨g1, g2, g3⟩ := geti_some ho
  have w : w64 (o - 1) = o - 1 := w64_id (by omega) (by have := (rts_len (hc σ)); obtain ⟨rows, ha, hl⟩ := this; have := ha.size; omega)
  have hi : k.inh c r s = (decide (0 ≤ o - 1 ∧ o - 1 ≠ r) && (decide ((c.rt (o - 1)).Exit = (c.rt r).Entry) && inL (c.rt (o - 1)).Overlap s)) := by
    unfold Co.inh; rw [ho]; rfl
  have no : ¬ (0 ≤ o - 1 ∧ o - 1 ≠ r) → k.inh c r s = false := fun e => by rw [hi, decide_eq_false e]; rfl
  refine W_locks_desk_inherits _ r s σ _ ⟨trivial, _, _, _, rfl, _, box_row hI.row, d0, rfl, hI.at.own.load (map_get g3) c_int (Int.toNat_of_nonneg g1).symm ⟨o, rfl, ?_⟩⟩
  rw [w]
  refine bcd (fun e => by rw [no (by omega)]; exact ⟨rfl, rfl⟩) (fun e1 => bce (fun e => by rw [no (by omega)]; exact ⟨rfl, rfl⟩) (fun e2 => ?_))
  obtain ⟨q, hq⟩ := geti_ex (l := c.Rts) (i := o - 1) e1 (by omega)
  obtain ⟨x, hx⟩ := geti_ex (l := c.Rts) (i := r) (by omega) (by omega)
  obtain ⟨rows, q1, q2, q3, hat, hlen, hrow, f1, f2, f3⟩ := rt_frz hc (geti_some hq).2.2
  obtain ⟨rows', x1, x2, x3, hat', hlen', hrow', _, _, _⟩ := rt_frz hc (geti_some hx).2.2
  rw [hi, decide_eq_true (by omega), rt_some hq, rt_some hx, Bool.true_and]
  refine ⟨trivial, _, _, _, rfl, _, box_row hI.row, c4, rfl, (hat σ).load hrow c_Route (by omega) ⟨_, _, _, _, _, _, rfl, trivial, _, _, _, rfl, _, box_row hI.row, c4, rfl, (hat' σ).load hrow' c_Route (by omega) ⟨x.Entry, rfl, bce (fun e => ?_) (fun e => ?_)⟩⟩⟩
  · exact (Contains_int_ok s (f3 σ)).use ⟨_, rfl, by rw [decide_eq_true e]; exact ⟨rfl, rfl⟩⟩
  · rw [decide_eq_false e]; exact ⟨rfl, rfl⟩
theorem desk_may_ok' (hI : CoIn σ0 σ id t (cfC c0 c1 c2 c3 c4 c) [] d0 d1 d2 d3 d4 d5 k) {r : Int} {ds : D} {l : List Int} (hl : At Tryz.prog σ t_int ds (l.map Go.Fw.encI)) (hr : 0 ≤ r ∧ r < c.Rts.length)
    (hin : ∀ s ∈ l, ∃ o, geti k.Own s = some o) (hlo : ∀ o ∈ k.Own, -2 ≤ o ∧ o ≤ c.Rts.length) :
    Pure Tryz.prog n_locks_desk_may [.one (.el (.osl id 0 1) 0 0), iA r, .one ds] σ (.a (iA (k.may c r l))) := by
  have hs := hI.at.routes.size
  rw [List.length_map] at hs
  have hls := hl.size
  rw [List.length_map] at hls
  refine W_locks_desk_may _ r _ σ _ ⟨trivial, _, _, _, rfl, _, box_row hI.row, d1, rfl, hI.at.routes.lenK ⟨fun n s => s = σ ∧ Rng k.Routes (fun q => apprS c l q n.toNat = apprS c l k.Routes 0) n, fun n _ => k.Routes.length - n.toNat, ⟨rfl, .start rfl⟩, ?_⟩⟩
  rintro n s ⟨rfl, hq⟩
  rw [List.length_map]
  refine bcd (fun hlt => ?_) (fun hge => ?_)
  · obtain ⟨j, x, rfl, hx, hj, hF, nx⟩ := hq.step rfl (by omega) hlt
    rw [apprS, Int.toNat_natCast] at hF
    have next : (decide (x.State ≠ 0) && inL l (c.Approach j)) = false → (s = s ∧ Rng k.Routes (fun q => apprS c l q (w64 ((j : Int) + 1)).toNat = apprS c l k.Routes 0) (w64 ((j : Int) + 1))) ∧ k.Routes.length - (w64 ((j : Int) + 1)).toNat < k.Routes.length - (j : Int).toNat := fun e => by
      rw [e, Bool.false_or] at hF
      exact andl rfl (nx _ (by rw [w64_succ (by omega), Int.toNat_natCast]; exact hF))
    refine hI.at.routes.load (map_get hx) c_RouteState rfl ⟨x.State, x.Since, x.Next, x.Mark, rfl, bcn (fun e => ?_) (fun e => next (by rw [decide_eq_false (by simpa using e)]; rfl))⟩
    refine ⟨trivial, _, _, _, rfl, _, box_row hI.row, c0, c1, c2, c3, c4, _, _, _, _, rfl, (conf_Approach_ok (hc s) j).use ⟨_, rfl, (Contains_int_ok _ hl).use ⟨_, rfl, bc (fun e2 => ?_) (fun e2 => next (by rw [e2, Bool.and_false]))⟩⟩⟩
    have : apprS c l k.Routes 0 = true := by rw [← hF, e2, decide_eq_true e]; rfl
    rw [Co.may, if_pos this]; exact ⟨rfl, rfl⟩
  · have hF := hq.done rfl hge
    have hap : apprS c l k.Routes 0 = false := by rw [← hF]; rfl
    have hm : k.may c r l = if k.blocked c r l = true then 22 else 0 := by rw [Co.may, if_neg (by rw [hap]; decide)]
    rw [hm]
    refine hl.lenK ⟨fun n s' => s' = s ∧ Rng l (fun q => k.blocked c r q = k.blocked c r l) n, fun n _ => l.length - n.toNat, ⟨rfl, .start rfl⟩, ?_⟩
    rintro n s' ⟨rfl, hq⟩
    rw [List.length_map]
    refine bcd (fun hlt => ?_) (fun hge => ?_)
    · obtain ⟨j, v, rfl, hv, hj, hF, nx⟩ := hq.step rfl (by omega) hlt
      obtain ⟨o, ho⟩ := hin v (List.mem_of_getElem? hv)
      obtain ⟨g1, g2, g3⟩ := geti_some ho
      have hF : ((decide ((geti k.Own v).getD 0 ≠ 0) && !k.inh c r v) || k.blocked c r (l.drop (j + 1))) = k.blocked c r l := hF
      rw [ho, Option.getD_some] at hF
      refine hl.load (map_get hv) c_int rfl ⟨v, rfl, trivial, _, _, _, rfl, _, box_row hI.row, d0, rfl, hI.at.own.load (map_get g3) c_int (Int.toNat_of_nonneg g1).symm ⟨o, rfl, bcn (fun e => ?_) (fun e => ?_)⟩⟩
      · refine (desk_inherits_ok hc hI ho (hlo o (geti_mem ho)) hr).use ⟨_, rfl, bcnot (fun e2 => ?_) (fun e2 => ?_)⟩
        · rw [e2, decide_eq_true e] at hF
          rw [if_pos (by rw [← hF]; rfl)]; exact ⟨rfl, rfl⟩
        · rw [e2, Bool.not_true, Bool.and_false, Bool.false_or] at hF
          exact andl rfl (nx _ hF)
      · rw [decide_eq_false (by simpa using e), Bool.false_and, Bool.false_or] at hF
        exact andl rfl (nx _ hF)
    · have hF := hq.done rfl hge
      rw [if_neg (by rw [← hF]; show ¬ (false = true); decide)]; exact ⟨rfl, rfl⟩
end
end Go.Proofs.YtcbmibgfmlpobaaGreat
end
section
set_option linter.unusedVariables false
set_option linter.unusedSimpArgs false
namespace Go.Proofs.YtcbmibgfmlpobaaGreat
open Go.Fw Go.Proofs Go.RowKit
variable {σ σ0 : Store}
def cmdPre (xs : List A) (s : Store) : Prop := ∃ (m : Mv) (now cmd : Int), xs = [.agg m.enc, iA now, iA cmd]
def cmdPost (xs : List A) (s : Store) (r : RV) (s' : Store) : Prop := ∃ (m : Mv) (now cmd : Int), xs = [.agg m.enc, iA now, iA cmd] ∧ r = .a (.agg (cmdM m now cmd).enc) ∧ s' = s
theorem mover_Command_ok (m : Mv) (now cmd : Int) : Pure Tryz.prog n_mover_Command [.agg m.enc, iA now, iA cmd] σ (.a (.agg (cmdM m now cmd).enc)) :=
  W_mover_Command m.Cmd m.Other now cmd σ _ (bcn (fun e => ⟨by rw [cmdM, if_pos e]; rfl, rfl⟩) (fun e => ⟨by rw [cmdM, if_neg (by simpa using e)]; rfl, rfl⟩))
theorem cmd_spec : SpecOk Tryz.prog n_mover_Command cmdPre cmdPost := by
  refine ⟨?_, ?_, ?_, ?_, ?_⟩
  · rintro xs s ⟨m, now, cmd, rfl⟩
    exact (mover_Command_ok m now cmd).use ⟨m, now, cmd, rfl, rfl, rfl⟩
  · rintro xs s ⟨m, now, cmd, rfl⟩ hf
    exact ⟨_, s, ⟨m, now, cmd, rfl, rfl, rfl⟩, hf⟩
  · rintro xs s r s' ⟨m, now, cmd, rfl, rfl, rfl⟩ hf
    exact hf
  · rintro xs s id so hid hso ⟨m, now, cmd, rfl⟩
    refine ⟨⟨m, now, cmd, rfl⟩, ?_⟩
    rintro r s' ⟨m, now, cmd, e, rfl, rfl⟩
    exact ⟨s, ⟨m, now, cmd, e, rfl, rfl⟩, hid, rfl⟩
  · rintro xs s r s' _ ⟨m, now, cmd, rfl, rfl, rfl⟩ i _
    rfl
theorem cmd_post {m : Mv} {now cmd : Int} {s s' : Store} {r : RV} (h : cmdPost [.agg m.enc, iA now, iA cmd] s r s') : r = .a (.agg (cmdM m now cmd).enc) ∧ s' = s := by
  obtain ⟨m', now', cmd', e, h1, h2⟩ := h
  injection e with e1 e2
  injection e2 with e2 e3
  injection e3 with e3 _
  injection e1 with e1
  injection e2 with e2
  injection e3 with e3
  injection e2 with _ e2
  injection e3 with _ e3
  subst e2 e3
  have : m = m' := by
    cases m; cases m'
    simp [Mv.enc, iD] at e1
    simp [e1]
  subst this
  exact ⟨h1, h2⟩
section
variable {c0 c1 c2 c3 c4 : D} {c : Cf} (hc : ∀ s, CfAt s c0 c1 c2 c3 c4 c) {id : Nat} {t : TypeId} {d0 d1 d2 d3 d4 d5 : D} {k : Co}
include hc
theorem desk_line_ok' (hI : CoIn σ0 σ id t (cfC c0 c1 c2 c3 c4 c) [] d0 d1 d2 d3 d4 d5 k) (hok : c.check = 0) (hl4 : k.Lines.length = 4) {r : Int} {x : Rt} (hx : geti c.Rts r = some x) :
    Pure Tryz.prog n_locks_desk_line [.one (.el (.osl id 0 1) 0 0), iA r] σ (.a (.one (if lineF c x.Path > 0 then .el d4 (lineF c x.Path).toNat 0 else .nilp))) := by
  have hr := check_rt hok (geti_mem hx)
  obtain ⟨rows, q1, q2, q3, hat, hlen, hrow, f1, f2, f3⟩ := rt_frz hc (geti_some hx).2.2
  have hg := geti_some hx
  have w1 := hr.len
  refine W_locks_desk_line _ r σ _ ⟨trivial, _, _, _, rfl, _, box_row hI.row, c4, rfl, (hat σ).load hrow c_Route (by omega) ⟨q1, rfl, (f1 σ).lenK ⟨fun n s => s = σ ∧ Rng x.Path (fun q => lineF c q = lineF c x.Path) n, fun n _ => x.Path.length - n.toNat, ⟨rfl, .start rfl⟩, ?_⟩⟩⟩
  rintro n s ⟨rfl, hq⟩
  rw [List.length_map]
  refine bcd (fun hlt => ?_) (fun hge => ?_)
  · obtain ⟨j, y, rfl, hy, hj, hF, nx⟩ := hq.step rfl (by omega) hlt
    obtain ⟨z, hz, _⟩ := (hr.step y (List.mem_of_getElem? hy)).1.sec
    have hgz := geti_some hz
    rw [lineF, hz, Option.getD_some] at hF
    refine (f1 s).load (map_get hy) c_Step rfl ⟨y.Sec, y.In, y.Out, rfl, trivial, _, _, _, rfl, _, box_row hI.row, c0, rfl, (hc s).secs.load (map_get hgz.2.2) c_Section (Int.toNat_of_nonneg hgz.1).symm ⟨z.Line, rfl, bcd (fun e => ?_) (fun e => ?_)⟩⟩
    · rw [if_pos e] at hF
      rw [← hF, if_pos e]
      have hz3 := topo_line (check_parts hok).1 hgz.2.2
      exact ⟨trivial, _, _, _, rfl, _, box_row hI.row, d4, rfl, hI.at.lines.idxK c_LineState (Int.toNat_of_nonneg (by omega)).symm (by rw [List.length_map]; omega) ⟨rfl, rfl⟩⟩
    · rw [if_neg e] at hF
      exact andl rfl (nx _ hF)
  · have hF := hq.done rfl hge
    rw [← hF]; exact ⟨rfl, rfl⟩
theorem desk_request_ok (hI : CoIn σ0 σ id t (cfC c0 c1 c2 c3 c4 c) [] d0 d1 d2 d3 d4 d5 k) (hz : RtsNz c4) (hfit : k.fits c = true) (now r : Int) :
    DCalls Tryz.prog n_locks_desk_request [.one (.el (.osl id 0 1) 0 0), iA now, iA r] σ fun q s' => q = .a (iA (k.reqE c r)) ∧ Ext σ0 s' ∧ (k.reqE c r = 0 → CoIn σ0 s' id t (cfC c0 c1 c2 c3 c4 c) [] d0 d1 d2 d3 d4 d5 (k.lockC c now r)) := by
  have hfi := fits_iff.1 hfit
  have hok := hfi.chk
  have err : ∀ e : Int, k.reqE c r = e → e ≠ 0 → (RV.a (iA e) = RV.a (iA (k.reqE c r)) ∧ Ext σ0 σ ∧ (k.reqE c r = 0 → CoIn σ0 σ id t (cfC c0 c1 c2 c3 c4 c) [] d0 d1 d2 d3 d4 d5 (k.lockC c now r))) := fun e h1 h2 =>
    ⟨by rw [h1], hI.ext, fun h3 => absurd (h1.symm.trans h3) h2⟩
  refine W_locks_desk_request _ now r σ _ ((desk_state_ok hI r).use ?_)
  cases hgr : geti k.Routes r with
  | none => exact ⟨_, _, rfl, err 20 (by rw [Co.reqE, hgr]) (by decide)⟩
  | some x =>
    have hgx := geti_some hgr
    have hsz := hI.at.routes.size
    rw [List.length_map] at hsz
    have hxl := (List.getElem?_eq_some_iff.1 hgx.2.2).1
    have hE : k.reqE c r = if x.State ≠ 0 then 28 else if k.may c r (c.lockL r) ≠ 0 then k.may c r (c.lockL r) else if lineF c (c.rt r).Path > 0 ∧ ((geti k.Lines (lineF c (c.rt r).Path)).getD zLs).Ask ≥ 4294967295 then 5 else 0 := by
      rw [Co.reqE, hgr]
    obtain ⟨y, hy, hym⟩ := rt_of hfi hgr
    have hrok := check_rt hok hym
    have hyl := (List.getElem?_eq_some_iff.1 (geti_some hy).2.2).1
    have hcl : c.Rts.length = k.Routes.length := hfi.lRts.symm
    have hll : c.lockL r = Cf.lockR y := by unfold Cf.lockL; rw [hy]
    have hsec : ∀ s ∈ c.lockL r, ∃ z, geti c.Secs s = some z := fun s hs => lockR_sec hrok (by rw [← hll]; exact hs)
    refine ⟨_, _, rfl, ?_⟩
    show bcase ((0 : Int) != 0) _ _
    rw [show ((0 : Int) != 0) = false from by decide]
    refine ⟨trivial, _, _, _, rfl, _, hI.at.routes.row (map_get hgx.2.2), x.State, rfl, bcn (fun e => err 28 (by rw [hE, if_pos e]) (by decide)) (fun e1 => ?_)⟩
    rw [if_neg (by simpa using e1)] at hE
    refine ⟨trivial, _, _, _, rfl, _, box_row hI.row, c0, c1, c2, c3, c4, _, _, _, _, rfl, (conf_Locks_ok hc hok hz r).mono ?_⟩
    rintro q s ⟨rfl, d7, rfl, h7⟩
    have hin : ∀ v ∈ c.lockL r, ∃ o, geti k.Own v = some o := fun v hv => by
      obtain ⟨z, hz⟩ := hsec v hv
      have hg := geti_some hz
      have := (List.getElem?_eq_some_iff.1 hg.2.2).1
      exact geti_ex (by omega) (by have := hfi.lOwn; omega)
    refine ⟨d7, rfl, (desk_may_ok' hc hI (h7 s) (by omega) hin hfi.own).use ⟨_, rfl, bcn (fun e => err _ (by rw [hE, if_pos e]) e) (fun e2 => ?_)⟩⟩
    rw [if_neg (by simpa using e2), rt_some hy] at hE
    intro R hR
    have body : (lineF c y.Path > 0 → ((geti k.Lines (lineF c y.Path)).getD zLs).Ask < 4294967295) → ∀ s3, CoIn σ0 s3 id t (cfC c0 c1 c2 c3 c4 c) [] d0 d1 d2 d3 d4 d5 { k with Lines := askC (lineF c y.Path) k.Lines } → R s3 := by
      intro hask s3 hI3
      have hE0 : k.reqE c r = 0 := by rw [hE, if_neg (by intro h; have := hask h.1; omega)]
      refine hR s3 ?_
      have hz7 := (h7 s3).size
      rw [List.length_map] at hz7
      refine (h7 s3).lenK ⟨fun n s => ∃ j : Nat, n = j ∧ j ≤ (c.lockL r).length ∧ CoIn σ0 s id t (cfC c0 c1 c2 c3 c4 c) [] d0 d1 d2 d3 d4 d5 { k with Lines := askC (lineF c y.Path) k.Lines, Own := ((c.lockL r).take j).foldl (fun w s => w.set s.toNat (r + 1)) k.Own },
        fun n _ => (c.lockL r).length - n.toNat, ⟨0, rfl, by omega, by simpa using hI3⟩, ?_⟩
      rintro n s4 ⟨j, rfl, hj, hI4⟩
      rw [List.length_map]
      refine bcd (fun hlt => ?_) (fun hge => ?_)
      · obtain ⟨v, hv⟩ := get_of_lt (l := c.lockL r) (j := j) (by omega)
        obtain ⟨o, ho⟩ := hin v (List.mem_of_getElem? hv)
        have hgo := geti_some ho
        have hvl := (List.getElem?_eq_some_iff.1 hgo.2.2).1
        have hlo := ownC_len (r + 1) ((c.lockL r).take j) k.Own
        obtain ⟨o', ho'⟩ := get_of_lt (l := ((c.lockL r).take j).foldl (fun w s => w.set s.toNat (r + 1)) k.Own) (j := v.toNat) (by omega)
        refine (h7 s4).load (map_get hv) c_int rfl ⟨v, rfl, trivial, _, _, _, rfl, _, box_row hI4.row, d0, rfl, hI4.at.own.idxK c_int (Int.toNat_of_nonneg hgo.1).symm (by simp only [List.length_map]; omega) ?_⟩
        rw [w64_id (n := r + 1) (by omega) (by omega)]
        refine hI4.putO (k := { k with Lines := askC (lineF c y.Path) k.Lines, Own := ((c.lockL r).take j).foldl (fun w s => w.set s.toNat (r + 1)) k.Own }) (y := r + 1) ho' rfl (by simp) rfl fun s5 hI5 _ => ?_
        rw [w64_succ (by omega)]
        refine ⟨⟨j + 1, rfl, by omega, ?_⟩, dec_lt (by omega)⟩
        rw [List.take_add_one, hv, List.foldl_append]
        exact hI5
      have e : j = (c.lockL r).length := by omega
      rw [e, List.take_length] at hI4
      have hxr := hgx.2.2
      refine ⟨trivial, _, _, _, rfl, hI4.putR (k := { k with Lines := askC (lineF c y.Path) k.Lines, Own := (c.lockL r).foldl (fun w s => w.set s.toNat (r + 1)) k.Own }) (y := ⟨1, 0, 0, 0⟩) hxr rfl (by simp) rfl fun s5 hI5 _ => ?_⟩
      have hyn : (c.rt r).Path.length ≤ 2 ^ 20 := by rw [rt_some hy]; have := hrok.len; omega
      have hyf : (c.rt r).Flank.length ≤ 2 ^ 20 := by rw [rt_some hy]; have := hrok.flen; omega
      refine ⟨trivial, _, _, _, rfl, _, box_row hI5.row, c0, c1, c2, c3, c4, _, _, _, _, rfl, (mover_Needs_ok hc r hyn hyf).mono ?_⟩
      rintro q s6 ⟨rfl, d13, rfl, h13⟩
      have hnl : (c.Needs r).length ≤ 41 := by
        rw [Cf.Needs, rt_some hy]
        have := needs_len c y
        have := hrok.len; have := hrok.flen; omega
      refine ⟨d13, rfl, (h13 s6).lenK ⟨fun n s => ∃ j : Nat, n = j ∧ j ≤ (c.Needs r).length ∧ CoIn σ0 s id t (cfC c0 c1 c2 c3 c4 c) [] d0 d1 d2 d3 d4 d5 { k with Lines := askC (lineF c y.Path) k.Lines, Own := (c.lockL r).foldl (fun w s => w.set s.toNat (r + 1)) k.Own, Routes := k.Routes.set r.toNat ⟨1, 0, 0, 0⟩, Points := ptsC now ((c.Needs r).take j) k.Points },
        fun n _ => (c.Needs r).length - n.toNat, ⟨0, rfl, by omega, hI5⟩, ?_⟩⟩
      rintro n s7 ⟨j, rfl, hj, hI7⟩
      rw [List.length_map]
      refine bcd (fun hlt => ?_) (fun hge => ?_)
      · obtain ⟨nd, hnd⟩ := get_of_lt (l := c.Needs r) (j := j) (by omega)
        have hnm := List.mem_of_getElem? hnd
        obtain ⟨⟨z, hz⟩, _⟩ := needs_sec hrok (by rw [Cf.Needs, rt_some hy] at hnm; exact hnm)
        have hgz := geti_some hz
        have hzl := (List.getElem?_eq_some_iff.1 hgz.2.2).1
        have hpl := ptsC_len now ((c.Needs r).take j) k.Points
        have hpl2 := hfi.lPts
        obtain ⟨m, hm⟩ := get_of_lt (l := ptsC now ((c.Needs r).take j) k.Points) (j := nd.Sec.toNat) (by omega)
        have hgm : geti (ptsC now ((c.Needs r).take j) k.Points) nd.Sec = some m := by unfold geti; rw [if_neg (by omega), hm]
        refine (h13 s7).load (map_get hnd) c_Need rfl ⟨nd.Sec, nd.Pos, rfl, cmdPre, cmdPost, cmd_spec, trivial, _, _, _, rfl, _, box_row hI7.row, d2, rfl, trivial, _, _, _, rfl, _, box_row hI7.row, d2, rfl,
          hI7.at.points.load (map_get hm) c_Mover (Int.toNat_of_nonneg hgz.1).symm ⟨m.Cmd, m.Other, rfl, ⟨m, now, nd.Pos, rfl⟩, ?_⟩⟩
        intro q s8 hq
        obtain ⟨rfl, rfl⟩ := cmd_post (m := m) hq
        refine ⟨_, _, rfl, hI7.at.points.idxK c_Mover (Int.toNat_of_nonneg hgz.1).symm (by simp only [List.length_map]; omega) ?_⟩
        refine hI7.putP (k := { k with Lines := askC (lineF c y.Path) k.Lines, Own := (c.lockL r).foldl (fun w s => w.set s.toNat (r + 1)) k.Own, Routes := k.Routes.set r.toNat ⟨1, 0, 0, 0⟩, Points := ptsC now ((c.Needs r).take j) k.Points }) (y := cmdM m now nd.Pos) hm rfl (by simp) rfl fun s9 hI9 _ => ?_
        rw [w64_succ (by omega)]
        refine ⟨⟨j + 1, rfl, by omega, ?_⟩, dec_lt (by omega)⟩
        have e : ptsC now ((c.Needs r).take (j + 1)) k.Points = (ptsC now ((c.Needs r).take j) k.Points).set nd.Sec.toNat (cmdM m now nd.Pos) := by
          rw [List.take_add_one, hnd, ptsC, List.foldl_append]
          show (ptsC now ((c.Needs r).take j) k.Points).set nd.Sec.toNat (cmdM ((geti (ptsC now ((c.Needs r).take j) k.Points) nd.Sec).getD ⟨0, 0⟩) now nd.Pos) = _
          rw [hgm]; rfl
        rw [e]; exact hI9
      have e : j = (c.Needs r).length := by omega
      rw [e, List.take_length] at hI7
      have hxs := (check_xs hok).2.2
      refine ⟨trivial, _, _, _, rfl, _, box_row hI7.row, c0, c1, c2, c3, c4, _, _, _, _, rfl, (mover_Crossings_ok hc r (by omega)).mono ?_⟩
      rintro q s8 ⟨rfl, d19, rfl, h19⟩
      have hcl2 : (c.Cross r).length ≤ c.Xs.length := crossL_len _ _ _
      refine ⟨d19, rfl, (h19 s8).lenK ⟨fun n s => ∃ j : Nat, n = j ∧ j ≤ (c.Cross r).length ∧ CoIn σ0 s id t (cfC c0 c1 c2 c3 c4 c) [] d0 d1 d2 d3 d4 d5 { k with Lines := askC (lineF c y.Path) k.Lines, Own := (c.lockL r).foldl (fun w s => w.set s.toNat (r + 1)) k.Own, Routes := k.Routes.set r.toNat ⟨1, 0, 0, 0⟩, Points := ptsC now (c.Needs r) k.Points, Xs := xsC now ((c.Cross r).take j) k.Xs },
        fun n _ => (c.Cross r).length - n.toNat, ⟨0, rfl, by omega, hI7⟩, ?_⟩⟩
      rintro n s9 ⟨j, rfl, hj, hI9⟩
      rw [List.length_map]
      refine bcd (fun hlt => ?_) (fun hge => ?_)
      · obtain ⟨v, hv⟩ := get_of_lt (l := c.Cross r) (j := j) (by omega)
        obtain ⟨i, xx, e3, hxx, _⟩ := crossL_mem _ _ _ _ (List.mem_of_getElem? hv)
        rw [Nat.zero_add] at e3
        subst e3
        have hil := (List.getElem?_eq_some_iff.1 hxx).1
        have hpl := xsC_len now ((c.Cross r).take j) k.Xs
        have hpl2 := hfi.lXs
        obtain ⟨m, hm⟩ := get_of_lt (l := xsC now ((c.Cross r).take j) k.Xs) (j := i) (by omega)
        have hgm : geti (xsC now ((c.Cross r).take j) k.Xs) (i : Int) = some m := by rw [geti_nat, hm]
        refine (h19 s9).load (map_get hv) c_int rfl ⟨(i : Int), rfl, cmdPre, cmdPost, cmd_spec, trivial, _, _, _, rfl, _, box_row hI9.row, d3, rfl, trivial, _, _, _, rfl, _, box_row hI9.row, d3, rfl,
          hI9.at.xs.load (map_get hm) c_Mover rfl ⟨m.Cmd, m.Other, rfl, ⟨m, now, 1, rfl⟩, ?_⟩⟩
        intro q s10 hq
        obtain ⟨rfl, rfl⟩ := cmd_post (m := m) hq
        refine ⟨_, _, rfl, hI9.at.xs.idxK c_Mover rfl (by simp only [List.length_map]; omega) ?_⟩
        refine hI9.putX (k := { k with Lines := askC (lineF c y.Path) k.Lines, Own := (c.lockL r).foldl (fun w s => w.set s.toNat (r + 1)) k.Own, Routes := k.Routes.set r.toNat ⟨1, 0, 0, 0⟩, Points := ptsC now (c.Needs r) k.Points, Xs := xsC now ((c.Cross r).take j) k.Xs }) (y := cmdM m now 1) hm (by rw [Int.toNat_natCast]) (by simp) rfl fun s11 hI11 _ => ?_
        rw [w64_succ (by omega)]
        refine ⟨⟨j + 1, rfl, by omega, ?_⟩, dec_lt (by omega)⟩
        have e : xsC now ((c.Cross r).take (j + 1)) k.Xs = (xsC now ((c.Cross r).take j) k.Xs).set i (cmdM m now 1) := by
          rw [List.take_add_one, hv, xsC, List.foldl_append]
          show (xsC now ((c.Cross r).take j) k.Xs).set ((i : Int)).toNat (cmdM ((geti (xsC now ((c.Cross r).take j) k.Xs) (i : Int)).getD ⟨0, 0⟩) now 1) = _
          rw [hgm]; rfl
        rw [e]; exact hI11
      have e : j = (c.Cross r).length := by omega
      rw [e, List.take_length] at hI9
      refine ⟨trivial, _, _, _, rfl, hI9.dirty (b := true) rfl fun s10 hI10 _ => ⟨by rw [hE0], hI10.ext, fun _ => ?_⟩⟩
      have : k.lockC c now r = { k with Lines := askC (lineF c y.Path) k.Lines, Own := (c.lockL r).foldl (fun w s => w.set s.toNat (r + 1)) k.Own, Routes := k.Routes.set r.toNat ⟨1, 0, 0, 0⟩, Points := ptsC now (c.Needs r) k.Points, Xs := xsC now (c.Cross r) k.Xs, Dirty := true } := by
        rw [Co.lockC, rt_some hy]
      rw [this]; exact hI10
    refine (desk_line_ok' hc hI hok hfi.lLn hy).use ⟨_, rfl, ?_⟩
    by_cases hl : lineF c y.Path > 0
    · rw [if_pos hl]
      have hl3 := (line_ok hok y.Path).2
      obtain ⟨u, hu⟩ := get_of_lt (l := k.Lines) (j := (lineF c y.Path).toNat) (by have := hfi.lLn; omega)
      have hgu : geti k.Lines (lineF c y.Path) = some u := by unfold geti; rw [if_neg (by omega), hu]
      refine ⟨false, rfl, ?_⟩
      show bcase (false != true) _ _
      rw [show (false != true) = true from by decide]
      refine ⟨trivial, _, _, _, rfl, _, hI.at.lines.row (map_get hu), u.Ask, rfl, bcd (fun e => err 5 (by rw [hE, if_pos ⟨hl, by rw [hgu]; exact e⟩]) (by decide)) (fun e3 => ?_)⟩
      refine ⟨trivial, _, _, _, rfl, _, hI.at.lines.row (map_get hu), u.Ask, rfl, trivial, _, _, _, rfl, ?_⟩
      have hua := (hfi.lns u (List.mem_of_getElem? hu))
      simp only [Ls.fits, tm, Bool.and_eq_true, decide_eq_true_eq] at hua
      rw [w64_id (n := u.Ask + 1) (by omega) (by omega)]
      refine hI.putL (y := { u with Ask := u.Ask + 1 }) hu rfl (by simp) rfl fun s4 hI4 _ => body (fun _ => by rw [hgu]; show u.Ask < 4294967295; omega) s4 ?_
      have : askC (lineF c y.Path) k.Lines = k.Lines.set (lineF c y.Path).toNat { u with Ask := u.Ask + 1 } := by rw [askC, if_pos hl, hgu]; rfl
      rw [this]; exact hI4
    · rw [if_neg hl]
      refine ⟨true, rfl, ?_⟩
      show bcase (true != true) _ _
      rw [show (true != true) = false from by decide]
      refine body (fun h => absurd h hl) s ?_
      have : askC (lineF c y.Path) k.Lines = k.Lines := by rw [askC, if_neg hl]
      rw [this]; exact hI
end
end Go.Proofs.YtcbmibgfmlpobaaGreat
end
section
set_option linter.unusedVariables false
set_option linter.unusedSimpArgs false
namespace Go.Proofs.YtcbmibgfmlpobaaGreat
open Go.Fw Go.Proofs Go.RowKit
variable {σ σ0 : Store}
theorem live_ext {s s' : Store} {id : Nat} {t : TypeId} {rows : List (List D)} (h : s id = .live t rows) (he : Ext s s') : s' id = .live t rows := (he id (by rw [h]; intro e; cases e)).trans h
theorem CoPost.from {σ1 s : Store} {p : Co × Int} {r : RV} (he : Ext σ σ1) (h : CoPost σ1 p r s) : CoPost σ p r s := by
  obtain ⟨d0, d1, d2, d3, d4, d5, e, ho⟩ := h
  exact ⟨d0, d1, d2, d3, d4, d5, e, ho.from he⟩
theorem CoPost.pass {s : Store} {p : Co × Int} {r : RV} {Q : RV → Store → Prop} (h : CoPost σ p r s) (hq : Q r s) :
    ∃ d d1 d2 d3 d4 d5 : D, ∃ b : Bool, ∃ n1 : Int, r = .tup [.agg [d, d1, d2, d3, d4, d5, .bool b], .one (.int .i64 n1)] ∧ Q (.tup [.agg [d, d1, d2, d3, d4, d5, .bool b], .one (.int .i64 n1)]) s := by
  obtain ⟨d0, d1, d2, d3, d4, d5, e, ho⟩ := h
  refine ⟨d0, d1, d2, d3, d4, d5, p.1.Dirty, p.2, e, ?_⟩
  rw [← e]; exact hq
section
variable {c0 c1 c2 c3 c4 k0 k1 k2 k3 k4 k5 : D} {c : Cf} (hc : ∀ s, CfAt s c0 c1 c2 c3 c4 c) {k : Co} (h : CoAt σ k0 k1 k2 k3 k4 k5 k) (hf : CoFit k0 k1 k2 k3 k4 k5 k)
include hc h hf
theorem locks_Request_ok (hz : RtsNz c4) (now r : Int) : DCalls Tryz.prog n_locks_Request [cfA c0 c1 c2 c3 c4 c, coA k0 k1 k2 k3 k4 k5 k.Dirty, iA now, iA r] σ (CoPost σ (k.requestC c now r)) := by
  refine W_locks_Request _ _ _ _ _ _ _ _ _ k0 k1 k2 k3 k4 k5 k.Dirty now r σ _ (newObj_intro fun id s1 hid _ e1 q1 => newObj_intro fun id1 s2 hid1 _ e2 q2 => ?_)
  have q12 := live_ext q1 e2
  refine ⟨_, box_row q12, now, rfl, (locks_change_ok hc (h.ext' (e1.trans e2)) hf now (bs := [.one (.el (.osl id 0 1) 0 0), .one (.el (.osl id1 0 1) 0 0)]) (E := k.reqE c r) (Y := k.lockC c now r) rfl ?_).mono fun q s3 hp => hp.pass (hp.from (e1.trans e2))⟩
  intro hfit ht id' d0 d1 d2 d3 d4 d5 s3 he hI
  refine W_locks_Request_1 _ _ _ s3 _ ⟨_, _, _, rfl, _, box_row (live_ext q12 he), now, rfl, _, _, _, rfl, _, box_row (live_ext q2 he), r, rfl, (desk_request_ok hc hI hz hfit now r).mono ?_⟩
  rintro q s4 ⟨rfl, w1, w2⟩
  exact ⟨_, rfl, rfl, w1, w2⟩
end
end Go.Proofs.YtcbmibgfmlpobaaGreat
end
section
set_option linter.unusedVariables false
set_option linter.unusedSimpArgs false
namespace Go.Proofs.YtcbmibgfmlpobaaGreat
open Go.Fw Go.Proofs Go.RowKit
variable {σ : Store}
theorem CoFz.fits {d0 d1 d2 d3 d4 d5 k0 k1 k2 k3 k4 k5 : D} {k : Co} (h : CoFz d0 d1 d2 d3 d4 d5 k) (hf : CoFit k0 k1 k2 k3 k4 k5 k) : CoFit d0 d1 d2 d3 d4 d5 k :=
  ⟨h.n0, h.n1, h.n2, h.n3, h.n4, h.n5, hf.b0, hf.b1, hf.b2, hf.b3, hf.b4, hf.b5⟩
theorem CoOwn.ext' {σ0 s s' : Store} {d0 d1 d2 d3 d4 d5 : D} {k : Co} (h : CoOwn σ0 s d0 d1 d2 d3 d4 d5 k) (he : Ext s s') : CoOwn σ0 s' d0 d1 d2 d3 d4 d5 k :=
  ⟨h.own.ext' he, h.routes.ext' he, h.points.ext' he, h.xs.ext' he, h.lines.ext' he, h.resets.ext' he, h.apart⟩
end Go.Proofs.YtcbmibgfmlpobaaGreat
end
section
set_option linter.unusedVariables false
set_option linter.unusedSimpArgs false
namespace Go.Proofs.YtcbmibgfmlpobaaGreat
open Go.Fw Go.Proofs Go.RowKit
variable {σ : Store}
def encM (m : Msg) : List D := [iD m.1, iD m.2.1, iD m.2.2]
theorem ext0 (s : Store) : Ext noS s := fun i h => absurd rfl h
theorem own_put {s s' : Store} {el : TypeId} {d y : D} {rs : List (List D)} (h : Own Tryz.prog noS s el y rs) (ha : Apart d y) (hs : ∀ i, idOf d ≠ some i → s' i = s i) : Own Tryz.prog noS s' el y rs :=
  ⟨h.at_.same fun i a n e => hs i fun e2 => ha i e2 (by rw [e]; rfl), ext0 _, h.new, h.nsl, h.nz⟩
theorem new_apart {s s' : Store} {d0 d1 d2 d3 d4 d5 y : D} {k : Co} {el : TypeId} {rs : List (List D)} (h : CoOwn s s' d0 d1 d2 d3 d4 d5 k) (hy : At Tryz.prog s el y rs) : ∀ x ∈ [d0, d1, d2, d3, d4, d5], Apart x y := by
  intro x hx
  simp only [List.mem_cons, List.not_mem_nil, or_false] at hx
  rcases hx with rfl | rfl | rfl | rfl | rfl | rfl
  · exact (h.own.apart hy).symm
  · exact (h.routes.apart hy).symm
  · exact (h.points.apart hy).symm
  · exact (h.xs.apart hy).symm
  · exact (h.lines.apart hy).symm
  · exact (h.resets.apart hy).symm
theorem CoOwn.put {s s' : Store} {d m0 m1 m2 m3 m4 m5 : D} {k : Co} (h : CoOwn noS s m0 m1 m2 m3 m4 m5 k) (ha : ∀ y ∈ [m0, m1, m2, m3, m4, m5], Apart d y) (hs : ∀ i, idOf d ≠ some i → s' i = s i) : CoOwn noS s' m0 m1 m2 m3 m4 m5 k :=
  ⟨own_put h.own (ha _ (by simp)) hs, own_put h.routes (ha _ (by simp)) hs, own_put h.points (ha _ (by simp)) hs, own_put h.xs (ha _ (by simp)) hs, own_put h.lines (ha _ (by simp)) hs, own_put h.resets (ha _ (by simp)) hs, h.apart⟩
structure W2 (s : Store) (k0 k1 k2 k3 k4 k5 m0 m1 m2 m3 m4 m5 e0 e1 : D) (A B : En) (sa sb : List Msg) : Prop where
  a : CoOwn noS s k0 k1 k2 k3 k4 k5 A.co
  b : CoOwn noS s m0 m1 m2 m3 m4 m5 B.co
  ea : Own Tryz.prog noS s t_Block e0 (sa.map encM)
  eb : Own Tryz.prog noS s t_Block e1 (sb.map encM)
  ab : ∀ x ∈ [k0, k1, k2, k3, k4, k5], ∀ y ∈ [m0, m1, m2, m3, m4, m5], Apart x y
  ae : ∀ x ∈ [k0, k1, k2, k3, k4, k5], Apart x e0 ∧ Apart x e1
  be : ∀ y ∈ [m0, m1, m2, m3, m4, m5], Apart y e0 ∧ Apart y e1
  ee : Apart e0 e1
section
variable {s s' : Store} {k0 k1 k2 k3 k4 k5 m0 m1 m2 m3 m4 m5 e0 e1 : D} {A B : En} {sa sb : List Msg}
theorem W2.swap (h : W2 s k0 k1 k2 k3 k4 k5 m0 m1 m2 m3 m4 m5 e0 e1 A B sa sb) : W2 s m0 m1 m2 m3 m4 m5 k0 k1 k2 k3 k4 k5 e1 e0 B A sb sa :=
  ⟨h.b, h.a, h.eb, h.ea, fun x hx y hy => (h.ab y hy x hx).symm, fun x hx => (h.be x hx).symm, fun y hy => (h.ae y hy).symm, h.ee.symm⟩
theorem W2.ext (h : W2 s k0 k1 k2 k3 k4 k5 m0 m1 m2 m3 m4 m5 e0 e1 A B sa sb) (he : Ext s s') : W2 s' k0 k1 k2 k3 k4 k5 m0 m1 m2 m3 m4 m5 e0 e1 A B sa sb :=
  ⟨h.a.ext' he, h.b.ext' he, h.ea.ext' he, h.eb.ext' he, h.ab, h.ae, h.be, h.ee⟩
theorem W2.newA {d0 d1 d2 d3 d4 d5 : D} {A' : En} (h : W2 s k0 k1 k2 k3 k4 k5 m0 m1 m2 m3 m4 m5 e0 e1 A B sa sb) (hn : CoOwn s s' d0 d1 d2 d3 d4 d5 A'.co) : W2 s' d0 d1 d2 d3 d4 d5 m0 m1 m2 m3 m4 m5 e0 e1 A' B sa sb := by
  have he := hn.own.ext
  refine ⟨CoOwn.from (ext0 s) hn, h.b.ext' he, h.ea.ext' he, h.eb.ext' he, fun x hx y hy => ?_, fun x hx => ⟨new_apart hn h.ea.at_ x hx, new_apart hn h.eb.at_ x hx⟩, h.be, h.ee⟩
  simp only [List.mem_cons, List.not_mem_nil, or_false] at hy
  rcases hy with rfl | rfl | rfl | rfl | rfl | rfl
  · exact new_apart hn h.b.own.at_ x hx
  · exact new_apart hn h.b.routes.at_ x hx
  · exact new_apart hn h.b.points.at_ x hx
  · exact new_apart hn h.b.xs.at_ x hx
  · exact new_apart hn h.b.lines.at_ x hx
  · exact new_apart hn h.b.resets.at_ x hx
theorem W2.putA {A' : En} {d : D} (h : W2 s k0 k1 k2 k3 k4 k5 m0 m1 m2 m3 m4 m5 e0 e1 A B sa sb) (hn : CoOwn noS s' k0 k1 k2 k3 k4 k5 A'.co) (hd : d ∈ [k0, k1, k2, k3, k4, k5]) (hs : ∀ i, idOf d ≠ some i → s' i = s i) :
    W2 s' k0 k1 k2 k3 k4 k5 m0 m1 m2 m3 m4 m5 e0 e1 A' B sa sb :=
  ⟨hn, h.b.put (h.ab d hd) hs, own_put h.ea (h.ae d hd).1 hs, own_put h.eb (h.ae d hd).2 hs, h.ab, h.ae, h.be, h.ee⟩
theorem W2.flag {A' : En} (h : W2 s k0 k1 k2 k3 k4 k5 m0 m1 m2 m3 m4 m5 e0 e1 A B sa sb) (c : Bool) : W2 s k0 k1 k2 k3 k4 k5 m0 m1 m2 m3 m4 m5 e0 e1 (A.noted c) B sa sb :=
  ⟨⟨h.a.own, h.a.routes, h.a.points, h.a.xs, h.a.lines, h.a.resets, h.a.apart⟩, h.b, h.ea, h.eb, h.ab, h.ae, h.be, h.ee⟩
theorem W2.tellA (h : W2 s k0 k1 k2 k3 k4 k5 m0 m1 m2 m3 m4 m5 e0 e1 A B sa sb) {m : Msg} (hl : sa.length < 2 ^ 20) {K : D → Store → Prop}
    (hK : ∀ d s', W2 s' k0 k1 k2 k3 k4 k5 m0 m1 m2 m3 m4 m5 d e1 A B (sa ++ [m]) sb → K d s') :
    Fw.newObj s (.live t_Block [encM m]) fun id s1 => appendTo Tryz.prog s1 t_Block 24 e0 (.osl id 0 1) K := by
  refine newObj_intro fun id s1 hid _ he hs1 => ?_
  have h1 := h.ext he
  have hfresh : At Tryz.prog s1 t_Block (.osl id 0 1) [encM m] := At.fresh hs1 (by simp) rfl
  refine h1.ea.append hfresh (by simp; omega) (by simp; omega) fun d s2 o2 k2 i2 => hK d s2 ?_
  -- what lies elsewhere stays
  have keep : ∀ {el : TypeId} {y : D} {rs : List (List D)}, Own Tryz.prog noS s1 el y rs → Apart y e0 → Own Tryz.prog noS s2 el y rs := fun {el y rs} hy ha =>
    ⟨hy.at_.same fun i a n e => k2 i (fun hf => by
        obtain ⟨t, rows, g1, _⟩ := (e ▸ hy.at_.rows : Go.Fw.Rows Tryz.prog s1 el (.osl i a n) rs)
        rw [hf] at g1; cases g1) (fun a' b' e' => ha i (by rw [e]; rfl) (by rw [e']; rfl)), ext0 _, hy.new, hy.nsl, hy.nz⟩
  have apd : ∀ {el : TypeId} {y : D} {rs : List (List D)}, At Tryz.prog s1 el y rs → Apart y e0 → Apart y d := fun {el y rs} hy ha i hi hd => by
    cases d with
    | osl j a n =>
      have : j = i := by simpa [idOf] using hd
      subst this
      rcases i2 j a n rfl with g | ⟨a', b', g⟩
      · cases y with
        | osl j' a' n' =>
          have : j' = j := by simpa [idOf] using hi
          subst this
          obtain ⟨t, rows, g1, _⟩ := hy.rows
          rw [g] at g1; cases g1
        | _ => simp [idOf] at hi
      · exact ha j hi (by rw [g]; rfl)
    | _ => simp [idOf] at hd
  have all : ∀ {z0 z1 z2 z3 z4 z5 : D} {c : Co}, CoOwn noS s1 z0 z1 z2 z3 z4 z5 c → (∀ x ∈ [z0, z1, z2, z3, z4, z5], Apart x e0 ∧ Apart x e1) → CoOwn noS s2 z0 z1 z2 z3 z4 z5 c ∧ ∀ x ∈ [z0, z1, z2, z3, z4, z5], Apart x d ∧ Apart x e1 := fun {z0 z1 z2 z3 z4 z5 c} hc hz => by
    refine ⟨⟨keep hc.own (hz _ (by simp)).1, keep hc.routes (hz _ (by simp)).1, keep hc.points (hz _ (by simp)).1, keep hc.xs (hz _ (by simp)).1, keep hc.lines (hz _ (by simp)).1, keep hc.resets (hz _ (by simp)).1, hc.apart⟩, fun x hx => ⟨?_, (hz x hx).2⟩⟩
    have hx' := hx
    simp only [List.mem_cons, List.not_mem_nil, or_false] at hx
    rcases hx with rfl | rfl | rfl | rfl | rfl | rfl
    · exact apd hc.own.at_ (hz _ hx').1
    · exact apd hc.routes.at_ (hz _ hx').1
    · exact apd hc.points.at_ (hz _ hx').1
    · exact apd hc.xs.at_ (hz _ hx').1
    · exact apd hc.lines.at_ (hz _ hx').1
    · exact apd hc.resets.at_ (hz _ hx').1
  have qa := all h1.a h1.ae
  have qb := all h1.b h1.be
  have e : (sa ++ [m]).map encM = sa.map encM ++ [encM m] := by simp
  exact ⟨qa.1, qb.1, by rw [e]; exact o2, keep h1.eb h1.ee.symm, h1.ab, qa.2, qb.2, (apd h1.eb.at_ h1.ee.symm).symm⟩
end
theorem law15_fresh_own : DCalls Tryz.prog n_law15_fresh [] σ fun r s => ∃ d0 d1 d2 d3 d4 d5, r = .a (coA d0 d1 d2 d3 d4 d5 false) ∧ CoOwn σ s d0 d1 d2 d3 d4 d5 freshC := by
  refine W_law15_fresh σ _ ?_
  refine law15_end_ok.mono ?_
  rintro r s ⟨rfl, c0, c1, c2, c3, c4, rfl, hc⟩
  refine ⟨_, _, _, _, _, _, _, _, _, rfl, (locks_New_ok hc 0 (by decide) (by decide) (by decide)).mono ?_⟩
  rintro r s1 ⟨d0, d1, d2, d3, d4, d5, rfl, h⟩
  refine ⟨_, _, _, _, _, _, _, rfl, h.own.at_.lenK ⟨fun n s2 => ∃ j : Nat, n = j ∧ j ≤ 2 ∧ CoOwn s s2 d0 d1 d2 d3 d4 d5 { newCo endC 0 with Own := List.replicate j 0 ++ [-1, -1].drop j }, fun n _ => 2 - n.toNat, ⟨0, rfl, by omega, h⟩, ?_⟩⟩
  rintro _ s2 ⟨j, rfl, hj, h2⟩
  have hl : (List.map Go.Fw.encI (newCo endC 0).Own).length = 2 := rfl
  rw [hl]
  refine bcd (fun hlt => ?_) (fun hge => ?_)
  · have hlt : j < 2 := by omega
    refine h2.own.at_.idxK c_int rfl (by simp; omega) ?_
    have hw : w64 ((j : Int) + 1) = ((j + 1 : Nat) : Int) := w64_succ (by omega)
    obtain ⟨o, ho⟩ := get_of_lt (l := List.replicate j (0 : Int) ++ [-1, -1].drop j) (j := j) (by simp; omega)
    refine h2.setOwn ho (by omega) (w := 0) fun s3 h3 => ⟨rfl, ?_⟩
    rw [hw]
    refine ⟨⟨j + 1, rfl, by omega, ?_⟩, by show 2 - ((j + 1 : Nat) : Int).toNat < 2 - ((j : Nat) : Int).toNat; omega⟩
    rw [← set_all [-1, -1] j 0 hlt]; exact h3
  · have e : j = 2 := by omega
    subst e
    refine ⟨_, _, _, _, _, _, rfl, ?_⟩
    exact { own := h2.own, routes := h2.routes, points := h2.points, xs := h2.xs, lines := h2.lines, resets := h2.resets, apart := h2.apart }
end Go.Proofs.YtcbmibgfmlpobaaGreat
end
section
set_option linter.unusedVariables false
set_option linter.unusedSimpArgs false
namespace Go.Proofs.YtcbmibgfmlpobaaGreat
open Go.Fw Go.Proofs Go.RowKit
variable {σ : Store}
theorem law15_end_z : DCalls Tryz.prog n_law15_end [] σ fun r s => s = σ ∧ ∃ c0 c1 c2 c3 c4, r = .a (cfA c0 c1 c2 c3 c4 endC) ∧ (∀ s, CfAt s c0 c1 c2 c3 c4 endC) ∧ RtsNz c4 := by
  refine (W_law15_end σ (fun r s => ∃ i0 i1 i2 i3 i4, r = .a (.agg [.osl i0 0 2, .osl i1 0 1, .osl i2 0 1, .nils, .osl i4 0 1, iD 2, iD 1, iD 4, iD 1000]) ∧ Ext σ s ∧ σ i0 = .free ∧ σ i1 = .free ∧ σ i2 = .free ∧ σ i3 = .free ∧ σ i4 = .free ∧
    s i0 = .live t_Section [[iD 0, iD 0, iD 1], [iD 0, iD 0, iD 0]] ∧ s i1 = .live t_Joint [[iD 0, iD 0, iD 1, iD 1]] ∧ s i2 = .live t_Signal [[iD 1, iD 1]] ∧ s i3 = .live t_Step [[iD 0, iD 0, iD 1]] ∧ s i4 = .live t_Route [[iD 0, iD (-1), .osl i3 0 1, .nils, .nils, .bool false]]) ?_).ret ?_
  · refine newObj_intro fun i0 s1 q0 _ e1 h0 => newObj_intro fun i1 s2 q1 _ e2 h1 => newObj_intro fun i2 s3 q2 _ e3 h2 => newObj_intro fun i3 s4 q3 _ e4 h3 => newObj_intro fun i4 s5 q4 _ e5 h4 => ?_
    have ne : ∀ {s : Store} {m : Nat} {t rows}, s m = .live t rows → s m ≠ .free := fun h e => by rw [h] at e; cases e
    have fr : ∀ {s : Store} {m : Nat}, Ext σ s → s m = .free → σ m = .free := fun {s m} he hm => by
      by_cases hf : σ m = .free
      · exact hf
      · have := he m hf; rw [hm] at this; exact this.symm
    have f2 := e1.trans e2
    have f3 := f2.trans e3
    have f4 := f3.trans e4
    exact ⟨i0, i1, i2, i3, i4, rfl, f4.trans e5, q0, fr e1 q1, fr f2 q2, fr f3 q3, fr f4 q4, by rw [(((e2.trans e3).trans e4).trans e5) i0 (ne h0)]; exact h0, by rw [((e3.trans e4).trans e5) i1 (ne h1)]; exact h1, by rw [(e4.trans e5) i2 (ne h2)]; exact h2, by rw [e5 i3 (ne h3)]; exact h3, h4⟩
  · rintro r s ⟨i0, i1, i2, i3, i4, rfl, he, q0, q1, q2, q3, q4, h0, h1, h2, h3, h4⟩
    have fl : ∀ (l : List (List Int)), ∀ row ∈ l.map (·.map iD), ∀ d ∈ row, Flat d := by
      intro l row hrow d hd
      obtain ⟨w, _, rfl⟩ := List.mem_map.1 hrow
      obtain ⟨n, _, rfl⟩ := List.mem_map.1 hd
      exact .int _ _
    have fz3 : Fz Tryz.prog s (fun i => σ i ≠ .free) (.osl i3 0 1) (.sl (Tryz.prog.cellsOf t_Step) [[iD 0, iD 0, iD 1]]) := fz_flat (fun g => g q3) h3 rfl (fl [[0, 0, 1]])
    have fz4 : Fz Tryz.prog s (fun i => σ i ≠ .free) (.osl i4 0 1) (.sl (Tryz.prog.cellsOf t_Route) [[iD 0, iD (-1), .sl (Tryz.prog.cellsOf t_Step) [[iD 0, iD 0, iD 1]], .nils, .nils, .bool false]]) := by
      refine .osl i4 0 1 t_Route _ _ (fun g => g q4) h4 (by simp) rfl ?_ ?_
      · intro j row row' a b
        rw [Nat.zero_add] at a
        cases j with
        | zero => simp at a b; subst a b; rfl
        | succ j => simp at a
      · intro j row row' m d d' a b x y
        rw [Nat.zero_add] at a
        cases j with
        | succ j => simp at a
        | zero =>
          simp at a b; subst a b
          rcases m with _ | _ | _ | _ | _ | _ | m <;> simp at x y <;> subst x y
          · exact .int _ _
          · exact .int _ _
          · exact fz3
          · exact .nils
          · exact .nils
          · exact .bool _
    refine ⟨.a (cfA _ _ _ .nils _ endC), σ, .pure he (.cons (fz_flat (fun g => g q0) h0 rfl (fl [[0, 0, 1], [0, 0, 0]])) (.cons (fz_flat (fun g => g q1) h1 rfl (fl [[0, 0, 1, 1]])) (.cons (fz_flat (fun g => g q2) h2 rfl (fl [[1, 1]])) (.cons .nils (.cons fz4 (.cons (.int _ _) (.cons (.int _ _) (.cons (.int _ _) (.cons (.int _ _) .nil))))))))), rfl, _, _, _, _, _, rfl, fun s => ?_, ?_⟩
    rotate_left
    · intro row hr
      simp only [List.mem_cons, List.not_mem_nil, or_false] at hr
      subst hr
      intro e; cases e
    refine ⟨at_sl (by simp), at_sl (by simp), at_sl (by simp), .nil, _, at_sl (by simp), rfl, ?_⟩
    intro i row r a b
    cases i with
    | zero =>
      simp [endC] at a b
      subst a b
      exact ⟨_, _, _, rfl, at_sl (by simp), .nil, .nil⟩
    | succ i => simp at a
theorem ls_inj {x y : Ls} (h : x.enc = y.enc) : x = y := by
  cases x; cases y
  simp only [Ls.enc, List.cons.injEq, D.int.injEq, true_and, and_true] at h
  simp [h]
def tellA (k : Co) : RV := .a (.agg [iD (k.tell 1).1, iD (k.tell 1).2.1, iD (k.tell 1).2.2])
theorem tell_same {s : Store} {d0 d1 d2 d3 d4 d5 : D} {k k' : Co} (h : CoAt s d0 d1 d2 d3 d4 d5 k) (h' : CoAt s d0 d1 d2 d3 d4 d5 k') : tellA k = tellA k' := by
  have e := rows_fun h.lines.rows h'.lines.rows
  have e : k.Lines = k'.Lines := by
    have hi : ∀ a b : List Ls, a.map Ls.enc = b.map Ls.enc → a = b := by
      intro a
      induction a with
      | nil => intro b hb; cases b with
        | nil => rfl
        | cons y b => cases hb
      | cons x a ih =>
        intro b hb
        cases b with
        | nil => cases hb
        | cons y b =>
          simp only [List.map_cons, List.cons.injEq] at hb
          rw [ls_inj hb.1, ih b hb.2]
    exact hi _ _ e
  unfold tellA Co.tell
  rw [e]
def tellPre (az : List A) (s : Store) : Prop := ∃ d0 d1 d2 d3 d4 d5 b k, az = [coA d0 d1 d2 d3 d4 d5 b, iA 1] ∧ CoAt s d0 d1 d2 d3 d4 d5 k
def tellPost (az : List A) (s : Store) (r : RV) (s' : Store) : Prop := s' = s ∧ ∃ d0 d1 d2 d3 d4 d5 b, az = [coA d0 d1 d2 d3 d4 d5 b, iA 1] ∧ ∀ k, CoAt s d0 d1 d2 d3 d4 d5 k → r = tellA k
theorem tell_spec : SpecOk Tryz.prog n_block_Tell tellPre tellPost := by
  refine ⟨?_, ?_, ?_, ?_, ?_⟩
  · rintro az s ⟨d0, d1, d2, d3, d4, d5, b, k, rfl, h⟩
    exact (block_Tell_ok h b 1).use ⟨rfl, d0, d1, d2, d3, d4, d5, b, rfl, fun k' h' => tell_same h h'⟩
  · rintro az s ⟨d0, d1, d2, d3, d4, d5, b, k, rfl, h⟩ hf
    exact ⟨tellA k, s, ⟨rfl, d0, d1, d2, d3, d4, d5, b, rfl, fun k' h' => tell_same h h'⟩, hf⟩
  · rintro az s r s' ⟨rfl, _⟩ hf; exact hf
  · rintro az s id so h0 hso ⟨d0, d1, d2, d3, d4, d5, b, k, rfl, h⟩
    refine ⟨⟨d0, d1, d2, d3, d4, d5, b, k, rfl, h.ext (Ext.new h0 so)⟩, ?_⟩
    rintro r s' ⟨rfl, x0, x1, x2, x3, x4, x5, b', e, hr⟩
    injection e with e1 _
    injection e1 with e1
    simp only [List.cons.injEq, and_true] at e1
    obtain ⟨rfl, rfl, rfl, rfl, rfl, rfl, e2⟩ := e1
    exact ⟨s, ⟨rfl, d0, d1, d2, d3, d4, d5, b, rfl, fun k' h' => hr k' (h'.ext (Ext.new h0 so))⟩, h0, rfl⟩
  · rintro az s r s' _ ⟨rfl, _⟩ i hi
    rfl
def seenPre (az : List A) (s : Store) : Prop := ∃ occ stamp, az = [iA occ, iA stamp]
def seenPost (az : List A) (s : Store) (r : RV) (s' : Store) : Prop := s' = s ∧ ∃ occ stamp v0 v1 v2 v3, az = [iA occ, iA stamp] ∧ r = .a (.agg [v0, v1, v2, v3]) ∧ VwAt v0 v1 v2 v3 (seenV occ stamp)
theorem seen_ex (occ stamp : Int) : ∃ v0 v1 v2 v3, VwAt v0 v1 v2 v3 (seenV occ stamp) :=
  ⟨.sl _ ((seenV occ stamp).Occ.map Lk.enc), .sl _ ((seenV occ stamp).Pos.map Lk.enc), .nils, .sl _ ((seenV occ stamp).Lamp.map Lk.enc), fun s => at_sl (by simp [seenV]), fun s => at_sl (by simp [seenV]), fun s => .nil, fun s => at_sl (by simp [seenV])⟩
theorem seen_spec : SpecOk Tryz.prog n_law15_seen seenPre seenPost := by
  refine ⟨?_, ?_, ?_, ?_, ?_⟩
  · rintro az s ⟨occ, stamp, rfl⟩
    refine (law15_seen_ok occ stamp).mono ?_
    rintro r s' ⟨rfl, v0, v1, v2, v3, rfl, hv⟩
    exact ⟨rfl, occ, stamp, v0, v1, v2, v3, rfl, rfl, hv⟩
  · rintro az s ⟨occ, stamp, rfl⟩ hf
    obtain ⟨v0, v1, v2, v3, hv⟩ := seen_ex occ stamp
    exact ⟨_, s, ⟨rfl, occ, stamp, v0, v1, v2, v3, rfl, rfl, hv⟩, hf⟩
  · rintro az s r s' ⟨rfl, _⟩ hf; exact hf
  · rintro az s id so h0 hso ⟨occ, stamp, rfl⟩
    refine ⟨⟨occ, stamp, rfl⟩, ?_⟩
    rintro r s' ⟨rfl, h⟩
    exact ⟨s, ⟨rfl, h⟩, h0, rfl⟩
  · rintro az s r s' _ ⟨rfl, _⟩ i hi
    rfl
structure Tn where
  a0 : Bool
  a1 : Bool
  d0 : Bool
  d1 : Bool
  l0 : Int
  l1 : Int
  rc : Bool
  oc : Bool
def Tn.enc (t : Tn) : List D := [.bool t.a0, .bool t.a1, .bool t.d0, .bool t.d1, iD t.l0, iD t.l1, .bool t.rc, .bool t.oc]
theorem ty_Turn {row : List D} {n : Nat} (h : tyD Tryz.prog n t_law15_Turn row) : ∃ t : Tn, row = t.enc ∧ I64 t.l0 ∧ I64 t.l1 := by
  obtain ⟨_, _, rfl, ⟨a0, rfl⟩, _, _, rfl, ⟨a1, rfl⟩, _, _, rfl, ⟨d0, rfl⟩, _, _, rfl, ⟨d1, rfl⟩, _, _, rfl, ⟨l0, rfl, w0⟩, _, _, rfl, ⟨l1, rfl, w1⟩, _, _, rfl, ⟨rc, rfl⟩, _, _, rfl, ⟨oc, rfl⟩, rfl⟩ :=
    ty_sh n 5 _ _ [.bool, .bool, .bool, .bool, .int .i64, .int .i64, .bool, .bool] h (by kernel_rfl)
  exact ⟨⟨a0, a1, d0, d1, l0, l1, rc, oc⟩, rfl, wf_i64 w0, wf_i64 w1⟩
end Go.Proofs.YtcbmibgfmlpobaaGreat
end
section
set_option linter.unusedVariables false
set_option linter.unusedSimpArgs false
namespace Go.Proofs.YtcbmibgfmlpobaaGreat
open Go.Fw Go.Proofs Go.RowKit
variable {σ : Store}
structure Iv (s : Store) (k0 k1 k2 k3 k4 k5 m0 m1 m2 m3 m4 m5 e0 e1 : D) (A B : En) (sa sb : List Msg) (ha hb : Int) : Prop where
  w : W2 s k0 k1 k2 k3 k4 k5 m0 m1 m2 m3 m4 m5 e0 e1 A B sa sb
  ga : A.Good
  gb : B.Good
  ab : Rel A B sa hb
  ba : Rel B A sb ha
section
variable {s s' : Store} {k0 k1 k2 k3 k4 k5 m0 m1 m2 m3 m4 m5 e0 e1 : D} {A B : En} {sa sb : List Msg} {ha hb : Int}
theorem Iv.swap (h : Iv s k0 k1 k2 k3 k4 k5 m0 m1 m2 m3 m4 m5 e0 e1 A B sa sb ha hb) : Iv s m0 m1 m2 m3 m4 m5 k0 k1 k2 k3 k4 k5 e1 e0 B A sb sa hb ha := ⟨h.w.swap, h.gb, h.ga, h.ba, h.ab⟩
theorem Iv.ext (h : Iv s k0 k1 k2 k3 k4 k5 m0 m1 m2 m3 m4 m5 e0 e1 A B sa sb ha hb) (he : Ext s s') : Iv s' k0 k1 k2 k3 k4 k5 m0 m1 m2 m3 m4 m5 e0 e1 A B sa sb ha hb := ⟨h.w.ext he, h.ga, h.gb, h.ab, h.ba⟩
theorem Iv.fit (h : Iv s k0 k1 k2 k3 k4 k5 m0 m1 m2 m3 m4 m5 e0 e1 A B sa sb ha hb) : CoFit k0 k1 k2 k3 k4 k5 A.co :=
  ⟨h.w.a.own.nz, h.w.a.routes.nz, h.w.a.points.nz, h.w.a.xs.nz, h.w.a.lines.nz, h.w.a.resets.nz, by simp [En.co], by simp [En.co], by simp [En.co], by simp [En.co], by simp [En.co], by simp [En.co]⟩
theorem Iv.ask {c0 c1 c2 c3 c4 : D} (h : Iv s k0 k1 k2 k3 k4 k5 m0 m1 m2 m3 m4 m5 e0 e1 A B sa sb ha hb) (hc : ∀ s, CfAt s c0 c1 c2 c3 c4 endC) (hz : RtsNz c4) {now : Int} (hn : 0 ≤ now ∧ now ≤ 4294967295) {Q : RV → Store → Prop}
    (hQ : ∀ d0 d1 d2 d3 d4 d5 b n s', (n ≠ 0 → Iv s' k0 k1 k2 k3 k4 k5 m0 m1 m2 m3 m4 m5 e0 e1 A B sa sb ha hb) → (n = 0 → ∃ A', b = A'.b ∧ Iv s' d0 d1 d2 d3 d4 d5 m0 m1 m2 m3 m4 m5 e0 e1 A' B sa sb ha hb) → Q (.tup [coA d0 d1 d2 d3 d4 d5 b, iA n]) s') :
    DCalls Tryz.prog n_locks_Request [cfA c0 c1 c2 c3 c4 endC, coA k0 k1 k2 k3 k4 k5 A.b, iA now, iA 0] s Q := by
  refine (locks_Request_ok (k := A.co) hc h.w.a.at h.fit hz now 0).mono ?_
  rintro r s' ⟨d0, d1, d2, d3, d4, d5, rfl, hd⟩
  have he : Ext s s' := hd.own.ext
  refine hQ _ _ _ _ _ _ _ _ _ (fun _ => h.ext he) fun h0 => ?_
  rcases en_request h.ga hn with g | ⟨g1, g2, g3⟩
  · exact absurd h0 g
  · rw [g1] at hd ⊢
    exact ⟨A.asked, rfl, h.w.newA hd, ask_good h.ga g2 g3, h.gb, ask_rel1 h.ab, ask_rel2 h.ba g2⟩
theorem Iv.noted (h : Iv s k0 k1 k2 k3 k4 k5 m0 m1 m2 m3 m4 m5 e0 e1 A B sa sb ha hb) (c : Bool) : Iv s k0 k1 k2 k3 k4 k5 m0 m1 m2 m3 m4 m5 e0 e1 (A.noted c) B sa sb ha hb :=
  ⟨h.w.flag c (A' := A), rec_good h.ga c, h.gb, rec_rel1 h.ab c, rec_rel2 h.ba c⟩
theorem Iv.over (h : Iv s k0 k1 k2 k3 k4 k5 m0 m1 m2 m3 m4 m5 e0 e1 A B sa sb ha hb) (hst : A.st = 1) (i : Int) (hi0 : 0 ≤ i) (hi1 : i < 2) {K : Store → Prop} (hK : ∀ s', Iv s' k0 k1 k2 k3 k4 k5 m0 m1 m2 m3 m4 m5 e0 e1 A.over B sa sb ha hb → K s') :
    ∃ len : Nat, (Idx Tryz.prog s k0 1 len) ∧ ((0 : Int) ≤ 0) ∧ ((0 : Int) < (len : Int)) ∧ storeEl [iD 0] s k0 0 0 fun s1 => ((0 : Int) ≤ i) ∧ (i < (2 : Int)) ∧
      ∃ len : Nat, (Idx Tryz.prog s1 k1 4 len) ∧ ((0 : Int) ≤ 0) ∧ ((0 : Int) < (len : Int)) ∧ storeEl [iD 0, iD 0, iD 0, iD 0] s1 k1 0 0 fun s2 => ((0 : Int) ≤ i) ∧ (i < (2 : Int)) ∧ ((0 : Int) ≤ i) ∧ (i < (2 : Int)) ∧
        ∃ len : Nat, (Idx Tryz.prog s2 k4 8 len) ∧ ((0 : Int) ≤ 1) ∧ ((1 : Int) < (len : Int)) ∧ ∃ row : List D, (Row s2 k4 1 row) ∧ ∃ n : Int, (row.take 1 = [iD n]) ∧
          ∃ len : Nat, (Idx Tryz.prog s2 k4 8 len) ∧ ((0 : Int) ≤ 1) ∧ ((1 : Int) < (len : Int)) ∧ storeEl [iD n] s2 k4 1 1 K := by
  have ho := h.ga.own hst
  refine h.w.a.own.at_.idxK (j := 0) c_int rfl (by simp [En.co]) (h.w.a.putO (k := A.co) (j := 0) (x := A.o) (y := 0) rfl rfl (by simp) rfl fun s1 h1 o1 => ⟨hi0, hi1, ?_⟩)
  have w1 : W2 s1 k0 k1 k2 k3 k4 k5 m0 m1 m2 m3 m4 m5 e0 e1 ⟨0, A.st, A.x, A.b⟩ B sa sb := h.w.putA h1 (d := k0) (by simp) o1
  refine w1.a.routes.at_.idxK (j := 0) c_RouteState rfl (by simp [En.co]) (w1.a.putR (j := 0) (x := ⟨A.st, 0, 0, 0⟩) (y := ⟨0, 0, 0, 0⟩) rfl rfl (by simp) rfl fun s2 h2 o2 => ⟨hi0, hi1, hi0, hi1, ?_⟩)
  have w2 : W2 s2 k0 k1 k2 k3 k4 k5 m0 m1 m2 m3 m4 m5 e0 e1 ⟨0, 0, A.x, A.b⟩ B sa sb := w1.putA h2 (d := k1) (by simp) o2
  refine w2.a.lines.at_.load (j := 1) (map_get (f := Ls.enc) (x := A.x) rfl) c_LineState rfl ⟨A.x.Ask, rfl, ?_⟩
  refine w2.a.lines.at_.idxK (j := 1) c_LineState rfl (by simp [En.co]) (w2.a.putL (j := 1) (x := A.x) (y := { A.x with Done := A.x.Ask }) rfl rfl (by simp) rfl fun s3 h3 o3 => hK s3 ?_)
  have w3 : W2 s3 k0 k1 k2 k3 k4 k5 m0 m1 m2 m3 m4 m5 e0 e1 ⟨0, 0, { A.x with Done := A.x.Ask }, A.b⟩ B sa sb := w2.putA h3 (d := k4) (by simp) o3
  exact ⟨w3.flag true (A' := A), over_good h.ga, h.gb, over_rel1 h.ga h.ab, over_rel2 ho h.ba⟩
theorem Iv.tells (h : Iv s k0 k1 k2 k3 k4 k5 m0 m1 m2 m3 m4 m5 e0 e1 A B sa sb ha hb) : Rel A B (sa ++ [(A.x.Ask, A.x.Done, A.x.Told)]) hb := tell_rel h.ga h.ab
theorem Iv.hear {c0 c1 c2 c3 c4 : D} (h : Iv s k0 k1 k2 k3 k4 k5 m0 m1 m2 m3 m4 m5 e0 e1 A B sa sb ha hb) (hc : ∀ s, CfAt s c0 c1 c2 c3 c4 endC) {j : Nat} {m : Msg} (hj : ha < j) (hm : sb[j]? = some m) {Q : RV → Store → Prop}
    (hQ : ∀ d0 d1 d2 d3 d4 d5 A' s', Iv s' d0 d1 d2 d3 d4 d5 m0 m1 m2 m3 m4 m5 e0 e1 A' B sa sb j hb → Q (.tup [coA d0 d1 d2 d3 d4 d5 A'.b, iA 0]) s') :
    DCalls Tryz.prog n_block_Hear [cfA c0 c1 c2 c3 c4 endC, coA k0 k1 k2 k3 k4 k5 A.b, iA 1, .agg [iD m.1, iD m.2.1, iD m.2.2]] s Q := by
  have hmem := List.mem_of_getElem? hm
  have hs := h.ba.sent m hmem
  have g1 := h.gb.ask
  have g2 := h.gb.done
  have g3 := h.gb.grant
  have he := en_hear h.ga (a := m.1) (d := m.2.1) (g := m.2.2) (by omega) (by omega) (by omega)
  refine (block_Hear_ok (k := A.co) hc h.w.a.at h.fit 1 m.1 m.2.1 m.2.2).mono ?_
  rintro r s' ⟨d0, d1, d2, d3, d4, d5, rfl, hd⟩
  rw [he] at hd ⊢
  exact hQ _ _ _ _ _ _ (A.hears m) s' ⟨h.w.newA hd, hear_good h.gb h.ga h.ba hmem, h.gb, hear_rel2 h.ab m, hear_rel1 h.ba hj hm⟩
theorem Iv.step {c0 c1 c2 c3 c4 v0 v1 v2 v3 : D} (h : Iv s k0 k1 k2 k3 k4 k5 m0 m1 m2 m3 m4 m5 e0 e1 A B sa sb ha hb) (hc : ∀ s, CfAt s c0 c1 c2 c3 c4 endC) {occ stamp now : Int} (hv : VwAt v0 v1 v2 v3 (seenV occ stamp)) (hn : 0 ≤ now ∧ now ≤ 4294967295) {Q : RV → Store → Prop}
    (hQ : ∀ d0 d1 d2 d3 d4 d5 A' s', Iv s' d0 d1 d2 d3 d4 d5 m0 m1 m2 m3 m4 m5 e0 e1 A' B sa sb ha hb → Q (.tup [coA d0 d1 d2 d3 d4 d5 A'.b, iA 0]) s') :
    DCalls Tryz.prog n_block_Step [cfA c0 c1 c2 c3 c4 endC, coA k0 k1 k2 k3 k4 k5 A.b, .agg [v0, v1, v2, v3], iA now] s Q := by
  obtain ⟨mm, hmm, he⟩ := en_step h.ga occ stamp hn
  have hk := step_keeps (occ := occ) (stamp := stamp) h.ga h.ba h.ab hn hmm
  refine (block_Step_ok (k := A.co) hc h.w.a.at h.fit hv now).mono ?_
  rintro r s' ⟨d0, d1, d2, d3, d4, d5, rfl, hd⟩
  rw [he] at hd ⊢
  exact hQ _ _ _ _ _ _ (A.step occ stamp now mm) s' ⟨h.w.newA hd, hk.1, h.gb, hk.2.2, hk.2.1⟩
end
end Go.Proofs.YtcbmibgfmlpobaaGreat
end
section
set_option maxRecDepth 100000
set_option linter.unusedVariables false
namespace Go.Proofs.YtcbmibgfmlpobaaGreat
open Go.Fw Go.Proofs
def an_law15_BlockBoth : Ann := { esc := [], cbs := [], draws := [(14, { ord := [0, 1, 2, 3, 4, 9, 5, 6, 7, 8, 10, 11], nb := [], av := [], dir := [] }), (20, { ord := [0, 1, 2, 3, 4, 5, 6, 7, 8, 9, 10, 11, 12, 13], nb := [], av := [], dir := [] }), (24, { ord := [0, 1, 2, 3, 4, 5, 6, 7, 8, 9, 10, 11], nb := [3], av := [], dir := [], sp := [7] }), (30, { ord := [0, 1, 2, 3, 4, 5, 6, 7, 8, 9, 10, 15, 11, 12, 13, 14, 16, 17], nb := [], av := [], dir := [] }), (38, { ord := [0, 1, 2, 3, 4, 5, 7, 12, 6, 8, 9, 10, 11, 13, 14], nb := [0, 3], av := [], dir := [], sp := [6] })], loops := [(8, { mods := [(4, SlotSh.bx [Sh.any, Sh.any, Sh.any, Sh.any, Sh.any, Sh.any, Sh.bool, Sh.any, Sh.any, Sh.any, Sh.any, Sh.any, Sh.any, Sh.bool]), (5, SlotSh.bx [Sh.any, Sh.any]), (6, SlotSh.bx [Sh.int IntKind.i64, Sh.int IntKind.i64]), (31, SlotSh.one (Sh.int IntKind.i64))], keep := [3, 29, 30] }), (11, { mods := [(4, SlotSh.bx [Sh.any, Sh.any, Sh.any, Sh.any, Sh.any, Sh.any, Sh.bool, Sh.any, Sh.any, Sh.any, Sh.any, Sh.any, Sh.any, Sh.bool]), (5, SlotSh.bx [Sh.any, Sh.any]), (9, SlotSh.one (Sh.int IntKind.i64))], keep := [3, 6, 7, 8, 29, 30, 31], un := 3 }), (26, { mods := [(4, SlotSh.bx [Sh.any, Sh.any, Sh.any, Sh.any, Sh.any, Sh.any, Sh.bool, Sh.any, Sh.any, Sh.any, Sh.any, Sh.any, Sh.any, Sh.bool]), (6, SlotSh.bx [Sh.int IntKind.i64, Sh.int IntKind.i64]), (12, SlotSh.one (Sh.int IntKind.i64))], keep := [3, 5, 7, 8, 29, 30, 31], un := 3 }), (43, { mods := [(19, SlotSh.one (Sh.int IntKind.i64))], keep := [3, 4, 5, 6, 29, 30, 31], un := 3 })], joins := [(12, { mods := [(4, SlotSh.bx [Sh.any, Sh.any, Sh.any, Sh.any, Sh.any, Sh.any, Sh.bool, Sh.any, Sh.any, Sh.any, Sh.any, Sh.any, Sh.any, Sh.bool]), (5, SlotSh.bx [Sh.any, Sh.any])], keep := [3, 6, 7, 8, 9, 29, 30, 31] }), (17, { mods := [(4, SlotSh.bx [Sh.any, Sh.any, Sh.any, Sh.any, Sh.any, Sh.any, Sh.bool, Sh.any, Sh.any, Sh.any, Sh.any, Sh.any, Sh.any, Sh.bool])], keep := [3, 5, 6, 7, 8, 9, 29, 30, 31] }), (22, { mods := [(4, SlotSh.bx [Sh.any, Sh.any, Sh.any, Sh.any, Sh.any, Sh.any, Sh.bool, Sh.any, Sh.any, Sh.any, Sh.any, Sh.any, Sh.any, Sh.bool])], keep := [3, 5, 6, 7, 8, 9, 29, 30, 31] }), (18, { mods := [(71, SlotSh.one (Sh.bool))], keep := [3, 4, 5, 6, 7, 8, 9, 29, 30, 31] }), (24, { mods := [(4, SlotSh.bx [Sh.any, Sh.any, Sh.any, Sh.any, Sh.any, Sh.any, Sh.bool, Sh.any, Sh.any, Sh.any, Sh.any, Sh.any, Sh.any, Sh.bool])], keep := [3, 5, 6, 7, 8, 9, 29, 30, 31] }), (27, { mods := [(4, SlotSh.bx [Sh.any, Sh.any, Sh.any, Sh.any, Sh.any, Sh.any, Sh.bool, Sh.any, Sh.any, Sh.any, Sh.any, Sh.any, Sh.any, Sh.bool]), (6, SlotSh.bx [Sh.int IntKind.i64, Sh.int IntKind.i64])], keep := [3, 5, 7, 8, 12, 29, 30, 31] }), (35, { mods := [(4, SlotSh.bx [Sh.any, Sh.any, Sh.any, Sh.any, Sh.any, Sh.any, Sh.bool, Sh.any, Sh.any, Sh.any, Sh.any, Sh.any, Sh.any, Sh.bool]), (6, SlotSh.bx [Sh.int IntKind.i64, Sh.int IntKind.i64])], keep := [3, 5, 7, 8, 12, 29, 30, 31] }), (30, { mods := [(139, SlotSh.one (Sh.bool))], keep := [3, 4, 5, 6, 7, 8, 12, 13, 29, 30, 31] }), (38, { mods := [(16, SlotSh.one (Sh.int IntKind.i64))], keep := [3, 4, 5, 6, 7, 8, 12, 29, 30, 31] }), (44, { mods := [], keep := [3, 4, 5, 6, 19, 29, 30, 31] }), (47, { mods := [(21, SlotSh.one (Sh.bool))], keep := [3, 4, 5, 6, 19, 29, 30, 31] })] }
def V_law15_BlockBoth (script : D) (σ : Store) (Qp : RV → Store → Prop) : Prop :=
  DCalls Tryz.prog n_law15_lives [] σ (fun (r : RV) => fun (σ' : Store) => ∃ b : Bool, (r = (.a (.one (.bool b)) : RV)) ∧ bcase (!b) (Qp (.a (.one (.bool false))) σ') (DCalls Tryz.prog n_law15_end [] σ' (fun (r1 : RV) => fun (σ'1 : Store) => ∃ d : D, ∃ d1 : D, ∃ d2 : D, ∃ d3 : D, ∃ d4 : D, ∃ n : Int, ∃ n1 : Int, ∃ n2 : Int, ∃ n3 : Int, (r1 = (.a (.agg [d, d1, d2, d3, d4, .int .i64 n, .int .i64 n1, .int .i64 n2, .int .i64 n3]) : RV)) ∧ DCalls Tryz.prog n_law15_fresh [] σ'1 (fun (r2 : RV) => fun (σ'2 : Store) => ∃ d5 : D, ∃ d6 : D, ∃ d7 : D, ∃ d8 : D, ∃ d9 : D, ∃ d10 : D, ∃ b1 : Bool, (r2 = (.a (.agg [d5, d6, d7, d8, d9, d10, .bool b1]) : RV)) ∧ DCalls Tryz.prog n_law15_fresh [] σ'2 (fun (r3 : RV) => fun (σ'3 : Store) => ∃ d11 : D, ∃ d12 : D, ∃ d13 : D, ∃ d14 : D, ∃ d15 : D, ∃ d16 : D, ∃ b2 : Bool, (r3 = (.a (.agg [d11, d12, d13, d14, d15, d16, .bool b2]) : RV)) ∧ ∃ len : Nat, (Len script len) ∧ ∃ I : D → D → D → D → D → D → Bool → D → D → D → D → D → D → Bool → D → D → Int → Int → Int → Store → Prop, ∃ μ : D → D → D → D → D → D → Bool → D → D → D → D → D → D → Bool → D → D → Int → Int → Int → Store → Nat, (I d5 d6 d7 d8 d9 d10 b1 d11 d12 d13 d14 d15 d16 b2 .nils .nils (-1) (-1) 0 σ'3) ∧ ∀ d17 : D, ∀ d18 : D, ∀ d19 : D, ∀ d20 : D, ∀ d21 : D, ∀ d22 : D, ∀ b3 : Bool, ∀ d23 : D, ∀ d24 : D, ∀ d25 : D, ∀ d26 : D, ∀ d27 : D, ∀ d28 : D, ∀ b4 : Bool, ∀ d29 : D, ∀ d30 : D, ∀ n4 : Int, ∀ n5 : Int, ∀ n6 : Int, ∀ σ'4 : Store, (I d17 d18 d19 d20 d21 d22 b3 d23 d24 d25 d26 d27 d28 b4 d29 d30 n4 n5 n6 σ'4) → bcase (decide (n6 < (len : Int))) (∃ len1 : Nat, (Idx Tryz.prog σ'4 script 8 len1) ∧ ((0 : Int) ≤ n6) ∧ (n6 < (len1 : Int)) ∧ ∃ row : List D, (Row σ'4 script (Int.toNat n6) row) ∧ ∃ b5 : Bool, ∃ b6 : Bool, ∃ b7 : Bool, ∃ b8 : Bool, ∃ n7 : Int, ∃ n8 : Int, ∃ b9 : Bool, ∃ b10 : Bool, ((List.take 8 row) = ([.bool b5, .bool b6, .bool b7, .bool b8, .int .i64 n7, .int .i64 n8, .bool b9, .bool b10] : List D)) ∧ ∀ R : D → D → D → D → D → D → Bool → D → D → D → D → D → D → Bool → D → D → Store → Prop, (∀ d31 : D, ∀ d32 : D, ∀ d33 : D, ∀ d34 : D, ∀ d35 : D, ∀ d36 : D, ∀ b11 : Bool, ∀ d37 : D, ∀ d38 : D, ∀ d39 : D, ∀ d40 : D, ∀ d41 : D, ∀ d42 : D, ∀ b12 : Bool, ∀ d43 : D, ∀ d44 : D, ∀ σ'5 : Store, (∀ R1 : D → D → D → D → D → D → Bool → D → D → D → D → D → D → Bool → D → D → Store → Prop, (∀ d45 : D, ∀ d46 : D, ∀ d47 : D, ∀ d48 : D, ∀ d49 : D, ∀ d50 : D, ∀ b13 : Bool, ∀ d51 : D, ∀ d52 : D, ∀ d53 : D, ∀ d54 : D, ∀ d55 : D, ∀ d56 : D, ∀ b14 : Bool, ∀ d57 : D, ∀ d58 : D, ∀ σ'6 : Store, (∀ R2 : D → D → D → D → D → D → Bool → D → D → D → D → D → D → Bool → Int → Int → Store → Prop, (∀ d59 : D, ∀ d60 : D, ∀ d61 : D, ∀ d62 : D, ∀ d63 : D, ∀ d64 : D, ∀ b15 : Bool, ∀ d65 : D, ∀ d66 : D, ∀ d67 : D, ∀ d68 : D, ∀ d69 : D, ∀ d70 : D, ∀ b16 : Bool, ∀ n9 : Int, ∀ n10 : Int, ∀ σ'7 : Store, (∀ R3 : D → D → D → D → D → D → Bool → D → D → D → D → D → D → Bool → Int → Int → Store → Prop, (∀ d71 : D, ∀ d72 : D, ∀ d73 : D, ∀ d74 : D, ∀ d75 : D, ∀ d76 : D, ∀ b17 : Bool, ∀ d77 : D, ∀ d78 : D, ∀ d79 : D, ∀ d80 : D, ∀ d81 : D, ∀ d82 : D, ∀ b18 : Bool, ∀ n11 : Int, ∀ n12 : Int, ∀ σ'8 : Store, (∀ R4 : Store → Prop, (∀ σ'9 : Store, (∀ R5 : Store → Prop, (∀ σ'10 : Store, ((([[d, d1, d2, d3, d4, .int .i64 n, .int .i64 n1, .int .i64 n2, .int .i64 n3]] : List (List D)) = ([[d, d1, d2, d3, d4, .int .i64 n, .int .i64 n1, .int .i64 n2, .int .i64 n3]] : List (List D))) ∧ (I d71 d72 d73 d74 d75 d76 b17 d77 d78 d79 d80 d81 d82 b18 d57 d58 n11 n12 (w64 (n6 + 1)) σ'10) ∧ ((μ d71 d72 d73 d74 d75 d76 b17 d77 d78 d79 d80 d81 d82 b18 d57 d58 n11 n12 (w64 (n6 + 1)) σ'10) < (μ d17 d18 d19 d20 d21 d22 b3 d23 d24 d25 d26 d27 d28 b4 d29 d30 n4 n5 n6 σ'4))) → R5 σ'10) → ((0 : Int) ≤ 1) ∧ ((1 : Int) < (2 : Int)) ∧ ∃ len2 : Nat, (Idx Tryz.prog σ'9 d81 8 len2) ∧ ((0 : Int) ≤ 1) ∧ ((1 : Int) < (len2 : Int)) ∧ ∃ row1 : List D, (Row σ'9 d81 1 row1) ∧ ∃ n13 : Int, ∃ n14 : Int, ∃ n15 : Int, ∃ n16 : Int, ∃ n17 : Int, ∃ n18 : Int, ∃ n19 : Int, ∃ n20 : Int, ((List.take 8 row1) = ([.int .i64 n13, .int .i64 n14, .int .i64 n15, .int .i64 n16, .int .i64 n17, .int .i64 n18, .int .i64 n19, .int .i64 n20] : List D)) ∧ ∀ R6 : Bool → Store → Prop, (∀ b19 : Bool, ∀ σ'10 : Store, (bcase b19 (((0 : Int) ≤ 0) ∧ ((0 : Int) < (2 : Int)) ∧ ∃ len3 : Nat, (Idx Tryz.prog σ'10 d71 1 len3) ∧ ((0 : Int) ≤ 0) ∧ ((0 : Int) < (len3 : Int)) ∧ ∃ row2 : List D, (Row σ'10 d71 0 row2) ∧ ∃ n21 : Int, ((List.take 1 row2) = ([.int .i64 n21] : List D)) ∧ bcase (n21 != (-2)) (Qp (.a (.one (.bool false))) σ'10) ((([[d, d1, d2, d3, d4, .int .i64 n, .int .i64 n1, .int .i64 n2, .int .i64 n3], [d71, d72, d73, d74, d75, d76, .bool b17, d77, d78, d79, d80, d81, d82, .bool b18], [d57, d58], [.int .i64 n11, .int .i64 n12]] : List (List D)) = ([[d, d1, d2, d3, d4, .int .i64 n, .int .i64 n1, .int .i64 n2, .int .i64 n3], [d71, d72, d73, d74, d75, d76, .bool b17, d77, d78, d79, d80, d81, d82, .bool b18], [d57, d58], [.int .i64 n11, .int .i64 n12]] : List (List D))) ∧ R5 σ'10)) ((([[d, d1, d2, d3, d4, .int .i64 n, .int .i64 n1, .int .i64 n2, .int .i64 n3], [d71, d72, d73, d74, d75, d76, .bool b17, d77, d78, d79, d80, d81, d82, .bool b18], [d57, d58], [.int .i64 n11, .int .i64 n12]] : List (List D)) = ([[d, d1, d2, d3, d4, .int .i64 n, .int .i64 n1, .int .i64 n2, .int .i64 n3], [d71, d72, d73, d74, d75, d76, .bool b17, d77, d78, d79, d80, d81, d82, .bool b18], [d57, d58], [.int .i64 n11, .int .i64 n12]] : List (List D))) ∧ R5 σ'10)) → R6 b19 σ'10) → ((0 : Int) ≤ 1) ∧ ((1 : Int) < (2 : Int)) ∧ ∃ len3 : Nat, (Idx Tryz.prog σ'9 d77 1 len3) ∧ ((0 : Int) ≤ 0) ∧ ((0 : Int) < (len3 : Int)) ∧ ∃ row2 : List D, (Row σ'9 d77 0 row2) ∧ ∃ n21 : Int, ((List.take 1 row2) = ([.int .i64 n21] : List D)) ∧ bcase (n21 == 1) (bcase (n13 != n14) ((([[d, d1, d2, d3, d4, .int .i64 n, .int .i64 n1, .int .i64 n2, .int .i64 n3], [d71, d72, d73, d74, d75, d76, .bool b17, d77, d78, d79, d80, d81, d82, .bool b18], [d57, d58], [.int .i64 n11, .int .i64 n12]] : List (List D)) = ([[d, d1, d2, d3, d4, .int .i64 n, .int .i64 n1, .int .i64 n2, .int .i64 n3], [d71, d72, d73, d74, d75, d76, .bool b17, d77, d78, d79, d80, d81, d82, .bool b18], [d57, d58], [.int .i64 n11, .int .i64 n12]] : List (List D))) ∧ R6 (n19 == n13) σ'9) ((([[d, d1, d2, d3, d4, .int .i64 n, .int .i64 n1, .int .i64 n2, .int .i64 n3], [d71, d72, d73, d74, d75, d76, .bool b17, d77, d78, d79, d80, d81, d82, .bool b18], [d57, d58], [.int .i64 n11, .int .i64 n12]] : List (List D)) = ([[d, d1, d2, d3, d4, .int .i64 n, .int .i64 n1, .int .i64 n2, .int .i64 n3], [d71, d72, d73, d74, d75, d76, .bool b17, d77, d78, d79, d80, d81, d82, .bool b18], [d57, d58], [.int .i64 n11, .int .i64 n12]] : List (List D))) ∧ R6 false σ'9)) ((([[d, d1, d2, d3, d4, .int .i64 n, .int .i64 n1, .int .i64 n2, .int .i64 n3], [d71, d72, d73, d74, d75, d76, .bool b17, d77, d78, d79, d80, d81, d82, .bool b18], [d57, d58], [.int .i64 n11, .int .i64 n12]] : List (List D)) = ([[d, d1, d2, d3, d4, .int .i64 n, .int .i64 n1, .int .i64 n2, .int .i64 n3], [d71, d72, d73, d74, d75, d76, .bool b17, d77, d78, d79, d80, d81, d82, .bool b18], [d57, d58], [.int .i64 n11, .int .i64 n12]] : List (List D))) ∧ R6 false σ'9)) → R4 σ'9) → ((0 : Int) ≤ 0) ∧ ((0 : Int) < (2 : Int)) ∧ ∃ len2 : Nat, (Idx Tryz.prog σ'8 d75 8 len2) ∧ ((0 : Int) ≤ 1) ∧ ((1 : Int) < (len2 : Int)) ∧ ∃ row1 : List D, (Row σ'8 d75 1 row1) ∧ ∃ n13 : Int, ∃ n14 : Int, ∃ n15 : Int, ∃ n16 : Int, ∃ n17 : Int, ∃ n18 : Int, ∃ n19 : Int, ∃ n20 : Int, ((List.take 8 row1) = ([.int .i64 n13, .int .i64 n14, .int .i64 n15, .int .i64 n16, .int .i64 n17, .int .i64 n18, .int .i64 n19, .int .i64 n20] : List D)) ∧ ∀ R5 : Bool → Store → Prop, (∀ b19 : Bool, ∀ σ'9 : Store, (bcase b19 (((0 : Int) ≤ 1) ∧ ((1 : Int) < (2 : Int)) ∧ ∃ len3 : Nat, (Idx Tryz.prog σ'9 d77 1 len3) ∧ ((0 : Int) ≤ 0) ∧ ((0 : Int) < (len3 : Int)) ∧ ∃ row2 : List D, (Row σ'9 d77 0 row2) ∧ ∃ n21 : Int, ((List.take 1 row2) = ([.int .i64 n21] : List D)) ∧ bcase (n21 != (-2)) (Qp (.a (.one (.bool false))) σ'9) ((([[d, d1, d2, d3, d4, .int .i64 n, .int .i64 n1, .int .i64 n2, .int .i64 n3], [d71, d72, d73, d74, d75, d76, .bool b17, d77, d78, d79, d80, d81, d82, .bool b18], [d57, d58], [.int .i64 n11, .int .i64 n12]] : List (List D)) = ([[d, d1, d2, d3, d4, .int .i64 n, .int .i64 n1, .int .i64 n2, .int .i64 n3], [d71, d72, d73, d74, d75, d76, .bool b17, d77, d78, d79, d80, d81, d82, .bool b18], [d57, d58], [.int .i64 n11, .int .i64 n12]] : List (List D))) ∧ R4 σ'9)) ((([[d, d1, d2, d3, d4, .int .i64 n, .int .i64 n1, .int .i64 n2, .int .i64 n3], [d71, d72, d73, d74, d75, d76, .bool b17, d77, d78, d79, d80, d81, d82, .bool b18], [d57, d58], [.int .i64 n11, .int .i64 n12]] : List (List D)) = ([[d, d1, d2, d3, d4, .int .i64 n, .int .i64 n1, .int .i64 n2, .int .i64 n3], [d71, d72, d73, d74, d75, d76, .bool b17, d77, d78, d79, d80, d81, d82, .bool b18], [d57, d58], [.int .i64 n11, .int .i64 n12]] : List (List D))) ∧ R4 σ'9)) → R5 b19 σ'9) → ((0 : Int) ≤ 0) ∧ ((0 : Int) < (2 : Int)) ∧ ∃ len3 : Nat, (Idx Tryz.prog σ'8 d71 1 len3) ∧ ((0 : Int) ≤ 0) ∧ ((0 : Int) < (len3 : Int)) ∧ ∃ row2 : List D, (Row σ'8 d71 0 row2) ∧ ∃ n21 : Int, ((List.take 1 row2) = ([.int .i64 n21] : List D)) ∧ bcase (n21 == 1) (bcase (n13 != n14) ((([[d, d1, d2, d3, d4, .int .i64 n, .int .i64 n1, .int .i64 n2, .int .i64 n3], [d71, d72, d73, d74, d75, d76, .bool b17, d77, d78, d79, d80, d81, d82, .bool b18], [d57, d58], [.int .i64 n11, .int .i64 n12]] : List (List D)) = ([[d, d1, d2, d3, d4, .int .i64 n, .int .i64 n1, .int .i64 n2, .int .i64 n3], [d71, d72, d73, d74, d75, d76, .bool b17, d77, d78, d79, d80, d81, d82, .bool b18], [d57, d58], [.int .i64 n11, .int .i64 n12]] : List (List D))) ∧ R5 (n19 == n13) σ'8) ((([[d, d1, d2, d3, d4, .int .i64 n, .int .i64 n1, .int .i64 n2, .int .i64 n3], [d71, d72, d73, d74, d75, d76, .bool b17, d77, d78, d79, d80, d81, d82, .bool b18], [d57, d58], [.int .i64 n11, .int .i64 n12]] : List (List D)) = ([[d, d1, d2, d3, d4, .int .i64 n, .int .i64 n1, .int .i64 n2, .int .i64 n3], [d71, d72, d73, d74, d75, d76, .bool b17, d77, d78, d79, d80, d81, d82, .bool b18], [d57, d58], [.int .i64 n11, .int .i64 n12]] : List (List D))) ∧ R5 false σ'8)) ((([[d, d1, d2, d3, d4, .int .i64 n, .int .i64 n1, .int .i64 n2, .int .i64 n3], [d71, d72, d73, d74, d75, d76, .bool b17, d77, d78, d79, d80, d81, d82, .bool b18], [d57, d58], [.int .i64 n11, .int .i64 n12]] : List (List D)) = ([[d, d1, d2, d3, d4, .int .i64 n, .int .i64 n1, .int .i64 n2, .int .i64 n3], [d71, d72, d73, d74, d75, d76, .bool b17, d77, d78, d79, d80, d81, d82, .bool b18], [d57, d58], [.int .i64 n11, .int .i64 n12]] : List (List D))) ∧ R5 false σ'8)) → R3 d71 d72 d73 d74 d75 d76 b17 d77 d78 d79 d80 d81 d82 b18 n11 n12 σ'8) → ((0 : Int) ≤ 1) ∧ ((1 : Int) < (2 : Int)) ∧ ∀ R4 : D → D → D → D → D → D → Bool → D → D → D → D → D → D → Bool → Int → Int → Store → Prop, (∀ d71 : D, ∀ d72 : D, ∀ d73 : D, ∀ d74 : D, ∀ d75 : D, ∀ d76 : D, ∀ b17 : Bool, ∀ d77 : D, ∀ d78 : D, ∀ d79 : D, ∀ d80 : D, ∀ d81 : D, ∀ d82 : D, ∀ b18 : Bool, ∀ n11 : Int, ∀ n12 : Int, ∀ σ'8 : Store, (∀ R5 : Int → Store → Prop, (∀ n13 : Int, ∀ σ'9 : Store, (∃ pre : List A → Store → Prop, ∃ post : List A → Store → RV → Store → Prop, (SpecOk Tryz.prog n_law15_seen pre post) ∧ ((0 : Int) ≤ 1) ∧ ((1 : Int) < (2 : Int)) ∧ (pre [.one (.int .i64 n13), .one (.int .i64 n6)] σ'9) ∧ ∀ r4 : RV, ∀ s : Store, (post [.one (.int .i64 n13), .one (.int .i64 n6)] σ'9 r4 s) → ∃ d83 : D, ∃ d84 : D, ∃ d85 : D, ∃ d86 : D, (r4 = (.a (.agg [d83, d84, d85, d86]) : RV)) ∧ DCalls Tryz.prog n_block_Step [.agg [d, d1, d2, d3, d4, .int .i64 n, .int .i64 n1, .int .i64 n2, .int .i64 n3], .agg [d77, d78, d79, d80, d81, d82, .bool b18], .agg [d83, d84, d85, d86], .one (.int .i64 n6)] s (fun (r5 : RV) => fun (σ'10 : Store) => ∃ d87 : D, ∃ d88 : D, ∃ d89 : D, ∃ d90 : D, ∃ d91 : D, ∃ d92 : D, ∃ b19 : Bool, ∃ n14 : Int, (r5 = (.tup [.agg [d87, d88, d89, d90, d91, d92, .bool b19], .one (.int .i64 n14)] : RV)) ∧ bcase (n14 != 0) (Qp (.a (.one (.bool false))) σ'10) (((0 : Int) ≤ 1) ∧ ((1 : Int) < (2 : Int)) ∧ (([[d, d1, d2, d3, d4, .int .i64 n, .int .i64 n1, .int .i64 n2, .int .i64 n3], [d57, d58], [.bool b5, .bool b6, .bool b7, .bool b8, .int .i64 n7, .int .i64 n8, .bool b9, .bool b10]] : List (List D)) = ([[d, d1, d2, d3, d4, .int .i64 n, .int .i64 n1, .int .i64 n2, .int .i64 n3], [d57, d58], [.bool b5, .bool b6, .bool b7, .bool b8, .int .i64 n7, .int .i64 n8, .bool b9, .bool b10]] : List (List D))) ∧ R3 d71 d72 d73 d74 d75 d76 b17 d87 d88 d89 d90 d91 d92 b19 n11 n12 σ'10))) → R5 n13 σ'9) → bcase b10 ((([[d, d1, d2, d3, d4, .int .i64 n, .int .i64 n1, .int .i64 n2, .int .i64 n3], [d71, d72, d73, d74, d75, d76, .bool b17, d77, d78, d79, d80, d81, d82, .bool b18], [d57, d58], [.int .i64 n11, .int .i64 n12], [.bool b5, .bool b6, .bool b7, .bool b8, .int .i64 n7, .int .i64 n8, .bool b9, .bool b10]] : List (List D)) = ([[d, d1, d2, d3, d4, .int .i64 n, .int .i64 n1, .int .i64 n2, .int .i64 n3], [d71, d72, d73, d74, d75, d76, .bool b17, d77, d78, d79, d80, d81, d82, .bool b18], [d57, d58], [.int .i64 n11, .int .i64 n12], [.bool b5, .bool b6, .bool b7, .bool b8, .int .i64 n7, .int .i64 n8, .bool b9, .bool b10]] : List (List D))) ∧ R5 1 σ'8) ((([[d, d1, d2, d3, d4, .int .i64 n, .int .i64 n1, .int .i64 n2, .int .i64 n3], [d71, d72, d73, d74, d75, d76, .bool b17, d77, d78, d79, d80, d81, d82, .bool b18], [d57, d58], [.int .i64 n11, .int .i64 n12], [.bool b5, .bool b6, .bool b7, .bool b8, .int .i64 n7, .int .i64 n8, .bool b9, .bool b10]] : List (List D)) = ([[d, d1, d2, d3, d4, .int .i64 n, .int .i64 n1, .int .i64 n2, .int .i64 n3], [d71, d72, d73, d74, d75, d76, .bool b17, d77, d78, d79, d80, d81, d82, .bool b18], [d57, d58], [.int .i64 n11, .int .i64 n12], [.bool b5, .bool b6, .bool b7, .bool b8, .int .i64 n7, .int .i64 n8, .bool b9, .bool b10]] : List (List D))) ∧ R5 0 σ'8)) → R4 d71 d72 d73 d74 d75 d76 b17 d77 d78 d79 d80 d81 d82 b18 n11 n12 σ'8) → ∀ R5 : Bool → Store → Prop, (∀ b17 : Bool, ∀ σ'8 : Store, (bcase b17 (((0 : Int) ≤ 1) ∧ ((1 : Int) < (2 : Int)) ∧ ((0 : Int) ≤ 0) ∧ ((0 : Int) < (2 : Int)) ∧ ∃ len2 : Nat, (Idx Tryz.prog σ'8 d57 3 len2) ∧ ((0 : Int) ≤ (w64 (n6 - (w64 (Int.tmod (IntKind.wrap .u64 n8) 8))))) ∧ ((w64 (n6 - (w64 (Int.tmod (IntKind.wrap .u64 n8) 8)))) < (len2 : Int)) ∧ ∃ row1 : List D, (Row σ'8 d57 (Int.toNat (w64 (n6 - (w64 (Int.tmod (IntKind.wrap .u64 n8) 8))))) row1) ∧ ∃ n11 : Int, ∃ n12 : Int, ∃ n13 : Int, ((List.take 3 row1) = ([.int .i64 n11, .int .i64 n12, .int .i64 n13] : List D)) ∧ DCalls Tryz.prog n_block_Hear [.agg [d, d1, d2, d3, d4, .int .i64 n, .int .i64 n1, .int .i64 n2, .int .i64 n3], .agg [d65, d66, d67, d68, d69, d70, .bool b16], .one (.int .i64 1), .agg [.int .i64 n11, .int .i64 n12, .int .i64 n13]] σ'8 (fun (r4 : RV) => fun (σ'9 : Store) => ∃ d71 : D, ∃ d72 : D, ∃ d73 : D, ∃ d74 : D, ∃ d75 : D, ∃ d76 : D, ∃ b18 : Bool, ∃ n14 : Int, (r4 = (.tup [.agg [d71, d72, d73, d74, d75, d76, .bool b18], .one (.int .i64 n14)] : RV)) ∧ bcase (n14 != 0) (Qp (.a (.one (.bool false))) σ'9) (((0 : Int) ≤ 1) ∧ ((1 : Int) < (2 : Int)) ∧ ((0 : Int) ≤ 1) ∧ ((1 : Int) < (2 : Int)) ∧ (([[d, d1, d2, d3, d4, .int .i64 n, .int .i64 n1, .int .i64 n2, .int .i64 n3], [d57, d58], [.bool b5, .bool b6, .bool b7, .bool b8, .int .i64 n7, .int .i64 n8, .bool b9, .bool b10]] : List (List D)) = ([[d, d1, d2, d3, d4, .int .i64 n, .int .i64 n1, .int .i64 n2, .int .i64 n3], [d57, d58], [.bool b5, .bool b6, .bool b7, .bool b8, .int .i64 n7, .int .i64 n8, .bool b9, .bool b10]] : List (List D))) ∧ R4 d59 d60 d61 d62 d63 d64 b15 d71 d72 d73 d74 d75 d76 b18 n9 (w64 (n6 - (w64 (Int.tmod (IntKind.wrap .u64 n8) 8)))) σ'9))) ((([[d, d1, d2, d3, d4, .int .i64 n, .int .i64 n1, .int .i64 n2, .int .i64 n3], [d57, d58], [.bool b5, .bool b6, .bool b7, .bool b8, .int .i64 n7, .int .i64 n8, .bool b9, .bool b10]] : List (List D)) = ([[d, d1, d2, d3, d4, .int .i64 n, .int .i64 n1, .int .i64 n2, .int .i64 n3], [d57, d58], [.bool b5, .bool b6, .bool b7, .bool b8, .int .i64 n7, .int .i64 n8, .bool b9, .bool b10]] : List (List D))) ∧ R4 d59 d60 d61 d62 d63 d64 b15 d65 d66 d67 d68 d69 d70 b16 n9 n10 σ'8)) → R5 b17 σ'8) → ((0 : Int) ≤ 1) ∧ ((1 : Int) < (2 : Int)) ∧ bcase (decide (n8 ≥ 0)) (((0 : Int) ≤ 1) ∧ ((1 : Int) < (2 : Int)) ∧ (([[d, d1, d2, d3, d4, .int .i64 n, .int .i64 n1, .int .i64 n2, .int .i64 n3], [d59, d60, d61, d62, d63, d64, .bool b15, d65, d66, d67, d68, d69, d70, .bool b16], [d57, d58], [.int .i64 n9, .int .i64 n10], [.bool b5, .bool b6, .bool b7, .bool b8, .int .i64 n7, .int .i64 n8, .bool b9, .bool b10]] : List (List D)) = ([[d, d1, d2, d3, d4, .int .i64 n, .int .i64 n1, .int .i64 n2, .int .i64 n3], [d59, d60, d61, d62, d63, d64, .bool b15, d65, d66, d67, d68, d69, d70, .bool b16], [d57, d58], [.int .i64 n9, .int .i64 n10], [.bool b5, .bool b6, .bool b7, .bool b8, .int .i64 n7, .int .i64 n8, .bool b9, .bool b10]] : List (List D))) ∧ R5 (decide ((w64 (n6 - (w64 (Int.tmod (IntKind.wrap .u64 n8) 8)))) > n10)) σ'7) ((([[d, d1, d2, d3, d4, .int .i64 n, .int .i64 n1, .int .i64 n2, .int .i64 n3], [d59, d60, d61, d62, d63, d64, .bool b15, d65, d66, d67, d68, d69, d70, .bool b16], [d57, d58], [.int .i64 n9, .int .i64 n10], [.bool b5, .bool b6, .bool b7, .bool b8, .int .i64 n7, .int .i64 n8, .bool b9, .bool b10]] : List (List D)) = ([[d, d1, d2, d3, d4, .int .i64 n, .int .i64 n1, .int .i64 n2, .int .i64 n3], [d59, d60, d61, d62, d63, d64, .bool b15, d65, d66, d67, d68, d69, d70, .bool b16], [d57, d58], [.int .i64 n9, .int .i64 n10], [.bool b5, .bool b6, .bool b7, .bool b8, .int .i64 n7, .int .i64 n8, .bool b9, .bool b10]] : List (List D))) ∧ R5 false σ'7)) → R2 d59 d60 d61 d62 d63 d64 b15 d65 d66 d67 d68 d69 d70 b16 n9 n10 σ'7) → ((0 : Int) ≤ 0) ∧ ((0 : Int) < (2 : Int)) ∧ ∀ R3 : D → D → D → D → D → D → Bool → D → D → D → D → D → D → Bool → Int → Int → Store → Prop, (∀ d59 : D, ∀ d60 : D, ∀ d61 : D, ∀ d62 : D, ∀ d63 : D, ∀ d64 : D, ∀ b15 : Bool, ∀ d65 : D, ∀ d66 : D, ∀ d67 : D, ∀ d68 : D, ∀ d69 : D, ∀ d70 : D, ∀ b16 : Bool, ∀ n9 : Int, ∀ n10 : Int, ∀ σ'7 : Store, (∀ R4 : Int → Store → Prop, (∀ n11 : Int, ∀ σ'8 : Store, (∃ pre : List A → Store → Prop, ∃ post : List A → Store → RV → Store → Prop, (SpecOk Tryz.prog n_law15_seen pre post) ∧ ((0 : Int) ≤ 0) ∧ ((0 : Int) < (2 : Int)) ∧ (pre [.one (.int .i64 n11), .one (.int .i64 n6)] σ'8) ∧ ∀ r4 : RV, ∀ s : Store, (post [.one (.int .i64 n11), .one (.int .i64 n6)] σ'8 r4 s) → ∃ d71 : D, ∃ d72 : D, ∃ d73 : D, ∃ d74 : D, (r4 = (.a (.agg [d71, d72, d73, d74]) : RV)) ∧ DCalls Tryz.prog n_block_Step [.agg [d, d1, d2, d3, d4, .int .i64 n, .int .i64 n1, .int .i64 n2, .int .i64 n3], .agg [d59, d60, d61, d62, d63, d64, .bool b15], .agg [d71, d72, d73, d74], .one (.int .i64 n6)] s (fun (r5 : RV) => fun (σ'9 : Store) => ∃ d75 : D, ∃ d76 : D, ∃ d77 : D, ∃ d78 : D, ∃ d79 : D, ∃ d80 : D, ∃ b17 : Bool, ∃ n12 : Int, (r5 = (.tup [.agg [d75, d76, d77, d78, d79, d80, .bool b17], .one (.int .i64 n12)] : RV)) ∧ bcase (n12 != 0) (Qp (.a (.one (.bool false))) σ'9) (((0 : Int) ≤ 0) ∧ ((0 : Int) < (2 : Int)) ∧ (([[d, d1, d2, d3, d4, .int .i64 n, .int .i64 n1, .int .i64 n2, .int .i64 n3], [d57, d58], [.bool b5, .bool b6, .bool b7, .bool b8, .int .i64 n7, .int .i64 n8, .bool b9, .bool b10]] : List (List D)) = ([[d, d1, d2, d3, d4, .int .i64 n, .int .i64 n1, .int .i64 n2, .int .i64 n3], [d57, d58], [.bool b5, .bool b6, .bool b7, .bool b8, .int .i64 n7, .int .i64 n8, .bool b9, .bool b10]] : List (List D))) ∧ R2 d75 d76 d77 d78 d79 d80 b17 d65 d66 d67 d68 d69 d70 b16 n9 n10 σ'9))) → R4 n11 σ'8) → bcase b10 ((([[d, d1, d2, d3, d4, .int .i64 n, .int .i64 n1, .int .i64 n2, .int .i64 n3], [d59, d60, d61, d62, d63, d64, .bool b15, d65, d66, d67, d68, d69, d70, .bool b16], [d57, d58], [.int .i64 n9, .int .i64 n10], [.bool b5, .bool b6, .bool b7, .bool b8, .int .i64 n7, .int .i64 n8, .bool b9, .bool b10]] : List (List D)) = ([[d, d1, d2, d3, d4, .int .i64 n, .int .i64 n1, .int .i64 n2, .int .i64 n3], [d59, d60, d61, d62, d63, d64, .bool b15, d65, d66, d67, d68, d69, d70, .bool b16], [d57, d58], [.int .i64 n9, .int .i64 n10], [.bool b5, .bool b6, .bool b7, .bool b8, .int .i64 n7, .int .i64 n8, .bool b9, .bool b10]] : List (List D))) ∧ R4 1 σ'7) ((([[d, d1, d2, d3, d4, .int .i64 n, .int .i64 n1, .int .i64 n2, .int .i64 n3], [d59, d60, d61, d62, d63, d64, .bool b15, d65, d66, d67, d68, d69, d70, .bool b16], [d57, d58], [.int .i64 n9, .int .i64 n10], [.bool b5, .bool b6, .bool b7, .bool b8, .int .i64 n7, .int .i64 n8, .bool b9, .bool b10]] : List (List D)) = ([[d, d1, d2, d3, d4, .int .i64 n, .int .i64 n1, .int .i64 n2, .int .i64 n3], [d59, d60, d61, d62, d63, d64, .bool b15, d65, d66, d67, d68, d69, d70, .bool b16], [d57, d58], [.int .i64 n9, .int .i64 n10], [.bool b5, .bool b6, .bool b7, .bool b8, .int .i64 n7, .int .i64 n8, .bool b9, .bool b10]] : List (List D))) ∧ R4 0 σ'7)) → R3 d59 d60 d61 d62 d63 d64 b15 d65 d66 d67 d68 d69 d70 b16 n9 n10 σ'7) → ∀ R4 : Bool → Store → Prop, (∀ b15 : Bool, ∀ σ'7 : Store, (bcase b15 (((0 : Int) ≤ 0) ∧ ((0 : Int) < (2 : Int)) ∧ ((0 : Int) ≤ 1) ∧ ((1 : Int) < (2 : Int)) ∧ ∃ len2 : Nat, (Idx Tryz.prog σ'7 d58 3 len2) ∧ ((0 : Int) ≤ (w64 (n6 - (w64 (Int.tmod (IntKind.wrap .u64 n7) 8))))) ∧ ((w64 (n6 - (w64 (Int.tmod (IntKind.wrap .u64 n7) 8)))) < (len2 : Int)) ∧ ∃ row1 : List D, (Row σ'7 d58 (Int.toNat (w64 (n6 - (w64 (Int.tmod (IntKind.wrap .u64 n7) 8))))) row1) ∧ ∃ n9 : Int, ∃ n10 : Int, ∃ n11 : Int, ((List.take 3 row1) = ([.int .i64 n9, .int .i64 n10, .int .i64 n11] : List D)) ∧ DCalls Tryz.prog n_block_Hear [.agg [d, d1, d2, d3, d4, .int .i64 n, .int .i64 n1, .int .i64 n2, .int .i64 n3], .agg [d45, d46, d47, d48, d49, d50, .bool b13], .one (.int .i64 1), .agg [.int .i64 n9, .int .i64 n10, .int .i64 n11]] σ'7 (fun (r4 : RV) => fun (σ'8 : Store) => ∃ d59 : D, ∃ d60 : D, ∃ d61 : D, ∃ d62 : D, ∃ d63 : D, ∃ d64 : D, ∃ b16 : Bool, ∃ n12 : Int, (r4 = (.tup [.agg [d59, d60, d61, d62, d63, d64, .bool b16], .one (.int .i64 n12)] : RV)) ∧ bcase (n12 != 0) (Qp (.a (.one (.bool false))) σ'8) (((0 : Int) ≤ 0) ∧ ((0 : Int) < (2 : Int)) ∧ ((0 : Int) ≤ 0) ∧ ((0 : Int) < (2 : Int)) ∧ (([[d, d1, d2, d3, d4, .int .i64 n, .int .i64 n1, .int .i64 n2, .int .i64 n3], [d57, d58], [.bool b5, .bool b6, .bool b7, .bool b8, .int .i64 n7, .int .i64 n8, .bool b9, .bool b10]] : List (List D)) = ([[d, d1, d2, d3, d4, .int .i64 n, .int .i64 n1, .int .i64 n2, .int .i64 n3], [d57, d58], [.bool b5, .bool b6, .bool b7, .bool b8, .int .i64 n7, .int .i64 n8, .bool b9, .bool b10]] : List (List D))) ∧ R3 d59 d60 d61 d62 d63 d64 b16 d51 d52 d53 d54 d55 d56 b14 (w64 (n6 - (w64 (Int.tmod (IntKind.wrap .u64 n7) 8)))) n5 σ'8))) ((([[d, d1, d2, d3, d4, .int .i64 n, .int .i64 n1, .int .i64 n2, .int .i64 n3], [d57, d58], [.bool b5, .bool b6, .bool b7, .bool b8, .int .i64 n7, .int .i64 n8, .bool b9, .bool b10]] : List (List D)) = ([[d, d1, d2, d3, d4, .int .i64 n, .int .i64 n1, .int .i64 n2, .int .i64 n3], [d57, d58], [.bool b5, .bool b6, .bool b7, .bool b8, .int .i64 n7, .int .i64 n8, .bool b9, .bool b10]] : List (List D))) ∧ R3 d45 d46 d47 d48 d49 d50 b13 d51 d52 d53 d54 d55 d56 b14 n4 n5 σ'7)) → R4 b15 σ'7) → ((0 : Int) ≤ 0) ∧ ((0 : Int) < (2 : Int)) ∧ bcase (decide (n7 ≥ 0)) (((0 : Int) ≤ 0) ∧ ((0 : Int) < (2 : Int)) ∧ (([[d, d1, d2, d3, d4, .int .i64 n, .int .i64 n1, .int .i64 n2, .int .i64 n3], [d45, d46, d47, d48, d49, d50, .bool b13, d51, d52, d53, d54, d55, d56, .bool b14], [d57, d58], [.int .i64 n4, .int .i64 n5], [.bool b5, .bool b6, .bool b7, .bool b8, .int .i64 n7, .int .i64 n8, .bool b9, .bool b10]] : List (List D)) = ([[d, d1, d2, d3, d4, .int .i64 n, .int .i64 n1, .int .i64 n2, .int .i64 n3], [d45, d46, d47, d48, d49, d50, .bool b13, d51, d52, d53, d54, d55, d56, .bool b14], [d57, d58], [.int .i64 n4, .int .i64 n5], [.bool b5, .bool b6, .bool b7, .bool b8, .int .i64 n7, .int .i64 n8, .bool b9, .bool b10]] : List (List D))) ∧ R4 (decide ((w64 (n6 - (w64 (Int.tmod (IntKind.wrap .u64 n7) 8)))) > n4)) σ'6) ((([[d, d1, d2, d3, d4, .int .i64 n, .int .i64 n1, .int .i64 n2, .int .i64 n3], [d45, d46, d47, d48, d49, d50, .bool b13, d51, d52, d53, d54, d55, d56, .bool b14], [d57, d58], [.int .i64 n4, .int .i64 n5], [.bool b5, .bool b6, .bool b7, .bool b8, .int .i64 n7, .int .i64 n8, .bool b9, .bool b10]] : List (List D)) = ([[d, d1, d2, d3, d4, .int .i64 n, .int .i64 n1, .int .i64 n2, .int .i64 n3], [d45, d46, d47, d48, d49, d50, .bool b13, d51, d52, d53, d54, d55, d56, .bool b14], [d57, d58], [.int .i64 n4, .int .i64 n5], [.bool b5, .bool b6, .bool b7, .bool b8, .int .i64 n7, .int .i64 n8, .bool b9, .bool b10]] : List (List D))) ∧ R4 false σ'6)) → R1 d45 d46 d47 d48 d49 d50 b13 d51 d52 d53 d54 d55 d56 b14 d57 d58 σ'6) → ∀ R2 : D → D → D → D → D → D → Bool → D → D → D → D → D → D → Bool → Store → Prop, (∀ d45 : D, ∀ d46 : D, ∀ d47 : D, ∀ d48 : D, ∀ d49 : D, ∀ d50 : D, ∀ b13 : Bool, ∀ d51 : D, ∀ d52 : D, ∀ d53 : D, ∀ d54 : D, ∀ d55 : D, ∀ d56 : D, ∀ b14 : Bool, ∀ σ'6 : Store, (∀ R3 : D → D → D → D → D → D → Bool → D → D → D → D → D → D → Bool → Store → Prop, (∀ d57 : D, ∀ d58 : D, ∀ d59 : D, ∀ d60 : D, ∀ d61 : D, ∀ d62 : D, ∀ b15 : Bool, ∀ d63 : D, ∀ d64 : D, ∀ d65 : D, ∀ d66 : D, ∀ d67 : D, ∀ d68 : D, ∀ b16 : Bool, ∀ σ'7 : Store, (∀ R4 : D → D → D → D → D → D → Bool → D → D → D → D → D → D → Bool → Store → Prop, (∀ d69 : D, ∀ d70 : D, ∀ d71 : D, ∀ d72 : D, ∀ d73 : D, ∀ d74 : D, ∀ b17 : Bool, ∀ d75 : D, ∀ d76 : D, ∀ d77 : D, ∀ d78 : D, ∀ d79 : D, ∀ d80 : D, ∀ b18 : Bool, ∀ σ'8 : Store, (∃ pre : List A → Store → Prop, ∃ post : List A → Store → RV → Store → Prop, (SpecOk Tryz.prog n_block_Tell pre post) ∧ ((0 : Int) ≤ 1) ∧ ((1 : Int) < (2 : Int)) ∧ ((0 : Int) ≤ 1) ∧ ((1 : Int) < (2 : Int)) ∧ (pre [.agg [d75, d76, d77, d78, d79, d80, .bool b18], .one (.int .i64 1)] σ'8) ∧ ∀ r4 : RV, ∀ s : Store, (post [.agg [d75, d76, d77, d78, d79, d80, .bool b18], .one (.int .i64 1)] σ'8 r4 s) → ∃ n9 : Int, ∃ n10 : Int, ∃ n11 : Int, (r4 = (.a (.agg [.int .i64 n9, .int .i64 n10, .int .i64 n11]) : RV)) ∧ Fw.newObj s (.live t_Block [[.int .i64 n9, .int .i64 n10, .int .i64 n11]]) (fun (id : Nat) => fun (σ'9 : Store) => appendTo Tryz.prog σ'9 t_Block 24 d44 (.osl id 0 1) (fun (d81 : D) => fun (σ'10 : Store) => ((0 : Int) ≤ 1) ∧ ((1 : Int) < (2 : Int)) ∧ (([[d, d1, d2, d3, d4, .int .i64 n, .int .i64 n1, .int .i64 n2, .int .i64 n3], [.int .i64 n4, .int .i64 n5], [.bool b5, .bool b6, .bool b7, .bool b8, .int .i64 n7, .int .i64 n8, .bool b9, .bool b10]] : List (List D)) = ([[d, d1, d2, d3, d4, .int .i64 n, .int .i64 n1, .int .i64 n2, .int .i64 n3], [.int .i64 n4, .int .i64 n5], [.bool b5, .bool b6, .bool b7, .bool b8, .int .i64 n7, .int .i64 n8, .bool b9, .bool b10]] : List (List D))) ∧ R1 d69 d70 d71 d72 d73 d74 b17 d75 d76 d77 d78 d79 d80 b18 d43 d81 σ'10))) → R4 d69 d70 d71 d72 d73 d74 b17 d75 d76 d77 d78 d79 d80 b18 σ'8) → bcase b9 (((0 : Int) ≤ 1) ∧ ((1 : Int) < (2 : Int)) ∧ (([[d, d1, d2, d3, d4, .int .i64 n, .int .i64 n1, .int .i64 n2, .int .i64 n3], [d43, d44], [.int .i64 n4, .int .i64 n5], [.bool b5, .bool b6, .bool b7, .bool b8, .int .i64 n7, .int .i64 n8, .bool b9, .bool b10]] : List (List D)) = ([[d, d1, d2, d3, d4, .int .i64 n, .int .i64 n1, .int .i64 n2, .int .i64 n3], [d43, d44], [.int .i64 n4, .int .i64 n5], [.bool b5, .bool b6, .bool b7, .bool b8, .int .i64 n7, .int .i64 n8, .bool b9, .bool b10]] : List (List D))) ∧ R4 d57 d58 d59 d60 d61 d62 b15 d63 d64 d65 d66 d67 d68 false σ'7) ((([[d, d1, d2, d3, d4, .int .i64 n, .int .i64 n1, .int .i64 n2, .int .i64 n3], [d43, d44], [.int .i64 n4, .int .i64 n5], [.bool b5, .bool b6, .bool b7, .bool b8, .int .i64 n7, .int .i64 n8, .bool b9, .bool b10]] : List (List D)) = ([[d, d1, d2, d3, d4, .int .i64 n, .int .i64 n1, .int .i64 n2, .int .i64 n3], [d43, d44], [.int .i64 n4, .int .i64 n5], [.bool b5, .bool b6, .bool b7, .bool b8, .int .i64 n7, .int .i64 n8, .bool b9, .bool b10]] : List (List D))) ∧ R4 d57 d58 d59 d60 d61 d62 b15 d63 d64 d65 d66 d67 d68 b16 σ'7)) → R3 d57 d58 d59 d60 d61 d62 b15 d63 d64 d65 d66 d67 d68 b16 σ'7) → ∀ R4 : Bool → Store → Prop, (∀ b15 : Bool, ∀ σ'7 : Store, (bcase b15 (((0 : Int) ≤ 1) ∧ ((1 : Int) < (2 : Int)) ∧ ∃ len2 : Nat, (Idx Tryz.prog σ'7 d51 1 len2) ∧ ((0 : Int) ≤ 0) ∧ ((0 : Int) < (len2 : Int)) ∧ storeEl [.int .i64 0] σ'7 d51 0 0 (fun (σ'8 : Store) => ((0 : Int) ≤ 1) ∧ ((1 : Int) < (2 : Int)) ∧ ∃ len3 : Nat, (Idx Tryz.prog σ'8 d52 4 len3) ∧ ((0 : Int) ≤ 0) ∧ ((0 : Int) < (len3 : Int)) ∧ storeEl [.int .i64 0, .int .i64 0, .int .i64 0, .int .i64 0] σ'8 d52 0 0 (fun (σ'9 : Store) => ((0 : Int) ≤ 1) ∧ ((1 : Int) < (2 : Int)) ∧ ((0 : Int) ≤ 1) ∧ ((1 : Int) < (2 : Int)) ∧ ∃ len4 : Nat, (Idx Tryz.prog σ'9 d55 8 len4) ∧ ((0 : Int) ≤ 1) ∧ ((1 : Int) < (len4 : Int)) ∧ ∃ row1 : List D, (Row σ'9 d55 1 row1) ∧ ∃ n9 : Int, ((List.take 1 row1) = ([.int .i64 n9] : List D)) ∧ ∃ len5 : Nat, (Idx Tryz.prog σ'9 d55 8 len5) ∧ ((0 : Int) ≤ 1) ∧ ((1 : Int) < (len5 : Int)) ∧ storeEl [.int .i64 n9] σ'9 d55 1 1 (fun (σ'10 : Store) => ((0 : Int) ≤ 1) ∧ ((1 : Int) < (2 : Int)) ∧ (([[d, d1, d2, d3, d4, .int .i64 n, .int .i64 n1, .int .i64 n2, .int .i64 n3], [d43, d44], [.int .i64 n4, .int .i64 n5], [.bool b5, .bool b6, .bool b7, .bool b8, .int .i64 n7, .int .i64 n8, .bool b9, .bool b10]] : List (List D)) = ([[d, d1, d2, d3, d4, .int .i64 n, .int .i64 n1, .int .i64 n2, .int .i64 n3], [d43, d44], [.int .i64 n4, .int .i64 n5], [.bool b5, .bool b6, .bool b7, .bool b8, .int .i64 n7, .int .i64 n8, .bool b9, .bool b10]] : List (List D))) ∧ R3 d45 d46 d47 d48 d49 d50 b13 d51 d52 d53 d54 d55 d56 true σ'10)))) ((([[d, d1, d2, d3, d4, .int .i64 n, .int .i64 n1, .int .i64 n2, .int .i64 n3], [d43, d44], [.int .i64 n4, .int .i64 n5], [.bool b5, .bool b6, .bool b7, .bool b8, .int .i64 n7, .int .i64 n8, .bool b9, .bool b10]] : List (List D)) = ([[d, d1, d2, d3, d4, .int .i64 n, .int .i64 n1, .int .i64 n2, .int .i64 n3], [d43, d44], [.int .i64 n4, .int .i64 n5], [.bool b5, .bool b6, .bool b7, .bool b8, .int .i64 n7, .int .i64 n8, .bool b9, .bool b10]] : List (List D))) ∧ R3 d45 d46 d47 d48 d49 d50 b13 d51 d52 d53 d54 d55 d56 b14 σ'7)) → R4 b15 σ'7) → ((0 : Int) ≤ 1) ∧ ((1 : Int) < (2 : Int)) ∧ bcase b8 (((0 : Int) ≤ 1) ∧ ((1 : Int) < (2 : Int)) ∧ ∃ len2 : Nat, (Idx Tryz.prog σ'6 d52 4 len2) ∧ ((0 : Int) ≤ 0) ∧ ((0 : Int) < (len2 : Int)) ∧ ∃ row1 : List D, (Row σ'6 d52 0 row1) ∧ ∃ n9 : Int, ((List.take 1 row1) = ([.int .i64 n9] : List D)) ∧ (([[d, d1, d2, d3, d4, .int .i64 n, .int .i64 n1, .int .i64 n2, .int .i64 n3], [d45, d46, d47, d48, d49, d50, .bool b13, d51, d52, d53, d54, d55, d56, .bool b14], [d43, d44], [.int .i64 n4, .int .i64 n5], [.bool b5, .bool b6, .bool b7, .bool b8, .int .i64 n7, .int .i64 n8, .bool b9, .bool b10]] : List (List D)) = ([[d, d1, d2, d3, d4, .int .i64 n, .int .i64 n1, .int .i64 n2, .int .i64 n3], [d45, d46, d47, d48, d49, d50, .bool b13, d51, d52, d53, d54, d55, d56, .bool b14], [d43, d44], [.int .i64 n4, .int .i64 n5], [.bool b5, .bool b6, .bool b7, .bool b8, .int .i64 n7, .int .i64 n8, .bool b9, .bool b10]] : List (List D))) ∧ R4 (n9 == 1) σ'6) ((([[d, d1, d2, d3, d4, .int .i64 n, .int .i64 n1, .int .i64 n2, .int .i64 n3], [d45, d46, d47, d48, d49, d50, .bool b13, d51, d52, d53, d54, d55, d56, .bool b14], [d43, d44], [.int .i64 n4, .int .i64 n5], [.bool b5, .bool b6, .bool b7, .bool b8, .int .i64 n7, .int .i64 n8, .bool b9, .bool b10]] : List (List D)) = ([[d, d1, d2, d3, d4, .int .i64 n, .int .i64 n1, .int .i64 n2, .int .i64 n3], [d45, d46, d47, d48, d49, d50, .bool b13, d51, d52, d53, d54, d55, d56, .bool b14], [d43, d44], [.int .i64 n4, .int .i64 n5], [.bool b5, .bool b6, .bool b7, .bool b8, .int .i64 n7, .int .i64 n8, .bool b9, .bool b10]] : List (List D))) ∧ R4 false σ'6)) → R2 d45 d46 d47 d48 d49 d50 b13 d51 d52 d53 d54 d55 d56 b14 σ'6) → ((0 : Int) ≤ 1) ∧ ((1 : Int) < (2 : Int)) ∧ bcase b6 (((0 : Int) ≤ 1) ∧ ((1 : Int) < (2 : Int)) ∧ DCalls Tryz.prog n_locks_Request [.agg [d, d1, d2, d3, d4, .int .i64 n, .int .i64 n1, .int .i64 n2, .int .i64 n3], .agg [d37, d38, d39, d40, d41, d42, .bool b12], .one (.int .i64 n6), .one (.int .i64 0)] σ'5 (fun (r4 : RV) => fun (σ'6 : Store) => ∃ d45 : D, ∃ d46 : D, ∃ d47 : D, ∃ d48 : D, ∃ d49 : D, ∃ d50 : D, ∃ b13 : Bool, ∃ n9 : Int, (r4 = (.tup [.agg [d45, d46, d47, d48, d49, d50, .bool b13], .one (.int .i64 n9)] : RV)) ∧ bcase (n9 == 0) (((0 : Int) ≤ 1) ∧ ((1 : Int) < (2 : Int)) ∧ (([[d, d1, d2, d3, d4, .int .i64 n, .int .i64 n1, .int .i64 n2, .int .i64 n3], [d43, d44], [.int .i64 n4, .int .i64 n5], [.bool b5, .bool b6, .bool b7, .bool b8, .int .i64 n7, .int .i64 n8, .bool b9, .bool b10]] : List (List D)) = ([[d, d1, d2, d3, d4, .int .i64 n, .int .i64 n1, .int .i64 n2, .int .i64 n3], [d43, d44], [.int .i64 n4, .int .i64 n5], [.bool b5, .bool b6, .bool b7, .bool b8, .int .i64 n7, .int .i64 n8, .bool b9, .bool b10]] : List (List D))) ∧ R2 d31 d32 d33 d34 d35 d36 b11 d45 d46 d47 d48 d49 d50 b13 σ'6) ((([[d, d1, d2, d3, d4, .int .i64 n, .int .i64 n1, .int .i64 n2, .int .i64 n3], [d43, d44], [.int .i64 n4, .int .i64 n5], [.bool b5, .bool b6, .bool b7, .bool b8, .int .i64 n7, .int .i64 n8, .bool b9, .bool b10]] : List (List D)) = ([[d, d1, d2, d3, d4, .int .i64 n, .int .i64 n1, .int .i64 n2, .int .i64 n3], [d43, d44], [.int .i64 n4, .int .i64 n5], [.bool b5, .bool b6, .bool b7, .bool b8, .int .i64 n7, .int .i64 n8, .bool b9, .bool b10]] : List (List D))) ∧ R2 d31 d32 d33 d34 d35 d36 b11 d37 d38 d39 d40 d41 d42 b12 σ'6))) ((([[d, d1, d2, d3, d4, .int .i64 n, .int .i64 n1, .int .i64 n2, .int .i64 n3], [d43, d44], [.int .i64 n4, .int .i64 n5], [.bool b5, .bool b6, .bool b7, .bool b8, .int .i64 n7, .int .i64 n8, .bool b9, .bool b10]] : List (List D)) = ([[d, d1, d2, d3, d4, .int .i64 n, .int .i64 n1, .int .i64 n2, .int .i64 n3], [d43, d44], [.int .i64 n4, .int .i64 n5], [.bool b5, .bool b6, .bool b7, .bool b8, .int .i64 n7, .int .i64 n8, .bool b9, .bool b10]] : List (List D))) ∧ R2 d31 d32 d33 d34 d35 d36 b11 d37 d38 d39 d40 d41 d42 b12 σ'5)) → R d31 d32 d33 d34 d35 d36 b11 d37 d38 d39 d40 d41 d42 b12 d43 d44 σ'5) → ∀ R1 : D → D → D → D → D → D → Bool → D → D → D → D → D → D → Bool → Store → Prop, (∀ d31 : D, ∀ d32 : D, ∀ d33 : D, ∀ d34 : D, ∀ d35 : D, ∀ d36 : D, ∀ b11 : Bool, ∀ d37 : D, ∀ d38 : D, ∀ d39 : D, ∀ d40 : D, ∀ d41 : D, ∀ d42 : D, ∀ b12 : Bool, ∀ σ'5 : Store, (∀ R2 : D → D → D → D → D → D → Bool → D → D → D → D → D → D → Bool → Store → Prop, (∀ d43 : D, ∀ d44 : D, ∀ d45 : D, ∀ d46 : D, ∀ d47 : D, ∀ d48 : D, ∀ b13 : Bool, ∀ d49 : D, ∀ d50 : D, ∀ d51 : D, ∀ d52 : D, ∀ d53 : D, ∀ d54 : D, ∀ b14 : Bool, ∀ σ'6 : Store, (∀ R3 : D → D → D → D → D → D → Bool → D → D → D → D → D → D → Bool → Store → Prop, (∀ d55 : D, ∀ d56 : D, ∀ d57 : D, ∀ d58 : D, ∀ d59 : D, ∀ d60 : D, ∀ b15 : Bool, ∀ d61 : D, ∀ d62 : D, ∀ d63 : D, ∀ d64 : D, ∀ d65 : D, ∀ d66 : D, ∀ b16 : Bool, ∀ σ'7 : Store, (∃ pre : List A → Store → Prop, ∃ post : List A → Store → RV → Store → Prop, (SpecOk Tryz.prog n_block_Tell pre post) ∧ ((0 : Int) ≤ 0) ∧ ((0 : Int) < (2 : Int)) ∧ ((0 : Int) ≤ 0) ∧ ((0 : Int) < (2 : Int)) ∧ (pre [.agg [d55, d56, d57, d58, d59, d60, .bool b15], .one (.int .i64 1)] σ'7) ∧ ∀ r4 : RV, ∀ s : Store, (post [.agg [d55, d56, d57, d58, d59, d60, .bool b15], .one (.int .i64 1)] σ'7 r4 s) → ∃ n9 : Int, ∃ n10 : Int, ∃ n11 : Int, (r4 = (.a (.agg [.int .i64 n9, .int .i64 n10, .int .i64 n11]) : RV)) ∧ Fw.newObj s (.live t_Block [[.int .i64 n9, .int .i64 n10, .int .i64 n11]]) (fun (id : Nat) => fun (σ'8 : Store) => appendTo Tryz.prog σ'8 t_Block 24 d29 (.osl id 0 1) (fun (d67 : D) => fun (σ'9 : Store) => ((0 : Int) ≤ 0) ∧ ((0 : Int) < (2 : Int)) ∧ (([[d, d1, d2, d3, d4, .int .i64 n, .int .i64 n1, .int .i64 n2, .int .i64 n3], [.int .i64 n4, .int .i64 n5], [.bool b5, .bool b6, .bool b7, .bool b8, .int .i64 n7, .int .i64 n8, .bool b9, .bool b10]] : List (List D)) = ([[d, d1, d2, d3, d4, .int .i64 n, .int .i64 n1, .int .i64 n2, .int .i64 n3], [.int .i64 n4, .int .i64 n5], [.bool b5, .bool b6, .bool b7, .bool b8, .int .i64 n7, .int .i64 n8, .bool b9, .bool b10]] : List (List D))) ∧ R d55 d56 d57 d58 d59 d60 b15 d61 d62 d63 d64 d65 d66 b16 d67 d30 σ'9))) → R3 d55 d56 d57 d58 d59 d60 b15 d61 d62 d63 d64 d65 d66 b16 σ'7) → bcase b9 (((0 : Int) ≤ 0) ∧ ((0 : Int) < (2 : Int)) ∧ (([[d, d1, d2, d3, d4, .int .i64 n, .int .i64 n1, .int .i64 n2, .int .i64 n3], [d29, d30], [.int .i64 n4, .int .i64 n5], [.bool b5, .bool b6, .bool b7, .bool b8, .int .i64 n7, .int .i64 n8, .bool b9, .bool b10]] : List (List D)) = ([[d, d1, d2, d3, d4, .int .i64 n, .int .i64 n1, .int .i64 n2, .int .i64 n3], [d29, d30], [.int .i64 n4, .int .i64 n5], [.bool b5, .bool b6, .bool b7, .bool b8, .int .i64 n7, .int .i64 n8, .bool b9, .bool b10]] : List (List D))) ∧ R3 d43 d44 d45 d46 d47 d48 false d49 d50 d51 d52 d53 d54 b14 σ'6) ((([[d, d1, d2, d3, d4, .int .i64 n, .int .i64 n1, .int .i64 n2, .int .i64 n3], [d29, d30], [.int .i64 n4, .int .i64 n5], [.bool b5, .bool b6, .bool b7, .bool b8, .int .i64 n7, .int .i64 n8, .bool b9, .bool b10]] : List (List D)) = ([[d, d1, d2, d3, d4, .int .i64 n, .int .i64 n1, .int .i64 n2, .int .i64 n3], [d29, d30], [.int .i64 n4, .int .i64 n5], [.bool b5, .bool b6, .bool b7, .bool b8, .int .i64 n7, .int .i64 n8, .bool b9, .bool b10]] : List (List D))) ∧ R3 d43 d44 d45 d46 d47 d48 b13 d49 d50 d51 d52 d53 d54 b14 σ'6)) → R2 d43 d44 d45 d46 d47 d48 b13 d49 d50 d51 d52 d53 d54 b14 σ'6) → ∀ R3 : Bool → Store → Prop, (∀ b13 : Bool, ∀ σ'6 : Store, (bcase b13 (((0 : Int) ≤ 0) ∧ ((0 : Int) < (2 : Int)) ∧ ∃ len2 : Nat, (Idx Tryz.prog σ'6 d31 1 len2) ∧ ((0 : Int) ≤ 0) ∧ ((0 : Int) < (len2 : Int)) ∧ storeEl [.int .i64 0] σ'6 d31 0 0 (fun (σ'7 : Store) => ((0 : Int) ≤ 0) ∧ ((0 : Int) < (2 : Int)) ∧ ∃ len3 : Nat, (Idx Tryz.prog σ'7 d32 4 len3) ∧ ((0 : Int) ≤ 0) ∧ ((0 : Int) < (len3 : Int)) ∧ storeEl [.int .i64 0, .int .i64 0, .int .i64 0, .int .i64 0] σ'7 d32 0 0 (fun (σ'8 : Store) => ((0 : Int) ≤ 0) ∧ ((0 : Int) < (2 : Int)) ∧ ((0 : Int) ≤ 0) ∧ ((0 : Int) < (2 : Int)) ∧ ∃ len4 : Nat, (Idx Tryz.prog σ'8 d35 8 len4) ∧ ((0 : Int) ≤ 1) ∧ ((1 : Int) < (len4 : Int)) ∧ ∃ row1 : List D, (Row σ'8 d35 1 row1) ∧ ∃ n9 : Int, ((List.take 1 row1) = ([.int .i64 n9] : List D)) ∧ ∃ len5 : Nat, (Idx Tryz.prog σ'8 d35 8 len5) ∧ ((0 : Int) ≤ 1) ∧ ((1 : Int) < (len5 : Int)) ∧ storeEl [.int .i64 n9] σ'8 d35 1 1 (fun (σ'9 : Store) => ((0 : Int) ≤ 0) ∧ ((0 : Int) < (2 : Int)) ∧ (([[d, d1, d2, d3, d4, .int .i64 n, .int .i64 n1, .int .i64 n2, .int .i64 n3], [d29, d30], [.int .i64 n4, .int .i64 n5], [.bool b5, .bool b6, .bool b7, .bool b8, .int .i64 n7, .int .i64 n8, .bool b9, .bool b10]] : List (List D)) = ([[d, d1, d2, d3, d4, .int .i64 n, .int .i64 n1, .int .i64 n2, .int .i64 n3], [d29, d30], [.int .i64 n4, .int .i64 n5], [.bool b5, .bool b6, .bool b7, .bool b8, .int .i64 n7, .int .i64 n8, .bool b9, .bool b10]] : List (List D))) ∧ R2 d31 d32 d33 d34 d35 d36 true d37 d38 d39 d40 d41 d42 b12 σ'9)))) ((([[d, d1, d2, d3, d4, .int .i64 n, .int .i64 n1, .int .i64 n2, .int .i64 n3], [d29, d30], [.int .i64 n4, .int .i64 n5], [.bool b5, .bool b6, .bool b7, .bool b8, .int .i64 n7, .int .i64 n8, .bool b9, .bool b10]] : List (List D)) = ([[d, d1, d2, d3, d4, .int .i64 n, .int .i64 n1, .int .i64 n2, .int .i64 n3], [d29, d30], [.int .i64 n4, .int .i64 n5], [.bool b5, .bool b6, .bool b7, .bool b8, .int .i64 n7, .int .i64 n8, .bool b9, .bool b10]] : List (List D))) ∧ R2 d31 d32 d33 d34 d35 d36 b11 d37 d38 d39 d40 d41 d42 b12 σ'6)) → R3 b13 σ'6) → ((0 : Int) ≤ 0) ∧ ((0 : Int) < (2 : Int)) ∧ bcase b7 (((0 : Int) ≤ 0) ∧ ((0 : Int) < (2 : Int)) ∧ ∃ len2 : Nat, (Idx Tryz.prog σ'5 d32 4 len2) ∧ ((0 : Int) ≤ 0) ∧ ((0 : Int) < (len2 : Int)) ∧ ∃ row1 : List D, (Row σ'5 d32 0 row1) ∧ ∃ n9 : Int, ((List.take 1 row1) = ([.int .i64 n9] : List D)) ∧ (([[d, d1, d2, d3, d4, .int .i64 n, .int .i64 n1, .int .i64 n2, .int .i64 n3], [d31, d32, d33, d34, d35, d36, .bool b11, d37, d38, d39, d40, d41, d42, .bool b12], [d29, d30], [.int .i64 n4, .int .i64 n5], [.bool b5, .bool b6, .bool b7, .bool b8, .int .i64 n7, .int .i64 n8, .bool b9, .bool b10]] : List (List D)) = ([[d, d1, d2, d3, d4, .int .i64 n, .int .i64 n1, .int .i64 n2, .int .i64 n3], [d31, d32, d33, d34, d35, d36, .bool b11, d37, d38, d39, d40, d41, d42, .bool b12], [d29, d30], [.int .i64 n4, .int .i64 n5], [.bool b5, .bool b6, .bool b7, .bool b8, .int .i64 n7, .int .i64 n8, .bool b9, .bool b10]] : List (List D))) ∧ R3 (n9 == 1) σ'5) ((([[d, d1, d2, d3, d4, .int .i64 n, .int .i64 n1, .int .i64 n2, .int .i64 n3], [d31, d32, d33, d34, d35, d36, .bool b11, d37, d38, d39, d40, d41, d42, .bool b12], [d29, d30], [.int .i64 n4, .int .i64 n5], [.bool b5, .bool b6, .bool b7, .bool b8, .int .i64 n7, .int .i64 n8, .bool b9, .bool b10]] : List (List D)) = ([[d, d1, d2, d3, d4, .int .i64 n, .int .i64 n1, .int .i64 n2, .int .i64 n3], [d31, d32, d33, d34, d35, d36, .bool b11, d37, d38, d39, d40, d41, d42, .bool b12], [d29, d30], [.int .i64 n4, .int .i64 n5], [.bool b5, .bool b6, .bool b7, .bool b8, .int .i64 n7, .int .i64 n8, .bool b9, .bool b10]] : List (List D))) ∧ R3 false σ'5)) → R1 d31 d32 d33 d34 d35 d36 b11 d37 d38 d39 d40 d41 d42 b12 σ'5) → ((0 : Int) ≤ 0) ∧ ((0 : Int) < (2 : Int)) ∧ bcase b5 (((0 : Int) ≤ 0) ∧ ((0 : Int) < (2 : Int)) ∧ DCalls Tryz.prog n_locks_Request [.agg [d, d1, d2, d3, d4, .int .i64 n, .int .i64 n1, .int .i64 n2, .int .i64 n3], .agg [d17, d18, d19, d20, d21, d22, .bool b3], .one (.int .i64 n6), .one (.int .i64 0)] σ'4 (fun (r4 : RV) => fun (σ'5 : Store) => ∃ d31 : D, ∃ d32 : D, ∃ d33 : D, ∃ d34 : D, ∃ d35 : D, ∃ d36 : D, ∃ b11 : Bool, ∃ n9 : Int, (r4 = (.tup [.agg [d31, d32, d33, d34, d35, d36, .bool b11], .one (.int .i64 n9)] : RV)) ∧ bcase (n9 == 0) (((0 : Int) ≤ 0) ∧ ((0 : Int) < (2 : Int)) ∧ (([[d, d1, d2, d3, d4, .int .i64 n, .int .i64 n1, .int .i64 n2, .int .i64 n3], [d29, d30], [.int .i64 n4, .int .i64 n5], [.bool b5, .bool b6, .bool b7, .bool b8, .int .i64 n7, .int .i64 n8, .bool b9, .bool b10]] : List (List D)) = ([[d, d1, d2, d3, d4, .int .i64 n, .int .i64 n1, .int .i64 n2, .int .i64 n3], [d29, d30], [.int .i64 n4, .int .i64 n5], [.bool b5, .bool b6, .bool b7, .bool b8, .int .i64 n7, .int .i64 n8, .bool b9, .bool b10]] : List (List D))) ∧ R1 d31 d32 d33 d34 d35 d36 b11 d23 d24 d25 d26 d27 d28 b4 σ'5) ((([[d, d1, d2, d3, d4, .int .i64 n, .int .i64 n1, .int .i64 n2, .int .i64 n3], [d29, d30], [.int .i64 n4, .int .i64 n5], [.bool b5, .bool b6, .bool b7, .bool b8, .int .i64 n7, .int .i64 n8, .bool b9, .bool b10]] : List (List D)) = ([[d, d1, d2, d3, d4, .int .i64 n, .int .i64 n1, .int .i64 n2, .int .i64 n3], [d29, d30], [.int .i64 n4, .int .i64 n5], [.bool b5, .bool b6, .bool b7, .bool b8, .int .i64 n7, .int .i64 n8, .bool b9, .bool b10]] : List (List D))) ∧ R1 d17 d18 d19 d20 d21 d22 b3 d23 d24 d25 d26 d27 d28 b4 σ'5))) ((([[d, d1, d2, d3, d4, .int .i64 n, .int .i64 n1, .int .i64 n2, .int .i64 n3], [d29, d30], [.int .i64 n4, .int .i64 n5], [.bool b5, .bool b6, .bool b7, .bool b8, .int .i64 n7, .int .i64 n8, .bool b9, .bool b10]] : List (List D)) = ([[d, d1, d2, d3, d4, .int .i64 n, .int .i64 n1, .int .i64 n2, .int .i64 n3], [d29, d30], [.int .i64 n4, .int .i64 n5], [.bool b5, .bool b6, .bool b7, .bool b8, .int .i64 n7, .int .i64 n8, .bool b9, .bool b10]] : List (List D))) ∧ R1 d17 d18 d19 d20 d21 d22 b3 d23 d24 d25 d26 d27 d28 b4 σ'4)) (Qp (.a (.one (.bool true))) σ'4))))))
theorem W_law15_BlockBoth (script : D) (σ : Store) (Qp : RV → Store → Prop) (h : V_law15_BlockBoth script σ Qp) : DCalls Tryz.prog n_law15_BlockBoth [.one script] σ Qp :=
  dcalls_of_body mixed (by kernel_rfl) Tryz.func3 an_law15_BlockBoth ((show V_law15_BlockBoth script σ Qp = dbody Tryz.prog Tryz.f3 an_law15_BlockBoth [.one script] σ Qp by kernel_rfl) ▸ h)
end Go.Proofs.YtcbmibgfmlpobaaGreat
end
section
set_option linter.unusedVariables false
set_option linter.unusedSimpArgs false
namespace Go.Proofs.YtcbmibgfmlpobaaGreat
open Go.Fw Go.Proofs Go.RowKit
variable {σ : Store}
theorem sm_lenB {B : Nat} {d : D} {el : TypeId} {rs : List (List D)} (h : ∀ s, At Tryz.prog s el d rs) (hs : SlSm B d) : rs.length ≤ B := by
  have hp := froz_plain (P := Tryz.prog) (el := el) (d := d) fun s => ⟨rs, (h s).rows⟩
  have hr := (h noS).rows
  cases d <;> simp only [Go.Fw.Rows] at hr <;> try exact hr.elim
  · subst hr; simp
  · subst hr; simp
  · obtain ⟨rfl, _⟩ := hr; exact hs _ _ rfl
  · exact absurd rfl (hp _ _ _)
theorem w2_start {s1 s2 : Store} {k0 k1 k2 k3 k4 k5 m0 m1 m2 m3 m4 m5 : D} (hk : CoOwn noS s1 k0 k1 k2 k3 k4 k5 freshC) (hm : CoOwn s1 s2 m0 m1 m2 m3 m4 m5 freshC) :
    W2 s2 k0 k1 k2 k3 k4 k5 m0 m1 m2 m3 m4 m5 .nils .nils ⟨0, 0, zLs, false⟩ ⟨0, 0, zLs, false⟩ [] [] := by
  have nn : ∀ x : D, Apart x .nils := fun x id _ h => by cases h
  refine ⟨hk.ext' hm.own.ext, CoOwn.from (ext0 _) hm, .nil _ (ext0 _), .nil _ (ext0 _), fun x hx y hy => ?_, fun x _ => ⟨nn x, nn x⟩, fun x _ => ⟨nn x, nn x⟩, nn _⟩
  simp only [List.mem_cons, List.not_mem_nil, or_false] at hx
  rcases hx with rfl | rfl | rfl | rfl | rfl | rfl
  · exact (new_apart hm hk.own.at_ y hy).symm
  · exact (new_apart hm hk.routes.at_ y hy).symm
  · exact (new_apart hm hk.points.at_ y hy).symm
  · exact (new_apart hm hk.xs.at_ y hy).symm
  · exact (new_apart hm hk.lines.at_ y hy).symm
  · exact (new_apart hm hk.resets.at_ y hy).symm
theorem late_ok {n x : Int} (hn : 0 ≤ n ∧ n ≤ 2 ^ 40) : -8 ≤ w64 (n - w64 (Int.tmod (IntKind.wrap .u64 x) 8)) ∧ w64 (n - w64 (Int.tmod (IntKind.wrap .u64 x) 8)) ≤ n := by
  have e2 : 0 ≤ IntKind.wrap .u64 x := by rw [IntKind.wrap_u64]; omega
  rw [Int.tmod_eq_emod_of_nonneg e2]
  have h3 := Int.emod_nonneg (IntKind.wrap .u64 x) (show (8 : Int) ≠ 0 by decide)
  have h4 := Int.emod_lt_of_pos (IntKind.wrap .u64 x) (show (0 : Int) < 8 by decide)
  rw [w64_id (n := IntKind.wrap .u64 x % 8) (by omega) (by omega), w64_id (by omega) (by omega)]
  omega
theorem law15_BlockBoth_ok {xs : List A} (h : TyAs Tryz.prog [t_sl_law15_Turn] xs) (hsm : ∀ a ∈ xs, SmA 1048576 a) : LawTrue n_law15_BlockBoth xs := by
  obtain ⟨a0, xs, rfl, h0, hr0⟩ := tys_cons h
  obtain rfl := tys_nil hr0
  obtain ⟨script, rfl, q⟩ := tya_cell h0 (by kernel_rfl) (by kernel_rfl : cellsSh Tryz.prog 5 t_sl_law15_Turn = some [.sl t_law15_Turn])
  have hs0 : SlSm 1048576 script := hsm (.one script) (by simp)
  obtain ⟨l, hl, hlI⟩ := sh_rows (bytes := 32) Tn.enc (fun t => I64 t.l0 ∧ I64 t.l1) (fun row n h => ty_Turn h) (by kernel_rfl) (by omega) q
  have hlen : l.length ≤ 1048576 := by have := sm_lenB hl hs0; rw [List.length_map] at this; exact this
  clear h h0 hr0 hsm hs0 q
  refine W_law15_BlockBoth script noS _ (law15_lives_ok.use ⟨true, rfl, bcnot (fun e => by cases e) (fun _ => law15_end_z.mono ?_)⟩)
  rintro r s0 ⟨rfl, c0, c1, c2, c3, c4, rfl, hc, hz⟩
  refine ⟨_, _, _, _, _, _, _, _, _, rfl, law15_fresh_own.mono ?_⟩
  rintro r s1 ⟨k0, k1, k2, k3, k4, k5, rfl, hk⟩
  refine ⟨_, _, _, _, _, _, _, rfl, law15_fresh_own.mono ?_⟩
  rintro r s2 ⟨m0, m1, m2, m3, m4, m5, rfl, hm⟩
  refine ⟨_, _, _, _, _, _, _, rfl, (hl s2).lenK ⟨fun k0 k1 k2 k3 k4 k5 bk m0 m1 m2 m3 m4 m5 bm e0 e1 ha hb n s => ∃ (A B : En) (sa sb : List Msg) (j : Nat), n = j ∧ j ≤ l.length ∧ bk = A.b ∧ bm = B.b ∧ Iv s k0 k1 k2 k3 k4 k5 m0 m1 m2 m3 m4 m5 e0 e1 A B sa sb ha hb ∧
      sa.length = j ∧ sb.length = j ∧ -1 ≤ ha ∧ ha < j ∧ -1 ≤ hb ∧ hb < j, fun _ _ _ _ _ _ _ _ _ _ _ _ _ _ _ _ _ _ n _ => l.length - n.toNat,
    ⟨⟨0, 0, zLs, false⟩, ⟨0, 0, zLs, false⟩, [], [], 0, rfl, by omega, rfl, rfl, ⟨w2_start hk hm, .fresh, .fresh, .fresh, .fresh⟩, rfl, rfl, by omega, by omega, by omega, by omega⟩, ?_⟩⟩
  clear hk hm k0 k1 k2 k3 k4 k5 m0 m1 m2 m3 m4 m5
  rintro k0 k1 k2 k3 k4 k5 _ m0 m1 m2 m3 m4 m5 _ e0 e1 ha hb _ s ⟨A, B, sa, sb, j, rfl, hj, rfl, rfl, hI, la, lb, ha1, ha2, hb1, hb2⟩
  rw [List.length_map]
  refine bcd (fun hlt => ?_) (fun _ => by trivial)
  have hlt : j < l.length := by omega
  obtain ⟨t, ht⟩ := get_of_lt (l := l) (j := j) hlt
  have hjn : (0 : Int) ≤ (j : Int) ∧ (j : Int) ≤ 4294967295 := by omega
  refine (hl s).load (map_get ht) c_law15_Turn rfl ⟨t.a0, t.a1, t.d0, t.d1, t.l0, t.l1, t.rc, t.oc, rfl, ?_⟩
  intro R hR
  -- behind both ends' telling
  have kR : ∀ k0 k1 k2 k3 k4 k5 m0 m1 m2 m3 m4 m5 e0 e1 A B s', Iv s' k0 k1 k2 k3 k4 k5 m0 m1 m2 m3 m4 m5 e0 e1 A B (sa ++ [(A.x.Ask, A.x.Done, A.x.Told)]) sb ha hb → R k0 k1 k2 k3 k4 k5 A.b m0 m1 m2 m3 m4 m5 B.b e0 e1 s' := by
    intro k0 k1 k2 k3 k4 k5 m0 m1 m2 m3 m4 m5 e0 e1 A B s' hI
    refine hR _ _ _ _ _ _ _ _ _ _ _ _ _ _ _ _ _ ?_
    have la' : (sa ++ [(A.x.Ask, A.x.Done, A.x.Told)]).length = j + 1 := by simp [la]
    generalize sa ++ [(A.x.Ask, A.x.Done, A.x.Told)] = sa' at hI la'
    intro Q1 hQ1
    have kQ1 : ∀ m0 m1 m2 m3 m4 m5 e1 B s', Iv s' k0 k1 k2 k3 k4 k5 m0 m1 m2 m3 m4 m5 e0 e1 A B sa' (sb ++ [(B.x.Ask, B.x.Done, B.x.Told)]) ha hb → Q1 k0 k1 k2 k3 k4 k5 A.b m0 m1 m2 m3 m4 m5 B.b e0 e1 s' := by
      intro m0 m1 m2 m3 m4 m5 e1 B s' hI
      refine hQ1 _ _ _ _ _ _ _ _ _ _ _ _ _ _ _ _ _ ?_
      have lb' : (sb ++ [(B.x.Ask, B.x.Done, B.x.Told)]).length = j + 1 := by simp [lb]
      generalize sb ++ [(B.x.Ask, B.x.Done, B.x.Told)] = sb' at hI lb'
      have ha2' : ha < (j : Int) + 1 := by omega
      have hb2' : hb < (j : Int) + 1 := by omega
      intro Q2 hQ2
      -- behind the first end's cycle
      have kQ2 : ∀ k0 k1 k2 k3 k4 k5 A ha s', -1 ≤ ha → ha < (j : Int) + 1 → Iv s' k0 k1 k2 k3 k4 k5 m0 m1 m2 m3 m4 m5 e0 e1 A B sa' sb' ha hb → Q2 k0 k1 k2 k3 k4 k5 A.b m0 m1 m2 m3 m4 m5 B.b ha hb s' := by
        intro k0 k1 k2 k3 k4 k5 A ha s' ha1 ha2 hI
        refine hQ2 _ _ _ _ _ _ _ _ _ _ _ _ _ _ _ _ _ ?_
        intro Q3 hQ3
        -- behind the second end's cycle
        have kQ3 : ∀ m0 m1 m2 m3 m4 m5 B hb s', -1 ≤ hb → hb < (j : Int) + 1 → Iv s' k0 k1 k2 k3 k4 k5 m0 m1 m2 m3 m4 m5 e0 e1 A B sa' sb' ha hb → Q3 k0 k1 k2 k3 k4 k5 A.b m0 m1 m2 m3 m4 m5 B.b ha hb s' := by
          intro m0 m1 m2 m3 m4 m5 B hb s' hb1 hb2 hI
          refine hQ3 _ _ _ _ _ _ _ _ _ _ _ _ _ _ _ _ _ ?_
          intro Q4 hQ4
          have kQ4 : Q4 s' := by
            refine hQ4 _ ?_
            intro Q5 hQ5
            have kQ5 : Q5 s' := by
              refine hQ5 _ ⟨by trivial, ?_⟩
              have hw : w64 ((j : Int) + 1) = ((j + 1 : Nat) : Int) := w64_succ (by omega)
              rw [hw]
              exact ⟨⟨A, B, sa', sb', j + 1, rfl, hlt, rfl, rfl, hI, la', lb', ha1, by omega, hb1, by omega⟩, by show l.length - ((j + 1 : Nat) : Int).toNat < l.length - ((j : Nat) : Int).toNat; omega⟩
            refine ⟨by omega, by omega, hI.w.b.lines.at_.load (j := 1) (map_get (f := Ls.enc) (x := B.x) rfl) c_LineState rfl ⟨_, _, _, _, _, _, _, _, rfl, ?_⟩⟩
            intro Q6 hQ6
            have no : Q6 false s' := hQ6 _ _ (bc (fun e => by cases e) fun _ => ⟨by trivial, kQ5⟩)
            refine ⟨by omega, by omega, hI.w.b.own.at_.load (j := 0) (map_get (f := Go.Fw.encI) (x := B.o) rfl) c_int rfl ⟨B.o, rfl, bce (fun e1 => bcn (fun e2 => ⟨by trivial, ?_⟩) fun _ => ⟨by trivial, no⟩) fun _ => ⟨by trivial, no⟩⟩⟩
            refine hQ6 _ _ (bce (fun e3 => ⟨by omega, by omega, hI.w.a.own.at_.load (j := 0) (map_get (f := Go.Fw.encI) (x := A.o) rfl) c_int rfl ⟨A.o, rfl, bcn (fun e4 => absurd (both_held hI.ga hI.ba hI.ab e2 e3 hI.gb) e4) fun _ => ⟨by trivial, kQ5⟩⟩⟩) fun _ => ⟨by trivial, kQ5⟩)
          refine ⟨by omega, by omega, hI.w.a.lines.at_.load (j := 1) (map_get (f := Ls.enc) (x := A.x) rfl) c_LineState rfl ⟨_, _, _, _, _, _, _, _, rfl, ?_⟩⟩
          intro Q6 hQ6
          have no : Q6 false s' := hQ6 _ _ (bc (fun e => by cases e) fun _ => ⟨by trivial, kQ4⟩)
          refine ⟨by omega, by omega, hI.w.a.own.at_.load (j := 0) (map_get (f := Go.Fw.encI) (x := A.o) rfl) c_int rfl ⟨A.o, rfl, bce (fun e1 => bcn (fun e2 => ⟨by trivial, ?_⟩) fun _ => ⟨by trivial, no⟩) fun _ => ⟨by trivial, no⟩⟩⟩
          refine hQ6 _ _ (bce (fun e3 => ⟨by omega, by omega, hI.w.b.own.at_.load (j := 0) (map_get (f := Go.Fw.encI) (x := B.o) rfl) c_int rfl ⟨B.o, rfl, bcn (fun e4 => absurd (both_held hI.gb hI.ab hI.ba e2 e3 hI.ga) e4) fun _ => ⟨by trivial, kQ4⟩⟩⟩) fun _ => ⟨by trivial, kQ4⟩)
        refine ⟨by omega, by omega, ?_⟩
        intro Q4 hQ4
        have kQ4 : ∀ m0 m1 m2 m3 m4 m5 B hb s', -1 ≤ hb → hb < (j : Int) + 1 → Iv s' k0 k1 k2 k3 k4 k5 m0 m1 m2 m3 m4 m5 e0 e1 A B sa' sb' ha hb → Q4 k0 k1 k2 k3 k4 k5 A.b m0 m1 m2 m3 m4 m5 B.b ha hb s' := by
          intro m0 m1 m2 m3 m4 m5 B hb s' hb1 hb2 hI
          refine hQ4 _ _ _ _ _ _ _ _ _ _ _ _ _ _ _ _ _ ?_
          intro Q5 hQ5
          have kQ5 : ∀ occ, Q5 occ s' := by
            intro occ
            refine hQ5 _ _ ⟨seenPre, seenPost, seen_spec, by omega, by omega, ⟨_, _, rfl⟩, ?_⟩
            rintro r s2 ⟨rfl, o, st, v0, v1, v2, v3, e, rfl, hv⟩
            injection e with q1 q2
            injection q1 with q1
            injection q1 with _ q1
            injection q2 with q2 _
            injection q2 with q2
            injection q2 with _ q2
            subst q1 q2
            refine ⟨_, _, _, _, rfl, hI.swap.step hc hv hjn fun d0 d1 d2 d3 d4 d5 B' s3 hI3 => ⟨_, _, _, _, _, _, _, _, rfl, bcn (fun e => absurd rfl e) fun _ => ⟨by omega, by omega, by trivial, kQ3 _ _ _ _ _ _ B' hb s3 hb1 hb2 hI3.swap⟩⟩⟩
          exact bc (fun _ => ⟨by trivial, kQ5 1⟩) (fun _ => ⟨by trivial, kQ5 0⟩)
        intro Q5 hQ5
        have no : Q5 false s' := hQ5 _ _ (bc (fun e => by cases e) fun _ => ⟨by trivial, kQ4 _ _ _ _ _ _ B hb s' hb1 hb2' hI⟩)
        have hlate := late_ok (n := (j : Int)) (x := t.l1) (by omega)
        refine ⟨by omega, by omega, bcd (fun h7 => ⟨by omega, by omega, by trivial, hQ5 _ _ ?_⟩) (fun _ => ⟨by trivial, no⟩)⟩
        generalize w64 ((j : Int) - w64 (Int.tmod (IntKind.wrap .u64 t.l1) 8)) = at_ at hlate ⊢
        refine bcd (fun hgt => ⟨by omega, by omega, by omega, by omega, ?_⟩) (fun _ => ⟨by trivial, kQ4 _ _ _ _ _ _ B hb s' hb1 hb2' hI⟩)
        have hgt : hb < at_ := hgt
        obtain ⟨q, rfl⟩ : ∃ q : Nat, at_ = q := Int.eq_ofNat_of_zero_le (by omega)
        obtain ⟨m', hm'⟩ := get_of_lt (l := sa') (j := q) (by omega)
        refine hI.w.ea.at_.load (j := q) (map_get (f := encM) hm') c_Block rfl ⟨_, _, _, rfl, hI.swap.hear hc (by omega) hm' fun d0 d1 d2 d3 d4 d5 B' s3 hI3 => ⟨_, _, _, _, _, _, _, _, rfl, bcn (fun e => absurd rfl e) fun _ => ⟨by omega, by omega, by omega, by omega, by trivial, kQ4 _ _ _ _ _ _ B' _ s3 (by omega) (by omega) hI3.swap⟩⟩⟩
      refine ⟨by omega, by omega, ?_⟩
      intro Q4 hQ4
      have kQ4 : ∀ k0 k1 k2 k3 k4 k5 A ha s', -1 ≤ ha → ha < (j : Int) + 1 → Iv s' k0 k1 k2 k3 k4 k5 m0 m1 m2 m3 m4 m5 e0 e1 A B sa' sb' ha hb → Q4 k0 k1 k2 k3 k4 k5 A.b m0 m1 m2 m3 m4 m5 B.b ha hb s' := by
        intro k0 k1 k2 k3 k4 k5 A ha s' ha1 ha2 hI
        refine hQ4 _ _ _ _ _ _ _ _ _ _ _ _ _ _ _ _ _ ?_
        intro Q5 hQ5
        have kQ5 : ∀ occ, Q5 occ s' := by
          intro occ
          refine hQ5 _ _ ⟨seenPre, seenPost, seen_spec, by omega, by omega, ⟨_, _, rfl⟩, ?_⟩
          rintro r s2 ⟨rfl, o, st, v0, v1, v2, v3, e, rfl, hv⟩
          injection e with q1 q2
          injection q1 with q1
          injection q1 with _ q1
          injection q2 with q2 _
          injection q2 with q2
          injection q2 with _ q2
          subst q1 q2
          refine ⟨_, _, _, _, rfl, hI.step hc hv hjn fun d0 d1 d2 d3 d4 d5 A' s3 hI3 => ⟨_, _, _, _, _, _, _, _, rfl, bcn (fun e => absurd rfl e) fun _ => ⟨by omega, by omega, by trivial, kQ2 _ _ _ _ _ _ A' ha s3 ha1 ha2 hI3⟩⟩⟩
        exact bc (fun _ => ⟨by trivial, kQ5 1⟩) (fun _ => ⟨by trivial, kQ5 0⟩)
      intro Q5 hQ5
      have no : Q5 false s' := hQ5 _ _ (bc (fun e => by cases e) fun _ => ⟨by trivial, kQ4 _ _ _ _ _ _ A ha s' ha1 ha2' hI⟩)
      have hlate := late_ok (n := (j : Int)) (x := t.l0) (by omega)
      refine ⟨by omega, by omega, bcd (fun h7 => ⟨by omega, by omega, by trivial, hQ5 _ _ ?_⟩) (fun _ => ⟨by trivial, no⟩)⟩
      generalize w64 ((j : Int) - w64 (Int.tmod (IntKind.wrap .u64 t.l0) 8)) = at_ at hlate ⊢
      refine bcd (fun hgt => ⟨by omega, by omega, by omega, by omega, ?_⟩) (fun _ => ⟨by trivial, kQ4 _ _ _ _ _ _ A ha s' ha1 ha2' hI⟩)
      have hgt : ha < at_ := hgt
      obtain ⟨q, rfl⟩ : ∃ q : Nat, at_ = q := Int.eq_ofNat_of_zero_le (by omega)
      obtain ⟨m', hm'⟩ := get_of_lt (l := sb') (j := q) (by omega)
      refine hI.w.eb.at_.load (j := q) (map_get (f := encM) hm') c_Block rfl ⟨_, _, _, rfl, hI.hear hc (by omega) hm' fun d0 d1 d2 d3 d4 d5 A' s3 hI3 => ⟨_, _, _, _, _, _, _, _, rfl, bcn (fun e => absurd rfl e) fun _ => ⟨by omega, by omega, by omega, by omega, by trivial, kQ4 _ _ _ _ _ _ A' _ s3 (by omega) (by omega) hI3⟩⟩⟩
    -- the second end asks, is done, is recorded, tells
    intro R1 hR1
    have kR1 : ∀ m0 m1 m2 m3 m4 m5 B s', Iv s' k0 k1 k2 k3 k4 k5 m0 m1 m2 m3 m4 m5 e0 e1 A B sa' sb ha hb → R1 k0 k1 k2 k3 k4 k5 A.b m0 m1 m2 m3 m4 m5 B.b s' := by
      intro m0 m1 m2 m3 m4 m5 B s' hI
      refine hR1 _ _ _ _ _ _ _ _ _ _ _ _ _ _ _ ?_
      intro R2 hR2
      have kR2 : ∀ B s', Iv s' k0 k1 k2 k3 k4 k5 m0 m1 m2 m3 m4 m5 e0 e1 A B sa' sb ha hb → R2 k0 k1 k2 k3 k4 k5 A.b m0 m1 m2 m3 m4 m5 B.b s' := by
        intro B s' hI
        refine hR2 _ _ _ _ _ _ _ _ _ _ _ _ _ _ _ ?_
        intro R3 hR3
        have kR3 : ∀ c, R3 k0 k1 k2 k3 k4 k5 A.b m0 m1 m2 m3 m4 m5 (B.noted c).b s' := by
          intro c
          have hI := hI.swap.noted c
          refine hR3 _ _ _ _ _ _ _ _ _ _ _ _ _ _ _ ⟨tellPre, tellPost, tell_spec, by omega, by omega, by omega, by omega, ⟨m0, m1, m2, m3, m4, m5, _, _, rfl, hI.w.a.at⟩, ?_⟩
          rintro r s3 ⟨rfl, x0, x1, x2, x3, x4, x5, b', e, hr⟩
          injection e with e1 _
          injection e1 with e1
          simp only [List.cons.injEq, and_true] at e1
          obtain ⟨rfl, rfl, rfl, rfl, rfl, rfl, _⟩ := e1
          rw [hr _ hI.w.a.at]
          refine ⟨_, _, _, rfl, hI.w.tellA (m := ((B.noted c).x.Ask, (B.noted c).x.Done, (B.noted c).x.Told)) (by omega) fun d s4 w4 => ⟨by omega, by omega, by trivial, kQ1 _ _ _ _ _ _ _ (B.noted c) s4 (Iv.swap ⟨w4, hI.ga, hI.gb, hI.tells, hI.ba⟩)⟩⟩
        exact bc (fun _ => ⟨by omega, by omega, by trivial, kR3 false⟩) (fun _ => ⟨by trivial, kR3 B.b⟩)
      intro R3 hR3
      have no : R3 false s' := hR3 _ _ (bc (fun e => by cases e) (fun _ => ⟨by trivial, kR2 B s' hI⟩))
      refine ⟨by omega, by omega, bc (fun _ => ⟨by omega, by omega, ?_⟩) (fun _ => ⟨by trivial, no⟩)⟩
      refine hI.w.b.routes.at_.load (j := 0) (map_get (f := Rs.enc) (x := ⟨B.st, 0, 0, 0⟩) rfl) c_RouteState rfl ⟨B.st, rfl, by trivial, ?_⟩
      exact hR3 _ _ (bce (fun hst => ⟨by omega, by omega, hI.swap.over hst 1 (by omega) (by omega) fun s4 hI4 => ⟨by omega, by omega, by trivial, kR2 B.over s4 hI4.swap⟩⟩) (fun _ => ⟨by trivial, kR2 B s' hI⟩))
    refine ⟨by omega, by omega, bc (fun _ => ⟨by omega, by omega, hI.swap.ask hc hz hjn fun d0 d1 d2 d3 d4 d5 b n s' h1 h2 => ⟨_, _, _, _, _, _, _, _, rfl, bce (fun e => ⟨by omega, by omega, by trivial, ?_⟩) (fun e => ⟨by trivial, kR1 _ _ _ _ _ _ _ _ (h1 e).swap⟩)⟩⟩) (fun _ => ⟨by trivial, kR1 _ _ _ _ _ _ _ _ hI⟩)⟩
    obtain ⟨B', rfl, hI'⟩ := h2 e
    exact kR1 _ _ _ _ _ _ _ _ hI'.swap
  intro R1 hR1
  have kR1 : ∀ k0 k1 k2 k3 k4 k5 A s', Iv s' k0 k1 k2 k3 k4 k5 m0 m1 m2 m3 m4 m5 e0 e1 A B sa sb ha hb → R1 k0 k1 k2 k3 k4 k5 A.b m0 m1 m2 m3 m4 m5 B.b s' := by
    intro k0 k1 k2 k3 k4 k5 A s' hI
    refine hR1 _ _ _ _ _ _ _ _ _ _ _ _ _ _ _ ?_
    intro R2 hR2
    have kR2 : ∀ A s', Iv s' k0 k1 k2 k3 k4 k5 m0 m1 m2 m3 m4 m5 e0 e1 A B sa sb ha hb → R2 k0 k1 k2 k3 k4 k5 A.b m0 m1 m2 m3 m4 m5 B.b s' := by
      intro A s' hI
      refine hR2 _ _ _ _ _ _ _ _ _ _ _ _ _ _ _ ?_
      intro R3 hR3
      have kR3 : ∀ c, R3 k0 k1 k2 k3 k4 k5 (A.noted c).b m0 m1 m2 m3 m4 m5 B.b s' := by
        intro c
        have hI := hI.noted c
        refine hR3 _ _ _ _ _ _ _ _ _ _ _ _ _ _ _ ⟨tellPre, tellPost, tell_spec, by omega, by omega, by omega, by omega, ⟨k0, k1, k2, k3, k4, k5, _, _, rfl, hI.w.a.at⟩, ?_⟩
        rintro r s3 ⟨rfl, x0, x1, x2, x3, x4, x5, b', e, hr⟩
        injection e with e1 _
        injection e1 with e1
        simp only [List.cons.injEq, and_true] at e1
        obtain ⟨rfl, rfl, rfl, rfl, rfl, rfl, _⟩ := e1
        rw [hr _ hI.w.a.at]
        refine ⟨_, _, _, rfl, hI.w.tellA (m := ((A.noted c).x.Ask, (A.noted c).x.Done, (A.noted c).x.Told)) (by omega) fun d s4 w4 => ⟨by omega, by omega, by trivial, kR _ _ _ _ _ _ _ _ _ _ _ _ _ _ (A.noted c) _ s4 ⟨w4, hI.ga, hI.gb, hI.tells, hI.ba⟩⟩⟩
      exact bc (fun _ => ⟨by omega, by omega, by trivial, kR3 false⟩) (fun _ => ⟨by trivial, kR3 A.b⟩)
    intro R3 hR3
    have no : R3 false s' := hR3 _ _ (bc (fun e => by cases e) (fun _ => ⟨by trivial, kR2 A s' hI⟩))
    refine ⟨by omega, by omega, bc (fun _ => ⟨by omega, by omega, ?_⟩) (fun _ => ⟨by trivial, no⟩)⟩
    refine hI.w.a.routes.at_.load (j := 0) (map_get (f := Rs.enc) (x := ⟨A.st, 0, 0, 0⟩) rfl) c_RouteState rfl ⟨A.st, rfl, by trivial, ?_⟩
    exact hR3 _ _ (bce (fun hst => ⟨by omega, by omega, hI.over hst 0 (by omega) (by omega) fun s4 hI4 => ⟨by omega, by omega, by trivial, kR2 A.over s4 hI4⟩⟩) (fun _ => ⟨by trivial, kR2 A s' hI⟩))
  refine ⟨by omega, by omega, bc (fun _ => ⟨by omega, by omega, hI.ask hc hz hjn fun d0 d1 d2 d3 d4 d5 b n s' h1 h2 => ⟨_, _, _, _, _, _, _, _, rfl, bce (fun e => ⟨by omega, by omega, by trivial, ?_⟩) (fun e => ⟨by trivial, kR1 _ _ _ _ _ _ _ _ (h1 e)⟩)⟩⟩) (fun _ => ⟨by trivial, kR1 _ _ _ _ _ _ _ _ hI⟩)⟩
  obtain ⟨A', rfl, hI'⟩ := h2 e
  exact kR1 _ _ _ _ _ _ _ _ hI'
end Go.Proofs.YtcbmibgfmlpobaaGreat
end
