/-
  Proofs that the statement of this claim leans on: part 5.
-/
import Derived.Test.YtnochggjgopfeaaP4
section
set_option linter.unusedVariables false
set_option linter.unusedSimpArgs false
namespace Go.Proofs.Ytnochggjgopfeaa
open Go.Fw Go.Proofs Go.RowKit
variable {σ : Store}

def freshC : Co := ⟨[0, 0], [⟨0, 0, 0, 0⟩], [⟨0, 0⟩, ⟨0, 0⟩], [], [zLs, zLs, zLs, zLs], [0, 0], false⟩

/-- A state is handed back whose lists lie nowhere in the store. -/
def CoZ (σ : Store) (k : Co) (r : RV) (s : Store) : Prop := s = σ ∧ ∃ d0 d1 d2 d3 d4 d5, r = .a (coA d0 d1 d2 d3 d4 d5 k.Dirty) ∧ CoFz d0 d1 d2 d3 d4 d5 k

theorem law15_fresh_ok : DCalls Try.prog n_law15_fresh [] σ (CoZ σ freshC) := by
  refine (W_law15_fresh σ (fun r s => ∃ d0 d1 d2 d3 d4 d5, r = .a (coA d0 d1 d2 d3 d4 d5 false) ∧ CoOwn σ s d0 d1 d2 d3 d4 d5 freshC) ?_).ret ?_
  · refine law15_end_ok.mono ?_
    rintro r s ⟨rfl, c0, c1, c2, c3, c4, rfl, hc⟩
    refine ⟨_, _, _, _, _, _, _, _, _, rfl, (locks_New_ok hc 0 (by decide) (by decide) (by decide)).mono ?_⟩
    rintro r s1 ⟨d0, d1, d2, d3, d4, d5, rfl, h⟩
    refine ⟨_, _, _, _, _, _, _, rfl, h.own.at_.lenK ⟨fun n s2 => ∃ j : Nat, n = j ∧ j ≤ 2 ∧ CoOwn s s2 d0 d1 d2 d3 d4 d5 { newCo endC 0 with Own := List.replicate j 0 ++ [-1, -1].drop j }, fun n _ => 2 - n.toNat, ⟨0, rfl, by omega, h⟩, ?_⟩⟩
    rintro _ s2 ⟨j, rfl, hj, h2⟩
    have hl : (List.map encI (newCo endC 0).Own).length = 2 := rfl
    rw [hl]
    refine bcd (fun hlt => ?_) (fun hge => ?_)
    · have hlt : j < 2 := by omega
      refine h2.own.at_.idxK c_int rfl (by simp; omega) ?_
      have hw : w64 ((j : Int) + 1) = ((j + 1 : Nat) : Int) := w64_succ (by omega)
      obtain ⟨o, ho⟩ := get_of_lt (l := List.replicate j (0 : Int) ++ [-1, -1].drop j) (j := j) (by simp; omega)
      refine h2.setOwn ho (by omega) (w := 0) fun s3 h3 => ⟨rfl, ?_⟩
      rw [hw]
      refine ⟨⟨j + 1, rfl, by omega, ?_⟩, by show 2 - ((j + 1 : Nat) : Int).toNat < 2 - ((j : Nat) : Int).toNat; omega⟩
      rw [← set_all [-1, -1] j 0 hlt]; exact h3
    · have e : j = 2 := by omega
      subst e
      refine ⟨_, _, _, _, _, _, rfl, ?_⟩
      exact { own := h2.own, routes := h2.routes, points := h2.points, xs := h2.xs, lines := h2.lines, resets := h2.resets, apart := h2.apart }
  · rintro r s ⟨d0, d1, d2, d3, d4, d5, rfl, h⟩
    obtain ⟨e0, e1, e2, e3, e4, e5, hfz, hz⟩ := co_frz h
    exact ⟨.a (coA e0 e1 e2 e3 e4 e5 false), σ, .pure h.own.ext hfz, rfl, _, _, _, _, _, _, rfl, hz⟩

theorem CoFz.fit {d0 d1 d2 d3 d4 d5 : D} {k : Co} (h : CoFz d0 d1 d2 d3 d4 d5 k) (hs : k.Own.length ≤ 2 ^ 20 ∧ k.Routes.length ≤ 2 ^ 20 ∧ k.Points.length ≤ 2 ^ 20 ∧ k.Xs.length ≤ 2 ^ 20 ∧ k.Lines.length ≤ 2 ^ 20 ∧ k.Resets.length ≤ 2 ^ 20) : CoFit d0 d1 d2 d3 d4 d5 k :=
  ⟨h.n0, h.n1, h.n2, h.n3, h.n4, h.n5, by omega, by omega, by omega, by omega, by omega, by omega⟩

theorem stepRun_len (c : Cf) (occ : List Lk) (now : Int) (was : Bool) : ∀ (l : List Nat) (k : Co), (stepRun c occ now was l k).Own.length = k.Own.length ∧ (stepRun c occ now was l k).Lines.length = k.Lines.length
  | [], k => ⟨rfl, rfl⟩
  | i :: r, k => by
    rw [stepRun]
    have h := stepRun_len c occ now was r (if 0 ≤ c.lineSec i then lineStep c occ now was k i (c.lineSec i).toNat else k)
    have h2 : (if 0 ≤ c.lineSec i then lineStep c occ now was k i (c.lineSec i).toNat else k).Own.length = k.Own.length ∧ (if 0 ≤ c.lineSec i then lineStep c occ now was k i (c.lineSec i).toNat else k).Lines.length = k.Lines.length := by
      split
      · exact lineStep_len c occ now was k i _
      · exact ⟨rfl, rfl⟩
    exact ⟨h.1.trans h2.1, h.2.trans h2.2⟩

theorem lives_hear : freshC.hearC endC 1 1 0 0 = ({ freshC with Lines := [zLs, { zLs with PAsk := 1 }, zLs, zLs] }, 0) := by decide +kernel

def livesK : Co := { freshC with Own := [-2, 0], Lines := [zLs, { zLs with PAsk := 1, Grant := 1 }, zLs, zLs], Dirty := true }
theorem lives_step : Co.stepC endC ({ freshC with Lines := [zLs, { zLs with PAsk := 1 }, zLs, zLs] }, (0 : Int)).1 ⟨[⟨0, 9, true⟩, ⟨0, 9, true⟩], [⟨0, 0, false⟩, ⟨0, 0, false⟩], [], [⟨1, 9, true⟩]⟩ 9 = (livesK, 0) := by decide +kernel

theorem law15_lives_ok : Pure Try.prog n_law15_lives [] σ (.a (bA true)) := by
  refine W_law15_lives σ _ (law15_end_ok.mono ?_)
  rintro r s ⟨rfl, c0, c1, c2, c3, c4, rfl, hc⟩
  refine ⟨_, _, _, _, _, _, _, _, _, rfl, law15_fresh_ok.mono ?_⟩
  rintro r s ⟨rfl, k0, k1, k2, k3, k4, k5, rfl, hk⟩
  refine ⟨_, _, _, _, _, _, _, rfl, (post_frz (block_Hear_ok (c := endC) hc (hk.at_ s) (hk.fit (by decide)) 1 1 0 0)).mono ?_⟩
  rintro r s ⟨rfl, k0, k1, k2, k3, k4, k5, rfl, hk⟩
  refine ⟨_, _, _, _, _, _, _, _, rfl, (law15_seen_ok 0 9).mono ?_⟩
  rintro r s ⟨rfl, v0, v1, v2, v3, rfl, hv⟩
  refine ⟨_, _, _, _, rfl, (post_frz (block_Step_ok (c := endC) hc (hk.at_ s) (hk.fit (by decide +kernel)) hv 9)).mono ?_⟩
  rintro r s ⟨rfl, n0, n1, n2, n3, n4, n5, rfl, hn⟩
  rw [lives_hear] at hn ⊢
  rw [lives_step] at hn ⊢
  have h0 : List.map encI ([-2, 0] : List Int) = [[iD (-2)], [iD 0]] := rfl
  refine ⟨_, _, _, _, _, _, _, _, rfl, bce (fun _ => bce (fun _ => (hn.at_ s).own.lenK (bce (fun _ => ?_) (fun e => absurd rfl e))) (fun e => absurd rfl e)) (fun e => absurd rfl e)⟩
  refine (hn.at_ s).own.load (j := 0) (row := encI (-2)) rfl c_int rfl ⟨-2, rfl, bce (fun _ => ?_) (fun e => absurd rfl e)⟩
  refine (hn.at_ s).lines.load (j := 1) (row := Ls.enc { zLs with PAsk := 1, Grant := 1 }) rfl c_LineState rfl ⟨1, rfl, bce (fun _ => ?_) (fun e => absurd rfl e)⟩
  exact (block_Tell_ok (hn.at_ s) _ 1).use ⟨0, 0, 0, rfl, rfl, rfl⟩
end Go.Proofs.Ytnochggjgopfeaa
end
section
set_option linter.unusedVariables false
set_option linter.unusedSimpArgs false
namespace Go.Fw
variable {P : Program}

/-- What a cell holds. -/
inductive Cs
  | int (k : IntKind)
  | bool
  | str
  | sl (e : TypeId)

def fieldsSh (g : TypeId → Option (List Cs)) : List Field → Option (List Cs)
  | [] => some []
  | f :: fs => match g f.type, fieldsSh g fs with
    | some a, some b => some (a ++ b)
    | _, _ => none

def cellsSh (P : Program) : Nat → TypeId → Option (List Cs)
  | 0, _ => none
  | m + 1, t => match P.underlying t with
    | some .bool => some [.bool]
    | some (.int k) => some [.int k]
    | some .string => some [.str]
    | some (.slice e) => some [.sl e]
    | some (.struct fs) => fieldsSh (cellsSh P m) fs.toList
    | some (.array k e) => (cellsSh P m e).map fun l => (List.replicate k l).flatten
    | _ => none

def CsOk (P : Program) : Cs → D → Prop
  | .int k, d => ∃ m, d = .int k m ∧ (Lit.int k m).wf = true
  | .bool, d => ∃ b, d = .bool b
  | .str, d => ∃ s, d = .str s ∧ s.size ≤ 140737488351232
  | .sl e, d => d = .nils ∨ ∃ rows, d = .sl (P.cellsOf e) rows ∧ rows.length * P.bytesOf e ≤ 140737488351232 ∧ ∀ row ∈ rows, ∃ n, tyD P n e row

def CsL (P : Program) : List Cs → List D → Prop
  | [], ds => ds = []
  | s :: ss, ds => ∃ d r, ds = d :: r ∧ CsOk P s d ∧ CsL P ss r

theorem CsL.append {a b : List Cs} {x y : List D} (h1 : CsL P a x) (h2 : CsL P b y) : CsL P (a ++ b) (x ++ y) := by
  induction a generalizing x with
  | nil => simp only [CsL] at h1; subst h1; exact h2
  | cons s a ih =>
    obtain ⟨d, r, rfl, q1, q2⟩ := h1
    exact ⟨d, r ++ y, rfl, q1, ih q2⟩

theorem fields_sh {g : TypeId → Option (List Cs)} {ty : TypeId → List D → Prop} (ih : ∀ t ds shs, ty t ds → g t = some shs → CsL P shs ds) : ∀ (fs : List Field) (ds : List D) (shs : List Cs), tyF P ty fs ds → fieldsSh g fs = some shs → CsL P shs ds
  | [], ds, shs, h1, h2 => by
    simp only [tyF] at h1; simp only [fieldsSh] at h2
    cases h2; subst h1; rfl
  | f :: fs, ds, shs, h1, h2 => by
    obtain ⟨a, b, rfl, _, q1, q2⟩ := h1
    rw [fieldsSh] at h2
    split at h2
    · rename_i x y e1 e2
      cases h2
      exact (ih _ _ _ q1 e1).append (fields_sh ih fs b y q2 e2)
    · cases h2

theorem rep_sh {ty : TypeId → List D → Prop} {e : TypeId} {l : List Cs} (ih : ∀ ds, ty e ds → CsL P l ds) : ∀ (k : Nat) (ds : List D), tyR P ty e k ds → CsL P (List.replicate k l).flatten ds
  | 0, ds, h => by simp only [tyR] at h; subst h; rfl
  | k + 1, ds, h => by
    obtain ⟨a, b, rfl, _, q1, q2⟩ := h
    rw [List.replicate_succ, List.flatten_cons]
    exact (ih a q1).append (rep_sh ih k b q2)

/-- The cells of a value of a plain type, one by one. -/
theorem ty_sh : ∀ (n m : Nat) (t : TypeId) (ds : List D) (shs : List Cs), tyD P n t ds → cellsSh P m t = some shs → CsL P shs ds
  | 0, _, _, _, _, h, _ => h.elim
  | _ + 1, 0, _, _, _, _, h => by cases h
  | n + 1, m + 1, t, ds, shs, h1, h2 => by
    unfold tyD at h1
    unfold cellsSh at h2
    split at h1
    · rename_i hu
      rw [hu] at h2; cases h2
      obtain ⟨b, rfl⟩ := h1
      exact ⟨_, _, rfl, ⟨b, rfl⟩, rfl⟩
    · rename_i k hu
      rw [hu] at h2; cases h2
      obtain ⟨b, rfl, hw⟩ := h1
      exact ⟨_, _, rfl, ⟨b, rfl, hw⟩, rfl⟩
    · rename_i hu
      rw [hu] at h2; cases h2
      obtain ⟨b, rfl, hw⟩ := h1
      exact ⟨_, _, rfl, ⟨b, rfl, hw⟩, rfl⟩
    · rename_i e hu
      rw [hu] at h2; cases h2
      rcases h1 with rfl | ⟨rows, rfl, q1, q2⟩
      · exact ⟨_, _, rfl, .inl rfl, rfl⟩
      · exact ⟨_, _, rfl, .inr ⟨rows, rfl, q1, fun row hr => ⟨n, q2 row hr⟩⟩, rfl⟩
    · rename_i fs hu
      rw [hu] at h2
      exact fields_sh (fun t ds shs a b => ty_sh n m t ds shs a b) fs.toList ds shs h1 h2
    · rename_i k e hu
      rw [hu] at h2
      simp only [Option.map_eq_some_iff] at h2
      obtain ⟨l, e1, rfl⟩ := h2
      exact rep_sh (fun ds a => ty_sh n m e ds l a e1) k ds h1
    · exact h1.elim

/-- A whole number of Go's int. -/
def I64 (n : Int) : Prop := -9223372036854775808 ≤ n ∧ n ≤ 9223372036854775807

theorem wf_i64 {n : Int} (h : (Lit.int .i64 n).wf = true) : I64 n := by
  simp only [Lit.wf, IntKind.min, IntKind.max, IntKind.signed, IntKind.bits, Bool.and_eq_true, decide_eq_true_eq, if_true] at h
  unfold I64
  omega

theorem I64.w {n : Int} (h : I64 n) : w64 n = n := w64_id h.1 h.2

/-- A slice's rows, each of them one's. -/
theorem sh_rel {α : Type} {e : TypeId} {d : D} {bytes : Nat} (R : List D → α → Prop) (hf : ∀ row n, tyD P n e row → ∃ a, R row a) (hb : P.bytesOf e = bytes) (hb0 : 0 < bytes) (h : CsOk P (.sl e) d) :
    ∃ (rows : List (List D)) (l : List α), (∀ s, At P s e d rows) ∧ rows.length = l.length ∧ (∀ (i : Nat) row a, rows[i]? = some row → l[i]? = some a → R row a) ∧ d ≠ .zsl ∧ bytes * l.length ≤ 140737488351232 := by
  rcases h with rfl | ⟨rows, rfl, q1, q2⟩
  · exact ⟨[], [], fun s => .nil, rfl, fun i row a h => by simp at h, (by intro e; cases e), by simp⟩
  · have key : ∀ rows : List (List D), (∀ row ∈ rows, ∃ n, tyD P n e row) → ∃ l : List α, rows.length = l.length ∧ ∀ (i : Nat) row a, rows[i]? = some row → l[i]? = some a → R row a := by
      intro rows
      induction rows with
      | nil => intro _; exact ⟨[], rfl, fun i row a h => by simp at h⟩
      | cons r rs ih =>
        intro hr
        obtain ⟨l, e1, e2⟩ := ih fun row h => hr row (by simp [h])
        obtain ⟨n, hn⟩ := hr r (by simp)
        obtain ⟨a, ha⟩ := hf r n hn
        refine ⟨a :: l, by simp [e1], fun i row b h1 h2 => ?_⟩
        cases i with
        | zero => simp at h1 h2; subst h1 h2; exact ha
        | succ i => exact e2 i row b (by simpa using h1) (by simpa using h2)
    obtain ⟨l, hl, hR⟩ := key rows q2
    rw [hb, hl] at q1
    have q3 : bytes * l.length ≤ 140737488351232 := by rw [Nat.mul_comm]; exact q1
    have h1 : 1 * l.length ≤ bytes * l.length := Nat.mul_le_mul_right _ hb0
    refine ⟨rows, l, fun s => ⟨⟨rfl, .inr rfl⟩, by omega, fun es rows e => ?_⟩, hl, hR, (by intro e; cases e), q3⟩
    injection e with e1 e2
    exact e1.symm

/-- A slice's rows, each the cells of one. -/
theorem sh_rows {α : Type} {e : TypeId} {d : D} {bytes : Nat} (f : α → List D) (Q : α → Prop) (hf : ∀ row n, tyD P n e row → ∃ a, row = f a ∧ Q a) (hb : P.bytesOf e = bytes) (hb0 : 0 < bytes) (h : CsOk P (.sl e) d) :
    ∃ l : List α, (∀ s, At P s e d (l.map f)) ∧ (∀ a ∈ l, Q a) ∧ d ≠ .zsl ∧ bytes * l.length ≤ 140737488351232 := by
  rcases h with rfl | ⟨rows, rfl, q1, q2⟩
  · exact ⟨[], fun s => .nil, fun a ha => by simp at ha, (by intro e; cases e), by simp⟩
  · have key : ∀ rows : List (List D), (∀ row ∈ rows, ∃ n, tyD P n e row) → ∃ l : List α, l.map f = rows ∧ ∀ a ∈ l, Q a := by
      intro rows
      induction rows with
      | nil => intro _; exact ⟨[], rfl, fun a ha => by simp at ha⟩
      | cons r rs ih =>
        intro hr
        obtain ⟨l, e1, e2⟩ := ih fun row h => hr row (by simp [h])
        obtain ⟨n, hn⟩ := hr r (by simp)
        obtain ⟨a, rfl, ha⟩ := hf r n hn
        refine ⟨a :: l, by simp [e1], fun b hb => ?_⟩
        simp only [List.mem_cons] at hb
        rcases hb with rfl | hb
        · exact ha
        · exact e2 b hb
    obtain ⟨l, rfl, hl⟩ := key rows q2
    rw [hb, List.length_map] at q1
    have q3 : bytes * l.length ≤ 140737488351232 := by rw [Nat.mul_comm]; exact q1
    have h1 : 1 * l.length ≤ bytes * l.length := Nat.mul_le_mul_right _ hb0
    refine ⟨l, fun s => ⟨⟨rfl, .inr rfl⟩, by rw [List.length_map]; omega, fun es rows e => ?_⟩, hl, (by intro e; cases e), q3⟩
    injection e with e1 e2
    exact e1.symm
theorem tya_one {t : TypeId} {x : A} (h : TyA P t x) (hg : isAggT P t = some false) : ∃ d n, x = .one d ∧ tyD P n t [d] := by
  cases x with
  | one d => exact ⟨d, 30, rfl, h.2⟩
  | agg cs => have := h.1; rw [hg] at this; cases this

theorem tya_agg {t : TypeId} {x : A} (h : TyA P t x) (hg : isAggT P t = some true) : ∃ cs n, x = .agg cs ∧ tyD P n t cs := by
  cases x with
  | one d => have := h.1; rw [hg] at this; cases this
  | agg cs => exact ⟨cs, 30, rfl, h.2⟩

theorem tys_cons {t : TypeId} {ts : List TypeId} {as0 : List A} (h : TyAs P (t :: ts) as0) : ∃ a r, as0 = a :: r ∧ TyA P t a ∧ TyAs P ts r := h
theorem tys_nil {as0 : List A} (h : TyAs P [] as0) : as0 = [] := h

/-- A value of a plain type, all zero. -/
def csZero : Cs → Value
  | .int k => .int k 0
  | .bool => .bool false
  | .str => .string .empty
  | .sl _ => .slice none 0 0

def zeroArg (P : Program) (t : TypeId) : Value := match isAggT P t, cellsSh P 9 t with
  | some true, some l => .agg (l.map csZero).toArray
  | _, some [c] => csZero c
  | _, _ => .int .i64 0
end Go.Fw
namespace Go.Fw
/-- A law's answer and arguments. -/
theorem law_fn1 {H : Type} {s : List (DataW H) → Left H} {ds : List (DataW H)} (h : ds.length = 1) (hs : ∀ a, s [a] = { results := [.lit (.bool true)], args := [a] } := by intros; rfl) : s ds = { results := [.lit (.bool true)], args := ds } := by
  match ds, h with
  | [a], _ => exact hs a
theorem law_fn2 {H : Type} {s : List (DataW H) → Left H} {ds : List (DataW H)} (h : ds.length = 2) (hs : ∀ a b, s [a, b] = { results := [.lit (.bool true)], args := [a, b] } := by intros; rfl) : s ds = { results := [.lit (.bool true)], args := ds } := by
  match ds, h with
  | [a, b], _ => exact hs a b
theorem law_fn3 {H : Type} {s : List (DataW H) → Left H} {ds : List (DataW H)} (h : ds.length = 3) (hs : ∀ a b c, s [a, b, c] = { results := [.lit (.bool true)], args := [a, b, c] } := by intros; rfl) : s ds = { results := [.lit (.bool true)], args := ds } := by
  match ds, h with
  | [a, b, c], _ => exact hs a b c
theorem law_fn4 {H : Type} {s : List (DataW H) → Left H} {ds : List (DataW H)} (h : ds.length = 4) (hs : ∀ a b c d, s [a, b, c, d] = { results := [.lit (.bool true)], args := [a, b, c, d] } := by intros; rfl) : s ds = { results := [.lit (.bool true)], args := ds } := by
  match ds, h with
  | [a, b, c, d], _ => exact hs a b c d
theorem law_fn5 {H : Type} {s : List (DataW H) → Left H} {ds : List (DataW H)} (h : ds.length = 5) (hs : ∀ a b c d e, s [a, b, c, d, e] = { results := [.lit (.bool true)], args := [a, b, c, d, e] } := by intros; rfl) : s ds = { results := [.lit (.bool true)], args := ds } := by
  match ds, h with
  | [a, b, c, d, e], _ => exact hs a b c d e
end Go.Fw
namespace Go.Fw
/-- How far two lists have been found alike. -/
def EqR {α : Type} (la lb : List α) (n : Int) : Prop := ∃ j : Nat, n = j ∧ j ≤ la.length ∧ la.take j = lb.take j

theorem EqR.start {α : Type} (la lb : List α) : EqR la lb 0 := ⟨0, rfl, by omega, by simp⟩

theorem EqR.step {α : Type} {la lb : List α} {n : Int} {m : Nat} (h : EqR la lb n) (hl : la.length = lb.length) (hm : m = la.length) (hs : la.length < 2 ^ 60) (hlt : n < (m : Int)) :
    ∃ (j : Nat) (x y : α), n = j ∧ la[j]? = some x ∧ lb[j]? = some y ∧ (x ≠ y → la ≠ lb) ∧ (x = y → EqR la lb (w64 (n + 1)) ∧ la.length - (w64 (n + 1)).toNat < la.length - n.toNat) := by
  obtain ⟨j, rfl, hj, hF⟩ := h
  have hj' : j < la.length := by omega
  obtain ⟨x, hx⟩ := get_of_lt hj'
  obtain ⟨y, hy⟩ := get_of_lt (l := lb) (j := j) (by omega)
  refine ⟨j, x, y, rfl, hx, hy, fun hne e => ?_, fun e => ?_⟩
  · subst e; rw [hx] at hy; cases hy; exact hne rfl
  · rw [w64_succ (by omega)]
    refine ⟨⟨j + 1, rfl, by omega, ?_⟩, by omega⟩
    rw [List.take_add_one, List.take_add_one, hF, hx, hy, e]

theorem EqR.done {α : Type} {la lb : List α} {n : Int} {m : Nat} (h : EqR la lb n) (hl : la.length = lb.length) (hm : m = la.length) (hge : ¬ n < (m : Int)) : la = lb := by
  obtain ⟨j, rfl, hj, hF⟩ := h
  have : j = la.length := by omega
  rw [List.take_of_length_le (by omega), List.take_of_length_le (by omega)] at hF
  exact hF
end Go.Fw
namespace Go.Fw
/-- An argument of one cell. -/
theorem tya_cell {P : Program} {t : TypeId} {x : A} {c : Cs} (h : TyA P t x) (hg : isAggT P t = some false) (hs : cellsSh P 5 t = some [c]) : ∃ d, x = .one d ∧ CsOk P c d := by
  obtain ⟨d, n, rfl, h1⟩ := tya_one h hg
  obtain ⟨d', r, e, h2, h3⟩ := ty_sh n 5 t _ _ h1 hs
  have : d = d' := by injection e
  exact ⟨d, rfl, this ▸ h2⟩
theorem tya_int {P : Program} {t : TypeId} {x : A} (h : TyA P t x) (hg : isAggT P t = some false) (hs : cellsSh P 5 t = some [.int .i64]) : ∃ m, x = iA m ∧ I64 m := by
  obtain ⟨d, rfl, m, rfl, hm⟩ := tya_cell h hg hs
  exact ⟨m, rfl, wf_i64 hm⟩
theorem tya_cells {P : Program} {t : TypeId} {x : A} {l : List Cs} (h : TyA P t x) (hg : isAggT P t = some true) (hs : cellsSh P 7 t = some l) : ∃ ds, x = .agg ds ∧ CsL P l ds := by
  obtain ⟨cs, n, rfl, h1⟩ := tya_agg h hg
  exact ⟨cs, rfl, ty_sh n 7 t _ _ h1 hs⟩
end Go.Fw
end
section
set_option linter.unusedVariables false
set_option linter.unusedSimpArgs false
namespace Go.Proofs.Ytnochggjgopfeaa
open Go.Fw Go.Proofs Go.RowKit

theorem ty_i {row : List D} {n : Nat} (h : tyD Try.prog n t_int row) : ∃ m, row = encI m ∧ I64 m := by
  obtain ⟨_, _, rfl, ⟨m, rfl, hm⟩, rfl⟩ := ty_sh n 2 _ _ [.int .i64] h (by kernel_rfl)
  exact ⟨m, rfl, wf_i64 hm⟩

theorem ty_i2 {t : TypeId} {row : List D} {n : Nat} (h : tyD Try.prog n t row) (hs : cellsSh Try.prog 5 t = some [.int .i64, .int .i64]) : ∃ a b, row = [iD a, iD b] ∧ I64 a ∧ I64 b := by
  obtain ⟨_, _, rfl, ⟨a, rfl, ha⟩, _, _, rfl, ⟨b, rfl, hb⟩, rfl⟩ := ty_sh n 5 _ _ _ h hs
  exact ⟨a, b, rfl, wf_i64 ha, wf_i64 hb⟩

theorem ty_i3 {t : TypeId} {row : List D} {n : Nat} (h : tyD Try.prog n t row) (hs : cellsSh Try.prog 5 t = some [.int .i64, .int .i64, .int .i64]) : ∃ a b c, row = [iD a, iD b, iD c] ∧ I64 a ∧ I64 b ∧ I64 c := by
  obtain ⟨_, _, rfl, ⟨a, rfl, ha⟩, _, _, rfl, ⟨b, rfl, hb⟩, _, _, rfl, ⟨c, rfl, hc⟩, rfl⟩ := ty_sh n 5 _ _ _ h hs
  exact ⟨a, b, c, rfl, wf_i64 ha, wf_i64 hb, wf_i64 hc⟩

theorem ty_i4 {t : TypeId} {row : List D} {n : Nat} (h : tyD Try.prog n t row) (hs : cellsSh Try.prog 5 t = some [.int .i64, .int .i64, .int .i64, .int .i64]) : ∃ a b c d, row = [iD a, iD b, iD c, iD d] ∧ I64 a ∧ I64 b ∧ I64 c ∧ I64 d := by
  obtain ⟨_, _, rfl, ⟨a, rfl, ha⟩, _, _, rfl, ⟨b, rfl, hb⟩, _, _, rfl, ⟨c, rfl, hc⟩, _, _, rfl, ⟨d, rfl, hd⟩, rfl⟩ := ty_sh n 5 _ _ _ h hs
  exact ⟨a, b, c, d, rfl, wf_i64 ha, wf_i64 hb, wf_i64 hc, wf_i64 hd⟩

theorem ty_Section {row : List D} {n : Nat} (h : tyD Try.prog n t_Section row) : ∃ s : Sec, row = s.enc ∧ I64 s.Kind ∧ I64 s.OC ∧ I64 s.Line := by
  obtain ⟨a, b, c, rfl, q⟩ := ty_i3 h (by kernel_rfl)
  exact ⟨⟨a, b, c⟩, rfl, q⟩
theorem ty_Joint {row : List D} {n : Nat} (h : tyD Try.prog n t_Joint row) : ∃ s : Jt, row = s.enc ∧ I64 s.A ∧ I64 s.AEnd ∧ I64 s.B ∧ I64 s.BEnd := by
  obtain ⟨a, b, c, d, rfl, q⟩ := ty_i4 h (by kernel_rfl)
  exact ⟨⟨a, b, c, d⟩, rfl, q⟩
theorem ty_Signal {row : List D} {n : Nat} (h : tyD Try.prog n t_Signal row) : ∃ s : Sg, row = s.enc ∧ I64 s.Sec ∧ I64 s.End_ := by
  obtain ⟨a, b, rfl, q⟩ := ty_i2 h (by kernel_rfl)
  exact ⟨⟨a, b⟩, rfl, q⟩
theorem ty_Step {row : List D} {n : Nat} (h : tyD Try.prog n t_Step row) : ∃ s : St, row = s.enc ∧ I64 s.Sec ∧ I64 s.In ∧ I64 s.Out := by
  obtain ⟨a, b, c, rfl, q⟩ := ty_i3 h (by kernel_rfl)
  exact ⟨⟨a, b, c⟩, rfl, q⟩
theorem ty_Need {row : List D} {n : Nat} (h : tyD Try.prog n t_Need row) : ∃ s : Nd, row = s.enc ∧ I64 s.Sec ∧ I64 s.Pos := by
  obtain ⟨a, b, rfl, q⟩ := ty_i2 h (by kernel_rfl)
  exact ⟨⟨a, b⟩, rfl, q⟩

/-- A route's numbers are Go's. -/
structure RtI (r : Rt) : Prop where
  entry : I64 r.Entry
  exit : I64 r.Exit
  path : ∀ s ∈ r.Path, I64 s.Sec ∧ I64 s.In ∧ I64 s.Out
  flank : ∀ s ∈ r.Flank, I64 s.Sec ∧ I64 s.Pos
  over : ∀ o ∈ r.Overlap, I64 o
  np : 24 * r.Path.length ≤ 140737488351232
  nf : 16 * r.Flank.length ≤ 140737488351232
  no : 8 * r.Overlap.length ≤ 140737488351232

theorem ty_Route {row : List D} {n : Nat} (h : tyD Try.prog n t_Route row) : ∃ r : Rt, (∀ s, RtAt Try.prog t_Step t_Need t_int s row r) ∧ RtI r := by
  obtain ⟨_, _, rfl, ⟨a, rfl, ha⟩, _, _, rfl, ⟨b, rfl, hb⟩, d1, _, rfl, h1, d2, _, rfl, h2, d3, _, rfl, h3, _, _, rfl, ⟨sh, rfl⟩, rfl⟩ := ty_sh n 5 _ _ [.int .i64, .int .i64, .sl t_Step, .sl t_Need, .sl t_int, .bool] h (by kernel_rfl)
  obtain ⟨l1, a1, b1, _, e1⟩ := sh_rows (bytes := 24) St.enc _ (fun row n h => ty_Step h) (by kernel_rfl) (by omega) h1
  obtain ⟨l2, a2, b2, _, e2⟩ := sh_rows (bytes := 16) Nd.enc _ (fun row n h => ty_Need h) (by kernel_rfl) (by omega) h2
  obtain ⟨l3, a3, b3, _, e3⟩ := sh_rows (bytes := 8) encI _ (fun row n h => ty_i h) (by kernel_rfl) (by omega) h3
  exact ⟨⟨a, b, l1, l2, l3, sh⟩, fun s => ⟨d1, d2, d3, rfl, a1 s, a2 s, a3 s⟩, wf_i64 ha, wf_i64 hb, b1, b2, b3, e1, e2, e3⟩

/-- A configuration's numbers are Go's. -/
structure CfI (c : Cf) : Prop where
  secs : ∀ s ∈ c.Secs, I64 s.Kind ∧ I64 s.OC ∧ I64 s.Line
  jts : ∀ s ∈ c.Jts, I64 s.A ∧ I64 s.AEnd ∧ I64 s.B ∧ I64 s.BEnd
  sigs : ∀ s ∈ c.Sigs, I64 s.Sec ∧ I64 s.End_
  xs : ∀ s ∈ c.Xs, I64 s
  rts : ∀ r ∈ c.Rts, RtI r
  age : I64 c.Age
  brake : I64 c.Brake
  hold : I64 c.Hold
  budget : I64 c.Budget
  nsecs : 24 * c.Secs.length ≤ 140737488351232
  njts : 32 * c.Jts.length ≤ 140737488351232
  nsigs : 16 * c.Sigs.length ≤ 140737488351232
  nxs : 8 * c.Xs.length ≤ 140737488351232
  nrts : 96 * c.Rts.length ≤ 140737488351232

theorem ty_Config {cs : List D} {n : Nat} (h : tyD Try.prog n t_Config cs) : ∃ c0 c1 c2 c3 c4 c, cs = [c0, c1, c2, c3, c4, iD c.Age, iD c.Brake, iD c.Hold, iD c.Budget] ∧ (∀ s, CfAt s c0 c1 c2 c3 c4 c) ∧ CfI c := by
  obtain ⟨c0, _, rfl, h0, c1, _, rfl, h1, c2, _, rfl, h2, c3, _, rfl, h3, c4, _, rfl, h4, _, _, rfl, ⟨a, rfl, ha⟩, _, _, rfl, ⟨b, rfl, hb⟩, _, _, rfl, ⟨ho, rfl, hho⟩, _, _, rfl, ⟨bu, rfl, hbu⟩, rfl⟩ :=
    ty_sh n 5 _ _ [.sl t_Section, .sl t_Joint, .sl t_Signal, .sl t_int, .sl t_Route, .int .i64, .int .i64, .int .i64, .int .i64] h (by kernel_rfl)
  obtain ⟨l0, a0, b0, _, e0⟩ := sh_rows (bytes := 24) Sec.enc _ (fun row n h => ty_Section h) (by kernel_rfl) (by omega) h0
  obtain ⟨l1, a1, b1, _, e1⟩ := sh_rows (bytes := 32) Jt.enc _ (fun row n h => ty_Joint h) (by kernel_rfl) (by omega) h1
  obtain ⟨l2, a2, b2, _, e2⟩ := sh_rows (bytes := 16) Sg.enc _ (fun row n h => ty_Signal h) (by kernel_rfl) (by omega) h2
  obtain ⟨l3, a3, b3, _, e3⟩ := sh_rows (bytes := 8) encI _ (fun row n h => ty_i h) (by kernel_rfl) (by omega) h3
  obtain ⟨rows, l4, a4, q4, b4, _, e4⟩ := sh_rel (bytes := 96) (fun row r => (∀ s, RtAt Try.prog t_Step t_Need t_int s row r) ∧ RtI r) (fun row n h => ty_Route h) (by kernel_rfl) (by omega) h4
  refine ⟨c0, c1, c2, c3, c4, ⟨l0, l1, l2, l3, l4, a, b, ho, bu⟩, rfl, fun s => ⟨a0 s, a1 s, a2 s, a3 s, rows, a4 s, q4, fun i row r x y => (b4 i row r x y).1 s⟩, b0, b1, b2, b3, ?_, wf_i64 ha, wf_i64 hb, wf_i64 hho, wf_i64 hbu, e0, e1, e2, e3, e4⟩
  intro r hr
  obtain ⟨i, hi⟩ := List.mem_iff_getElem?.1 hr
  have hi : l4[i]? = some r := hi
  have hlt := (List.getElem?_eq_some_iff.1 hi).1
  obtain ⟨row, hrow⟩ := get_of_lt (l := rows) (j := i) (by omega)
  exact (b4 i row r hrow hi).2

theorem ty_RouteState {row : List D} {n : Nat} (h : tyD Try.prog n t_RouteState row) : ∃ s : Rs, row = s.enc ∧ I64 s.State ∧ I64 s.Since ∧ I64 s.Next ∧ I64 s.Mark := by
  obtain ⟨a, b, c, d, rfl, q⟩ := ty_i4 h (by kernel_rfl)
  exact ⟨⟨a, b, c, d⟩, rfl, q⟩
theorem ty_Mover {row : List D} {n : Nat} (h : tyD Try.prog n t_Mover row) : ∃ s : Mv, row = s.enc ∧ I64 s.Cmd ∧ I64 s.Other := by
  obtain ⟨a, b, rfl, q⟩ := ty_i2 h (by kernel_rfl)
  exact ⟨⟨a, b⟩, rfl, q⟩
structure LsI (l : Ls) : Prop where
  ask : I64 l.Ask
  done : I64 l.Done
  grant : I64 l.Grant
  told : I64 l.Told
  pask : I64 l.PAsk
  pdone : I64 l.PDone
  pgrant : I64 l.PGrant
  since : I64 l.Since
theorem ty_LineState {row : List D} {n : Nat} (h : tyD Try.prog n t_LineState row) : ∃ s : Ls, row = s.enc ∧ LsI s := by
  obtain ⟨_, _, rfl, ⟨a, rfl, ha⟩, _, _, rfl, ⟨b, rfl, hb⟩, _, _, rfl, ⟨c, rfl, hc⟩, _, _, rfl, ⟨d, rfl, hd⟩, _, _, rfl, ⟨e, rfl, he⟩, _, _, rfl, ⟨f, rfl, hf⟩, _, _, rfl, ⟨g, rfl, hg⟩, _, _, rfl, ⟨i, rfl, hi⟩, rfl⟩ :=
    ty_sh n 5 _ _ [.int .i64, .int .i64, .int .i64, .int .i64, .int .i64, .int .i64, .int .i64, .int .i64] h (by kernel_rfl)
  exact ⟨⟨a, b, c, d, e, f, g, i⟩, rfl, wf_i64 ha, wf_i64 hb, wf_i64 hc, wf_i64 hd, wf_i64 he, wf_i64 hf, wf_i64 hg, wf_i64 hi⟩

/-- A state's numbers are Go's. -/
structure CoI (k : Co) : Prop where
  own : ∀ o ∈ k.Own, I64 o
  routes : ∀ s ∈ k.Routes, I64 s.State ∧ I64 s.Since ∧ I64 s.Next ∧ I64 s.Mark
  points : ∀ s ∈ k.Points, I64 s.Cmd ∧ I64 s.Other
  xs : ∀ s ∈ k.Xs, I64 s.Cmd ∧ I64 s.Other
  lines : ∀ s ∈ k.Lines, LsI s
  resets : ∀ o ∈ k.Resets, I64 o

theorem ty_Core {cs : List D} {n : Nat} (h : tyD Try.prog n t_Core cs) : ∃ d0 d1 d2 d3 d4 d5 k, cs = [d0, d1, d2, d3, d4, d5, .bool k.Dirty] ∧ CoFz d0 d1 d2 d3 d4 d5 k ∧ CoFit d0 d1 d2 d3 d4 d5 k ∧ CoI k := by
  obtain ⟨d0, _, rfl, h0, d1, _, rfl, h1, d2, _, rfl, h2, d3, _, rfl, h3, d4, _, rfl, h4, d5, _, rfl, h5, _, _, rfl, ⟨a, rfl⟩, rfl⟩ :=
    ty_sh n 5 _ _ [.sl t_int, .sl t_RouteState, .sl t_Mover, .sl t_Mover, .sl t_LineState, .sl t_int, .bool] h (by kernel_rfl)
  obtain ⟨l0, a0, b0, z0, e0⟩ := sh_rows (bytes := 8) encI _ (fun row n h => ty_i h) (by kernel_rfl) (by omega) h0
  obtain ⟨l1, a1, b1, z1, e1⟩ := sh_rows (bytes := 32) Rs.enc _ (fun row n h => ty_RouteState h) (by kernel_rfl) (by omega) h1
  obtain ⟨l2, a2, b2, z2, e2⟩ := sh_rows (bytes := 16) Mv.enc _ (fun row n h => ty_Mover h) (by kernel_rfl) (by omega) h2
  obtain ⟨l3, a3, b3, z3, e3⟩ := sh_rows (bytes := 16) Mv.enc _ (fun row n h => ty_Mover h) (by kernel_rfl) (by omega) h3
  obtain ⟨l4, a4, b4, z4, e4⟩ := sh_rows (bytes := 64) Ls.enc _ (fun row n h => ty_LineState h) (by kernel_rfl) (by omega) h4
  obtain ⟨l5, a5, b5, z5, e5⟩ := sh_rows (bytes := 8) encI _ (fun row n h => ty_i h) (by kernel_rfl) (by omega) h5
  exact ⟨d0, d1, d2, d3, d4, d5, ⟨l0, l1, l2, l3, l4, l5, a⟩, rfl, ⟨fun s => ⟨a0 s, a1 s, a2 s, a3 s, a4 s, a5 s⟩, z0, z1, z2, z3, z4, z5⟩, ⟨z0, z1, z2, z3, z4, z5, by simp only; omega, by simp only; omega, by simp only; omega, by simp only; omega, by simp only; omega, by simp only; omega⟩, b0, b1, b2, b3, b4, b5⟩

theorem ty_Look {row : List D} {n : Nat} (h : tyD Try.prog n t_Look row) : ∃ s : Lk, row = s.enc ∧ I64 s.Value ∧ I64 s.Stamp := by
  obtain ⟨_, _, rfl, ⟨a, rfl, ha⟩, _, _, rfl, ⟨b, rfl, hb⟩, _, _, rfl, ⟨c, rfl⟩, rfl⟩ := ty_sh n 5 _ _ [.int .i64, .int .i64, .bool] h (by kernel_rfl)
  exact ⟨⟨a, b, c⟩, rfl, wf_i64 ha, wf_i64 hb⟩

structure VwI (v : Vw) : Prop where
  occ : ∀ l ∈ v.Occ, I64 l.Value ∧ I64 l.Stamp
  pos : ∀ l ∈ v.Pos, I64 l.Value ∧ I64 l.Stamp
  shut : ∀ l ∈ v.Shut, I64 l.Value ∧ I64 l.Stamp
  lamp : ∀ l ∈ v.Lamp, I64 l.Value ∧ I64 l.Stamp

theorem sh_View {d0 d1 d2 d3 : D} (h0 : CsOk Try.prog (.sl t_Look) d0) (h1 : CsOk Try.prog (.sl t_Look) d1) (h2 : CsOk Try.prog (.sl t_Look) d2) (h3 : CsOk Try.prog (.sl t_Look) d3) : ∃ v, VwAt d0 d1 d2 d3 v ∧ VwI v := by
  obtain ⟨l0, a0, b0, _, e0⟩ := sh_rows (bytes := 24) Lk.enc _ (fun row n h => ty_Look h) (by kernel_rfl) (by omega) h0
  obtain ⟨l1, a1, b1, _, e1⟩ := sh_rows (bytes := 24) Lk.enc _ (fun row n h => ty_Look h) (by kernel_rfl) (by omega) h1
  obtain ⟨l2, a2, b2, _, e2⟩ := sh_rows (bytes := 24) Lk.enc _ (fun row n h => ty_Look h) (by kernel_rfl) (by omega) h2
  obtain ⟨l3, a3, b3, _, e3⟩ := sh_rows (bytes := 24) Lk.enc _ (fun row n h => ty_Look h) (by kernel_rfl) (by omega) h3
  exact ⟨⟨l0, l1, l2, l3⟩, ⟨a0, a1, a2, a3⟩, b0, b1, b2, b3⟩

theorem ty_View {cs : List D} {n : Nat} (h : tyD Try.prog n t_View cs) : ∃ d0 d1 d2 d3 v, cs = [d0, d1, d2, d3] ∧ VwAt d0 d1 d2 d3 v ∧ VwI v := by
  obtain ⟨d0, _, rfl, h0, d1, _, rfl, h1, d2, _, rfl, h2, d3, _, rfl, h3, rfl⟩ := ty_sh n 5 _ _ [.sl t_Look, .sl t_Look, .sl t_Look, .sl t_Look] h (by kernel_rfl)
  obtain ⟨v, h4, h5⟩ := sh_View h0 h1 h2 h3
  exact ⟨d0, d1, d2, d3, v, rfl, h4, h5⟩
end Go.Proofs.Ytnochggjgopfeaa
end
section
set_option linter.unusedVariables false
set_option linter.unusedSimpArgs false
namespace Go.Fw

theorem mayOk_congr {c : Cf} {k k' : Co} (h : k'.Routes = k.Routes) (x : Ls) (s : Int) : mayOk c k' x s = mayOk c k x s := by unfold mayOk; rw [h]

/-- A line and its section's owner, a cycle later. -/
def lineX (occ : List Lk) (now : Int) (was : Bool) (may : Bool) (x : Ls) (o : Int) (s : Nat) : Ls × Int :=
  let look := (occ[s]?).getD ⟨0, 0, false⟩
  let y : Ls × Int :=
    if o = -2 then
      if x.PDone < x.Grant then ({ x with Since := 0 }, o)
      else if x.Since = 0 then ({ x with Since := w64 (now + 1) }, o)
      else if look.Valid = true ∧ look.Value = 0 ∧ x.Since ≤ look.Stamp then ({ x with Since := 0 }, 0)
      else (x, o)
    else if o = 0 ∧ may = true then ({ x with Grant := x.PAsk, Since := 0 }, -2)
    else (x, o)
  if was = true then y else ({ y.1 with Told := x.Grant }, y.2)

def lineY (occ : List Lk) (now : Int) (may : Bool) (x : Ls) (o : Int) (s : Nat) : Ls × Int :=
  let look := (occ[s]?).getD ⟨0, 0, false⟩
  if o = -2 then
    if x.PDone < x.Grant then ({ x with Since := 0 }, o)
    else if x.Since = 0 then ({ x with Since := w64 (now + 1) }, o)
    else if look.Valid = true ∧ look.Value = 0 ∧ x.Since ≤ look.Stamp then ({ x with Since := 0 }, 0)
    else (x, o)
  else if o = 0 ∧ may = true then ({ x with Grant := x.PAsk, Since := 0 }, -2)
  else (x, o)

theorem lineX_eq (occ : List Lk) (now : Int) (was may : Bool) (x : Ls) (o : Int) (s : Nat) : lineX occ now was may x o s = if was = true then lineY occ now may x o s else ({ (lineY occ now may x o s).1 with Told := x.Grant }, (lineY occ now may x o s).2) := rfl

section
variable {occ : List Lk} {now : Int} {was may : Bool} {x : Ls} {o : Int} {s : Nat} {lk : Lk}

theorem lineX_own : (lineX occ now was may x o s).2 = (lineY occ now may x o s).2 := by rw [lineX_eq]; split <;> rfl
theorem lineX_gr : (lineX occ now was may x o s).1.Grant = (lineY occ now may x o s).1.Grant := by rw [lineX_eq]; split <;> rfl

theorem lineY_told : (lineY occ now may x o s).1.Told = x.Told := by
  unfold lineY
  simp only
  split
  · split; rfl; split; rfl; split <;> rfl
  · split <;> rfl

theorem lineX_told (h : (lineX occ now was may x o s).1.Told ≠ x.Told) : was = false ∧ (lineX occ now was may x o s).1.Told = x.Grant := by
  rw [lineX_eq] at h ⊢
  cases was
  · exact ⟨rfl, rfl⟩
  · exact absurd lineY_told h

theorem lineX_free (hl : occ[s]? = some lk) (ho : o = -2) (h : (lineX occ now was may x o s).2 ≠ -2) : (lineX occ now was may x o s).2 = 0 ∧ ¬ x.PDone < x.Grant ∧ x.Since ≠ 0 ∧ lk.Valid = true ∧ lk.Value = 0 ∧ x.Since ≤ lk.Stamp := by
  rw [lineX_own] at h ⊢
  unfold lineY at h ⊢
  rw [hl] at h ⊢
  simp only [Option.getD_some, if_pos ho] at h ⊢
  split at h
  · exact absurd ho h
  rename_i p1
  split at h
  · exact absurd ho h
  rename_i p2
  split at h
  · rename_i p3
    rw [if_neg p1, if_neg p2, if_pos p3]
    exact ⟨rfl, p1, p2, p3⟩
  · exact absurd ho h

theorem lineX_grant (ho : o ≠ -2) (h : (lineX occ now was may x o s).2 = -2) : o = 0 ∧ may = true ∧ (lineX occ now was may x o s).1.Grant = x.PAsk := by
  rw [lineX_own] at h
  rw [lineX_gr]
  unfold lineY at h ⊢
  simp only [if_neg ho] at h ⊢
  split at h
  · rename_i p
    rw [if_pos p]
    exact ⟨p.1, p.2, rfl⟩
  · exact absurd h ho
end

structure SameBut (k k' : Co) (l s : Nat) : Prop where
  routes : k'.Routes = k.Routes
  lines : ∀ m, m ≠ l → k'.Lines[m]? = k.Lines[m]?
  own : ∀ t, t ≠ s → k'.Own[t]? = k.Own[t]?

theorem get_set {α : Type} {l : List α} {i : Nat} {a b : α} (h : l[i]? = some a) : (l.set i b)[i]? = some b := List.getElem?_set_self (List.getElem?_eq_some_iff.1 h).1

theorem lineStep_val (c : Cf) (occ : List Lk) (now : Int) (was : Bool) (k : Co) (l s : Nat) {x : Ls} {o : Int} (hx : k.Lines[l]? = some x) (ho : k.Own[s]? = some o) :
    (lineStep c occ now was k l s).Lines[l]? = some (lineX occ now was (mayOk c k x s) x o s).1 ∧ (lineStep c occ now was k l s).Own[s]? = some (lineX occ now was (mayOk c k x s) x o s).2 ∧ SameBut k (lineStep c occ now was k l s) l s := by
  have key : ∀ (k' : Co) (y : Ls × Int), k'.Lines[l]? = some y.1 → k'.Own[s]? = some y.2 → SameBut k k' l s →
      (if was = true then k' else { k' with Lines := k'.Lines.set l { (k'.Lines[l]?).getD zLs with Told := x.Grant } }).Lines[l]? = some (if was = true then y else ({ y.1 with Told := x.Grant }, y.2)).1 ∧
      (if was = true then k' else { k' with Lines := k'.Lines.set l { (k'.Lines[l]?).getD zLs with Told := x.Grant } }).Own[s]? = some (if was = true then y else ({ y.1 with Told := x.Grant }, y.2)).2 ∧
      SameBut k (if was = true then k' else { k' with Lines := k'.Lines.set l { (k'.Lines[l]?).getD zLs with Told := x.Grant } }) l s := by
    intro k' y h1 h2 h3
    split
    · exact ⟨h1, h2, h3⟩
    · refine ⟨?_, h2, h3.routes, fun m hm => ?_, h3.own⟩
      · rw [h1]; exact get_set h1
      · rw [← h3.lines m hm]; exact List.getElem?_set_ne (Ne.symm hm)
  have hlines : ∀ y : Ls, SameBut k { k with Lines := k.Lines.set l y } l s := fun y => ⟨rfl, fun m hm => List.getElem?_set_ne (Ne.symm hm), fun t ht => rfl⟩
  have hboth : ∀ (y : Ls) (w : Int), SameBut k { k with Own := k.Own.set s w, Dirty := true, Lines := k.Lines.set l y } l s := fun y w => ⟨rfl, fun m hm => List.getElem?_set_ne (Ne.symm hm), fun t ht => List.getElem?_set_ne (Ne.symm ht)⟩
  have hsame : SameBut k k l s := ⟨rfl, fun _ _ => rfl, fun _ _ => rfl⟩
  unfold lineStep lineX
  rw [hx, ho]
  simp only [Option.getD_some]
  refine key _ _ ?_ ?_ ?_
  · split
    · unfold backStep; rw [hx]; simp only [Option.getD_some]
      split
      · exact get_set hx
      split
      · exact get_set hx
      split
      · exact get_set hx
      · exact hx
    · by_cases hm : o = 0 ∧ mayOk c k x s = true
      · rw [if_pos hm, if_pos hm]; exact get_set hx
      · rw [if_neg hm, if_neg hm]; exact hx
  · split
    · unfold backStep; rw [hx]; simp only [Option.getD_some]
      split
      · exact ho
      split
      · exact ho
      split
      · exact get_set ho
      · exact ho
    · by_cases hm : o = 0 ∧ mayOk c k x s = true
      · rw [if_pos hm, if_pos hm]; exact get_set ho
      · rw [if_neg hm, if_neg hm]; exact ho
  · split
    · unfold backStep; rw [hx]; simp only [Option.getD_some]
      split
      · exact hlines _
      split
      · exact hlines _
      split
      · exact hboth _ _
      · exact hsame
    · by_cases hm : o = 0 ∧ mayOk c k x s = true
      · rw [if_pos hm]; exact hboth _ _
      · rw [if_neg hm]; exact hsame

theorem fidx_at {α : Type} (p : α → Bool) : ∀ (l : List α) (j : Nat), fidx p l j ≠ -1 → ∃ (i : Nat) (x : α), fidx p l j = ((j + i : Nat) : Int) ∧ l[i]? = some x ∧ p x = true
  | [], j, h => absurd rfl h
  | x :: r, j, h => by
    rw [fidx] at h ⊢
    by_cases hp : p x = true
    · rw [if_pos hp]; exact ⟨0, x, rfl, rfl, hp⟩
    · rw [if_neg hp] at h ⊢
      obtain ⟨i, y, h0, h1, h2⟩ := fidx_at p r (j + 1) h
      exact ⟨i + 1, y, by rw [h0]; omega, by simpa using h1, h2⟩

/-- A line's section bears its number. -/
theorem lineSec_at {c : Cf} {line : Int} {s : Nat} (h : c.lineSec line = s) : ∃ x, c.Secs[s]? = some x ∧ x.Line = line := by
  unfold Cf.lineSec at h
  split at h
  · omega
  · obtain ⟨i, x, h0, h1, h2⟩ := fidx_at (fun s : Sec => s.Line == line) c.Secs 0 (by omega)
    have : s = i := by omega
    subst this
    exact ⟨x, h1, by simpa using h2⟩

theorem lineSec_inj {c : Cf} {l m : Int} {s : Nat} (h1 : c.lineSec l = s) (h2 : c.lineSec m = s) : l = m := by
  obtain ⟨x, hx, e1⟩ := lineSec_at h1
  obtain ⟨y, hy, e2⟩ := lineSec_at h2
  rw [hx] at hy; cases hy; rw [← e1, e2]

/-- What no line's section is stays; so do other lines. -/
theorem stepRun_keeps (c : Cf) (occ : List Lk) (now : Int) (was : Bool) : ∀ (ls : List Nat) (k : Co), (∀ l ∈ ls, l < k.Lines.length) → k.Own.length = c.Secs.length →
    (stepRun c occ now was ls k).Routes = k.Routes ∧ (∀ m, m ∉ ls → (stepRun c occ now was ls k).Lines[m]? = k.Lines[m]?) ∧ ∀ t : Nat, (∀ l ∈ ls, c.lineSec l ≠ t) → (stepRun c occ now was ls k).Own[t]? = k.Own[t]?
  | [], k, _, _ => ⟨rfl, fun _ _ => rfl, fun _ _ => rfl⟩
  | l :: r, k, hl, ho => by
    rw [stepRun]
    by_cases h0 : 0 ≤ c.lineSec l
    · rw [if_pos h0]
      have hb := lineSec_bound c l
      obtain ⟨x, hx⟩ := get_of_lt (l := k.Lines) (j := l) (hl l (by simp))
      obtain ⟨o, hoo⟩ := get_of_lt (l := k.Own) (j := (c.lineSec l).toNat) (by omega)
      obtain ⟨_, _, hs⟩ := lineStep_val c occ now was k l (c.lineSec l).toNat hx hoo
      have hlen := lineStep_len c occ now was k l (c.lineSec l).toNat
      obtain ⟨i1, i2, i3⟩ := stepRun_keeps c occ now was r (lineStep c occ now was k l (c.lineSec l).toNat) (fun m hm => by rw [hlen.2]; exact hl m (by simp [hm])) (by rw [hlen.1, ho])
      refine ⟨i1.trans hs.routes, fun m hm => ?_, fun t ht => ?_⟩
      · rw [i2 m (fun h => hm (by simp [h]))]; exact hs.lines m (fun e => hm (by simp [e]))
      · rw [i3 t (fun l' h => ht l' (by simp [h]))]; exact hs.own t (fun e => ht l (by simp) (by omega))
    · rw [if_neg h0]
      obtain ⟨i1, i2, i3⟩ := stepRun_keeps c occ now was r k (fun m hm => hl m (by simp [hm])) ho
      exact ⟨i1, fun m hm => i2 m (fun h => hm (by simp [h])), fun t ht => i3 t (fun l' h => ht l' (by simp [h]))⟩

/-- A line's step within a run. -/
theorem stepRun_val (c : Cf) (occ : List Lk) (now : Int) (was : Bool) : ∀ (ls : List Nat) (k : Co), ls.Nodup → (∀ l ∈ ls, l < k.Lines.length) → k.Own.length = c.Secs.length → ∀ (l s : Nat) (x : Ls) (o : Int), l ∈ ls → c.lineSec l = s → k.Lines[l]? = some x → k.Own[s]? = some o →
    (stepRun c occ now was ls k).Lines[l]? = some (lineX occ now was (mayOk c k x s) x o s).1 ∧ (stepRun c occ now was ls k).Own[s]? = some (lineX occ now was (mayOk c k x s) x o s).2
  | [], _, _, _, _, l, s, x, o, hm, _, _, _ => by simp at hm
  | l0 :: r, k, hnd, hl, hlen, l, s, x, o, hm, hs, hx, ho => by
    rw [stepRun]
    have hnd' := List.nodup_cons.1 hnd
    by_cases e : l = l0
    · subst e
      rw [if_pos (by omega)]
      have e2 : (c.lineSec l).toNat = s := by omega
      rw [e2]
      obtain ⟨h1, h2, h3⟩ := lineStep_val c occ now was k l s hx ho
      have hl2 := lineStep_len c occ now was k l s
      obtain ⟨i1, i2, i3⟩ := stepRun_keeps c occ now was r (lineStep c occ now was k l s) (fun m hm => by rw [hl2.2]; exact hl m (by simp [hm])) (by rw [hl2.1, hlen])
      refine ⟨by rw [i2 l hnd'.1]; exact h1, ?_⟩
      rw [i3 s (fun l' hl' he => ?_)]; exact h2
      have := lineSec_inj hs he
      exact hnd'.1 (by have : l = l' := by omega
                       rw [this]; exact hl')
    · have hr : l ∈ r := by simpa [e] using hm
      by_cases h0 : 0 ≤ c.lineSec l0
      · rw [if_pos h0]
        have hb := lineSec_bound c l0
        obtain ⟨x', hx'⟩ := get_of_lt (l := k.Lines) (j := l0) (hl l0 (by simp))
        obtain ⟨o', ho'⟩ := get_of_lt (l := k.Own) (j := (c.lineSec l0).toNat) (by omega)
        obtain ⟨_, _, h3⟩ := lineStep_val c occ now was k l0 (c.lineSec l0).toNat hx' ho'
        have hl2 := lineStep_len c occ now was k l0 (c.lineSec l0).toNat
        have hne : s ≠ (c.lineSec l0).toNat := fun e2 => e (by
          have h4 : c.lineSec l0 = s := by omega
          have := lineSec_inj hs h4
          omega)
        have := stepRun_val c occ now was r (lineStep c occ now was k l0 (c.lineSec l0).toNat) hnd'.2 (fun m hm => by rw [hl2.2]; exact hl m (by simp [hm])) (by rw [hl2.1, hlen]) l s x o hr hs (by rw [h3.lines l e]; exact hx) (by rw [h3.own s hne]; exact ho)
        rw [mayOk_congr h3.routes] at this
        exact this
      · rw [if_neg h0]
        exact stepRun_val c occ now was r k hnd'.2 (fun m hm => hl m (by simp [hm])) hlen l s x o hr hs hx ho
end Go.Fw
end
section
set_option linter.unusedVariables false
set_option linter.unusedSimpArgs false
namespace Go.Proofs.Ytnochggjgopfeaa
open Go.Fw Go.Proofs Go.RowKit
variable {σ : Store}

def LawTrue (f : FuncId) (xs : List A) : Prop := DCalls Try.prog f xs noS fun r _ => r = .a (.one (.bool true))

theorem step_ok_cases {c : Cf} {k : Co} {v : Vw} {now : Int} (h : (k.stepC c v now).2 = 0) : k.fits c = true ∧ v.fits c = true ∧ 0 ≤ now ∧ now ≤ 4294967295 ∧ (k.stepC c v now).1 = stepRun c v.Occ now k.Dirty [1, 2, 3] k := by
  unfold Co.stepC at h ⊢
  split at h
  · cases h
  rename_i h1
  split at h
  · cases h
  rename_i h2
  rw [if_neg h1, if_neg h2]
  refine ⟨?_, ?_, by omega, by omega, rfl⟩
  · cases hf : k.fits c
    · exact absurd (.inl hf) h1
    · rfl
  · cases hf : v.fits c
    · exact absurd (.inr hf) h1
    · rfl

theorem fits_lens {c : Cf} {k : Co} (h : k.fits c = true) : k.Own.length = c.Secs.length ∧ k.Points.length = c.Secs.length ∧ k.Resets.length = c.Secs.length ∧ k.Routes.length = c.Rts.length ∧ k.Xs.length = c.Xs.length ∧ k.Lines.length = 4 := by
  simp only [Co.fits, Bool.and_eq_true] at h
  exact of_decide_eq_true h.2.1

theorem vfits_lens {c : Cf} {v : Vw} (h : v.fits c = true) : v.Occ.length = c.Secs.length ∧ v.Pos.length = c.Secs.length ∧ v.Shut.length = c.Xs.length ∧ v.Lamp.length = c.Sigs.length := of_decide_eq_true h

theorem law15_BlockTells_ok {xs : List A} (h : TyAs Try.prog [t_Config, t_Core, t_law15_Cycle] xs) : LawTrue n_law15_BlockTells xs := by
  obtain ⟨a0, xs, rfl, h0, hr0⟩ := tys_cons h
  obtain ⟨a1, xs, rfl, h1, hr1⟩ := tys_cons hr0
  obtain ⟨a2, xs, rfl, h2, hr2⟩ := tys_cons hr1
  obtain rfl := tys_nil hr2
  obtain ⟨cs, _, rfl, p0⟩ := tya_agg h0 (by kernel_rfl)
  obtain ⟨c0, c1, c2, c3, c4, c, rfl, hc, hci⟩ := ty_Config p0
  obtain ⟨cs, _, rfl, p1⟩ := tya_agg h1 (by kernel_rfl)
  obtain ⟨k0, k1, k2, k3, k4, k5, k, rfl, hk, hf, hki⟩ := ty_Core p1
  obtain ⟨cs, _, rfl, p2⟩ := tya_agg h2 (by kernel_rfl)
  obtain ⟨_, _, rfl, ⟨x0, rfl, hx0⟩, _, _, rfl, ⟨x1, rfl, hx1⟩, _, _, rfl, ⟨x2, rfl, hx2⟩, _, _, rfl, ⟨x3, rfl, hx3⟩, v0, _, rfl, q0, v1, _, rfl, q1, v2, _, rfl, q2, v3, _, rfl, q3, _, _, rfl, ⟨now, rfl, hnow⟩, rfl⟩ :=
    ty_sh _ 5 _ _ [.int .i64, .int .i64, .int .i64, .int .i64, .sl t_Look, .sl t_Look, .sl t_Look, .sl t_Look, .int .i64] p2 (by kernel_rfl)
  clear h h0 h1 h2 hr0 hr1 hr2 p0 p1 p2
  obtain ⟨v, hv, hvi⟩ := sh_View q0 q1 q2 q3
  refine W_law15_BlockTells _ _ _ _ _ _ _ _ _ k0 k1 k2 k3 k4 k5 k.Dirty x0 x1 x2 x3 v0 v1 v2 v3 now noS _ (law15_lives_ok.use ⟨true, rfl, bcnot (fun e => by cases e) (fun _ => (post_frz (block_Step_ok hc (hk.at_ noS) hf hv now)).mono ?_)⟩)
  rintro r s ⟨rfl, n0, n1, n2, n3, n4, n5, rfl, hn⟩
  refine ⟨_, _, _, _, _, _, _, _, rfl, bcn (fun _ => rfl) (fun hok => ?_)⟩
  obtain ⟨f1, f2, f3, f4, f5⟩ := step_ok_cases hok
  generalize hns : (k.stepC c v now).1 = kn at *
  obtain ⟨lo, lp, lr, lt, lx, ll⟩ := fits_lens f1
  have lv := vfits_lens f2
  refine ⟨fun n s => ∃ j : Nat, n = j ∧ 1 ≤ j ∧ j ≤ 4, fun n _ => 4 - n.toNat, ⟨1, rfl, by omega, by omega⟩, ?_⟩
  rintro _ s ⟨j, rfl, hj1, hj2⟩
  refine bcd (fun hlt => ?_) (fun _ => rfl)
  intro R hR
  have hw : w64 ((j : Int) + 1) = ((j + 1 : Nat) : Int) := w64_succ (by omega)
  have goR : ∀ s', R s' := fun s' => hR s' ⟨rfl, ⟨j + 1, hw, by omega, by omega⟩, by rw [hw]; show 4 - ((j + 1 : Nat) : Int).toNat < 4 - ((j : Nat) : Int).toNat; omega⟩
  refine (ref15_Section_ok (hc s) j).use ⟨_, rfl, bcd (fun _ => ⟨rfl, goR _⟩) (fun hs => ?_)⟩
  have hsb := lineSec_bound c j
  obtain ⟨t, ht⟩ : ∃ t : Nat, c.lineSec j = t := ⟨(c.lineSec j).toNat, by omega⟩
  rw [ht] at hsb ⊢
  obtain ⟨x, hx⟩ := get_of_lt (l := k.Lines) (j := j) (by omega)
  obtain ⟨o, ho⟩ := get_of_lt (l := k.Own) (j := t) (by omega)
  obtain ⟨lk, hlk⟩ := get_of_lt (l := v.Occ) (j := t) (by omega)
  obtain ⟨g1, g2⟩ := stepRun_val c v.Occ now k.Dirty [1, 2, 3] k (by decide) (fun l hl => by simp at hl; omega) lo j t x o (by simp; omega) ht hx ho
  rw [← f5] at g1 g2
  have x1 := @lineX_told v.Occ now k.Dirty (mayOk c k x t) x o t
  have x2 := @lineX_free v.Occ now k.Dirty (mayOk c k x t) x o t lk hlk
  have x3 := @lineX_grant v.Occ now k.Dirty (mayOk c k x t) x o t
  generalize lineX v.Occ now k.Dirty (mayOk c k x t) x o t = X at g1 g2 x1 x2 x3
  refine (hk.at_ s).lines.load (map_get hx) c_LineState rfl ⟨x.Ask, x.Done, x.Grant, x.Told, x.PAsk, x.PDone, x.PGrant, x.Since, rfl, ?_⟩
  refine (hn.at_ s).lines.load (map_get g1) c_LineState rfl ⟨X.1.Ask, X.1.Done, X.1.Grant, X.1.Told, X.1.PAsk, X.1.PDone, X.1.PGrant, X.1.Since, rfl, ?_⟩
  intro R1 hR1
  have body : ∀ s', R1 s' := by
    intro s'
    refine hR1 s' fun R2 hR2 R3 hR3 => ?_
    have end2 : ∀ s', R2 s' := by
      intro s'
      refine hR2 s' ((hk.at_ s').own.load (map_get ho) c_int rfl ⟨o, rfl, bcn (fun ho2 => ?_) (fun _ => ⟨rfl, goR _⟩)⟩)
      refine (hn.at_ s').own.load (map_get g2) c_int rfl ⟨X.2, rfl, bce (fun hX2 => ?_) (fun _ => ⟨rfl, goR _⟩)⟩
      have hc2 := x3 ho2 hX2
      obtain ⟨q1, q2, q3⟩ := hc2
      unfold mayOk at q2
      simp only [Bool.and_eq_true, decide_eq_true_eq] at q2
      refine (hk.at_ s').own.load (map_get ho) c_int rfl ⟨o, rfl, bcn (fun e => absurd q1 e) (fun _ => bcn (fun e => absurd q2.2.2 e) (fun _ => bcd (fun e => ?_) (fun _ => ⟨rfl, goR _⟩)))⟩
      exfalso
      have := q2.2.1
      rw [q3] at e
      split at this <;> omega
    refine (hk.at_ s').own.load (map_get ho) c_int rfl ⟨o, rfl, bce (fun ho2 => ?_) (fun _ => ⟨rfl, hR3 false s' ⟨rfl, end2 _⟩⟩)⟩
    refine (hn.at_ s').own.load (map_get g2) c_int rfl ⟨X.2, rfl, rfl, hR3 _ s' ?_⟩
    refine bcn (fun hX2 => ?_) (fun _ => ⟨rfl, end2 _⟩)
    have hc3 := x2 ho2 hX2
    obtain ⟨w1, w2, w3, w4, w5, w6⟩ := hc3
    refine (hv.occ s').load (map_get hlk) c_Look rfl ⟨lk.Value, lk.Stamp, lk.Valid, rfl, (hn.at_ s').own.load (map_get g2) c_int rfl ⟨X.2, rfl, bcn (fun e => absurd w1 e) (fun _ => bcd (fun e => absurd e w2) (fun _ => bce (fun e => absurd e w3) (fun _ => bcnot (fun e => by rw [w4] at e; cases e) (fun _ => bcn (fun e => absurd w5 e) (fun _ => bcd (fun e => by exfalso; omega) (fun _ => ⟨rfl, end2 _⟩))))))⟩⟩
  refine bcn (fun htold => bc (fun hd => ?_) (fun hd => bcn (fun hg => ?_) (fun _ => ⟨rfl, body _⟩))) (fun _ => ⟨rfl, body _⟩)
  · have := (x1 htold).1
    rw [hd] at this; cases this
  · exact absurd (x1 htold).2 hg
end Go.Proofs.Ytnochggjgopfeaa
end
section
set_option linter.unusedVariables false
set_option linter.unusedSimpArgs false
namespace Go.Proofs.Ytnochggjgopfeaa
open Go.Fw Go.Proofs Go.RowKit
variable {σ : Store}

theorem ref01_SameInts_ok {a b : D} {la lb : List Int} (ha : At Try.prog σ t_int a (la.map encI)) (hb : At Try.prog σ t_int b (lb.map encI)) : Pure Try.prog n_ref01_SameInts [.one a, .one b] σ (.a (bA (decide (la = lb)))) := by
  have hs := ha.size
  rw [List.length_map] at hs
  refine W_ref01_SameInts a b σ _ (ha.lenK (hb.lenK ?_))
  rw [List.length_map, List.length_map]
  refine bcn (fun hne => ⟨?_, rfl⟩) (fun he => ha.lenK ?_)
  · rw [decide_eq_false (fun e => hne (by rw [e]))]
  have hl : la.length = lb.length := by omega
  rw [List.length_map]
  refine ⟨fun n s => s = σ ∧ EqR la lb n, fun n _ => la.length - n.toNat, ⟨rfl, .start _ _⟩, ?_⟩
  rintro n s ⟨rfl, hr⟩
  refine bcd (fun hlt => ?_) (fun hge => ⟨?_, rfl⟩)
  · obtain ⟨j, x, y, rfl, hx, hy, hn, hy2⟩ := hr.step hl rfl hs hlt
    refine ha.load (map_get hx) c_int rfl ⟨x, rfl, hb.load (map_get hy) c_int rfl ⟨y, rfl, bcn (fun e => ⟨?_, rfl⟩) (fun e => andl rfl (hy2 e))⟩⟩
    rw [decide_eq_false (hn e)]
  · rw [decide_eq_true (hr.done hl rfl hge)]

theorem ref13_Same_ok {a0 a1 a2 a3 a4 a5 b0 b1 b2 b3 b4 b5 : D} {k k' : Co} (ha : CoAt σ a0 a1 a2 a3 a4 a5 k) (hb : CoAt σ b0 b1 b2 b3 b4 b5 k') :
    Pure Try.prog n_ref13_Same [coA a0 a1 a2 a3 a4 a5 k.Dirty, coA b0 b1 b2 b3 b4 b5 k'.Dirty] σ (.a (bA (decide (k = k')))) := by
  have no : ∀ p : Prop, ¬ p → (k = k' → p) → (RV.a (bA false) = RV.a (bA (decide (k = k'))) ∧ σ = σ) := fun p h1 h2 => ⟨by rw [decide_eq_false (fun e => h1 (h2 e))], rfl⟩
  have s1 := ha.routes.size
  have s2 := ha.points.size
  have s3 := ha.xs.size
  have s4 := ha.lines.size
  rw [List.length_map] at s1 s2 s3 s4
  refine W_ref13_Same a0 a1 a2 a3 a4 a5 k.Dirty b0 b1 b2 b3 b4 b5 k'.Dirty σ _ ?_
  intro R hR
  refine (ref01_SameInts_ok ha.own hb.own).use ⟨_, rfl, bcnot (fun e => no _ (of_decide_eq_false e) (fun e => by rw [e])) (fun e1 => (ref01_SameInts_ok ha.resets hb.resets).use ⟨_, rfl, bcnot (fun e => no _ (of_decide_eq_false e) (fun e => by rw [e])) (fun e2 => bcnot (fun e => no (k.Dirty = k'.Dirty) (by simpa using e) (fun e => by rw [e])) (fun e3 => ?_))⟩)⟩
  refine ha.routes.lenK (hb.routes.lenK (bcn (fun e => no (k.Routes.length = k'.Routes.length) (by simp only [List.length_map] at e; omega) (fun e => by rw [e])) (fun e4 => ?_)))
  refine ha.points.lenK (hb.points.lenK (bcn (fun e => no (k.Points.length = k'.Points.length) (by simp only [List.length_map] at e; omega) (fun e => by rw [e])) (fun e5 => ?_)))
  refine ha.xs.lenK (hb.xs.lenK (bcn (fun e => no (k.Xs.length = k'.Xs.length) (by simp only [List.length_map] at e; omega) (fun e => by rw [e])) (fun e6 => ?_)))
  refine ha.lines.lenK (hb.lines.lenK (bcn (fun e => no (k.Lines.length = k'.Lines.length) (by simp only [List.length_map] at e; omega) (fun e => by rw [e])) (fun e7 => ?_)))
  have e1 := of_decide_eq_true e1
  have e2 := of_decide_eq_true e2
  have e3 : k.Dirty = k'.Dirty := by simpa using e3
  simp only [List.length_map] at e4 e5 e6 e7
  have e4 : k.Routes.length = k'.Routes.length := by omega
  have e5 : k.Points.length = k'.Points.length := by omega
  have e6 : k.Xs.length = k'.Xs.length := by omega
  have e7 : k.Lines.length = k'.Lines.length := by omega
  refine hR σ (ha.routes.lenK ?_)
  rw [List.length_map]
  refine ⟨fun n s => s = σ ∧ EqR k.Routes k'.Routes n, fun n _ => k.Routes.length - n.toNat, ⟨rfl, .start _ _⟩, ?_⟩
  rintro n s ⟨rfl, hr⟩
  refine bcd (fun hlt => ?_) (fun hge => ?_)
  · obtain ⟨j, x, y, rfl, hx, hy, hn, hy2⟩ := hr.step e4 rfl s1 hlt
    refine ha.routes.load (map_get hx) c_RouteState rfl ⟨_, _, _, _, rfl, hb.routes.load (map_get hy) c_RouteState rfl ⟨_, _, _, _, rfl, bcnot (fun e => no (x = y) (fun h => by subst h; simp at e) (fun h => Classical.not_not.1 fun g => hn g (by rw [h]))) (fun e => andl rfl (hy2 ?_))⟩⟩
    cases x; cases y; simp at e; simp [e]
  have e8 := hr.done e4 rfl hge
  refine ha.points.lenK ?_
  rw [List.length_map]
  refine ⟨fun n s' => s' = s ∧ EqR k.Points k'.Points n, fun n _ => k.Points.length - n.toNat, ⟨rfl, .start _ _⟩, ?_⟩
  rintro n s ⟨rfl, hr⟩
  refine bcd (fun hlt => ?_) (fun hge => ?_)
  · obtain ⟨j, x, y, rfl, hx, hy, hn, hy2⟩ := hr.step e5 rfl s2 hlt
    refine ha.points.load (map_get hx) c_Mover rfl ⟨_, _, rfl, hb.points.load (map_get hy) c_Mover rfl ⟨_, _, rfl, bcnot (fun e => no (x = y) (fun h => by subst h; simp at e) (fun h => Classical.not_not.1 fun g => hn g (by rw [h]))) (fun e => andl rfl (hy2 ?_))⟩⟩
    cases x; cases y; simp at e; simp [e]
  have e9 := hr.done e5 rfl hge
  refine ha.xs.lenK ?_
  rw [List.length_map]
  refine ⟨fun n s' => s' = s ∧ EqR k.Xs k'.Xs n, fun n _ => k.Xs.length - n.toNat, ⟨rfl, .start _ _⟩, ?_⟩
  rintro n s ⟨rfl, hr⟩
  refine bcd (fun hlt => ?_) (fun hge => ?_)
  · obtain ⟨j, x, y, rfl, hx, hy, hn, hy2⟩ := hr.step e6 rfl s3 hlt
    refine ha.xs.load (map_get hx) c_Mover rfl ⟨_, _, rfl, hb.xs.load (map_get hy) c_Mover rfl ⟨_, _, rfl, bcnot (fun e => no (x = y) (fun h => by subst h; simp at e) (fun h => Classical.not_not.1 fun g => hn g (by rw [h]))) (fun e => andl rfl (hy2 ?_))⟩⟩
    cases x; cases y; simp at e; simp [e]
  have e10 := hr.done e6 rfl hge
  refine ha.lines.lenK ?_
  rw [List.length_map]
  refine ⟨fun n s' => s' = s ∧ EqR k.Lines k'.Lines n, fun n _ => k.Lines.length - n.toNat, ⟨rfl, .start _ _⟩, ?_⟩
  rintro n s ⟨rfl, hr⟩
  refine bcd (fun hlt => ?_) (fun hge => ⟨?_, rfl⟩)
  · obtain ⟨j, x, y, rfl, hx, hy, hn, hy2⟩ := hr.step e7 rfl s4 hlt
    refine ha.lines.load (map_get hx) c_LineState rfl ⟨_, _, _, _, _, _, _, _, rfl, hb.lines.load (map_get hy) c_LineState rfl ⟨_, _, _, _, _, _, _, _, rfl, bcnot (fun e => no (x = y) (fun h => by subst h; simp at e) (fun h => Classical.not_not.1 fun g => hn g (by rw [h]))) (fun e => andl rfl (hy2 ?_))⟩⟩
    cases x; cases y; simp at e; simp [e]
  have e11 := hr.done e7 rfl hge
  have : k = k' := by
    cases k; cases k'
    simp only at e1 e2 e3 e8 e9 e10 e11
    simp only [e1, e2, e3, e8, e9, e10, e11]
  rw [decide_eq_true this]
end Go.Proofs.Ytnochggjgopfeaa
end
section
set_option linter.unusedVariables false
set_option linter.unusedSimpArgs false
namespace Go.Proofs.Ytnochggjgopfeaa
open Go.Fw Go.Proofs Go.RowKit
variable {σ : Store}

/-- A state of the end: who owns the line's section, the line. -/
def endK (o : Int) (x : Ls) (b : Bool) : Co := ⟨[o, 0], [⟨0, 0, 0, 0⟩], [⟨0, 0⟩, ⟨0, 0⟩], [], [zLs, x, zLs, zLs], [0, 0], b⟩
def seenV (occ stamp : Int) : Vw := ⟨[⟨occ, stamp, true⟩, ⟨occ, stamp, true⟩], [⟨0, 0, false⟩, ⟨0, 0, false⟩], [], [⟨1, stamp, true⟩]⟩

theorem endC_lines : endC.lineSec 1 = 0 ∧ endC.lineSec 2 = -1 ∧ endC.lineSec 3 = -1 := by decide

theorem end_fits {o : Int} {x : Ls} {b : Bool} (ho : -2 ≤ o ∧ o ≤ 1) (hx : x.fits = true) : (endK o x b).fits endC = true := by
  have h1 : Ls.fits zLs = true := by decide
  have h2 : (endK o x b).lens endC = true := by unfold Co.lens endK endC; simp
  have h3 : (endK o x b).parts endC = true := by
    unfold Co.parts
    have e1 : ((endK o x b).Routes.zip endC.Rts).all Rs.fits = true := by
      show (([⟨0, 0, 0, 0⟩] : List Rs).zip endC.Rts).all Rs.fits = true
      decide
    have e2 : ((endK o x b).Points ++ (endK o x b).Xs).all Mv.fits = true := by
      show (([⟨0, 0⟩, ⟨0, 0⟩] : List Mv) ++ []).all Mv.fits = true
      decide
    have e3 : (endK o x b).Resets.all (tm 1) = true := by
      show ([0, 0] : List Int).all (tm 1) = true
      decide
    have e4 : (endK o x b).Lines.all Ls.fits = true := by simp [endK, h1, hx]
    have e5 : ((endK o x b).Own.all fun o => decide (-2 ≤ o ∧ o ≤ endC.Rts.length)) = true := by
      simp only [endK, List.all_cons, List.all_nil, Bool.and_true, Bool.and_eq_true, decide_eq_true_eq]
      exact ⟨⟨ho.1, ho.2⟩, by decide⟩
    rw [e1, e2, e3, e4, e5]; rfl
  rw [Co.fits, h2, h3, decide_eq_true endC_check]; rfl

theorem end_step {o : Int} {x : Ls} {b : Bool} (ho : -2 ≤ o ∧ o ≤ 1) (hx : x.fits = true) (occ stamp : Int) {now : Int} (hn : 0 ≤ now ∧ now ≤ 4294967295) :
    (endK o x b).stepC endC (seenV occ stamp) now = (lineStep endC (seenV occ stamp).Occ now b (endK o x b) 1 0, 0) := by
  have hv : (seenV occ stamp).fits endC = true := decide_eq_true ⟨rfl, rfl, rfl, rfl⟩
  obtain ⟨e1, e2, e3⟩ := endC_lines
  rw [Co.stepC, if_neg (by rw [end_fits ho hx, hv]; simp), if_neg (by omega)]
  simp only [stepRun]
  rw [if_neg (by show ¬ 0 ≤ endC.lineSec (3 : Int); rw [e3]; decide), if_neg (by show ¬ 0 ≤ endC.lineSec (2 : Int); rw [e2]; decide), if_pos (by show 0 ≤ endC.lineSec (1 : Int); rw [e1]; decide)]
  have : endC.lineSec ((1 : Nat) : Int) = 0 := e1
  rw [this]; rfl

theorem end_may {o : Int} {x y : Ls} {b : Bool} : mayOk endC (endK o x b) y 0 = (decide (y.PAsk > (if y.PDone > y.Grant then y.PDone else y.Grant)) && decide (y.Ask = y.Done)) := by
  unfold mayOk endK
  simp [apprL]

/-- The end's line, a cycle later. -/
def endStep (occ stamp now : Int) (o : Int) (x : Ls) (b : Bool) : Co :=
  let m := decide (x.PAsk > (if x.PDone > x.Grant then x.PDone else x.Grant)) && decide (x.Ask = x.Done)
  let k' : Co := if o = -2 then
      if x.PDone < x.Grant then endK o { x with Since := 0 } b
      else if x.Since = 0 then endK o { x with Since := w64 (now + 1) } b
      else if occ = 0 ∧ x.Since ≤ stamp then endK 0 { x with Since := 0 } true
      else endK o x b
    else if o = 0 ∧ m = true then endK (-2) { x with Grant := x.PAsk, Since := 0 } true
    else endK o x b
  if b = true then k' else { k' with Lines := k'.Lines.set 1 { (k'.Lines[1]?).getD zLs with Told := x.Grant } }

theorem end_line (occ stamp now : Int) (o : Int) (x : Ls) (b : Bool) : lineStep endC (seenV occ stamp).Occ now b (endK o x b) 1 0 = endStep occ stamp now o x b := by
  unfold lineStep endStep backStep
  have e1 : (endK o x b).Lines[1]? = some x := rfl
  have e2 : (endK o x b).Own[0]? = some o := rfl
  have e3 : (seenV occ stamp).Occ[0]? = some ⟨occ, stamp, true⟩ := rfl
  have e4 := @end_may o x x b
  simp only [e1, e2, e3, Option.getD_some, true_and]
  have e5 : mayOk endC (endK o x b) x ((0 : Nat) : Int) = mayOk endC (endK o x b) x 0 := rfl
  rw [e5, e4]
  rfl

theorem endStep_free (occ stamp now : Int) (x : Ls) (h : ¬ x.PAsk > (if x.PDone > x.Grant then x.PDone else x.Grant)) : endStep occ stamp now 0 x false = endK 0 { x with Told := x.Grant } false := by
  unfold endStep
  simp only
  rw [if_neg (by decide), if_neg (by decide), if_neg (fun g => h (by have := g.2; simp only [Bool.and_eq_true, decide_eq_true_eq] at this; exact this.1))]
  rfl

theorem endStep_wait (occ stamp now : Int) (x : Ls) (h : x.PDone < x.Grant) : endStep occ stamp now (-2) x false = endK (-2) { x with Since := 0, Told := x.Grant } false := by
  unfold endStep
  simp only
  rw [if_neg (by decide), if_pos trivial, if_pos h]
  rfl
theorem endStep_done (occ stamp now : Int) (x : Ls) (h : ¬ x.PDone < x.Grant) (h2 : x.Since = 0) : endStep occ stamp now (-2) x false = endK (-2) { x with Since := w64 (now + 1), Told := x.Grant } false := by
  unfold endStep
  simp only
  rw [if_neg (by decide), if_pos trivial, if_neg h, if_pos h2]
  rfl
theorem endStep_occ (occ stamp now : Int) (x : Ls) (h : ¬ x.PDone < x.Grant) (h2 : x.Since ≠ 0) (h3 : ¬ (occ = 0 ∧ x.Since ≤ stamp)) : endStep occ stamp now (-2) x false = endK (-2) { x with Told := x.Grant } false := by
  unfold endStep
  simp only
  rw [if_neg (by decide), if_pos trivial, if_neg h, if_neg h2, if_neg h3]
  rfl
theorem endStep_clear (occ stamp now : Int) (x : Ls) (h : ¬ x.PDone < x.Grant) (h2 : x.Since ≠ 0) (h3 : occ = 0 ∧ x.Since ≤ stamp) : endStep occ stamp now (-2) x false = endK 0 { x with Since := 0, Told := x.Grant } true := by
  unfold endStep
  simp only
  rw [if_neg (by decide), if_pos trivial, if_neg h, if_neg h2, if_pos h3]
  rfl
theorem endStep_grant (occ stamp now : Int) (x : Ls) (h : x.PAsk > (if x.PDone > x.Grant then x.PDone else x.Grant)) (h2 : x.Ask = x.Done) : endStep occ stamp now 0 x false = endK (-2) { x with Grant := x.PAsk, Since := 0, Told := x.Grant } true := by
  unfold endStep
  simp only
  rw [if_neg (by decide), if_neg (by decide), if_pos ⟨trivial, by rw [decide_eq_true h, decide_eq_true h2]; rfl⟩]
  rfl

theorem freshK : freshC = endK 0 zLs false := rfl

theorem end_hear {o : Int} {x : Ls} {b : Bool} (ho : -2 ≤ o ∧ o ≤ 1) (hx : x.fits = true) {a d g : Int} (ha : 0 ≤ a ∧ a ≤ 4294967295) (hd : 0 ≤ d ∧ d ≤ 4294967295) (hg : 0 ≤ g ∧ g ≤ 4294967295) :
    (endK o x b).hearC endC 1 a d g = (endK o { x with PAsk := a, PDone := d, PGrant := g } b, 0) := by
  rw [Co.hearC, if_neg (by rw [end_fits ho hx]; simp), if_neg (by rw [endC_lines.1]; decide), if_neg (by omega)]
  rfl

theorem fits_small (o : Int) (x : Ls) (b : Bool) {d0 d1 d2 d3 d4 d5 : D} (h : CoFz d0 d1 d2 d3 d4 d5 (endK o x b)) : CoFit d0 d1 d2 d3 d4 d5 (endK o x b) :=
  h.fit ⟨by simp [endK], by simp [endK], by simp [endK], by simp [endK], by simp [endK], by simp [endK]⟩

/-- A cycle of an end. -/
theorem end_step_ok {c0 c1 c2 c3 c4 v0 v1 v2 v3 k0 k1 k2 k3 k4 k5 : D} {o : Int} {x : Ls} {b : Bool} {occ stamp now : Int} {k' : Co} (hc : ∀ s, CfAt s c0 c1 c2 c3 c4 endC) (hk : CoFz k0 k1 k2 k3 k4 k5 (endK o x b)) (hv : VwAt v0 v1 v2 v3 (seenV occ stamp))
    (ho : -2 ≤ o ∧ o ≤ 1) (hx : x.fits = true) (hn : 0 ≤ now ∧ now ≤ 4294967295) (he : endStep occ stamp now o x b = k') :
    DCalls Try.prog n_block_Step [cfA c0 c1 c2 c3 c4 endC, coA k0 k1 k2 k3 k4 k5 b, .agg [v0, v1, v2, v3], iA now] σ (CoPostZ σ (k', 0)) := by
  have := post_frz (block_Step_ok (σ := σ) hc (hk.at_ σ) (fits_small o x b hk) hv now)
  rw [end_step ho hx occ stamp hn, end_line, he] at this
  exact this

theorem end_hear_ok {c0 c1 c2 c3 c4 k0 k1 k2 k3 k4 k5 : D} {o : Int} {x : Ls} {b : Bool} {a d g : Int} (hc : ∀ s, CfAt s c0 c1 c2 c3 c4 endC) (hk : CoFz k0 k1 k2 k3 k4 k5 (endK o x b))
    (ho : -2 ≤ o ∧ o ≤ 1) (hx : x.fits = true) (ha : 0 ≤ a ∧ a ≤ 4294967295) (hd : 0 ≤ d ∧ d ≤ 4294967295) (hg : 0 ≤ g ∧ g ≤ 4294967295) :
    DCalls Try.prog n_block_Hear [cfA c0 c1 c2 c3 c4 endC, coA k0 k1 k2 k3 k4 k5 b, iA 1, .agg [iD a, iD d, iD g]] σ (CoPostZ σ (endK o { x with PAsk := a, PDone := d, PGrant := g } b, 0)) := by
  have := post_frz (block_Hear_ok (σ := σ) hc (hk.at_ σ) (fits_small o x b hk) 1 a d g)
  rw [end_hear ho hx ha hd hg] at this
  exact this

theorem umod {x n : Int} (hx : I64 x) (h1 : 1 ≤ n) (h2 : n ≤ 2 ^ 62) : ∃ d, w64 (Int.tmod (IntKind.wrap .u64 x) n) = d ∧ 0 ≤ d ∧ d < n := by
  have hu : 0 ≤ IntKind.wrap .u64 x := by
    simp only [IntKind.wrap, IntKind.signed, IntKind.bits]; simp; omega
  have e : Int.tmod (IntKind.wrap .u64 x) n = IntKind.wrap .u64 x % n := Int.tmod_eq_emod_of_nonneg hu
  have h3 := Int.emod_nonneg (IntKind.wrap .u64 x) (by omega : n ≠ 0)
  have h4 := Int.emod_lt_of_pos (IntKind.wrap .u64 x) (by omega : 0 < n)
  rw [e]
  exact ⟨_, rfl, by rw [w64_id (by omega) (by omega)]; omega, by rw [w64_id (by omega) (by omega)]; omega⟩

theorem ls_fits {x : Ls} (h1 : 0 ≤ x.Ask ∧ x.Ask ≤ 4294967295) (h2 : 0 ≤ x.Done ∧ x.Done ≤ 4294967295) (h3 : 0 ≤ x.Grant ∧ x.Grant ≤ 4294967295) (h4 : 0 ≤ x.Told ∧ x.Told ≤ 4294967295)
    (h5 : 0 ≤ x.PAsk ∧ x.PAsk ≤ 4294967295) (h6 : 0 ≤ x.PDone ∧ x.PDone ≤ 4294967295) (h7 : 0 ≤ x.PGrant ∧ x.PGrant ≤ 4294967295) (h8 : 0 ≤ x.Since ∧ x.Since ≤ 4294967296) : x.fits = true := by
  simp only [Ls.fits, tm, Bool.and_eq_true, decide_eq_true_eq]
  omega

theorem law15_BlockQuiet_ok {xs : List A} (h : TyAs Try.prog [t_int, t_sl_bool] xs) : LawTrue n_law15_BlockQuiet xs := by
  obtain ⟨a0, xs, rfl, h0, hr0⟩ := tys_cons h
  obtain ⟨a1, xs, rfl, h1, hr1⟩ := tys_cons hr0
  obtain rfl := tys_nil hr1
  obtain ⟨done, rfl, hdone⟩ := tya_int h0 (by kernel_rfl) (by kernel_rfl)
  obtain ⟨occ, rfl, q⟩ := tya_cell h1 (by kernel_rfl) (by kernel_rfl : cellsSh Try.prog 5 t_sl_bool = some [.sl t_bool])
  clear h h0 h1 hr0 hr1
  obtain ⟨l, hl, _⟩ := sh_rows (bytes := 1) (fun b : Bool => [.bool b]) (fun _ => True) (fun row n h => by
    obtain ⟨_, _, rfl, ⟨b, rfl⟩, rfl⟩ := ty_sh n 5 _ _ [.bool] h (by kernel_rfl)
    exact ⟨b, rfl, trivial⟩) (by kernel_rfl) (by omega) q
  have hlen := (hl noS).size
  rw [List.length_map] at hlen
  refine W_law15_BlockQuiet done occ noS _ (law15_lives_ok.use ⟨true, rfl, bcnot (fun e => by cases e) (fun _ => law15_end_ok.mono ?_)⟩)
  rintro r s ⟨rfl, c0, c1, c2, c3, c4, rfl, hc⟩
  refine ⟨_, _, _, _, _, _, _, _, _, rfl, law15_fresh_ok.mono ?_⟩
  rintro r s ⟨rfl, k0, k1, k2, k3, k4, k5, rfl, hk⟩
  obtain ⟨d, hd, hd0, hd1⟩ := umod hdone (n := 1000) (by omega) (by omega)
  rw [hd]
  rw [freshK] at hk ⊢
  refine ⟨_, _, _, _, _, _, _, rfl, (end_hear_ok hc hk (by omega) (by decide) (a := d) (d := d) (g := 0) (by omega) (by omega) (by omega)).mono ?_⟩
  rintro r s ⟨rfl, k0, k1, k2, k3, k4, k5, rfl, hk⟩
  generalize hx : ({ zLs with PAsk := d, PDone := d, PGrant := 0 } : Ls) = x at hk ⊢
  have hxf : x.fits = true := by rw [← hx]; refine ls_fits ?_ ?_ ?_ ?_ ?_ ?_ ?_ ?_ <;> simp [zLs] <;> omega
  have ht : ∀ b, (endK 0 x b).tell 1 = (0, 0, 0) := fun b => by rw [← hx]; rfl
  refine ⟨_, _, _, _, _, _, _, _, rfl, bcn (fun e => absurd rfl e) (fun _ => (block_Tell_ok (hk.at_ _) _ 1).use ⟨0, 0, 0, ?_, (hl noS).lenK ?_⟩)⟩
  · rw [ht]
  refine ⟨fun d11 d12 d13 d14 d15 d16 b n s => b = false ∧ CoFz d11 d12 d13 d14 d15 d16 (endK 0 x false) ∧ ∃ j : Nat, n = j ∧ j ≤ l.length ∧ j ≤ 60, fun _ _ _ _ _ _ _ n _ => l.length - n.toNat, ⟨rfl, hk, 0, rfl, by omega, by omega⟩, ?_⟩
  rintro d0 d1 d2 d3 d4 d5 b _ s ⟨rfl, hk, j, rfl, hj, hj60⟩
  rw [List.length_map]
  refine bcd (fun hlt => ?_) (fun hge => rfl)
  obtain ⟨o, ho⟩ := get_of_lt (l := l) (j := j) (by omega)
  have hw : w64 ((j : Int) + 1) = ((j + 1 : Nat) : Int) := w64_succ (by omega)
  refine (hl s).load (map_get ho) c_bool rfl ⟨o, rfl, bcd (fun _ => rfl) (fun h60 => ?_)⟩
  intro R hR
  have hR : ∀ v s, R v s := by
    intro v s
    refine hR v s (law15_end_ok.mono ?_)
    rintro r s ⟨rfl, c0, c1, c2, c3, c4, rfl, hc⟩
    refine ⟨_, _, _, _, _, _, _, _, _, rfl, (law15_seen_ok v _).mono ?_⟩
    rintro r s ⟨rfl, v0, v1, v2, v3, rfl, hv⟩
    have hst : endStep v (w64 ((j : Int) + 1)) (w64 ((j : Int) + 1)) 0 x false = endK 0 x false := by
      rw [endStep_free]
      · rw [← hx]; rfl
      · rw [← hx]; simp only; split <;> omega
    refine ⟨_, _, _, _, rfl, (end_step_ok hc hk hv (by omega) hxf (by omega) hst).mono ?_⟩
    rintro r s ⟨rfl, k0, k1, k2, k3, k4, k5, rfl, hk⟩
    refine ⟨_, _, _, _, _, _, _, _, rfl, bcn (fun e => absurd rfl e) (fun _ => (hk.at_ s).own.load (j := 0) (row := encI 0) rfl c_int rfl ⟨0, rfl, bcn (fun e => absurd rfl e) (fun _ => (block_Tell_ok (hk.at_ s) _ 1).use ⟨0, 0, 0, ?_, bcnot (fun e => by cases e) (fun _ => ?_)⟩)⟩)⟩
    · rw [ht]
    · refine ⟨rfl, ⟨rfl, hk, j + 1, hw, by omega, by omega⟩, ?_⟩
      rw [hw]; show l.length - ((j + 1 : Nat) : Int).toNat < l.length - ((j : Nat) : Int).toNat; omega
  exact bc (fun _ => ⟨rfl, hR _ _⟩) (fun _ => ⟨rfl, hR _ _⟩)

theorem law15_BlockGrants_ok {xs : List A} (h : TyAs Try.prog [t_int, t_int] xs) : LawTrue n_law15_BlockGrants xs := by
  obtain ⟨a0, xs, rfl, h0, hr0⟩ := tys_cons h
  obtain ⟨a1, xs, rfl, h1, hr1⟩ := tys_cons hr0
  obtain rfl := tys_nil hr1
  obtain ⟨ask, rfl, hask⟩ := tya_int h0 (by kernel_rfl) (by kernel_rfl)
  obtain ⟨wait, rfl, hwait⟩ := tya_int h1 (by kernel_rfl) (by kernel_rfl)
  clear h h0 h1 hr0 hr1
  refine W_law15_BlockGrants ask wait noS _ (law15_lives_ok.use ⟨true, rfl, bcnot (fun e => by cases e) (fun _ => law15_end_ok.mono ?_)⟩)
  rintro r s ⟨rfl, c0, c1, c2, c3, c4, rfl, hc⟩
  refine ⟨_, _, _, _, _, _, _, _, _, rfl, law15_fresh_ok.mono ?_⟩
  rintro r s ⟨rfl, k0, k1, k2, k3, k4, k5, rfl, hk⟩
  obtain ⟨d, hd, hd0, hd1⟩ := umod hask (n := 1000) (by omega) (by omega)
  obtain ⟨w, hw, hw0, hw1⟩ := umod hwait (n := 20) (by omega) (by omega)
  rw [hd, hw, w64_id (n := 1 + d) (by omega) (by omega), w64_id (n := w + 1) (by omega) (by omega)]
  generalize ha : 1 + d = a
  have ha1 : 1 ≤ a ∧ a ≤ 1000 := by omega
  clear hd hw ha hd0 hd1 d
  rw [freshK] at hk ⊢
  refine ⟨_, _, _, _, _, _, _, rfl, (end_hear_ok hc hk (by omega) (by decide) (a := a) (d := 0) (g := 0) (by omega) (by omega) (by omega)).mono ?_⟩
  rintro r s ⟨rfl, k0, k1, k2, k3, k4, k5, rfl, hk⟩
  refine ⟨_, _, _, _, _, _, _, _, rfl, law15_end_ok.mono ?_⟩
  rintro r s ⟨rfl, c0, c1, c2, c3, c4, rfl, hc⟩
  refine ⟨_, _, _, _, _, _, _, _, _, rfl, (law15_seen_ok 0 1).mono ?_⟩
  rintro r s ⟨rfl, v0, v1, v2, v3, rfl, hv⟩
  have fit : ∀ g t p q z : Int, 0 ≤ g ∧ g ≤ 1000 → 0 ≤ t ∧ t ≤ 1000 → 0 ≤ p ∧ p ≤ 1000 → 0 ≤ q ∧ q ≤ 1000 → 0 ≤ z ∧ z ≤ 1000 → Ls.fits ⟨0, 0, g, t, p, q, 0, z⟩ = true := fun g t p q z h1 h2 h3 h4 h5 => by
    refine ls_fits ?_ ?_ ?_ ?_ ?_ ?_ ?_ ?_ <;> simp only <;> omega
  have hs1 : endStep 0 1 1 0 ⟨0, 0, 0, 0, a, 0, 0, 0⟩ false = endK (-2) ⟨0, 0, a, 0, a, 0, 0, 0⟩ true := by
    exact endStep_grant _ _ _ _ (by simp only; rw [if_neg (by omega)]; omega) rfl
  refine ⟨_, _, _, _, rfl, (end_step_ok hc hk hv (by omega) (fit 0 0 a 0 0 (by omega) (by omega) (by omega) (by omega) (by omega)) (by omega) hs1).mono ?_⟩
  rintro r s ⟨rfl, k0, k1, k2, k3, k4, k5, rfl, hk⟩
  refine ⟨_, _, _, _, _, _, _, _, rfl, ?_⟩
  intro R hR
  have ht : ∀ o g t p q z b, (endK o ⟨0, 0, g, t, p, q, 0, z⟩ b).tell 1 = (0, 0, t) := fun _ _ _ _ _ _ _ => rfl
  refine bcn (fun e => absurd rfl e) (fun _ => bcn (fun e => absurd rfl e) (fun _ => (hk.at_ _).own.load (j := 0) (row := encI (-2)) rfl c_int rfl ⟨-2, rfl, bcn (fun e => absurd rfl e) (fun _ => bcnot (fun e => by cases e) (fun _ => (block_Tell_ok (hk.at_ _) _ 1).use ⟨0, 0, 0, by rw [ht], bcn (fun e => absurd rfl e) (fun _ => ⟨rfl, hR _ ?_⟩)⟩))⟩))
  -- granted: it waits, so many cycles
  refine ⟨fun d0 d1 d2 d3 d4 d5 b n m s => b = false ∧ (∃ t, 0 ≤ t ∧ t ≤ 1000 ∧ CoFz d0 d1 d2 d3 d4 d5 (endK (-2) ⟨0, 0, a, t, a, 0, 0, 0⟩ false)) ∧ ∃ j : Nat, m = j ∧ n = j + 1 ∧ j ≤ 20, fun _ _ _ _ _ _ _ _ m _ => 20 - m.toNat, ⟨rfl, ⟨0, by omega, by omega, ⟨fun s => ⟨(hk.at_ s).own, (hk.at_ s).routes, (hk.at_ s).points, (hk.at_ s).xs, (hk.at_ s).lines, (hk.at_ s).resets⟩, hk.n0, hk.n1, hk.n2, hk.n3, hk.n4, hk.n5⟩⟩, 0, rfl, rfl, by omega⟩, ?_⟩
  rintro d0 d1 d2 d3 d4 d5 b _ _ s ⟨rfl, ⟨t, ht0, ht1, hk⟩, j, rfl, rfl, hj⟩
  have hw2 : w64 ((j : Int) + 1 + 1) = ((j + 1 : Nat) : Int) + 1 := by rw [w64_id (by omega) (by omega)]; omega
  have hw3 : w64 ((j : Int) + 1) = ((j + 1 : Nat) : Int) := w64_succ (by omega)
  rw [hw2, hw3]
  refine bcd (fun hlt => law15_end_ok.mono ?_) (fun hge => law15_end_ok.mono ?_)
  · rintro r s ⟨rfl, c0, c1, c2, c3, c4, rfl, hc⟩
    refine ⟨_, _, _, _, _, _, _, _, _, rfl, (law15_seen_ok _ _).mono ?_⟩
    rintro r s ⟨rfl, v0, v1, v2, v3, rfl, hv⟩
    have hs2 : endStep (Int.tmod (j : Int) 2) (((j + 1 : Nat) : Int) + 1) (((j + 1 : Nat) : Int) + 1) (-2) ⟨0, 0, a, t, a, 0, 0, 0⟩ false = endK (-2) ⟨0, 0, a, a, a, 0, 0, 0⟩ false := by
      exact endStep_wait _ _ _ _ (by simp only; omega)
    refine ⟨_, _, _, _, rfl, (end_step_ok hc hk hv (by omega) (fit a t a 0 0 (by omega) (by omega) (by omega) (by omega) (by omega)) (by omega) hs2).mono ?_⟩
    rintro r s ⟨rfl, k0, k1, k2, k3, k4, k5, rfl, hk⟩
    refine ⟨_, _, _, _, _, _, _, _, rfl, bcn (fun e => absurd rfl e) (fun _ => (hk.at_ _).own.load (j := 0) (row := encI (-2)) rfl c_int rfl ⟨-2, rfl, bcn (fun e => absurd rfl e) (fun _ => (block_Tell_ok (hk.at_ _) _ 1).use ⟨0, 0, a, by rw [ht], bcn (fun e => absurd rfl e) (fun _ => ⟨⟨rfl, ⟨a, by omega, by omega, hk⟩, j + 1, rfl, rfl, by omega⟩, ?_⟩)⟩)⟩)⟩
    show 20 - ((j + 1 : Nat) : Int).toNat < 20 - ((j : Nat) : Int).toNat
    omega
  rintro r s ⟨rfl, c0, c1, c2, c3, c4, rfl, hc⟩
  refine ⟨_, _, _, _, _, _, _, _, _, rfl, (end_hear_ok hc hk (by omega) (fit a t a 0 0 (by omega) (by omega) (by omega) (by omega) (by omega)) (a := a) (d := a) (g := 0) (by omega) (by omega) (by omega)).mono ?_⟩
  rintro r s ⟨rfl, k0, k1, k2, k3, k4, k5, rfl, hk⟩
  refine ⟨_, _, _, _, _, _, _, _, rfl, ?_⟩
  intro R1 hR1
  refine bcn (fun e => absurd rfl e) (fun _ => (hk.at_ _).own.load (j := 0) (row := encI (-2)) rfl c_int rfl ⟨-2, rfl, bcn (fun e => absurd rfl e) (fun _ => ⟨rfl, hR1 _ ?_⟩)⟩)
  -- done: it is seen clear three cycles later
  refine ⟨fun d0 d1 d2 d3 d4 d5 b n m s => b = false ∧ (∃ t z : Int, 0 ≤ t ∧ t ≤ 1000 ∧ 0 ≤ z ∧ z ≤ n + 1 ∧ (m ≠ 0 → z ≠ 0) ∧ CoFz d0 d1 d2 d3 d4 d5 (endK (-2) ⟨0, 0, a, t, a, a, 0, z⟩ false)) ∧ ∃ i : Nat, m = i ∧ n = j + 1 + i ∧ i ≤ 3, fun _ _ _ _ _ _ _ _ m _ => 3 - m.toNat, ⟨rfl, ⟨t, 0, by omega, by omega, by omega, by omega, fun e => absurd rfl e, hk⟩, 0, rfl, by omega, by omega⟩, ?_⟩
  rintro d0 d1 d2 d3 d4 d5 b _ _ s ⟨rfl, ⟨t, z, ht0, ht1, hz0, hz1, hz2, hk⟩, i, rfl, rfl, hi⟩
  have hw4 : w64 ((j : Int) + 1 + i + 1) = (j : Int) + 1 + ((i + 1 : Nat) : Int) := by rw [w64_id (by omega) (by omega)]; omega
  have hw5 : w64 ((i : Int) + 1) = ((i + 1 : Nat) : Int) := w64_succ (by omega)
  rw [hw4, hw5]
  refine bcd (fun hlt => law15_end_ok.mono ?_) (fun hge => law15_end_ok.mono ?_)
  · rintro r s ⟨rfl, c0, c1, c2, c3, c4, rfl, hc⟩
    refine ⟨_, _, _, _, _, _, _, _, _, rfl, (law15_seen_ok _ _).mono ?_⟩
    rintro r s ⟨rfl, v0, v1, v2, v3, rfl, hv⟩
    have hs2 : ∃ z' : Int, 0 ≤ z' ∧ z' ≤ (j : Int) + 1 + ((i + 1 : Nat) : Int) + 1 ∧ z' ≠ 0 ∧ endStep 1 ((j : Int) + 1 + ((i + 1 : Nat) : Int)) ((j : Int) + 1 + ((i + 1 : Nat) : Int)) (-2) ⟨0, 0, a, t, a, a, 0, z⟩ false = endK (-2) ⟨0, 0, a, a, a, a, 0, z'⟩ false := by
      by_cases hz : z = 0
      · refine ⟨w64 ((j : Int) + 1 + ((i + 1 : Nat) : Int) + 1), ?_, ?_, ?_, ?_⟩
        · rw [w64_id (by omega) (by omega)]; omega
        · rw [w64_id (by omega) (by omega)]; omega
        · rw [w64_id (by omega) (by omega)]; omega
        · exact endStep_done _ _ _ _ (by simp only; omega) hz
      · refine ⟨z, by omega, by omega, hz, ?_⟩
        exact endStep_occ _ _ _ _ (by simp only; omega) hz (fun g => by cases g.1)
    obtain ⟨z', q1, q2, q3, hs2⟩ := hs2
    refine ⟨_, _, _, _, rfl, (end_step_ok hc hk hv (by omega) (fit a t a a z (by omega) (by omega) (by omega) (by omega) (by omega)) (by omega) hs2).mono ?_⟩
    rintro r s ⟨rfl, k0, k1, k2, k3, k4, k5, rfl, hk⟩
    refine ⟨_, _, _, _, _, _, _, _, rfl, bcn (fun e => absurd rfl e) (fun _ => (hk.at_ _).own.load (j := 0) (row := encI (-2)) rfl c_int rfl ⟨-2, rfl, bcn (fun e => absurd rfl e) (fun _ => ⟨⟨rfl, ⟨a, z', by omega, by omega, q1, q2, fun _ => q3, hk⟩, i + 1, rfl, rfl, by omega⟩, ?_⟩)⟩)⟩
    show 3 - ((i + 1 : Nat) : Int).toNat < 3 - ((i : Nat) : Int).toNat
    omega
  · rintro r s ⟨rfl, c0, c1, c2, c3, c4, rfl, hc⟩
    refine ⟨_, _, _, _, _, _, _, _, _, rfl, (law15_seen_ok _ _).mono ?_⟩
    rintro r s ⟨rfl, v0, v1, v2, v3, rfl, hv⟩
    have hz := hz2 (by omega)
    have hs3 : endStep 0 ((j : Int) + 1 + ((i + 1 : Nat) : Int)) ((j : Int) + 1 + ((i + 1 : Nat) : Int)) (-2) ⟨0, 0, a, t, a, a, 0, z⟩ false = endK 0 ⟨0, 0, a, a, a, a, 0, 0⟩ true := by
      exact endStep_clear _ _ _ _ (by simp only; omega) hz ⟨rfl, by simp only; omega⟩
    refine ⟨_, _, _, _, rfl, (end_step_ok hc hk hv (by omega) (fit a t a a z (by omega) (by omega) (by omega) (by omega) (by omega)) (by omega) hs3).mono ?_⟩
    rintro r s ⟨rfl, k0, k1, k2, k3, k4, k5, rfl, hk'⟩
    refine ⟨_, _, _, _, _, _, _, _, rfl, bce (fun _ => (hk'.at_ _).own.load (j := 0) (row := encI 0) rfl c_int rfl ⟨0, rfl, bce (fun _ => bc (fun _ => (ref13_Same_ok (hk.at_ _) (hk'.at_ _)).use ⟨_, rfl, ?_⟩) (fun e => by cases e)) (fun e => absurd rfl e)⟩) (fun e => absurd rfl e)⟩
    rw [decide_eq_false (fun e => by simp [endK] at e)]; rfl
end Go.Proofs.Ytnochggjgopfeaa
end
