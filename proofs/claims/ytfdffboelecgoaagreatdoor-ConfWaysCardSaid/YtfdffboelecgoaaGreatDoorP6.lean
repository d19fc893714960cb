/-
  Proofs that the statement of this claim leans on: part 6.
-/
import Derived.Test.YtfdffboelecgoaaGreatDoorP5
set_option linter.unusedVariables false
set_option linter.unusedSimpArgs false
section
namespace Go.Fw
variable {P : Program}
inductive Cs
 | int (k : IntKind)
 | bool
 | str
 | sl (e : TypeId)
def fieldsSh (g : TypeId → Option (List Cs)) : List Field → Option (List Cs)
 | [] => some []
 | f :: fs => match g f.type, fieldsSh g fs with
   | some a, some b => some (a ++ b)
   | _, _ => none
def cellsSh (P : Program) : Nat → TypeId → Option (List Cs)
 | 0, _ => none
 | m + 1, t => match P.underlying t with
   | some .bool => some [.bool]
   | some (.int k) => some [.int k]
   | some .string => some [.str]
   | some (.slice e) => some [.sl e]
   | some (.struct fs) => fieldsSh (cellsSh P m) fs.toList
   | some (.array k e) => (cellsSh P m e).map fun l => (List.replicate k l).flatten
   | _ => none
def CsOk (P : Program) : Cs → D → Prop
 | .int k, d => ∃ m, d = .int k m ∧ (Lit.int k m).wf = true
 | .bool, d => ∃ b, d = .bool b
 | .str, d => ∃ s, d = .str s ∧ s.size ≤ 140737488351232
 | .sl e, d => d = .nils ∨ ∃ rows, d = .sl (P.cellsOf e) rows ∧ rows.length * P.bytesOf e ≤ 140737488351232 ∧ ∀ row ∈ rows, ∃ n, tyD P n e row
def CsL (P : Program) : List Cs → List D → Prop
 | [], ds => ds = []
 | s :: ss, ds => ∃ d r, ds = d :: r ∧ CsOk P s d ∧ CsL P ss r
theorem CsL.append {a b : List Cs} {x y : List D} (h1 : CsL P a x) (h2 : CsL P b y) : CsL P (a ++ b) (x ++ y) := by
 induction a generalizing x with
 | nil => simp only [CsL] at h1; subst h1; exact h2
 | cons s a ih =>
   obtain ⟨d, r, rfl, q1, q2⟩ := h1
   exact ⟨d, r ++ y, rfl, q1, ih q2⟩
theorem fields_sh {g : TypeId → Option (List Cs)} {ty : TypeId → List D → Prop} (ih : ∀ t ds shs, ty t ds → g t = some shs → CsL P shs ds) : ∀ (fs : List Field) (ds : List D) (shs : List Cs), tyF P ty fs ds → fieldsSh g fs = some shs → CsL P shs ds
 | [], ds, shs, h1, h2 => by
   simp only [tyF] at h1; simp only [fieldsSh] at h2
   cases h2; subst h1; rfl
 | f :: fs, ds, shs, h1, h2 => by
   obtain ⟨a, b, rfl, _, q1, q2⟩ := h1
   rw [fieldsSh] at h2
   split at h2
   · rename_i x y e1 e2
     cases h2
     exact (ih _ _ _ q1 e1).append (fields_sh ih fs b y q2 e2)
   · cases h2
theorem rep_sh {ty : TypeId → List D → Prop} {e : TypeId} {l : List Cs} (ih : ∀ ds, ty e ds → CsL P l ds) : ∀ (k : Nat) (ds : List D), tyR P ty e k ds → CsL P (List.replicate k l).flatten ds
 | 0, ds, h => by simp only [tyR] at h; subst h; rfl
 | k + 1, ds, h => by
   obtain ⟨a, b, rfl, _, q1, q2⟩ := h
   rw [List.replicate_succ, List.flatten_cons]
   exact (ih a q1).append (rep_sh ih k b q2)
theorem ty_sh : ∀ (n m : Nat) (t : TypeId) (ds : List D) (shs : List Cs), tyD P n t ds → cellsSh P m t = some shs → CsL P shs ds
 | 0, _, _, _, _, h, _ => h.elim
 | _ + 1, 0, _, _, _, _, h => by cases h
 | n + 1, m + 1, t, ds, shs, h1, h2 => by
   unfold tyD at h1
   unfold cellsSh at h2
   split at h1
   · rename_i hu
     rw [hu] at h2; cases h2
     obtain ⟨b, rfl⟩ := h1
     exact ⟨_, _, rfl, ⟨b, rfl⟩, rfl⟩
   · rename_i k hu
     rw [hu] at h2; cases h2
     obtain ⟨b, rfl, hw⟩ := h1
     exact ⟨_, _, rfl, ⟨b, rfl, hw⟩, rfl⟩
   · rename_i hu
     rw [hu] at h2; cases h2
     obtain ⟨b, rfl, hw⟩ := h1
     exact ⟨_, _, rfl, ⟨b, rfl, hw⟩, rfl⟩
   · rename_i e hu
     rw [hu] at h2; cases h2
     rcases h1 with rfl | ⟨rows, rfl, q1, q2⟩
     · exact ⟨_, _, rfl, .inl rfl, rfl⟩
     · exact ⟨_, _, rfl, .inr ⟨rows, rfl, q1, fun row hr => ⟨n, q2 row hr⟩⟩, rfl⟩
   · rename_i fs hu
     rw [hu] at h2
     exact fields_sh (fun t ds shs a b => ty_sh n m t ds shs a b) fs.toList ds shs h1 h2
   · rename_i k e hu
     rw [hu] at h2
     simp only [Option.map_eq_some_iff] at h2
     obtain ⟨l, e1, rfl⟩ := h2
     exact rep_sh (fun ds a => ty_sh n m e ds l a e1) k ds h1
   · exact h1.elim
def I64 (n : Int) : Prop := -9223372036854775808 ≤ n ∧ n ≤ 9223372036854775807
theorem wf_i64 {n : Int} (h : (Lit.int .i64 n).wf = true) : I64 n := by
 simp only [Lit.wf, IntKind.min, IntKind.max, IntKind.signed, IntKind.bits, Bool.and_eq_true, decide_eq_true_eq, if_true] at h
 unfold I64
 omega
theorem I64.w {n : Int} (h : I64 n) : w64 n = n := w64_id h.1 h.2
theorem sh_rel {α : Type} {e : TypeId} {d : D} {bytes : Nat} (R : List D → α → Prop) (hf : ∀ row n, tyD P n e row → ∃ a, R row a) (hb : P.bytesOf e = bytes) (hb0 : 0 < bytes) (h : CsOk P (.sl e) d) :
   ∃ (rows : List (List D)) (l : List α), (∀ s, At P s e d rows) ∧ rows.length = l.length ∧ (∀ (i : Nat) row a, rows[i]? = some row → l[i]? = some a → R row a) ∧ d ≠ .zsl ∧ bytes * l.length ≤ 140737488351232 := by
 rcases h with rfl | ⟨rows, rfl, q1, q2⟩
 · exact ⟨[], [], fun s => .nil, rfl, fun i row a h => by simp at h, (by intro e; cases e), by simp⟩
 · have key : ∀ rows : List (List D), (∀ row ∈ rows, ∃ n, tyD P n e row) → ∃ l : List α, rows.length = l.length ∧ ∀ (i : Nat) row a, rows[i]? = some row → l[i]? = some a → R row a := by
     intro rows
     induction rows with
     | nil => intro _; exact ⟨[], rfl, fun i row a h => by simp at h⟩
     | cons r rs ih =>
       intro hr
       obtain ⟨l, e1, e2⟩ := ih fun row h => hr row (by simp [h])
       obtain ⟨n, hn⟩ := hr r (by simp)
       obtain ⟨a, ha⟩ := hf r n hn
       refine ⟨a :: l, by simp [e1], fun i row b h1 h2 => ?_⟩
       cases i with
       | zero => simp at h1 h2; subst h1 h2; exact ha
       | succ i => exact e2 i row b (by simpa using h1) (by simpa using h2)
   obtain ⟨l, hl, hR⟩ := key rows q2
   rw [hb, hl] at q1
   have q3 : bytes * l.length ≤ 140737488351232 := by rw [Nat.mul_comm]; exact q1
   have h1 : 1 * l.length ≤ bytes * l.length := Nat.mul_le_mul_right _ hb0
   refine ⟨rows, l, fun s => ⟨⟨rfl, .inr rfl⟩, by omega, fun es rows e => ?_⟩, hl, hR, (by intro e; cases e), q3⟩
   injection e with e1 e2
   exact e1.symm
theorem sh_rows {α : Type} {e : TypeId} {d : D} {bytes : Nat} (f : α → List D) (Q : α → Prop) (hf : ∀ row n, tyD P n e row → ∃ a, row = f a ∧ Q a) (hb : P.bytesOf e = bytes) (hb0 : 0 < bytes) (h : CsOk P (.sl e) d) :
   ∃ l : List α, (∀ s, At P s e d (l.map f)) ∧ (∀ a ∈ l, Q a) ∧ d ≠ .zsl ∧ bytes * l.length ≤ 140737488351232 := by
 rcases h with rfl | ⟨rows, rfl, q1, q2⟩
 · exact ⟨[], fun s => .nil, fun a ha => by simp at ha, (by intro e; cases e), by simp⟩
 · have key : ∀ rows : List (List D), (∀ row ∈ rows, ∃ n, tyD P n e row) → ∃ l : List α, l.map f = rows ∧ ∀ a ∈ l, Q a := by
     intro rows
     induction rows with
     | nil => intro _; exact ⟨[], rfl, fun a ha => by simp at ha⟩
     | cons r rs ih =>
       intro hr
       obtain ⟨l, e1, e2⟩ := ih fun row h => hr row (by simp [h])
       obtain ⟨n, hn⟩ := hr r (by simp)
       obtain ⟨a, rfl, ha⟩ := hf r n hn
       refine ⟨a :: l, by simp [e1], fun b hb => ?_⟩
       simp only [List.mem_cons] at hb
       rcases hb with rfl | hb
       · exact ha
       · exact e2 b hb
   obtain ⟨l, rfl, hl⟩ := key rows q2
   rw [hb, List.length_map] at q1
   have q3 : bytes * l.length ≤ 140737488351232 := by rw [Nat.mul_comm]; exact q1
   have h1 : 1 * l.length ≤ bytes * l.length := Nat.mul_le_mul_right _ hb0
   refine ⟨l, fun s => ⟨⟨rfl, .inr rfl⟩, by rw [List.length_map]; omega, fun es rows e => ?_⟩, hl, (by intro e; cases e), q3⟩
   injection e with e1 e2
   exact e1.symm
theorem tya_agg {t : TypeId} {x : A} (h : TyA P t x) (hg : isAggT P t = some true) : ∃ cs n, x = .agg cs ∧ tyD P n t cs := by
 cases x with
 | one d => have := h.1; rw [hg] at this; cases this
 | agg cs => exact ⟨cs, 30, rfl, h.2⟩
theorem tys_cons {t : TypeId} {ts : List TypeId} {as0 : List A} (h : TyAs P (t :: ts) as0) : ∃ a r, as0 = a :: r ∧ TyA P t a ∧ TyAs P ts r := h
theorem tys_nil {as0 : List A} (h : TyAs P [] as0) : as0 = [] := h
def csZero : Cs → Value
 | .int k => .int k 0
 | .bool => .bool false
 | .str => .string .empty
 | .sl _ => .slice none 0 0
def zeroArg (P : Program) (t : TypeId) : Value := match isAggT P t, cellsSh P 9 t with
 | some true, some l => .agg (l.map csZero).toArray
 | _, some [c] => csZero c
 | _, _ => .int .i64 0
end Go.Fw
namespace Go.Fw
theorem law_fn1 {H : Type} {s : List (DataW H) → Left H} {ds : List (DataW H)} (h : ds.length = 1) (hs : ∀ a, s [a] = { results := [.lit (.bool true)], args := [a] } := by intros; rfl) : s ds = { results := [.lit (.bool true)], args := ds } := by
 match ds, h with
 | [a], _ => exact hs a
end Go.Fw
namespace Go.Fw
def EqR {α : Type} (la lb : List α) (n : Int) : Prop := ∃ j : Nat, n = j ∧ j ≤ la.length ∧ la.take j = lb.take j
theorem EqR.start {α : Type} (la lb : List α) : EqR la lb 0 := ⟨0, rfl, by omega, by simp⟩
theorem EqR.step {α : Type} {la lb : List α} {n : Int} {m : Nat} (h : EqR la lb n) (hl : la.length = lb.length) (hm : m = la.length) (hs : la.length < 2 ^ 60) (hlt : n < (m : Int)) :
   ∃ (j : Nat) (x y : α), n = j ∧ la[j]? = some x ∧ lb[j]? = some y ∧ (x ≠ y → la ≠ lb) ∧ (x = y → EqR la lb (w64 (n + 1)) ∧ la.length - (w64 (n + 1)).toNat < la.length - n.toNat) := by
 obtain ⟨j, rfl, hj, hF⟩ := h
 have hj' : j < la.length := by omega
 obtain ⟨x, hx⟩ := get_of_lt hj'
 obtain ⟨y, hy⟩ := get_of_lt (l := lb) (j := j) (by omega)
 refine ⟨j, x, y, rfl, hx, hy, fun hne e => ?_, fun e => ?_⟩
 · subst e; rw [hx] at hy; cases hy; exact hne rfl
 · rw [w64_succ (by omega)]
   refine ⟨⟨j + 1, rfl, by omega, ?_⟩, by omega⟩
   rw [List.take_add_one, List.take_add_one, hF, hx, hy, e]
theorem EqR.done {α : Type} {la lb : List α} {n : Int} {m : Nat} (h : EqR la lb n) (hl : la.length = lb.length) (hm : m = la.length) (hge : ¬ n < (m : Int)) : la = lb := by
 obtain ⟨j, rfl, hj, hF⟩ := h
 have : j = la.length := by omega
 rw [List.take_of_length_le (by omega), List.take_of_length_le (by omega)] at hF
 exact hF
end Go.Fw
namespace Go.Fw
end Go.Fw
end
namespace Go.Fw
section
theorem map_set {α β : Type} (f : α → β) (l : List α) (i : Nat) (x : α) : (l.map f).set i (f x) = (l.set i x).map f := by simp
end
section
structure Vw where
 Occ : List Lk
 Pos : List Lk
 Shut : List Lk
 Lamp : List Lk
def Vw.fits (c : Cf) (v : Vw) : Bool := decide (v.Occ.length = c.Secs.length ∧ v.Pos.length = c.Secs.length ∧ v.Shut.length = c.Xs.length ∧ v.Lamp.length = c.Sigs.length)
theorem topo_line {secs : List Sec} {js : List Jt} (h : topoOk secs js = true) {i : Nat} {s : Sec} (hs : secs[i]? = some s) : 0 ≤ s.Line ∧ s.Line ≤ 3 := by
 unfold topoOk at h
 rw [Bool.and_eq_true] at h
 have h2 := h.2
 split at h2
 · cases h2
 · exact ((srun_iff _ _ _ _).1 h2 i s hs).2.2.1
end
section
section
variable {occ : List Lk} {now : Int} {was may : Bool} {x : Ls} {o : Int} {s : Nat} {lk : Lk}
end
structure SameBut (k k' : Co) (l s : Nat) : Prop where
 routes : k'.Routes = k.Routes
 lines : ∀ m, m ≠ l → k'.Lines[m]? = k.Lines[m]?
 own : ∀ t, t ≠ s → k'.Own[t]? = k.Own[t]?
end
section
def apprS (c : Cf) (l : List Int) : List Rs → Nat → Bool
 | [], _ => false
 | r :: rs, j => (decide (r.State ≠ 0) && inL l (c.Approach j)) || apprS c l rs (j + 1)
end
end Go.Fw
section
namespace Go.Fw
structure StOk (c : Cf) (r : Rt) (s : St) : Prop where
 sec : ∃ y, geti c.Secs s.Sec = some y ∧ (wpos (wayL y.Kind) s.In s.Out).isSome = true ∧ (r.Shunt = true → y.Line = 0)
theorem prunA_facts {c : Cf} (ht : topoOk c.Secs c.Jts = true) (r : Rt) (ex : Option Sg) : ∀ (l : List St) (a : Sg) (seen : List Int), prunA c r ex l a seen = true →
   (∀ s ∈ l, StOk c r s ∧ s.Sec ∉ seen) ∧ (l.map St.Sec).Nodup
 | [], a, seen, _ => ⟨fun s hs => by simp at hs, by simp⟩
 | s :: rest, a, seen, h => by
   rw [prunA, Bool.and_eq_true] at h
   obtain ⟨h1, h2⟩ := h
   obtain ⟨q1, q2⟩ := prunA_facts ht r ex rest _ _ h2
   unfold pstep at h1
   cases hn : nxt c.Jts a.Sec a.End_ with
   | none => rw [hn] at h1; cases h1
   | some p =>
     obtain ⟨q, i⟩ := p
     rw [hn] at h1
     obtain ⟨y, hy⟩ := nxt_sec ht hn
     simp only [hy, Option.getD_some, Bool.and_eq_true, decide_eq_true_eq, Bool.not_eq_true'] at h1
     obtain ⟨⟨⟨⟨⟨rfl, e2⟩, e3⟩, e4⟩, e5⟩, e6⟩ := h1
     refine ⟨fun x hx => ?_, ?_⟩
     · rcases List.mem_cons.1 hx with rfl | hx
       · refine ⟨⟨y, hy, e3, fun hs => ?_⟩, e4⟩
         rw [hs, Bool.true_and, decide_eq_false_iff_not] at e6
         exact Decidable.not_not.1 e6
       · obtain ⟨w1, w2⟩ := q1 x hx
         exact ⟨w1, fun hm => w2 (List.mem_cons_of_mem _ hm)⟩
     · rw [List.map_cons, List.nodup_cons]
       refine ⟨fun hm => ?_, q2⟩
       obtain ⟨x, hx, e⟩ := List.mem_map.1 hm
       exact (q1 x hx).2 (by rw [e]; simp)
structure RtOk (c : Cf) (r : Rt) : Prop where
 entry : ∃ a, geti c.Sigs r.Entry = some a
 exit_ : r.Exit = -1 ∨ ∃ x, geti c.Sigs r.Exit = some x
 len : 1 ≤ r.Path.length ∧ r.Path.length ≤ 8
 step : ∀ s ∈ r.Path, StOk c r s ∧ s.Sec ≠ c.approach r
 dup : (r.Path.map St.Sec).Nodup
 flank : r.Flank = c.flank (c.approach r) r.Path
 over : r.Overlap = c.overlap r
theorem routes_zero {c : Cf} : ∀ {l : List Rt}, c.routes l = 0 → ∀ r ∈ l, c.route r = 0
 | [], _, r, hr => by simp at hr
 | x :: l, h, r, hr => by
   rw [Cf.routes] at h
   split at h
   · rename_i hne; exact absurd h hne
   · rename_i he
     rcases List.mem_cons.1 hr with rfl | hr
     · simpa using he
     · exact routes_zero h r hr
theorem check_parts {c : Cf} (h : c.check = 0) : topoOk c.Secs c.Jts = true ∧ c.sigsOk = true ∧ c.xsOk = true ∧ c.Rts.length ≤ 12 ∧ c.routes c.Rts = 0 ∧ c.timing = true := by
 unfold Cf.check at h
 split at h
 · cases h
 split at h
 · cases h
 split at h
 · cases h
 split at h
 · cases h
 split at h
 · rename_i hne; exact absurd h hne
 split at h
 · rename_i h1 h2 h3 h4 h5 h6
   exact ⟨by simpa using h1, by simpa using h2, by simpa using h3, by omega, by simpa using h5, h6⟩
 · cases h
theorem path_ok {c : Cf} (ht : topoOk c.Secs c.Jts = true) {r : Rt} (h : c.route r = 0) : RtOk c r := by
 unfold Cf.route at h
 split at h
 · cases h
 split at h
 · cases h
 split at h
 · cases h
 rename_i h1 h2 h3
 have h1 : c.path r = true := by simpa using h1
 unfold Cf.path at h1
 cases hg : geti c.Sigs r.Entry with
 | none => rw [hg] at h1; cases h1
 | some a =>
   rw [hg] at h1
   simp only [Bool.and_eq_true, Bool.or_eq_true, decide_eq_true_eq] at h1
   obtain ⟨⟨e1, e2⟩, e3⟩ := h1
   obtain ⟨q1, q2⟩ := prunA_facts ht r _ _ _ _ e3
   have ha : c.approach r = a.Sec := by rw [Cf.approach, hg]; rfl
   refine ⟨⟨a, hg⟩, e1.imp id Option.isSome_iff_exists.1, e2, fun s hs => ⟨(q1 s hs).1, fun e => (q1 s hs).2 (by rw [e, ha]; simp)⟩, q2, Decidable.not_not.1 h2, Decidable.not_not.1 h3⟩
theorem check_rt {c : Cf} (h : c.check = 0) {r : Rt} (hr : r ∈ c.Rts) : RtOk c r := by
 obtain ⟨h1, _, _, _, h5, _⟩ := check_parts h
 exact path_ok h1 (routes_zero h5 r hr)
structure NdOk (c : Cf) (a : Int) (path : List St) (n : Nd) : Prop where
 sec : ∃ y, geti c.Secs n.Sec = some y ∧ y.Kind = 1
 pos : 1 ≤ n.Pos ∧ n.Pos ≤ 2
 app : n.Sec ≠ a
 path : hasSec path n.Sec = false
def FlOk (c : Cf) (a : Int) (path : List St) (out : List Nd) : Prop := (∀ n ∈ out, NdOk c a path n) ∧ (out.map Nd.Sec).Nodup
theorem flankStep_ok {c : Cf} {a : Int} {p : List St} {s : St} {out : List Nd} {e : Int} (h : FlOk c a p out) : FlOk c a p (flankStep c a p s out e) := by
 unfold flankStep
 split
 · exact h
 · split
   · exact h
   · split
     · exact h
     · rename_i y hy
       split
       · rename_i hc
         obtain ⟨c1, c2, c3, c4, c5⟩ := hc
         refine ⟨fun n hn => ?_, ?_⟩
         · rcases List.mem_append.1 hn with hn | hn
           · exact h.1 n hn
           · rw [List.mem_singleton] at hn; subst hn
             exact ⟨⟨y, hy, c1⟩, by simp only; omega, c3, c4⟩
         · rw [List.map_append, List.nodup_append]
           refine ⟨h.2, by simp, fun x hx z hz => ?_⟩
           simp only [List.map_cons, List.map_nil, List.mem_singleton] at hz
           subst hz
           intro e
           obtain ⟨n, hn, e2⟩ := List.mem_map.1 hx
           rw [List.any_eq_false] at c5
           exact c5 n hn (by rw [e2, e]; simp)
       · exact h
theorem flankEnds_ok {c : Cf} {a : Int} {p : List St} {s : St} : ∀ (n : Nat) (e : Int) (out : List Nd), FlOk c a p out → FlOk c a p (flankEnds c a p s n e out)
 | 0, _, _, h => h
 | n + 1, e, out, h => by rw [flankEnds]; exact flankEnds_ok n _ _ (flankStep_ok h)
theorem flankRun_ok {c : Cf} {a : Int} {p : List St} : ∀ (l : List St) (out : List Nd), FlOk c a p out → FlOk c a p (flankRun c a p l out)
 | [], _, h => h
 | s :: r, out, h => by
   rw [flankRun]
   refine flankRun_ok r _ ?_
   split
   · exact h
   · exact flankEnds_ok _ _ _ h
theorem flank_ok (c : Cf) (a : Int) (p : List St) : FlOk c a p (c.flank a p) := flankRun_ok p [] ⟨fun n h => by simp at h, by simp⟩
theorem flank_len (c : Cf) (a : Int) (p : List St) : (c.flank a p).length ≤ 4 * p.length := by
 have := (flankRun_len c a p p []).2
 simpa [Cf.flank] using this
theorem over_ok {c : Cf} {r : Rt} {q : Int} (h : q ∈ c.overlap r) : (∃ y, geti c.Secs q = some y ∧ y.Line = 0) ∧ hasSec r.Path q = false ∧ q ≠ c.approach r := by
 unfold Cf.overlap at h
 split at h
 · simp at h
 split at h
 · simp at h
 split at h
 · simp at h
 split at h
 · simp at h
 rename_i y hy
 split at h
 · rename_i hc
   rw [List.mem_singleton] at h; subst h
   exact ⟨⟨y, hy, hc.1⟩, hc.2.1, hc.2.2⟩
 · simp at h
theorem over_len (c : Cf) (r : Rt) : (c.overlap r).length ≤ 1 := by
 unfold Cf.overlap
 split
 · simp
 split
 · simp
 split
 · simp
 split
 · simp
 split <;> simp
theorem RtOk.fl {c : Cf} {r : Rt} (h : RtOk c r) : FlOk c (c.approach r) r.Path r.Flank := by rw [h.flank]; exact flank_ok _ _ _
theorem RtOk.flen {c : Cf} {r : Rt} (h : RtOk c r) : r.Flank.length ≤ 32 := by
 rw [h.flank]; have := flank_len c (c.approach r) r.Path; have := h.len; omega
theorem RtOk.olen {c : Cf} {r : Rt} (h : RtOk c r) : r.Overlap.length ≤ 1 := by rw [h.over]; exact over_len _ _
theorem RtOk.ov {c : Cf} {r : Rt} (h : RtOk c r) {q : Int} (hq : q ∈ r.Overlap) : (∃ y, geti c.Secs q = some y ∧ y.Line = 0) ∧ hasSec r.Path q = false ∧ q ≠ c.approach r := by rw [h.over] at hq; exact over_ok hq
theorem geti_nat {α : Type} {l : List α} {j : Nat} : geti l (j : Int) = l[j]? := by unfold geti; rw [if_neg (by omega), Int.toNat_natCast]
end Go.Fw
namespace Go.Fw
end Go.Fw
end
namespace Go.Fw
section
def zRt : Rt := ⟨0, 0, [], [], [], false⟩
def Cf.rt (c : Cf) (i : Int) : Rt := (geti c.Rts i).getD zRt
end
section
def cpt : List Int → List Int
 | [] => []
 | x :: r => match cpt r with
   | [] => [x]
   | y :: q => if x = y then y :: q else x :: y :: q
theorem mem_cpt : ∀ (l : List Int) (z : Int), z ∈ cpt l ↔ z ∈ l
 | [], z => by simp [cpt]
 | x :: r, z => by
   have ih := mem_cpt r z
   rw [cpt]
   split
   · rename_i h; rw [h] at ih; simp at ih; simp [ih]
   · rename_i y q h
     rw [h] at ih
     split
     · rename_i e; rw [ih, List.mem_cons]; exact ⟨.inr, fun hz => hz.elim (fun e' => by rw [← ih, e', e]; simp) id⟩
     · rw [List.mem_cons, ih, List.mem_cons]
theorem cpt_pair : ∀ {l : List Int}, l.Pairwise (· ≤ ·) → (cpt l).Pairwise (· < ·)
 | [], _ => by simp [cpt]
 | x :: r, h => by
   rw [List.pairwise_cons] at h
   have ih := cpt_pair h.2
   rw [cpt]
   split
   · simp
   · rename_i y q hq
     rw [hq] at ih
     split
     · exact ih
     · rename_i hne
       rw [List.pairwise_cons]
       refine ⟨fun z hz => ?_, ih⟩
       have h1 : y ∈ r := (mem_cpt r y).1 (by rw [hq]; simp)
       have h2 := h.1 y h1
       rcases List.mem_cons.1 hz with rfl | hz
       · omega
       · have := (List.pairwise_cons.1 ih).1 z hz; omega
theorem strict_ext : ∀ {a b : List Int}, a.Pairwise (· < ·) → b.Pairwise (· < ·) → (∀ z, z ∈ a ↔ z ∈ b) → a = b
 | [], [], _, _, _ => rfl
 | [], y :: b, _, _, h => absurd ((h y).2 (by simp)) (by simp)
 | x :: a, [], _, _, h => absurd ((h x).1 (by simp)) (by simp)
 | x :: a, y :: b, ha, hb, h => by
   rw [List.pairwise_cons] at ha hb
   have e : x = y := by
     have h1 := (h x).1 (by simp)
     have h2 := (h y).2 (by simp)
     rcases List.mem_cons.1 h1 with h1 | h1
     · exact h1
     · rcases List.mem_cons.1 h2 with h2 | h2
       · exact h2.symm
       · have := hb.1 x h1; have := ha.1 y h2; omega
   subst e
   congr 1
   refine strict_ext ha.2 hb.2 fun z => ⟨fun hz => ?_, fun hz => ?_⟩
   · rcases List.mem_cons.1 ((h z).1 (by simp [hz])) with e | hz'
     · subst e; have := ha.1 z hz; omega
     · exact hz'
   · rcases List.mem_cons.1 ((h z).2 (by simp [hz])) with e | hz'
     · subst e; have := hb.1 z hz; omega
     · exact hz'
theorem compact_cpt {l : List Int} (h : l.Pairwise (· ≤ ·)) : Lib.compact l = cpt l := strict_ext (compact_strict h) (cpt_pair h) fun z => by rw [compact_mem, mem_cpt]
def Cf.lockR (r : Rt) : List Int := cpt (sorted (r.Overlap ++ r.Path.map St.Sec ++ r.Flank.map Nd.Sec))
def Cf.lockL (c : Cf) (i : Int) : List Int := match geti c.Rts i with
 | some r => Cf.lockR r
 | none => []
theorem mem_lockR {r : Rt} {z : Int} : z ∈ Cf.lockR r ↔ z ∈ r.Overlap ∨ z ∈ r.Path.map St.Sec ∨ z ∈ r.Flank.map Nd.Sec := by
 rw [Cf.lockR, mem_cpt, (sorted_perm _).mem_iff]; simp [or_assoc]
theorem lockR_pair (r : Rt) : (Cf.lockR r).Pairwise (· < ·) := cpt_pair (sorted_pair _)
theorem lockR_sec {c : Cf} {r : Rt} (h : RtOk c r) {z : Int} (hz : z ∈ Cf.lockR r) : ∃ y, geti c.Secs z = some y := by
 rcases mem_lockR.1 hz with hz | hz | hz
 · obtain ⟨y, hy, _⟩ := (h.ov hz).1; exact ⟨y, hy⟩
 · obtain ⟨s, hs, rfl⟩ := List.mem_map.1 hz
   obtain ⟨y, hy, _⟩ := (h.step s hs).1.sec; exact ⟨y, hy⟩
 · obtain ⟨n, hn, rfl⟩ := List.mem_map.1 hz
   obtain ⟨y, hy, _⟩ := (h.fl.1 n hn).sec; exact ⟨y, hy⟩
def insAt (out : List Int) (s : Int) : Nat → Nat
 | 0 => 0
 | n + 1 => match out[n]? with
   | some x => if s < x then insAt out s n else n + 1
   | none => n + 1
def insS (out : List Int) (s : Int) : List Int :=
 if s ∈ out then out else out.take (insAt out s out.length) ++ [s] ++ out.drop (insAt out s out.length)
theorem insAt_gt (out : List Int) (s : Int) : ∀ n, n ≤ out.length → ∀ i x, insAt out s n ≤ i → i < n → out[i]? = some x → s < x
 | 0, _, i, x, _, h, _ => by omega
 | n + 1, hn, i, x, h1, h2, h3 => by
   rw [insAt] at h1
   split at h1
   · rename_i y hy
     split at h1
     · rename_i hlt
       by_cases e : i = n
       · subst e; rw [hy] at h3; cases h3; exact hlt
       · exact insAt_gt out s n (by omega) i x h1 (by omega) h3
     · omega
   · omega
theorem insAt_le_of {out : List Int} {s : Int} (hp : out.Pairwise (· < ·)) : ∀ n, n ≤ out.length → ∀ i x, i < insAt out s n → out[i]? = some x → x ≤ s
 | 0, _, i, x, h, _ => by rw [insAt] at h; omega
 | n + 1, hn, i, x, h1, h3 => by
   rw [insAt] at h1
   split at h1
   · rename_i y hy
     split at h1
     · exact insAt_le_of hp n (by omega) i x h1 h3
     · rename_i hge
       by_cases e : i = n
       · subst e; rw [hy] at h3; cases h3; omega
       · have hlt : i < n := by omega
         obtain ⟨h4, h5⟩ := List.getElem?_eq_some_iff.1 h3
         obtain ⟨h6, h7⟩ := List.getElem?_eq_some_iff.1 hy
         have := List.pairwise_iff_getElem.1 hp i n h4 h6 hlt
         rw [h5, h7] at this; omega
   · rename_i hnone; rw [List.getElem?_eq_none_iff] at hnone; omega
theorem insS_pair {out : List Int} {s : Int} (hp : out.Pairwise (· < ·)) : (insS out s).Pairwise (· < ·) := by
 unfold insS
 split
 · exact hp
 · rename_i hs
   have hsplit := List.take_append_drop (insAt out s out.length) out
   have h1 : ∀ x ∈ out.take (insAt out s out.length), x < s := by
     intro x hx
     obtain ⟨i, hi, e⟩ := List.getElem_of_mem hx
     have h2 : out[i]? = some x := by rw [List.getElem_take] at e; rw [← e]; exact List.getElem?_eq_getElem _
     have h3 := insAt_le_of (s := s) hp out.length (Nat.le_refl _) i x (by rw [List.length_take] at hi; omega) h2
     have : x ≠ s := fun e => hs (e ▸ List.mem_of_getElem? h2)
     omega
   have h2 : ∀ x ∈ out.drop (insAt out s out.length), s < x := by
     intro x hx
     obtain ⟨i, hi, e⟩ := List.getElem_of_mem hx
     have h2 : out[insAt out s out.length + i]? = some x := by rw [List.getElem_drop] at e; rw [← e]; exact List.getElem?_eq_getElem _
     exact insAt_gt out s out.length (Nat.le_refl _) _ x (by omega) (by rw [List.length_drop] at hi; omega) h2
   rw [← hsplit, List.pairwise_append] at hp
   rw [List.append_assoc, List.pairwise_append]
   refine ⟨hp.1, ?_, fun a ha b hb => ?_⟩
   · rw [List.singleton_append, List.pairwise_cons]; exact ⟨h2, hp.2.1⟩
   · rcases List.mem_cons.1 hb with rfl | hb
     · exact h1 a ha
     · exact hp.2.2 a ha b hb
theorem mem_insS {out : List Int} {s z : Int} : z ∈ insS out s ↔ z ∈ out ∨ z = s := by
 unfold insS
 split
 · rename_i hs; exact ⟨.inl, fun h => h.elim id fun e => e ▸ hs⟩
 · have : z ∈ out ↔ z ∈ out.take (insAt out s out.length) ∨ z ∈ out.drop (insAt out s out.length) := by
     rw [← List.mem_append, List.take_append_drop]
   rw [this, List.append_assoc, List.mem_append, List.mem_append, List.mem_singleton]
   constructor
   · rintro (h | h | h) <;> simp [h]
   · rintro ((h | h) | h) <;> simp [h]
theorem insL_facts : ∀ (l out : List Int), out.Pairwise (· < ·) → (l.foldl insS out).Pairwise (· < ·) ∧ ∀ z, z ∈ l.foldl insS out ↔ z ∈ out ∨ z ∈ l
 | [], out, h => ⟨h, fun z => by simp⟩
 | s :: r, out, h => by
   obtain ⟨q1, q2⟩ := insL_facts r (insS out s) (insS_pair h)
   refine ⟨q1, fun z => ?_⟩
   rw [List.foldl_cons, q2, mem_insS, List.mem_cons, or_assoc]
theorem insL_lockR (r : Rt) : (r.Path.map St.Sec ++ r.Flank.map Nd.Sec ++ r.Overlap).foldl insS [] = Cf.lockR r := by
 obtain ⟨q1, q2⟩ := insL_facts (r.Path.map St.Sec ++ r.Flank.map Nd.Sec ++ r.Overlap) [] (by simp)
 refine strict_ext q1 (lockR_pair r) fun z => ?_
 rw [q2, mem_lockR]
 simp only [List.mem_append, List.not_mem_nil, false_or]
 constructor
 · rintro ((h | h) | h) <;> simp [h]
 · rintro (h | h | h) <;> simp [h]
theorem cpt_len : ∀ l : List Int, (cpt l).length ≤ l.length
 | [] => Nat.le_refl _
 | x :: r => by
   have ih := cpt_len r
   rw [cpt]
   split
   · simp
   · rename_i y q h
     rw [h] at ih
     split
     · simp at ih ⊢; omega
     · simp at ih ⊢; omega
def Co.inh (c : Cf) (k : Co) (r s : Int) : Bool :=
 let o := (geti k.Own s).getD 0 - 1
 decide (0 ≤ o ∧ o ≠ r) && (decide ((c.rt o).Exit = (c.rt r).Entry) && inL (c.rt o).Overlap s)
def Co.blocked (c : Cf) (k : Co) (r : Int) (l : List Int) : Bool := l.any fun s => decide ((geti k.Own s).getD 0 ≠ 0) && !k.inh c r s
def Co.may (c : Cf) (k : Co) (r : Int) (l : List Int) : Int :=
 if apprS c l k.Routes 0 = true then 23 else if k.blocked c r l = true then 22 else 0
def lineF (c : Cf) : List St → Int
 | [] => 0
 | s :: r => let n := ((geti c.Secs s.Sec).getD ⟨0, 0, 0⟩).Line; if n > 0 then n else lineF c r
def Co.done (k : Co) (e : Int) (y : Co) : Co × Int := (if e = 0 then y else k, e)
end
section
structure FitIs (c : Cf) (k : Co) : Prop where
 chk : c.check = 0
 lOwn : k.Own.length = c.Secs.length
 lPts : k.Points.length = c.Secs.length
 lRes : k.Resets.length = c.Secs.length
 lRts : k.Routes.length = c.Rts.length
 lXs : k.Xs.length = c.Xs.length
 lLn : k.Lines.length = 4
 own : ∀ o ∈ k.Own, -2 ≤ o ∧ o ≤ c.Rts.length
 rts : ∀ (i : Nat) x r, k.Routes[i]? = some x → c.Rts[i]? = some r → Rs.fits (x, r) = true
 pts : ∀ m ∈ k.Points, Mv.fits m = true
 xs : ∀ m ∈ k.Xs, Mv.fits m = true
 lns : ∀ l ∈ k.Lines, Ls.fits l = true
 res : ∀ z ∈ k.Resets, tm 1 z = true
theorem geti_mem {α : Type} {l : List α} {i : Int} {x : α} (h : geti l i = some x) : x ∈ l := List.mem_of_getElem? (geti_some h).2.2
theorem geti_d {α : Type} {l : List α} {i : Int} {p : α → Prop} {z : α} (hz : p z) (h : ∀ x ∈ l, p x) : p ((geti l i).getD z) := by
 cases hg : geti l i with
 | none => exact hz
 | some x => exact h x (geti_mem hg)
theorem line_ok {c : Cf} (h : c.check = 0) (l : List St) : 0 ≤ lineF c l ∧ lineF c l ≤ 3 := by
 induction l with
 | nil => exact ⟨Int.le_refl _, by unfold lineF; omega⟩
 | cons s r ih =>
   rw [lineF]
   have hs : 0 ≤ ((geti c.Secs s.Sec).getD ⟨0, 0, 0⟩).Line ∧ ((geti c.Secs s.Sec).getD ⟨0, 0, 0⟩).Line ≤ 3 := by
     refine geti_d (p := fun y : Sec => 0 ≤ y.Line ∧ y.Line ≤ 3) (by decide) fun y hy => ?_
     obtain ⟨i, hi, e⟩ := List.getElem_of_mem hy
     exact topo_line (check_parts h).1 (i := i) (by rw [List.getElem?_eq_getElem hi, e])
   split
   · exact hs
   · exact ih
end
end Go.Fw
namespace Go.Proofs.YtfdffboelecgoaaGreatDoor
open Go.Fw Go.Proofs Go.RowKit
section
variable {σ : Store}
theorem clone_ok {t : TypeId} {bytes : Nat} {d : D} {rows : List (List D)} {Q : RV → Store → Prop} (h : At Tryz.prog σ t d rows) (hz : d ≠ .zsl) (hb : bytes * rows.length ≤ 140737488355328)
   (hQ : ∀ d' s, Own Tryz.prog σ s t d' rows → Q (.a (.one d')) s) :
   ∃ b : Bool, (IsNil .sl d b) ∧ bcase (b != false) (Q (.a (.one .nils)) σ) (Fw.newObj σ (.live t []) (fun (id : Nat) => fun (σ' : Store) => appendTo Tryz.prog σ' t bytes (.osl id 0 0) d (fun (d : D) => fun (σ'1 : Store) => Q (.a (.one d)) σ'1))) := by
 have new : ∀ b : Bool, b = false → bcase (b != false) (Q (.a (.one .nils)) σ) (Fw.newObj σ (.live t []) (fun (id : Nat) => fun (σ' : Store) => appendTo Tryz.prog σ' t bytes (.osl id 0 0) d (fun (d : D) => fun (σ'1 : Store) => Q (.a (.one d)) σ'1))) := by
   rintro b rfl
   rw [show (false != false) = false from by decide]
   refine (newObj_intro (K := fun id σ' => appendTo Tryz.prog σ' t bytes (.osl id 0 0) d fun d σ'1 => Q (.a (.one d)) σ'1) ?_ : Fw.newObj σ (.live t []) _)
   refine fun id s hid _ he hs => ?_
   have ho : Own Tryz.prog σ s t (.osl id 0 0) [] := ⟨At.fresh hs (by simp) rfl, he, osl_new hid, fun h => h, by intro e; cases e⟩
   exact ho.append (h.ext he) (by simpa using hb) (by have := h.size; simpa using this) fun d' s' ho' _ _ => hQ _ _ (by simpa using ho')
 have hr := h.rows
 cases d <;> simp only [Go.Fw.Rows] at hr <;> try exact hr.elim
 · subst hr; exact ⟨true, rfl, hQ _ _ (.nil _ (.refl _))⟩
 · exact absurd rfl hz
 · exact ⟨false, rfl, new _ rfl⟩
 · exact ⟨false, rfl, new _ rfl⟩
theorem Clone_int_ok {d : D} {rows : List (List D)} (h : At Tryz.prog σ t_int d rows) (hz : d ≠ .zsl) (hb : 8 * rows.length ≤ 140737488355328) : DCalls Tryz.prog n_slices_Clone_int [.one d] σ fun r s => ∃ d', r = .a (.one d') ∧ Own Tryz.prog σ s t_int d' rows :=
 W_slices_Clone_int d σ _ (clone_ok (Q := fun r s => ∃ d', r = .a (.one d') ∧ Own Tryz.prog σ s _ d' rows) h hz hb fun d' s ho => ⟨d', rfl, ho⟩)
end
end Go.Proofs.YtfdffboelecgoaaGreatDoor
namespace Go.Proofs.YtfdffboelecgoaaGreatDoor
open Go.Shelf Go.Proofs
section
def sortLays_ren : Go.Shelf.Ren := ⟨fun | 189 => 58 | 125 => 96 | 257 => 95 | 128 => 129 | 129 => 130 | 294 => 120 | 295 => 121 | 296 => 122 | 297 => 123 | 298 => 124 | 299 => 125 | 216 => 126 | 300 => 127 | 301 => 128 | 328 => 146 | 329 => 147 | 330 => 148 | 331 => 149 | 332 => 150 | 215 => 151 | 343 => 164 | n => n, fun | 28 => 25 | 3 => 3 | 46 => 40 | 0 => 0 | 51 => 175 | 53 => 177 | 4 => 4 | 183 => 168 | 182 => 167 | 131 => 68 | 5 => 5 | 9 => 9 | 218 => 193 | 222 => 197 | 228 => 214 | 229 => 215 | n => n, fun | n => n⟩
theorem sortLays : Go.Proofs.Lays.n189 Tryz.prog sortLays_ren := {
 mixed := by kernel_rfl
 f125 := Tryz.func96.trans (congrArg some (by kernel_rfl))
 f128 := Tryz.func129.trans (congrArg some (by kernel_rfl))
 f129 := Tryz.func130.trans (congrArg some (by kernel_rfl))
 f189 := Tryz.func58.trans (congrArg some (by kernel_rfl))
 f215 := Tryz.func151.trans (congrArg some (by kernel_rfl))
 f216 := Tryz.func126.trans (congrArg some (by kernel_rfl))
 f257 := Tryz.func95.trans (congrArg some (by kernel_rfl))
 f294 := Tryz.func120.trans (congrArg some (by kernel_rfl))
 f295 := Tryz.func121.trans (congrArg some (by kernel_rfl))
 f296 := Tryz.func122.trans (congrArg some (by kernel_rfl))
 f297 := Tryz.func123.trans (congrArg some (by kernel_rfl))
 f298 := Tryz.func124.trans (congrArg some (by kernel_rfl))
 f299 := Tryz.func125.trans (congrArg some (by kernel_rfl))
 f300 := Tryz.func127.trans (congrArg some (by kernel_rfl))
 f301 := Tryz.func128.trans (congrArg some (by kernel_rfl))
 f328 := Tryz.func146.trans (congrArg some (by kernel_rfl))
 f329 := Tryz.func147.trans (congrArg some (by kernel_rfl))
 f330 := Tryz.func148.trans (congrArg some (by kernel_rfl))
 f331 := Tryz.func149.trans (congrArg some (by kernel_rfl))
 f332 := Tryz.func150.trans (congrArg some (by kernel_rfl))
 f343 := Tryz.func164.trans (congrArg some (by kernel_rfl))
 t0 := Tryz.underlying0
 a0 := Tryz.isAgg0
 z0 := Tryz.sizeOf0
 v0 := Tryz.zeroValue0
 t3 := Tryz.underlying3
 a3 := Tryz.isAgg3
 z3 := Tryz.sizeOf3
 v3 := Tryz.zeroValue3
 t4 := Tryz.underlying4
 a4 := Tryz.isAgg4
 z4 := Tryz.sizeOf4
 v4 := Tryz.zeroValue4
 t5 := Tryz.underlying5
 a5 := Tryz.isAgg5
 z5 := Tryz.sizeOf5
 v5 := Tryz.zeroValue5
 t9 := Tryz.underlying9
 a9 := Tryz.isAgg9
 z9 := Tryz.sizeOf9
 v9 := Tryz.zeroValue9
 t28 := Tryz.underlying25
 a28 := Tryz.isAgg25
 z28 := Tryz.sizeOf25
 v28 := Tryz.zeroValue25
 t46 := Tryz.underlying40
 a46 := Tryz.isAgg40
 z46 := Tryz.sizeOf40
 v46 := Tryz.zeroValue40
 t51 := Tryz.underlying175
 a51 := Tryz.isAgg175
 z51 := Tryz.sizeOf175
 v51 := Tryz.zeroValue175
 t53 := Tryz.underlying177
 a53 := Tryz.isAgg177
 z53 := Tryz.sizeOf177
 v53 := Tryz.zeroValue177
 t131 := Tryz.underlying68
 a131 := Tryz.isAgg68
 z131 := Tryz.sizeOf68
 v131 := Tryz.zeroValue68
 t182 := Tryz.underlying167
 a182 := Tryz.isAgg167
 z182 := Tryz.sizeOf167
 v182 := Tryz.zeroValue167
 t183 := Tryz.underlying168
 a183 := Tryz.isAgg168
 z183 := Tryz.sizeOf168
 v183 := Tryz.zeroValue168
 t218 := Tryz.underlying193
 a218 := Tryz.isAgg193
 z218 := Tryz.sizeOf193
 v218 := Tryz.zeroValue193
 t222 := Tryz.underlying197
 a222 := Tryz.isAgg197
 z222 := Tryz.sizeOf197
 v222 := Tryz.zeroValue197
 t228 := Tryz.underlying214
 a228 := Tryz.isAgg214
 z228 := Tryz.sizeOf214
 v228 := Tryz.zeroValue214
 t229 := Tryz.underlying215
 a229 := Tryz.isAgg215
 z229 := Tryz.sizeOf215
 v229 := Tryz.zeroValue215 }
end
section
def compactLays_ren : Go.Shelf.Ren := ⟨fun | 20 => 59 | n => n, fun | 22 => 25 | 3 => 3 | 4 => 4 | 0 => 0 | n => n, fun | n => n⟩
theorem compactLays : Go.Proofs.Lays2.n20 Tryz.prog compactLays_ren := {
 mixed := by kernel_rfl
 f20 := Tryz.func59.trans (congrArg some (by kernel_rfl))
 t0 := Tryz.underlying0
 a0 := Tryz.isAgg0
 z0 := Tryz.sizeOf0
 v0 := Tryz.zeroValue0
 t3 := Tryz.underlying3
 a3 := Tryz.isAgg3
 z3 := Tryz.sizeOf3
 v3 := Tryz.zeroValue3
 t4 := Tryz.underlying4
 a4 := Tryz.isAgg4
 z4 := Tryz.sizeOf4
 v4 := Tryz.zeroValue4
 t22 := Tryz.underlying25
 a22 := Tryz.isAgg25
 z22 := Tryz.sizeOf25
 v22 := Tryz.zeroValue25
 i3 := by kernel_rfl }
end
end Go.Proofs.YtfdffboelecgoaaGreatDoor
namespace Go.Proofs.YtfdffboelecgoaaGreatDoor
open Go.Fw Go.Proofs Go.RowKit
section
variable {σ σ0 : Store}
theorem own_over {s : Store} {d : D} {l ys : List Int} (h : Own Tryz.prog σ0 s t_int d (l.map Go.Fw.encI)) (h0 : l ≠ []) (hl : ys.length = l.length) :
   ∃ id i0 t rows, d = .osl id i0 l.length ∧ s id = .live t rows ∧ Tryz.prog.cellsOf t = 1 ∧ i0 + l.length ≤ rows.length ∧ (rows.drop i0).take l.length = l.map intRow ∧ σ0 id = .free ∧
     Own Tryz.prog σ0 (s.set id (.live t (rows.take i0 ++ ys.map intRow ++ rows.drop (i0 + l.length)))) t_int d (ys.map Go.Fw.encI) := by
 have hr := h.at_.rows
 have hsz := h.at_.size
 rw [List.length_map] at hsz
 have hnz := h.nz
 have hns := h.nsl
 have hnew := h.new
 have hlen := h.at_.lenI
 rw [List.length_map] at hlen
 cases d <;> simp only [Go.Fw.Rows] at hr <;> try exact hr.elim
 · exact absurd (List.map_eq_nil_iff.1 hr) h0
 · exact absurd rfl hnz
 · exact absurd trivial hns
 · rename_i id i0 len
   obtain ⟨t, rows, a1, a2, a3, a4⟩ := hr
   have e : l.length = len := hlen
   subst e
   have ht : Tryz.prog.cellsOf t = 1 := by rw [a2]; exact c_int
   have hn := hnew _ _ _ rfl
   refine ⟨id, i0, t, rows, rfl, a1, ht, a3, a4.symm, hn, ⟨⟨⟨t, _, Store.set_same _ _ _, a2, ?_, ?_⟩, ?_, fun es rows e => by cases e⟩, ?_, hnew, fun h => h, by intro e; cases e⟩⟩
   · simp; omega
   · have hi0 : (rows.take i0).length = i0 := by simp; omega
     rw [List.append_assoc, List.drop_append_of_le_length (by omega), List.drop_of_length_le (by omega), List.nil_append, List.take_append_of_le_length (by simp; omega), List.take_of_length_le (by simp; omega)]
     rfl
   · rw [List.length_map]; omega
   · intro i hi
     rw [Store.set_ne _ _ (by intro e; subst e; exact hi hn)]
     exact h.ext i hi
theorem Sort_int_ok {s : Store} {d : D} {l : List Int} (h : Own Tryz.prog σ0 s t_int d (l.map Go.Fw.encI)) (h0 : l ≠ []) :
   DCalls Tryz.prog n_slices_Sort_int [.one d] s fun r s' => r = .tup [] ∧ Own Tryz.prog σ0 s' t_int d ((sorted l).map Go.Fw.encI) := by
 have hsz := h.at_.size
 rw [List.length_map] at hsz
 obtain ⟨id, i0, t, rows, rfl, a1, ht, a3, a4, hn, ho⟩ := own_over (ys := sorted l) h h0 (by simp [sorted])
 refine (sort_DCalls sortLays ht a1 a3 a4 (List.length_pos_iff.2 h0) (by omega)).mono ?_
 rintro r s' ⟨rfl, rfl⟩
 exact ⟨rfl, ho⟩
theorem Compact_int_ok {s : Store} {d : D} {l : List Int} (h : Own Tryz.prog σ0 s t_int d (l.map Go.Fw.encI)) (h0 : l ≠ []) (hp : l.Pairwise (· ≤ ·)) :
   DCalls Tryz.prog n_slices_Compact_int [.one d] s fun r s' => ∃ d', r = .a (.one d') ∧ Own Tryz.prog σ0 s' t_int d' ((cpt l).map Go.Fw.encI) := by
 have hsz := h.at_.size
 rw [List.length_map] at hsz
 have hc := compact_cpt hp
 have hle := cpt_len l
 obtain ⟨id, i0, t, rows, rfl, a1, ht, a3, a4, hn, ho⟩ := own_over (ys := Lib.compact l ++ List.replicate (l.length - (Lib.compact l).length) 0) h h0 (by rw [hc]; simp; omega)
 refine (compact_DCalls compactLays ht a1 a3 a4 (List.length_pos_iff.2 h0) (by omega)).mono ?_
 rintro r s' ⟨rfl, rfl⟩
 have := ho.sub (lo := 0) (hi := (cpt l).length) (by omega) (by rw [hc]; simp)
 rw [hc] at this ⊢
 refine ⟨_, rfl, ?_⟩
 have e : ((((cpt l ++ List.replicate (l.length - (cpt l).length) 0).map Go.Fw.encI).drop 0).take ((cpt l).length - 0)) = (cpt l).map Go.Fw.encI := by
   rw [List.drop_zero, Nat.sub_zero, List.map_append, List.take_append_of_le_length (by simp), List.take_of_length_le (by simp)]
 rw [e] at this
 exact this
def RtsNz : D → Prop
 | .sl _ rows => ∀ row ∈ rows, row[4]? ≠ some .zsl
 | _ => True
theorem nz_over {c4 : D} {rows : List (List D)} (hz : RtsNz c4) (hat : ∀ s, At Tryz.prog s t_Route c4 rows) {i : Nat} {row : List D} (hr : rows[i]? = some row) : row[4]? ≠ some .zsl := by
 have hx := (hat (fun _ => .free)).rows
 cases c4 <;> simp only [Go.Fw.Rows] at hx <;> try exact hx.elim
 · subst hx; simp at hr
 · subst hx; simp at hr
 · obtain ⟨rfl, _⟩ := hx; exact hz _ (List.mem_of_getElem? hr)
 · obtain ⟨t, rows', h1, _⟩ := hx; cases h1
def RtSz (x : Rt) : Prop := 1 ≤ x.Overlap.length + x.Path.length + x.Flank.length ∧ x.Path.length ≤ 2 ^ 20 ∧ x.Flank.length ≤ 2 ^ 20 ∧ x.Overlap.length ≤ 2 ^ 20
section
variable {c0 c1 c2 c3 c4 : D} {c : Cf} (h : ∀ s, RtsAt Tryz.prog t_Route t_Step t_Need t_int s c4 c.Rts)
include h
theorem rt_frz {i : Nat} {x : Rt} (hx : c.Rts[i]? = some x) : ∃ rows d1 d2 d3, (∀ s, At Tryz.prog s t_Route c4 rows) ∧ rows.length = c.Rts.length ∧ rows[i]? = some [iD x.Entry, iD x.Exit, d1, d2, d3, .bool x.Shunt] ∧
   (∀ s, At Tryz.prog s t_Step d1 (x.Path.map St.enc)) ∧ (∀ s, At Tryz.prog s t_Need d2 (x.Flank.map Nd.enc)) ∧ (∀ s, At Tryz.prog s t_int d3 (x.Overlap.map Go.Fw.encI)) := by
 obtain ⟨rows, hat, hlen, hrow⟩ := rts_froz h
 obtain ⟨row, hrw⟩ := get_of_lt (l := rows) (j := i) (by have := (List.getElem?_eq_some_iff.1 hx).1; omega)
 obtain ⟨d1, d2, d3, rfl, q1, q2, q3⟩ := hrow i row x hrw hx
 exact ⟨rows, d1, d2, d3, hat, hlen, hrw, q1, q2, q3⟩
theorem locks_rts (hs : ∀ x ∈ c.Rts, RtSz x) (hz : RtsNz c4) (i : Int) : DCalls Tryz.prog n_conf_Locks [cfA c0 c1 c2 c3 c4 c, iA i] σ (SlPost σ t_int ((c.lockL i).map Go.Fw.encI)) := by
 refine (W_conf_Locks _ _ _ _ _ _ _ _ _ i σ _ ?_).ret (Q := fun r s => ∃ r' σ', Ret Tryz.prog σ s r σ' r' ∧ SlPost σ t_int ((c.lockL i).map Go.Fw.encI) r' σ') (fun r s h => h)
 intro R hR
 have nil : geti c.Rts i = none → ∃ r' σ', Ret Tryz.prog σ σ (.a (.one .nils)) σ' r' ∧ SlPost σ t_int ((c.lockL i).map Go.Fw.encI) r' σ' := fun e => by
   have : c.lockL i = [] := by unfold Cf.lockL; rw [e]
   rw [this]; exact own_fin (.nil _ (.refl _)) (flatI _)
 obtain ⟨rows, hat, hlen, _⟩ := h σ
 refine bcd (fun e => nil (geti_neg e)) (fun e0 => hat.lenK (bcd (fun e => nil (geti_ge (by omega))) (fun e1 => hR σ ?_)))
 obtain ⟨x, hx⟩ := geti_ex (l := c.Rts) (i := i) e0 (by omega)
 clear hR nil hat
 have hll : c.lockL i = Cf.lockR x := by unfold Cf.lockL; rw [hx]
 rw [hll]
 obtain ⟨rows, d1, d2, d3, hat, hlen, hrow, q1, q2, q3⟩ := rt_frz h (geti_some hx).2.2
 obtain ⟨w0, w1, w2, w3⟩ := hs x (geti_mem hx)
 refine (hat σ).load hrow c_Route (by omega) ⟨_, _, _, _, _, _, rfl, (Clone_int_ok (q3 σ) ?_ (by rw [List.length_map]; omega)).mono ?_⟩
 · exact fun e => nz_over hz hat hrow (by rw [e]; rfl)
 rintro r s ⟨d, rfl, ho⟩
 refine ⟨d, rfl, (q1 σ).lenK ⟨fun d n s' => ∃ j : Nat, n = j ∧ j ≤ x.Path.length ∧ Own Tryz.prog σ s' t_int d ((x.Overlap ++ (x.Path.take j).map St.Sec).map Go.Fw.encI), fun _ n _ => x.Path.length - n.toNat, ⟨0, rfl, by omega, by simpa using ho⟩, ?_⟩⟩
 rintro d n s' ⟨j, rfl, hj, ho⟩
 rw [List.length_map]
 refine bcd (fun hlt => ?_) (fun hge => ?_)
 · obtain ⟨y, hy⟩ := get_of_lt (l := x.Path) (j := j) (by omega)
   refine (q1 s').load (map_get hy) c_Step rfl ⟨y.Sec, y.In, y.Out, rfl, newObj_intro fun id s2 hid _ he hs2 => ?_⟩
   refine (ho.ext' he).append (At.fresh hs2 (by simp) rfl) (by simp; omega) (by simp; omega) fun d4 s5 ho5 _ _ => ?_
   rw [w64_succ (by omega)]
   refine ⟨rfl, ⟨j + 1, rfl, by omega, ?_⟩, dec_lt (by omega)⟩
   have e : x.Overlap ++ (x.Path.take (j + 1)).map St.Sec = (x.Overlap ++ (x.Path.take j).map St.Sec) ++ [y.Sec] := by rw [List.take_add_one, hy]; simp
   rw [e, List.map_append]; exact ho5
 have e : j = x.Path.length := by omega
 rw [e, List.take_length] at ho
 refine (q2 s').lenK ⟨fun d n s' => ∃ j : Nat, n = j ∧ j ≤ x.Flank.length ∧ Own Tryz.prog σ s' t_int d ((x.Overlap ++ x.Path.map St.Sec ++ (x.Flank.take j).map Nd.Sec).map Go.Fw.encI), fun _ n _ => x.Flank.length - n.toNat, ⟨0, rfl, by omega, by simpa using ho⟩, ?_⟩
 rintro d n s' ⟨j, rfl, hj, ho⟩
 rw [List.length_map]
 refine bcd (fun hlt => ?_) (fun hge => ?_)
 · obtain ⟨y, hy⟩ := get_of_lt (l := x.Flank) (j := j) (by omega)
   refine (q2 s').load (map_get hy) c_Need rfl ⟨y.Sec, y.Pos, rfl, newObj_intro fun id s2 hid _ he hs2 => ?_⟩
   refine (ho.ext' he).append (At.fresh hs2 (by simp) rfl) (by simp; omega) (by simp; omega) fun d4 s5 ho5 _ _ => ?_
   rw [w64_succ (by omega)]
   refine ⟨⟨j + 1, rfl, by omega, ?_⟩, dec_lt (by omega)⟩
   have e : x.Overlap ++ x.Path.map St.Sec ++ (x.Flank.take (j + 1)).map Nd.Sec = (x.Overlap ++ x.Path.map St.Sec ++ (x.Flank.take j).map Nd.Sec) ++ [y.Sec] := by rw [List.take_add_one, hy]; simp
   rw [e, List.map_append]; exact ho5
 have e : j = x.Flank.length := by omega
 rw [e, List.take_length] at ho
 have hne : x.Overlap ++ x.Path.map St.Sec ++ x.Flank.map Nd.Sec ≠ [] := by
   intro e
   have := congrArg List.length e
   simp only [List.length_append, List.length_map, List.length_nil] at this; omega
 refine (Sort_int_ok ho hne).mono ?_
 rintro r s2 ⟨rfl, ho⟩
 refine ⟨rfl, (Compact_int_ok ho (fun e => hne (by
   have := congrArg List.length e
   simp only [sorted, List.length_mergeSort] at this
   exact List.length_eq_zero_iff.1 this)) (sorted_pair _)).mono ?_⟩
 rintro r s3 ⟨d', rfl, ho⟩
 exact ⟨d', rfl, own_fin ho (flatI _)⟩
end
theorem check_sz {c : Cf} (hok : c.check = 0) : ∀ x ∈ c.Rts, RtSz x := fun x hx => by
 have hr := check_rt hok hx
 have w1 := hr.len
 have w2 := hr.flen
 have w3 := hr.olen
 exact ⟨by omega, by omega, by omega, by omega⟩
theorem conf_Locks_ok {c0 c1 c2 c3 c4 : D} {c : Cf} (h : ∀ s, CfAt s c0 c1 c2 c3 c4 c) (hok : c.check = 0) (hz : RtsNz c4) (i : Int) : DCalls Tryz.prog n_conf_Locks [cfA c0 c1 c2 c3 c4 c, iA i] σ (SlPost σ t_int ((c.lockL i).map Go.Fw.encI)) :=
 locks_rts (fun s => (h s).rts) (check_sz hok) hz i
end
section
theorem ty_i {row : List D} {n : Nat} (h : tyD Tryz.prog n t_int row) : ∃ m, row = Go.Fw.encI m ∧ I64 m := by
 obtain ⟨_, _, rfl, ⟨m, rfl, hm⟩, rfl⟩ := ty_sh n 2 _ _ [.int .i64] h (by kernel_rfl)
 exact ⟨m, rfl, wf_i64 hm⟩
theorem ty_i2 {t : TypeId} {row : List D} {n : Nat} (h : tyD Tryz.prog n t row) (hs : cellsSh Tryz.prog 5 t = some [.int .i64, .int .i64]) : ∃ a b, row = [iD a, iD b] ∧ I64 a ∧ I64 b := by
 obtain ⟨_, _, rfl, ⟨a, rfl, ha⟩, _, _, rfl, ⟨b, rfl, hb⟩, rfl⟩ := ty_sh n 5 _ _ _ h hs
 exact ⟨a, b, rfl, wf_i64 ha, wf_i64 hb⟩
theorem ty_i3 {t : TypeId} {row : List D} {n : Nat} (h : tyD Tryz.prog n t row) (hs : cellsSh Tryz.prog 5 t = some [.int .i64, .int .i64, .int .i64]) : ∃ a b c, row = [iD a, iD b, iD c] ∧ I64 a ∧ I64 b ∧ I64 c := by
 obtain ⟨_, _, rfl, ⟨a, rfl, ha⟩, _, _, rfl, ⟨b, rfl, hb⟩, _, _, rfl, ⟨c, rfl, hc⟩, rfl⟩ := ty_sh n 5 _ _ _ h hs
 exact ⟨a, b, c, rfl, wf_i64 ha, wf_i64 hb, wf_i64 hc⟩
theorem ty_i4 {t : TypeId} {row : List D} {n : Nat} (h : tyD Tryz.prog n t row) (hs : cellsSh Tryz.prog 5 t = some [.int .i64, .int .i64, .int .i64, .int .i64]) : ∃ a b c d, row = [iD a, iD b, iD c, iD d] ∧ I64 a ∧ I64 b ∧ I64 c ∧ I64 d := by
 obtain ⟨_, _, rfl, ⟨a, rfl, ha⟩, _, _, rfl, ⟨b, rfl, hb⟩, _, _, rfl, ⟨c, rfl, hc⟩, _, _, rfl, ⟨d, rfl, hd⟩, rfl⟩ := ty_sh n 5 _ _ _ h hs
 exact ⟨a, b, c, d, rfl, wf_i64 ha, wf_i64 hb, wf_i64 hc, wf_i64 hd⟩
theorem ty_Section {row : List D} {n : Nat} (h : tyD Tryz.prog n t_Section row) : ∃ s : Sec, row = s.enc ∧ I64 s.Kind ∧ I64 s.OC ∧ I64 s.Line := by
 obtain ⟨a, b, c, rfl, q⟩ := ty_i3 h (by kernel_rfl)
 exact ⟨⟨a, b, c⟩, rfl, q⟩
theorem ty_Joint {row : List D} {n : Nat} (h : tyD Tryz.prog n t_Joint row) : ∃ s : Jt, row = s.enc ∧ I64 s.A ∧ I64 s.AEnd ∧ I64 s.B ∧ I64 s.BEnd := by
 obtain ⟨a, b, c, d, rfl, q⟩ := ty_i4 h (by kernel_rfl)
 exact ⟨⟨a, b, c, d⟩, rfl, q⟩
theorem ty_Signal {row : List D} {n : Nat} (h : tyD Tryz.prog n t_Signal row) : ∃ s : Sg, row = s.enc ∧ I64 s.Sec ∧ I64 s.End_ := by
 obtain ⟨a, b, rfl, q⟩ := ty_i2 h (by kernel_rfl)
 exact ⟨⟨a, b⟩, rfl, q⟩
theorem ty_Step {row : List D} {n : Nat} (h : tyD Tryz.prog n t_Step row) : ∃ s : St, row = s.enc ∧ I64 s.Sec ∧ I64 s.In ∧ I64 s.Out := by
 obtain ⟨a, b, c, rfl, q⟩ := ty_i3 h (by kernel_rfl)
 exact ⟨⟨a, b, c⟩, rfl, q⟩
theorem ty_Need {row : List D} {n : Nat} (h : tyD Tryz.prog n t_Need row) : ∃ s : Nd, row = s.enc ∧ I64 s.Sec ∧ I64 s.Pos := by
 obtain ⟨a, b, rfl, q⟩ := ty_i2 h (by kernel_rfl)
 exact ⟨⟨a, b⟩, rfl, q⟩
structure RtI (r : Rt) : Prop where
 entry : I64 r.Entry
 exit : I64 r.Exit
 path : ∀ s ∈ r.Path, I64 s.Sec ∧ I64 s.In ∧ I64 s.Out
 flank : ∀ s ∈ r.Flank, I64 s.Sec ∧ I64 s.Pos
 over : ∀ o ∈ r.Overlap, I64 o
 np : 24 * r.Path.length ≤ 140737488351232
 nf : 16 * r.Flank.length ≤ 140737488351232
 no : 8 * r.Overlap.length ≤ 140737488351232
structure CfI (c : Cf) : Prop where
 secs : ∀ s ∈ c.Secs, I64 s.Kind ∧ I64 s.OC ∧ I64 s.Line
 jts : ∀ s ∈ c.Jts, I64 s.A ∧ I64 s.AEnd ∧ I64 s.B ∧ I64 s.BEnd
 sigs : ∀ s ∈ c.Sigs, I64 s.Sec ∧ I64 s.End_
 xs : ∀ s ∈ c.Xs, I64 s
 rts : ∀ r ∈ c.Rts, RtI r
 age : I64 c.Age
 brake : I64 c.Brake
 hold : I64 c.Hold
 budget : I64 c.Budget
 nsecs : 24 * c.Secs.length ≤ 140737488351232
 njts : 32 * c.Jts.length ≤ 140737488351232
 nsigs : 16 * c.Sigs.length ≤ 140737488351232
 nxs : 8 * c.Xs.length ≤ 140737488351232
 nrts : 96 * c.Rts.length ≤ 140737488351232
theorem ty_RouteZ {row : List D} {n : Nat} (h : tyD Tryz.prog n t_Route row) : ∃ r : Rt, ((∀ s, RtAt Tryz.prog t_Step t_Need t_int s row r) ∧ RtI r) ∧ row[4]? ≠ some .zsl := by
 obtain ⟨_, _, rfl, ⟨a, rfl, ha⟩, _, _, rfl, ⟨b, rfl, hb⟩, d1, _, rfl, h1, d2, _, rfl, h2, d3, _, rfl, h3, _, _, rfl, ⟨sh, rfl⟩, rfl⟩ := ty_sh n 5 _ _ [.int .i64, .int .i64, .sl t_Step, .sl t_Need, .sl t_int, .bool] h (by kernel_rfl)
 obtain ⟨l1, a1, b1, _, e1⟩ := sh_rows (bytes := 24) St.enc _ (fun row n h => ty_Step h) (by kernel_rfl) (by omega) h1
 obtain ⟨l2, a2, b2, _, e2⟩ := sh_rows (bytes := 16) Nd.enc _ (fun row n h => ty_Need h) (by kernel_rfl) (by omega) h2
 obtain ⟨l3, a3, b3, z3, e3⟩ := sh_rows (bytes := 8) Go.Fw.encI _ (fun row n h => ty_i h) (by kernel_rfl) (by omega) h3
 exact ⟨⟨a, b, l1, l2, l3, sh⟩, ⟨fun s => ⟨d1, d2, d3, rfl, a1 s, a2 s, a3 s⟩, wf_i64 ha, wf_i64 hb, b1, b2, b3, e1, e2, e3⟩, fun e => z3 (by injection e)⟩
theorem ty_ConfigZ {cs : List D} {n : Nat} (h : tyD Tryz.prog n t_Config cs) : ∃ c0 c1 c2 c3 c4 c, cs = [c0, c1, c2, c3, c4, iD c.Age, iD c.Brake, iD c.Hold, iD c.Budget] ∧ (∀ s, CfAt s c0 c1 c2 c3 c4 c) ∧ CfI c ∧ RtsNz c4 := by
 obtain ⟨c0, _, rfl, h0, c1, _, rfl, h1, c2, _, rfl, h2, c3, _, rfl, h3, c4, _, rfl, h4, _, _, rfl, ⟨a, rfl, ha⟩, _, _, rfl, ⟨b, rfl, hb⟩, _, _, rfl, ⟨ho, rfl, hho⟩, _, _, rfl, ⟨bu, rfl, hbu⟩, rfl⟩ :=
   ty_sh n 5 _ _ [.sl t_Section, .sl t_Joint, .sl t_Signal, .sl t_int, .sl t_Route, .int .i64, .int .i64, .int .i64, .int .i64] h (by kernel_rfl)
 obtain ⟨l0, a0, b0, _, e0⟩ := sh_rows (bytes := 24) Sec.enc _ (fun row n h => ty_Section h) (by kernel_rfl) (by omega) h0
 obtain ⟨l1, a1, b1, _, e1⟩ := sh_rows (bytes := 32) Jt.enc _ (fun row n h => ty_Joint h) (by kernel_rfl) (by omega) h1
 obtain ⟨l2, a2, b2, _, e2⟩ := sh_rows (bytes := 16) Sg.enc _ (fun row n h => ty_Signal h) (by kernel_rfl) (by omega) h2
 obtain ⟨l3, a3, b3, _, e3⟩ := sh_rows (bytes := 8) Go.Fw.encI _ (fun row n h => ty_i h) (by kernel_rfl) (by omega) h3
 obtain ⟨rows, l4, a4, q4, b4, _, e4⟩ := sh_rel (bytes := 96) (fun row r => ((∀ s, RtAt Tryz.prog t_Step t_Need t_int s row r) ∧ RtI r) ∧ row[4]? ≠ some .zsl) (fun row n h => ty_RouteZ h) (by kernel_rfl) (by omega) h4
 refine ⟨c0, c1, c2, c3, c4, ⟨l0, l1, l2, l3, l4, a, b, ho, bu⟩, rfl, fun s => ⟨a0 s, a1 s, a2 s, a3 s, rows, a4 s, q4, fun i row r x y => (b4 i row r x y).1.1 s⟩, ⟨b0, b1, b2, b3, ?_, wf_i64 ha, wf_i64 hb, wf_i64 hho, wf_i64 hbu, e0, e1, e2, e3, e4⟩, ?_⟩
 · intro r hr
   obtain ⟨i, hi⟩ := List.mem_iff_getElem?.1 hr
   have hi : l4[i]? = some r := hi
   have hlt := (List.getElem?_eq_some_iff.1 hi).1
   obtain ⟨row, hrow⟩ := get_of_lt (l := rows) (j := i) (by omega)
   exact (b4 i row r hrow hi).1.2
 · have hr := (a4 noS).rows
   cases c4 <;> first | trivial | skip
   obtain ⟨rfl, _⟩ := hr
   intro row hrow
   obtain ⟨i, hi⟩ := List.mem_iff_getElem?.1 hrow
   have hlt := (List.getElem?_eq_some_iff.1 hi).1
   obtain ⟨r, hr⟩ := get_of_lt (l := l4) (j := i) (by omega)
   exact (b4 i row r hi hr).2
end
end Go.Proofs.YtfdffboelecgoaaGreatDoor
section
set_option maxRecDepth 20000
namespace Go.Proofs.YtfdffboelecgoaaGreatDoor
open Go.Fw Go.Proofs Go.RowKit
variable {σ σ0 : Store}
theorem IndexFunc_int_ok {d f : D} {l : List Int} {p : Int → Bool} (h : At Tryz.prog σ t_int d (l.map Go.Fw.encI)) (hf : FnIs Tryz.prog σ f (fun x : Int => iA x) l p) :
   Pure Tryz.prog n_slices_IndexFunc_int [.one d, .one f] σ (.a (iA (fidx p l 0))) := by
 have hl := h.size
 rw [List.length_map] at hl
 obtain ⟨f1, a, b, as0', bs, rfl, ha, hb, hf⟩ := hf
 refine W_slices_IndexFunc_int d _ σ _ (h.lenK ⟨fun n s => s = σ ∧ Rng l (fun r => ∀ j : Nat, n = j → fidx p r j = fidx p l 0) n, fun n _ => l.length - n.toNat, ⟨rfl, .start fun j hj => by cases j with | zero => rfl | succ j => omega⟩, ?_⟩)
 rintro n τ ⟨rfl, hr⟩
 refine bcd (fun hlt => ?_) (fun hge => ?_)
 · obtain ⟨j, x, rfl, hx, hj, hF, nx⟩ := hr.step (by simp) hl hlt
   refine h.load (map_get hx) c_int rfl ⟨x, rfl, f1, a, b, as0', bs, rfl, ha, hb, ?_⟩
   have hF := hF j rfl
   rw [fidx] at hF
   refine (hf x (List.mem_of_getElem? hx)).mono ?_
   rintro r s ⟨rfl, rfl⟩
   refine ⟨p x, rfl, bc (fun hp => ?_) (fun hp => ?_)⟩
   · rw [if_pos hp] at hF; exact ⟨by rw [← hF], rfl⟩
   · refine andl rfl (nx _ fun j' hj' => ?_)
     rw [w64_succ (by omega)] at hj'
     have : j' = j + 1 := by omega
     subst this
     rw [if_neg (by rw [hp]; simp)] at hF
     exact hF
 · refine ⟨?_, rfl⟩
   obtain ⟨j, hj, hj2, hF⟩ := hr
   have hF := hF j hj
   rw [List.length_map] at hge
   rw [drop_end (by omega)] at hF
   rw [← hF]; rfl
theorem ContainsFunc_int_ok {d f : D} {l : List Int} {p : Int → Bool} (h : At Tryz.prog σ t_int d (l.map Go.Fw.encI)) (hf : FnIs Tryz.prog σ f (fun x : Int => iA x) l p) :
   Pure Tryz.prog n_slices_ContainsFunc_int [.one d, .one f] σ (.a (bA (l.any p))) :=
 W_slices_ContainsFunc_int d f σ _ ((IndexFunc_int_ok h hf).use ⟨_, rfl, by rw [fidx_any]; exact ⟨rfl, rfl⟩⟩)
theorem ref01_SameInts_ok {a b : D} {la lb : List Int} (ha : At Tryz.prog σ t_int a (la.map Go.Fw.encI)) (hb : At Tryz.prog σ t_int b (lb.map Go.Fw.encI)) : Pure Tryz.prog n_ref01_SameInts [.one a, .one b] σ (.a (bA (decide (la = lb)))) := by
 have hs := ha.size
 rw [List.length_map] at hs
 refine W_ref01_SameInts a b σ _ (ha.lenK (hb.lenK ?_))
 rw [List.length_map, List.length_map]
 refine bcn (fun hne => ⟨?_, rfl⟩) (fun he => ha.lenK ?_)
 · rw [decide_eq_false (fun e => hne (by rw [e]))]
 have hl : la.length = lb.length := by omega
 rw [List.length_map]
 refine ⟨fun n s => s = σ ∧ EqR la lb n, fun n _ => la.length - n.toNat, ⟨rfl, .start _ _⟩, ?_⟩
 rintro n s ⟨rfl, hr⟩
 refine bcd (fun hlt => ?_) (fun hge => ⟨?_, rfl⟩)
 · obtain ⟨j, x, y, rfl, hx, hy, hn, hy2⟩ := hr.step hl rfl hs hlt
   refine ha.load (map_get hx) c_int rfl ⟨x, rfl, hb.load (map_get hy) c_int rfl ⟨y, rfl, bcn (fun e => ⟨?_, rfl⟩) (fun e => andl rfl (hy2 e))⟩⟩
   rw [decide_eq_false (hn e)]
 · rw [decide_eq_true (hr.done hl rfl hge)]
theorem Contains_int_ok {d : D} {l : List Int} (v : Int) (h : At Tryz.prog σ t_int d (l.map Go.Fw.encI)) : Pure Tryz.prog n_slices_Contains_int [.one d, iA v] σ (.a (bA (inL l v))) := by
 refine W_slices_Contains_int d v σ _ ((slices_Index_int_ok v h).use ⟨_, rfl, ?_, rfl⟩)
 have key : ∀ (l : List Int) (j : Nat), decide (idxOf l v j ≥ 0) = inL l v := by
   intro l
   induction l with
   | nil => intro j; simp [idxOf, inL]
   | cons x r ih =>
     intro j
     rw [idxOf]
     by_cases hx : v = x
     · rw [if_pos hx]; simp [inL, hx]
     · rw [if_neg hx, ih, inL, inL]; simp [hx]
 rw [key]
def cflict (c : Cf) (a b : Int) : Bool := (c.lockL a).any fun s => inL (c.lockL b) s
theorem conf_Conflict_of {c0 c1 c2 c3 c4 : D} {c : Cf} {a b : Int} (hL : ∀ (s : Store) (i : Int), DCalls Tryz.prog n_conf_Locks [cfA c0 c1 c2 c3 c4 c, iA i] s (SlPost s t_int ((c.lockL i).map Go.Fw.encI))) :
   Fw.Pure Tryz.prog n_conf_Conflict [cfA c0 c1 c2 c3 c4 c, iA a, iA b] σ (.a (bA (cflict c a b))) := by
 refine .of (W_conf_Conflict _ _ _ _ _ _ _ _ _ a b σ _ ((hL σ b).mono ?_)) (flat_b _)
 rintro r s ⟨rfl, d, rfl, hd⟩
 refine ⟨d, rfl, newObj_intro fun id s1 hid _ he hs => pr_store hs (by simp) fun s2 hs2 ho2 => (hL s2 a).mono ?_⟩
 rintro r s3 ⟨rfl, d1, rfl, hd1⟩
 have hs2 : s3 id = .live t_sl_int [[d]] := hs2
 refine ⟨d1, rfl, (ContainsFunc_int_ok (hd1 s3) (p := fun x => inL (c.lockL b) x) ⟨n_conf_Conflict_1, _, _, [], [.one (.el (.osl id 0 1) 0 0)], rfl, rfl, rfl, fun x _ => ?_⟩).use ⟨_, rfl, rfl, ext_put he hid ho2⟩⟩
 exact W_conf_Conflict_1 x _ s3 _ ⟨_, _, _, rfl, _, box_row hs2, d, rfl, (Contains_int_ok x (hd s3)).use ⟨_, rfl, rfl, rfl⟩⟩
def litS : Cf := ⟨[⟨0, 0, 0⟩, ⟨1, 0, 0⟩, ⟨0, 0, 0⟩, ⟨0, 0, 0⟩, ⟨0, 0, 1⟩], [⟨0, 1, 1, 0⟩, ⟨1, 1, 2, 0⟩, ⟨1, 2, 3, 0⟩, ⟨2, 1, 4, 0⟩], [⟨0, 1⟩, ⟨2, 1⟩], [], [⟨0, 1, [⟨1, 0, 1⟩, ⟨2, 0, 1⟩], [], [], false⟩, ⟨1, -1, [⟨4, 0, 1⟩], [], [], false⟩], 2, 1, 4, 1000⟩
def sD0 : D := .sl 3 [[iD 0, iD 0, iD 0], [iD 1, iD 0, iD 0], [iD 0, iD 0, iD 0], [iD 0, iD 0, iD 0], [iD 0, iD 0, iD 1]]
def sD1 : D := .sl 4 [[iD 0, iD 1, iD 1, iD 0], [iD 1, iD 1, iD 2, iD 0], [iD 1, iD 2, iD 3, iD 0], [iD 2, iD 1, iD 4, iD 0]]
def sD2 : D := .sl 2 [[iD 0, iD 1], [iD 2, iD 1]]
def sD4 : D := .sl 6 [[iD 0, iD 1, .sl 3 [[iD 1, iD 0, iD 1], [iD 2, iD 0, iD 1]], .nils, .nils, .bool false], [iD 1, iD (-1), .sl 3 [[iD 4, iD 0, iD 1]], .nils, .nils, .bool false]]
theorem litS_at (s : Store) : CfAt s sD0 sD1 sD2 .nils sD4 litS :=
 ⟨at_lit c_Section (by simp), at_lit c_Joint (by simp), at_lit c_Signal (by simp), .nil, ⟨_, at_lit c_Route (by simp), rfl, fun i row r h1 h2 => by
   have hi : i = 0 ∨ i = 1 := by have := (List.getElem?_eq_some_iff.1 h1).1; simp at this; omega
   rcases hi with rfl | rfl
   · simp at h1; subst h1
     simp [litS] at h2; subst h2
     exact ⟨_, _, _, rfl, at_lit c_Step (by simp), .nil, .nil⟩
   · simp at h1; subst h1
     simp [litS] at h2; subst h2
     exact ⟨_, _, _, rfl, at_lit c_Step (by simp), .nil, .nil⟩⟩⟩
theorem litS_nz : RtsNz sD4 := by
 intro row hr
 simp only [List.mem_cons, List.not_mem_nil, or_false] at hr
 rcases hr with rfl | rfl <;> (intro e; cases e)
theorem litS_64 : cf64 litS := by
 constructor <;> simp [litS, rt64, i64]
theorem lockL0 : litS.lockL 0 = [1, 2] := by
 show Cf.lockR ⟨0, 1, [⟨1, 0, 1⟩, ⟨2, 0, 1⟩], [], [], false⟩ = [1, 2]
 rw [← insL_lockR]; decide +kernel
theorem litS_check : litS.check = 0 := by decide +kernel
theorem litS_len : (cfTxt litS).length ≤ 2 ^ 20 := by decide +kernel
theorem law06_small_ok : Pure Tryz.prog n_law06_small [] σ (.a (cfA sD0 sD1 sD2 .nils sD4 litS)) := W_law06_small σ _ ⟨rfl, rfl⟩
theorem law06_lives_ok : Pure Tryz.prog n_law06_lives [] σ (.a (bA true)) := by
 have hl := litS_len
 refine W_law06_lives σ _ (law06_small_ok.use ⟨_, _, _, _, _, _, _, _, _, rfl, (conf_Locks_ok litS_at litS_check litS_nz 0).mono ?_⟩)
 rintro r s ⟨rfl, d5, rfl, hd5⟩
 rw [lockL0] at hd5
 refine ⟨d5, rfl, (conf_Text_ok (litS_at s) litS_64 (by omega)).use ⟨_, rfl, (conf_Read_ok (text := baOf (cfTxt litS)) (by rw [baOf_size]; omega)).mono ?_⟩⟩
 rintro r s1 ⟨rfl, e0, e1, e2, e3, e4, rfl, he⟩
 rw [rdText_txt litS_64] at he ⊢
 refine ⟨_, _, _, _, _, _, _, _, _, _, rfl, (conf_Check_ok litS_at).use ⟨_, rfl, ?_⟩⟩
 rw [litS_check]
 refine bce (fun _ => (ref01_SameInts_ok (hd5 s1) (lb := [1, 2]) (at_lit c_int (by simp))).use ⟨_, rfl, bc (fun _ => bce (fun _ => (law06_same_ok (he s1) (litS_at s1) litS_64 litS_64 (by show (cfTxt litS).length ≤ _; omega) (by omega)).use ⟨_, rfl, bc (fun _ => (conf_Approach_ok (litS_at s1) 0).use ⟨_, rfl, ?_⟩) (fun e => ?_)⟩) (fun e => absurd rfl e)) (fun e => by cases e)⟩) (fun e => absurd rfl e)
 · rw [show litS.Approach 0 = 0 from by decide +kernel]
   refine bce (fun _ => (conf_Conflict_of (a := 0) (b := 0) fun s i => conf_Locks_ok litS_at litS_check litS_nz i).use ⟨_, rfl, ?_, rfl⟩) (fun e => absurd rfl e)
   have : cflict litS 0 0 = true := by unfold cflict; rw [lockL0]; rfl
   rw [this]
 · rw [show (some litS).getD noCf = litS from rfl, beq_self_eq_true] at e; cases e
end Go.Proofs.YtfdffboelecgoaaGreatDoor
end
namespace Go.Fw
section
section
variable {c c' : Cf} (h1 : c'.Secs = c.Secs) (h2 : ∀ s e, nxt c'.Jts s e = nxt c.Jts s e) (h3 : c'.Sigs = c.Sigs)
include h1 h2
include h3
end
theorem route_parts {c : Cf} {r : Rt} (h : c.route r = 0) : c.path r = true ∧ r.Flank = c.flank (c.approach r) r.Path ∧ r.Overlap = c.overlap r := by
 unfold Cf.route at h
 split at h
 · cases h
 split at h
 · cases h
 split at h
 · cases h
 rename_i n1 n2 n3
 exact ⟨by simpa using n1, Classical.not_not.1 n2, Classical.not_not.1 n3⟩
end
end Go.Fw
section
set_option maxRecDepth 20000
namespace Go.Proofs.YtfdffboelecgoaaGreatDoor
open Go.Fw Go.Proofs Go.RowKit
variable {σ σ0 : Store}
def LawTrue (f : FuncId) (xs : List A) : Prop := DCalls Tryz.prog f xs noS fun r _ => r = .a (.one (.bool true))
end Go.Proofs.YtfdffboelecgoaaGreatDoor
end
namespace Go.Fw
section
def wother (w : Int × Int × Int) (i : Int) : Option Int := if i = w.1 then some w.2.1 else if i = w.2.1 then some w.1 else none
def wout : List (Int × Int × Int) → Int → Int → Option Int
 | [], _, _ => none
 | w :: r, i, p => match wother w i with
   | some o => if w.2.2 = 0 ∨ w.2.2 = p then some o else wout r i p
   | none => wout r i p
theorem wpos_wout {k i o p : Int} (h : wpos (wayL k) i o = some p) : wout (wayL k) i p = some o ∧ 0 ≤ i ∧ i < nends k := by
 unfold wayL nends at *
 split at h
 · rename_i hk
   rw [if_pos hk]
   simp only [wpos] at h
   split at h
   · rename_i hc
     rw [hk]
     rcases hc with ⟨h1, h2⟩ | ⟨h1, h2⟩
     · subst h1 h2; simp [wout, wother]
     · subst h1 h2; simp [wout, wother]
   · cases h
 · rename_i hk
   rw [if_neg hk]
   split at h
   · rename_i hk1
     rw [if_pos hk1, if_neg hk, if_pos hk1]
     simp only [wpos] at h
     split at h
     · rename_i hc
       injection h with h
       subst h
       rcases hc with ⟨h1, h2⟩ | ⟨h1, h2⟩
       · subst h1 h2; simp [wout, wother]
       · subst h1 h2; simp [wout, wother]
     · split at h
       · rename_i hc
         injection h with h
         subst h
         rcases hc with ⟨h1, h2⟩ | ⟨h1, h2⟩
         · subst h1 h2; simp [wout, wother]
         · subst h1 h2; simp [wout, wother]
       · cases h
   · rename_i hk1
     rw [if_neg hk1, if_neg hk, if_neg hk1]
     split at h
     · rename_i hk2
       rw [if_pos hk2, if_pos hk2]
       simp only [wpos] at h
       split at h
       · rename_i hc
         injection h with h
         subst h
         rcases hc with ⟨h1, h2⟩ | ⟨h1, h2⟩
         · subst h1 h2; simp [wout, wother]
         · subst h1 h2; simp [wout, wother]
       · split at h
         · rename_i hc
           injection h with h
           subst h
           rcases hc with ⟨h1, h2⟩ | ⟨h1, h2⟩
           · subst h1 h2; simp [wout, wother]
           · subst h1 h2; simp [wout, wother]
         · cases h
     · cases h
def PathRun (c : Cf) : List St → Int → Int → Prop
 | [], _, _ => True
 | s :: r, a, e => nxt c.Jts a e = some (s.Sec, s.In) ∧ PathRun c r s.Sec s.Out
theorem prunA_run {c : Cf} {r : Rt} {ex : Option Sg} : ∀ {l : List St} {a : Sg} {seen : List Int}, prunA c r ex l a seen = true → PathRun c l a.Sec a.End_
 | [], _, _, _ => trivial
 | s :: l, a, seen, h => by
   rw [prunA, Bool.and_eq_true] at h
   refine ⟨?_, prunA_run h.2⟩
   have h1 := h.1
   unfold pstep at h1
   cases hn : nxt c.Jts a.Sec a.End_ with
   | none => rw [hn] at h1; cases h1
   | some p =>
     obtain ⟨q, i⟩ := p
     rw [hn] at h1
     simp only [Bool.and_eq_true, decide_eq_true_eq] at h1
     rw [h1.1.1.1.1.1, h1.1.1.1.1.2]
theorem route_run {c : Cf} {r : Rt} (h : c.route r = 0) : ∃ a, geti c.Sigs r.Entry = some a ∧ PathRun c r.Path a.Sec a.End_ := by
 obtain ⟨h1, _⟩ := route_parts h
 unfold Cf.path at h1
 cases hg : geti c.Sigs r.Entry with
 | none => rw [hg] at h1; cases h1
 | some a =>
   rw [hg] at h1
   simp only [Bool.and_eq_true] at h1
   exact ⟨a, rfl, prunA_run h1.2⟩
theorem nodup_le : ∀ (n : Nat) (l : List Int), l.Nodup → (∀ x ∈ l, 0 ≤ x ∧ x < n) → l.length ≤ n
 | 0, l, _, h => by
   cases l with
   | nil => simp
   | cons x l => have := h x (by simp); omega
 | n + 1, l, hn, h => by
   have h1 := nodup_le n (l.filter fun x => decide (x ≠ (n : Int))) (hn.filter _) fun x hx => by
     rw [List.mem_filter] at hx
     have := h x hx.1
     have : x ≠ n := of_decide_eq_true hx.2
     omega
   have h2 : ∀ l : List Int, l.Nodup → l.length ≤ (l.filter fun x => decide (x ≠ (n : Int))).length + 1 := by
     intro l
     induction l with
     | nil => intro _; simp
     | cons x l ih =>
       intro hn
       rw [List.nodup_cons] at hn
       by_cases hx : x = n
       · subst hx
         have : l.filter (fun y => decide (y ≠ (n : Int))) = l := List.filter_eq_self.2 fun y hy => decide_eq_true fun e => hn.1 (e ▸ hy)
         rw [List.filter_cons_of_neg (by simp), this]; simp
       · rw [List.filter_cons_of_pos (by simpa using hx)]
         have := ih hn.2
         simp only [List.length_cons]; omega
   have := h2 l hn
   omega
end
end Go.Fw
section
set_option maxRecDepth 20000
namespace Go.Proofs.YtfdffboelecgoaaGreatDoor
open Go.Fw Go.Proofs Go.RowKit
variable {σ σ0 : Store}
theorem topo_Way_ok (k i p : Int) : Fw.Pure Tryz.prog n_topo_Way [iA k, iA i, iA p] σ (opt1 (wout (wayL k) i p)) := by
 refine W_topo_Way k i p σ _ ((topo_ways_ok k).mono ?_)
 rintro r σ' ⟨rfl, d, rfl, hd⟩
 refine ⟨d, rfl, (hd σ').lenK ⟨fun m s => s = σ' ∧ Rng (wayL k) (fun r => wout r i p = wout (wayL k) i p) m, fun m _ => (wayL k).length - m.toNat, ⟨rfl, .start rfl⟩, ?_⟩⟩
 rintro m _ ⟨rfl, hr⟩
 refine bcd (fun hlt => ?_) (fun hge => ?_)
 · obtain ⟨j, x, rfl, hx, hj, hF, nx⟩ := hr.step (by simp) (wayL_len k) hlt
   refine (hd _).load (map_get hx) c_topo_way rfl ⟨x.1, x.2.1, x.2.2, rfl, (way_other_ok _ _ _ _).use ?_⟩
   have e : (if i = x.1 then some x.2.1 else if i = x.2.1 then some x.1 else none) = wother x i := rfl
   rw [e]
   rw [wout] at hF
   cases ho : wother x i with
   | none =>
     rw [ho] at hF
     exact ⟨0, false, rfl, andl rfl (nx (fun r => wout r i p = wout (wayL k) i p) hF)⟩
   | some o =>
     rw [ho] at hF
     refine ⟨o, true, rfl, bce (fun h1 => ?_) (fun h1 => bce (fun h2 => ?_) (fun h2 => ?_))⟩
     · have hF : (if x.2.2 = 0 ∨ x.2.2 = p then some o else _) = _ := hF
       rw [if_pos (.inl h1)] at hF
       exact ⟨by rw [← hF]; rfl, rfl⟩
     · have hF : (if x.2.2 = 0 ∨ x.2.2 = p then some o else _) = _ := hF
       rw [if_pos (.inr h2)] at hF
       exact ⟨by rw [← hF]; rfl, rfl⟩
     · have hF : (if x.2.2 = 0 ∨ x.2.2 = p then some o else _) = _ := hF
       rw [if_neg (by rintro (h | h); exact h1 h; exact h2 h)] at hF
       exact andl rfl (nx (fun r => wout r i p = wout (wayL k) i p) hF)
 · have := hr.done (by simp) hge
   exact ⟨by rw [← this]; rfl, rfl⟩
theorem map_ne {s : Store} {id : Nat} {f : Int → Option A} {el : TypeId} {d : D} {rs : List (List D)} (hm : MapAt Tryz.prog t_int iA s id f) (h : At Tryz.prog s el d rs) : idOf d ≠ some id := fun e => by
 obtain ⟨c, es, h1, _⟩ := hm
 cases d with
 | osl a b n =>
   simp only [idOf, Option.some.injEq] at e
   subst e
   obtain ⟨t, rows, g1, _⟩ := h.lt_live
   rw [h1] at g1; cases g1
 | _ => simp [idOf] at e
structure FlI (σ : Store) (id : Nat) (N : Nat) (path : List St) (n n1 : Int) (d : D) (b : Bool) (s : Store) (done : List St) (seen : List Int) (f : Int → Option A) : Prop where
 map : MapAt Tryz.prog t_int iA s id f
 f : ∀ z, f z = if z ∈ seen then some (iA 1) else none
 own : Own Tryz.prog σ s t_Step d (done.map St.enc)
 nd : seen.Nodup
 rg : ∀ z ∈ seen, 0 ≤ z ∧ z < N
 len : seen.length = done.length
 ph : (∃ st rest, path = done ++ st :: rest ∧ b = true ∧ n = st.Sec ∧ n1 = st.In ∧ ∀ z ∈ seen, z ∈ done.map St.Sec) ∨ path.length ≤ done.length ∧ done.take path.length = path
theorem path_split {c : Cf} : ∀ {l done : List St} {st : St} {rest : List St} {a e : Int}, PathRun c l a e → l = done ++ st :: rest → PathRun c rest st.Sec st.Out
 | [], done, st, rest, a, e, _, h => by simp at h
 | x :: l, [], st, rest, a, e, h, hl => by
   simp only [List.nil_append, List.cons.injEq] at hl
   obtain ⟨rfl, rfl⟩ := hl
   exact h.2
 | x :: l, y :: done, st, rest, a, e, h, hl => by
   simp only [List.cons_append, List.cons.injEq] at hl
   exact path_split h.2 hl.2
theorem follow_ok {c0 c1 c2 c3 c4 : D} {c : Cf} (h : ∀ s, CfAt s c0 c1 c2 c3 c4 c) (hok : c.check = 0) {x : Rt} (hx : x ∈ c.Rts) {dp : D} {pos : List Int} (hp : At Tryz.prog σ t_int dp (pos.map Go.Fw.encI)) (hpl : pos.length = c.Secs.length)
   (hpv : ∀ st ∈ x.Path, ∃ y p, geti c.Secs st.Sec = some y ∧ wpos (wayL y.Kind) st.In st.Out = some p ∧ pos[st.Sec.toNat]? = some p) {st0 : St} {rest0 : List St} (hpath : x.Path = st0 :: rest0) :
   DCalls Tryz.prog n_topo_Follow [.one c0, .one c1, iA st0.Sec, iA st0.In, .one dp] σ fun r s' => s' = σ ∧ ∃ (d : D) (l : List St), r = .a (.one d) ∧ (∀ s, At Tryz.prog s t_Step d (l.map St.enc)) ∧ x.Path.length ≤ l.length ∧ l.take x.Path.length = x.Path := by
 obtain ⟨b1, b2, b3, b4, b5, b6⟩ := check_parts hok
 have hsl := ((topoOk_iff _ _).1 b1).1
 have hro := check_rt hok hx
 obtain ⟨a, _, hrun⟩ := route_run (routes_zero b5 x hx)
 have hst := fun st hs => (hro.step st hs).1.sec
 refine (W_topo_Follow c0 c1 st0.Sec st0.In dp σ _ ?_).ret (Q := fun r s => ∃ (d : D) (l : List St), r = .a (.one d) ∧ Own Tryz.prog σ s t_Step d (l.map St.enc) ∧ x.Path.length ≤ l.length ∧ l.take x.Path.length = x.Path) ?_
 · refine newObj_intro fun id s1 hid _ he1 hs1 => ⟨fun n n1 d b s => ∃ done seen f, FlI σ id c.Secs.length x.Path n n1 d b s done seen f, fun n n1 d b s => 2 * (c.Secs.length - dlen d) + (if b then 1 else 0), ⟨[], [], fun _ => none, ⟨MapAt.new hs1, fun z => by simp, .nil _ he1, by simp, fun z hz => by simp at hz, rfl, .inl ⟨st0, rest0, hpath, rfl, rfl, rfl, fun z hz => by simp at hz⟩⟩⟩, ?_⟩
   rintro n n1 d b s ⟨done, seen, f, hI⟩
   have fin : (∀ st rest, x.Path = done ++ st :: rest → b = true → n = st.Sec → n1 = st.In → (∀ z ∈ seen, z ∈ done.map St.Sec) → False) → ∀ s', Own Tryz.prog σ s' t_Step d (done.map St.enc) → ∃ (d' : D) (l : List St), RV.a (.one d) = .a (.one d') ∧ Own Tryz.prog σ s' t_Step d' (l.map St.enc) ∧ x.Path.length ≤ l.length ∧ l.take x.Path.length = x.Path := by
     intro hA s' ho
     rcases hI.ph with ⟨st, rest, e1, e0, e2, e3, e4⟩ | hB
     · exact (hA st rest e1 e0 e2 e3 e4).elim
     · exact ⟨d, done, rfl, ho, hB⟩
   have mem : ∀ {st : St} {rest : List St}, x.Path = done ++ st :: rest → st ∈ x.Path := fun e => by rw [e]; simp
   refine bc (fun hb => ?_) (fun hb => ?_)
   · intro R hR
     refine (h s).secs.lenK ?_
     rw [List.length_map, w64_id (by omega) (by omega)]
     refine (topo_between_ok _ _ _).use ⟨_, rfl, bcnot (fun e1 => fin (fun st rest q1 q0 q2 q3 q4 => ?_) s hI.own) (fun e1 => ?_)⟩
     · obtain ⟨y, hy, _⟩ := hst st (mem q1)
       have := geti_some hy
       have := of_decide_eq_false e1
       omega
     have e1 := of_decide_eq_true e1
     obtain ⟨y, hy⟩ := get_of_lt (l := c.Secs) (j := n.toNat) (by omega)
     have hnn : n = (n.toNat : Int) := by omega
     have hgy : geti c.Secs n = some y := by rw [hnn, geti_nat]; exact hy
     refine (h s).secs.load (map_get hy) c_Section hnn ⟨y.Kind, rfl, (topo_Ends_ok y.Kind).use ⟨_, rfl, ?_⟩⟩
     have hne := nends_le y.Kind
     rw [w64_id (by omega) (by omega)]
     refine (topo_between_ok _ _ _).use ⟨_, rfl, bcnot (fun e2 => fin (fun st rest q1 q0 q2 q3 q4 => ?_) s hI.own) (fun e2 => ?_)⟩
     · obtain ⟨y', p, hy', hw, _⟩ := hpv st (mem q1)
       rw [← q2, hgy] at hy'
       injection hy' with hy'
       subst hy'
       have := (wpos_wout hw).2
       have := of_decide_eq_false e2
       omega
     by_cases hseen : n ∈ seen
     · refine hI.map.lookI keysI n (n := 1) (by rw [hI.f, if_pos hseen]; rfl) (bcd (fun _ => fin (fun st rest q1 q0 q2 q3 q4 => ?_) s hI.own) (fun h => absurd (by decide) h))
       have hd := hro.dup
       rw [q1, List.map_append, List.map_cons, List.nodup_append] at hd
       exact hd.2.2 n (q4 n hseen) st.Sec (by simp) q2
     refine hI.map.lookI keysI n (n := 0) (by rw [hI.f, if_neg hseen]; rfl) (bcd (fun h => absurd h (by decide)) (fun _ => hR s ?_))
     have hmne := map_ne hI.map hI.own.at_
     refine hI.map.lookI keysI n (n := 0) (by rw [hI.f, if_neg hseen]; rfl) (hI.map.put keysI n fun s2 f2 hm2 hf2 hfx hs2 hne2 => ?_)
     have ho2 := pr_other hI.own hid hmne hs2
     have hfz : ∀ z, f2 z = if z ∈ n :: seen then some (iA 1) else none := fun z => by
       by_cases hz : z = n
       · subst hz; rw [hfx, if_pos (by simp)]; rfl
       · rw [hf2 z hz, hI.f]; simp [hz]
     have hnd : (n :: seen).Nodup := List.nodup_cons.2 ⟨hseen, hI.nd⟩
     have hrg : ∀ z ∈ n :: seen, 0 ≤ z ∧ z < c.Secs.length := fun z hz => by
       rcases List.mem_cons.1 hz with rfl | hz
       · omega
       · exact hI.rg z hz
     have hle := nodup_le c.Secs.length (n :: seen) hnd hrg
     have hlen := hI.len
     have hdl := hI.own.at_.dlen
     rw [List.length_map] at hdl
     simp only [List.length_cons] at hle
     intro R1 hR1
     have step : ∀ p s3, Own Tryz.prog σ s3 t_Step d (done.map St.enc) → MapAt Tryz.prog t_int iA s3 id f2 → (∀ st rest, x.Path = done ++ st :: rest → n = st.Sec → ∀ y p', geti c.Secs st.Sec = some y → wpos (wayL y.Kind) st.In st.Out = some p' → p = p') → R1 p s3 := by
       intro p s3 ho3 hm3 hpp
       refine hR1 p s3 ((h s3).secs.load (map_get hy) c_Section hnn ⟨y.Kind, rfl, (topo_Way_ok y.Kind n1 p).use (opt1_ex _ ?_)⟩)
       have nofr : ∀ {id' : Nat} {s' : Store}, True := trivial
       have app : ∀ o : Int, (∀ st rest, x.Path = done ++ st :: rest → n = st.Sec → n1 = st.In → o = st.Out ∧ (wout (wayL y.Kind) n1 p).isSome = true) → ∀ d2 s5, Own Tryz.prog σ s5 t_Step d2 ((done ++ [(⟨n, n1, o⟩ : St)]).map St.enc) → MapAt Tryz.prog t_int iA s5 id f2 → ∀ n' n1' b', (∀ st rest, x.Path = done ++ st :: rest → n = st.Sec → n1 = st.In → (∀ st2 rest2, rest = st2 :: rest2 → b' = true ∧ n' = st2.Sec ∧ n1' = st2.In)) →
           (∃ done seen f, FlI σ id c.Secs.length x.Path n' n1' d2 b' s5 done seen f) ∧ 2 * (c.Secs.length - dlen d2) + (if b' then 1 else 0) < 2 * (c.Secs.length - dlen d) + (if b then 1 else 0) := by
         intro o hoo d2 s5 ho5 hm5 n' n1' b' hnext
         have hdl2 := ho5.at_.dlen
         rw [List.length_map, List.length_append] at hdl2
         simp only [List.length_cons, List.length_nil] at hdl2
         refine ⟨⟨done ++ [⟨n, n1, o⟩], n :: seen, f2, ⟨hm5, hfz, ho5, hnd, hrg, by simp only [List.length_cons, List.length_append, List.length_nil]; omega, ?_⟩⟩, by rw [hdl2, hdl, hb]; split <;> simp <;> omega⟩
         rcases hI.ph with ⟨st, rest, q1, _, q2, q3, q4⟩ | ⟨q1, q2⟩
         · have hst' : (⟨n, n1, o⟩ : St) = st := by rw [q2, q3, (hoo st rest q1 q2 q3).1]
           cases rest with
           | nil =>
             refine .inr ⟨by rw [q1]; simp, ?_⟩
             rw [hst', ← q1, List.take_length]
           | cons st2 rest2 =>
             obtain ⟨w1, w2, w3⟩ := hnext st (st2 :: rest2) q1 q2 q3 st2 rest2 rfl
             refine .inl ⟨st2, rest2, by rw [hst', q1]; simp, w1, w2, w3, fun z hz => ?_⟩
             rw [List.map_append]
             rcases List.mem_cons.1 hz with rfl | hz
             · simp
             · exact List.mem_append_left _ (q4 z hz)
         · refine .inr ⟨by simp only [List.length_append, List.length_cons, List.length_nil]; omega, ?_⟩
           rw [List.take_append_of_le_length q1, q2]
       have keep : ∀ {d2 : D} {s4 s5 : Store} {ns : List (List D)}, Ext s3 s4 → (∀ i, s4 i ≠ .free → (∀ a b, d ≠ .osl i a b) → s5 i = s4 i) → MapAt Tryz.prog t_int iA s5 id f2 := fun {d2 s4 s5 ns} he hk => by
         obtain ⟨cl, es, g1, g2⟩ := hm3
         have h4 : s4 id = s3 id := he id (by rw [g1]; intro e; cases e)
         refine MapAt.same ⟨cl, es, g1, g2⟩ ((hk id (by rw [h4, g1]; intro e; cases e) fun a b e => ?_).trans h4)
         exact map_ne ⟨cl, es, g1, g2⟩ ho3.at_ (by rw [e]; rfl)
       have right : ∀ st rest, x.Path = done ++ st :: rest → n = st.Sec → n1 = st.In → wout (wayL y.Kind) n1 p = some st.Out := fun st rest q1 q2 q3 => by
         obtain ⟨y', p', hy', hw, _⟩ := hpv st (mem q1)
         have := hpp st rest q1 q2 y' p' hy' hw
         subst this
         rw [← q2, hgy] at hy'
         injection hy' with hy'
         subst hy'
         rw [q3]; exact (wpos_wout hw).1
       refine bcnot (fun e3 => ?_) (fun e3 => ?_)
       · refine newObj_intro fun id4 s4 hid4 _ he4 hs4 => (ho3.ext' he4).append (At.fresh hs4 (by simp) rfl) (by simp; omega) (by simp; omega) fun d2 s5 ho5 hk5 _ => ?_
         have ho5 : Own Tryz.prog σ s5 t_Step d2 ((done ++ [(⟨n, n1, -1⟩ : St)]).map St.enc) := by rw [List.map_append]; exact ho5
         rw [e3]
         refine (app (-1) (fun st rest q1 q2 q3 => ?_) d2 s5 ho5 (keep (d2 := d2) (ns := []) he4 hk5) n n1 false fun st rest q1 q2 q3 st2 rest2 _ => ?_)
         · rw [right st rest q1 q2 q3] at e3; cases e3
         · rw [right st rest q1 q2 q3] at e3; cases e3
       · refine newObj_intro fun id4 s4 hid4 _ he4 hs4 => (ho3.ext' he4).append (At.fresh hs4 (by simp) rfl) (by simp; omega) (by simp; omega) fun d2 s5 ho5 hk5 _ => ?_
         rw [e3]
         generalize ho : (wout (wayL y.Kind) n1 p).getD 0 = o at *
         have ho5 : Own Tryz.prog σ s5 t_Step d2 ((done ++ [(⟨n, n1, o⟩ : St)]).map St.enc) := by rw [List.map_append]; exact ho5
         refine (topo_Next_ok n o (h s5).jts).use (opt2_ex _ ?_)
         refine app o (fun st rest q1 q2 q3 => ?_) d2 s5 ho5 (keep (d2 := d2) (ns := []) he4 hk5) _ _ _ fun st rest q1 q2 q3 st2 rest2 hr => ?_
         · rw [right st rest q1 q2 q3] at ho; exact ⟨ho.symm, e3⟩
         · have e4 : o = st.Out := by rw [right st rest q1 q2 q3] at ho; exact ho.symm
           have := path_split hrun q1
           rw [hr] at this
           rw [q2, e4, this.1]
           exact ⟨rfl, rfl, rfl⟩
     have hp2 : At Tryz.prog s2 t_int dp (pos.map Go.Fw.encI) := hp.ext ho2.ext
     refine hp2.lenK ?_
     rw [List.length_map, hpl]
     refine bcd (fun hlt => ?_) (fun hge => absurd (show n < (c.Secs.length : Int) by omega) hge)
     obtain ⟨p, hpv2⟩ := get_of_lt (l := pos) (j := n.toNat) (by omega)
     refine hp2.load (map_get hpv2) c_int hnn ⟨p, rfl, step p s2 ho2 hm2 fun st rest q1 q2 y' p' hy' hw => ?_⟩
     obtain ⟨y2, p2, hy2, hw2, hp3⟩ := hpv st (mem q1)
     rw [hy'] at hy2
     injection hy2 with hy2
     subst hy2
     rw [hw] at hw2
     injection hw2 with hw2
     rw [← q2, hpv2] at hp3
     injection hp3 with hp3
     rw [hp3, hw2]
   · exact fin (fun st rest q1 q0 q2 q3 q4 => by rw [hb] at q0; cases q0) s hI.own
 · rintro r s ⟨d, l, rfl, ho, h1, h2⟩
   obtain ⟨r', s', hr, rfl, d', rfl, hd⟩ := own_fin ho (fun row hrow x hx => by
     obtain ⟨a, _, rfl⟩ := List.mem_map.1 hrow
     exact st_flat a x hx)
   exact ⟨_, _, hr, rfl, d', l, rfl, hd, h1, h2⟩
end Go.Proofs.YtfdffboelecgoaaGreatDoor
end
section
set_option maxRecDepth 20000
namespace Go.Proofs.YtfdffboelecgoaaGreatDoor
open Go.Fw Go.Proofs Go.RowKit
variable {σ σ0 : Store}
theorem SameSteps_ok {a b : D} {l : List St} (ha : At Tryz.prog σ t_Step a (l.map St.enc)) (hb : At Tryz.prog σ t_Step b (l.map St.enc)) : Fw.Pure Tryz.prog n_ref05_SameSteps [.one a, .one b] σ (.a (bA true)) := by
 have hs := ha.size
 rw [List.length_map] at hs
 refine W_ref05_SameSteps a b σ _ (ha.lenK (hb.lenK (bcn (fun hne => absurd rfl hne) (fun _ => ha.lenK ⟨fun n s => s = σ ∧ ∃ j : Nat, n = j ∧ j ≤ l.length, fun n _ => l.length - n.toNat, ⟨rfl, 0, rfl, by omega⟩, ?_⟩))))
 rintro n s ⟨rfl, j, rfl, hj⟩
 rw [List.length_map]
 refine bcd (fun hlt => ?_) (fun hge => ⟨rfl, rfl⟩)
 obtain ⟨x, hx⟩ := get_of_lt (l := l) (j := j) (by omega)
 refine ha.load (map_get hx) c_Step rfl ⟨x.Sec, x.In, x.Out, rfl, hb.load (map_get hx) c_Step rfl ⟨x.Sec, x.In, x.Out, rfl, bcnot (fun e => ?_) (fun _ => ?_)⟩⟩
 · simp at e
 · rw [w64_succ (by omega)]
   exact ⟨⟨rfl, j + 1, rfl, by omega⟩, by show l.length - ((j + 1 : Nat) : Int).toNat < l.length - ((j : Nat) : Int).toNat; omega⟩
theorem cflict_symm (c : Cf) (a b : Int) : cflict c a b = cflict c b a := by
 have key : ∀ a b, cflict c a b = true → cflict c b a = true := fun a b h => by
   unfold cflict at h ⊢
   obtain ⟨s, hs, h2⟩ := List.any_eq_true.1 h
   have h2 : s ∈ c.lockL b := of_decide_eq_true h2
   exact List.any_eq_true.2 ⟨s, h2, decide_eq_true hs⟩
 cases h : cflict c a b with
 | true => rw [key a b h]
 | false =>
   cases h2 : cflict c b a with
   | false => rfl
   | true => rw [key b a h2] at h; cases h
theorem cflict_self {c : Cf} {j : Nat} {x : Rt} (hx : c.Rts[j]? = some x) (hp : 1 ≤ x.Path.length) : cflict c j j = true := by
 have hl : c.lockL j = Cf.lockR x := by unfold Cf.lockL; rw [geti_nat, hx]
 obtain ⟨s, hs⟩ := get_of_lt (l := x.Path) (j := 0) (by omega)
 have hm : s.Sec ∈ Cf.lockR x := mem_lockR.2 (.inr (.inl (List.mem_map.2 ⟨s, List.mem_of_getElem? hs, rfl⟩)))
 unfold cflict
 rw [hl]
 exact List.any_eq_true.2 ⟨s.Sec, hm, decide_eq_true hm⟩
theorem law06_ConfWays_ok {xs : List A} (h : TyAs Tryz.prog [t_Config] xs) : LawTrue n_law06_ConfWays xs := by
 obtain ⟨a0, xs, rfl, h0, hr0⟩ := tys_cons h
 obtain rfl := tys_nil hr0
 obtain ⟨cs, _, rfl, p0⟩ := tya_agg h0 (by kernel_rfl)
 obtain ⟨c0, c1, c2, c3, c4, c, rfl, hc, hci, hz⟩ := ty_ConfigZ p0
 clear h h0 hr0 p0
 refine W_law06_ConfWays _ _ _ _ _ _ _ _ _ noS _ (law06_lives_ok.use ⟨true, rfl, bcnot (fun e => by cases e) (fun _ => (conf_Check_ok hc).use ⟨_, rfl, bcn (fun _ => rfl) (fun hok => ?_)⟩)⟩)
 obtain ⟨rows, hat, hlen, hrow⟩ := rts_froz fun s => (hc s).rts
 obtain ⟨b1, b2, b3, b4, b5, b6⟩ := check_parts hok
 have hsl := ((topoOk_iff _ _).1 b1).1
 refine (hat noS).lenK ⟨fun n s => ∃ j : Nat, n = j ∧ j ≤ rows.length, fun n _ => rows.length - n.toNat, ⟨0, rfl, by omega⟩, ?_⟩
 rintro n s ⟨j, rfl, hj⟩
 refine bcd (fun hlt => ?_) (fun hge => rfl)
 obtain ⟨row, hrw⟩ := get_of_lt (l := rows) (j := j) (by omega)
 obtain ⟨x, hx⟩ := get_of_lt (l := c.Rts) (j := j) (by omega)
 obtain ⟨d1, d2, d3, rfl, q1, q2, q3⟩ := hrow j row x hrw hx
 have hmem := List.mem_of_getElem? hx
 have hro := check_rt hok hmem
 have hplen := hro.len
 obtain ⟨a, hga, hrun⟩ := route_run (routes_zero b5 x hmem)
 obtain ⟨g0, g1, g2⟩ := geti_some hga
 obtain ⟨st0, rest0, hpath⟩ : ∃ st0 rest0, x.Path = st0 :: rest0 := by
   cases hp : x.Path with
   | nil => have := hro.len; rw [hp] at this; simp at this
   | cons st r => exact ⟨st, r, rfl⟩
 have hr1 := hrun
 rw [hpath] at hr1
 have happ : c.approach x = a.Sec := by unfold Cf.approach; rw [hga]; rfl
 refine (hat s).load hrw c_Route rfl ⟨_, _, d1, d2, d3, _, rfl, (hc s).sigs.load (map_get g2) c_Signal (by omega) ⟨a.Sec, a.End_, rfl, (topo_Next_ok a.Sec a.End_ (hc s).jts).use ?_⟩⟩
 rw [hr1.1]
 refine ⟨st0.Sec, st0.In, true, rfl, ?_⟩
 intro R hR
 have hp0 : x.Path[0]? = some st0 := by rw [hpath]; rfl
 refine bcnot (fun e => by cases e) (fun _ => (q1 s).lenK (bce (fun e => ?_) (fun _ => (q1 s).load (j := 0) (map_get hp0) c_Step rfl ⟨st0.Sec, rfl, bcn (fun e => absurd rfl e) (fun _ => (q1 s).load (j := 0) (map_get hp0) c_Step rfl ⟨st0.In, rfl, bcn (fun e => absurd rfl e) (fun _ => ⟨rfl, hR s ?_⟩)⟩)⟩)))
 · rw [List.length_map, hpath] at e; simp at e; omega
 clear R hR
 refine (hc s).secs.lenK ?_
 rw [List.length_map]
 refine ⟨by omega, by omega, by omega, newObj_intro fun id s1 hid _ he1 hs1 => ?_⟩
 rw [Int.toNat_natCast] at hs1 ⊢
 have hrep : List.replicate c.Secs.length [D.int .i64 0] = (List.replicate c.Secs.length (0 : Int)).map Go.Fw.encI := by rw [List.map_replicate]; rfl
 rw [hrep] at hs1
 refine (q1 s1).lenK ⟨fun n s' => ∃ (k : Nat) (vals : List Int), n = k ∧ k ≤ x.Path.length ∧ s' id = .live t_int (vals.map Go.Fw.encI) ∧ vals.length = c.Secs.length ∧ ∀ st ∈ x.Path.take k, ∃ y p, geti c.Secs st.Sec = some y ∧ wpos (wayL y.Kind) st.In st.Out = some p ∧ vals[st.Sec.toNat]? = some p, fun n _ => x.Path.length - n.toNat, ⟨0, _, rfl, by omega, hs1, by simp, fun st h => by simp at h⟩, ?_⟩
 rintro n s2 ⟨k, vals, rfl, hk, hv, hvl, hvp⟩
 rw [List.length_map]
 have hA : At Tryz.prog s2 t_int (.osl id 0 c.Secs.length) (vals.map Go.Fw.encI) := At.fresh hv (by rw [List.length_map, hvl]; omega) (by rw [List.length_map, hvl])
 refine bcd (fun hlt => ?_) (fun hge => ?_)
 · obtain ⟨st, hst⟩ := get_of_lt (l := x.Path) (j := k) (by omega)
   obtain ⟨y, hy, hw, _⟩ := (hro.step st (List.mem_of_getElem? hst)).1.sec
   obtain ⟨y0, y1, y2⟩ := geti_some hy
   obtain ⟨p, hp⟩ := Option.isSome_iff_exists.1 hw
   obtain ⟨v0, hv0⟩ := get_of_lt (l := vals) (j := st.Sec.toNat) (by omega)
   refine (q1 s2).load (map_get hst) c_Step rfl ⟨st.Sec, st.In, st.Out, rfl, (hc s2).secs.load (map_get y2) c_Section (by omega) ⟨y.Kind, rfl, (topo_Pos_ok y.Kind st.In st.Out).use ?_⟩⟩
   rw [hp]
   refine ⟨p, true, rfl, hA.idxK (j := st.Sec.toNat) c_int (by omega) (by rw [List.length_map]; omega) ?_⟩
   refine ⟨id, 0, c.Secs.length, t_int, vals.map Go.Fw.encI, Go.Fw.encI v0, rfl, by omega, hv, by rw [Nat.zero_add]; exact map_get hv0, by simp [Go.Fw.encI], rfl, ⟨k + 1, vals.set st.Sec.toNat p, by rw [w64_succ (by omega)], by omega, ?_, by rw [List.length_set]; exact hvl, fun st' hst' => ?_⟩, ?_⟩
   · rw [Store.set_same, Nat.zero_add, List.map_set]; rfl
   · rw [List.take_add_one, hst] at hst'
     have hdup := hro.dup
     rcases List.mem_append.1 hst' with h1 | h1
     · obtain ⟨y', p', k1, k2, k3⟩ := hvp st' h1
       refine ⟨y', p', k1, k2, ?_⟩
       have hne : st.Sec ≠ st'.Sec := fun e => by
         obtain ⟨i, hi⟩ := List.getElem?_of_mem h1
         rw [List.getElem?_take] at hi
         split at hi
         · rename_i hik
           have h2 : (x.Path.map St.Sec)[i]? = some st.Sec := by rw [List.getElem?_map, hi, e]; rfl
           have h3 : (x.Path.map St.Sec)[k]? = some st.Sec := by rw [List.getElem?_map, hst]; rfl
           have := (List.getElem?_inj (by rw [List.length_map]; omega) hdup).1 (h2.trans h3.symm)
           omega
         · cases hi
       obtain ⟨z0, _, _⟩ := geti_some k1
       rw [List.getElem?_set, if_neg (by omega)]; exact k3
     · have : st' = st := by simpa using h1
       subst this
       exact ⟨y, p, hy, hp, by rw [List.getElem?_set, if_pos rfl, if_pos (by omega)]⟩
   · rw [w64_succ (by omega)]; show x.Path.length - ((k + 1 : Nat) : Int).toNat < x.Path.length - ((k : Nat) : Int).toNat; omega
 have hkl : k = x.Path.length := by omega
 rw [hkl, List.take_length] at hvp
 refine (follow_ok hc hok hmem hA hvl hvp hpath).mono ?_
 rintro r s3 ⟨rfl, d3', l, rfl, hl, hl1, hl2⟩
 refine ⟨d3', rfl, ?_⟩
 intro R1 hR1
 refine (hl s3).lenK ((q1 s3).lenK ?_)
 rw [List.length_map, List.length_map]
 refine bcd (fun hlt => absurd hlt (by omega)) (fun _ => (q1 s3).lenK ?_)
 rw [List.length_map]
 refine (hl s3).sliceK (lo := 0) (hi := x.Path.length) c_Step rfl rfl (by omega) (by rw [List.length_map]; exact hl1) ?_
 have hsub := (hl s3).sub (lo := 0) (hi := x.Path.length) (by omega) (by rw [List.length_map]; exact hl1)
 rw [List.drop_zero, Nat.sub_zero, ← List.map_take, hl2] at hsub
 rw [Int.toNat_natCast]
 refine (SameSteps_ok hsub (q1 s3)).use ⟨true, rfl, bcnot (fun e => by cases e) (fun _ => ⟨rfl, hR1 s3 ?_⟩)⟩
 clear R1 hR1
 refine (conf_Locks_ok hc hok hz j).mono ?_
 rintro r s4 ⟨rfl, d4, rfl, hd4⟩
 have hll : c.lockL j = Cf.lockR x := by unfold Cf.lockL; rw [geti_nat, hx]
 have hLs := hd4 s4
 have hlsz := hLs.size
 rw [List.length_map] at hlsz
 refine ⟨d4, rfl, hLs.lenK ?_⟩
 rw [List.length_map]
 refine ⟨fun n s => ∃ m : Nat, n = m ∧ m ≤ (c.lockL j).length, fun n _ => (c.lockL j).length - n.toNat, ⟨0, rfl, by omega⟩, ?_⟩
 rintro n s5 ⟨m, rfl, hm⟩
 refine bcd (fun hlt => ?_) (fun hge => ?_)
 · obtain ⟨z, hzz⟩ := get_of_lt (l := c.lockL j) (j := m) (by omega)
   have hzm : z ∈ Cf.lockR x := by rw [← hll]; exact List.mem_of_getElem? hzz
   obtain ⟨y, hy⟩ := lockR_sec hro hzm
   obtain ⟨y0, y1, _⟩ := geti_some hy
   have hna : z ≠ a.Sec := fun e => by
     rw [← happ] at e
     rcases mem_lockR.1 hzm with hm | hm | hm
     · exact (hro.ov hm).2.2 e
     · obtain ⟨st, hst, hse⟩ := List.mem_map.1 hm
       exact (hro.step st hst).2 (hse.trans e)
     · obtain ⟨nd, hnd, hse⟩ := List.mem_map.1 hm
       exact (hro.fl.1 nd hnd).app (hse.trans e)
   refine (hd4 s5).load (map_get hzz) c_int rfl ⟨z, rfl, bce (fun e => absurd e hna) (fun _ => bcd (fun e => absurd e (by omega)) (fun _ => (hc s5).secs.lenK ?_))⟩
   rw [List.length_map]
   refine bcd (fun e => absurd e (by omega)) (fun _ => ⟨rfl, ⟨m + 1, by rw [w64_succ (by omega)], by omega⟩, ?_⟩)
   rw [w64_succ (by omega)]; show (c.lockL j).length - ((m + 1 : Nat) : Int).toNat < (c.lockL j).length - ((m : Nat) : Int).toNat; omega
 · have hconf : ∀ (s : Store) (i k : Int), Fw.Pure Tryz.prog n_conf_Conflict [cfA c0 c1 c2 c3 c4 c, iA i, iA k] s (.a (bA (cflict c i k))) := fun s i k => conf_Conflict_of fun s i => conf_Locks_ok hc hok hz i
   refine (hat s5).lenK ⟨fun n s => ∃ m : Nat, n = m ∧ m ≤ rows.length, fun n _ => rows.length - n.toNat, ⟨0, rfl, by omega⟩, ?_⟩
   rintro n s6 ⟨m, rfl, hm⟩
   refine bcd (fun hlt => ?_) (fun hge => ?_)
   · refine (hconf s6 _ _).use ⟨_, rfl, (hconf s6 _ _).use ⟨_, rfl, bcnot (fun e => ?_) (fun _ => (hconf s6 _ _).use ⟨_, rfl, bcnot (fun e => ?_) (fun _ => ?_)⟩)⟩⟩
     · rw [cflict_symm, beq_self_eq_true] at e; cases e
     · rw [cflict_self hx hro.len.1] at e; cases e
     · rw [w64_succ (by omega)]
       exact ⟨⟨m + 1, rfl, by omega⟩, by show rows.length - ((m + 1 : Nat) : Int).toNat < rows.length - ((m : Nat) : Int).toNat; omega⟩
   · rw [w64_succ (by omega)]
     exact ⟨⟨j + 1, rfl, by omega⟩, by show rows.length - ((j + 1 : Nat) : Int).toNat < rows.length - ((j : Nat) : Int).toNat; omega⟩
end Go.Proofs.YtfdffboelecgoaaGreatDoor
end
