/-
  Proofs that the statement of this claim leans on: part 6.
-/
import Derived.Test.YtfdffboelecgoaaGreatDoorP5
set_option linter.unusedVariables false
set_option linter.unusedSimpArgs false
section
set_option maxRecDepth 20000
namespace Go.Proofs.YtfdffboelecgoaaGreatDoor
open Go.Fw Go.Proofs Go.RowKit
variable {σ σ0 : Store} {F : Nat → Prop} {wid cid : Nat}
theorem splitL_le (c : UInt8) : ∀ l : List UInt8, (splitL c l).length ≤ l.length + 1 ∧ ∀ w ∈ splitL c l, w.length ≤ l.length
 | [] => by simp [splitL]
 | x :: l => by
   obtain ⟨h1, h2⟩ := splitL_le c l
   rw [splitL]
   split
   · refine ⟨by simp only [List.length_cons]; omega, fun w hw => ?_⟩
     rcases List.mem_cons.1 hw with rfl | hw
     · simp
     · have := h2 w hw; simp only [List.length_cons]; omega
   · cases hs : splitL c l with
     | nil => exact absurd hs (splitL_ne c l)
     | cons a t =>
       rw [hs] at h1 h2
       refine ⟨by simp only [List.length_cons, List.tail_cons] at h1 ⊢; omega, fun w hw => ?_⟩
       rcases List.mem_cons.1 hw with rfl | hw
       · have := h2 a (by simp); simp only [List.headD_cons, List.length_cons]; omega
       · have := h2 w (by simp only [List.tail_cons] at hw; simp [hw]); simp only [List.length_cons]; omega
theorem pieces_le (c : UInt8) (s : ByteArray) : (pieces c s).length ≤ s.size + 1 ∧ ∀ w ∈ pieces c s, w.size ≤ s.size := by
 have hl : s.data.toList.length = s.size := by simp
 obtain ⟨h1, h2⟩ := splitL_le c s.data.toList
 rw [hl] at h1 h2
 rw [pieces_eq]
 refine ⟨by rw [List.length_map]; exact h1, fun w hw => ?_⟩
 obtain ⟨l, hm, rfl⟩ := List.mem_map.1 hw
 rw [baOf_size]; exact h2 l hm
theorem cutEnd_le (c : UInt8) (s : ByteArray) : (cutEnd c s).size ≤ s.size := by
 unfold cutEnd
 split
 · rw [ByteArray.size_extract]; omega
 · exact Nat.le_refl _
theorem own_live {s : Store} {el : TypeId} {d : D} {rs : List (List D)} {i : Nat} (h : At Tryz.prog s el d rs) (hi : idOf d = some i) : s i ≠ .free := by
 cases d with
 | osl a b c =>
   simp only [idOf, Option.some.injEq] at hi
   subst hi
   obtain ⟨t, rows, g1, _⟩ := h.lt_live
   rw [g1]; intro e; cases e
 | _ => simp [idOf] at hi
theorem ObD.base {s s2 : Store} {oid sid : Nat} {so : SO} {t : TypeId} {row : List D} {ls : List Lst} (h : ObD σ F s oid t row ls) (hs : s sid = .free) (he : Ext (s.set sid so) s2) (hso : so ≠ .free) (hw : s wid = .free) (hw2 : s2 wid ≠ .free) (he0 : Ext σ s) :
   ObD (σ.set sid so) (fun i => i = wid ∨ F i) s2 oid t row ls where
 new := by
   have hne : oid ≠ sid := fun e => by rw [← e, h.cell] at hs; cases hs
   rw [Store.set_ne _ _ hne]; exact h.new
 nf hx := by
   rcases hx with rfl | hx
   · rw [h.cell] at hw; cases hw
   · exact h.nf hx
 fl i hi := by
   rcases hi with rfl | hi
   · exact hw2
   · have h1 := h.fl i hi
     have hne : i ≠ sid := fun e => by rw [e] at h1; exact h1 hs
     rw [he i (by rw [Store.set_ne _ _ hne]; exact h1), Store.set_ne _ _ hne]; exact h1
 cell := by
   have hne : oid ≠ sid := fun e => by rw [← e, h.cell] at hs; cases hs
   rw [he oid (by rw [Store.set_ne _ _ hne, h.cell]; intro e; cases e), Store.set_ne _ _ hne, h.cell]
 own l hl := by
   obtain ⟨h1, h2, h3⟩ := h.own l hl
   refine ⟨⟨h1.at_.ext ((Ext.new hs so).trans he), fun i hi => ?_, fun i a n e => ?_, h1.nsl, h1.nz⟩, fun i hi e => ?_, h3⟩
   · by_cases e : i = sid
     · subst e
       rw [he i (by rw [Store.set_same]; exact hso), Store.set_same, Store.set_same]
     · rw [Store.set_ne _ _ e] at hi
       have h4 := he0 i hi
       rw [he i (by rw [Store.set_ne _ _ e, h4]; exact hi), Store.set_ne _ _ e, h4, Store.set_ne _ _ e]
   · have hne : i ≠ sid := fun e2 => own_live h1.at_ (by rw [e]; rfl) (by rw [e2]; exact hs)
     rw [Store.set_ne _ _ hne]; exact h1.new i a n e
   · rcases hi with rfl | hi
     · exact own_live h1.at_ e hw
     · exact h2 i hi e
theorem ObD.unbase {s : Store} {oid : Nat} {G : Nat → Prop} {t : TypeId} {row : List D} {ls : List Lst} (h : ObD σ0 F s oid t row ls) (he : Ext σ σ0) (hG : ∀ i, G i → F i) : ObD σ G s oid t row ls where
 new := by
   by_cases hf : σ oid = .free
   · exact hf
   · have := he oid hf; rw [h.new] at this; exact this.symm
 nf hx := h.nf (hG _ hx)
 fl i hi := h.fl i (hG i hi)
 cell := h.cell
 own l hl := ⟨Own.from he (h.own l hl).1, fun i hi => (h.own l hl).2.1 i (hG i hi), (h.own l hl).2.2⟩
theorem rdLine_len (c : Cf) (s : Ws) (n : Nat) (h : cfLen c n) : cfLen (rdLine c s).2.1 (n + 1) := by
 obtain ⟨h1, h2, h3, h4, h5⟩ := h
 unfold rdLine
 simp only
 repeat' split
 all_goals
   refine ⟨?_, ?_, ?_, ?_, ?_⟩ <;> simp only [List.length_append, List.length_cons, List.length_nil] <;> omega
def zRow : List D := cfRow noCf .nils .nils .nils .nils .nils
theorem read_live {text : ByteArray} (ht : text.size ≤ 2 ^ 31) :
   DCalls Tryz.prog n_conf_Read [sA text] σ fun r s' => ∃ d0 d1 d2 d3 d4 rows, r = .tup [.agg (cfRow ((rdText text).getD noCf) d0 d1 d2 d3 d4), iA (if (rdText text).isSome then 0 else 13)] ∧ RtRows rows ((rdText text).getD noCf).Rts ∧
     Ext σ s' ∧ ∀ l ∈ cfLs ((rdText text).getD noCf) d0 d1 d2 d3 d4 rows, Own Tryz.prog σ s' l.el l.d l.rs := by
 refine W_conf_Read text σ _ (newObj_intro fun id s1 hid1 _ he1 hc1 => newObj_intro fun ie s2 hid2 _ he2 hc2 => newObj_intro fun ic s3 hid3 _ he3 hc3 => newObj_intro fun il s4 hid4 _ he4 hc4 => ?_)
 have lv : ∀ {s : Store} {i : Nat} {t : TypeId} {rows : List (List D)}, s i = .live t rows → s i ≠ .free := fun h => by rw [h]; intro e; cases e
 have n12 : id ≠ ie := fun e => lv hc1 (by rw [e]; exact hid2)
 have c1' := (he2 id (lv hc1)).trans hc1
 have n13 : id ≠ ic := fun e => lv c1' (by rw [e]; exact hid3)
 have n23 : ie ≠ ic := fun e => lv hc2 (by rw [e]; exact hid3)
 have c1'' := (he3 id (lv c1')).trans c1'
 have c2' := (he3 ie (lv hc2)).trans hc2
 have n14 : id ≠ il := fun e => lv c1'' (by rw [e]; exact hid4)
 have n24 : ie ≠ il := fun e => lv c2' (by rw [e]; exact hid4)
 have n34 : ic ≠ il := fun e => lv hc3 (by rw [e]; exact hid4)
 have d1 := (he4 id (lv c1'')).trans c1''
 have d2 := (he4 ie (lv c2')).trans c2'
 have d3 := (he4 ic (lv hc3)).trans hc3
 have f1 := hid1
 have f2 : σ ie = .free := by
   by_cases h : σ ie = .free
   · exact h
   · rw [he1 ie h] at hid2; exact hid2
 have f3 : σ ic = .free := by
   by_cases h : σ ic = .free
   · exact h
   · rw [he2 ic (by rw [he1 ic h]; exact h), he1 ic h] at hid3; exact hid3
 have f4 : σ il = .free := by
   by_cases h : σ il = .free
   · exact h
   · rw [he3 il (by rw [he2 il (by rw [he1 il h]; exact h), he1 il h]; exact h), he2 il (by rw [he1 il h]; exact h), he1 il h] at hid4; exact hid4
 refine pr_store hc4 (by simp) fun s5 hc5 ho5 => (cutSuffix_ok (by omega)).use ⟨_, _, rfl, (splitSeqF_ok).mono ?_⟩
 have e5 : Ext σ s5 := ext_put (((he1.trans he2).trans he3).trans he4) f4 ho5
 have d1 := (ho5 id n14).trans d1
 have d2 := (ho5 ie n24).trans d2
 have d3 := (ho5 ic n34).trans d3
 rintro _ s6 ⟨i1, i2, i3, m12, m13, m23, g1, g2, g3, rfl, rfl⟩
 generalize hs6 : ((s5.set i2 (.live t_string [[.str (cutEnd 10 text)]])).set i1 (.live t_string [[.str ⟨#[10]⟩]])).set i3 (.live t_int [[.int .i64 0]]) = s6
 have hx1 : s6 i1 = .live t_string [[.str ⟨#[10]⟩]] := by rw [← hs6, Store.set_ne _ _ m13, Store.set_same]
 have hx2 : s6 i2 = .live t_string [[.str (cutEnd 10 text)]] := by rw [← hs6, Store.set_ne _ _ m23, Store.set_ne _ _ m12.symm, Store.set_same]
 have hx3 : s6 i3 = .live t_int [[.int .i64 0]] := by rw [← hs6, Store.set_same]
 have hcl := cutEnd_le 10 text
 have done : ∀ s12, rdText text = none → s12 id = .live t_Config [zRow] → s12 ie = .live t_Errno [[iD 13]] → Ext σ s12 → ∃ row : List D, (Row s12 (.osl id 0 1) 0 row) ∧ ∃ x1 x2 x3 x4 x5 : D, ∃ n n1 n2 n3 : Int, ((List.take 9 row) = ([x1, x2, x3, x4, x5, .int .i64 n, .int .i64 n1, .int .i64 n2, .int .i64 n3] : List D)) ∧
     ∃ row1 : List D, (Row s12 (.osl ie 0 1) 0 row1) ∧ ∃ n4 : Int, ((List.take 1 row1) = ([.int .i64 n4] : List D)) ∧ ∃ d0 d1 d2 d3 d4 rows, RV.tup [.agg [x1, x2, x3, x4, x5, .int .i64 n, .int .i64 n1, .int .i64 n2, .int .i64 n3], .one (.int .i64 n4)] = .tup [.agg (cfRow ((rdText text).getD noCf) d0 d1 d2 d3 d4), iA (if (rdText text).isSome then 0 else 13)] ∧
     RtRows rows ((rdText text).getD noCf).Rts ∧ Ext σ s12 ∧ ∀ l ∈ cfLs ((rdText text).getD noCf) d0 d1 d2 d3 d4 rows, Own Tryz.prog σ s12 l.el l.d l.rs := by
   intro s12 hn g1 g2 g3
   refine ⟨_, box_row g1, _, _, _, _, _, _, _, _, _, rfl, _, box_row g2, _, rfl, .nils, .nils, .nils, .nils, .nils, [], by rw [hn]; rfl, ?_, g3, fun l hl => ?_⟩
   · rw [hn]; exact ⟨rfl, fun j row x h _ => by simp at h⟩
   · rw [hn] at hl
     simp only [cfLs, List.mem_cons, List.not_mem_nil, or_false] at hl
     rcases hl with rfl | rfl | rfl | rfl | rfl <;> exact .nil _ g3
 refine ⟨_, rfl, _, _, _, _, fun i s => ∃ c last, rdLines (pieces 10 (cutEnd 10 text)) noCf 0 = rdLines ((pieces 10 (cutEnd 10 text)).drop i) c last ∧ CfIn σ (fun j => j = id ∨ j = ie ∨ j = il) s ic c ∧ s id = .live t_Config [zRow] ∧ s ie = .live t_Errno [[iD 0]] ∧ s il = .live t_int [[iD last]] ∧ cfLen c i ∧ Ext σ s,
   fun s => rdLines (pieces 10 (cutEnd 10 text)) noCf 0 = none ∧ s id = .live t_Config [zRow] ∧ s ie = .live t_Errno [[iD 13]] ∧ Ext σ s, rfl, splitSeq_ok hx1 hx2 hx3 m12 m13 m23 (by omega), ?_, ?_, ?_, ?_⟩
 · generalize hsd : (((s6.set i1 .dead).set i2 .dead).set i3 .dead) = sd
   have same : ∀ i, s5 i ≠ .free → sd i = s5 i := fun i hi => by
     have k1 : i ≠ i1 := fun e => hi (e ▸ g1)
     have k2 : i ≠ i2 := fun e => hi (e ▸ g2)
     have k3 : i ≠ i3 := fun e => hi (e ▸ g3)
     rw [← hsd, ← hs6, Store.set_ne _ _ k3, Store.set_ne _ _ k2, Store.set_ne _ _ k1, Store.set_ne _ _ k3, Store.set_ne _ _ k1, Store.set_ne _ _ k2]
   have q1 := (same id (lv d1)).trans d1
   have q2 := (same ie (lv d2)).trans d2
   have q3 := (same ic (lv d3)).trans d3
   have q4 := (same il (lv hc5)).trans hc5
   have qe : Ext σ sd := e5.trans same
   refine ⟨noCf, 0, by rw [List.drop_zero], ⟨.nils, .nils, .nils, .nils, .nils, [], ⟨⟨f3, fun h => ?_, fun i hi => ?_, q3, fun l hl => ?_⟩, ⟨rfl, fun j row x h _ => by simp at h⟩⟩⟩, q1, q2, q4, ⟨Nat.le_refl _, Nat.le_refl _, Nat.le_refl _, Nat.le_refl _, Nat.le_refl _⟩, qe⟩
   · rcases h with h | h | h
     · exact n13 h.symm
     · exact n23 h.symm
     · exact n34 h
   · rcases hi with rfl | rfl | rfl
     · exact lv q1
     · exact lv q2
     · exact lv q4
   · simp only [cfLs, List.mem_cons, List.not_mem_nil, or_false] at hl
     rcases hl with rfl | rfl | rfl | rfl | rfl
     · exact ⟨.nil _ qe, fun i _ h => by simp [idOf] at h, cneq c_Section c_Config (by decide)⟩
     · exact ⟨.nil _ qe, fun i _ h => by simp [idOf] at h, cneq c_Joint c_Config (by decide)⟩
     · exact ⟨.nil _ qe, fun i _ h => by simp [idOf] at h, cneq c_Signal c_Config (by decide)⟩
     · exact ⟨.nil _ qe, fun i _ h => by simp [idOf] at h, cneq c_int c_Config (by decide)⟩
     · exact ⟨.nil _ qe, fun i _ h => by simp [idOf] at h, cneq c_Route c_Config (by decide)⟩
 · rintro i l s7 hl ⟨c, last, hrd, ⟨k0, k1, k2, k3, k4, rows, hcf⟩, q1, q2, q4, hlen, qe⟩
   have hl : (pieces 10 (cutEnd 10 text))[i]? = some l := hl
   have hpl := pieces_le 10 (cutEnd 10 text)
   have hsz := hpl.2 l (List.mem_of_getElem? hl)
   have hil : i < (pieces 10 (cutEnd 10 text)).length := (List.getElem?_eq_some_iff.1 hl).1
   rw [drop_get hl, rdLines] at hrd
   refine (split_ok (c := 32) (by omega)).mono ?_
   rintro _ s8 ⟨sid, hsid, rfl, rfl⟩
   refine ⟨_, rfl, newObj_intro fun wid s9 hwid _ he9 hw9 => ?_⟩
   have hws : s7 wid = .free := by
     by_cases e : wid = sid
     · rw [e, Store.set_same] at hwid; cases hwid
     · rwa [Store.set_ne _ _ e] at hwid
   have hwsid : wid ≠ sid := fun e => by rw [e, Store.set_same] at hwid; cases hwid
   have hws0 : σ wid = .free := by
     by_cases h : σ wid = .free
     · exact h
     · rw [qe wid h] at hws; exact hws
   have hs0 : σ sid = .free := by
     by_cases h : σ sid = .free
     · exact h
     · rw [qe sid h] at hsid; exact hsid
   have hob := hcf.ob.base (wid := wid) (s2 := s9) hsid he9 (by intro e; cases e) hws (lv hw9) qe
   have hp32 := pieces_le 32 l
   have hext9 : Ext (σ.set sid (.live t_string ((pieces 32 l).map strRow))) s9 := (hob.own ⟨t_Section, 0, k0, c.Secs.map Sec.enc⟩ (by simp [cfLs])).1.ext
   have hwx : Wx (σ.set sid (.live t_string ((pieces 32 l).map strRow))) s9 wid (pieces 32 l) false := ⟨⟨by rw [Store.set_ne _ _ hwsid]; exact hws0, hext9, _, hw9, At.fresh (Store.set_same _ _ _) (by rw [List.length_map]; omega) (by rw [List.length_map])⟩, fun w hw => by have := hp32.2 w hw; omega⟩
   obtain ⟨l0, l1, l2, l3, l4⟩ := hlen
   refine (rdLine_ok hwx ⟨k0, k1, k2, k3, k4, rows, ⟨hob, hcf.rts⟩⟩ (.inl rfl) ⟨by omega, by omega, by omega, by omega, by omega⟩ (by omega)).mono ?_
   rintro _ s10 ⟨rfl, hw10, hc10, hsame⟩
   have hlen' := rdLine_len c (pieces 32 l, false) i ⟨l0, l1, l2, l3, l4⟩
   generalize rdLine c (pieces 32 l, false) = x at *
   have toS : ∀ {j t r}, s7 j = .live t r → (j = id ∨ j = ie ∨ j = il) → s10 j = .live t r := fun {j t r} hj hF => by
     have hne : j ≠ sid := fun e => lv hj (by rw [e]; exact hsid)
     have hnw : j ≠ wid := fun e => lv hj (by rw [e]; exact hws)
     rw [hsame j (.inr hF) hnw, he9 j (by rw [Store.set_ne _ _ hne]; exact lv hj), Store.set_ne _ _ hne, hj]
   have p1 := toS q1 (.inl rfl)
   have p2 := toS q2 (.inr (.inl rfl))
   have p4 := toS q4 (.inr (.inr rfl))
   obtain ⟨hn, he, dw, hcw, hAw⟩ := hw10.1
   have e10 : Ext σ s10 := (Ext.new hs0 _).trans he
   have fail : rdLines (pieces 10 (cutEnd 10 text)) noCf 0 = none → storeEl [.nils, .nils, .nils, .nils, .nils, .int .i64 0, .int .i64 0, .int .i64 0, .int .i64 0] s10 (.osl id 0 1) 0 0 fun s11 => storeEl [.int .i64 13] s11 (.osl ie 0 1) 0 0 fun s12 =>
       rdLines (pieces 10 (cutEnd 10 text)) noCf 0 = none ∧ s12 id = .live t_Config [zRow] ∧ s12 ie = .live t_Errno [[iD 13]] ∧ Ext σ s12 := fun hnone =>
     pr_store p1 (by simp [zRow, cfRow]) fun s11 hs11 ho11 => pr_store ((ho11 ie n12.symm).trans p2) (by simp) fun s12 hs12 ho12 => ⟨hnone, by rw [ho12 id n12, hs11]; rfl, by rw [hs12]; rfl, ext_put (ext_put e10 f1 ho11) f2 ho12⟩
   have cont : rdLines (pieces 10 (cutEnd 10 text)) noCf 0 = rdLines ((pieces 10 (cutEnd 10 text)).drop (i + 1)) x.2.1 x.1 → storeEl [.int .i64 x.1] s10 (.osl il 0 1) 0 0 fun s11 =>
       ∃ c last, rdLines (pieces 10 (cutEnd 10 text)) noCf 0 = rdLines ((pieces 10 (cutEnd 10 text)).drop (i + 1)) c last ∧ CfIn σ (fun j => j = id ∨ j = ie ∨ j = il) s11 ic c ∧ s11 id = .live t_Config [zRow] ∧ s11 ie = .live t_Errno [[iD 0]] ∧ s11 il = .live t_int [[iD last]] ∧ cfLen c (i + 1) ∧ Ext σ s11 := fun hgo =>
     pr_store p4 (by simp) fun s11 hs11 ho11 => by
       obtain ⟨r0, r1, r2, r3, r4, rows', hcf'⟩ := hc10
       refine ⟨x.2.1, x.1, hgo, ⟨r0, r1, r2, r3, r4, rows', ⟨(hcf'.ob.unbase (Ext.new hs0 _) (G := fun j => j = id ∨ j = ie ∨ j = il) fun i hi => .inr hi).away (wid := il) (.inr (.inr rfl)) f4 (by rw [hs11]; intro e; cases e) ho11, hcf'.rts⟩⟩, (ho11 id n14).trans p1, (ho11 ie n24).trans p2, by rw [hs11]; rfl, hlen', ext_put e10 f4 ho11⟩
   refine ⟨_, rfl, _, box_row hcw, _, rfl, bc (fun e => fail ?_) (fun eb => ⟨_, box_row hcw, _, rfl, (hAw.ext he).lenK ?_⟩)⟩
   · rw [hrd, e]; rfl
   rw [List.length_map]
   refine bcd (fun hgt => fail ?_) (fun hle => ⟨_, box_row p4, _, rfl, bcd (fun hlt => fail ?_) (fun hnlt => ⟨_, box_row p4, _, rfl, bce (fun h1 => bce (fun h2 => fail ?_) (fun h2 => cont ?_)) (fun h1 => cont ?_)⟩)⟩)
   · have : x.2.2.1.isEmpty = false := by
       cases hh : x.2.2.1 with
       | nil => rw [hh] at hgt; simp at hgt
       | cons _ _ => rfl
     rw [hrd, eb, this]; rfl
   all_goals
     have hem : x.2.2.1.isEmpty = true := by
       rw [List.isEmpty_iff]; exact List.length_eq_zero_iff.1 (by omega)
     rw [hrd]
     simp only [eb, hem, Bool.not_true, Bool.false_or]
   · rw [decide_eq_true hlt]; rfl
   · rw [decide_eq_false hnlt, h1, beq_self_eq_true, ← h1, h2]; rfl
   · rw [decide_eq_false hnlt, beq_eq_false_iff_ne.2 h2, Bool.and_false]; rfl
   · rw [decide_eq_false hnlt, beq_eq_false_iff_ne.2 h1]; rfl
 · rintro s7 ⟨c, last, hrd, hcf, q1, q2, q4, hlen, qe⟩
   rw [List.drop_length] at hrd
   have hrd : rdLines (pieces 10 (cutEnd 10 text)) noCf 0 = some (c, last) := hrd
   have hrt : rdText text = if ends 10 text && last == 6 then some c else none := by unfold rdText; rw [hrd]
   refine bcnot (fun eb => ?_) (fun eb => ⟨_, box_row q4, _, rfl, bcn (fun n6 => ?_) (fun n6 => ?_)⟩)
   · exact pr_store q1 (by simp [zRow, cfRow]) fun s11 hs11 ho11 => pr_store ((ho11 ie n12.symm).trans q2) (by simp) fun s12 hs12 ho12 => done s12 (by rw [hrt, eb]; rfl) (by rw [ho12 id n12, hs11]; rfl) (by rw [hs12]; rfl) (ext_put (ext_put qe f1 ho11) f2 ho12)
   · exact pr_store q1 (by simp [zRow, cfRow]) fun s11 hs11 ho11 => pr_store ((ho11 ie n12.symm).trans q2) (by simp) fun s12 hs12 ho12 => done s12 (by rw [hrt, beq_eq_false_iff_ne.2 n6, Bool.and_false]; rfl) (by rw [ho12 id n12, hs11]; rfl) (by rw [hs12]; rfl) (ext_put (ext_put qe f1 ho11) f2 ho12)
   · obtain ⟨k0, k1, k2, k3, k4, rows, hcf⟩ := hcf
     have hsome : rdText text = some c := by rw [hrt, eb, n6]; rfl
     have nid : ∀ l ∈ cfLs c k0 k1 k2 k3 k4 rows, idOf l.d ≠ some id ∧ idOf l.d ≠ some ie := fun l hl => ⟨(hcf.ob.own l hl).2.1 id (.inl rfl), (hcf.ob.own l hl).2.1 ie (.inr (.inl rfl))⟩
     refine ⟨_, box_row hcf.ob.cell, _, _, _, _, _, _, _, _, _, rfl, pr_store q1 (by simp [zRow, cfRow]) fun s11 hs11 ho11 => pr_store ((ho11 ie n12.symm).trans q2) (by simp) fun s12 hs12 ho12 => ?_⟩
     have g1 : s12 id = .live t_Config [cfRow c k0 k1 k2 k3 k4] := by rw [ho12 id n12, hs11]; rfl
     have g2 : s12 ie = .live t_Errno [[iD 0]] := by rw [hs12]; rfl
     refine ⟨_, box_row g1, _, _, _, _, _, _, _, _, _, rfl, _, box_row g2, _, rfl, k0, k1, k2, k3, k4, rows, ?_, ?_, ext_put (ext_put qe f1 ho11) f2 ho12, ?_⟩
     · rw [hsome]; rfl
     · rw [hsome]; exact hcf.rts
     · rw [hsome]
       exact fun l hl => pr_other (pr_other (hcf.ob.own l hl).1 f1 (nid l hl).1 ho11) f2 (nid l hl).2 ho12
 · rintro s7 ⟨hnone, q1, q2, qe⟩
   exact done s7 (by unfold rdText; rw [hnone]) q1 q2 qe
theorem conf_Read_ok {text : ByteArray} (ht : text.size ≤ 2 ^ 31) :
   DCalls Tryz.prog n_conf_Read [sA text] σ fun r s' => s' = σ ∧ ∃ c0 c1 c2 c3 c4, r = .tup [cfA c0 c1 c2 c3 c4 ((rdText text).getD noCf), iA (if (rdText text).isSome then 0 else 13)] ∧ ∀ s, CfAt s c0 c1 c2 c3 c4 ((rdText text).getD noCf) := by
 refine (read_live ht).ret ?_
 rintro r s1 ⟨d0, d1, d2, d3, d4, rows, rfl, hr, he, hown⟩
 generalize (rdText text).getD noCf = c at *
 have fz : ∀ l ∈ cfLs c d0 d1 d2 d3 d4 rows, (∀ row ∈ l.rs, ∀ x ∈ row, Sf x) → ∃ d', Fz Tryz.prog s1 (fun i => σ i ≠ .free) l.d d' ∧ (∀ s', At Tryz.prog s' l.el d' l.rs) ∧ Sf d' := fun l hl hf =>
   fz_list (hown l hl).at_ (fun id hi hn => hn (own_id' (hown l hl) hi)) hf
 obtain ⟨e0, a0, b0, _⟩ := fz ⟨t_Section, 0, d0, c.Secs.map Sec.enc⟩ (by simp [cfLs]) (map_sf (fun a x hx => by
   simp only [Sec.enc, List.mem_cons, List.not_mem_nil, or_false] at hx; rcases hx with rfl | rfl | rfl <;> exact .int _ _) _)
 obtain ⟨e1, a1, b1, _⟩ := fz ⟨t_Joint, 1, d1, c.Jts.map Jt.enc⟩ (by simp [cfLs]) (map_sf (fun a x hx => by
   simp only [Jt.enc, List.mem_cons, List.not_mem_nil, or_false] at hx; rcases hx with rfl | rfl | rfl | rfl <;> exact .int _ _) _)
 obtain ⟨e2, a2, b2, _⟩ := fz ⟨t_Signal, 2, d2, c.Sigs.map Sg.enc⟩ (by simp [cfLs]) (map_sf (fun a x hx => by
   simp only [Sg.enc, List.mem_cons, List.not_mem_nil, or_false] at hx; rcases hx with rfl | rfl <;> exact .int _ _) _)
 obtain ⟨e3, a3, b3, _⟩ := fz ⟨t_int, 3, d3, c.Xs.map Go.Fw.encI⟩ (by simp [cfLs]) (map_sf i_flat _)
 obtain ⟨e4, a4, b4, _⟩ := fz ⟨t_Route, 4, d4, rows⟩ (by simp [cfLs]) (fun row hrow => by
   obtain ⟨j, hj⟩ := List.getElem?_of_mem hrow
   obtain ⟨x, hx⟩ := get_of_lt (l := c.Rts) (j := j) (by rw [← hr.1]; exact (List.getElem?_eq_some_iff.1 hj).1)
   exact (hr.2 j row x hj hx).sf)
 refine ⟨.tup [cfA e0 e1 e2 e3 e4 c, iA (if (rdText text).isSome then 0 else 13)], σ, .pure he ⟨rfl, fun i x y h1 h2 => ?_⟩, rfl, e0, e1, e2, e3, e4, rfl, fun s => ⟨b0 s, b1 s, b2 s, b3 s, rows, b4 s, hr.1, fun i row x h1 h2 => ?_⟩⟩
 · match i, h1, h2 with
   | 0, h1, h2 =>
     injection h1 with h1; injection h2 with h2; subst h1 h2
     exact .cons a0 (.cons a1 (.cons a2 (.cons a3 (.cons a4 (.cons (.int _ _) (.cons (.int _ _) (.cons (.int _ _) (.cons (.int _ _) .nil))))))))
   | 1, h1, h2 =>
     injection h1 with h1; injection h2 with h2; subst h1 h2
     exact .int _ _
   | i + 2, h1, h2 => simp at h1
 · obtain ⟨x1, x2, x3, rfl, y1, y2, y3, _⟩ := hr.2 i row x h1 h2
   exact ⟨x1, x2, x3, rfl, y1 s, y2 s, y3 s⟩
end Go.Proofs.YtfdffboelecgoaaGreatDoor
end
section
namespace Go.Fw
theorem dec_lt {j n : Nat} (h : j < n) : n - ((j + 1 : Nat) : Int).toNat < n - ((j : Nat) : Int).toNat := by omega
def inL (l : List Int) (n : Int) : Bool := decide (n ∈ l)
def kindI (c : Cf) (s : Int) : Int := ((geti c.Secs s).map Sec.Kind).getD (-1)
def atB (sec e but : Int) : List Sg → Nat → Bool
 | [], _ => false
 | x :: r, j => (decide (x.Sec = sec) && decide (x.End_ = e) && decide ((j : Int) ≠ but)) || atB sec e but r (j + 1)
theorem atB_iff (sec e but : Int) : ∀ (l : List Sg) (j : Nat), atB sec e but l j = true ↔ ∃ (i : Nat) (x : Sg), l[i]? = some x ∧ x = ⟨sec, e⟩ ∧ ((j + i : Nat) : Int) ≠ but
 | [], j => by simp [atB]
 | x :: r, j => by
   simp only [atB, Bool.or_eq_true, Bool.and_eq_true, decide_eq_true_eq, atB_iff sec e but r (j + 1)]
   constructor
   · rintro (⟨⟨h1, h2⟩, h3⟩ | ⟨i, y, h1, h2, h3⟩)
     · exact ⟨0, x, rfl, by cases x; simp at h1 h2; simp [h1, h2], h3⟩
     · exact ⟨i + 1, y, by simpa using h1, h2, by rw [show j + (i + 1) = j + 1 + i by omega]; exact h3⟩
   · rintro ⟨i, y, h1, h2, h3⟩
     cases i with
     | zero =>
       simp at h1; subst h1 h2
       exact .inl ⟨⟨rfl, rfl⟩, h3⟩
     | succ i => exact .inr ⟨i, y, by simpa using h1, h2, by rw [show j + 1 + i = j + (i + 1) by omega]; exact h3⟩
theorem atB_self {l : List Sg} (hn : l.Nodup) {i : Nat} {x : Sg} (hi : l[i]? = some x) : atB x.Sec x.End_ i l 0 = false := by
 cases hb : atB x.Sec x.End_ i l 0 with
 | false => rfl
 | true =>
   obtain ⟨j, y, h1, h2, h3⟩ := (atB_iff _ _ _ l 0).1 hb
   have e : y = x := by cases x; exact h2
   subst e
   exfalso; apply h3
   obtain ⟨q1, q2⟩ := List.getElem?_eq_some_iff.1 hi
   obtain ⟨p1, p2⟩ := List.getElem?_eq_some_iff.1 h1
   have := (List.getElem_inj (h₀ := q1) (h₁ := p1) hn).1 (by rw [q2, p2])
   omega
theorem sgrun_iff (js : List Jt) : ∀ (l seen : List Sg), sgrun js l seen = true ↔ (∀ x ∈ l, (nxt js x.Sec x.End_).isSome = true) ∧ l.Nodup ∧ ∀ x ∈ l, x ∉ seen
 | [], seen => by simp [sgrun]
 | x :: r, seen => by
   rw [sgrun]
   by_cases h : (nxt js x.Sec x.End_).isSome = true ∧ x ∉ seen
   · rw [if_pos h, sgrun_iff js r (x :: seen)]
     constructor
     · rintro ⟨h1, h2, h3⟩
       refine ⟨fun y hy => ?_, ?_, fun y hy => ?_⟩
       · rcases List.mem_cons.1 hy with rfl | hy
         · exact h.1
         · exact h1 y hy
       · exact List.nodup_cons.2 ⟨fun hx => h3 x hx (by simp), h2⟩
       · rcases List.mem_cons.1 hy with rfl | hy
         · exact h.2
         · exact fun hs => h3 y hy (by simp [hs])
     · rintro ⟨h1, h2, h3⟩
       obtain ⟨h4, h5⟩ := List.nodup_cons.1 h2
       refine ⟨fun y hy => h1 y (by simp [hy]), h5, fun y hy hs => ?_⟩
       rcases List.mem_cons.1 hs with rfl | hs
       · exact h4 hy
       · exact h3 y (by simp [hy]) hs
   · rw [if_neg h]
     refine ⟨fun e => by simp at e, fun ⟨h1, h2, h3⟩ => absurd ⟨h1 x (by simp), h3 x (by simp)⟩ h⟩
theorem sigs_iff (c : Cf) : (∀ (i : Nat) (x : Sg), c.Sigs[i]? = some x → (nxt c.Jts x.Sec x.End_).isSome = true ∧ atB x.Sec x.End_ i c.Sigs 0 = false) ↔ sgrun c.Jts c.Sigs [] = true := by
 rw [sgrun_iff]
 constructor
 · intro h
   refine ⟨fun x hx => ?_, ?_, fun x _ hx => by simp at hx⟩
   · obtain ⟨i, hi⟩ := List.mem_iff_getElem?.1 hx
     exact (h i x hi).1
   · rw [List.nodup_iff_pairwise_ne, List.pairwise_iff_getElem]
     intro i j hi hj hij e
     have h2 := (h i _ (List.getElem?_eq_getElem hi)).2
     have : atB c.Sigs[i].Sec c.Sigs[i].End_ i c.Sigs 0 = true := (atB_iff _ _ _ _ _).2 ⟨j, c.Sigs[j], List.getElem?_eq_getElem hj, by rw [← e], by omega⟩
     rw [h2] at this; cases this
 · rintro ⟨h1, h2, _⟩ i x hi
   exact ⟨h1 x (List.mem_of_getElem? hi), atB_self h2 hi⟩
theorem xrun_iff (secs : List Sec) : ∀ (l seen : List Int), xrun secs l seen = true ↔ (∀ x ∈ l, ∃ s, geti secs x = some s ∧ s.Line = 0) ∧ l.Nodup ∧ ∀ x ∈ l, x ∉ seen
 | [], seen => by simp [xrun]
 | x :: r, seen => by
   rw [xrun]
   cases hg : geti secs x with
   | none =>
     refine ⟨fun e => by simp at e, fun ⟨h1, _⟩ => ?_⟩
     obtain ⟨s, h, _⟩ := h1 x (by simp)
     rw [hg] at h; cases h
   | some s =>
     simp only
     by_cases h : s.Line = 0 ∧ x ∉ seen
     · rw [if_pos h, xrun_iff secs r (x :: seen)]
       constructor
       · rintro ⟨h1, h2, h3⟩
         refine ⟨fun y hy => ?_, ?_, fun y hy => ?_⟩
         · rcases List.mem_cons.1 hy with rfl | hy
           · exact ⟨s, hg, h.1⟩
           · exact h1 y hy
         · exact List.nodup_cons.2 ⟨fun hx => h3 x hx (by simp), h2⟩
         · rcases List.mem_cons.1 hy with rfl | hy
           · exact h.2
           · exact fun hs => h3 y hy (by simp [hs])
       · rintro ⟨h1, h2, h3⟩
         obtain ⟨h4, h5⟩ := List.nodup_cons.1 h2
         refine ⟨fun y hy => h1 y (by simp [hy]), h5, fun y hy hs => ?_⟩
         rcases List.mem_cons.1 hs with rfl | hs
         · exact h4 hy
         · exact h3 y (by simp [hy]) hs
     · rw [if_neg h]
       refine ⟨fun e => by simp at e, fun ⟨h1, h2, h3⟩ => ?_⟩
       obtain ⟨s', q1, q2⟩ := h1 x (by simp)
       rw [hg] at q1; cases q1
       exact absurd ⟨q2, h3 x (by simp)⟩ h
theorem nxt_mem {js : List Jt} {s e : Int} {p : Int × Int} (h : nxt js s e = some p) : ∃ j ∈ js, (j.B = p.1 ∧ j.BEnd = p.2) ∨ (j.A = p.1 ∧ j.AEnd = p.2) := by
 induction js with
 | nil => cases h
 | cons j r ih =>
   rw [nxt] at h
   split at h
   · cases h; exact ⟨j, by simp, .inl ⟨rfl, rfl⟩⟩
   split at h
   · cases h; exact ⟨j, by simp, .inr ⟨rfl, rfl⟩⟩
   · obtain ⟨k, h1, h2⟩ := ih h
     exact ⟨k, by simp [h1], h2⟩
theorem nxt_sec {c : Cf} (ht : topoOk c.Secs c.Jts = true) {s e q f : Int} (h : nxt c.Jts s e = some (q, f)) : ∃ y, geti c.Secs q = some y := by
 obtain ⟨j, hj, h1⟩ := nxt_mem h
 obtain ⟨_, _, h3⟩ := (topoOk_iff _ _).1 ht
 obtain ⟨a, b, _⟩ := h3 j hj
 have : 0 ≤ q ∧ q < c.Secs.length := by rcases h1 with ⟨e1, _⟩ | ⟨e1, _⟩ <;> simp only at e1 <;> omega
 obtain ⟨y, hy⟩ := get_of_lt (l := c.Secs) (j := q.toNat) (by omega)
 exact ⟨y, by unfold geti; rw [if_neg (by omega), hy]⟩
theorem kindI_some {c : Cf} {s : Int} {y : Sec} (h : geti c.Secs s = some y) : kindI c s = y.Kind := by unfold kindI; rw [h]; rfl
theorem kindI_none {c : Cf} {s : Int} (h : geti c.Secs s = none) : kindI c s = -1 := by unfold kindI; rw [h]; rfl
theorem hasSec_in (path : List St) (q : Int) : inL (path.map St.Sec) q = hasSec path q := by
 unfold inL hasSec
 induction path with
 | nil => rfl
 | cons x r ih =>
   rw [List.any_cons, ← ih, List.map_cons]
   by_cases h : x.Sec = q
   · simp [h]
   · simp [h, Ne.symm h]
theorem kind_ok {c : Cf} (ht : topoOk c.Secs c.Jts = true) {x : Int} {y : Sec} (h : geti c.Secs x = some y) : 0 ≤ y.Kind ∧ y.Kind ≤ 2 := by
 obtain ⟨_, h2, _⟩ := (topoOk_iff _ _).1 ht
 have := (h2 _ _ (geti_some h).2.2).1
 unfold nends at this
 split at this
 · omega
 split at this
 · omega
 split at this
 · omega
 · exact absurd rfl this
theorem sgs_nodup {c : Cf} (h : c.sigsOk = true) : c.Sigs.Nodup := by
 rw [Cf.sigsOk, Bool.and_eq_true, sgrun_iff] at h
 exact h.1.2.1
theorem atB_eq {c : Cf} (h : c.sigsOk = true) (sec e but : Int) : atB sec e but c.Sigs 0 = ((c.Sigs.any fun x => decide (⟨sec, e⟩ = x)) && !decide (geti c.Sigs but = some ⟨sec, e⟩)) := by
 have hn := sgs_nodup h
 rw [Bool.eq_iff_iff, atB_iff]
 simp only [Bool.and_eq_true, List.any_eq_true, decide_eq_true_eq, Bool.not_eq_true', decide_eq_false_iff_not, Nat.zero_add]
 constructor
 · rintro ⟨i, x, h1, rfl, h3⟩
   refine ⟨⟨_, List.mem_of_getElem? h1, rfl⟩, fun hg => h3 ?_⟩
   have hg := geti_some hg
   obtain ⟨q1, q2⟩ := List.getElem?_eq_some_iff.1 h1
   obtain ⟨p1, p2⟩ := List.getElem?_eq_some_iff.1 hg.2.2
   have := (List.getElem_inj (h₀ := q1) (h₁ := p1) hn).1 (by rw [q2, p2])
   omega
 · rintro ⟨⟨x, hx, rfl⟩, h2⟩
   obtain ⟨i, hi⟩ := List.mem_iff_getElem?.1 hx
   refine ⟨i, _, hi, rfl, fun e => h2 ?_⟩
   unfold geti
   rw [if_neg (by omega), ← e, Int.toNat_natCast]; exact hi
theorem geti_ex {α : Type} {l : List α} {i : Int} (h0 : ¬ i < 0) (h1 : ¬ i ≥ (l.length : Int)) : ∃ x, geti l i = some x := by
 obtain ⟨x, hx⟩ := get_of_lt (l := l) (j := i.toNat) (by omega)
 exact ⟨x, by unfold geti; rw [if_neg h0]; exact hx⟩
end Go.Fw
namespace Go.Fw
theorem nd_any (out : List Nd) (q : Int) : inL (out.map Nd.Sec) q = out.any fun n => n.Sec == q := by
 unfold inL
 induction out with
 | nil => rfl
 | cons x r ih =>
   rw [List.any_cons, ← ih, List.map_cons]
   by_cases h : x.Sec = q
   · simp [h]
   · simp [h, Ne.symm h]
end Go.Fw
end
namespace Go.Proofs.YtfdffboelecgoaaGreatDoor
open Go.Fw Go.Proofs Go.RowKit
section
variable {σ : Store}
theorem ref06_in_ok {d : D} {l : List Int} (n : Int) (h : At Tryz.prog σ t_int d (l.map Go.Fw.encI)) : Pure Tryz.prog n_ref06_in [.one d, iA n] σ (.a (bA (inL l n))) := by
 have hs := h.size
 rw [List.length_map] at hs
 refine W_ref06_in d n σ _ (h.lenK ⟨fun m s => s = σ ∧ Rng l (fun r => inL r n = inL l n) m, fun m _ => l.length - m.toNat, ⟨rfl, .start rfl⟩, ?_⟩)
 rintro m s ⟨rfl, hr⟩
 refine bcd (fun hlt => ?_) (fun hge => ⟨?_, rfl⟩)
 · obtain ⟨j, x, rfl, hx, hj, hF, nx⟩ := hr.step (by simp) hs hlt
   refine h.load (map_get hx) c_int rfl ⟨x, rfl, bce (fun e => ⟨?_, rfl⟩) (fun e => andl rfl (nx (fun r => inL r n = inL l n) ?_))⟩
   · rw [← hF, inL, e, decide_eq_true (by simp)]
   · rw [← hF, inL, inL]; exact decide_eq_decide.2 (by simp [Ne.symm e])
 · rw [← hr.done (by simp) hge]; rfl
theorem ref06_Sections_ok {d : D} {path : List St} (h : ∀ s, At Tryz.prog s t_Step d (path.map St.enc)) (hb : 24 * path.length ≤ 140737488355328) :
   DCalls Tryz.prog n_ref06_Sections [.one d] σ (SlPost σ t_int ((path.map St.Sec).map Go.Fw.encI)) := by
 have hs := (h σ).size
 rw [List.length_map] at hs
 refine (W_ref06_Sections d σ _ ?_).ret (Q := fun r s => ∃ r' σ', Ret Tryz.prog σ s r σ' r' ∧ SlPost σ t_int ((path.map St.Sec).map Go.Fw.encI) r' σ') (fun r s h => h)
 refine (h σ).lenK ⟨fun d n s => ∃ j : Nat, n = j ∧ j ≤ path.length ∧ Own Tryz.prog σ s t_int d (((path.take j).map St.Sec).map Go.Fw.encI), fun _ n _ => path.length - n.toNat, ⟨0, rfl, by omega, .nil _ (.refl _)⟩, ?_⟩
 rintro d1 _ s ⟨j, rfl, hj, ho⟩
 rw [List.length_map]
 refine bcd (fun hlt => ?_) (fun hge => ?_)
 · obtain ⟨x, hx⟩ := get_of_lt (l := path) (j := j) (by omega)
   refine (h s).load (map_get hx) c_Step rfl ⟨x.Sec, x.In, x.Out, rfl, newObj_intro fun id s2 hid _ he hs2 => ?_⟩
   have hl : (((path.take j).map St.Sec).map Go.Fw.encI).length = j := by simp; omega
   refine (ho.ext' he).append (At.fresh hs2 (by simp) rfl) (by simp; omega) (by simp; omega) fun d4 s5 ho5 _ _ => ?_
   rw [w64_succ (by omega)]
   refine ⟨⟨j + 1, rfl, by omega, ?_⟩, by show path.length - ((j + 1 : Nat) : Int).toNat < path.length - ((j : Nat) : Int).toNat; omega⟩
   have e : path.take (j + 1) = path.take j ++ [x] := by rw [List.take_add_one, hx]; rfl
   rw [e, List.map_append, List.map_append]; exact ho5
 · have e : j = path.length := by omega
   rw [e, List.take_length] at ho
   exact own_fin ho (flatI _)
section
variable {c0 c1 c2 c3 c4 : D} {c : Cf}
theorem ref06_kind_ok (h : CfAt σ c0 c1 c2 c3 c4 c) (s : Int) : Pure Tryz.prog n_ref06_kind [cfA c0 c1 c2 c3 c4 c, iA s] σ (.a (iA (kindI c s))) := by
 refine W_ref06_kind _ _ _ _ _ _ _ _ _ s σ _ (bcd (fun h1 => ⟨by rw [kindI_none (geti_neg h1)], rfl⟩) (fun h1 => h.secs.lenK (bcd (fun h2 => ⟨by rw [List.length_map] at h2; rw [kindI_none (geti_ge h2)], rfl⟩) (fun h2 => ?_))))
 rw [List.length_map] at h2
 obtain ⟨x, hx⟩ := get_of_lt (l := c.Secs) (j := s.toNat) (by omega)
 refine h.secs.load (map_get hx) c_Section (by omega) ⟨x.Kind, rfl, ?_, rfl⟩
 rw [kindI_some (y := x) (by unfold geti; rw [if_neg h1, hx])]
theorem ref06_Approach_ok (h : CfAt σ c0 c1 c2 c3 c4 c) (i : Int) : Pure Tryz.prog n_ref06_Approach [cfA c0 c1 c2 c3 c4 c, iA i] σ (.a (iA (c.Approach i))) := by
 obtain ⟨rows, hr, hl⟩ := rts_len h
 refine W_ref06_Approach _ _ _ _ _ _ _ _ _ i σ _ (bcd (fun h1 => ⟨by rw [Cf.Approach, geti_neg h1]; rfl, rfl⟩) (fun h1 => hr.lenK (bcd (fun h2 => ⟨by rw [hl] at h2; rw [Cf.Approach, geti_ge h2]; rfl, rfl⟩) (fun h2 => ?_))))
 rw [hl] at h2
 obtain ⟨x, hx⟩ := get_of_lt (l := c.Rts) (j := i.toNat) (by omega)
 have hg : geti c.Rts i = some x := by unfold geti; rw [if_neg h1, hx]
 have hA : c.Approach i = c.approach x := by rw [Cf.Approach, hg]; rfl
 rw [hA]
 obtain ⟨rows', hr', _, d1, d2, d3, hrow, _⟩ := rts_get h hx
 refine hr'.load hrow c_Route (by omega) ⟨_, rfl, bcd (fun h3 => ⟨by rw [Cf.approach, geti_neg h3]; rfl, rfl⟩) (fun h3 => hr'.load hrow c_Route (by omega) ⟨_, rfl, h.sigs.lenK (bcd (fun h4 => ⟨?_, rfl⟩) (fun h4 => hr'.load hrow c_Route (by omega) ⟨_, rfl, ?_⟩))⟩)⟩
 · rw [List.length_map] at h4; rw [Cf.approach, geti_ge h4]; rfl
 · rw [List.length_map] at h4
   obtain ⟨y, hy⟩ := get_of_lt (l := c.Sigs) (j := x.Entry.toNat) (by omega)
   refine h.sigs.load (map_get hy) c_Signal (by omega) ⟨y.Sec, rfl, ?_, rfl⟩
   rw [Cf.approach, show geti c.Sigs x.Entry = some y by unfold geti; rw [if_neg h3, hy]]; rfl
theorem ref06_at_ok (h : CfAt σ c0 c1 c2 c3 c4 c) (sec e but : Int) : Pure Tryz.prog n_ref06_at [cfA c0 c1 c2 c3 c4 c, iA sec, iA e, iA but] σ (.a (bA (atB sec e but c.Sigs 0))) := by
 have hs := h.sigs.size
 rw [List.length_map] at hs
 refine W_ref06_at _ _ _ _ _ _ _ _ _ sec e but σ _ (h.sigs.lenK ⟨fun m s => s = σ ∧ Rng c.Sigs (fun r => atB sec e but r m.toNat = atB sec e but c.Sigs 0) m, fun m _ => c.Sigs.length - m.toNat, ⟨rfl, .start rfl⟩, ?_⟩)
 rintro m s ⟨rfl, hr⟩
 refine bcd (fun hlt => ?_) (fun hge => ⟨?_, rfl⟩)
 · obtain ⟨j, x, rfl, hx, hj, hF, nx⟩ := hr.step (by simp) hs hlt
   rw [atB, Int.toNat_natCast] at hF
   have hw : (w64 ((j : Int) + 1)).toNat = j + 1 := by rw [w64_succ (by omega)]; omega
   have go : (decide (x.Sec = sec) && decide (x.End_ = e) && decide ((j : Int) ≠ but)) = false → (s = s ∧ Rng c.Sigs (fun r => atB sec e but r (w64 ((j : Int) + 1)).toNat = atB sec e but c.Sigs 0) (w64 ((j : Int) + 1))) ∧ c.Sigs.length - (w64 ((j : Int) + 1)).toNat < c.Sigs.length - (j : Int).toNat := by
     intro hn
     rw [hn, Bool.false_or] at hF
     exact andl rfl (nx (fun r => atB sec e but r (w64 ((j : Int) + 1)).toNat = atB sec e but c.Sigs 0) (by rw [hw]; exact hF))
   refine h.sigs.load (map_get hx) c_Signal rfl ⟨x.Sec, x.End_, rfl, bce (fun h1 => bce (fun h2 => bcn (fun h3 => ⟨?_, rfl⟩) (fun h3 => go (by simp [h3]))) (fun h2 => go (by simp [h2]))) (fun h1 => go (by simp [h1]))⟩
   rw [← hF, decide_eq_true h1, decide_eq_true h2, decide_eq_true h3]; rfl
 · rw [← hr.done (by simp) hge]; rfl
theorem ref06_signals_ok (h : CfAt σ c0 c1 c2 c3 c4 c) : Pure Tryz.prog n_ref06_signals [cfA c0 c1 c2 c3 c4 c] σ (.a (bA c.sigsOk)) := by
 have hs := h.sigs.size
 rw [List.length_map] at hs
 have no : ∀ (i : Nat) (x : Sg), c.Sigs[i]? = some x → ¬ ((nxt c.Jts x.Sec x.End_).isSome = true ∧ atB x.Sec x.End_ i c.Sigs 0 = false) → c.sigsOk = false := fun i x hi hn => by
   unfold Cf.sigsOk
   cases hb : sgrun c.Jts c.Sigs [] with
   | false => rfl
   | true => exact absurd ((sigs_iff c).2 hb i x hi) hn
 refine W_ref06_signals _ _ _ _ _ _ _ _ _ σ _ (h.sigs.lenK ⟨fun m s => s = σ ∧ ∃ j : Nat, m = j ∧ j ≤ c.Sigs.length ∧ ∀ (i : Nat) (x : Sg), i < j → c.Sigs[i]? = some x → (nxt c.Jts x.Sec x.End_).isSome = true ∧ atB x.Sec x.End_ i c.Sigs 0 = false, fun m _ => c.Sigs.length - m.toNat, ⟨rfl, 0, rfl, by omega, fun i x hi => by omega⟩, ?_⟩)
 rintro _ s ⟨rfl, j, rfl, hj, hall⟩
 rw [List.length_map]
 refine bcd (fun hlt => ?_) (fun hge => h.sigs.lenK ⟨?_, rfl⟩)
 · have hlt : j < c.Sigs.length := by omega
   obtain ⟨x, hx⟩ := get_of_lt (l := c.Sigs) (j := j) (by omega)
   refine h.sigs.load (map_get hx) c_Signal rfl ⟨x.Sec, x.End_, rfl, (ref05_Next_ok x.Sec x.End_ h.jts).use (opt2_ex _ (bcnot (fun e => ⟨by rw [no j x hx (fun g => by rw [g.1] at e; cases e)], rfl⟩) (fun e => (ref06_at_ok h x.Sec x.End_ j).use ⟨_, rfl, bc (fun e2 => ⟨by rw [no j x hx (fun g => by rw [g.2] at e2; cases e2)], rfl⟩) (fun e2 => ?_)⟩)))⟩
   rw [w64_succ (by omega)]
   refine ⟨⟨rfl, j + 1, rfl, by omega, fun i y hi hy => ?_⟩, dec_lt hlt⟩
   by_cases hij : i = j
   · subst hij; rw [hx] at hy; cases hy; exact ⟨e, e2⟩
   · exact hall i y (by omega) hy
 · rw [List.length_map]
   have : sgrun c.Jts c.Sigs [] = true := (sigs_iff c).1 fun i x hi => hall i x (by have := (List.getElem?_eq_some_iff.1 hi).1; omega) hi
   rw [Cf.sigsOk, this, Bool.true_and]
   congr 3
   exact decide_eq_decide.2 (by omega)
theorem ref06_crossings_ok (h : CfAt σ c0 c1 c2 c3 c4 c) (ht : topoOk c.Secs c.Jts = true) : Pure Tryz.prog n_ref06_crossings [cfA c0 c1 c2 c3 c4 c] σ (.a (bA c.xsOk)) := by
 have hs := h.xs.size
 rw [List.length_map] at hs
 have key : c.xsOk = true → ∀ (i : Nat) (x : Int), c.Xs[i]? = some x → (∃ s, geti c.Secs x = some s ∧ s.Line = 0) ∧ x ∉ c.Xs.take i := fun hb i x hi => by
   rw [Cf.xsOk, Bool.and_eq_true, xrun_iff] at hb
   obtain ⟨⟨h1, h2, _⟩, _⟩ := hb
   refine ⟨h1 x (List.mem_of_getElem? hi), fun hm => ?_⟩
   obtain ⟨j, hj⟩ := List.mem_iff_getElem?.1 hm
   rw [List.getElem?_take] at hj
   split at hj
   · rename_i hji
     obtain ⟨q1, q2⟩ := List.getElem?_eq_some_iff.1 hi
     obtain ⟨p1, p2⟩ := List.getElem?_eq_some_iff.1 hj
     have := (List.getElem_inj (h₀ := q1) (h₁ := p1) h2).1 (by rw [q2, p2])
     omega
   · cases hj
 have no : ∀ (i : Nat) (x : Int), c.Xs[i]? = some x → ¬ ((∃ s, geti c.Secs x = some s ∧ s.Line = 0) ∧ x ∉ c.Xs.take i) → c.xsOk = false := fun i x hi hn => by
   cases hb : c.xsOk with
   | false => rfl
   | true => exact absurd (key hb i x hi) hn
 refine W_ref06_crossings _ _ _ _ _ _ _ _ _ σ _ (h.xs.lenK ⟨fun m s => s = σ ∧ ∃ j : Nat, m = j ∧ j ≤ c.Xs.length ∧ ∀ (i : Nat) (x : Int), i < j → c.Xs[i]? = some x → (∃ s, geti c.Secs x = some s ∧ s.Line = 0) ∧ x ∉ c.Xs.take i, fun m _ => c.Xs.length - m.toNat, ⟨rfl, 0, rfl, by omega, fun i x hi => by omega⟩, ?_⟩)
 rintro _ s ⟨rfl, j, rfl, hj, hall⟩
 rw [List.length_map]
 refine bcd (fun hlt => ?_) (fun hge => h.xs.lenK ⟨?_, rfl⟩)
 · have hlt : j < c.Xs.length := by omega
   obtain ⟨x, hx⟩ := get_of_lt (l := c.Xs) (j := j) (by omega)
   refine h.xs.load (map_get hx) c_int rfl ⟨x, rfl, (ref06_kind_ok h x).use ⟨_, rfl, ?_⟩⟩
   cases hg : geti c.Secs x with
   | none =>
     rw [kindI_none hg]
     exact bcd (fun _ => ⟨by rw [no j x hx (fun g => by obtain ⟨⟨s, q, _⟩, _⟩ := g; rw [hg] at q; cases q)], rfl⟩) (fun e => absurd (by decide) e)
   | some y =>
     rw [kindI_some hg]
     have hgi := geti_some hg
     have hget : c.Secs[x.toNat]? = some y := hgi.2.2
     refine bcd (fun e => absurd (kind_ok ht hg).1 (by omega)) (fun _ => h.secs.load (map_get hget) c_Section (by omega) ⟨y.Line, rfl, bcn (fun e => ⟨by rw [no j x hx (fun g => by obtain ⟨⟨s, q, q2⟩, _⟩ := g; rw [hg] at q; cases q; exact e q2)], rfl⟩) (fun e => h.xs.sliceK (lo := 0) (hi := j) c_int rfl rfl (by omega) (by rw [List.length_map]; omega) ?_)⟩)
     have hsub := h.xs.sub (lo := 0) (hi := j) (by omega) (by rw [List.length_map]; omega)
     rw [List.drop_zero, Nat.sub_zero, ← List.map_take] at hsub
     refine (ref06_in_ok x hsub).use ⟨_, rfl, bc (fun e2 => ⟨by rw [no j x hx (fun g => g.2 (of_decide_eq_true e2))], rfl⟩) (fun e2 => ?_)⟩
     rw [w64_succ (by omega)]
     refine ⟨⟨rfl, j + 1, rfl, by omega, fun i y' hi hy => ?_⟩, dec_lt hlt⟩
     by_cases hij : i = j
     · subst hij; rw [hx] at hy; cases hy; exact ⟨⟨y, hg, e⟩, of_decide_eq_false e2⟩
     · exact hall i y' (by omega) hy
 · rw [List.length_map]
   have : xrun c.Secs c.Xs [] = true := by
     rw [xrun_iff]
     refine ⟨fun x hx => ?_, ?_, fun x _ hx => by simp at hx⟩
     · obtain ⟨i, hi⟩ := List.mem_iff_getElem?.1 hx
       exact (hall i x (by have := (List.getElem?_eq_some_iff.1 hi).1; omega) hi).1
     · rw [List.nodup_iff_pairwise_ne, List.pairwise_iff_getElem]
       intro i j' hi hj' hij e
       have := (hall j' _ (by omega) (List.getElem?_eq_getElem hj')).2
       apply this
       rw [List.mem_take_iff_getElem]
       exact ⟨i, by omega, e⟩
   rw [Cf.xsOk, this, Bool.true_and]
   congr 3
   exact decide_eq_decide.2 (by omega)
end
end
end Go.Proofs.YtfdffboelecgoaaGreatDoor
section
namespace Go.Fw
variable {P : Program}
inductive Cs
 | int (k : IntKind)
 | bool
 | str
 | sl (e : TypeId)
def fieldsSh (g : TypeId → Option (List Cs)) : List Field → Option (List Cs)
 | [] => some []
 | f :: fs => match g f.type, fieldsSh g fs with
   | some a, some b => some (a ++ b)
   | _, _ => none
def cellsSh (P : Program) : Nat → TypeId → Option (List Cs)
 | 0, _ => none
 | m + 1, t => match P.underlying t with
   | some .bool => some [.bool]
   | some (.int k) => some [.int k]
   | some .string => some [.str]
   | some (.slice e) => some [.sl e]
   | some (.struct fs) => fieldsSh (cellsSh P m) fs.toList
   | some (.array k e) => (cellsSh P m e).map fun l => (List.replicate k l).flatten
   | _ => none
def CsOk (P : Program) : Cs → D → Prop
 | .int k, d => ∃ m, d = .int k m ∧ (Lit.int k m).wf = true
 | .bool, d => ∃ b, d = .bool b
 | .str, d => ∃ s, d = .str s ∧ s.size ≤ 140737488351232
 | .sl e, d => d = .nils ∨ ∃ rows, d = .sl (P.cellsOf e) rows ∧ rows.length * P.bytesOf e ≤ 140737488351232 ∧ ∀ row ∈ rows, ∃ n, tyD P n e row
def CsL (P : Program) : List Cs → List D → Prop
 | [], ds => ds = []
 | s :: ss, ds => ∃ d r, ds = d :: r ∧ CsOk P s d ∧ CsL P ss r
theorem CsL.append {a b : List Cs} {x y : List D} (h1 : CsL P a x) (h2 : CsL P b y) : CsL P (a ++ b) (x ++ y) := by
 induction a generalizing x with
 | nil => simp only [CsL] at h1; subst h1; exact h2
 | cons s a ih =>
   obtain ⟨d, r, rfl, q1, q2⟩ := h1
   exact ⟨d, r ++ y, rfl, q1, ih q2⟩
theorem fields_sh {g : TypeId → Option (List Cs)} {ty : TypeId → List D → Prop} (ih : ∀ t ds shs, ty t ds → g t = some shs → CsL P shs ds) : ∀ (fs : List Field) (ds : List D) (shs : List Cs), tyF P ty fs ds → fieldsSh g fs = some shs → CsL P shs ds
 | [], ds, shs, h1, h2 => by
   simp only [tyF] at h1; simp only [fieldsSh] at h2
   cases h2; subst h1; rfl
 | f :: fs, ds, shs, h1, h2 => by
   obtain ⟨a, b, rfl, _, q1, q2⟩ := h1
   rw [fieldsSh] at h2
   split at h2
   · rename_i x y e1 e2
     cases h2
     exact (ih _ _ _ q1 e1).append (fields_sh ih fs b y q2 e2)
   · cases h2
theorem rep_sh {ty : TypeId → List D → Prop} {e : TypeId} {l : List Cs} (ih : ∀ ds, ty e ds → CsL P l ds) : ∀ (k : Nat) (ds : List D), tyR P ty e k ds → CsL P (List.replicate k l).flatten ds
 | 0, ds, h => by simp only [tyR] at h; subst h; rfl
 | k + 1, ds, h => by
   obtain ⟨a, b, rfl, _, q1, q2⟩ := h
   rw [List.replicate_succ, List.flatten_cons]
   exact (ih a q1).append (rep_sh ih k b q2)
theorem ty_sh : ∀ (n m : Nat) (t : TypeId) (ds : List D) (shs : List Cs), tyD P n t ds → cellsSh P m t = some shs → CsL P shs ds
 | 0, _, _, _, _, h, _ => h.elim
 | _ + 1, 0, _, _, _, _, h => by cases h
 | n + 1, m + 1, t, ds, shs, h1, h2 => by
   unfold tyD at h1
   unfold cellsSh at h2
   split at h1
   · rename_i hu
     rw [hu] at h2; cases h2
     obtain ⟨b, rfl⟩ := h1
     exact ⟨_, _, rfl, ⟨b, rfl⟩, rfl⟩
   · rename_i k hu
     rw [hu] at h2; cases h2
     obtain ⟨b, rfl, hw⟩ := h1
     exact ⟨_, _, rfl, ⟨b, rfl, hw⟩, rfl⟩
   · rename_i hu
     rw [hu] at h2; cases h2
     obtain ⟨b, rfl, hw⟩ := h1
     exact ⟨_, _, rfl, ⟨b, rfl, hw⟩, rfl⟩
   · rename_i e hu
     rw [hu] at h2; cases h2
     rcases h1 with rfl | ⟨rows, rfl, q1, q2⟩
     · exact ⟨_, _, rfl, .inl rfl, rfl⟩
     · exact ⟨_, _, rfl, .inr ⟨rows, rfl, q1, fun row hr => ⟨n, q2 row hr⟩⟩, rfl⟩
   · rename_i fs hu
     rw [hu] at h2
     exact fields_sh (fun t ds shs a b => ty_sh n m t ds shs a b) fs.toList ds shs h1 h2
   · rename_i k e hu
     rw [hu] at h2
     simp only [Option.map_eq_some_iff] at h2
     obtain ⟨l, e1, rfl⟩ := h2
     exact rep_sh (fun ds a => ty_sh n m e ds l a e1) k ds h1
   · exact h1.elim
def I64 (n : Int) : Prop := -9223372036854775808 ≤ n ∧ n ≤ 9223372036854775807
theorem wf_i64 {n : Int} (h : (Lit.int .i64 n).wf = true) : I64 n := by
 simp only [Lit.wf, IntKind.min, IntKind.max, IntKind.signed, IntKind.bits, Bool.and_eq_true, decide_eq_true_eq, if_true] at h
 unfold I64
 omega
theorem I64.w {n : Int} (h : I64 n) : w64 n = n := w64_id h.1 h.2
theorem sh_rel {α : Type} {e : TypeId} {d : D} {bytes : Nat} (R : List D → α → Prop) (hf : ∀ row n, tyD P n e row → ∃ a, R row a) (hb : P.bytesOf e = bytes) (hb0 : 0 < bytes) (h : CsOk P (.sl e) d) :
   ∃ (rows : List (List D)) (l : List α), (∀ s, At P s e d rows) ∧ rows.length = l.length ∧ (∀ (i : Nat) row a, rows[i]? = some row → l[i]? = some a → R row a) ∧ d ≠ .zsl ∧ bytes * l.length ≤ 140737488351232 := by
 rcases h with rfl | ⟨rows, rfl, q1, q2⟩
 · exact ⟨[], [], fun s => .nil, rfl, fun i row a h => by simp at h, (by intro e; cases e), by simp⟩
 · have key : ∀ rows : List (List D), (∀ row ∈ rows, ∃ n, tyD P n e row) → ∃ l : List α, rows.length = l.length ∧ ∀ (i : Nat) row a, rows[i]? = some row → l[i]? = some a → R row a := by
     intro rows
     induction rows with
     | nil => intro _; exact ⟨[], rfl, fun i row a h => by simp at h⟩
     | cons r rs ih =>
       intro hr
       obtain ⟨l, e1, e2⟩ := ih fun row h => hr row (by simp [h])
       obtain ⟨n, hn⟩ := hr r (by simp)
       obtain ⟨a, ha⟩ := hf r n hn
       refine ⟨a :: l, by simp [e1], fun i row b h1 h2 => ?_⟩
       cases i with
       | zero => simp at h1 h2; subst h1 h2; exact ha
       | succ i => exact e2 i row b (by simpa using h1) (by simpa using h2)
   obtain ⟨l, hl, hR⟩ := key rows q2
   rw [hb, hl] at q1
   have q3 : bytes * l.length ≤ 140737488351232 := by rw [Nat.mul_comm]; exact q1
   have h1 : 1 * l.length ≤ bytes * l.length := Nat.mul_le_mul_right _ hb0
   refine ⟨rows, l, fun s => ⟨⟨rfl, .inr rfl⟩, by omega, fun es rows e => ?_⟩, hl, hR, (by intro e; cases e), q3⟩
   injection e with e1 e2
   exact e1.symm
theorem sh_rows {α : Type} {e : TypeId} {d : D} {bytes : Nat} (f : α → List D) (Q : α → Prop) (hf : ∀ row n, tyD P n e row → ∃ a, row = f a ∧ Q a) (hb : P.bytesOf e = bytes) (hb0 : 0 < bytes) (h : CsOk P (.sl e) d) :
   ∃ l : List α, (∀ s, At P s e d (l.map f)) ∧ (∀ a ∈ l, Q a) ∧ d ≠ .zsl ∧ bytes * l.length ≤ 140737488351232 := by
 rcases h with rfl | ⟨rows, rfl, q1, q2⟩
 · exact ⟨[], fun s => .nil, fun a ha => by simp at ha, (by intro e; cases e), by simp⟩
 · have key : ∀ rows : List (List D), (∀ row ∈ rows, ∃ n, tyD P n e row) → ∃ l : List α, l.map f = rows ∧ ∀ a ∈ l, Q a := by
     intro rows
     induction rows with
     | nil => intro _; exact ⟨[], rfl, fun a ha => by simp at ha⟩
     | cons r rs ih =>
       intro hr
       obtain ⟨l, e1, e2⟩ := ih fun row h => hr row (by simp [h])
       obtain ⟨n, hn⟩ := hr r (by simp)
       obtain ⟨a, rfl, ha⟩ := hf r n hn
       refine ⟨a :: l, by simp [e1], fun b hb => ?_⟩
       simp only [List.mem_cons] at hb
       rcases hb with rfl | hb
       · exact ha
       · exact e2 b hb
   obtain ⟨l, rfl, hl⟩ := key rows q2
   rw [hb, List.length_map] at q1
   have q3 : bytes * l.length ≤ 140737488351232 := by rw [Nat.mul_comm]; exact q1
   have h1 : 1 * l.length ≤ bytes * l.length := Nat.mul_le_mul_right _ hb0
   refine ⟨l, fun s => ⟨⟨rfl, .inr rfl⟩, by rw [List.length_map]; omega, fun es rows e => ?_⟩, hl, (by intro e; cases e), q3⟩
   injection e with e1 e2
   exact e1.symm
theorem tya_agg {t : TypeId} {x : A} (h : TyA P t x) (hg : isAggT P t = some true) : ∃ cs n, x = .agg cs ∧ tyD P n t cs := by
 cases x with
 | one d => have := h.1; rw [hg] at this; cases this
 | agg cs => exact ⟨cs, 30, rfl, h.2⟩
theorem tys_cons {t : TypeId} {ts : List TypeId} {as0 : List A} (h : TyAs P (t :: ts) as0) : ∃ a r, as0 = a :: r ∧ TyA P t a ∧ TyAs P ts r := h
theorem tys_nil {as0 : List A} (h : TyAs P [] as0) : as0 = [] := h
def csZero : Cs → Value
 | .int k => .int k 0
 | .bool => .bool false
 | .str => .string .empty
 | .sl _ => .slice none 0 0
def zeroArg (P : Program) (t : TypeId) : Value := match isAggT P t, cellsSh P 9 t with
 | some true, some l => .agg (l.map csZero).toArray
 | _, some [c] => csZero c
 | _, _ => .int .i64 0
end Go.Fw
namespace Go.Fw
theorem law_fn1 {H : Type} {s : List (DataW H) → Left H} {ds : List (DataW H)} (h : ds.length = 1) (hs : ∀ a, s [a] = { results := [.lit (.bool true)], args := [a] } := by intros; rfl) : s ds = { results := [.lit (.bool true)], args := ds } := by
 match ds, h with
 | [a], _ => exact hs a
end Go.Fw
namespace Go.Fw
def EqR {α : Type} (la lb : List α) (n : Int) : Prop := ∃ j : Nat, n = j ∧ j ≤ la.length ∧ la.take j = lb.take j
theorem EqR.start {α : Type} (la lb : List α) : EqR la lb 0 := ⟨0, rfl, by omega, by simp⟩
theorem EqR.step {α : Type} {la lb : List α} {n : Int} {m : Nat} (h : EqR la lb n) (hl : la.length = lb.length) (hm : m = la.length) (hs : la.length < 2 ^ 60) (hlt : n < (m : Int)) :
   ∃ (j : Nat) (x y : α), n = j ∧ la[j]? = some x ∧ lb[j]? = some y ∧ (x ≠ y → la ≠ lb) ∧ (x = y → EqR la lb (w64 (n + 1)) ∧ la.length - (w64 (n + 1)).toNat < la.length - n.toNat) := by
 obtain ⟨j, rfl, hj, hF⟩ := h
 have hj' : j < la.length := by omega
 obtain ⟨x, hx⟩ := get_of_lt hj'
 obtain ⟨y, hy⟩ := get_of_lt (l := lb) (j := j) (by omega)
 refine ⟨j, x, y, rfl, hx, hy, fun hne e => ?_, fun e => ?_⟩
 · subst e; rw [hx] at hy; cases hy; exact hne rfl
 · rw [w64_succ (by omega)]
   refine ⟨⟨j + 1, rfl, by omega, ?_⟩, by omega⟩
   rw [List.take_add_one, List.take_add_one, hF, hx, hy, e]
theorem EqR.done {α : Type} {la lb : List α} {n : Int} {m : Nat} (h : EqR la lb n) (hl : la.length = lb.length) (hm : m = la.length) (hge : ¬ n < (m : Int)) : la = lb := by
 obtain ⟨j, rfl, hj, hF⟩ := h
 have : j = la.length := by omega
 rw [List.take_of_length_le (by omega), List.take_of_length_le (by omega)] at hF
 exact hF
end Go.Fw
namespace Go.Fw
end Go.Fw
end
namespace Go.Proofs.YtfdffboelecgoaaGreatDoor
open Go.Fw Go.Proofs Go.RowKit
section
variable {σ : Store}
theorem ref06_sameInts_ok {a b : D} {la lb : List Int} (ha : At Tryz.prog σ t_int a (la.map Go.Fw.encI)) (hb : At Tryz.prog σ t_int b (lb.map Go.Fw.encI)) : Pure Tryz.prog n_ref06_sameInts [.one a, .one b] σ (.a (bA (decide (la = lb)))) := by
 have hs := ha.size
 rw [List.length_map] at hs
 refine W_ref06_sameInts a b σ _ (ha.lenK (hb.lenK ?_))
 rw [List.length_map, List.length_map]
 refine bcn (fun hne => ⟨?_, rfl⟩) (fun he => ha.lenK ?_)
 · rw [decide_eq_false (fun e => hne (by rw [e]))]
 have hl : la.length = lb.length := by omega
 rw [List.length_map]
 refine ⟨fun n s => s = σ ∧ EqR la lb n, fun n _ => la.length - n.toNat, ⟨rfl, .start _ _⟩, ?_⟩
 rintro n s ⟨rfl, hr⟩
 refine bcd (fun hlt => ?_) (fun hge => ⟨?_, rfl⟩)
 · obtain ⟨j, x, y, rfl, hx, hy, hn, hy2⟩ := hr.step hl rfl hs hlt
   refine ha.load (map_get hx) c_int rfl ⟨x, rfl, hb.load (map_get hy) c_int rfl ⟨y, rfl, bcn (fun e => ⟨?_, rfl⟩) (fun e => andl rfl (hy2 e))⟩⟩
   rw [decide_eq_false (hn e)]
 · rw [decide_eq_true (hr.done hl rfl hge)]
theorem ref06_SameNeeds_ok {a b : D} {la lb : List Nd} (ha : At Tryz.prog σ t_Need a (la.map Nd.enc)) (hb : At Tryz.prog σ t_Need b (lb.map Nd.enc)) : Pure Tryz.prog n_ref06_SameNeeds [.one a, .one b] σ (.a (bA (decide (la = lb)))) := by
 have hs := ha.size
 rw [List.length_map] at hs
 refine W_ref06_SameNeeds a b σ _ (ha.lenK (hb.lenK ?_))
 rw [List.length_map, List.length_map]
 refine bcn (fun hne => ⟨?_, rfl⟩) (fun he => ha.lenK ?_)
 · rw [decide_eq_false (fun e => hne (by rw [e]))]
 have hl : la.length = lb.length := by omega
 rw [List.length_map]
 refine ⟨fun n s => s = σ ∧ EqR la lb n, fun n _ => la.length - n.toNat, ⟨rfl, .start _ _⟩, ?_⟩
 rintro n s ⟨rfl, hr⟩
 refine bcd (fun hlt => ?_) (fun hge => ⟨?_, rfl⟩)
 · obtain ⟨j, x, y, rfl, hx, hy, hn, hy2⟩ := hr.step hl rfl hs hlt
   refine ha.load (map_get hx) c_Need rfl ⟨x.Sec, x.Pos, rfl, hb.load (map_get hy) c_Need rfl ⟨y.Sec, y.Pos, rfl, bcnot (fun e => ⟨?_, rfl⟩) (fun e => andl rfl (hy2 ?_))⟩⟩
   · rw [decide_eq_false (hn fun g => by rw [g] at e; simp at e)]
   · simp at e; cases x; cases y; simp at e; simp [e]
 · rw [decide_eq_true (hr.done hl rfl hge)]
section
variable {c0 c1 c2 c3 c4 : D} {c : Cf} (h : ∀ s, CfAt s c0 c1 c2 c3 c4 c)
include h
theorem ref06_path_ok (ht : topoOk c.Secs c.Jts = true) (hsg : c.sigsOk = true) (r : Rt) {d1 d2 d3 : D} (hp : ∀ s, At Tryz.prog s t_Step d1 (r.Path.map St.enc)) :
   Pure Tryz.prog n_ref06_path [cfA c0 c1 c2 c3 c4 c, rtA d1 d2 d3 r] σ (.a (bA (c.path r))) := by
 have hl := (hp σ).size
 rw [List.length_map] at hl
 refine .of (W_ref06_path _ _ _ _ _ _ _ _ _ _ _ d1 d2 d3 _ σ _ ?_) (flat_b _)
 intro R hR
 have no : c.path r = false → (RV.a (bA false) = .a (bA (c.path r)) ∧ Ext σ σ) := fun e => ⟨by rw [e], .refl _⟩
 refine bcd (fun e => no (by rw [Cf.path, geti_neg e])) (fun e0 => (h σ).sigs.lenK ?_)
 rw [List.length_map]
 refine bcd (fun e => no (by rw [Cf.path, geti_ge e])) (fun e1 => ?_)
 obtain ⟨a, hg⟩ := geti_ex e0 e1
 have hpath : c.path r = ((decide (r.Exit = -1) || (geti c.Sigs r.Exit).isSome) && decide (1 ≤ r.Path.length ∧ r.Path.length ≤ 8) && prunA c r (geti c.Sigs r.Exit) r.Path a [a.Sec]) := by rw [Cf.path, hg]
 refine bcd (fun e => no (by rw [hpath, geti_neg (by omega), decide_eq_false (by omega)]; rfl)) (fun e2 => (h σ).sigs.lenK ?_)
 rw [List.length_map]
 refine bcd (fun e => no (by rw [hpath, geti_ge e, decide_eq_false (by omega)]; rfl)) (fun e3 => (hp σ).lenK ?_)
 rw [List.length_map]
 refine bcd (fun e => no (by rw [hpath, decide_eq_false (p := 1 ≤ r.Path.length ∧ _) (by omega), Bool.and_false, Bool.false_and])) (fun e4 => (hp σ).lenK ?_)
 rw [List.length_map]
 refine bcd (fun e => no (by rw [hpath, decide_eq_false (p := 1 ≤ r.Path.length ∧ _) (by omega), Bool.and_false, Bool.false_and])) (fun e5 => hR σ ?_)
 have hex1 : (decide (r.Exit = -1) || (geti c.Sigs r.Exit).isSome) = true := by
   by_cases e : r.Exit = -1
   · rw [decide_eq_true e]; rfl
   · obtain ⟨x, hx⟩ := geti_ex (l := c.Sigs) (i := r.Exit) (by omega) e3
     rw [hx]; simp
 rw [hex1, decide_eq_true (by omega), Bool.true_and, Bool.true_and] at hpath
 have hgs := geti_some hg
 refine (h σ).sigs.load (map_get hgs.2.2) c_Signal (by omega) ⟨a.Sec, a.End_, rfl, newObj_intro fun id s1 hid _ he1 hs1 => (hp s1).lenK ?_⟩
 rw [List.length_map]
 refine ⟨fun m e d n s => ∃ seen : List Int, Own Tryz.prog σ s t_int d (seen.reverse.map Go.Fw.encI) ∧ (seen.length : Int) ≤ n + 1 ∧ Rng r.Path (fun q => prunA c r (geti c.Sigs r.Exit) q ⟨m, e⟩ seen = c.path r) n, fun _ _ _ n _ => r.Path.length - n.toNat,
   ⟨[a.Sec], .at_new hid he1 hs1 (by simp) rfl, by simp, .start hpath.symm⟩, ?_⟩
 rintro m e d n s ⟨seen, ho, hsl, hr⟩
 refine bcd (fun hlt => ?_) (fun hge => ?_)
 · obtain ⟨j, x, rfl, hx, hj, hF, nx⟩ := hr.step rfl hl hlt
   intro R1 hR1
   refine (hp s).load (map_get hx) c_Step rfl ⟨x.Sec, x.In, x.Out, rfl, (ref05_Next_ok m e (h s).jts).use (opt2_ex _ ?_)⟩
   rw [prunA] at hF
   have hes := ho.ext
   have bad : pstep c r (geti c.Sigs r.Exit) ⟨m, e⟩ x (r.Path.drop (j + 1)).isEmpty seen = false → (RV.a (.one (.bool false)) = .a (bA (c.path r)) ∧ Ext σ s) := fun hb => by
     rw [hb] at hF
     exact ⟨by rw [← hF]; rfl, hes⟩
   have good : pstep c r (geti c.Sigs r.Exit) ⟨m, e⟩ x (r.Path.drop (j + 1)).isEmpty seen = true → ∀ s' d', Own Tryz.prog σ s' t_int d' ((x.Sec :: seen).reverse.map Go.Fw.encI) → R1 x.Sec x.Out d' s' := fun hb s' d' ho' => by
     rw [hb, Bool.true_and] at hF
     have hn := nx (fun q => prunA c r (geti c.Sigs r.Exit) q ⟨x.Sec, x.Out⟩ (x.Sec :: seen) = c.path r) hF
     exact hR1 _ _ _ _ ⟨⟨x.Sec :: seen, ho', by rw [w64_succ (by omega), List.length_cons]; omega, hn.1⟩, hn.2⟩
   intro R2 hR2
   rw [pstep] at bad good
   cases hn : nxt c.Jts m e with
   | none =>
     rw [hn] at bad
     exact bcnot (fun _ => bad rfl) (fun e => by cases e)
   | some p =>
     obtain ⟨q, i⟩ := p
     rw [hn] at bad good hR2
     obtain ⟨y, hy⟩ := nxt_sec ht hn
     simp only [hy, Option.getD_some] at bad good hR2 ⊢
     refine bcnot (fun e => by cases e) (fun _ => bcn (fun k => bad (by simp [k])) (fun k1 => bcn (fun k => bad (by simp [k])) (fun k2 => (ref06_in_ok q ho.at_).use ⟨_, rfl, bc (fun k => bad ?_) (fun k3 => ⟨trivial, hR2 s ?_⟩)⟩)))
     · have : q ∈ seen := by simpa [inL] using k
       simp [this]
     have hq : q ∉ seen := by simpa [inL] using k3
     refine (ref06_kind_ok (h s) q).use ⟨_, rfl, (ref05_Pos_ok _ _ _).use (opt1_ex _ ?_)⟩
     rw [kindI_some hy]
     intro R3 hR3
     have main : ∀ but, decide (geti c.Sigs but = some ⟨x.Sec, x.Out⟩) = ((r.Path.drop (j + 1)).isEmpty && decide (geti c.Sigs r.Exit = some ⟨x.Sec, x.Out⟩)) → R3 but s := fun but hbut => hR3 but s (by
       intro R4 hR4
       refine bcnot (fun k => bad (by rw [k]; simp)) (fun k4 => (ref06_at_ok (h s) x.Sec x.Out but).use ⟨_, rfl, ?_⟩)
       rw [atB_eq hsg, hbut]
       have hfin : (!(r.Shunt && decide (y.Line ≠ 0))) = true → ((c.Sigs.any fun z => decide (⟨x.Sec, x.Out⟩ = z)) && !((r.Path.drop (j + 1)).isEmpty && decide (geti c.Sigs r.Exit = some ⟨x.Sec, x.Out⟩))) = false → R4 s := fun g1 g2 => hR4 s (newObj_intro fun id1 s2 hid1 _ he2 hs2 => (ho.ext' he2).append (At.fresh hs2 (by simp) rfl) (by simp; omega) (by simp; omega) fun d4 s5 ho5 _ _ => good (by
         rw [k4, g1, decide_eq_true k1, decide_eq_true k2, decide_eq_true hq]
         generalize (c.Sigs.any fun z => decide (⟨x.Sec, x.Out⟩ = z)) = u at g2
         generalize ((r.Path.drop (j + 1)).isEmpty && decide (geti c.Sigs r.Exit = some ⟨x.Sec, x.Out⟩)) = w at g2
         cases u <;> cases w <;> first | rfl | cases g2) _ _ (by rw [List.reverse_cons, List.map_append, ← k1]; exact ho5))
       refine bc (fun k => bad ?_) (fun k5 => bc (fun k6 => (h s).secs.load (map_get (geti_some hy).2.2) c_Section (by have := geti_some hy; omega) ⟨y.Line, rfl, bcn (fun k7 => bad (by rw [k6]; simp [k7])) (fun k7 => ⟨trivial, hfin (by rw [k6]; simp [k7]) k5⟩)⟩) (fun k6 => ⟨trivial, hfin (by rw [k6]; rfl) k5⟩))
       · generalize (c.Sigs.any fun z => decide (⟨x.Sec, x.Out⟩ = z)) = u at k
         generalize ((r.Path.drop (j + 1)).isEmpty && decide (geti c.Sigs r.Exit = some ⟨x.Sec, x.Out⟩)) = w at k
         cases u <;> cases w <;> first | (simp; done) | cases k)
     refine (hp s).lenK ?_
     rw [List.length_map, w64_id (n := (r.Path.length : Int) - 1) (by omega) (by omega)]
     refine bce (fun q1 => ⟨trivial, main _ ?_⟩) (fun q1 => ⟨trivial, main _ ?_⟩)
     · rw [drop_end (by omega)]; simp
     · have hemp : (r.Path.drop (j + 1)).isEmpty = false := by
         cases hd : r.Path.drop (j + 1) with
         | nil => rw [List.drop_eq_nil_iff] at hd; omega
         | cons y l => rfl
       rw [hemp, geti_neg (by omega)]; simp
 · have hF : (match (generalizing := false) geti c.Sigs r.Exit with | some x => decide ((⟨m, e⟩ : Sg) = x) | none => !(nxt c.Jts m e).isSome) = c.path r := hr.done rfl hge
   refine bcd (fun k1 => ?_) (fun k1 => (ref05_Next_ok m e (h s).jts).use (opt2_ex _ ⟨?_, ho.ext⟩))
   · obtain ⟨y, hy⟩ := geti_ex (l := c.Sigs) (i := r.Exit) (by omega) e3
     rw [hy] at hF
     refine (h s).sigs.load (map_get (geti_some hy).2.2) c_Signal (by omega) ⟨y.Sec, y.End_, rfl, ?_, ho.ext⟩
     rw [← hF]
     congr 3; rw [Bool.eq_iff_iff]; cases y; simp; exact ⟨fun ⟨a, b⟩ => ⟨a.symm, b.symm⟩, fun ⟨a, b⟩ => ⟨a.symm, b.symm⟩⟩
   · rw [geti_neg (by omega)] at hF
     rw [← hF]
theorem ref06_Flank_ok (a : Int) {pd : D} {path : List St} (hp : ∀ s, At Tryz.prog s t_Step pd (path.map St.enc)) (hpl : path.length ≤ 2 ^ 20) :
   DCalls Tryz.prog n_ref06_Flank [cfA c0 c1 c2 c3 c4 c, iA a, .one pd] σ (SlPost σ t_Need ((c.flank a path).map Nd.enc)) := by
 refine (W_ref06_Flank _ _ _ _ _ _ _ _ _ a pd σ _ ?_).ret (Q := fun r s => ∃ r' σ', Ret Tryz.prog σ s r σ' r' ∧ SlPost σ t_Need ((c.flank a path).map Nd.enc) r' σ') (fun r s h => h)
 refine (hp σ).lenK ⟨fun d d1 n s => ∃ out : List Nd, Own Tryz.prog σ s t_Need d (out.map Nd.enc) ∧ Own Tryz.prog σ s t_int d1 ((out.map Nd.Sec).map Go.Fw.encI) ∧ Apart d d1 ∧ (out.length : Int) ≤ 4 * n ∧ Rng path (fun r => flankRun c a path r out = c.flank a path) n,
   fun _ _ n _ => path.length - n.toNat, ⟨[], .nil _ (.refl _), .nil _ (.refl _), .nil _, by simp, .start rfl⟩, ?_⟩
 rintro d d1 n s ⟨out, ho, ho1, hap, hol, hr⟩
 rw [List.length_map]
 refine bcd (fun hlt => ?_) (fun hge => ?_)
 · obtain ⟨j, x, rfl, hx, hj, hF, nx⟩ := hr.step rfl (by omega) hlt
   refine (hp s).load (map_get hx) c_Step rfl ⟨x.Sec, x.In, x.Out, rfl, (ref06_kind_ok (h s) _).use ⟨_, rfl, ?_⟩⟩
   have hF' : flankRun c a path (path.drop (j + 1)) (flankEnds c a path x (nends (kindI c x.Sec)).toNat 0 out) = c.flank a path := by
     rw [← hF, flankRun]
     cases hg : geti c.Secs x.Sec with
     | none => rw [kindI_none hg]; rfl
     | some y => rw [kindI_some hg]
   generalize kindI c x.Sec = k at hF'
   have hne := nends_le k
   refine ⟨fun d d1 m s' => ∃ out' : List Nd, Own Tryz.prog σ s' t_Need d (out'.map Nd.enc) ∧ Own Tryz.prog σ s' t_int d1 ((out'.map Nd.Sec).map Go.Fw.encI) ∧ Apart d d1 ∧ 0 ≤ m ∧ m ≤ nends k ∧ (out'.length : Int) ≤ 4 * j + m ∧ flankEnds c a path x (nends k - m).toNat m out' = flankEnds c a path x (nends k).toNat 0 out,
     fun _ _ m _ => (nends k - m).toNat, ⟨out, ho, ho1, hap, by omega, hne.1, by omega, by rw [Int.sub_zero]⟩, ?_⟩
   rintro d2 d3 m s' ⟨out', ho', ho1', hap', hm0, hm1, hol', hE⟩
   refine (ref05_Ends_ok _).use ⟨_, rfl, bcd (fun hlt' => ?_) (fun hge' => ?_)⟩
   · have hw : w64 (m + 1) = m + 1 := w64_id (by omega) (by omega)
     have hk : (nends k - m).toNat = (nends k - (m + 1)).toNat + 1 := by omega
     rw [hk, flankEnds] at hE
     intro R hR
     have leaf : ∀ (out2 : List Nd) (d4 d5 : D) (s2 : Store), flankStep c a path x out' m = out2 → Own Tryz.prog σ s2 t_Need d4 (out2.map Nd.enc) → Own Tryz.prog σ s2 t_int d5 ((out2.map Nd.Sec).map Go.Fw.encI) → Apart d4 d5 → R d4 d5 s2 := by
       intro out2 d4 d5 s2 h1 h2 h3 h4
       have hlen := (flankStep_len c a path x out' m).2
       refine hR _ _ _ ⟨rfl, ?_⟩
       rw [hw]
       refine ⟨⟨out2, h2, h3, h4, by omega, by omega, by rw [← h1]; omega, by rw [← h1]; exact hE⟩, by show (nends k - (m + 1)).toNat < (nends k - m).toNat; omega⟩
     intro R1 hR1
     refine bce (fun h1 => ⟨by trivial, leaf out' _ _ s' (by rw [flankStep, if_pos (.inl h1)]) ho' ho1' hap'⟩) (fun h1 => bce (fun h2 => ⟨by trivial, leaf out' _ _ s' (by rw [flankStep, if_pos (.inr h2)]) ho' ho1' hap'⟩) (fun h2 => ⟨by trivial, hR1 s' ?_⟩))
     have hst : flankStep c a path x out' m = match nxt c.Jts x.Sec m with
       | none => out'
       | some (q, f) => match geti c.Secs q with
         | none => out'
         | some y => if y.Kind = 1 ∧ (1 ≤ f ∧ f ≤ 2) ∧ q ≠ a ∧ hasSec path q = false ∧ (out'.any fun n => n.Sec == q) = false then out' ++ [⟨q, 3 - f⟩] else out' := by
       rw [flankStep, if_neg (by rintro (e | e); exact h1 e; exact h2 e)] <;> rfl
     refine (ref05_Next_ok x.Sec m (h s').jts).use (opt2_ex _ ?_)
     intro R2 hR2
     cases hn : nxt c.Jts x.Sec m with
     | none =>
       rw [hn] at hst
       exact bcnot (fun _ => ⟨by trivial, leaf out' _ _ s' hst ho' ho1' hap'⟩) (fun e => by cases e)
     | some p =>
       obtain ⟨q, f⟩ := p
       rw [hn] at hst hR2
       simp only [Option.getD_some] at hst hR2 ⊢
       refine bcnot (fun e => by cases e) (fun _ => (ref06_kind_ok (h s') q).use ⟨_, rfl, ?_⟩)
       refine bcn (fun k1 => ⟨by trivial, leaf out' _ _ s' ?_ ho' ho1' hap'⟩) (fun k1 => ?_)
       · cases hg : geti c.Secs q with
         | none => rw [hg] at hst; exact hst
         | some y => rw [hg] at hst; rw [kindI_some hg] at k1; rw [hst]; exact if_neg fun g => k1 g.1
       obtain ⟨y, hg⟩ : ∃ y, geti c.Secs q = some y := by
         cases hg : geti c.Secs q with
         | none => rw [kindI_none hg] at k1; cases k1
         | some y => exact ⟨y, rfl⟩
       rw [kindI_some hg] at k1
       rw [hg] at hst
       simp only at hst
       have no : ¬ ((1 ≤ f ∧ f ≤ 2) ∧ q ≠ a ∧ hasSec path q = false ∧ (out'.any fun n => n.Sec == q) = false) → flankStep c a path x out' m = out' := fun hn => by rw [hst, if_neg fun g => hn g.2]
       have main : (1 ≤ f ∧ f ≤ 2) → DCalls Tryz.prog n_ref06_Sections [.one pd] s' fun r4 s4 => ∃ d4, r4 = .a (.one d4) ∧ DCalls Tryz.prog n_ref06_in [.one d4, iA q] s4 fun r5 s5 => ∃ b1, r5 = .a (bA b1) ∧ bcase b1 (True ∧ R d2 d3 s5) (bcase (q == a) (True ∧ R d2 d3 s5) (DCalls Tryz.prog n_ref06_in [.one d3, iA q] s5 fun r6 s6 => ∃ b2, r6 = .a (bA b2) ∧ bcase b2 (True ∧ R d2 d3 s6) (True ∧ R2 s6))) := by
         intro hf
         refine (ref06_Sections_ok hp (by omega)).mono ?_
         rintro r4 s4 ⟨rfl, d4, rfl, hd4⟩
         refine ⟨d4, rfl, (ref06_in_ok q (hd4 _)).use ⟨_, rfl, ?_⟩⟩
         rw [hasSec_in]
         refine bc (fun k2 => ⟨by trivial, leaf out' _ _ _ (no fun g => by rw [g.2.2.1] at k2; cases k2) ho' ho1' hap'⟩) (fun k2 => bce (fun k3 => ⟨by trivial, leaf out' _ _ _ (no fun g => g.2.1 k3) ho' ho1' hap'⟩) (fun k3 => (ref06_in_ok q ho1'.at_).use ⟨_, rfl, ?_⟩))
         rw [nd_any]
         refine bc (fun k4 => ⟨by trivial, leaf out' _ _ _ (no fun g => by rw [g.2.2.2] at k4; cases k4) ho' ho1' hap'⟩) (fun k4 => ⟨by trivial, hR2 _ ?_⟩)
         refine newObj_intro fun id s5 hid _ he5 hs5 => ?_
         refine (ho1'.ext' he5).append2 (ho'.ext' he5) hap' (At.fresh hs5 (by simp) rfl) (by simp; omega) (by simp; omega) fun d5 s6 ho6 ho6' hap6 => ?_
         refine newObj_intro fun id7 s7 hid7 _ he7 hs7 => ?_
         have hw2 : w64 (3 - f) = 3 - f := w64_id (by omega) (by omega)
         refine (ho6'.ext' he7).append2 (ho6.ext' he7) hap6.symm (At.fresh hs7 (by simp) rfl) (by simp; omega) (by simp; omega) fun d8 s8 ho8 ho8' hap8 => ⟨by trivial, leaf (out' ++ [⟨q, 3 - f⟩]) _ _ _ (by rw [hst, if_pos ⟨k1, hf, k3, k2, k4⟩]) ?_ ?_ hap8.symm⟩
         · rw [hw2] at ho8; rw [List.map_append]; exact ho8
         · rw [List.map_append, List.map_append]; exact ho8'
       refine bcn (fun k2 => bcn (fun k3 => ⟨by trivial, leaf out' _ _ s' (no fun g => by omega) ho' ho1' hap'⟩) (fun k3 => main (by omega))) (fun k2 => main (by omega))
   · have hz : (nends k - m).toNat = 0 := by omega
     rw [hz, flankEnds] at hE
     rw [← hE] at hF'
     have hn := nx (fun r => flankRun c a path r out' = c.flank a path) hF'
     exact ⟨⟨out', ho', ho1', hap', by rw [w64_succ (by omega)]; omega, hn.1⟩, hn.2⟩
 · have hF := hr.done rfl hge
   rw [flankRun] at hF
   rw [← hF]
   exact own_fin ho (flatNd _)
theorem ref06_Overlap_ok (r : Rt) {d1 d2 d3 : D} (hp : ∀ s, At Tryz.prog s t_Step d1 (r.Path.map St.enc)) (hpl : r.Path.length ≤ 2 ^ 20) :
   DCalls Tryz.prog n_ref06_Overlap [cfA c0 c1 c2 c3 c4 c, rtA d1 d2 d3 r] σ (SlPost σ t_int ((c.overlap r).map Go.Fw.encI)) := by
 refine (W_ref06_Overlap _ _ _ _ _ _ _ _ _ _ _ d1 d2 d3 _ σ _ ?_).ret (Q := fun r' s => ∃ r'' σ', Ret Tryz.prog σ s r' σ' r'' ∧ SlPost σ t_int ((c.overlap r).map Go.Fw.encI) r'' σ') (fun r s h => h)
 intro R hR
 have nil : c.overlap r = [] → ∃ r'' σ', Ret Tryz.prog σ σ (.a (.one .nils)) σ' r'' ∧ SlPost σ t_int ((c.overlap r).map Go.Fw.encI) r'' σ' := fun e => by
   rw [e]; exact own_fin (.nil _ (.refl _)) (flatI _)
 refine bc (fun h1 => nil (by rw [Cf.overlap, if_pos h1])) (fun h1 => ?_)
 have hov : c.overlap r = match geti c.Sigs r.Exit with
   | none => []
   | some x => match nxt c.Jts x.Sec x.End_ with
     | none => []
     | some (q, _) => match geti c.Secs q with
       | none => []
       | some y => if y.Line = 0 ∧ hasSec r.Path q = false ∧ q ≠ c.approach r then [q] else [] := by
   rw [Cf.overlap, if_neg (by rw [h1]; simp)] <;> rfl
 refine bcd (fun e => nil (by rw [hov, geti_neg e])) (fun e0 => (h σ).sigs.lenK ?_)
 rw [List.length_map]
 refine bcd (fun e => nil (by rw [hov, geti_ge e])) (fun e1 => hR σ ?_)
 obtain ⟨x, hg⟩ := geti_ex e0 e1
 rw [hg] at hov
 simp only at hov
 refine (h σ).sigs.load (map_get (geti_some hg).2.2) c_Signal (by omega) ⟨x.Sec, x.End_, rfl, (ref05_Next_ok _ _ (h σ).jts).use (opt2_ex _ ?_)⟩
 intro R1 hR1
 have main : R1 (c.approach r) σ := by
   refine hR1 _ σ ?_
   cases hn : nxt c.Jts x.Sec x.End_ with
   | none => rw [hn] at hov; exact bcnot (fun _ => nil hov) (fun e => by cases e)
   | some p =>
     obtain ⟨q, f⟩ := p
     rw [hn] at hov
     simp only [Option.getD_some] at hov ⊢
     refine bcnot (fun e => by cases e) (fun _ => bcd (fun e => nil (by rw [hov, geti_neg e])) (fun e2 => (h σ).secs.lenK ?_))
     rw [List.length_map]
     refine bcd (fun e => nil (by rw [hov, geti_ge e])) (fun e3 => (ref06_Sections_ok hp (by omega)).mono ?_)
     obtain ⟨y, hy⟩ := geti_ex e2 e3
     rw [hy] at hov
     simp only at hov
     have no : ¬ (y.Line = 0 ∧ hasSec r.Path q = false ∧ q ≠ c.approach r) → c.overlap r = [] := fun hn => by rw [hov, if_neg hn]
     rintro r4 s4 ⟨rfl, d4, rfl, hd4⟩
     refine ⟨d4, rfl, (ref06_in_ok q (hd4 _)).use ⟨_, rfl, ?_⟩⟩
     rw [hasSec_in]
     refine bc (fun k2 => nil (no fun g => by rw [g.2.1] at k2; cases k2)) (fun k2 => bce (fun k3 => nil (no fun g => g.2.2 k3)) (fun k3 => ?_))
     refine (h s4).secs.load (map_get (geti_some hy).2.2) c_Section (by omega) ⟨y.Line, rfl, bcn (fun k4 => nil (no fun g => k4 g.1)) (fun k4 => ?_)⟩
     refine newObj_intro fun id s5 hid _ he5 hs5 => ?_
     rw [hov, if_pos ⟨k4, k2, k3⟩]
     exact own_fin (.at_new hid he5 hs5 (by simp) rfl) (flatI _)
 refine bcd (fun k0 => (h σ).sigs.lenK ?_) (fun k0 => ?_)
 · rw [List.length_map]
   refine bcd (fun k1 => ?_) (fun k1 => ?_)
   · obtain ⟨z, hz⟩ := geti_ex (l := c.Sigs) (i := r.Entry) (by omega) (by omega)
     refine (h σ).sigs.load (map_get (geti_some hz).2.2) c_Signal (by omega) ⟨z.Sec, rfl, ?_⟩
     rw [Cf.approach, hz] at main; exact main
   · rw [Cf.approach, geti_ge (by omega)] at main; exact main
 · rw [Cf.approach, geti_neg (by omega)] at main; exact main
theorem ref06_Check_ok : Pure Tryz.prog n_ref06_Check [cfA c0 c1 c2 c3 c4 c] σ (.a (iA c.check)) := by
 refine W_ref06_Check _ _ _ _ _ _ _ _ _ σ _ ((ref05_Check_ok (h σ).secs (h σ).jts).use ⟨_, rfl, ?_⟩)
 have e6 : (if topoOk c.Secs c.Jts = true then (0 : Int) else 6) ≠ 0 ↔ topoOk c.Secs c.Jts = false := by
   cases topoOk c.Secs c.Jts <;> simp
 refine bcn (fun k1 => ⟨by rw [Cf.check, if_pos (e6.1 k1)], rfl⟩) (fun k1 => (ref06_signals_ok (h σ)).use ⟨_, rfl, bcnot (fun k2 => ⟨?_, rfl⟩) (fun k2 => ?_)⟩)
 all_goals have k1' : ¬ topoOk c.Secs c.Jts = false := fun e => e6.2 e k1
 · rw [Cf.check, if_neg k1', if_pos k2]
 have ht : topoOk c.Secs c.Jts = true := by simpa using k1'
 refine (ref06_crossings_ok (h σ) ht).use ⟨_, rfl, bcnot (fun k3 => ⟨?_, rfl⟩) (fun k3 => ?_)⟩
 · rw [Cf.check, if_neg k1', if_neg (by rw [k2]; simp), if_pos k3]
 have hck : c.check = if c.Rts.length > 12 then 9 else if c.routes c.Rts ≠ 0 then c.routes c.Rts else if c.timing = true then 0 else 12 := by
   rw [Cf.check, if_neg k1', if_neg (by rw [k2]; simp), if_neg (by rw [k3]; simp)]
 obtain ⟨rows, hat, hlen, hrow⟩ := rts_froz fun s => (h s).rts
 have hl := (hat σ).size
 refine (hat σ).lenK (bcd (fun k4 => ⟨by rw [hck, if_pos (by omega)], rfl⟩) (fun k4 => (hat σ).lenK ?_))
 rw [if_neg (by omega)] at hck
 refine ⟨fun n s => s = σ ∧ Rng c.Rts (fun l => c.routes l = c.routes c.Rts) n, fun n _ => c.Rts.length - n.toNat, ⟨rfl, .start rfl⟩, ?_⟩
 rintro n τ ⟨rfl, hr⟩
 refine bcd (fun hlt => ?_) (fun hge => ?_)
 · obtain ⟨j, x, rfl, hx, hj, hF, nx⟩ := hr.step hlen (by omega) hlt
   obtain ⟨row, hrw⟩ := get_of_lt (l := rows) (j := j) (by omega)
   obtain ⟨d1, d2, d3, rfl, q1, q2, q3⟩ := hrow j row x hrw hx
   rw [Cf.routes] at hF
   have err : ∀ e, e ≠ 0 → c.route x = e → (RV.a (iA e) = .a (iA c.check) ∧ τ = τ) := fun e he hc => by
     rw [hc, if_pos he] at hF
     rw [hck, ← hF, if_pos he]; exact ⟨rfl, rfl⟩
   refine (hat τ).load hrw c_Route rfl ⟨_, _, d1, d2, d3, _, rfl, (ref06_path_ok h ht k2 x q1).use ⟨_, rfl, bcnot (fun k5 => err 9 (by decide) (by rw [Cf.route, if_pos k5])) (fun k5 => ?_)⟩⟩
   have hpl : x.Path.length ≤ 8 := by
     unfold Cf.path at k5
     split at k5
     · cases k5
     · simp at k5; exact k5.1.2.2
   refine (ref06_Approach_ok (h τ) j).use ⟨_, rfl, ?_⟩
   rw [show c.Approach j = c.approach x by rw [Cf.Approach, show geti c.Rts j = some x by unfold geti; rw [if_neg (by omega), Int.toNat_natCast]; exact hx]; rfl]
   refine (ref06_Flank_ok h _ q1 (by omega)).mono ?_
   rintro r1 s1 ⟨rfl, d, rfl, hd⟩
   refine ⟨d, rfl, (ref06_SameNeeds_ok (q2 _) (hd _)).use ⟨_, rfl, bcnot (fun k6 => err 10 (by decide) ?_) (fun k6 => (ref06_Overlap_ok h x q1 (by omega)).mono ?_)⟩⟩
   · rw [Cf.route, if_neg (by rw [k5]; simp), if_pos (of_decide_eq_false k6)]
   rintro r2 s2 ⟨rfl, d', rfl, hd'⟩
   have e2 := of_decide_eq_true k6
   refine ⟨d', rfl, (ref06_sameInts_ok (q3 _) (hd' _)).use ⟨_, rfl, bcnot (fun k7 => err 11 (by decide) ?_) (fun k7 => ?_)⟩⟩
   · rw [Cf.route, if_neg (by rw [k5]; simp), if_neg (fun hn => hn e2), if_pos (of_decide_eq_false k7)]
   · have h0 : c.route x = 0 := by rw [Cf.route, if_neg (by rw [k5]; simp), if_neg (fun hn => hn e2), if_neg (fun hn => hn (of_decide_eq_true k7))]
     rw [if_neg (by simp [h0])] at hF
     exact andl rfl (nx _ hF)
 · have hF : 0 = c.routes c.Rts := hr.done hlen hge
   rw [← hF, if_neg (by simp)] at hck
   have bad : ¬ (((1 ≤ c.Age ∧ c.Age ≤ 8) ∧ (0 ≤ c.Brake ∧ c.Brake ≤ 8)) ∧ (c.Age + c.Brake + 1 ≤ c.Hold ∧ c.Hold ≤ 40) ∧ (1 ≤ c.Budget ∧ c.Budget ≤ 1000000)) → (RV.a (iA 12) = .a (iA c.check) ∧ τ = τ) := fun hn => by
     rw [hck, if_neg (fun e => hn (by simpa [Cf.timing, and_assoc] using e))]; exact ⟨rfl, rfl⟩
   refine bcd (fun e => bad fun g => by omega) (fun t1 => bcd (fun e => bad fun g => by omega) (fun t2 => bcd (fun e => bad fun g => by omega) (fun t3 => bcd (fun e => bad fun g => by omega) (fun t4 => ?_))))
   rw [w64_id (n := c.Age + c.Brake) (by omega) (by omega), w64_id (n := c.Age + c.Brake + 1) (by omega) (by omega)]
   refine bcd (fun e => bad fun g => by omega) (fun t5 => bcd (fun e => bad fun g => by omega) (fun t6 => bcd (fun e => bad fun g => by omega) (fun t7 => bcd (fun e => bad fun g => by omega) (fun t8 => ⟨?_, rfl⟩))))
   rw [hck, if_pos]
   simp only [Cf.timing, Bool.and_eq_true, decide_eq_true_eq]
   omega
end
end
end Go.Proofs.YtfdffboelecgoaaGreatDoor
namespace Go.Fw
section
theorem map_set {α β : Type} (f : α → β) (l : List α) (i : Nat) (x : α) : (l.map f).set i (f x) = (l.set i x).map f := by simp
end
section
structure Vw where
 Occ : List Lk
 Pos : List Lk
 Shut : List Lk
 Lamp : List Lk
def Vw.fits (c : Cf) (v : Vw) : Bool := decide (v.Occ.length = c.Secs.length ∧ v.Pos.length = c.Secs.length ∧ v.Shut.length = c.Xs.length ∧ v.Lamp.length = c.Sigs.length)
theorem topo_line {secs : List Sec} {js : List Jt} (h : topoOk secs js = true) {i : Nat} {s : Sec} (hs : secs[i]? = some s) : 0 ≤ s.Line ∧ s.Line ≤ 3 := by
 unfold topoOk at h
 rw [Bool.and_eq_true] at h
 have h2 := h.2
 split at h2
 · cases h2
 · exact ((srun_iff _ _ _ _).1 h2 i s hs).2.2.1
end
section
section
variable {occ : List Lk} {now : Int} {was may : Bool} {x : Ls} {o : Int} {s : Nat} {lk : Lk}
end
structure SameBut (k k' : Co) (l s : Nat) : Prop where
 routes : k'.Routes = k.Routes
 lines : ∀ m, m ≠ l → k'.Lines[m]? = k.Lines[m]?
 own : ∀ t, t ≠ s → k'.Own[t]? = k.Own[t]?
end
section
def apprS (c : Cf) (l : List Int) : List Rs → Nat → Bool
 | [], _ => false
 | r :: rs, j => (decide (r.State ≠ 0) && inL l (c.Approach j)) || apprS c l rs (j + 1)
end
end Go.Fw
section
namespace Go.Fw
structure StOk (c : Cf) (r : Rt) (s : St) : Prop where
 sec : ∃ y, geti c.Secs s.Sec = some y ∧ (wpos (wayL y.Kind) s.In s.Out).isSome = true ∧ (r.Shunt = true → y.Line = 0)
theorem prunA_facts {c : Cf} (ht : topoOk c.Secs c.Jts = true) (r : Rt) (ex : Option Sg) : ∀ (l : List St) (a : Sg) (seen : List Int), prunA c r ex l a seen = true →
   (∀ s ∈ l, StOk c r s ∧ s.Sec ∉ seen) ∧ (l.map St.Sec).Nodup
 | [], a, seen, _ => ⟨fun s hs => by simp at hs, by simp⟩
 | s :: rest, a, seen, h => by
   rw [prunA, Bool.and_eq_true] at h
   obtain ⟨h1, h2⟩ := h
   obtain ⟨q1, q2⟩ := prunA_facts ht r ex rest _ _ h2
   unfold pstep at h1
   cases hn : nxt c.Jts a.Sec a.End_ with
   | none => rw [hn] at h1; cases h1
   | some p =>
     obtain ⟨q, i⟩ := p
     rw [hn] at h1
     obtain ⟨y, hy⟩ := nxt_sec ht hn
     simp only [hy, Option.getD_some, Bool.and_eq_true, decide_eq_true_eq, Bool.not_eq_true'] at h1
     obtain ⟨⟨⟨⟨⟨rfl, e2⟩, e3⟩, e4⟩, e5⟩, e6⟩ := h1
     refine ⟨fun x hx => ?_, ?_⟩
     · rcases List.mem_cons.1 hx with rfl | hx
       · refine ⟨⟨y, hy, e3, fun hs => ?_⟩, e4⟩
         rw [hs, Bool.true_and, decide_eq_false_iff_not] at e6
         exact Decidable.not_not.1 e6
       · obtain ⟨w1, w2⟩ := q1 x hx
         exact ⟨w1, fun hm => w2 (List.mem_cons_of_mem _ hm)⟩
     · rw [List.map_cons, List.nodup_cons]
       refine ⟨fun hm => ?_, q2⟩
       obtain ⟨x, hx, e⟩ := List.mem_map.1 hm
       exact (q1 x hx).2 (by rw [e]; simp)
structure RtOk (c : Cf) (r : Rt) : Prop where
 entry : ∃ a, geti c.Sigs r.Entry = some a
 exit_ : r.Exit = -1 ∨ ∃ x, geti c.Sigs r.Exit = some x
 len : 1 ≤ r.Path.length ∧ r.Path.length ≤ 8
 step : ∀ s ∈ r.Path, StOk c r s ∧ s.Sec ≠ c.approach r
 dup : (r.Path.map St.Sec).Nodup
 flank : r.Flank = c.flank (c.approach r) r.Path
 over : r.Overlap = c.overlap r
theorem routes_zero {c : Cf} : ∀ {l : List Rt}, c.routes l = 0 → ∀ r ∈ l, c.route r = 0
 | [], _, r, hr => by simp at hr
 | x :: l, h, r, hr => by
   rw [Cf.routes] at h
   split at h
   · rename_i hne; exact absurd h hne
   · rename_i he
     rcases List.mem_cons.1 hr with rfl | hr
     · simpa using he
     · exact routes_zero h r hr
theorem check_parts {c : Cf} (h : c.check = 0) : topoOk c.Secs c.Jts = true ∧ c.sigsOk = true ∧ c.xsOk = true ∧ c.Rts.length ≤ 12 ∧ c.routes c.Rts = 0 ∧ c.timing = true := by
 unfold Cf.check at h
 split at h
 · cases h
 split at h
 · cases h
 split at h
 · cases h
 split at h
 · cases h
 split at h
 · rename_i hne; exact absurd h hne
 split at h
 · rename_i h1 h2 h3 h4 h5 h6
   exact ⟨by simpa using h1, by simpa using h2, by simpa using h3, by omega, by simpa using h5, h6⟩
 · cases h
theorem path_ok {c : Cf} (ht : topoOk c.Secs c.Jts = true) {r : Rt} (h : c.route r = 0) : RtOk c r := by
 unfold Cf.route at h
 split at h
 · cases h
 split at h
 · cases h
 split at h
 · cases h
 rename_i h1 h2 h3
 have h1 : c.path r = true := by simpa using h1
 unfold Cf.path at h1
 cases hg : geti c.Sigs r.Entry with
 | none => rw [hg] at h1; cases h1
 | some a =>
   rw [hg] at h1
   simp only [Bool.and_eq_true, Bool.or_eq_true, decide_eq_true_eq] at h1
   obtain ⟨⟨e1, e2⟩, e3⟩ := h1
   obtain ⟨q1, q2⟩ := prunA_facts ht r _ _ _ _ e3
   have ha : c.approach r = a.Sec := by rw [Cf.approach, hg]; rfl
   refine ⟨⟨a, hg⟩, e1.imp id Option.isSome_iff_exists.1, e2, fun s hs => ⟨(q1 s hs).1, fun e => (q1 s hs).2 (by rw [e, ha]; simp)⟩, q2, Decidable.not_not.1 h2, Decidable.not_not.1 h3⟩
theorem check_rt {c : Cf} (h : c.check = 0) {r : Rt} (hr : r ∈ c.Rts) : RtOk c r := by
 obtain ⟨h1, _, _, _, h5, _⟩ := check_parts h
 exact path_ok h1 (routes_zero h5 r hr)
structure NdOk (c : Cf) (a : Int) (path : List St) (n : Nd) : Prop where
 sec : ∃ y, geti c.Secs n.Sec = some y ∧ y.Kind = 1
 pos : 1 ≤ n.Pos ∧ n.Pos ≤ 2
 app : n.Sec ≠ a
 path : hasSec path n.Sec = false
def FlOk (c : Cf) (a : Int) (path : List St) (out : List Nd) : Prop := (∀ n ∈ out, NdOk c a path n) ∧ (out.map Nd.Sec).Nodup
theorem flankStep_ok {c : Cf} {a : Int} {p : List St} {s : St} {out : List Nd} {e : Int} (h : FlOk c a p out) : FlOk c a p (flankStep c a p s out e) := by
 unfold flankStep
 split
 · exact h
 · split
   · exact h
   · split
     · exact h
     · rename_i y hy
       split
       · rename_i hc
         obtain ⟨c1, c2, c3, c4, c5⟩ := hc
         refine ⟨fun n hn => ?_, ?_⟩
         · rcases List.mem_append.1 hn with hn | hn
           · exact h.1 n hn
           · rw [List.mem_singleton] at hn; subst hn
             exact ⟨⟨y, hy, c1⟩, by simp only; omega, c3, c4⟩
         · rw [List.map_append, List.nodup_append]
           refine ⟨h.2, by simp, fun x hx z hz => ?_⟩
           simp only [List.map_cons, List.map_nil, List.mem_singleton] at hz
           subst hz
           intro e
           obtain ⟨n, hn, e2⟩ := List.mem_map.1 hx
           rw [List.any_eq_false] at c5
           exact c5 n hn (by rw [e2, e]; simp)
       · exact h
theorem flankEnds_ok {c : Cf} {a : Int} {p : List St} {s : St} : ∀ (n : Nat) (e : Int) (out : List Nd), FlOk c a p out → FlOk c a p (flankEnds c a p s n e out)
 | 0, _, _, h => h
 | n + 1, e, out, h => by rw [flankEnds]; exact flankEnds_ok n _ _ (flankStep_ok h)
theorem flankRun_ok {c : Cf} {a : Int} {p : List St} : ∀ (l : List St) (out : List Nd), FlOk c a p out → FlOk c a p (flankRun c a p l out)
 | [], _, h => h
 | s :: r, out, h => by
   rw [flankRun]
   refine flankRun_ok r _ ?_
   split
   · exact h
   · exact flankEnds_ok _ _ _ h
theorem flank_ok (c : Cf) (a : Int) (p : List St) : FlOk c a p (c.flank a p) := flankRun_ok p [] ⟨fun n h => by simp at h, by simp⟩
theorem flank_len (c : Cf) (a : Int) (p : List St) : (c.flank a p).length ≤ 4 * p.length := by
 have := (flankRun_len c a p p []).2
 simpa [Cf.flank] using this
theorem over_ok {c : Cf} {r : Rt} {q : Int} (h : q ∈ c.overlap r) : (∃ y, geti c.Secs q = some y ∧ y.Line = 0) ∧ hasSec r.Path q = false ∧ q ≠ c.approach r := by
 unfold Cf.overlap at h
 split at h
 · simp at h
 split at h
 · simp at h
 split at h
 · simp at h
 split at h
 · simp at h
 rename_i y hy
 split at h
 · rename_i hc
   rw [List.mem_singleton] at h; subst h
   exact ⟨⟨y, hy, hc.1⟩, hc.2.1, hc.2.2⟩
 · simp at h
theorem over_len (c : Cf) (r : Rt) : (c.overlap r).length ≤ 1 := by
 unfold Cf.overlap
 split
 · simp
 split
 · simp
 split
 · simp
 split
 · simp
 split <;> simp
theorem RtOk.fl {c : Cf} {r : Rt} (h : RtOk c r) : FlOk c (c.approach r) r.Path r.Flank := by rw [h.flank]; exact flank_ok _ _ _
theorem RtOk.flen {c : Cf} {r : Rt} (h : RtOk c r) : r.Flank.length ≤ 32 := by
 rw [h.flank]; have := flank_len c (c.approach r) r.Path; have := h.len; omega
theorem RtOk.olen {c : Cf} {r : Rt} (h : RtOk c r) : r.Overlap.length ≤ 1 := by rw [h.over]; exact over_len _ _
end Go.Fw
namespace Go.Fw
end Go.Fw
end
namespace Go.Fw
section
def zRt : Rt := ⟨0, 0, [], [], [], false⟩
def Cf.rt (c : Cf) (i : Int) : Rt := (geti c.Rts i).getD zRt
end
section
def cpt : List Int → List Int
 | [] => []
 | x :: r => match cpt r with
   | [] => [x]
   | y :: q => if x = y then y :: q else x :: y :: q
theorem mem_cpt : ∀ (l : List Int) (z : Int), z ∈ cpt l ↔ z ∈ l
 | [], z => by simp [cpt]
 | x :: r, z => by
   have ih := mem_cpt r z
   rw [cpt]
   split
   · rename_i h; rw [h] at ih; simp at ih; simp [ih]
   · rename_i y q h
     rw [h] at ih
     split
     · rename_i e; rw [ih, List.mem_cons]; exact ⟨.inr, fun hz => hz.elim (fun e' => by rw [← ih, e', e]; simp) id⟩
     · rw [List.mem_cons, ih, List.mem_cons]
theorem cpt_pair : ∀ {l : List Int}, l.Pairwise (· ≤ ·) → (cpt l).Pairwise (· < ·)
 | [], _ => by simp [cpt]
 | x :: r, h => by
   rw [List.pairwise_cons] at h
   have ih := cpt_pair h.2
   rw [cpt]
   split
   · simp
   · rename_i y q hq
     rw [hq] at ih
     split
     · exact ih
     · rename_i hne
       rw [List.pairwise_cons]
       refine ⟨fun z hz => ?_, ih⟩
       have h1 : y ∈ r := (mem_cpt r y).1 (by rw [hq]; simp)
       have h2 := h.1 y h1
       rcases List.mem_cons.1 hz with rfl | hz
       · omega
       · have := (List.pairwise_cons.1 ih).1 z hz; omega
theorem strict_ext : ∀ {a b : List Int}, a.Pairwise (· < ·) → b.Pairwise (· < ·) → (∀ z, z ∈ a ↔ z ∈ b) → a = b
 | [], [], _, _, _ => rfl
 | [], y :: b, _, _, h => absurd ((h y).2 (by simp)) (by simp)
 | x :: a, [], _, _, h => absurd ((h x).1 (by simp)) (by simp)
 | x :: a, y :: b, ha, hb, h => by
   rw [List.pairwise_cons] at ha hb
   have e : x = y := by
     have h1 := (h x).1 (by simp)
     have h2 := (h y).2 (by simp)
     rcases List.mem_cons.1 h1 with h1 | h1
     · exact h1
     · rcases List.mem_cons.1 h2 with h2 | h2
       · exact h2.symm
       · have := hb.1 x h1; have := ha.1 y h2; omega
   subst e
   congr 1
   refine strict_ext ha.2 hb.2 fun z => ⟨fun hz => ?_, fun hz => ?_⟩
   · rcases List.mem_cons.1 ((h z).1 (by simp [hz])) with e | hz'
     · subst e; have := ha.1 z hz; omega
     · exact hz'
   · rcases List.mem_cons.1 ((h z).2 (by simp [hz])) with e | hz'
     · subst e; have := hb.1 z hz; omega
     · exact hz'
theorem compact_cpt {l : List Int} (h : l.Pairwise (· ≤ ·)) : Lib.compact l = cpt l := strict_ext (compact_strict h) (cpt_pair h) fun z => by rw [compact_mem, mem_cpt]
def Cf.lockR (r : Rt) : List Int := cpt (sorted (r.Overlap ++ r.Path.map St.Sec ++ r.Flank.map Nd.Sec))
def Cf.lockL (c : Cf) (i : Int) : List Int := match geti c.Rts i with
 | some r => Cf.lockR r
 | none => []
theorem mem_lockR {r : Rt} {z : Int} : z ∈ Cf.lockR r ↔ z ∈ r.Overlap ∨ z ∈ r.Path.map St.Sec ∨ z ∈ r.Flank.map Nd.Sec := by
 rw [Cf.lockR, mem_cpt, (sorted_perm _).mem_iff]; simp [or_assoc]
theorem lockR_pair (r : Rt) : (Cf.lockR r).Pairwise (· < ·) := cpt_pair (sorted_pair _)
def insAt (out : List Int) (s : Int) : Nat → Nat
 | 0 => 0
 | n + 1 => match out[n]? with
   | some x => if s < x then insAt out s n else n + 1
   | none => n + 1
def insS (out : List Int) (s : Int) : List Int :=
 if s ∈ out then out else out.take (insAt out s out.length) ++ [s] ++ out.drop (insAt out s out.length)
theorem insAt_gt (out : List Int) (s : Int) : ∀ n, n ≤ out.length → ∀ i x, insAt out s n ≤ i → i < n → out[i]? = some x → s < x
 | 0, _, i, x, _, h, _ => by omega
 | n + 1, hn, i, x, h1, h2, h3 => by
   rw [insAt] at h1
   split at h1
   · rename_i y hy
     split at h1
     · rename_i hlt
       by_cases e : i = n
       · subst e; rw [hy] at h3; cases h3; exact hlt
       · exact insAt_gt out s n (by omega) i x h1 (by omega) h3
     · omega
   · omega
theorem insAt_le_of {out : List Int} {s : Int} (hp : out.Pairwise (· < ·)) : ∀ n, n ≤ out.length → ∀ i x, i < insAt out s n → out[i]? = some x → x ≤ s
 | 0, _, i, x, h, _ => by rw [insAt] at h; omega
 | n + 1, hn, i, x, h1, h3 => by
   rw [insAt] at h1
   split at h1
   · rename_i y hy
     split at h1
     · exact insAt_le_of hp n (by omega) i x h1 h3
     · rename_i hge
       by_cases e : i = n
       · subst e; rw [hy] at h3; cases h3; omega
       · have hlt : i < n := by omega
         obtain ⟨h4, h5⟩ := List.getElem?_eq_some_iff.1 h3
         obtain ⟨h6, h7⟩ := List.getElem?_eq_some_iff.1 hy
         have := List.pairwise_iff_getElem.1 hp i n h4 h6 hlt
         rw [h5, h7] at this; omega
   · rename_i hnone; rw [List.getElem?_eq_none_iff] at hnone; omega
theorem insS_pair {out : List Int} {s : Int} (hp : out.Pairwise (· < ·)) : (insS out s).Pairwise (· < ·) := by
 unfold insS
 split
 · exact hp
 · rename_i hs
   have hsplit := List.take_append_drop (insAt out s out.length) out
   have h1 : ∀ x ∈ out.take (insAt out s out.length), x < s := by
     intro x hx
     obtain ⟨i, hi, e⟩ := List.getElem_of_mem hx
     have h2 : out[i]? = some x := by rw [List.getElem_take] at e; rw [← e]; exact List.getElem?_eq_getElem _
     have h3 := insAt_le_of (s := s) hp out.length (Nat.le_refl _) i x (by rw [List.length_take] at hi; omega) h2
     have : x ≠ s := fun e => hs (e ▸ List.mem_of_getElem? h2)
     omega
   have h2 : ∀ x ∈ out.drop (insAt out s out.length), s < x := by
     intro x hx
     obtain ⟨i, hi, e⟩ := List.getElem_of_mem hx
     have h2 : out[insAt out s out.length + i]? = some x := by rw [List.getElem_drop] at e; rw [← e]; exact List.getElem?_eq_getElem _
     exact insAt_gt out s out.length (Nat.le_refl _) _ x (by omega) (by rw [List.length_drop] at hi; omega) h2
   rw [← hsplit, List.pairwise_append] at hp
   rw [List.append_assoc, List.pairwise_append]
   refine ⟨hp.1, ?_, fun a ha b hb => ?_⟩
   · rw [List.singleton_append, List.pairwise_cons]; exact ⟨h2, hp.2.1⟩
   · rcases List.mem_cons.1 hb with rfl | hb
     · exact h1 a ha
     · exact hp.2.2 a ha b hb
theorem mem_insS {out : List Int} {s z : Int} : z ∈ insS out s ↔ z ∈ out ∨ z = s := by
 unfold insS
 split
 · rename_i hs; exact ⟨.inl, fun h => h.elim id fun e => e ▸ hs⟩
 · have : z ∈ out ↔ z ∈ out.take (insAt out s out.length) ∨ z ∈ out.drop (insAt out s out.length) := by
     rw [← List.mem_append, List.take_append_drop]
   rw [this, List.append_assoc, List.mem_append, List.mem_append, List.mem_singleton]
   constructor
   · rintro (h | h | h) <;> simp [h]
   · rintro ((h | h) | h) <;> simp [h]
theorem insL_facts : ∀ (l out : List Int), out.Pairwise (· < ·) → (l.foldl insS out).Pairwise (· < ·) ∧ ∀ z, z ∈ l.foldl insS out ↔ z ∈ out ∨ z ∈ l
 | [], out, h => ⟨h, fun z => by simp⟩
 | s :: r, out, h => by
   obtain ⟨q1, q2⟩ := insL_facts r (insS out s) (insS_pair h)
   refine ⟨q1, fun z => ?_⟩
   rw [List.foldl_cons, q2, mem_insS, List.mem_cons, or_assoc]
theorem insL_lockR (r : Rt) : (r.Path.map St.Sec ++ r.Flank.map Nd.Sec ++ r.Overlap).foldl insS [] = Cf.lockR r := by
 obtain ⟨q1, q2⟩ := insL_facts (r.Path.map St.Sec ++ r.Flank.map Nd.Sec ++ r.Overlap) [] (by simp)
 refine strict_ext q1 (lockR_pair r) fun z => ?_
 rw [q2, mem_lockR]
 simp only [List.mem_append, List.not_mem_nil, false_or]
 constructor
 · rintro ((h | h) | h) <;> simp [h]
 · rintro (h | h | h) <;> simp [h]
theorem cpt_len : ∀ l : List Int, (cpt l).length ≤ l.length
 | [] => Nat.le_refl _
 | x :: r => by
   have ih := cpt_len r
   rw [cpt]
   split
   · simp
   · rename_i y q h
     rw [h] at ih
     split
     · simp at ih ⊢; omega
     · simp at ih ⊢; omega
def Co.inh (c : Cf) (k : Co) (r s : Int) : Bool :=
 let o := (geti k.Own s).getD 0 - 1
 decide (0 ≤ o ∧ o ≠ r) && (decide ((c.rt o).Exit = (c.rt r).Entry) && inL (c.rt o).Overlap s)
def Co.blocked (c : Cf) (k : Co) (r : Int) (l : List Int) : Bool := l.any fun s => decide ((geti k.Own s).getD 0 ≠ 0) && !k.inh c r s
def Co.may (c : Cf) (k : Co) (r : Int) (l : List Int) : Int :=
 if apprS c l k.Routes 0 = true then 23 else if k.blocked c r l = true then 22 else 0
def lineF (c : Cf) : List St → Int
 | [] => 0
 | s :: r => let n := ((geti c.Secs s.Sec).getD ⟨0, 0, 0⟩).Line; if n > 0 then n else lineF c r
def Co.done (k : Co) (e : Int) (y : Co) : Co × Int := (if e = 0 then y else k, e)
end
section
structure FitIs (c : Cf) (k : Co) : Prop where
 chk : c.check = 0
 lOwn : k.Own.length = c.Secs.length
 lPts : k.Points.length = c.Secs.length
 lRes : k.Resets.length = c.Secs.length
 lRts : k.Routes.length = c.Rts.length
 lXs : k.Xs.length = c.Xs.length
 lLn : k.Lines.length = 4
 own : ∀ o ∈ k.Own, -2 ≤ o ∧ o ≤ c.Rts.length
 rts : ∀ (i : Nat) x r, k.Routes[i]? = some x → c.Rts[i]? = some r → Rs.fits (x, r) = true
 pts : ∀ m ∈ k.Points, Mv.fits m = true
 xs : ∀ m ∈ k.Xs, Mv.fits m = true
 lns : ∀ l ∈ k.Lines, Ls.fits l = true
 res : ∀ z ∈ k.Resets, tm 1 z = true
theorem geti_mem {α : Type} {l : List α} {i : Int} {x : α} (h : geti l i = some x) : x ∈ l := List.mem_of_getElem? (geti_some h).2.2
theorem geti_d {α : Type} {l : List α} {i : Int} {p : α → Prop} {z : α} (hz : p z) (h : ∀ x ∈ l, p x) : p ((geti l i).getD z) := by
 cases hg : geti l i with
 | none => exact hz
 | some x => exact h x (geti_mem hg)
theorem line_ok {c : Cf} (h : c.check = 0) (l : List St) : 0 ≤ lineF c l ∧ lineF c l ≤ 3 := by
 induction l with
 | nil => exact ⟨Int.le_refl _, by unfold lineF; omega⟩
 | cons s r ih =>
   rw [lineF]
   have hs : 0 ≤ ((geti c.Secs s.Sec).getD ⟨0, 0, 0⟩).Line ∧ ((geti c.Secs s.Sec).getD ⟨0, 0, 0⟩).Line ≤ 3 := by
     refine geti_d (p := fun y : Sec => 0 ≤ y.Line ∧ y.Line ≤ 3) (by decide) fun y hy => ?_
     obtain ⟨i, hi, e⟩ := List.getElem_of_mem hy
     exact topo_line (check_parts h).1 (i := i) (by rw [List.getElem?_eq_getElem hi, e])
   split
   · exact hs
   · exact ih
end
end Go.Fw
namespace Go.Proofs.YtfdffboelecgoaaGreatDoor
open Go.Fw Go.Proofs Go.RowKit
section
variable {σ : Store}
theorem clone_ok {t : TypeId} {bytes : Nat} {d : D} {rows : List (List D)} {Q : RV → Store → Prop} (h : At Tryz.prog σ t d rows) (hz : d ≠ .zsl) (hb : bytes * rows.length ≤ 140737488355328)
   (hQ : ∀ d' s, Own Tryz.prog σ s t d' rows → Q (.a (.one d')) s) :
   ∃ b : Bool, (IsNil .sl d b) ∧ bcase (b != false) (Q (.a (.one .nils)) σ) (Fw.newObj σ (.live t []) (fun (id : Nat) => fun (σ' : Store) => appendTo Tryz.prog σ' t bytes (.osl id 0 0) d (fun (d : D) => fun (σ'1 : Store) => Q (.a (.one d)) σ'1))) := by
 have new : ∀ b : Bool, b = false → bcase (b != false) (Q (.a (.one .nils)) σ) (Fw.newObj σ (.live t []) (fun (id : Nat) => fun (σ' : Store) => appendTo Tryz.prog σ' t bytes (.osl id 0 0) d (fun (d : D) => fun (σ'1 : Store) => Q (.a (.one d)) σ'1))) := by
   rintro b rfl
   rw [show (false != false) = false from by decide]
   refine (newObj_intro (K := fun id σ' => appendTo Tryz.prog σ' t bytes (.osl id 0 0) d fun d σ'1 => Q (.a (.one d)) σ'1) ?_ : Fw.newObj σ (.live t []) _)
   refine fun id s hid _ he hs => ?_
   have ho : Own Tryz.prog σ s t (.osl id 0 0) [] := ⟨At.fresh hs (by simp) rfl, he, osl_new hid, fun h => h, by intro e; cases e⟩
   exact ho.append (h.ext he) (by simpa using hb) (by have := h.size; simpa using this) fun d' s' ho' _ _ => hQ _ _ (by simpa using ho')
 have hr := h.rows
 cases d <;> simp only [Go.Fw.Rows] at hr <;> try exact hr.elim
 · subst hr; exact ⟨true, rfl, hQ _ _ (.nil _ (.refl _))⟩
 · exact absurd rfl hz
 · exact ⟨false, rfl, new _ rfl⟩
 · exact ⟨false, rfl, new _ rfl⟩
theorem Clone_int_ok {d : D} {rows : List (List D)} (h : At Tryz.prog σ t_int d rows) (hz : d ≠ .zsl) (hb : 8 * rows.length ≤ 140737488355328) : DCalls Tryz.prog n_slices_Clone_int [.one d] σ fun r s => ∃ d', r = .a (.one d') ∧ Own Tryz.prog σ s t_int d' rows :=
 W_slices_Clone_int d σ _ (clone_ok (Q := fun r s => ∃ d', r = .a (.one d') ∧ Own Tryz.prog σ s _ d' rows) h hz hb fun d' s ho => ⟨d', rfl, ho⟩)
end
end Go.Proofs.YtfdffboelecgoaaGreatDoor
namespace Go.Proofs.YtfdffboelecgoaaGreatDoor
open Go.Shelf Go.Proofs
section
def sortLays_ren : Go.Shelf.Ren := ⟨fun | 189 => 58 | 125 => 96 | 257 => 95 | 128 => 129 | 129 => 130 | 294 => 120 | 295 => 121 | 296 => 122 | 297 => 123 | 298 => 124 | 299 => 125 | 216 => 126 | 300 => 127 | 301 => 128 | 328 => 146 | 329 => 147 | 330 => 148 | 331 => 149 | 332 => 150 | 215 => 151 | 343 => 164 | n => n, fun | 28 => 25 | 3 => 3 | 46 => 40 | 0 => 0 | 51 => 175 | 53 => 177 | 4 => 4 | 183 => 168 | 182 => 167 | 131 => 68 | 5 => 5 | 9 => 9 | 218 => 193 | 222 => 197 | 228 => 214 | 229 => 215 | n => n, fun | n => n⟩
theorem sortLays : Go.Proofs.Lays.n189 Tryz.prog sortLays_ren := {
 mixed := by kernel_rfl
 f125 := Tryz.func96.trans (congrArg some (by kernel_rfl))
 f128 := Tryz.func129.trans (congrArg some (by kernel_rfl))
 f129 := Tryz.func130.trans (congrArg some (by kernel_rfl))
 f189 := Tryz.func58.trans (congrArg some (by kernel_rfl))
 f215 := Tryz.func151.trans (congrArg some (by kernel_rfl))
 f216 := Tryz.func126.trans (congrArg some (by kernel_rfl))
 f257 := Tryz.func95.trans (congrArg some (by kernel_rfl))
 f294 := Tryz.func120.trans (congrArg some (by kernel_rfl))
 f295 := Tryz.func121.trans (congrArg some (by kernel_rfl))
 f296 := Tryz.func122.trans (congrArg some (by kernel_rfl))
 f297 := Tryz.func123.trans (congrArg some (by kernel_rfl))
 f298 := Tryz.func124.trans (congrArg some (by kernel_rfl))
 f299 := Tryz.func125.trans (congrArg some (by kernel_rfl))
 f300 := Tryz.func127.trans (congrArg some (by kernel_rfl))
 f301 := Tryz.func128.trans (congrArg some (by kernel_rfl))
 f328 := Tryz.func146.trans (congrArg some (by kernel_rfl))
 f329 := Tryz.func147.trans (congrArg some (by kernel_rfl))
 f330 := Tryz.func148.trans (congrArg some (by kernel_rfl))
 f331 := Tryz.func149.trans (congrArg some (by kernel_rfl))
 f332 := Tryz.func150.trans (congrArg some (by kernel_rfl))
 f343 := Tryz.func164.trans (congrArg some (by kernel_rfl))
 t0 := Tryz.underlying0
 a0 := Tryz.isAgg0
 z0 := Tryz.sizeOf0
 v0 := Tryz.zeroValue0
 t3 := Tryz.underlying3
 a3 := Tryz.isAgg3
 z3 := Tryz.sizeOf3
 v3 := Tryz.zeroValue3
 t4 := Tryz.underlying4
 a4 := Tryz.isAgg4
 z4 := Tryz.sizeOf4
 v4 := Tryz.zeroValue4
 t5 := Tryz.underlying5
 a5 := Tryz.isAgg5
 z5 := Tryz.sizeOf5
 v5 := Tryz.zeroValue5
 t9 := Tryz.underlying9
 a9 := Tryz.isAgg9
 z9 := Tryz.sizeOf9
 v9 := Tryz.zeroValue9
 t28 := Tryz.underlying25
 a28 := Tryz.isAgg25
 z28 := Tryz.sizeOf25
 v28 := Tryz.zeroValue25
 t46 := Tryz.underlying40
 a46 := Tryz.isAgg40
 z46 := Tryz.sizeOf40
 v46 := Tryz.zeroValue40
 t51 := Tryz.underlying175
 a51 := Tryz.isAgg175
 z51 := Tryz.sizeOf175
 v51 := Tryz.zeroValue175
 t53 := Tryz.underlying177
 a53 := Tryz.isAgg177
 z53 := Tryz.sizeOf177
 v53 := Tryz.zeroValue177
 t131 := Tryz.underlying68
 a131 := Tryz.isAgg68
 z131 := Tryz.sizeOf68
 v131 := Tryz.zeroValue68
 t182 := Tryz.underlying167
 a182 := Tryz.isAgg167
 z182 := Tryz.sizeOf167
 v182 := Tryz.zeroValue167
 t183 := Tryz.underlying168
 a183 := Tryz.isAgg168
 z183 := Tryz.sizeOf168
 v183 := Tryz.zeroValue168
 t218 := Tryz.underlying193
 a218 := Tryz.isAgg193
 z218 := Tryz.sizeOf193
 v218 := Tryz.zeroValue193
 t222 := Tryz.underlying197
 a222 := Tryz.isAgg197
 z222 := Tryz.sizeOf197
 v222 := Tryz.zeroValue197
 t228 := Tryz.underlying214
 a228 := Tryz.isAgg214
 z228 := Tryz.sizeOf214
 v228 := Tryz.zeroValue214
 t229 := Tryz.underlying215
 a229 := Tryz.isAgg215
 z229 := Tryz.sizeOf215
 v229 := Tryz.zeroValue215 }
end
section
def compactLays_ren : Go.Shelf.Ren := ⟨fun | 20 => 59 | n => n, fun | 22 => 25 | 3 => 3 | 4 => 4 | 0 => 0 | n => n, fun | n => n⟩
theorem compactLays : Go.Proofs.Lays2.n20 Tryz.prog compactLays_ren := {
 mixed := by kernel_rfl
 f20 := Tryz.func59.trans (congrArg some (by kernel_rfl))
 t0 := Tryz.underlying0
 a0 := Tryz.isAgg0
 z0 := Tryz.sizeOf0
 v0 := Tryz.zeroValue0
 t3 := Tryz.underlying3
 a3 := Tryz.isAgg3
 z3 := Tryz.sizeOf3
 v3 := Tryz.zeroValue3
 t4 := Tryz.underlying4
 a4 := Tryz.isAgg4
 z4 := Tryz.sizeOf4
 v4 := Tryz.zeroValue4
 t22 := Tryz.underlying25
 a22 := Tryz.isAgg25
 z22 := Tryz.sizeOf25
 v22 := Tryz.zeroValue25
 i3 := by kernel_rfl }
end
end Go.Proofs.YtfdffboelecgoaaGreatDoor
namespace Go.Proofs.YtfdffboelecgoaaGreatDoor
open Go.Fw Go.Proofs Go.RowKit
section
variable {σ σ0 : Store}
theorem own_over {s : Store} {d : D} {l ys : List Int} (h : Own Tryz.prog σ0 s t_int d (l.map Go.Fw.encI)) (h0 : l ≠ []) (hl : ys.length = l.length) :
   ∃ id i0 t rows, d = .osl id i0 l.length ∧ s id = .live t rows ∧ Tryz.prog.cellsOf t = 1 ∧ i0 + l.length ≤ rows.length ∧ (rows.drop i0).take l.length = l.map intRow ∧ σ0 id = .free ∧
     Own Tryz.prog σ0 (s.set id (.live t (rows.take i0 ++ ys.map intRow ++ rows.drop (i0 + l.length)))) t_int d (ys.map Go.Fw.encI) := by
 have hr := h.at_.rows
 have hsz := h.at_.size
 rw [List.length_map] at hsz
 have hnz := h.nz
 have hns := h.nsl
 have hnew := h.new
 have hlen := h.at_.lenI
 rw [List.length_map] at hlen
 cases d <;> simp only [Go.Fw.Rows] at hr <;> try exact hr.elim
 · exact absurd (List.map_eq_nil_iff.1 hr) h0
 · exact absurd rfl hnz
 · exact absurd trivial hns
 · rename_i id i0 len
   obtain ⟨t, rows, a1, a2, a3, a4⟩ := hr
   have e : l.length = len := hlen
   subst e
   have ht : Tryz.prog.cellsOf t = 1 := by rw [a2]; exact c_int
   have hn := hnew _ _ _ rfl
   refine ⟨id, i0, t, rows, rfl, a1, ht, a3, a4.symm, hn, ⟨⟨⟨t, _, Store.set_same _ _ _, a2, ?_, ?_⟩, ?_, fun es rows e => by cases e⟩, ?_, hnew, fun h => h, by intro e; cases e⟩⟩
   · simp; omega
   · have hi0 : (rows.take i0).length = i0 := by simp; omega
     rw [List.append_assoc, List.drop_append_of_le_length (by omega), List.drop_of_length_le (by omega), List.nil_append, List.take_append_of_le_length (by simp; omega), List.take_of_length_le (by simp; omega)]
     rfl
   · rw [List.length_map]; omega
   · intro i hi
     rw [Store.set_ne _ _ (by intro e; subst e; exact hi hn)]
     exact h.ext i hi
theorem Sort_int_ok {s : Store} {d : D} {l : List Int} (h : Own Tryz.prog σ0 s t_int d (l.map Go.Fw.encI)) (h0 : l ≠ []) :
   DCalls Tryz.prog n_slices_Sort_int [.one d] s fun r s' => r = .tup [] ∧ Own Tryz.prog σ0 s' t_int d ((sorted l).map Go.Fw.encI) := by
 have hsz := h.at_.size
 rw [List.length_map] at hsz
 obtain ⟨id, i0, t, rows, rfl, a1, ht, a3, a4, hn, ho⟩ := own_over (ys := sorted l) h h0 (by simp [sorted])
 refine (sort_DCalls sortLays ht a1 a3 a4 (List.length_pos_iff.2 h0) (by omega)).mono ?_
 rintro r s' ⟨rfl, rfl⟩
 exact ⟨rfl, ho⟩
theorem Compact_int_ok {s : Store} {d : D} {l : List Int} (h : Own Tryz.prog σ0 s t_int d (l.map Go.Fw.encI)) (h0 : l ≠ []) (hp : l.Pairwise (· ≤ ·)) :
   DCalls Tryz.prog n_slices_Compact_int [.one d] s fun r s' => ∃ d', r = .a (.one d') ∧ Own Tryz.prog σ0 s' t_int d' ((cpt l).map Go.Fw.encI) := by
 have hsz := h.at_.size
 rw [List.length_map] at hsz
 have hc := compact_cpt hp
 have hle := cpt_len l
 obtain ⟨id, i0, t, rows, rfl, a1, ht, a3, a4, hn, ho⟩ := own_over (ys := Lib.compact l ++ List.replicate (l.length - (Lib.compact l).length) 0) h h0 (by rw [hc]; simp; omega)
 refine (compact_DCalls compactLays ht a1 a3 a4 (List.length_pos_iff.2 h0) (by omega)).mono ?_
 rintro r s' ⟨rfl, rfl⟩
 have := ho.sub (lo := 0) (hi := (cpt l).length) (by omega) (by rw [hc]; simp)
 rw [hc] at this ⊢
 refine ⟨_, rfl, ?_⟩
 have e : ((((cpt l ++ List.replicate (l.length - (cpt l).length) 0).map Go.Fw.encI).drop 0).take ((cpt l).length - 0)) = (cpt l).map Go.Fw.encI := by
   rw [List.drop_zero, Nat.sub_zero, List.map_append, List.take_append_of_le_length (by simp), List.take_of_length_le (by simp)]
 rw [e] at this
 exact this
def RtsNz : D → Prop
 | .sl _ rows => ∀ row ∈ rows, row[4]? ≠ some .zsl
 | _ => True
theorem nz_over {c4 : D} {rows : List (List D)} (hz : RtsNz c4) (hat : ∀ s, At Tryz.prog s t_Route c4 rows) {i : Nat} {row : List D} (hr : rows[i]? = some row) : row[4]? ≠ some .zsl := by
 have hx := (hat (fun _ => .free)).rows
 cases c4 <;> simp only [Go.Fw.Rows] at hx <;> try exact hx.elim
 · subst hx; simp at hr
 · subst hx; simp at hr
 · obtain ⟨rfl, _⟩ := hx; exact hz _ (List.mem_of_getElem? hr)
 · obtain ⟨t, rows', h1, _⟩ := hx; cases h1
def RtSz (x : Rt) : Prop := 1 ≤ x.Overlap.length + x.Path.length + x.Flank.length ∧ x.Path.length ≤ 2 ^ 20 ∧ x.Flank.length ≤ 2 ^ 20 ∧ x.Overlap.length ≤ 2 ^ 20
section
variable {c0 c1 c2 c3 c4 : D} {c : Cf} (h : ∀ s, RtsAt Tryz.prog t_Route t_Step t_Need t_int s c4 c.Rts)
include h
theorem rt_frz {i : Nat} {x : Rt} (hx : c.Rts[i]? = some x) : ∃ rows d1 d2 d3, (∀ s, At Tryz.prog s t_Route c4 rows) ∧ rows.length = c.Rts.length ∧ rows[i]? = some [iD x.Entry, iD x.Exit, d1, d2, d3, .bool x.Shunt] ∧
   (∀ s, At Tryz.prog s t_Step d1 (x.Path.map St.enc)) ∧ (∀ s, At Tryz.prog s t_Need d2 (x.Flank.map Nd.enc)) ∧ (∀ s, At Tryz.prog s t_int d3 (x.Overlap.map Go.Fw.encI)) := by
 obtain ⟨rows, hat, hlen, hrow⟩ := rts_froz h
 obtain ⟨row, hrw⟩ := get_of_lt (l := rows) (j := i) (by have := (List.getElem?_eq_some_iff.1 hx).1; omega)
 obtain ⟨d1, d2, d3, rfl, q1, q2, q3⟩ := hrow i row x hrw hx
 exact ⟨rows, d1, d2, d3, hat, hlen, hrw, q1, q2, q3⟩
theorem locks_rts (hs : ∀ x ∈ c.Rts, RtSz x) (hz : RtsNz c4) (i : Int) : DCalls Tryz.prog n_conf_Locks [cfA c0 c1 c2 c3 c4 c, iA i] σ (SlPost σ t_int ((c.lockL i).map Go.Fw.encI)) := by
 refine (W_conf_Locks _ _ _ _ _ _ _ _ _ i σ _ ?_).ret (Q := fun r s => ∃ r' σ', Ret Tryz.prog σ s r σ' r' ∧ SlPost σ t_int ((c.lockL i).map Go.Fw.encI) r' σ') (fun r s h => h)
 intro R hR
 have nil : geti c.Rts i = none → ∃ r' σ', Ret Tryz.prog σ σ (.a (.one .nils)) σ' r' ∧ SlPost σ t_int ((c.lockL i).map Go.Fw.encI) r' σ' := fun e => by
   have : c.lockL i = [] := by unfold Cf.lockL; rw [e]
   rw [this]; exact own_fin (.nil _ (.refl _)) (flatI _)
 obtain ⟨rows, hat, hlen, _⟩ := h σ
 refine bcd (fun e => nil (geti_neg e)) (fun e0 => hat.lenK (bcd (fun e => nil (geti_ge (by omega))) (fun e1 => hR σ ?_)))
 obtain ⟨x, hx⟩ := geti_ex (l := c.Rts) (i := i) e0 (by omega)
 clear hR nil hat
 have hll : c.lockL i = Cf.lockR x := by unfold Cf.lockL; rw [hx]
 rw [hll]
 obtain ⟨rows, d1, d2, d3, hat, hlen, hrow, q1, q2, q3⟩ := rt_frz h (geti_some hx).2.2
 obtain ⟨w0, w1, w2, w3⟩ := hs x (geti_mem hx)
 refine (hat σ).load hrow c_Route (by omega) ⟨_, _, _, _, _, _, rfl, (Clone_int_ok (q3 σ) ?_ (by rw [List.length_map]; omega)).mono ?_⟩
 · exact fun e => nz_over hz hat hrow (by rw [e]; rfl)
 rintro r s ⟨d, rfl, ho⟩
 refine ⟨d, rfl, (q1 σ).lenK ⟨fun d n s' => ∃ j : Nat, n = j ∧ j ≤ x.Path.length ∧ Own Tryz.prog σ s' t_int d ((x.Overlap ++ (x.Path.take j).map St.Sec).map Go.Fw.encI), fun _ n _ => x.Path.length - n.toNat, ⟨0, rfl, by omega, by simpa using ho⟩, ?_⟩⟩
 rintro d n s' ⟨j, rfl, hj, ho⟩
 rw [List.length_map]
 refine bcd (fun hlt => ?_) (fun hge => ?_)
 · obtain ⟨y, hy⟩ := get_of_lt (l := x.Path) (j := j) (by omega)
   refine (q1 s').load (map_get hy) c_Step rfl ⟨y.Sec, y.In, y.Out, rfl, newObj_intro fun id s2 hid _ he hs2 => ?_⟩
   refine (ho.ext' he).append (At.fresh hs2 (by simp) rfl) (by simp; omega) (by simp; omega) fun d4 s5 ho5 _ _ => ?_
   rw [w64_succ (by omega)]
   refine ⟨rfl, ⟨j + 1, rfl, by omega, ?_⟩, dec_lt (by omega)⟩
   have e : x.Overlap ++ (x.Path.take (j + 1)).map St.Sec = (x.Overlap ++ (x.Path.take j).map St.Sec) ++ [y.Sec] := by rw [List.take_add_one, hy]; simp
   rw [e, List.map_append]; exact ho5
 have e : j = x.Path.length := by omega
 rw [e, List.take_length] at ho
 refine (q2 s').lenK ⟨fun d n s' => ∃ j : Nat, n = j ∧ j ≤ x.Flank.length ∧ Own Tryz.prog σ s' t_int d ((x.Overlap ++ x.Path.map St.Sec ++ (x.Flank.take j).map Nd.Sec).map Go.Fw.encI), fun _ n _ => x.Flank.length - n.toNat, ⟨0, rfl, by omega, by simpa using ho⟩, ?_⟩
 rintro d n s' ⟨j, rfl, hj, ho⟩
 rw [List.length_map]
 refine bcd (fun hlt => ?_) (fun hge => ?_)
 · obtain ⟨y, hy⟩ := get_of_lt (l := x.Flank) (j := j) (by omega)
   refine (q2 s').load (map_get hy) c_Need rfl ⟨y.Sec, y.Pos, rfl, newObj_intro fun id s2 hid _ he hs2 => ?_⟩
   refine (ho.ext' he).append (At.fresh hs2 (by simp) rfl) (by simp; omega) (by simp; omega) fun d4 s5 ho5 _ _ => ?_
   rw [w64_succ (by omega)]
   refine ⟨⟨j + 1, rfl, by omega, ?_⟩, dec_lt (by omega)⟩
   have e : x.Overlap ++ x.Path.map St.Sec ++ (x.Flank.take (j + 1)).map Nd.Sec = (x.Overlap ++ x.Path.map St.Sec ++ (x.Flank.take j).map Nd.Sec) ++ [y.Sec] := by rw [List.take_add_one, hy]; simp
   rw [e, List.map_append]; exact ho5
 have e : j = x.Flank.length := by omega
 rw [e, List.take_length] at ho
 have hne : x.Overlap ++ x.Path.map St.Sec ++ x.Flank.map Nd.Sec ≠ [] := by
   intro e
   have := congrArg List.length e
   simp only [List.length_append, List.length_map, List.length_nil] at this; omega
 refine (Sort_int_ok ho hne).mono ?_
 rintro r s2 ⟨rfl, ho⟩
 refine ⟨rfl, (Compact_int_ok ho (fun e => hne (by
   have := congrArg List.length e
   simp only [sorted, List.length_mergeSort] at this
   exact List.length_eq_zero_iff.1 this)) (sorted_pair _)).mono ?_⟩
 rintro r s3 ⟨d', rfl, ho⟩
 exact ⟨d', rfl, own_fin ho (flatI _)⟩
end
theorem check_sz {c : Cf} (hok : c.check = 0) : ∀ x ∈ c.Rts, RtSz x := fun x hx => by
 have hr := check_rt hok hx
 have w1 := hr.len
 have w2 := hr.flen
 have w3 := hr.olen
 exact ⟨by omega, by omega, by omega, by omega⟩
theorem conf_Locks_ok {c0 c1 c2 c3 c4 : D} {c : Cf} (h : ∀ s, CfAt s c0 c1 c2 c3 c4 c) (hok : c.check = 0) (hz : RtsNz c4) (i : Int) : DCalls Tryz.prog n_conf_Locks [cfA c0 c1 c2 c3 c4 c, iA i] σ (SlPost σ t_int ((c.lockL i).map Go.Fw.encI)) :=
 locks_rts (fun s => (h s).rts) (check_sz hok) hz i
end
section
theorem ty_i {row : List D} {n : Nat} (h : tyD Tryz.prog n t_int row) : ∃ m, row = Go.Fw.encI m ∧ I64 m := by
 obtain ⟨_, _, rfl, ⟨m, rfl, hm⟩, rfl⟩ := ty_sh n 2 _ _ [.int .i64] h (by kernel_rfl)
 exact ⟨m, rfl, wf_i64 hm⟩
theorem ty_i2 {t : TypeId} {row : List D} {n : Nat} (h : tyD Tryz.prog n t row) (hs : cellsSh Tryz.prog 5 t = some [.int .i64, .int .i64]) : ∃ a b, row = [iD a, iD b] ∧ I64 a ∧ I64 b := by
 obtain ⟨_, _, rfl, ⟨a, rfl, ha⟩, _, _, rfl, ⟨b, rfl, hb⟩, rfl⟩ := ty_sh n 5 _ _ _ h hs
 exact ⟨a, b, rfl, wf_i64 ha, wf_i64 hb⟩
theorem ty_i3 {t : TypeId} {row : List D} {n : Nat} (h : tyD Tryz.prog n t row) (hs : cellsSh Tryz.prog 5 t = some [.int .i64, .int .i64, .int .i64]) : ∃ a b c, row = [iD a, iD b, iD c] ∧ I64 a ∧ I64 b ∧ I64 c := by
 obtain ⟨_, _, rfl, ⟨a, rfl, ha⟩, _, _, rfl, ⟨b, rfl, hb⟩, _, _, rfl, ⟨c, rfl, hc⟩, rfl⟩ := ty_sh n 5 _ _ _ h hs
 exact ⟨a, b, c, rfl, wf_i64 ha, wf_i64 hb, wf_i64 hc⟩
theorem ty_i4 {t : TypeId} {row : List D} {n : Nat} (h : tyD Tryz.prog n t row) (hs : cellsSh Tryz.prog 5 t = some [.int .i64, .int .i64, .int .i64, .int .i64]) : ∃ a b c d, row = [iD a, iD b, iD c, iD d] ∧ I64 a ∧ I64 b ∧ I64 c ∧ I64 d := by
 obtain ⟨_, _, rfl, ⟨a, rfl, ha⟩, _, _, rfl, ⟨b, rfl, hb⟩, _, _, rfl, ⟨c, rfl, hc⟩, _, _, rfl, ⟨d, rfl, hd⟩, rfl⟩ := ty_sh n 5 _ _ _ h hs
 exact ⟨a, b, c, d, rfl, wf_i64 ha, wf_i64 hb, wf_i64 hc, wf_i64 hd⟩
theorem ty_Section {row : List D} {n : Nat} (h : tyD Tryz.prog n t_Section row) : ∃ s : Sec, row = s.enc ∧ I64 s.Kind ∧ I64 s.OC ∧ I64 s.Line := by
 obtain ⟨a, b, c, rfl, q⟩ := ty_i3 h (by kernel_rfl)
 exact ⟨⟨a, b, c⟩, rfl, q⟩
theorem ty_Joint {row : List D} {n : Nat} (h : tyD Tryz.prog n t_Joint row) : ∃ s : Jt, row = s.enc ∧ I64 s.A ∧ I64 s.AEnd ∧ I64 s.B ∧ I64 s.BEnd := by
 obtain ⟨a, b, c, d, rfl, q⟩ := ty_i4 h (by kernel_rfl)
 exact ⟨⟨a, b, c, d⟩, rfl, q⟩
theorem ty_Signal {row : List D} {n : Nat} (h : tyD Tryz.prog n t_Signal row) : ∃ s : Sg, row = s.enc ∧ I64 s.Sec ∧ I64 s.End_ := by
 obtain ⟨a, b, rfl, q⟩ := ty_i2 h (by kernel_rfl)
 exact ⟨⟨a, b⟩, rfl, q⟩
theorem ty_Step {row : List D} {n : Nat} (h : tyD Tryz.prog n t_Step row) : ∃ s : St, row = s.enc ∧ I64 s.Sec ∧ I64 s.In ∧ I64 s.Out := by
 obtain ⟨a, b, c, rfl, q⟩ := ty_i3 h (by kernel_rfl)
 exact ⟨⟨a, b, c⟩, rfl, q⟩
theorem ty_Need {row : List D} {n : Nat} (h : tyD Tryz.prog n t_Need row) : ∃ s : Nd, row = s.enc ∧ I64 s.Sec ∧ I64 s.Pos := by
 obtain ⟨a, b, rfl, q⟩ := ty_i2 h (by kernel_rfl)
 exact ⟨⟨a, b⟩, rfl, q⟩
structure RtI (r : Rt) : Prop where
 entry : I64 r.Entry
 exit : I64 r.Exit
 path : ∀ s ∈ r.Path, I64 s.Sec ∧ I64 s.In ∧ I64 s.Out
 flank : ∀ s ∈ r.Flank, I64 s.Sec ∧ I64 s.Pos
 over : ∀ o ∈ r.Overlap, I64 o
 np : 24 * r.Path.length ≤ 140737488351232
 nf : 16 * r.Flank.length ≤ 140737488351232
 no : 8 * r.Overlap.length ≤ 140737488351232
structure CfI (c : Cf) : Prop where
 secs : ∀ s ∈ c.Secs, I64 s.Kind ∧ I64 s.OC ∧ I64 s.Line
 jts : ∀ s ∈ c.Jts, I64 s.A ∧ I64 s.AEnd ∧ I64 s.B ∧ I64 s.BEnd
 sigs : ∀ s ∈ c.Sigs, I64 s.Sec ∧ I64 s.End_
 xs : ∀ s ∈ c.Xs, I64 s
 rts : ∀ r ∈ c.Rts, RtI r
 age : I64 c.Age
 brake : I64 c.Brake
 hold : I64 c.Hold
 budget : I64 c.Budget
 nsecs : 24 * c.Secs.length ≤ 140737488351232
 njts : 32 * c.Jts.length ≤ 140737488351232
 nsigs : 16 * c.Sigs.length ≤ 140737488351232
 nxs : 8 * c.Xs.length ≤ 140737488351232
 nrts : 96 * c.Rts.length ≤ 140737488351232
theorem ty_RouteZ {row : List D} {n : Nat} (h : tyD Tryz.prog n t_Route row) : ∃ r : Rt, ((∀ s, RtAt Tryz.prog t_Step t_Need t_int s row r) ∧ RtI r) ∧ row[4]? ≠ some .zsl := by
 obtain ⟨_, _, rfl, ⟨a, rfl, ha⟩, _, _, rfl, ⟨b, rfl, hb⟩, d1, _, rfl, h1, d2, _, rfl, h2, d3, _, rfl, h3, _, _, rfl, ⟨sh, rfl⟩, rfl⟩ := ty_sh n 5 _ _ [.int .i64, .int .i64, .sl t_Step, .sl t_Need, .sl t_int, .bool] h (by kernel_rfl)
 obtain ⟨l1, a1, b1, _, e1⟩ := sh_rows (bytes := 24) St.enc _ (fun row n h => ty_Step h) (by kernel_rfl) (by omega) h1
 obtain ⟨l2, a2, b2, _, e2⟩ := sh_rows (bytes := 16) Nd.enc _ (fun row n h => ty_Need h) (by kernel_rfl) (by omega) h2
 obtain ⟨l3, a3, b3, z3, e3⟩ := sh_rows (bytes := 8) Go.Fw.encI _ (fun row n h => ty_i h) (by kernel_rfl) (by omega) h3
 exact ⟨⟨a, b, l1, l2, l3, sh⟩, ⟨fun s => ⟨d1, d2, d3, rfl, a1 s, a2 s, a3 s⟩, wf_i64 ha, wf_i64 hb, b1, b2, b3, e1, e2, e3⟩, fun e => z3 (by injection e)⟩
theorem ty_ConfigZ {cs : List D} {n : Nat} (h : tyD Tryz.prog n t_Config cs) : ∃ c0 c1 c2 c3 c4 c, cs = [c0, c1, c2, c3, c4, iD c.Age, iD c.Brake, iD c.Hold, iD c.Budget] ∧ (∀ s, CfAt s c0 c1 c2 c3 c4 c) ∧ CfI c ∧ RtsNz c4 := by
 obtain ⟨c0, _, rfl, h0, c1, _, rfl, h1, c2, _, rfl, h2, c3, _, rfl, h3, c4, _, rfl, h4, _, _, rfl, ⟨a, rfl, ha⟩, _, _, rfl, ⟨b, rfl, hb⟩, _, _, rfl, ⟨ho, rfl, hho⟩, _, _, rfl, ⟨bu, rfl, hbu⟩, rfl⟩ :=
   ty_sh n 5 _ _ [.sl t_Section, .sl t_Joint, .sl t_Signal, .sl t_int, .sl t_Route, .int .i64, .int .i64, .int .i64, .int .i64] h (by kernel_rfl)
 obtain ⟨l0, a0, b0, _, e0⟩ := sh_rows (bytes := 24) Sec.enc _ (fun row n h => ty_Section h) (by kernel_rfl) (by omega) h0
 obtain ⟨l1, a1, b1, _, e1⟩ := sh_rows (bytes := 32) Jt.enc _ (fun row n h => ty_Joint h) (by kernel_rfl) (by omega) h1
 obtain ⟨l2, a2, b2, _, e2⟩ := sh_rows (bytes := 16) Sg.enc _ (fun row n h => ty_Signal h) (by kernel_rfl) (by omega) h2
 obtain ⟨l3, a3, b3, _, e3⟩ := sh_rows (bytes := 8) Go.Fw.encI _ (fun row n h => ty_i h) (by kernel_rfl) (by omega) h3
 obtain ⟨rows, l4, a4, q4, b4, _, e4⟩ := sh_rel (bytes := 96) (fun row r => ((∀ s, RtAt Tryz.prog t_Step t_Need t_int s row r) ∧ RtI r) ∧ row[4]? ≠ some .zsl) (fun row n h => ty_RouteZ h) (by kernel_rfl) (by omega) h4
 refine ⟨c0, c1, c2, c3, c4, ⟨l0, l1, l2, l3, l4, a, b, ho, bu⟩, rfl, fun s => ⟨a0 s, a1 s, a2 s, a3 s, rows, a4 s, q4, fun i row r x y => (b4 i row r x y).1.1 s⟩, ⟨b0, b1, b2, b3, ?_, wf_i64 ha, wf_i64 hb, wf_i64 hho, wf_i64 hbu, e0, e1, e2, e3, e4⟩, ?_⟩
 · intro r hr
   obtain ⟨i, hi⟩ := List.mem_iff_getElem?.1 hr
   have hi : l4[i]? = some r := hi
   have hlt := (List.getElem?_eq_some_iff.1 hi).1
   obtain ⟨row, hrow⟩ := get_of_lt (l := rows) (j := i) (by omega)
   exact (b4 i row r hrow hi).1.2
 · have hr := (a4 noS).rows
   cases c4 <;> first | trivial | skip
   obtain ⟨rfl, _⟩ := hr
   intro row hrow
   obtain ⟨i, hi⟩ := List.mem_iff_getElem?.1 hrow
   have hlt := (List.getElem?_eq_some_iff.1 hi).1
   obtain ⟨r, hr⟩ := get_of_lt (l := l4) (j := i) (by omega)
   exact (b4 i row r hi hr).2
end
end Go.Proofs.YtfdffboelecgoaaGreatDoor
section
set_option maxRecDepth 20000
namespace Go.Proofs.YtfdffboelecgoaaGreatDoor
open Go.Fw Go.Proofs Go.RowKit
variable {σ σ0 : Store}
theorem IndexFunc_int_ok {d f : D} {l : List Int} {p : Int → Bool} (h : At Tryz.prog σ t_int d (l.map Go.Fw.encI)) (hf : FnIs Tryz.prog σ f (fun x : Int => iA x) l p) :
   Pure Tryz.prog n_slices_IndexFunc_int [.one d, .one f] σ (.a (iA (fidx p l 0))) := by
 have hl := h.size
 rw [List.length_map] at hl
 obtain ⟨f1, a, b, as0', bs, rfl, ha, hb, hf⟩ := hf
 refine W_slices_IndexFunc_int d _ σ _ (h.lenK ⟨fun n s => s = σ ∧ Rng l (fun r => ∀ j : Nat, n = j → fidx p r j = fidx p l 0) n, fun n _ => l.length - n.toNat, ⟨rfl, .start fun j hj => by cases j with | zero => rfl | succ j => omega⟩, ?_⟩)
 rintro n τ ⟨rfl, hr⟩
 refine bcd (fun hlt => ?_) (fun hge => ?_)
 · obtain ⟨j, x, rfl, hx, hj, hF, nx⟩ := hr.step (by simp) hl hlt
   refine h.load (map_get hx) c_int rfl ⟨x, rfl, f1, a, b, as0', bs, rfl, ha, hb, ?_⟩
   have hF := hF j rfl
   rw [fidx] at hF
   refine (hf x (List.mem_of_getElem? hx)).mono ?_
   rintro r s ⟨rfl, rfl⟩
   refine ⟨p x, rfl, bc (fun hp => ?_) (fun hp => ?_)⟩
   · rw [if_pos hp] at hF; exact ⟨by rw [← hF], rfl⟩
   · refine andl rfl (nx _ fun j' hj' => ?_)
     rw [w64_succ (by omega)] at hj'
     have : j' = j + 1 := by omega
     subst this
     rw [if_neg (by rw [hp]; simp)] at hF
     exact hF
 · refine ⟨?_, rfl⟩
   obtain ⟨j, hj, hj2, hF⟩ := hr
   have hF := hF j hj
   rw [List.length_map] at hge
   rw [drop_end (by omega)] at hF
   rw [← hF]; rfl
theorem ContainsFunc_int_ok {d f : D} {l : List Int} {p : Int → Bool} (h : At Tryz.prog σ t_int d (l.map Go.Fw.encI)) (hf : FnIs Tryz.prog σ f (fun x : Int => iA x) l p) :
   Pure Tryz.prog n_slices_ContainsFunc_int [.one d, .one f] σ (.a (bA (l.any p))) :=
 W_slices_ContainsFunc_int d f σ _ ((IndexFunc_int_ok h hf).use ⟨_, rfl, by rw [fidx_any]; exact ⟨rfl, rfl⟩⟩)
theorem ref01_SameInts_ok {a b : D} {la lb : List Int} (ha : At Tryz.prog σ t_int a (la.map Go.Fw.encI)) (hb : At Tryz.prog σ t_int b (lb.map Go.Fw.encI)) : Pure Tryz.prog n_ref01_SameInts [.one a, .one b] σ (.a (bA (decide (la = lb)))) := by
 have hs := ha.size
 rw [List.length_map] at hs
 refine W_ref01_SameInts a b σ _ (ha.lenK (hb.lenK ?_))
 rw [List.length_map, List.length_map]
 refine bcn (fun hne => ⟨?_, rfl⟩) (fun he => ha.lenK ?_)
 · rw [decide_eq_false (fun e => hne (by rw [e]))]
 have hl : la.length = lb.length := by omega
 rw [List.length_map]
 refine ⟨fun n s => s = σ ∧ EqR la lb n, fun n _ => la.length - n.toNat, ⟨rfl, .start _ _⟩, ?_⟩
 rintro n s ⟨rfl, hr⟩
 refine bcd (fun hlt => ?_) (fun hge => ⟨?_, rfl⟩)
 · obtain ⟨j, x, y, rfl, hx, hy, hn, hy2⟩ := hr.step hl rfl hs hlt
   refine ha.load (map_get hx) c_int rfl ⟨x, rfl, hb.load (map_get hy) c_int rfl ⟨y, rfl, bcn (fun e => ⟨?_, rfl⟩) (fun e => andl rfl (hy2 e))⟩⟩
   rw [decide_eq_false (hn e)]
 · rw [decide_eq_true (hr.done hl rfl hge)]
theorem Contains_int_ok {d : D} {l : List Int} (v : Int) (h : At Tryz.prog σ t_int d (l.map Go.Fw.encI)) : Pure Tryz.prog n_slices_Contains_int [.one d, iA v] σ (.a (bA (inL l v))) := by
 refine W_slices_Contains_int d v σ _ ((slices_Index_int_ok v h).use ⟨_, rfl, ?_, rfl⟩)
 have key : ∀ (l : List Int) (j : Nat), decide (idxOf l v j ≥ 0) = inL l v := by
   intro l
   induction l with
   | nil => intro j; simp [idxOf, inL]
   | cons x r ih =>
     intro j
     rw [idxOf]
     by_cases hx : v = x
     · rw [if_pos hx]; simp [inL, hx]
     · rw [if_neg hx, ih, inL, inL]; simp [hx]
 rw [key]
def cflict (c : Cf) (a b : Int) : Bool := (c.lockL a).any fun s => inL (c.lockL b) s
theorem conf_Conflict_of {c0 c1 c2 c3 c4 : D} {c : Cf} {a b : Int} (hL : ∀ (s : Store) (i : Int), DCalls Tryz.prog n_conf_Locks [cfA c0 c1 c2 c3 c4 c, iA i] s (SlPost s t_int ((c.lockL i).map Go.Fw.encI))) :
   Fw.Pure Tryz.prog n_conf_Conflict [cfA c0 c1 c2 c3 c4 c, iA a, iA b] σ (.a (bA (cflict c a b))) := by
 refine .of (W_conf_Conflict _ _ _ _ _ _ _ _ _ a b σ _ ((hL σ b).mono ?_)) (flat_b _)
 rintro r s ⟨rfl, d, rfl, hd⟩
 refine ⟨d, rfl, newObj_intro fun id s1 hid _ he hs => pr_store hs (by simp) fun s2 hs2 ho2 => (hL s2 a).mono ?_⟩
 rintro r s3 ⟨rfl, d1, rfl, hd1⟩
 have hs2 : s3 id = .live t_sl_int [[d]] := hs2
 refine ⟨d1, rfl, (ContainsFunc_int_ok (hd1 s3) (p := fun x => inL (c.lockL b) x) ⟨n_conf_Conflict_1, _, _, [], [.one (.el (.osl id 0 1) 0 0)], rfl, rfl, rfl, fun x _ => ?_⟩).use ⟨_, rfl, rfl, ext_put he hid ho2⟩⟩
 exact W_conf_Conflict_1 x _ s3 _ ⟨_, _, _, rfl, _, box_row hs2, d, rfl, (Contains_int_ok x (hd s3)).use ⟨_, rfl, rfl, rfl⟩⟩
def litS : Cf := ⟨[⟨0, 0, 0⟩, ⟨1, 0, 0⟩, ⟨0, 0, 0⟩, ⟨0, 0, 0⟩, ⟨0, 0, 1⟩], [⟨0, 1, 1, 0⟩, ⟨1, 1, 2, 0⟩, ⟨1, 2, 3, 0⟩, ⟨2, 1, 4, 0⟩], [⟨0, 1⟩, ⟨2, 1⟩], [], [⟨0, 1, [⟨1, 0, 1⟩, ⟨2, 0, 1⟩], [], [], false⟩, ⟨1, -1, [⟨4, 0, 1⟩], [], [], false⟩], 2, 1, 4, 1000⟩
def sD0 : D := .sl 3 [[iD 0, iD 0, iD 0], [iD 1, iD 0, iD 0], [iD 0, iD 0, iD 0], [iD 0, iD 0, iD 0], [iD 0, iD 0, iD 1]]
def sD1 : D := .sl 4 [[iD 0, iD 1, iD 1, iD 0], [iD 1, iD 1, iD 2, iD 0], [iD 1, iD 2, iD 3, iD 0], [iD 2, iD 1, iD 4, iD 0]]
def sD2 : D := .sl 2 [[iD 0, iD 1], [iD 2, iD 1]]
def sD4 : D := .sl 6 [[iD 0, iD 1, .sl 3 [[iD 1, iD 0, iD 1], [iD 2, iD 0, iD 1]], .nils, .nils, .bool false], [iD 1, iD (-1), .sl 3 [[iD 4, iD 0, iD 1]], .nils, .nils, .bool false]]
theorem litS_at (s : Store) : CfAt s sD0 sD1 sD2 .nils sD4 litS :=
 ⟨at_lit c_Section (by simp), at_lit c_Joint (by simp), at_lit c_Signal (by simp), .nil, ⟨_, at_lit c_Route (by simp), rfl, fun i row r h1 h2 => by
   have hi : i = 0 ∨ i = 1 := by have := (List.getElem?_eq_some_iff.1 h1).1; simp at this; omega
   rcases hi with rfl | rfl
   · simp at h1; subst h1
     simp [litS] at h2; subst h2
     exact ⟨_, _, _, rfl, at_lit c_Step (by simp), .nil, .nil⟩
   · simp at h1; subst h1
     simp [litS] at h2; subst h2
     exact ⟨_, _, _, rfl, at_lit c_Step (by simp), .nil, .nil⟩⟩⟩
theorem litS_nz : RtsNz sD4 := by
 intro row hr
 simp only [List.mem_cons, List.not_mem_nil, or_false] at hr
 rcases hr with rfl | rfl <;> (intro e; cases e)
theorem litS_64 : cf64 litS := by
 constructor <;> simp [litS, rt64, i64]
theorem lockL0 : litS.lockL 0 = [1, 2] := by
 show Cf.lockR ⟨0, 1, [⟨1, 0, 1⟩, ⟨2, 0, 1⟩], [], [], false⟩ = [1, 2]
 rw [← insL_lockR]; decide +kernel
theorem litS_check : litS.check = 0 := by decide +kernel
theorem litS_len : (cfTxt litS).length ≤ 2 ^ 20 := by decide +kernel
theorem law06_small_ok : Pure Tryz.prog n_law06_small [] σ (.a (cfA sD0 sD1 sD2 .nils sD4 litS)) := W_law06_small σ _ ⟨rfl, rfl⟩
theorem law06_lives_ok : Pure Tryz.prog n_law06_lives [] σ (.a (bA true)) := by
 have hl := litS_len
 refine W_law06_lives σ _ (law06_small_ok.use ⟨_, _, _, _, _, _, _, _, _, rfl, (conf_Locks_ok litS_at litS_check litS_nz 0).mono ?_⟩)
 rintro r s ⟨rfl, d5, rfl, hd5⟩
 rw [lockL0] at hd5
 refine ⟨d5, rfl, (conf_Text_ok (litS_at s) litS_64 (by omega)).use ⟨_, rfl, (conf_Read_ok (text := baOf (cfTxt litS)) (by rw [baOf_size]; omega)).mono ?_⟩⟩
 rintro r s1 ⟨rfl, e0, e1, e2, e3, e4, rfl, he⟩
 rw [rdText_txt litS_64] at he ⊢
 refine ⟨_, _, _, _, _, _, _, _, _, _, rfl, (conf_Check_ok litS_at).use ⟨_, rfl, ?_⟩⟩
 rw [litS_check]
 refine bce (fun _ => (ref01_SameInts_ok (hd5 s1) (lb := [1, 2]) (at_lit c_int (by simp))).use ⟨_, rfl, bc (fun _ => bce (fun _ => (law06_same_ok (he s1) (litS_at s1) litS_64 litS_64 (by show (cfTxt litS).length ≤ _; omega) (by omega)).use ⟨_, rfl, bc (fun _ => (conf_Approach_ok (litS_at s1) 0).use ⟨_, rfl, ?_⟩) (fun e => ?_)⟩) (fun e => absurd rfl e)) (fun e => by cases e)⟩) (fun e => absurd rfl e)
 · rw [show litS.Approach 0 = 0 from by decide +kernel]
   refine bce (fun _ => (conf_Conflict_of (a := 0) (b := 0) fun s i => conf_Locks_ok litS_at litS_check litS_nz i).use ⟨_, rfl, ?_, rfl⟩) (fun e => absurd rfl e)
   have : cflict litS 0 0 = true := by unfold cflict; rw [lockL0]; rfl
   rw [this]
 · rw [show (some litS).getD noCf = litS from rfl, beq_self_eq_true] at e; cases e
end Go.Proofs.YtfdffboelecgoaaGreatDoor
end
namespace Go.Fw
section
variable {P : Program} {σ : Store}
def voidS : Store := fun _ => .free
end
end Go.Fw
section
set_option maxRecDepth 20000
namespace Go.Proofs.YtfdffboelecgoaaGreatDoor
open Go.Fw Go.Proofs Go.RowKit
variable {σ σ0 : Store}
def LawTrue (f : FuncId) (xs : List A) : Prop := DCalls Tryz.prog f xs noS fun r _ => r = .a (.one (.bool true))
end Go.Proofs.YtfdffboelecgoaaGreatDoor
end
section
set_option maxRecDepth 20000
namespace Go.Proofs.YtfdffboelecgoaaGreatDoor
open Go.Fw Go.Proofs Go.RowKit
variable {σ σ0 : Store}
def rtW8 (x : Rt) : Nat := 6 + 3 * x.Path.length + 2 * x.Flank.length + x.Overlap.length
def cfW (c : Cf) : Nat := 3 * c.Secs.length + 4 * c.Jts.length + 2 * c.Sigs.length + c.Xs.length + (c.Rts.map rtW8).sum
theorem say_len {w : List UInt8} : ∀ {ns : List Int}, (∀ n ∈ ns, i64 n) → (sayL w ns).length ≤ w.length + 22 * ns.length
 | [], _ => by rw [sayL_nil]; simp
 | n :: ns, h => by
   have h1 := itoa_len (h n (by simp))
   have h2 := say_len (w := w) (ns := ns) fun m hm => h m (by simp [hm])
   unfold sayL at h2 ⊢
   simp only [List.map_cons, List.flatten_cons, List.length_append, List.length_cons] at h2 ⊢
   omega
theorem cat_len {α : Type} {f : α → List UInt8} {g : α → Nat} : ∀ {l : List α}, (∀ a ∈ l, (f a).length ≤ g a) → (cat f l).length ≤ (l.map g).sum
 | [], _ => by simp [cat]
 | a :: l, h => by
   have h1 := h a (by simp)
   have h2 := cat_len (f := f) (g := g) (l := l) fun b hb => h b (by simp [hb])
   have e : cat f (a :: l) = f a ++ cat f l := rfl
   rw [e, List.length_append, List.map_cons, List.sum_cons]; omega
theorem sum_const {α : Type} (k : Nat) (l : List α) : (l.map fun _ => k).sum = k * l.length := by
 induction l with
 | nil => rfl
 | cons a l ih => rw [List.map_cons, List.sum_cons, ih, List.length_cons]; rw [Nat.mul_add]; omega
theorem sum_mul {α : Type} (k : Nat) (f : α → Nat) (l : List α) : (l.map fun a => k * f a).sum = k * (l.map f).sum := by
 induction l with
 | nil => rfl
 | cons a l ih => rw [List.map_cons, List.sum_cons, ih, List.map_cons, List.sum_cons, Nat.mul_add]
theorem cf_len {c : Cf} (h : cf64 c) : (cfTxt c).length ≤ 31 * cfW c + 95 := by
 have l0 : (cat secL c.Secs).length ≤ 74 * c.Secs.length := by
   rw [← sum_const 74 c.Secs]
   refine cat_len fun s hs => ?_
   obtain ⟨h1, h2, h3⟩ := h.secs s hs
   have := say_len (w := wSec) (ns := [s.Kind, s.OC, s.Line]) (at_nil3 h1 h2 h3)
   show (sayL wSec [s.Kind, s.OC, s.Line] ++ [10]).length ≤ 74
   rw [List.length_append]
   have e : wSec.length = 7 := rfl
   simp only [e, List.length_cons, List.length_nil] at this ⊢; omega
 have l1 : (cat jtL c.Jts).length ≤ 94 * c.Jts.length := by
   rw [← sum_const 94 c.Jts]
   refine cat_len fun s hs => ?_
   obtain ⟨h1, h2, h3, h4⟩ := h.jts s hs
   have := say_len (w := wJt) (ns := [s.A, s.AEnd, s.B, s.BEnd]) (at_nil4 h1 h2 h3 h4)
   show (sayL wJt [s.A, s.AEnd, s.B, s.BEnd] ++ [10]).length ≤ 94
   rw [List.length_append]
   have e : wJt.length = 5 := rfl
   simp only [e, List.length_cons, List.length_nil] at this ⊢; omega
 have l2 : (cat sgL c.Sigs).length ≤ 51 * c.Sigs.length := by
   rw [← sum_const 51 c.Sigs]
   refine cat_len fun s hs => ?_
   obtain ⟨h1, h2⟩ := h.sigs s hs
   have := say_len (w := wSg) (ns := [s.Sec, s.End_]) (at_nil2 h1 h2)
   show (sayL wSg [s.Sec, s.End_] ++ [10]).length ≤ 51
   rw [List.length_append]
   have e : wSg.length = 6 := rfl
   simp only [e, List.length_cons, List.length_nil] at this ⊢; omega
 have l3 : (cat xL c.Xs).length ≤ 31 * c.Xs.length := by
   rw [← sum_const 31 c.Xs]
   refine cat_len fun s hs => ?_
   have := say_len (w := wX) (ns := [s]) (fun n hn => by rw [List.mem_singleton.1 hn]; exact h.xs s hs)
   show (sayL wX [s] ++ [10]).length ≤ 31
   rw [List.length_append]
   have e : wX.length = 8 := rfl
   simp only [e, List.length_cons, List.length_nil] at this ⊢; omega
 have l4 : (cat rtL c.Rts).length ≤ 31 * (c.Rts.map rtW8).sum := by
   rw [← sum_mul 31 rtW8 c.Rts]
   refine cat_len fun x hx => ?_
   obtain ⟨h1, h2, h3, h4, h5⟩ := h.rts x hx
   have k1 := say_len (w := wRoute) (ns := [x.Entry, x.Exit, if x.Shunt then 1 else 0]) (at_nil3 h1 h2 (by split <;> exact ⟨by decide, by decide⟩))
   have k2 : (cat stL x.Path).length ≤ 66 * x.Path.length := by
     rw [← sum_const 66 x.Path]
     refine cat_len fun s hs => ?_
     obtain ⟨g1, g2, g3⟩ := h3 s hs
     have := say_len (w := []) (ns := [s.Sec, s.In, s.Out]) (at_nil3 g1 g2 g3)
     show (sayL [] [s.Sec, s.In, s.Out]).length ≤ 66
     simpa using this
   have k3 : (cat ndL x.Flank).length ≤ 44 * x.Flank.length := by
     rw [← sum_const 44 x.Flank]
     refine cat_len fun s hs => ?_
     obtain ⟨g1, g2⟩ := h4 s hs
     have := say_len (w := []) (ns := [s.Sec, s.Pos]) (at_nil2 g1 g2)
     show (sayL [] [s.Sec, s.Pos]).length ≤ 44
     simpa using this
   have k4 := say_len (w := wOver) (ns := x.Overlap) h5
   have e1 : wRoute.length = 5 := rfl
   have e2 : wPath.length = 5 := rfl
   have e3 : wFlank.length = 6 := rfl
   have e4 : wOver.length = 8 := rfl
   unfold rtL lineL rtW8
   simp only [List.length_append, List.length_cons, List.length_nil] at k1 ⊢
   omega
 obtain ⟨t1, t2, t3, t4⟩ := h.tim
 have l5 := say_len (w := wTim) (ns := [c.Age, c.Brake, c.Hold, c.Budget]) (at_nil4 t1 t2 t3 t4)
 have e : wTim.length = 6 := rfl
 have l6 : (timL c).length ≤ 95 := by
   show (sayL wTim [c.Age, c.Brake, c.Hold, c.Budget] ++ [10]).length ≤ 95
   rw [List.length_append]
   simp only [e, List.length_cons, List.length_nil] at l5 ⊢; omega
 unfold cfTxt cfW
 simp only [List.length_append]
 omega
theorem wt_rows {α : Type} {enc : α → List D} {k : Nat} (hk : ∀ a, wtL (enc a) = k) : ∀ l : List α, wtLL (l.map enc) = k * l.length
 | [] => by simp [wtLL]
 | a :: l => by rw [List.map_cons, wtLL, hk, wt_rows hk l, List.length_cons, Nat.mul_add]; omega
theorem wt_at {el : TypeId} {d : D} {rows : List (List D)} (h : ∀ s, At Tryz.prog s el d rows) : 1 + wtLL rows ≤ wtD d := by
 have hx := (h voidS).rows
 cases d <;> simp only [Go.Fw.Rows] at hx <;> try exact hx.elim
 · subst hx; simp [wtLL, wtD]
 · subst hx; simp [wtLL, wtD]
 · obtain ⟨rfl, _⟩ := hx; simp only [wtD]; omega
 · obtain ⟨t, rows', h1, _⟩ := hx; cases h1
theorem cf_wt {c0 c1 c2 c3 c4 : D} {c : Cf} (h : ∀ s, CfAt s c0 c1 c2 c3 c4 c) : cfW c ≤ wtA (cfA c0 c1 c2 c3 c4 c) := by
 have h0 := (wt_at fun s => (h s).secs)
 have h1 := (wt_at fun s => (h s).jts)
 have h2 := (wt_at fun s => (h s).sigs)
 have h3 := (wt_at fun s => (h s).xs)
 rw [wt_rows (k := 3) (fun a => rfl)] at h0
 rw [wt_rows (k := 4) (fun a => rfl)] at h1
 rw [wt_rows (k := 2) (fun a => rfl)] at h2
 rw [wt_rows (k := 1) (fun a => rfl)] at h3
 obtain ⟨rows, hat, hlen, hrow⟩ := rts_froz fun s => (h s).rts
 have h4 := wt_at hat
 have key : ∀ (rows : List (List D)) (l : List Rt), rows.length = l.length → (∀ (i : Nat) row x, rows[i]? = some row → l[i]? = some x → rtW8 x ≤ wtL row) → (l.map rtW8).sum ≤ wtLL rows := by
   intro rows
   induction rows with
   | nil => intro l hl _; rw [List.length_eq_zero_iff.1 hl.symm]; simp
   | cons row rows ih =>
     intro l hl hr
     cases l with
     | nil => simp
     | cons x l =>
       have a := hr 0 row x rfl rfl
       have b := ih l (by simpa using hl) fun i r y h1 h2 => hr (i + 1) r y (by simpa using h1) (by simpa using h2)
       rw [List.map_cons, List.sum_cons, wtLL]; omega
 have h5 := key rows c.Rts hlen fun i row x hi hx => by
   obtain ⟨d1, d2, d3, rfl, q1, q2, q3⟩ := hrow i row x hi hx
   have a1 := wt_at q1
   have a2 := wt_at q2
   have a3 := wt_at q3
   rw [wt_rows (k := 3) (fun a => rfl)] at a1
   rw [wt_rows (k := 2) (fun a => rfl)] at a2
   rw [wt_rows (k := 1) (fun a => rfl)] at a3
   show rtW8 x ≤ 1 + (1 + (wtD d1 + (wtD d2 + (wtD d3 + (1 + 0)))))
   unfold rtW8
   omega
 show cfW c ≤ wtD c0 + (wtD c1 + (wtD c2 + (wtD c3 + (wtD c4 + (1 + (1 + (1 + (1 + 0))))))))
 unfold cfW
 omega
theorem cfI_64 {c : Cf} (h : CfI c) : cf64 c :=
 ⟨h.secs, h.jts, h.sigs, h.xs, fun r hr => ⟨(h.rts r hr).entry, (h.rts r hr).exit, (h.rts r hr).path, (h.rts r hr).flank, (h.rts r hr).over⟩, h.age, h.brake, h.hold, h.budget⟩
theorem law06_ConfChecks_ok {xs : List A} (h : TyAs Tryz.prog [t_Config] xs) (hs : (xs.map wtA).sum ≤ 1048576) : LawTrue n_law06_ConfChecks xs := by
 obtain ⟨a0, xs, rfl, h0, hr0⟩ := tys_cons h
 obtain rfl := tys_nil hr0
 obtain ⟨cs, _, rfl, p0⟩ := tya_agg h0 (by kernel_rfl)
 obtain ⟨c0, c1, c2, c3, c4, c, rfl, hc, hci, hz⟩ := ty_ConfigZ p0
 clear h h0 hr0 p0
 have hw : cfW c ≤ wtA (.agg [c0, c1, c2, c3, c4, iD c.Age, iD c.Brake, iD c.Hold, iD c.Budget]) := cf_wt hc
 simp only [List.map_cons, List.map_nil, List.sum_cons, List.sum_nil] at hs
 have h64 := cfI_64 hci
 have hlen := cf_len h64
 have ht : (cfTxt c).length ≤ 2 ^ 46 := by omega
 refine W_law06_ConfChecks _ _ _ _ _ _ _ _ _ noS _ (law06_lives_ok.use ⟨true, rfl, bcnot (fun e => by cases e) (fun _ => (ref06_Text_ok (hc noS) h64 ht).use ⟨_, rfl, (conf_Check_ok hc).use ⟨_, rfl, (ref06_Check_ok hc).use ⟨_, rfl, bce (fun _ => (ref06_Text_ok (hc noS) h64 ht).use ⟨_, rfl, ?_⟩) (fun e => absurd rfl e)⟩⟩⟩)⟩)
 rw [beq_self_eq_true]
end Go.Proofs.YtfdffboelecgoaaGreatDoor
end
