/-
  Proofs that the statement of this claim leans on: part 6.
-/
import Derived.Test.YtpanpagcgckeoaaGreatP5
section
set_option linter.unusedVariables false
set_option linter.unusedSimpArgs false
namespace Go.Proofs.YtpanpagcgckeoaaGreat
open Go.Fw Go.Proofs Go.RowKit
variable {σ σ0 : Store}
theorem live_idOf'' {s : Store} {el : TypeId} {d : D} {rs : List (List D)} (h : At Tryz.prog s el d rs) {i : Nat} (hi : idOf d = some i) : s i ≠ .free := by
  cases d with
  | osl id a n =>
    have e : id = i := by simpa [idOf] using hi
    subst e
    obtain ⟨t, rows, g1, _⟩ := h.rows
    rw [g1]; intro e; cases e
  | _ => simp [idOf] at hi
abbrev pO (id : Nat) : D := .el (.osl id 0 1) 0 0
structure WrIn (σ0 s : Store) (id : Nat) (w : Wr) : Prop where
  new : σ0 id = .free
  cell : ∃ d, s id = .live t_pack_Writer [[iD w.e, d, iD w.lim]] ∧ Own Tryz.prog σ0 s t_uint8 d (w.out.map encU) ∧ idOf d ≠ some id
theorem WrIn.ext {s : Store} {id : Nat} {w : Wr} (h : WrIn σ0 s id w) : Ext σ0 s := by
  obtain ⟨d, _, h, _⟩ := h.cell; exact h.ext
theorem WrIn.ext' {s s' : Store} {id : Nat} {w : Wr} (h : WrIn σ0 s id w) (he : Ext s s') : WrIn σ0 s' id w := by
  obtain ⟨d, h1, h2, h3⟩ := h.cell
  exact ⟨h.new, d, by rw [he id (by rw [h1]; intro e; cases e)]; exact h1, h2.ext' he, h3⟩
theorem pack_New_ok (n : Int) (hn : 0 ≤ n) : DCalls Tryz.prog n_pack_New [iA n] σ fun r s => ∃ id, r = .a (.one (pO id)) ∧ WrIn σ s id ⟨0, [], n⟩ := by
  refine W_pack_New n σ _ (newObj_intro fun id s hid _ he hs => ?_)
  rw [if_neg (by omega)] at hs
  exact ⟨id, rfl, hid, .nils, hs, .nil _ he, by intro e; cases e⟩
theorem trouble_note_ok {s : Store} {id : Nat} {t : TypeId} {e : Int} {rest : List D} (h : s id = .live t [iD e :: rest]) (x : Int) :
    DCalls Tryz.prog n_pack_trouble_note [.one (pO id), iA x] s fun r s' => r = .tup [] ∧ s' id = .live t [iD (if e = 0 then x else e) :: rest] ∧ ∀ i, i ≠ id → s' i = s i := by
  refine W_pack_trouble_note (pO id) x s _ ⟨trivial, _, _, _, rfl, _, box_row h, e, rfl, bce (fun e0 => ⟨trivial, _, _, _, rfl, cell_store h (by simp) fun s' hs ho => ⟨rfl, ?_, ho⟩⟩) (fun e0 => ⟨rfl, by rw [if_neg e0]; exact h, fun _ _ => rfl⟩)⟩
  rw [hs, if_pos e0]; rfl
theorem trouble_well_ok {s : Store} {id : Nat} {t : TypeId} {e : Int} {rest : List D} (h : s id = .live t [iD e :: rest]) :
    Pure Tryz.prog n_pack_trouble_well [.one (pO id)] s (.a (bA (e == 0))) :=
  W_pack_trouble_well (pO id) s _ ⟨trivial, _, _, _, rfl, _, box_row h, e, rfl, rfl, rfl⟩
theorem Writer_put_ok {s : Store} {id : Nat} {w : Wr} (h : WrIn σ0 s id w) {b : D} {l : List UInt8} (hb : At Tryz.prog s t_uint8 b (l.map encU)) (hs : w.out.length + l.length ≤ 2 ^ 40) (hlim : 0 ≤ w.lim ∧ w.lim ≤ 2 ^ 60) :
    DCalls Tryz.prog n_pack_Writer_put [.one (pO id), .one b] s fun r s' => r = .tup [] ∧ WrIn σ0 s' id (w.put l) := by
  obtain ⟨hn, d, h1, h2, h3⟩ := h
  -- bytes are laid on, where all has been well
  have lay : ∀ (s1 : Store) (e : Int), s1 id = .live t_pack_Writer [[iD e, d, iD w.lim]] → (∀ i, i ≠ id → s1 i = s i) → e = 0 →
      ((NotNil (pO id)) ∧ ∃ (s4 : D) (i4 off4 : Nat), (pO id = (.el s4 i4 off4 : D)) ∧ ∃ row2 : List D, Row s1 s4 i4 row2 ∧ ∃ d1 : D, ((List.drop (off4 + 1) row2).take 1 = [d1]) ∧ appendTo Tryz.prog s1 t_uint8 1 d1 b fun d2 s2 =>
        (NotNil (pO id)) ∧ ∃ (s5 : D) (i5 off5 : Nat), (pO id = (.el s5 i5 off5 : D)) ∧ storeEl [d2] s2 s5 i5 (off5 + 1) fun s3 => (RV.tup [] = RV.tup [] ∧ WrIn σ0 s3 id ⟨e, w.out ++ l, w.lim⟩)) := by
    intro s1 e hs1 ho1 he
    have hd1 : Own Tryz.prog σ0 s1 t_uint8 d (w.out.map encU) := own_other h2 hn h3 ho1
    have hb1 : At Tryz.prog s1 t_uint8 b (l.map encU) := hb.same fun i a m e => ho1 i fun e2 => by
      subst e
      obtain ⟨t, rows, g1, g2, g3, g4⟩ := hb.rows
      rw [e2, h1] at g1
      injection g1 with g1 _
      rw [← g1] at g2
      rw [c_pack_Writer, c_uint8] at g2
      cases g2
    refine ⟨trivial, _, _, _, rfl, _, box_row hs1, d, rfl, hd1.append hb1 (by simp; omega) (by simp; omega) fun d2 s2 o2 k2 i2 => ⟨trivial, _, _, _, rfl, ?_⟩⟩
    have hs2 : s2 id = .live t_pack_Writer [[iD e, d, iD w.lim]] := by
      rw [k2 id (by rw [hs1]; intro e; cases e) (fun a b e => h3 (by rw [e]; rfl)), hs1]
    have hd2 : idOf d2 ≠ some id := fun hi => by
      cases d2 with
      | osl j a m =>
        have : j = id := by simpa [idOf] using hi
        subst this
        rcases i2 j a m rfl with g | ⟨a', b', g⟩
        · rw [hs1] at g; cases g
        · exact h3 (by rw [g]; rfl)
      | _ => simp [idOf] at hi
    rw [← List.map_append] at o2
    refine cell_store hs2 (by simp) fun s3 hs3 ho3 => ⟨rfl, hn, d2, by rw [hs3]; rfl, own_other o2 hn hd2 ho3, hd2⟩
  have hl := hb.size
  have ho := h2.at_.size
  rw [List.length_map] at hl ho
  have hrow : s id = .live t_pack_Writer [iD w.e :: [d, iD w.lim]] := h1
  refine W_pack_Writer_put (pO id) b s _ (hb.lenK ⟨trivial, _, _, _, rfl, _, box_row h1, w.lim, rfl, trivial, _, _, _, rfl, _, box_row h1, d, rfl, h2.at_.lenK ?_⟩)
  rw [List.length_map, List.length_map, w64_id (by omega) (by omega)]
  unfold Wr.put
  refine bcd (fun hg => ?_) (fun hg => ?_)
  · simp only [gt_iff_lt] at hg
    rw [if_pos (show (l.length : Int) > w.lim - w.out.length from hg)]
    refine ⟨trivial, _, _, _, rfl, (trouble_note_ok hrow 2).mono ?_⟩
    rintro r s1 ⟨rfl, hs1, ho1⟩
    have hnote : (w.note 2) = ⟨if w.e = 0 then 2 else w.e, w.out, w.lim⟩ := by unfold Wr.note; split <;> rfl
    refine ⟨rfl, trivial, _, _, _, rfl, (trouble_well_ok hs1).use ⟨_, rfl, ?_⟩⟩
    have hne : (if w.e = 0 then (2 : Int) else w.e) ≠ 0 := by split <;> omega
    rw [show ((if w.e = 0 then (2 : Int) else w.e) == 0) = false from by simpa using hne]
    refine bc (fun e => by cases e) (fun _ => ⟨rfl, ?_⟩)
    simp only [hnote]
    rw [if_neg hne]
    exact ⟨hn, d, hs1, own_other h2 hn h3 ho1, h3⟩
  · simp only [gt_iff_lt] at hg
    rw [if_neg (show ¬ ((l.length : Int) > w.lim - w.out.length) from hg)]
    refine ⟨trivial, _, _, _, rfl, (trouble_well_ok hrow).use ⟨_, rfl, bce (fun e0 => ?_) (fun e0 => ⟨rfl, ?_⟩)⟩⟩
    · have := lay s w.e h1 (fun _ _ => rfl) e0
      simp only [e0, if_true] at this ⊢
      exact this
    · simp only
      rw [if_neg e0]
      exact ⟨hn, d, h1, h2, h3⟩
theorem wu64 {n : Int} (h0 : 0 ≤ n) (h1 : n < 2 ^ 63) : IntKind.wrap .u64 n = n := by
  show n % 18446744073709551616 = n
  omega
theorem WrIn.newList {s : Store} {id : Nat} {w : Wr} (h : WrIn σ0 s id w) {i : Nat} {so : SO} (hi : s i = .free) (hso : so ≠ .free) :
    ∃ τ, WrIn τ (s.set i so) id w ∧ Ext σ0 τ ∧ τ i = so := by
  obtain ⟨hn, d, h1, h2, h3⟩ := h
  have hne : i ≠ id := fun e => by rw [e, h1] at hi; cases hi
  have hd : idOf d ≠ some i := fun e => live_idOf'' h2.at_ e hi
  have he : Ext s (s.set i so) := Ext.new hi so
  have h2' := h2.ext' he
  refine ⟨fun j => if j = id ∨ idOf d = some j then .free else (s.set i so) j, ⟨by simp, d, ?_, ⟨h2'.at_, fun j hj => ?_, fun j a b e => ?_, h2.nsl, h2.nz⟩, h3⟩, fun j hj => ?_, ?_⟩
  · rw [Store.set_ne _ _ (Ne.symm hne)]; exact h1
  · by_cases hc : j = id ∨ idOf d = some j
    · exact absurd (if_pos hc) hj
    · exact (if_neg hc).symm
  · subst e; simp [idOf]
  · have c1 : j ≠ id := fun e => hj (by rw [e]; exact hn)
    have c2 : idOf d ≠ some j := fun e => hj (own_id h2 e)
    exact (if_neg (show ¬ (j = id ∨ idOf d = some j) from fun g => g.elim c1 c2)).trans (h2'.ext j hj)
  · exact (if_neg (show ¬ (i = id ∨ idOf d = some i) from fun g => g.elim hne hd)).trans (Store.set_same _ _ _)
theorem Writer_fixed_ok {s : Store} {id : Nat} {w : Wr} (h : WrIn σ0 s id w) {k : Nat} (hk : 1 ≤ k ∧ k ≤ 4) {d : D} {ns : List Int} (hd : At Tryz.prog σ0 t_int d (ns.map Go.Fw.encI)) (hs : w.out.length + 4 * ns.length ≤ 2 ^ 40) (hlim : 0 ≤ w.lim ∧ w.lim ≤ 2 ^ 60) (bits : Int) (hb : bits = 8 * k) :
    DCalls Tryz.prog n_pack_Writer_fixed [.one (pO id), iA bits, .one d] s fun r s' => r = .tup [] ∧ WrIn σ0 s' id (ns.foldl (fun w n => w.num k n) w) := by
  have hl := hd.size
  rw [List.length_map] at hl
  have hfl : ∀ (l : List Int) (w : Wr), (l.foldl (fun w n => w.num k n) w).out.length ≤ w.out.length + k * l.length ∧ (l.foldl (fun w n => w.num k n) w).lim = w.lim := by
    intro l
    induction l with
    | nil => intro w; simp
    | cons n l ih =>
      intro w
      have h1 := ih (w.num k n)
      have h2 := w.num_out k n
      rw [List.foldl_cons]
      refine ⟨Nat.le_trans h1.1 ?_, h1.2.trans h2.2⟩
      rw [List.length_cons, Nat.mul_add]; omega
  refine W_pack_Writer_fixed (pO id) bits d s _ ((hd.ext h.ext).lenK ⟨fun n s' => ∃ j : Nat, n = j ∧ j ≤ ns.length ∧ WrIn σ0 s' id ((ns.take j).foldl (fun w n => w.num k n) w), fun n _ => ns.length - n.toNat, ⟨0, rfl, by omega, h⟩, ?_⟩)
  rintro _ s' ⟨j, rfl, hj, hw⟩
  rw [List.length_map]
  refine bcd (fun hlt => ?_) (fun hge => ?_)
  rotate_left
  · have e : j = ns.length := by omega
    subst e
    rw [List.take_length] at hw
    exact ⟨rfl, hw⟩
  have hlt : j < ns.length := by omega
  obtain ⟨x, hx⟩ := get_of_lt (l := ns) (j := j) hlt
  have htake : (ns.take (j + 1)).foldl (fun w n => w.num k n) w = ((ns.take j).foldl (fun w n => w.num k n) w).num k x := by
    rw [List.take_add_one, hx, Option.toList_some, List.foldl_append]; rfl
  have hout := hfl (ns.take j) w
  generalize (ns.take j).foldl (fun w n => w.num k n) w = w1 at *
  have hol : w1.out.length + 4 ≤ 2 ^ 40 := by
    have := hout.1
    rw [List.length_take, Nat.min_eq_left hj] at this
    have h4 : k * j ≤ 4 * j := Nat.mul_le_mul_right _ hk.2
    omega
  refine (hd.ext hw.ext).load (map_get hx) c_int rfl ⟨x, rfl, ?_⟩
  intro R hR
  -- the bytes, behind what was noted
  have go : ∀ s1, WrIn σ0 s1 id (if x < 0 ∨ x.fdiv (2 ^ (8 * k)) ≠ 0 then w1.note 32 else w1) → R s1 := fun s1 hw1 => hR s1 (by
    have hnote : ∀ c : Prop, [Decidable c] → (if c then w1.note 32 else w1).out = w1.out ∧ (if c then w1.note 32 else w1).lim = w1.lim := fun c _ => by
      split
      · exact w1.note_out 32
      · exact ⟨rfl, rfl⟩
    have hn2 := hnote (x < 0 ∨ x.fdiv (2 ^ (8 * k)) ≠ 0)
    refine ⟨fun d2 n2 s2 => ∃ (m : Nat) (p : List UInt8), m ≤ k ∧ n2 = 8 * m - 8 ∧ p ++ be m x = be k x ∧ Own Tryz.prog s1 s2 t_uint8 d2 (p.map encU), fun _ n2 _ => (n2 + 8).toNat, ⟨k, [], Nat.le_refl _, by rw [hb, w64_id (by omega) (by omega)], rfl, .nil _ (.refl _)⟩, ?_⟩
    rintro d2 _ s2 ⟨m, p, hm, rfl, hp, ho⟩
    have hpl : p.length + m = k := by
      have := congrArg List.length hp
      rwa [List.length_append, be_len, be_len] at this
    refine bcd (fun hge0 => ?_) (fun hlt0 => ?_)
    · obtain ⟨m', rfl⟩ : ∃ m', m = m' + 1 := ⟨m - 1, by omega⟩
      rw [wu64 (by omega) (by omega)]
      refine ⟨by omega, newObj_intro fun i3 s3 hi3 _ he3 hs3 => (ho.ext' he3).append (At.fresh (rs := [encU (byteAt x (8 * m'))]) (by rw [hs3, byteAt_enc, show min (8 * ((m' + 1 : Nat) : Int) - 8).toNat 64 = 8 * m' by omega]) (by simp) rfl) (by simp; omega) (by simp; omega) fun d3 s4 o4 _ _ => ?_⟩
      rw [w64_id (by omega) (by omega)]
      have e1 : p.map encU ++ [encU (byteAt x (8 * m'))] = (p ++ [byteAt x (8 * m')]).map encU := by simp
      rw [e1] at o4
      refine ⟨⟨m', p ++ [byteAt x (8 * m')], by omega, by omega, ?_, o4⟩, by show (8 * ((m' + 1 : Nat) : Int) - 8 - 8 + 8).toNat < (8 * ((m' + 1 : Nat) : Int) - 8 + 8).toNat; omega⟩
      rw [← hp, be, List.append_assoc]; rfl
    · have hm0 : m = 0 := by omega
      subst hm0
      rw [be, List.append_nil] at hp
      subst hp
      refine (Writer_put_ok (hw1.ext' ho.ext) ho.at_ (by rw [hn2.1, be_len]; omega) (by rw [hn2.2, hout.2]; exact hlim)).mono ?_
      rintro r s3 ⟨rfl, hw3⟩
      refine ⟨rfl, ?_⟩
      rw [w64_succ (by omega)]
      refine ⟨⟨j + 1, rfl, hlt, ?_⟩, dec_lt hlt⟩
      rw [htake]; exact hw3)
  have note : ∀ c : x < 0 ∨ x.fdiv (2 ^ (8 * k)) ≠ 0, (NotNil (pO id)) ∧ ∃ (s : D) (i off : Nat), (pO id = (.el s i off : D)) ∧ DCalls Tryz.prog n_pack_trouble_note [.one (.el s i (off + 0)), iA 32] s' fun r s1 => (r = .tup []) ∧ R s1 := fun c => by
    obtain ⟨hn, wd, h1, h2, h3⟩ := hw
    refine ⟨trivial, _, _, _, rfl, (trouble_note_ok (e := w1.e) (rest := [wd, iD w1.lim]) h1 32).mono ?_⟩
    rintro r s1 ⟨rfl, hs1, ho1⟩
    refine ⟨rfl, go s1 ?_⟩
    rw [if_pos c]
    have hnote : (w1.note 32) = ⟨if w1.e = 0 then 32 else w1.e, w1.out, w1.lim⟩ := by unfold Wr.note; split <;> rfl
    rw [hnote]
    exact ⟨hn, wd, hs1, own_other h2 hn h3 ho1, h3⟩
  refine bcd (fun hneg => note (.inl hneg)) (fun hnn => ?_)
  have hsh : Int.fdiv x (2 ^ (min (IntKind.wrap .u64 bits).toNat 64)) = x.fdiv (2 ^ (8 * k)) := by
    rw [wu64 (by omega) (by omega)]
    congr 2; omega
  rw [hsh]
  refine ⟨by rw [wu64 (by omega) (by omega)]; omega, bcn (fun hf => note (.inr hf)) (fun hf => go s' ?_)⟩
  rw [if_neg (by rintro (c | c); · omega
                 · exact c hf)]
  exact hw
theorem Writer_Byte_ok {s : Store} {id : Nat} {w : Wr} (h : WrIn σ0 s id w) {d : D} {ns : List Int} (hd : At Tryz.prog σ0 t_int d (ns.map Go.Fw.encI)) (hs : w.out.length + 4 * ns.length ≤ 2 ^ 40) (hlim : 0 ≤ w.lim ∧ w.lim ≤ 2 ^ 60) :
    DCalls Tryz.prog n_pack_Writer_Byte [.one (pO id), .one d] s fun r s' => r = .tup [] ∧ WrIn σ0 s' id (ns.foldl (fun w n => w.num 1 n) w) :=
  W_pack_Writer_Byte _ d s _ ((Writer_fixed_ok h (k := 1) (by omega) hd hs hlim 8 rfl).mono fun r s' ⟨h1, h2⟩ => ⟨h1, rfl, h2⟩)
theorem Writer_Word_ok {s : Store} {id : Nat} {w : Wr} (h : WrIn σ0 s id w) {d : D} {ns : List Int} (hd : At Tryz.prog σ0 t_int d (ns.map Go.Fw.encI)) (hs : w.out.length + 4 * ns.length ≤ 2 ^ 40) (hlim : 0 ≤ w.lim ∧ w.lim ≤ 2 ^ 60) :
    DCalls Tryz.prog n_pack_Writer_Word [.one (pO id), .one d] s fun r s' => r = .tup [] ∧ WrIn σ0 s' id (ns.foldl (fun w n => w.num 2 n) w) :=
  W_pack_Writer_Word _ d s _ ((Writer_fixed_ok h (k := 2) (by omega) hd hs hlim 16 rfl).mono fun r s' ⟨h1, h2⟩ => ⟨h1, rfl, h2⟩)
theorem Writer_Long_ok {s : Store} {id : Nat} {w : Wr} (h : WrIn σ0 s id w) {d : D} {ns : List Int} (hd : At Tryz.prog σ0 t_int d (ns.map Go.Fw.encI)) (hs : w.out.length + 4 * ns.length ≤ 2 ^ 40) (hlim : 0 ≤ w.lim ∧ w.lim ≤ 2 ^ 60) :
    DCalls Tryz.prog n_pack_Writer_Long [.one (pO id), .one d] s fun r s' => r = .tup [] ∧ WrIn σ0 s' id (ns.foldl (fun w n => w.num 4 n) w) :=
  W_pack_Writer_Long _ d s _ ((Writer_fixed_ok h (k := 4) (by omega) hd hs hlim 32 rfl).mono fun r s' ⟨h1, h2⟩ => ⟨h1, rfl, h2⟩)
theorem Writer_Done_ok {s : Store} {id : Nat} {w : Wr} (h : WrIn σ0 s id w) :
    Pure Tryz.prog n_pack_Writer_Done [.one (pO id)] s (.tup [.one (.str (ofL (if w.e = 0 then w.out else []))), iA w.e]) := by
  obtain ⟨hn, d, h1, h2, h3⟩ := h
  have hrow : s id = .live t_pack_Writer [iD w.e :: [d, iD w.lim]] := h1
  refine W_pack_Writer_Done (pO id) s _ ⟨trivial, _, _, _, rfl, (trouble_well_ok hrow).use ⟨_, rfl, bcnot (fun e => ?_) (fun e => ?_)⟩⟩
  · have hne : w.e ≠ 0 := by simpa using e
    refine ⟨trivial, _, _, _, rfl, _, box_row h1, w.e, rfl, ?_⟩
    rw [if_neg hne]; exact ⟨rfl, rfl⟩
  · have he : w.e = 0 := by simpa using e
    refine ⟨trivial, _, _, _, rfl, _, box_row h1, d, rfl, ofL w.out, ?_, ?_⟩
    · rw [bytesD_ofL]; exact h2.at_.rows
    · rw [if_pos he, he]; exact ⟨rfl, rfl⟩
def RdIn (s : Store) (id : Nat) (r : Rd) : Prop := s id = .live t_pack_Reader [[iD r.e, .str (ofL r.l)]]
theorem pack_Read_ok (l : List UInt8) : DCalls Tryz.prog n_pack_Read [.one (.str (ofL l))] σ fun r s => ∃ id, r = .a (.one (pO id)) ∧ σ id = .free ∧ RdIn s id ⟨0, l⟩ ∧ Ext σ s ∧ ∀ i, i ≠ id → s i = σ i :=
  W_pack_Read _ σ _ (newObj_intro fun id s hid hset he hs => ⟨id, rfl, hid, hs, he, fun i hi => by rw [hset, Store.set_ne _ _ hi]⟩)
theorem Reader_take_ok {s : Store} {id : Nat} {r : Rd} (h : RdIn s id r) {n : Nat} (hn : n ≤ 2 ^ 20) (hl : r.l.length ≤ 2 ^ 60) :
    DCalls Tryz.prog n_pack_Reader_take [.one (pO id), iA 0, iA n] s fun rr s' => rr = .a (.one (.str (ofL (if (r.short n).e = 0 then r.l.take n else [])))) ∧
      RdIn s' id (if (r.short n).e = 0 then ⟨0, r.l.drop n⟩ else r.short n) ∧ ∀ i, i ≠ id → s' i = s i := by
  -- behind what was noted
  have rest : ∀ (s1 : Store) (q : Rd), RdIn s1 id q → (∀ i, i ≠ id → s1 i = s i) → q = r.short n → (q.e = 0 → n ≤ q.l.length) →
      DCalls Tryz.prog n_pack_trouble_well [.one (pO id)] s1 fun r1 s2 => ∃ b, r1 = .a (bA b) ∧ bcase (!b) (RV.a (.one (.str (ByteArray.mk (List.toArray [])))) = .a (.one (.str (ofL (if (r.short n).e = 0 then r.l.take n else [])))) ∧
        RdIn s2 id (if (r.short n).e = 0 then ⟨0, r.l.drop n⟩ else r.short n) ∧ ∀ i, i ≠ id → s2 i = s i)
        ((NotNil (pO id)) ∧ ∃ (s3 : D) (i2 off2 : Nat), (pO id = (.el s3 i2 off2 : D)) ∧ ∃ row1 : List D, Row s2 s3 i2 row1 ∧ ∃ s4 : ByteArray, ((List.drop (off2 + 1) row1).take 1 = [.str s4]) ∧ ((0 : Int) ≤ 0) ∧ ((0 : Int) ≤ (w64 (0 + (n : Int)))) ∧ ((w64 (0 + (n : Int))) ≤ (ByteArray.size s4 : Int)) ∧
          (NotNil (pO id)) ∧ ∃ (s5 : D) (i3 off3 : Nat), (pO id = (.el s5 i3 off3 : D)) ∧ ∃ row2 : List D, Row s2 s5 i3 row2 ∧ ∃ s6 : ByteArray, ((List.drop (off3 + 1) row2).take 1 = [.str s6]) ∧ ((0 : Int) ≤ (w64 (0 + (n : Int)))) ∧ ((w64 (0 + (n : Int))) ≤ (ByteArray.size s6 : Int)) ∧
          (NotNil (pO id)) ∧ ∃ (s7 : D) (i4 off4 : Nat), (pO id = (.el s7 i4 off4 : D)) ∧ storeEl [.str (ByteArray.extract s6 (Int.toNat (w64 (0 + (n : Int)))) (ByteArray.size s6))] s2 s7 i4 (off4 + 1) fun s' =>
            (RV.a (.one (.str (ByteArray.extract s4 (Int.toNat 0) (Int.toNat (w64 (0 + (n : Int))))))) = .a (.one (.str (ofL (if (r.short n).e = 0 then r.l.take n else [])))) ∧
            RdIn s' id (if (r.short n).e = 0 then ⟨0, r.l.drop n⟩ else r.short n) ∧ ∀ i, i ≠ id → s' i = s i)) := by
    intro s1 q hq ho hqe hql
    refine (trouble_well_ok hq).use ⟨_, rfl, bcnot (fun e => ?_) (fun e => ?_)⟩
    · have hne : (r.short n).e ≠ 0 := by rw [← hqe]; simpa using e
      rw [if_neg hne, if_neg hne, ← hqe]
      exact ⟨rfl, hq, ho⟩
    · have he : q.e = 0 := by simpa using e
      have hlq := hql he
      have hqr : q.l = r.l := by rw [hqe, Rd.short_l]
      have hw : w64 (0 + (n : Int)) = n := by rw [w64_id (by omega) (by omega)]; omega
      rw [hw, if_pos (by rw [← hqe]; exact he), if_pos (by rw [← hqe]; exact he)]
      refine ⟨trivial, _, _, _, rfl, _, box_row hq, ofL q.l, rfl, by omega, by omega, by rw [size_ofL]; omega, trivial, _, _, _, rfl, _, box_row hq, ofL q.l, rfl, by omega, by rw [size_ofL]; omega, trivial, _, _, _, rfl, cell_store hq (by simp) fun s' hs' ho' => ⟨?_, ?_, fun i hi => (ho' i hi).trans (ho i hi)⟩⟩
      · rw [Int.toNat_natCast, extract_ofL, hqr]; rfl
      · unfold RdIn
        rw [hs', Int.toNat_natCast, size_ofL, extract_ofL, List.take_length, hqr, he]
        rfl
  refine W_pack_Reader_take (pO id) 0 n s _ ⟨trivial, _, _, _, rfl, _, box_row h, ofL r.l, rfl, ?_⟩
  rw [size_ofL, w64_id (by omega) (by omega)]
  refine bcd (fun hg => ?_) (fun hg => ?_)
  · simp only [gt_iff_lt] at hg
    have hsh : r.short n = ⟨if r.e = 0 then 1 else r.e, r.l⟩ := by
      unfold Rd.short
      rw [if_pos (by omega)]
      split <;> rfl
    refine ⟨trivial, _, _, _, rfl, (trouble_note_ok (e := r.e) (rest := [.str (ofL r.l)]) h 1).mono ?_⟩
    rintro r1 s1 ⟨rfl, hs1, ho1⟩
    refine ⟨rfl, trivial, _, _, _, rfl, rest s1 ⟨if r.e = 0 then 1 else r.e, r.l⟩ hs1 ho1 hsh.symm fun e => ?_⟩
    simp only at e
    split at e
    · cases e
    · rename_i hc; exact absurd e hc
  · simp only [gt_iff_lt] at hg
    have hsh : r.short n = r := by unfold Rd.short; rw [if_neg (by omega)]
    exact ⟨trivial, _, _, _, rfl, rest s r h (fun _ _ => rfl) hsh.symm fun _ => by omega⟩
theorem Reader_fixed_ok {s : Store} {id : Nat} {r : Rd} (h : RdIn s id r) {n : Nat} (hn : n ≤ 4) (hl : r.l.length ≤ 2 ^ 60) :
    DCalls Tryz.prog n_pack_Reader_fixed [.one (pO id), iA n] s fun rr s' => rr = .a (iA (r.num n).1) ∧ RdIn s' id (r.num n).2 ∧ ∀ i, i ≠ id → s' i = s i := by
  refine W_pack_Reader_fixed (pO id) n s _ ((Reader_take_ok h (by omega) hl).mono ?_)
  rintro rr s1 ⟨rfl, h1, ho1⟩
  have hnum : r.num n = (rd (if (r.short n).e = 0 then r.l.take n else []), if (r.short n).e = 0 then ⟨0, r.l.drop n⟩ else r.short n) := by
    unfold Rd.num
    split
    · rw [Rd.short_l]
    · rfl
  rw [hnum]
  have hll : (if (r.short n).e = 0 then r.l.take n else []).length ≤ 4 := by
    split
    · rw [List.length_take]; omega
    · simp
  generalize (if (r.short n).e = 0 then r.l.take n else []) = l at *
  refine ⟨_, rfl, ?_⟩
  rw [bytesD_ofL]
  have hat : ∀ s, At Tryz.prog s t_uint8 (.sl 1 (l.map encU)) (l.map encU) := fun s => ⟨⟨rfl, .inr c_uint8.symm⟩, by rw [List.length_map]; omega, fun es rows e => by injection e with e1 e2; rw [← e1]; exact c_uint8.symm⟩
  refine (hat s1).lenK ⟨fun x n2 s2 => s2 = s1 ∧ ∃ j : Nat, n2 = j ∧ j ≤ l.length ∧ x = rd (l.take j), fun _ n2 _ => l.length - n2.toNat, ⟨rfl, 0, rfl, by omega, rfl⟩, ?_⟩
  rintro _ _ s2 ⟨rfl, j, rfl, hj, rfl⟩
  rw [List.length_map]
  refine bcd (fun hlt => ?_) (fun hge => ?_)
  · have hlt : j < l.length := by omega
    obtain ⟨c, hc⟩ := get_of_lt (l := l) (j := j) hlt
    refine (hat s2).load (map_get hc) c_uint8 rfl ⟨(c.toNat : Int), rfl, ?_⟩
    have hx := rdL_lt (l.take j) 0 (by omega)
    have h256 : (256 : Int) ^ (l.take j).length ≤ 256 ^ 4 := by
      have e : ∀ m : Nat, (256 : Int) ^ m = ((256 ^ m : Nat) : Int) := fun m => by simp
      rw [e, e]
      exact Int.ofNat_le.2 (Nat.pow_le_pow_right (by omega) (by rw [List.length_take]; omega))
    have hb : rd (l.take j) < 2 ^ 48 := by
      unfold rd
      have := hx.2
      have h4 : (256 : Int) ^ 4 = 4294967296 := by decide
      rw [h4] at h256
      omega
    have hor := or_byte (x := rd (l.take j)) (c := (c.toNat : Int)) hx.1 hb (by omega) (by have := c.toNat_lt; omega)
    rw [w64_succ (by omega)]
    refine ⟨⟨rfl, j + 1, rfl, hlt, ?_⟩, dec_lt hlt⟩
    rw [hor, List.take_add_one, hc, Option.toList_some, rd, rd, rdL_append]; rfl
  · have e : j = l.length := by omega
    subst e
    rw [List.take_length]
    exact ⟨rfl, h1, ho1⟩
theorem Reader_Byte_ok {s : Store} {id : Nat} {r : Rd} (h : RdIn s id r) (hl : r.l.length ≤ 2 ^ 60) : DCalls Tryz.prog n_pack_Reader_Byte [.one (pO id)] s fun rr s' => rr = .a (iA (r.num 1).1) ∧ RdIn s' id (r.num 1).2 ∧ ∀ i, i ≠ id → s' i = s i :=
  W_pack_Reader_Byte _ s _ ((Reader_fixed_ok h (n := 1) (by omega) hl).mono fun rr s' ⟨h1, h2⟩ => ⟨_, h1, rfl, h2⟩)
theorem Reader_Word_ok {s : Store} {id : Nat} {r : Rd} (h : RdIn s id r) (hl : r.l.length ≤ 2 ^ 60) : DCalls Tryz.prog n_pack_Reader_Word [.one (pO id)] s fun rr s' => rr = .a (iA (r.num 2).1) ∧ RdIn s' id (r.num 2).2 ∧ ∀ i, i ≠ id → s' i = s i :=
  W_pack_Reader_Word _ s _ ((Reader_fixed_ok h (n := 2) (by omega) hl).mono fun rr s' ⟨h1, h2⟩ => ⟨_, h1, rfl, h2⟩)
theorem Reader_Long_ok {s : Store} {id : Nat} {r : Rd} (h : RdIn s id r) (hl : r.l.length ≤ 2 ^ 60) : DCalls Tryz.prog n_pack_Reader_Long [.one (pO id)] s fun rr s' => rr = .a (iA (r.num 4).1) ∧ RdIn s' id (r.num 4).2 ∧ ∀ i, i ≠ id → s' i = s i :=
  W_pack_Reader_Long _ s _ ((Reader_fixed_ok h (n := 4) (by omega) hl).mono fun rr s' ⟨h1, h2⟩ => ⟨_, h1, rfl, h2⟩)
theorem Reader_End_ok {s : Store} {id : Nat} {r : Rd} (h : RdIn s id r) : Pure Tryz.prog n_pack_Reader_End [.one (pO id)] s (.a (iA (if r.e = 0 ∧ r.l ≠ [] then 3 else r.e))) := by
  refine W_pack_Reader_End (pO id) s _ ⟨trivial, _, _, _, rfl, (trouble_well_ok (e := r.e) (rest := [.str (ofL r.l)]) h).use ⟨_, rfl, bce (fun e => ?_) (fun e => ?_)⟩⟩
  · refine ⟨trivial, _, _, _, rfl, _, box_row h, ofL r.l, rfl, bcnot (fun hs => ?_) (fun hs => ?_)⟩
    · have hne : r.l ≠ [] := fun hl => by
        rw [toList_data, toList_data, hl] at hs
        cases hs
      rw [if_pos ⟨e, hne⟩]
      exact ⟨rfl, rfl⟩
    · have hl : r.l = [] := by
        have := eq_of_beq hs
        rw [toList_data, toList_data] at this
        exact this
      refine ⟨trivial, _, _, _, rfl, _, box_row h, r.e, rfl, ?_⟩
      rw [if_neg (fun g => g.2 hl)]; exact ⟨rfl, rfl⟩
  · refine ⟨trivial, _, _, _, rfl, _, box_row h, r.e, rfl, ?_⟩
    rw [if_neg (fun g => e g.1)]; exact ⟨rfl, rfl⟩
end Go.Proofs.YtpanpagcgckeoaaGreat
end
section
set_option linter.unusedVariables false
set_option linter.unusedSimpArgs false
namespace Go.Proofs.YtpanpagcgckeoaaGreat
open Go.Fw Go.Proofs Go.RowKit
variable {σ : Store}
def LawTrue (f : FuncId) (xs : List A) : Prop := DCalls Tryz.prog f xs noS fun r _ => r = .a (.one (.bool true))
end Go.Proofs.YtpanpagcgckeoaaGreat
end
section
set_option linter.unusedVariables false
set_option linter.unusedSimpArgs false
namespace Go.Proofs.YtpanpagcgckeoaaGreat
open Go.Fw Go.Proofs Go.RowKit
variable {σ : Store}
def endK (o : Int) (x : Ls) (b : Bool) : Co := ⟨[o, 0], [⟨0, 0, 0, 0⟩], [⟨0, 0⟩, ⟨0, 0⟩], [], [zLs, x, zLs, zLs], [0, 0], b⟩
def endStep (occ stamp now : Int) (o : Int) (x : Ls) (b : Bool) : Co :=
  let m := decide (x.PAsk > (if x.PDone > x.Grant then x.PDone else x.Grant)) && decide (x.Ask = x.Done)
  let k' : Co := if o = -2 then
      if x.PDone < x.Grant then endK o { x with Since := 0 } b
      else if x.Since = 0 then endK o { x with Since := w64 (now + 1) } b
      else if occ = 0 ∧ x.Since ≤ stamp then endK 0 { x with Since := 0 } true
      else endK o x b
    else if o = 0 ∧ m = true then endK (-2) { x with Grant := x.PAsk, Since := 0 } true
    else endK o x b
  if b = true then k' else { k' with Lines := k'.Lines.set 1 { (k'.Lines[1]?).getD zLs with Told := x.Grant } }
end Go.Proofs.YtpanpagcgckeoaaGreat
end
section
set_option linter.unusedVariables false
set_option linter.unusedSimpArgs false
namespace Go.Proofs.YtpanpagcgckeoaaGreat
open Go.Fw Go.Proofs Go.RowKit
variable {σ : Store}
theorem CoOwn.ext' {σ0 s s' : Store} {d0 d1 d2 d3 d4 d5 : D} {k : Co} (h : CoOwn σ0 s d0 d1 d2 d3 d4 d5 k) (he : Ext s s') : CoOwn σ0 s' d0 d1 d2 d3 d4 d5 k :=
  ⟨h.own.ext' he, h.routes.ext' he, h.points.ext' he, h.xs.ext' he, h.lines.ext' he, h.resets.ext' he, h.apart⟩
end Go.Proofs.YtpanpagcgckeoaaGreat
end
section
set_option linter.unusedVariables false
set_option linter.unusedSimpArgs false
namespace Go.Fw
def ownW (w : Wr) (o : Int) : Wr := w.num 2 ((if 1048576 < o then 1048576 else o) + 2)
def rtW (w : Wr) (r : Rs) : Wr := (w.num 1 r.State).num 1 r.Next
def lnW (w : Wr) (l : Ls) : Wr := ((w.num 4 l.Ask).num 4 l.Done).num 4 l.Grant
def Co.saveW (k : Co) : Wr := ((k.Lines.drop 1).take 3).foldl lnW (k.Routes.foldl rtW (k.Own.foldl ownW ⟨0, [], 2 * (k.Own.length : Int) + 2 * k.Routes.length + 36⟩))
def Co.saveC (k : Co) : List UInt8 × Int := if k.Lines.length < 4 then ([], 32) else (if k.saveW.e = 0 then k.saveW.out else [], k.saveW.e)
def rdOwn : Nat → Rd → List Int × Rd
  | 0, r => ([], r)
  | n + 1, r => (((r.num 2).1 - 2) :: (rdOwn n (r.num 2).2).1, (rdOwn n (r.num 2).2).2)
def rdRts : Nat → Rd → List Rs × Rd
  | 0, r => ([], r)
  | n + 1, r => (⟨(r.num 1).1, 0, ((r.num 1).2.num 1).1, 0⟩ :: (rdRts n ((r.num 1).2.num 1).2).1, (rdRts n ((r.num 1).2.num 1).2).2)
def ln3 (a b g : Int) : Ls := ⟨a, b, g, g, 0, 0, 0, 0⟩
def rdLns : Nat → Rd → List Ls × Rd
  | 0, r => ([], r)
  | n + 1, r => (ln3 (r.num 4).1 ((r.num 4).2.num 4).1 (((r.num 4).2.num 4).2.num 4).1 :: (rdLns n (((r.num 4).2.num 4).2.num 4).2).1, (rdLns n (((r.num 4).2.num 4).2.num 4).2).2)
def Cf.loadQ (c : Cf) (now : Int) (l : List UInt8) : Co × Rd :=
  let a := rdOwn c.Secs.length ⟨0, l⟩
  let b := rdRts c.Rts.length a.2
  let d := rdLns 3 b.2
  (⟨a.1, b.1, (newCo c now).Points, (newCo c now).Xs, ⟨0, 0, 0, 0, 0, 0, 0, 0⟩ :: d.1, (newCo c now).Resets, true⟩, d.2)
def heldR (x : Rs) : Rs := if x.State = 0 then ⟨0, 0, 0, 0⟩ else ⟨5, 0, x.Next, 0⟩
def zCo : Co := ⟨[], [], [], [], [], [], false⟩
def Cf.loadC (c : Cf) (now : Int) (l : List UInt8) : Co × Int :=
  if (c.loadQ now l).2.e = 0 ∧ (c.loadQ now l).2.l = [] ∧ (c.loadQ now l).1.fits c = true ∧ tm 0 now = true then
    (let q := (c.loadQ now l).1; ⟨q.Own, q.Routes.map heldR, q.Points, q.Xs, q.Lines, q.Resets, false⟩, 0) else (zCo, 3)
theorem Rd.num_len (r : Rd) (n : Nat) : (r.num n).2.l.length ≤ r.l.length := by
  unfold Rd.num
  split
  · show ((r.short n).l.drop n).length ≤ _
    rw [List.length_drop, Rd.short_l]; omega
  · rw [Rd.short_l]; exact Nat.le_refl _
/-! what fits is written -/
def ownB (o : Int) : List UInt8 := be 2 (o + 2)
def rtB (r : Rs) : List UInt8 := be 1 r.State ++ be 1 r.Next
def lnB (l : Ls) : List UInt8 := be 4 l.Ask ++ (be 4 l.Done ++ be 4 l.Grant)
def Co.saveB (k : Co) : List UInt8 := (k.Own.map ownB).flatten ++ (k.Routes.map rtB).flatten ++ (((k.Lines.drop 1).take 3).map lnB).flatten
theorem flat_len {α : Type} {f : α → List UInt8} {m : Nat} (h : ∀ x, (f x).length = m) : ∀ l : List α, (l.map f).flatten.length = m * l.length := by
  intro l
  induction l with
  | nil => simp
  | cons x l ih => rw [List.map_cons, List.flatten_cons, List.length_append, h, ih, List.length_cons, Nat.mul_add]; omega
theorem ownB_len (o : Int) : (ownB o).length = 2 := be_len _ _
theorem rtB_len (r : Rs) : (rtB r).length = 2 := by unfold rtB; rw [List.length_append, be_len, be_len]
theorem lnB_len (l : Ls) : (lnB l).length = 12 := by unfold lnB; rw [List.length_append, List.length_append, be_len, be_len, be_len]
theorem fold_fit {α : Type} {f : Wr → α → Wr} {g : α → List UInt8} {m : Nat} {p : α → Prop} (hg : ∀ x, (g x).length = m)
    (hf : ∀ (w : Wr) x, p x → w.e = 0 → (w.out.length : Int) + m ≤ w.lim → f w x = ⟨0, w.out ++ g x, w.lim⟩) : ∀ (l : List α) (w : Wr), (∀ x ∈ l, p x) → w.e = 0 → (w.out.length : Int) + m * l.length ≤ w.lim →
      l.foldl f w = ⟨0, w.out ++ (l.map g).flatten, w.lim⟩ := by
  intro l
  induction l with
  | nil => intro w _ he _; cases w; simp at he ⊢; exact he
  | cons x l ih =>
    intro w hp he hl
    rw [List.length_cons] at hl
    have e : (m : Int) * ((l.length + 1 : Nat) : Int) = m * l.length + m := by rw [Int.natCast_add, Int.mul_add]; simp
    rw [e] at hl
    have hm0 : (0 : Int) ≤ m * l.length := Int.mul_nonneg (by omega) (by omega)
    rw [List.foldl_cons, hf w x (hp x (by simp)) he (by omega), ih _ (fun y hy => hp y (by simp [hy])) rfl (by simp only [List.length_append, hg]; omega)]
    simp [List.append_assoc]
theorem save_fit {c : Cf} {k : Co} (h : FitIs c k) : k.saveW = ⟨0, k.saveB, 2 * (k.Own.length : Int) + 2 * k.Routes.length + 36⟩ := by
  have hR : c.Rts.length ≤ 12 := (check_small h.chk).2.2.1
  have tm0 : ∀ {n : Int}, tm 0 n = true → 0 ≤ n ∧ n < 256 ^ 4 := fun h => by
    have := of_decide_eq_true h
    have e : (256 : Int) ^ 4 = 4294967296 := by decide
    rw [e]; omega
  have o1 := fold_fit (f := ownW) (g := ownB) (m := 2) (p := fun o => -2 ≤ o ∧ o ≤ 12) ownB_len (fun w x hx he hl => by
    have := Wr.num_fit (w := w) (k := 2) (n := x + 2) he (by omega) (by have e : (256 : Int) ^ 2 = 65536 := by decide
                                                                        rw [e]; omega) hl
    unfold ownW ownB
    rw [if_neg (by omega)]; exact this) k.Own ⟨0, [], 2 * (k.Own.length : Int) + 2 * k.Routes.length + 36⟩ (fun o ho => by have := h.own o ho; omega) rfl (by simp; omega)
  have o2 := fold_fit (f := rtW) (g := rtB) (m := 2) (p := fun r => (0 ≤ r.State ∧ r.State ≤ 5) ∧ 0 ≤ r.Next ∧ r.Next < 256) rtB_len (fun w x hx he hl => by
    have e : (256 : Int) ^ 1 = 256 := by decide
    have h1 := Wr.num_fit (w := w) (k := 1) (n := x.State) he hx.1.1 (by rw [e]; omega) (by omega)
    unfold rtW rtB
    rw [h1, Wr.num_fit (w := ⟨0, w.out ++ be 1 x.State, w.lim⟩) (k := 1) (n := x.Next) rfl hx.2.1 (by rw [e]; omega) (by simp [be_len]; omega)]
    simp [List.append_assoc]) k.Routes ⟨0, (k.Own.map ownB).flatten, 2 * (k.Own.length : Int) + 2 * k.Routes.length + 36⟩ (fun r hr => by
      obtain ⟨i, hi⟩ := List.mem_iff_getElem?.1 hr
      obtain ⟨y, hy⟩ := get_of_lt (l := c.Rts) (j := i) (by have := (List.getElem?_eq_some_iff.1 hi).1; have := h.lRts; omega)
      have := h.rts i r y hi hy
      simp only [Rs.fits, Bool.and_eq_true, decide_eq_true_eq] at this
      have hp : y.Path.length ≤ 8 := (check_rt h.chk (List.mem_of_getElem? hy)).len.2
      exact ⟨this.1.1, this.1.2.1, by have := this.1.2.2; omega⟩) rfl (by simp [flat_len ownB_len]; omega)
  have o3 := fold_fit (f := lnW) (g := lnB) (m := 12) (p := fun l => (0 ≤ l.Ask ∧ l.Ask < 256 ^ 4) ∧ (0 ≤ l.Done ∧ l.Done < 256 ^ 4) ∧ (0 ≤ l.Grant ∧ l.Grant < 256 ^ 4)) lnB_len (fun w x hx he hl => by
    have h1 := Wr.num_fit (w := w) (k := 4) (n := x.Ask) he hx.1.1 hx.1.2 (by omega)
    have h2 := Wr.num_fit (w := ⟨0, w.out ++ be 4 x.Ask, w.lim⟩) (k := 4) (n := x.Done) rfl hx.2.1.1 hx.2.1.2 (by simp [be_len]; omega)
    have h3 := Wr.num_fit (w := ⟨0, w.out ++ be 4 x.Ask ++ be 4 x.Done, w.lim⟩) (k := 4) (n := x.Grant) rfl hx.2.2.1 hx.2.2.2 (by simp [be_len]; omega)
    unfold lnW lnB
    rw [h1, h2, h3]
    simp [List.append_assoc]) ((k.Lines.drop 1).take 3) ⟨0, (k.Own.map ownB).flatten ++ (k.Routes.map rtB).flatten, 2 * (k.Own.length : Int) + 2 * k.Routes.length + 36⟩ (fun l hl => by
      have := h.lns l (List.mem_of_mem_drop (List.mem_of_mem_take hl))
      simp only [Ls.fits, Bool.and_eq_true] at this
      exact ⟨tm0 this.1.1, tm0 this.1.2.1, tm0 this.1.2.2.1⟩) rfl (by
      simp only [List.length_append, flat_len ownB_len, flat_len rtB_len, List.length_take, List.length_drop]
      omega)
  unfold Co.saveW
  rw [o1]
  simp only [List.nil_append]
  rw [o2, o3]
  rfl
theorem saveC_fit {c : Cf} {k : Co} (h : FitIs c k) : k.saveC = (k.saveB, 0) := by
  unfold Co.saveC
  rw [if_neg (by rw [h.lLn]; omega), save_fit h]
  rfl
theorem rdOwn_back : ∀ (l : List Int) (t : List UInt8), (∀ o ∈ l, -2 ≤ o ∧ o ≤ 12) → rdOwn l.length ⟨0, (l.map ownB).flatten ++ t⟩ = (l, ⟨0, t⟩) := by
  intro l
  induction l with
  | nil => intro t _; rfl
  | cons o l ih =>
    intro t h
    have ho := h o (by simp)
    have e : (⟨0, ((o :: l).map ownB).flatten ++ t⟩ : Rd).num 2 = (o + 2, ⟨0, (l.map ownB).flatten ++ t⟩) := by
      rw [List.map_cons, List.flatten_cons, List.append_assoc]
      exact Rd.num_be (by omega) (by have e : (256 : Int) ^ 2 = 65536 := by decide
                                     rw [e]; omega) _
    rw [List.length_cons, rdOwn, e, ih t fun y hy => h y (by simp [hy])]
    simp only [Prod.mk.injEq, List.cons.injEq, and_true]
    omega
theorem rdRts_back : ∀ (l : List Rs) (t : List UInt8), (∀ r ∈ l, (0 ≤ r.State ∧ r.State ≤ 5) ∧ 0 ≤ r.Next ∧ r.Next < 256) → rdRts l.length ⟨0, (l.map rtB).flatten ++ t⟩ = (l.map fun r => ⟨r.State, 0, r.Next, 0⟩, ⟨0, t⟩) := by
  intro l
  induction l with
  | nil => intro t _; rfl
  | cons r l ih =>
    intro t h
    have hr := h r (by simp)
    have e1 : (256 : Int) ^ 1 = 256 := by decide
    have e : (⟨0, ((r :: l).map rtB).flatten ++ t⟩ : Rd).num 1 = (r.State, ⟨0, be 1 r.Next ++ ((l.map rtB).flatten ++ t)⟩) := by
      rw [List.map_cons, List.flatten_cons, List.append_assoc, rtB, List.append_assoc]
      exact Rd.num_be (by omega) (by rw [e1]; omega) _
    have e2 := Rd.num_be (k := 1) hr.2.1 (by rw [e1]; omega) ((l.map rtB).flatten ++ t)
    rw [List.length_cons, rdRts, e]
    simp only
    rw [e2, ih t fun y hy => h y (by simp [hy])]
    rfl
theorem rdLns_back : ∀ (l : List Ls) (t : List UInt8), (∀ x ∈ l, (0 ≤ x.Ask ∧ x.Ask < 256 ^ 4) ∧ (0 ≤ x.Done ∧ x.Done < 256 ^ 4) ∧ (0 ≤ x.Grant ∧ x.Grant < 256 ^ 4)) →
    rdLns l.length ⟨0, (l.map lnB).flatten ++ t⟩ = (l.map fun x => ln3 x.Ask x.Done x.Grant, ⟨0, t⟩) := by
  intro l
  induction l with
  | nil => intro t _; rfl
  | cons x l ih =>
    intro t h
    have hx := h x (by simp)
    have e : (⟨0, ((x :: l).map lnB).flatten ++ t⟩ : Rd).num 4 = (x.Ask, ⟨0, be 4 x.Done ++ (be 4 x.Grant ++ ((l.map lnB).flatten ++ t))⟩) := by
      rw [List.map_cons, List.flatten_cons, List.append_assoc, lnB, List.append_assoc, List.append_assoc]
      exact Rd.num_be hx.1.1 hx.1.2 _
    have e2 := Rd.num_be hx.2.1.1 hx.2.1.2 (be 4 x.Grant ++ ((l.map lnB).flatten ++ t))
    have e3 := Rd.num_be hx.2.2.1 hx.2.2.2 ((l.map lnB).flatten ++ t)
    rw [List.length_cons, rdLns, e]
    simp only
    rw [e2]
    simp only
    rw [e3, ih t fun y hy => h y (by simp [hy])]
    rfl
def Co.backK (c : Cf) (k : Co) (now : Int) : Co :=
  ⟨k.Own, k.Routes.map (fun r => heldR ⟨r.State, 0, r.Next, 0⟩), (newCo c now).Points, (newCo c now).Xs, ⟨0, 0, 0, 0, 0, 0, 0, 0⟩ :: ((k.Lines.drop 1).take 3).map (fun x => ln3 x.Ask x.Done x.Grant), (newCo c now).Resets, false⟩
theorem load_back {c : Cf} {k : Co} (h : FitIs c k) {now : Int} (hn : tm 0 now = true) : c.loadC now k.saveB = (k.backK c now, 0) := by
  have hR : c.Rts.length ≤ 12 := (check_small h.chk).2.2.1
  have tm0 : ∀ {n : Int}, tm 0 n = true → 0 ≤ n ∧ n < 256 ^ 4 := fun h => by
    have := of_decide_eq_true h
    have e : (256 : Int) ^ 4 = 4294967296 := by decide
    rw [e]; omega
  have b1 := rdOwn_back k.Own ((k.Routes.map rtB).flatten ++ (((k.Lines.drop 1).take 3).map lnB).flatten) fun o ho => by have := h.own o ho; omega
  have hrt : ∀ r ∈ k.Routes, (0 ≤ r.State ∧ r.State ≤ 5) ∧ 0 ≤ r.Next ∧ r.Next < 256 := fun r hr => by
    obtain ⟨i, hi⟩ := List.mem_iff_getElem?.1 hr
    obtain ⟨y, hy⟩ := get_of_lt (l := c.Rts) (j := i) (by have := (List.getElem?_eq_some_iff.1 hi).1; have := h.lRts; omega)
    have := h.rts i r y hi hy
    simp only [Rs.fits, Bool.and_eq_true, decide_eq_true_eq] at this
    have hp : y.Path.length ≤ 8 := (check_rt h.chk (List.mem_of_getElem? hy)).len.2
    exact ⟨this.1.1, this.1.2.1, by have := this.1.2.2; omega⟩
  have b2 := rdRts_back k.Routes (((k.Lines.drop 1).take 3).map lnB).flatten hrt
  have hln : ∀ x ∈ (k.Lines.drop 1).take 3, (0 ≤ x.Ask ∧ x.Ask < 256 ^ 4) ∧ (0 ≤ x.Done ∧ x.Done < 256 ^ 4) ∧ (0 ≤ x.Grant ∧ x.Grant < 256 ^ 4) := fun x hx => by
    have := h.lns x (List.mem_of_mem_drop (List.mem_of_mem_take hx))
    simp only [Ls.fits, Bool.and_eq_true] at this
    exact ⟨tm0 this.1.1, tm0 this.1.2.1, tm0 this.1.2.2.1⟩
  have b3 := rdLns_back ((k.Lines.drop 1).take 3) [] hln
  rw [List.append_nil] at b3
  have l3 : ((k.Lines.drop 1).take 3).length = 3 := by rw [List.length_take, List.length_drop, h.lLn]; rfl
  rw [h.lOwn] at b1
  rw [h.lRts] at b2
  rw [l3] at b3
  have hq : c.loadQ now k.saveB = (⟨k.Own, k.Routes.map (fun r => ⟨r.State, 0, r.Next, 0⟩), (newCo c now).Points, (newCo c now).Xs, ⟨0, 0, 0, 0, 0, 0, 0, 0⟩ :: ((k.Lines.drop 1).take 3).map (fun x => ln3 x.Ask x.Done x.Grant), (newCo c now).Resets, true⟩, ⟨0, []⟩) := by
    unfold Cf.loadQ Co.saveB
    rw [List.append_assoc, b1]
    simp only
    rw [b2]
    simp only
    rw [b3]
  have hf : Co.fits c ⟨k.Own, k.Routes.map (fun r => ⟨r.State, 0, r.Next, 0⟩), (newCo c now).Points, (newCo c now).Xs, ⟨0, 0, 0, 0, 0, 0, 0, 0⟩ :: ((k.Lines.drop 1).take 3).map (fun x => ln3 x.Ask x.Done x.Grant), (newCo c now).Resets, true⟩ = true := by
    have hnew := fits_iff.1 (new_fits h.chk hn)
    refine fits_iff.2 ⟨h.chk, h.lOwn, hnew.lPts, hnew.lRes, by rw [List.length_map]; exact h.lRts, hnew.lXs, by rw [List.length_cons, List.length_map, l3], h.own, fun i x r hi hr => ?_, hnew.pts, hnew.xs, fun l hl => ?_, hnew.res⟩
    · simp only [List.getElem?_map, Option.map_eq_some_iff] at hi
      obtain ⟨y, hy, rfl⟩ := hi
      have := h.rts i y r hy hr
      simp only [Rs.fits, Bool.and_eq_true, decide_eq_true_eq] at this ⊢
      exact ⟨this.1, by decide⟩
    · simp only [List.mem_cons, List.mem_map] at hl
      rcases hl with rfl | ⟨x, hx, rfl⟩
      · decide
      · have := h.lns x (List.mem_of_mem_drop (List.mem_of_mem_take hx))
        simp only [Ls.fits, Bool.and_eq_true, ln3] at this ⊢
        exact ⟨⟨this.1.1, this.1.2.1, this.1.2.2.1, this.1.2.2.1, by decide, by decide, by decide⟩, by decide⟩
  unfold Cf.loadC
  rw [hq, if_pos ⟨rfl, rfl, hf, hn⟩]
  simp only [Prod.mk.injEq, and_true, Co.backK, List.map_map]
  rfl
end Go.Fw
end
section
set_option linter.unusedVariables false
set_option linter.unusedSimpArgs false
namespace Go.Proofs.YtpanpagcgckeoaaGreat
open Go.Fw Go.Proofs Go.RowKit
variable {σ σ0 : Store}
theorem fold_take {α β : Type} (f : β → α → β) (l : List α) (b : β) (j : Nat) (x : α) (hx : l[j]? = some x) : (l.take (j + 1)).foldl f b = f ((l.take j).foldl f b) x := by
  rw [List.take_add_one, hx, Option.toList_some, List.foldl_append]; rfl
theorem fold_out {α : Type} {f : Wr → α → Wr} {m : Nat} (hf : ∀ w x, (f w x).out.length ≤ w.out.length + m ∧ (f w x).lim = w.lim) : ∀ (l : List α) (w : Wr), (l.foldl f w).out.length ≤ w.out.length + m * l.length ∧ (l.foldl f w).lim = w.lim := by
  intro l
  induction l with
  | nil => intro w; simp
  | cons x l ih =>
    intro w
    have h1 := ih (f w x)
    have h2 := hf w x
    rw [List.foldl_cons]
    refine ⟨Nat.le_trans h1.1 ?_, h1.2.trans h2.2⟩
    rw [List.length_cons, Nat.mul_add]; omega
theorem ownW_out (w : Wr) (o : Int) : (ownW w o).out.length ≤ w.out.length + 2 ∧ (ownW w o).lim = w.lim := w.num_out 2 _
theorem rtW_out (w : Wr) (r : Rs) : (rtW w r).out.length ≤ w.out.length + 2 ∧ (rtW w r).lim = w.lim := by
  have h1 := w.num_out 1 r.State
  have h2 := (w.num 1 r.State).num_out 1 r.Next
  unfold rtW
  exact ⟨by omega, h2.2.trans h1.2⟩
theorem lnW_out (w : Wr) (l : Ls) : (lnW w l).out.length ≤ w.out.length + 12 ∧ (lnW w l).lim = w.lim := by
  have h1 := w.num_out 4 l.Ask
  have h2 := (w.num 4 l.Ask).num_out 4 l.Done
  have h3 := ((w.num 4 l.Ask).num 4 l.Done).num_out 4 l.Grant
  unfold lnW
  exact ⟨by omega, h3.2.trans (h2.2.trans h1.2)⟩
theorem word_new {f : FuncId} {m : Nat} {s : Store} {id : Nat} {w : Wr} (h : WrIn σ0 s id w) {ns : List Int} {n : Nat} (hn : n = ns.length)
    (hf : ∀ {τ s : Store} {w : Wr} {d : D} {ns : List Int}, WrIn τ s id w → At Tryz.prog τ t_int d (ns.map Go.Fw.encI) → w.out.length + 4 * ns.length ≤ 2 ^ 40 → 0 ≤ w.lim ∧ w.lim ≤ 2 ^ 60 → DCalls Tryz.prog f [.one (pO id), .one d] s fun r s' => r = .tup [] ∧ WrIn τ s' id (ns.foldl (fun w n => w.num m n) w))
    (hs : w.out.length + 4 * ns.length ≤ 2 ^ 40) (hlim : 0 ≤ w.lim ∧ w.lim ≤ 2 ^ 60) {K : Store → Prop} (hK : ∀ s', WrIn σ0 s' id (ns.foldl (fun w n => w.num m n) w) → K s') :
    Fw.newObj s (.live t_int (ns.map Go.Fw.encI)) fun i s1 => DCalls Tryz.prog f [.one (pO id), .one (.osl i 0 n)] s1 fun r s2 => (r = .tup []) ∧ K s2 := by
  refine newObj_intro fun i s1 hi hset he hs1 => ?_
  obtain ⟨τ, h1, h2, h3⟩ := h.newList (so := .live t_int (ns.map Go.Fw.encI)) hi (by intro e; cases e)
  rw [← hset] at h1
  refine (hf h1 (At.fresh h3 (by rw [List.length_map]; omega) (by rw [List.length_map]; exact hn)) hs hlim).mono ?_
  rintro r s2 ⟨rfl, h4⟩
  refine ⟨rfl, hK s2 ?_⟩
  obtain ⟨q1, d, q2, q3, q4⟩ := h4
  refine ⟨?_, d, q2, Own.from h2 q3, q4⟩
  by_cases hf : σ0 id = .free
  · exact hf
  · have := h2 id hf; rw [q1] at this; exact this.symm
theorem locks_Save_ok {k0 k1 k2 k3 k4 k5 : D} {k : Co} (hk : CoAt σ k0 k1 k2 k3 k4 k5 k) (h1 : k.Own.length ≤ 2 ^ 30) (h2 : k.Routes.length ≤ 2 ^ 30) (hI : ∀ o ∈ k.Own, -2 ^ 63 ≤ o) :
    Pure Tryz.prog n_locks_Save [coA k0 k1 k2 k3 k4 k5 k.Dirty] σ (.tup [.one (.str (ofL k.saveC.1)), iA k.saveC.2]) := by
  refine .of ?_ (.tup [.str (ofL k.saveC.1), iD k.saveC.2] (by simp only [List.mem_cons, List.not_mem_nil, or_false]; rintro d (rfl | rfl) <;> constructor))
  have hl4 := hk.lines.size
  rw [List.length_map] at hl4
  refine W_locks_Save k0 k1 k2 k3 k4 k5 k.Dirty σ _ (hk.lines.lenK ?_)
  rw [List.length_map]
  refine bcd (fun hlt => ?_) (fun hge => ?_)
  · rw [Co.saveC, if_pos (by omega)]
    exact ⟨rfl, .refl _⟩
  have hge : ¬ k.Lines.length < 4 := by omega
  refine hk.own.lenK (hk.routes.lenK ?_)
  rw [List.length_map, List.length_map]
  have hlim : w64 (w64 (w64 (2 * (k.Own.length : Int)) + w64 (2 * (k.Routes.length : Int))) + 36) = 2 * (k.Own.length : Int) + 2 * k.Routes.length + 36 := by
    rw [w64_id (n := 2 * (k.Own.length : Int)) (by omega) (by omega), w64_id (n := 2 * (k.Routes.length : Int)) (by omega) (by omega), w64_id (n := 2 * (k.Own.length : Int) + 2 * (k.Routes.length : Int)) (by omega) (by omega), w64_id (by omega) (by omega)]
  rw [hlim]
  refine (pack_New_ok _ (by omega)).mono ?_
  rintro r s ⟨id, rfl, hw⟩
  refine ⟨_, rfl, (hk.own.ext hw.ext).lenK ?_⟩
  rw [List.length_map]
  generalize hw0 : (⟨0, [], 2 * (k.Own.length : Int) + 2 * k.Routes.length + 36⟩ : Wr) = w0 at hw
  have l0 : w0.out.length = 0 ∧ w0.lim = 2 * (k.Own.length : Int) + 2 * k.Routes.length + 36 := by rw [← hw0]; exact ⟨rfl, rfl⟩
  refine ⟨fun n s => ∃ j : Nat, n = j ∧ j ≤ k.Own.length ∧ WrIn σ s id ((k.Own.take j).foldl ownW w0), fun n _ => k.Own.length - n.toNat, ⟨0, rfl, by omega, hw⟩, ?_⟩
  rintro _ s1 ⟨j, rfl, hj, hw1⟩
  refine bcd (fun hlt => ?_) (fun hge1 => ?_)
  · have hlt : j < k.Own.length := by omega
    obtain ⟨o, ho⟩ := get_of_lt (l := k.Own) (j := j) hlt
    have hof := fold_out ownW_out (k.Own.take j) w0
    rw [List.length_take, Nat.min_eq_left hj] at hof
    refine (hk.own.ext hw1.ext).load (map_get ho) c_int rfl ⟨o, rfl, ?_⟩
    have hoI := hI o (List.mem_of_getElem? ho)
    have hwo : w64 ((if (1048576 : Int) < o then 1048576 else o) + 2) = (if 1048576 < o then 1048576 else o) + 2 := by
      rw [w64_id] <;> split <;> omega
    rw [hwo]
    refine word_new (m := 2) (ns := [(if 1048576 < o then 1048576 else o) + 2]) hw1 rfl (fun h hd hs hl => Writer_Word_ok h hd hs hl) (by simp; omega) (by rw [hof.2]; omega) fun s2 hw2 => ?_
    rw [w64_succ (by omega)]
    exact ⟨⟨j + 1, rfl, hlt, by rw [fold_take _ _ _ _ _ ho]; exact hw2⟩, dec_lt hlt⟩
  have e : j = k.Own.length := by omega
  subst e
  rw [List.take_length] at hw1
  have hof := fold_out ownW_out k.Own w0
  generalize hw1e : k.Own.foldl ownW w0 = w1 at hw1 hof
  refine (hk.routes.ext hw1.ext).lenK ⟨fun n s => ∃ j : Nat, n = j ∧ j ≤ k.Routes.length ∧ WrIn σ s id ((k.Routes.take j).foldl rtW w1), fun n _ => k.Routes.length - n.toNat, ⟨0, rfl, by omega, hw1⟩, ?_⟩
  rintro _ s2 ⟨j, rfl, hj, hw2⟩
  rw [List.length_map]
  refine bcd (fun hlt => ?_) (fun hge2 => ?_)
  · have hlt : j < k.Routes.length := by omega
    obtain ⟨o, ho⟩ := get_of_lt (l := k.Routes) (j := j) hlt
    have hrf := fold_out rtW_out (k.Routes.take j) w1
    rw [List.length_take, Nat.min_eq_left hj] at hrf
    refine (hk.routes.ext hw2.ext).load (map_get ho) c_RouteState rfl ⟨o.State, o.Since, o.Next, o.Mark, rfl, ?_⟩
    refine word_new (m := 1) (ns := [o.State, o.Next]) hw2 rfl (fun h hd hs hl => Writer_Byte_ok h hd hs hl) (by simp; omega) (by rw [hrf.2, hof.2]; omega) fun s3 hw3 => ?_
    rw [w64_succ (by omega)]
    exact ⟨⟨j + 1, rfl, hlt, by rw [fold_take _ _ _ _ _ ho]; exact hw3⟩, dec_lt hlt⟩
  have e : j = k.Routes.length := by omega
  subst e
  rw [List.take_length] at hw2
  have hrf := fold_out rtW_out k.Routes w1
  generalize hw2e : k.Routes.foldl rtW w1 = w2 at hw2 hrf
  have hk4 := hk.lines.ext hw2.ext
  have hsub := hk4.sub (lo := 1) (hi := 4) (by omega) (by rw [List.length_map]; omega)
  rw [← List.map_drop, ← List.map_take] at hsub
  have hsl : ((k.Lines.drop 1).take (4 - 1)).length = 3 := by rw [List.length_take, List.length_drop]; omega
  refine hk4.sliceK (lo := 1) (hi := 4) c_LineState rfl rfl (by omega) (by rw [List.length_map]; omega) (hsub.lenK ⟨fun n s => ∃ j : Nat, n = j ∧ j ≤ 3 ∧ WrIn σ s id ((((k.Lines.drop 1).take 3).take j).foldl lnW w2), fun n _ => 3 - n.toNat, ⟨0, rfl, by omega, hw2⟩, ?_⟩)
  rintro _ s3 ⟨j, rfl, hj, hw3⟩
  rw [List.length_map, hsl]
  have hsub3 : At Tryz.prog s3 t_LineState (dsub k4 1 4) (((k.Lines.drop 1).take 3).map Ls.enc) := by
    have := (hk.lines.ext hw3.ext).sub (lo := 1) (hi := 4) (by omega) (by rw [List.length_map]; omega)
    rw [← List.map_drop, ← List.map_take] at this; exact this
  refine bcd (fun hlt => ?_) (fun hge3 => ?_)
  · have hlt : j < 3 := by omega
    obtain ⟨o, ho⟩ := get_of_lt (l := (k.Lines.drop 1).take 3) (j := j) (by rw [hsl]; exact hlt)
    have hlf := fold_out lnW_out (((k.Lines.drop 1).take 3).take j) w2
    rw [List.length_take, hsl, Nat.min_eq_left hj] at hlf
    refine hsub3.load (map_get ho) c_LineState rfl ⟨o.Ask, o.Done, o.Grant, o.Told, o.PAsk, o.PDone, o.PGrant, o.Since, rfl, ?_⟩
    refine word_new (m := 4) (ns := [o.Ask, o.Done, o.Grant]) hw3 rfl (fun h hd hs hl => Writer_Long_ok h hd hs hl) (by simp only [List.length_cons, List.length_nil]; omega) (by rw [hlf.2, hrf.2, hof.2]; omega) fun s4 hw4 => ?_
    rw [w64_succ (by omega)]
    exact ⟨⟨j + 1, rfl, hlt, by rw [fold_take _ _ _ _ _ ho]; exact hw4⟩, dec_lt hlt⟩
  have e : j = 3 := by omega
  subst e
  rw [List.take_take, Nat.min_self] at hw3
  have hsave : ((k.Lines.drop 1).take 3).foldl lnW w2 = k.saveW := by rw [Co.saveW, ← hw2e, ← hw1e, ← hw0]
  rw [hsave] at hw3
  refine (Writer_Done_ok hw3).use ⟨_, _, rfl, ?_⟩
  rw [Co.saveC, if_neg hge]
  exact ⟨rfl, hw3.ext⟩
/-! ### Load -/
theorem CoOwn.other {s s' : Store} {d0 d1 d2 d3 d4 d5 : D} {k : Co} {id : Nat} (h : CoOwn σ0 s d0 d1 d2 d3 d4 d5 k) (hn : σ0 id = .free) (hi : ∀ d ∈ [d0, d1, d2, d3, d4, d5], idOf d ≠ some id) (hs : ∀ i, i ≠ id → s' i = s i) : CoOwn σ0 s' d0 d1 d2 d3 d4 d5 k :=
  ⟨own_other h.own hn (hi _ (by simp)) hs, own_other h.routes hn (hi _ (by simp)) hs, own_other h.points hn (hi _ (by simp)) hs, own_other h.xs hn (hi _ (by simp)) hs, own_other h.lines hn (hi _ (by simp)) hs, own_other h.resets hn (hi _ (by simp)) hs, h.apart⟩
theorem set_mid {α : Type} (a b : List α) (x y : α) : (a ++ x :: b).set a.length y = a ++ y :: b := by
  rw [List.set_append_right _ _ (Nat.le_refl _), Nat.sub_self]; rfl
theorem locks_Load_ok {c0 c1 c2 c3 c4 : D} {c : Cf} (h : ∀ s, CfAt s c0 c1 c2 c3 c4 c) (now : Int) (h1 : c.Secs.length ≤ 2 ^ 20) (h2 : c.Xs.length ≤ 2 ^ 20) (h3 : c.Rts.length ≤ 2 ^ 20) {l : List UInt8} (hl : l.length ≤ 2 ^ 60) :
    DCalls Tryz.prog n_locks_Load [cfA c0 c1 c2 c3 c4 c, iA now, .one (.str (ofL l))] σ (CoPost σ (c.loadC now l)) := by
  refine W_locks_Load _ _ _ _ _ _ _ _ _ now (ofL l) σ _ ((locks_New_ok h now h1 h2 h3).mono ?_)
  rintro r s0 ⟨k0, k1, k2, k3, k4, k5, rfl, hk0⟩
  refine ⟨_, _, _, _, _, _, _, rfl, (pack_Read_ok l).mono ?_⟩
  rintro r s1 ⟨id, rfl, hid0, hr1, he1, ho1⟩
  have hid : σ id = .free := by
    by_cases hf : σ id = .free
    · exact hf
    · have := hk0.own.ext id hf; rw [hid0] at this; exact this.symm
  have hne : ∀ d ∈ [k0, k1, k2, k3, k4, k5], idOf d ≠ some id := by
    intro d hd hi
    simp only [List.mem_cons, List.not_mem_nil, or_false] at hd
    rcases hd with rfl | rfl | rfl | rfl | rfl | rfl
    · exact live_idOf'' hk0.own.at_ hi hid0
    · exact live_idOf'' hk0.routes.at_ hi hid0
    · exact live_idOf'' hk0.points.at_ hi hid0
    · exact live_idOf'' hk0.xs.at_ hi hid0
    · exact live_idOf'' hk0.lines.at_ hi hid0
    · exact live_idOf'' hk0.resets.at_ hi hid0
  have hk1 := hk0.other hid hne ho1
  have eO : (newCo c now).Own = List.replicate c.Secs.length (-1) := rfl
  have eR : (newCo c now).Routes = List.replicate c.Rts.length ⟨0, 0, 0, 0⟩ := rfl
  have eL : (newCo c now).Lines = List.replicate 4 ⟨0, 0, 0, 0, 0, 0, 0, 0⟩ := rfl
  have eD : (newCo c now).Dirty = true := rfl
  have nO : (newCo c now).Own.length = c.Secs.length := by simp [newCo]
  have nR : (newCo c now).Routes.length = c.Rts.length := by simp [newCo]
  generalize hkk : newCo c now = k at *
  refine ⟨_, rfl, hk1.own.at_.lenK ?_⟩
  rw [List.length_map, nO]
  -- the owners
  refine ⟨fun n s => ∃ (j : Nat) (a : List Int) (q : Rd), n = j ∧ j ≤ c.Secs.length ∧ a.length = j ∧ CoOwn σ s k0 k1 k2 k3 k4 k5 { k with Own := a ++ List.replicate (c.Secs.length - j) (-1) } ∧ RdIn s id q ∧ q.l.length ≤ l.length ∧
      rdOwn c.Secs.length ⟨0, l⟩ = (a ++ (rdOwn (c.Secs.length - j) q).1, (rdOwn (c.Secs.length - j) q).2), fun n _ => c.Secs.length - n.toNat, ⟨0, [], ⟨0, l⟩, rfl, by omega, rfl, by rw [List.nil_append, Nat.sub_zero, ← eO]; exact hk1, hr1, Nat.le_refl _, rfl⟩, ?_⟩
  rintro _ s2 ⟨j, a, q, rfl, hj, ha, hk2, hr2, hq, hrd⟩
  refine bcd (fun hlt => ?_) (fun hge => ?_)
  · have hlt : j < c.Secs.length := by omega
    obtain ⟨m, hm⟩ : ∃ m, c.Secs.length - j = m + 1 := ⟨c.Secs.length - j - 1, by omega⟩
    have hm' : c.Secs.length - (j + 1) = m := by omega
    rw [hm] at hk2 hrd
    rw [List.replicate_succ] at hk2
    refine (Reader_Word_ok hr2 (by omega)).mono ?_
    rintro r s3 ⟨rfl, hr3, ho3⟩
    have hk3 := hk2.other hid hne ho3
    have hb := rdL_lt
    have hn2 : 0 ≤ (q.num 2).1 ∧ (q.num 2).1 < 2 ^ 60 := by
      unfold Rd.num
      split
      · have := rdL_lt ((q.short 2).l.take 2) 0 (by omega)
        refine ⟨this.1, Int.lt_of_lt_of_le this.2 ?_⟩
        have e : ∀ m : Nat, (0 + 1 : Int) * (256 : Int) ^ m = ((256 ^ m : Nat) : Int) := fun m => by simp
        rw [e]
        have : 256 ^ ((q.short 2).l.take 2).length ≤ 256 ^ 2 := Nat.pow_le_pow_right (by omega) (by rw [List.length_take]; omega)
        omega
      · exact ⟨Int.le_refl 0, by show (0 : Int) < 2 ^ 60; decide⟩
    refine ⟨_, rfl, ?_⟩
    rw [w64_id (n := (q.num 2).1 - 2) (by omega) (by omega)]
    refine hk3.own.at_.idxK (j := j) c_int rfl (by simp; omega) (hk3.putO (k := { k with Own := a ++ -1 :: List.replicate m (-1) }) (j := j) (x := -1) (y := (q.num 2).1 - 2) (by show (a ++ -1 :: List.replicate m (-1))[j]? = _; rw [← ha, List.getElem?_append_right (Nat.le_refl _), Nat.sub_self]; rfl) (by omega) (by simp) rfl fun s4 hk4 ho4 => ⟨by trivial, ?_⟩)
    rw [w64_succ (by omega)]
    refine ⟨⟨j + 1, a ++ [(q.num 2).1 - 2], (q.num 2).2, rfl, hlt, by simp [ha], ?_, (ho4 id (hne _ (by simp))).trans hr3, Nat.le_trans (q.num_len 2) hq, ?_⟩, dec_lt hlt⟩
    · rw [hm']
      have e : (a ++ -1 :: List.replicate m (-1)).set j ((q.num 2).1 - 2) = a ++ [(q.num 2).1 - 2] ++ List.replicate m (-1) := by rw [← ha, set_mid]; simp
      rw [← e]; exact hk4
    · rw [hm', hrd, rdOwn, List.append_assoc]; rfl
  have e : j = c.Secs.length := by omega
  subst e
  rw [Nat.sub_self, List.replicate_zero, List.append_nil] at hk2
  rw [Nat.sub_self, rdOwn, List.append_nil] at hrd
  -- the routes
  refine hk2.routes.at_.lenK ?_
  rw [List.length_map, nR]
  refine ⟨fun n s => ∃ (j : Nat) (b : List Rs) (p : Rd), n = j ∧ j ≤ c.Rts.length ∧ b.length = j ∧ CoOwn σ s k0 k1 k2 k3 k4 k5 { k with Own := a, Routes := b ++ List.replicate (c.Rts.length - j) ⟨0, 0, 0, 0⟩ } ∧ RdIn s id p ∧ p.l.length ≤ l.length ∧
      rdRts c.Rts.length q = (b ++ (rdRts (c.Rts.length - j) p).1, (rdRts (c.Rts.length - j) p).2), fun n _ => c.Rts.length - n.toNat, ⟨0, [], q, rfl, by omega, rfl, by rw [List.nil_append, Nat.sub_zero, ← eR]; exact hk2, hr2, hq, rfl⟩, ?_⟩
  rintro _ s3 ⟨j, b, p, rfl, hj, hb, hk3, hr3, hp, hrt⟩
  refine bcd (fun hlt => ?_) (fun hge => ?_)
  · have hlt : j < c.Rts.length := by omega
    obtain ⟨m, hm⟩ : ∃ m, c.Rts.length - j = m + 1 := ⟨c.Rts.length - j - 1, by omega⟩
    have hm' : c.Rts.length - (j + 1) = m := by omega
    rw [hm] at hk3 hrt
    rw [List.replicate_succ] at hk3
    refine (Reader_Byte_ok hr3 (by omega)).mono ?_
    rintro r s4 ⟨rfl, hr4, ho4⟩
    refine ⟨_, rfl, (Reader_Byte_ok hr4 (by have := p.num_len 1; omega)).mono ?_⟩
    rintro r s5 ⟨rfl, hr5, ho5⟩
    have hk5 := (hk3.other hid hne ho4).other hid hne ho5
    refine ⟨_, rfl, hk5.routes.at_.idxK (j := j) c_RouteState rfl (by simp; omega) (hk5.putR (k := { k with Own := a, Routes := b ++ ⟨0, 0, 0, 0⟩ :: List.replicate m ⟨0, 0, 0, 0⟩ }) (j := j) (x := ⟨0, 0, 0, 0⟩) (y := ⟨(p.num 1).1, 0, ((p.num 1).2.num 1).1, 0⟩) (by show (b ++ (⟨0, 0, 0, 0⟩ : Rs) :: List.replicate m ⟨0, 0, 0, 0⟩)[j]? = _; rw [← hb, List.getElem?_append_right (Nat.le_refl _), Nat.sub_self]; rfl) (by omega) (by simp) rfl fun s6 hk6 ho6 => ⟨by trivial, ?_⟩)⟩
    rw [w64_succ (by omega)]
    refine ⟨⟨j + 1, b ++ [⟨(p.num 1).1, 0, ((p.num 1).2.num 1).1, 0⟩], ((p.num 1).2.num 1).2, rfl, hlt, by simp [hb], ?_, (ho6 id (hne _ (by simp))).trans hr5, Nat.le_trans ((p.num 1).2.num_len 1) (Nat.le_trans (p.num_len 1) hp), ?_⟩, dec_lt hlt⟩
    · rw [hm']
      have e : (b ++ (⟨0, 0, 0, 0⟩ : Rs) :: List.replicate m ⟨0, 0, 0, 0⟩).set j ⟨(p.num 1).1, 0, ((p.num 1).2.num 1).1, 0⟩ = b ++ [⟨(p.num 1).1, 0, ((p.num 1).2.num 1).1, 0⟩] ++ List.replicate m ⟨0, 0, 0, 0⟩ := by rw [← hb, set_mid]; simp
      rw [← e]; exact hk6
    · rw [hm', hrt, rdRts, List.append_assoc]; rfl
  have e : j = c.Rts.length := by omega
  subst e
  rw [Nat.sub_self, List.replicate_zero, List.append_nil] at hk3
  rw [Nat.sub_self, rdRts, List.append_nil] at hrt
  -- the lines
  have hL4 : (k.Lines.map Ls.enc).length = 4 := by rw [eL]; rfl
  refine hk3.lines.at_.sliceFromK (lo := 1) c_LineState rfl (by rw [hL4]; omega) ?_
  rw [hL4]
  have hsub := hk3.lines.at_.sub (lo := 1) (hi := 4) (by omega) (by rw [hL4]; omega)
  refine hsub.lenK ?_
  have hsl : (((k.Lines.map Ls.enc).drop 1).take (4 - 1)).length = 3 := by rw [List.length_take, List.length_drop, hL4]; rfl
  rw [hsl]
  obtain ⟨N, hN⟩ : ∃ N : Nat, N = 3 := ⟨3, rfl⟩
  refine ⟨fun n s => ∃ (j : Nat) (d : List Ls) (p' : Rd), n = j ∧ j ≤ N ∧ d.length = j ∧ CoOwn σ s k0 k1 k2 k3 k4 k5 { k with Own := a, Routes := b, Lines := ⟨0, 0, 0, 0, 0, 0, 0, 0⟩ :: (d ++ List.replicate (N - j) ⟨0, 0, 0, 0, 0, 0, 0, 0⟩) } ∧ RdIn s id p' ∧ p'.l.length ≤ l.length ∧
      rdLns N p = (d ++ (rdLns (N - j) p').1, (rdLns (N - j) p').2), fun n _ => 3 - n.toNat, ⟨0, [], p, rfl, by omega, rfl, by rw [List.nil_append, Nat.sub_zero, ← List.replicate_succ, hN, ← eL]; exact hk3, hr3, hp, rfl⟩, ?_⟩
  rintro _ s4 ⟨j, d, p', rfl, hj, hd, hk4, hr4, hp', hln⟩
  refine bcd (fun hlt => ?_) (fun hge => ?_)
  · have hlt : j < N := by omega
    obtain ⟨m, hm⟩ : ∃ m, N - j = m + 1 := ⟨N - j - 1, by omega⟩
    have hm' : N - (j + 1) = m := by omega
    rw [hm] at hk4 hln
    rw [List.replicate_succ] at hk4
    refine (Reader_Long_ok hr4 (by omega)).mono ?_
    rintro r s5 ⟨rfl, hr5, ho5⟩
    have n1 := p'.num_len 4
    refine ⟨_, rfl, (Reader_Long_ok hr5 (by omega)).mono ?_⟩
    rintro r s6 ⟨rfl, hr6, ho6⟩
    have n2 := (p'.num 4).2.num_len 4
    refine ⟨_, rfl, (Reader_Long_ok hr6 (by omega)).mono ?_⟩
    rintro r s7 ⟨rfl, hr7, ho7⟩
    have n3 := ((p'.num 4).2.num 4).2.num_len 4
    have hk7 := ((hk4.other hid hne ho5).other hid hne ho6).other hid hne ho7
    refine ⟨_, rfl, ?_⟩
    rw [w64_succ (by omega)]
    refine hk7.lines.at_.idxK (j := j + 1) c_LineState rfl (by simp; omega) (hk7.putL (k := { k with Own := a, Routes := b, Lines := ⟨0, 0, 0, 0, 0, 0, 0, 0⟩ :: (d ++ ⟨0, 0, 0, 0, 0, 0, 0, 0⟩ :: List.replicate m ⟨0, 0, 0, 0, 0, 0, 0, 0⟩) }) (j := j + 1) (x := ⟨0, 0, 0, 0, 0, 0, 0, 0⟩) (y := ln3 (p'.num 4).1 ((p'.num 4).2.num 4).1 (((p'.num 4).2.num 4).2.num 4).1) (by show ((⟨0, 0, 0, 0, 0, 0, 0, 0⟩ : Ls) :: (d ++ ⟨0, 0, 0, 0, 0, 0, 0, 0⟩ :: List.replicate m ⟨0, 0, 0, 0, 0, 0, 0, 0⟩))[j + 1]? = _; rw [List.getElem?_cons_succ, ← hd, List.getElem?_append_right (Nat.le_refl _), Nat.sub_self]; rfl) (by omega) (by simp) rfl fun s8 hk8 ho8 => ⟨by trivial, ?_⟩)
    refine ⟨⟨j + 1, d ++ [ln3 (p'.num 4).1 ((p'.num 4).2.num 4).1 (((p'.num 4).2.num 4).2.num 4).1], (((p'.num 4).2.num 4).2.num 4).2, rfl, hlt, by simp [hd], ?_, (ho8 id (hne _ (by simp))).trans hr7, by omega, ?_⟩, dec_lt (by omega)⟩
    · rw [hm']
      have e : ((⟨0, 0, 0, 0, 0, 0, 0, 0⟩ : Ls) :: (d ++ ⟨0, 0, 0, 0, 0, 0, 0, 0⟩ :: List.replicate m ⟨0, 0, 0, 0, 0, 0, 0, 0⟩)).set (j + 1) (ln3 (p'.num 4).1 ((p'.num 4).2.num 4).1 (((p'.num 4).2.num 4).2.num 4).1) =
          ⟨0, 0, 0, 0, 0, 0, 0, 0⟩ :: (d ++ [ln3 (p'.num 4).1 ((p'.num 4).2.num 4).1 (((p'.num 4).2.num 4).2.num 4).1] ++ List.replicate m ⟨0, 0, 0, 0, 0, 0, 0, 0⟩) := by rw [List.set_cons_succ, ← hd, set_mid]; simp
      rw [← e]; exact hk8
    · rw [hm', hln, rdLns, List.append_assoc]; rfl
  have e : j = N := by omega
  subst e
  rw [Nat.sub_self, List.replicate_zero, List.append_nil] at hk4
  rw [Nat.sub_self, rdLns, List.append_nil] at hln
  subst hN
  -- what has been read
  have hQ : c.loadQ now l = (⟨a, b, k.Points, k.Xs, ⟨0, 0, 0, 0, 0, 0, 0, 0⟩ :: d, k.Resets, true⟩, p') := by
    simp only [Cf.loadQ, hkk, hrd, hrt, hln]
  have hkq : CoOwn σ s4 k0 k1 k2 k3 k4 k5 ⟨a, b, k.Points, k.Xs, ⟨0, 0, 0, 0, 0, 0, 0, 0⟩ :: d, k.Resets, true⟩ := ⟨hk4.own, hk4.routes, hk4.points, hk4.xs, hk4.lines, hk4.resets, hk4.apart⟩
  have bad : ∀ s, Ext σ s → ¬ (p'.e = 0 ∧ p'.l = [] ∧ Co.fits c ⟨a, b, k.Points, k.Xs, ⟨0, 0, 0, 0, 0, 0, 0, 0⟩ :: d, k.Resets, true⟩ = true ∧ tm 0 now = true) →
      CoPost σ (c.loadC now l) (.tup [.agg [.nils, .nils, .nils, .nils, .nils, .nils, .bool false], iA 3]) s := fun s he hn => by
    rw [Cf.loadC, hQ, if_neg hn]
    have ap : ∀ l : List D, (∀ d ∈ l, d = .nils) → l.Pairwise Apart := by
      intro l
      induction l with
      | nil => intro _; exact .nil
      | cons x l ih => intro h; exact .cons (fun y hy id h1 => by rw [h x (by simp)] at h1; cases h1) (ih fun d hd => h d (by simp [hd]))
    exact ⟨.nils, .nils, .nils, .nils, .nils, .nils, rfl, .nil _ he, .nil _ he, .nil _ he, .nil _ he, .nil _ he, .nil _ he, ap _ (by simp)⟩
  intro R hR
  refine (Reader_End_ok hr4).use ⟨_, rfl, bcn (fun e => bad s4 hkq.own.ext fun g => ?_) (fun e => ?_)⟩
  · rw [if_neg (fun g2 => g2.2 g.2.1)] at e; exact e g.1
  have hp0 : p'.e = 0 ∧ p'.l = [] := by
    by_cases h2 : p'.e = 0 ∧ p'.l ≠ []
    · rw [if_pos h2] at e; cases e
    · rw [if_neg h2] at e
      exact ⟨e, Classical.byContradiction fun h3 => h2 ⟨e, h3⟩⟩
  refine (locks_Fits_ok h hkq.at).use ⟨_, rfl, bcnot (fun e => bad s4 hkq.own.ext fun g => by rw [g.2.2.1] at e; cases e) (fun hfit => newObj_intro fun id5 s5 hid5 _ he5 hs5 => ?_)⟩
  have hk5 := hkq.ext' he5
  refine (locks_times_ok (l := [now]) 0 (by omega) (At.fresh (rs := [Go.Fw.encI now]) hs5 (by simp) rfl)).use ⟨_, rfl, ?_⟩
  rw [show ([now].all fun n => decide (0 ≤ n ∧ n ≤ 4294967295 + 0)) = tm 0 now by simp [tm]]
  refine bcnot (fun e => bad s5 hk5.own.ext fun g => by rw [g.2.2.2] at e; cases e) (fun htm => ⟨by trivial, hR _ _ _ _ _ _ _ s5 ?_⟩)
  -- the routes are held
  refine hk5.routes.at_.lenK ?_
  rw [List.length_map, hb]
  refine ⟨fun n s => ∃ j : Nat, n = j ∧ j ≤ c.Rts.length ∧ CoOwn σ s k0 k1 k2 k3 k4 k5 ⟨a, (b.take j).map heldR ++ b.drop j, k.Points, k.Xs, ⟨0, 0, 0, 0, 0, 0, 0, 0⟩ :: d, k.Resets, true⟩, fun n _ => c.Rts.length - n.toNat, ⟨0, rfl, by omega, by simpa using hk5⟩, ?_⟩
  rintro _ s6 ⟨j, rfl, hj, hk6⟩
  refine bcd (fun hlt => ?_) (fun hge => ?_)
  · have hlt : j < c.Rts.length := by omega
    obtain ⟨x, hx⟩ := get_of_lt (l := b) (j := j) (by omega)
    have hln1 : ((b.take j).map heldR).length = j := by rw [List.length_map, List.length_take]; omega
    have hdx : b.drop j = x :: b.drop (j + 1) := by
      have hlt' := (List.getElem?_eq_some_iff.1 hx)
      rw [List.drop_eq_getElem_cons hlt'.1, hlt'.2]
    have hxj : ((b.take j).map heldR ++ b.drop j)[j]? = some x := by
      rw [List.getElem?_append_right (by omega), hln1, Nat.sub_self, hdx]; rfl
    have next : ∀ y : Rs, y = heldR x → ∀ s7, CoOwn σ s7 k0 k1 k2 k3 k4 k5 ⟨a, ((b.take j).map heldR ++ b.drop j).set j y, k.Points, k.Xs, ⟨0, 0, 0, 0, 0, 0, 0, 0⟩ :: d, k.Resets, true⟩ →
        (∃ j' : Nat, w64 ((j : Int) + 1) = j' ∧ j' ≤ c.Rts.length ∧ CoOwn σ s7 k0 k1 k2 k3 k4 k5 ⟨a, (b.take j').map heldR ++ b.drop j', k.Points, k.Xs, ⟨0, 0, 0, 0, 0, 0, 0, 0⟩ :: d, k.Resets, true⟩) ∧ c.Rts.length - (w64 ((j : Int) + 1)).toNat < c.Rts.length - (j : Int).toNat := fun y hy s7 h7 => by
      rw [w64_succ (by omega)]
      refine ⟨⟨j + 1, rfl, hlt, ?_⟩, dec_lt hlt⟩
      have e : ((b.take j).map heldR ++ b.drop j).set j y = (b.take (j + 1)).map heldR ++ b.drop (j + 1) := by
        rw [hdx, hy]
        have := set_mid ((b.take j).map heldR) (b.drop (j + 1)) x (heldR x)
        rw [hln1] at this
        rw [this, List.take_add_one, hx]; simp
      rw [← e]; exact h7
    refine hk6.routes.at_.load (map_get hxj) c_RouteState rfl ⟨x.State, x.Since, x.Next, x.Mark, rfl, bce (fun h0 => ?_) (fun h0 => ?_)⟩
    · exact hk6.routes.at_.idxK (j := j) c_RouteState rfl (by simp; omega) (hk6.putR (k := ⟨a, (b.take j).map heldR ++ b.drop j, k.Points, k.Xs, ⟨0, 0, 0, 0, 0, 0, 0, 0⟩ :: d, k.Resets, true⟩) (j := j) (x := x) (y := ⟨0, 0, 0, 0⟩) hxj (by omega) (by simp) rfl fun s7 h7 _ => ⟨by trivial, next _ (by rw [heldR, if_pos h0]) s7 h7⟩)
    · exact hk6.routes.at_.idxK (j := j) c_RouteState rfl (by simp; omega) (hk6.putR (k := ⟨a, (b.take j).map heldR ++ b.drop j, k.Points, k.Xs, ⟨0, 0, 0, 0, 0, 0, 0, 0⟩ :: d, k.Resets, true⟩) (j := j) (x := x) (y := ⟨5, 0, x.Next, 0⟩) hxj (by omega) (by simp) rfl fun s7 h7 _ => ⟨by trivial, next _ (by rw [heldR, if_neg h0]) s7 h7⟩)
  have e : j = c.Rts.length := by omega
  subst e
  rw [← hb, List.take_length, List.drop_length, List.append_nil] at hk6
  rw [Cf.loadC, hQ, if_pos ⟨hp0.1, hp0.2, hfit, htm⟩]
  exact ⟨_, _, _, _, _, _, rfl, hk6.own, hk6.routes, hk6.points, hk6.xs, hk6.lines, hk6.resets, hk6.apart⟩
end Go.Proofs.YtpanpagcgckeoaaGreat
end
section
set_option linter.unusedVariables false
set_option linter.unusedSimpArgs false
namespace Go.Proofs.YtpanpagcgckeoaaGreat
open Go.Fw Go.Proofs Go.RowKit
variable {σ σ0 : Store}
def litS : Cf := ⟨[⟨0, 0, 0⟩, ⟨1, 0, 0⟩, ⟨0, 0, 0⟩, ⟨0, 0, 0⟩, ⟨0, 0, 1⟩], [⟨0, 1, 1, 0⟩, ⟨1, 1, 2, 0⟩, ⟨1, 2, 3, 0⟩, ⟨2, 1, 4, 0⟩], [⟨0, 1⟩, ⟨2, 1⟩], [], [⟨0, 1, [⟨1, 0, 1⟩, ⟨2, 0, 1⟩], [], [], false⟩, ⟨1, -1, [⟨4, 0, 1⟩], [], [], false⟩], 2, 1, 4, 1000⟩
def sD0 : D := .sl 3 [[iD 0, iD 0, iD 0], [iD 1, iD 0, iD 0], [iD 0, iD 0, iD 0], [iD 0, iD 0, iD 0], [iD 0, iD 0, iD 1]]
def sD1 : D := .sl 4 [[iD 0, iD 1, iD 1, iD 0], [iD 1, iD 1, iD 2, iD 0], [iD 1, iD 2, iD 3, iD 0], [iD 2, iD 1, iD 4, iD 0]]
def sD2 : D := .sl 2 [[iD 0, iD 1], [iD 2, iD 1]]
def sD4 : D := .sl 6 [[iD 0, iD 1, .sl 3 [[iD 1, iD 0, iD 1], [iD 2, iD 0, iD 1]], .nils, .nils, .bool false], [iD 1, iD (-1), .sl 3 [[iD 4, iD 0, iD 1]], .nils, .nils, .bool false]]
theorem litS_at (s : Store) : CfAt s sD0 sD1 sD2 .nils sD4 litS :=
  ⟨at_lit c_Section (by simp), at_lit c_Joint (by simp), at_lit c_Signal (by simp), .nil, ⟨_, at_lit c_Route (by simp), rfl, fun i row r h1 h2 => by
    have hi : i = 0 ∨ i = 1 := by have := (List.getElem?_eq_some_iff.1 h1).1; simp at this; omega
    rcases hi with rfl | rfl
    · simp at h1; subst h1
      simp [litS] at h2; subst h2
      exact ⟨_, _, _, rfl, at_lit c_Step (by simp), .nil, .nil⟩
    · simp at h1; subst h1
      simp [litS] at h2; subst h2
      exact ⟨_, _, _, rfl, at_lit c_Step (by simp), .nil, .nil⟩⟩⟩
theorem litS_nz : RtsNz sD4 := by
  intro row hr
  simp only [List.mem_cons, List.not_mem_nil, or_false] at hr
  rcases hr with rfl | rfl <;> (intro e; cases e)
theorem law13_station_ok : Pure Tryz.prog n_law13_station [] σ (.a (cfA sD0 sD1 sD2 .nils sD4 litS)) := W_law13_station σ _ ⟨rfl, rfl⟩
theorem lockL0 : litS.lockL 0 = [1, 2] := by
  show Cf.lockR ⟨0, 1, [⟨1, 0, 1⟩, ⟨2, 0, 1⟩], [], [], false⟩ = [1, 2]
  rw [← insL_lockR]; decide +kernel
theorem req13_a : (newCo litS 5).requestC litS 5 0 = (newCo litS 5, 22) := by
  have h : (newCo litS 5).reqE litS 0 = 22 := by unfold Co.reqE; rw [lockL0]; decide +kernel
  have hg : (newCo litS 5).gate litS 5 22 = 22 := by decide +kernel
  rw [Co.requestC, h, hg]; rfl
def k13 : Co := { newCo litS 5 with Own := [-1, 0, 0, -1, -1] }
theorem req13_b : k13.requestC litS 5 0 = (k13.lockC litS 5 0, 0) := by
  have h : k13.reqE litS 0 = 0 := by unfold Co.reqE; rw [lockL0]; decide +kernel
  have hg : k13.gate litS 5 0 = 0 := by decide +kernel
  rw [Co.requestC, h, hg]; rfl
theorem req13_o : (k13.lockC litS 5 0).Own = [-1, 1, 1, -1, -1] := by unfold Co.lockC; rw [lockL0]; decide +kernel
theorem req13_r : (k13.lockC litS 5 0).Routes = [⟨1, 0, 0, 0⟩, ⟨0, 0, 0, 0⟩] := by unfold Co.lockC; rw [lockL0]; decide +kernel
theorem req13_p : (k13.lockC litS 5 0).Points[1]? = some ⟨1, 5⟩ := by unfold Co.lockC; rw [lockL0]; decide +kernel
theorem CoOwn.fit {s : Store} {d0 d1 d2 d3 d4 d5 : D} {k : Co} (h : CoOwn σ s d0 d1 d2 d3 d4 d5 k) (hl : k.Own.length ≤ 2 ^ 20 ∧ k.Routes.length ≤ 2 ^ 20 ∧ k.Points.length ≤ 2 ^ 20 ∧ k.Xs.length ≤ 2 ^ 20 ∧ k.Lines.length ≤ 2 ^ 20 ∧ k.Resets.length ≤ 2 ^ 20) : CoFit d0 d1 d2 d3 d4 d5 k :=
  ⟨h.own.nz, h.routes.nz, h.points.nz, h.xs.nz, h.lines.nz, h.resets.nz, by omega, by omega, by omega, by omega, by omega, by omega⟩
theorem law13_lives_ok : Pure Tryz.prog n_law13_lives [] σ (.a (bA true)) := by
  refine .of (W_law13_lives σ _ (law13_station_ok.use ⟨_, _, _, _, _, _, _, _, _, rfl, (locks_New_ok litS_at 5 (by decide) (by decide) (by decide)).mono ?_⟩)) (flat_b _)
  rintro r s ⟨k0, k1, k2, k3, k4, k5, rfl, hk⟩
  refine ⟨_, _, _, _, _, _, _, rfl, ?_⟩
  intro R hR
  refine hk.own.at_.lenK (bcn (fun e => absurd rfl e) (fun _ => law13_station_ok.use ⟨_, _, _, _, _, _, _, _, _, rfl, (locks_Fits_ok litS_at hk.at).use ⟨_, rfl, ?_⟩⟩))
  rw [show (newCo litS 5).fits litS = true from by decide +kernel]
  refine bcnot (fun e => by cases e) (fun _ => ⟨rfl, hR s ?_⟩)
  refine law13_station_ok.use ⟨_, _, _, _, _, _, _, _, _, rfl, (locks_Request_ok litS_at hk.at (hk.fit (by decide)) litS_nz 5 0).mono ?_⟩
  rintro r s1 ⟨a0, a1, a2, a3, a4, a5, rfl, ha⟩
  rw [req13_a] at ha ⊢
  refine ⟨_, _, _, _, _, _, _, _, rfl, ?_⟩
  have hk1 := hk.ext' ha.own.ext
  refine hk1.own.at_.idxK (j := 1) c_int rfl (by decide) (hk1.putO (j := 1) (x := -1) (y := 0) rfl rfl (by simp) rfl fun s2 hk2 _ => hk2.own.at_.idxK (j := 2) c_int rfl (by decide) (hk2.putO (j := 2) (x := -1) (y := 0) rfl rfl (by simp) rfl fun s3 hk3 _ => ?_))
  refine law13_station_ok.use ⟨_, _, _, _, _, _, _, _, _, rfl, (locks_Request_ok (k := k13) litS_at hk3.at (hk3.fit (by decide)) litS_nz 5 0).mono ?_⟩
  rintro r s4 ⟨b0, b1, b2, b3, b4, b5, rfl, hb⟩
  rw [req13_b] at hb ⊢
  refine ⟨_, _, _, _, _, _, _, _, rfl, bce (fun _ => bce (fun _ => ?_) (fun e => absurd rfl e)) (fun e => absurd rfl e)⟩
  have o := hb.own.at_
  have rr := hb.routes.at_
  rw [req13_o] at o
  rw [req13_r] at rr
  refine o.load (j := 1) (row := [iD 1]) rfl c_int rfl ⟨1, rfl, bce (fun _ => rr.load (j := 0) (row := [iD 1, iD 0, iD 0, iD 0]) rfl c_RouteState rfl ⟨1, rfl, bce (fun _ => ?_) (fun e => absurd rfl e)⟩) (fun e => absurd rfl e)⟩
  refine hb.points.at_.load (j := 1) (map_get req13_p) c_Mover rfl ⟨1, 5, rfl, rfl, ?_⟩
  exact hk3.own.ext.trans hb.own.ext
end Go.Proofs.YtpanpagcgckeoaaGreat
end
section
set_option linter.unusedVariables false
set_option linter.unusedSimpArgs false
namespace Go.Proofs.YtpanpagcgckeoaaGreat
open Go.Fw Go.Proofs Go.RowKit
variable {σ σ0 : Store}
theorem sm_lenN {B : Nat} {d : D} {el : TypeId} {rs : List (List D)} (h : ∀ s, At Tryz.prog s el d rs) (hs : SlSm B d) : rs.length ≤ B := by
  have hp := froz_plain (P := Tryz.prog) (el := el) (d := d) fun s => ⟨rs, (h s).rows⟩
  have hr := (h noS).rows
  cases d <;> simp only [Go.Fw.Rows] at hr <;> try exact hr.elim
  · subst hr; simp
  · subst hr; simp
  · obtain ⟨rfl, _⟩ := hr; exact hs _ _ rfl
  · exact absurd rfl (hp _ _ _)
theorem ref13_movers_ok {c0 c1 c2 c3 c4 : D} {c : Cf} (h : ∀ s, CfAt s c0 c1 c2 c3 c4 c) (now : Int) (h1 : c.Secs.length ≤ 2 ^ 20) (h2 : c.Xs.length ≤ 2 ^ 20) :
    DCalls Tryz.prog n_ref13_movers [cfA c0 c1 c2 c3 c4 c, iA now] σ fun r s => ∃ d1 d2, r = .tup [.one d1, .one d2] ∧ Own Tryz.prog σ s t_Mover d1 ((c.Secs.map (mvAt now)).map Mv.enc) ∧ Own Tryz.prog σ s t_Mover d2 ((List.replicate c.Xs.length (⟨1, now⟩ : Mv)).map Mv.enc) ∧ Apart d1 d2 := by
  refine W_ref13_movers _ _ _ _ _ _ _ _ _ now σ _ ((h σ).secs.lenK ⟨fun d n s => ∃ j : Nat, n = j ∧ j ≤ c.Secs.length ∧ Own Tryz.prog σ s t_Mover d (((c.Secs.take j).map (mvAt now)).map Mv.enc), fun _ n _ => c.Secs.length - n.toNat, ⟨0, rfl, by omega, .nil _ (.refl _)⟩, ?_⟩)
  rintro d _ s ⟨j, rfl, hj, ho⟩
  rw [List.length_map]
  refine bcd (fun hlt => ?_) (fun hge => ?_)
  · have hlt : j < c.Secs.length := by omega
    obtain ⟨x, hx⟩ := get_of_lt (l := c.Secs) (j := j) hlt
    have htake : ((c.Secs.take (j + 1)).map (mvAt now)).map Mv.enc = ((c.Secs.take j).map (mvAt now)).map Mv.enc ++ [(mvAt now x).enc] := by rw [List.take_add_one, hx]; simp
    refine (h s).secs.load (map_get hx) c_Section rfl ⟨x.Kind, x.OC, x.Line, rfl, ?_⟩
    have go : ∀ row : List D, row = (mvAt now x).enc → Fw.newObj s (.live t_Mover [row]) fun id s' => appendTo Tryz.prog s' t_Mover 16 d (.osl id 0 1) fun d1 s2 => (∃ j' : Nat, w64 ((j : Int) + 1) = j' ∧ j' ≤ c.Secs.length ∧ Own Tryz.prog σ s2 t_Mover d1 (((c.Secs.take j').map (mvAt now)).map Mv.enc)) ∧
        c.Secs.length - (w64 ((j : Int) + 1)).toNat < c.Secs.length - ((j : Nat) : Int).toNat := fun row hrow => newObj_intro fun id s1 hid _ he hs => (ho.ext' he).append (At.fresh (rs := [row]) hs (by simp) rfl) (by simp; omega) (by simp; omega) fun d' s2 ho' _ _ => by
      rw [w64_succ (by omega)]
      rw [hrow, ← htake] at ho'
      exact ⟨⟨j + 1, rfl, hlt, ho'⟩, dec_lt hlt⟩
    exact bce (fun hk => go _ (by simp [mvAt, hk, Mv.enc])) (fun hk => go _ (by simp [mvAt, hk, Mv.enc]))
  have e : j = c.Secs.length := by omega
  subst e
  rw [List.take_length] at ho
  refine (h s).xs.lenK ⟨fun d1 n s' => ∃ j : Nat, n = j ∧ j ≤ c.Xs.length ∧ Own Tryz.prog s s' t_Mover d1 ((List.replicate j (⟨1, now⟩ : Mv)).map Mv.enc), fun _ n _ => c.Xs.length - n.toNat, ⟨0, rfl, by omega, .nil _ (.refl _)⟩, ?_⟩
  rintro d1 _ s1 ⟨j, rfl, hj, ho1⟩
  rw [List.length_map]
  refine bcd (fun hlt => ?_) (fun hge => ?_)
  · have hlt : j < c.Xs.length := by omega
    refine newObj_intro fun id s2 hid _ he hs => (ho1.ext' he).append (At.fresh (rs := [Mv.enc ⟨1, now⟩]) hs (by simp) rfl) (by simp; omega) (by simp; omega) fun d' s3 ho' _ _ => ?_
    rw [w64_succ (by omega)]
    have e1 : (List.replicate j (⟨1, now⟩ : Mv)).map Mv.enc ++ [Mv.enc ⟨1, now⟩] = (List.replicate (j + 1) (⟨1, now⟩ : Mv)).map Mv.enc := by rw [List.replicate_succ']; simp
    rw [e1] at ho'
    exact ⟨⟨j + 1, rfl, hlt, ho'⟩, dec_lt hlt⟩
  have e : j = c.Xs.length := by omega
  subst e
  exact ⟨d, d1, rfl, ho.ext' ho1.ext, ho1.from ho.ext, ho1.apart ho.at_⟩
theorem ref13_New_ok {c0 c1 c2 c3 c4 : D} {c : Cf} (h : ∀ s, CfAt s c0 c1 c2 c3 c4 c) (now : Int) (h1 : c.Secs.length ≤ 2 ^ 20) (h2 : c.Xs.length ≤ 2 ^ 20) (h3 : c.Rts.length ≤ 2 ^ 20) :
    DCalls Tryz.prog n_ref13_New [cfA c0 c1 c2 c3 c4 c, iA now] σ fun r s => ∃ k0 k1 k2 k3 k4 k5, r = .a (coA k0 k1 k2 k3 k4 k5 true) ∧ CoOwn σ s k0 k1 k2 k3 k4 k5 (newCo c now) := by
  obtain ⟨rows, hat, hlen⟩ := rts_len (h σ)
  refine W_ref13_New _ _ _ _ _ _ _ _ _ now σ _ (hat.lenK ((h σ).secs.lenK ⟨by omega, by omega, by omega, newObj_intro fun id s1 hid _ he1 hs1 => ?_⟩))
  simp only [List.length_map, hlen]
  refine ⟨by omega, by omega, by omega, newObj_intro fun id1 s2 hid1 _ he2 hs2 => ⟨by omega, by omega, by omega, newObj_intro fun id2 s3 hid2 _ he3 hs3 => (h s3).secs.lenK ?_⟩⟩
  simp only [Int.toNat_natCast, List.length_map] at hs2 hs3 ⊢
  have he13 := (he1.trans he2).trans he3
  have eL : (newCo c now).Lines.map Ls.enc = List.replicate 4 [iD 0, iD 0, iD 0, iD 0, iD 0, iD 0, iD 0, iD 0] := by simp [newCo, Ls.enc]
  have eR : (newCo c now).Routes.map Rs.enc = List.replicate c.Rts.length [iD 0, iD 0, iD 0, iD 0] := by simp [newCo, Rs.enc]
  have eZ : (newCo c now).Resets.map Go.Fw.encI = List.replicate c.Secs.length [iD 0] := by simp [newCo, Go.Fw.encI]
  have oL : Own Tryz.prog σ s1 t_LineState (.osl id 0 4) ((newCo c now).Lines.map Ls.enc) := by rw [eL]; exact .at_new hid he1 hs1 (by simp) rfl
  have oR : Own Tryz.prog s1 s2 t_RouteState (.osl id1 0 c.Rts.length) ((newCo c now).Routes.map Rs.enc) := by rw [eR]; exact .at_new hid1 he2 hs2 (by simp; omega) (by simp)
  have oZ : Own Tryz.prog s2 s3 t_int (.osl id2 0 c.Secs.length) ((newCo c now).Resets.map Go.Fw.encI) := by rw [eZ]; exact .at_new hid2 he3 hs3 (by simp; omega) (by simp)
  refine ⟨fun d d1 d2 d3 d4 d5 b n s => ∃ j : Nat, n = j ∧ j ≤ c.Secs.length ∧ d1 = .osl id1 0 c.Rts.length ∧ d4 = .osl id 0 4 ∧ d5 = .osl id2 0 c.Secs.length ∧ b = true ∧ Own Tryz.prog s3 s t_int d ((List.replicate j (-1)).map Go.Fw.encI), fun _ _ _ _ _ _ _ n _ => c.Secs.length - n.toNat,
    ⟨0, rfl, by omega, rfl, rfl, rfl, rfl, .nil _ (.refl _)⟩, ?_⟩
  rintro d _ d2 d3 _ _ _ _ s ⟨j, rfl, hj, rfl, rfl, rfl, rfl, ho⟩
  refine bcd (fun hlt => ?_) (fun hge => ?_)
  · have hlt : j < c.Secs.length := by omega
    refine newObj_intro fun id3 s4 hid3 _ he4 hs4 => (ho.ext' he4).append (At.fresh (rs := [Go.Fw.encI (-1)]) hs4 (by simp) rfl) (by simp; omega) (by simp; omega) fun d' s5 ho' _ _ => ?_
    rw [w64_succ (by omega)]
    have e1 : (List.replicate j (-1 : Int)).map Go.Fw.encI ++ [Go.Fw.encI (-1)] = (List.replicate (j + 1) (-1 : Int)).map Go.Fw.encI := by rw [List.replicate_succ']; simp
    rw [e1] at ho'
    exact ⟨by trivial, ⟨j + 1, rfl, hlt, rfl, rfl, rfl, rfl, ho'⟩, dec_lt hlt⟩
  have e : j = c.Secs.length := by omega
  subst e
  refine (ref13_movers_ok h now h1 h2).mono ?_
  rintro r s6 ⟨e1, e2, rfl, o1, o2, hap⟩
  have hx := ho.ext.trans o1.ext
  have eO : (newCo c now).Own.map Go.Fw.encI = (List.replicate c.Secs.length (-1 : Int)).map Go.Fw.encI := rfl
  have aL := oL.at_.ext (he2.trans he3)
  have aR := oR.at_.ext he3
  refine ⟨e1, e2, rfl, _, _, _, _, _, _, rfl, ⟨(ho.ext' o1.ext).from he13, ((oR.ext' he3).ext' hx).from he1, o1.from (he13.trans ho.ext), o2.from (he13.trans ho.ext), (oL.ext' (he2.trans he3)).ext' hx, (oZ.ext' hx).from (he1.trans he2), ?_⟩⟩
  simp only [List.pairwise_cons, List.mem_cons, List.not_mem_nil, or_false, forall_eq_or_imp, forall_eq, List.Pairwise.nil, and_true, false_imp_iff, implies_true]
  exact ⟨⟨(ho.apart aR).symm, o1.apart ho.at_, o2.apart ho.at_, (ho.apart aL).symm, (ho.apart oZ.at_).symm⟩, ⟨o1.apart (aR.ext ho.ext), o2.apart (aR.ext ho.ext), (oR.apart oL.at_).symm, oZ.apart oR.at_⟩, ⟨hap, (o1.apart (aL.ext ho.ext)).symm, (o1.apart (oZ.at_.ext ho.ext)).symm⟩, ⟨(o2.apart (aL.ext ho.ext)).symm, (o2.apart (oZ.at_.ext ho.ext)).symm⟩, oZ.apart (oL.at_.ext he2)⟩
end Go.Proofs.YtpanpagcgckeoaaGreat
end
section
set_option linter.unusedVariables false
set_option linter.unusedSimpArgs false
namespace Go.Fw
theorem bad_iff {k : Nat} {n : Int} : (n < 0 ∨ n.fdiv (2 ^ (8 * k)) ≠ 0) ↔ (n < 0 ∨ 256 ^ k ≤ n) := by
  by_cases h0 : n < 0
  · simp [h0]
  · have e : (2 : Int) ^ (8 * k) = 256 ^ k := by rw [Int.pow_mul]; rfl
    have hp : (0 : Int) < 256 ^ k := Int.pow_pos (by omega)
    rw [e, Int.fdiv_eq_ediv_of_nonneg _ (Int.le_of_lt hp)]
    constructor
    · rintro (h | h)
      · exact .inl h
      · refine .inr (Classical.byContradiction fun hc => h (Int.ediv_eq_zero_of_lt (by omega) (by omega)))
    · rintro (h | h)
      · exact .inl h
      · refine .inr fun hz => ?_
        have := Int.lt_mul_ediv_self_add (x := n) hp
        rw [hz] at this
        omega
theorem Wr.num_room {w : Wr} {k : Nat} {n : Int} (hl : (w.out.length : Int) + k ≤ w.lim) :
    w.num k n = if w.e ≠ 0 then w else if n < 0 ∨ 256 ^ k ≤ n then { w with e := 32 } else { w with out := w.out ++ be k n } := by
  have hput : ∀ v : Wr, v.out = w.out → v.lim = w.lim → v.put (be k n) = if v.e = 0 then { v with out := v.out ++ be k n } else v := fun v h1 h2 => by
    have hc : ¬ ((k : Int) > v.lim - v.out.length) := by rw [h1, h2]; omega
    unfold Wr.put
    simp only [be_len, if_neg hc]
  unfold Wr.num
  by_cases hb : n < 0 ∨ 256 ^ k ≤ n
  · rw [if_pos (bad_iff.2 hb), hput _ (w.note_out 32).1 (w.note_out 32).2]
    unfold Wr.note
    by_cases he : w.e = 0
    · simp [he, hb]
    · simp [he]
  · rw [if_neg (fun h => hb (bad_iff.1 h)), hput _ rfl rfl]
    by_cases he : w.e = 0
    · simp [he, hb]
    · simp [he]
def Wr.putR (w : Wr) (l : List UInt8) (right : Bool) : Wr := if w.e ≠ 0 then w else if right = true then { w with out := w.out ++ l } else { w with e := 32 }
def ownR (w : Wr) (o : Int) : Wr := w.num 2 (if -2 ≤ o ∧ o < 65536 then o + 2 else -1)
theorem ownR_eq {w : Wr} (o : Int) (hl : (w.out.length : Int) + 2 ≤ w.lim) : ownR w o = ownW w o := by
  unfold ownR ownW
  have e : (256 : Int) ^ 2 = 65536 := by decide
  rw [Wr.num_room (by exact hl), Wr.num_room (by exact hl), e]
  by_cases he : w.e ≠ 0
  · rw [if_pos he, if_pos he]
  rw [if_neg he, if_neg he]
  by_cases h1 : -2 ≤ o ∧ o < 65534
  · rw [if_pos (show -2 ≤ o ∧ o < 65536 by omega), if_neg (show ¬ 1048576 < o by omega)]
  · rw [if_pos, if_pos]
    · split <;> omega
    · split <;> omega
def SimW (w v : Wr) : Prop := w.e = v.e ∧ w.out = v.out
theorem SimW.num {w v : Wr} (h : SimW w v) {k : Nat} (n : Int) (h1 : (w.out.length : Int) + k ≤ w.lim) (h2 : (v.out.length : Int) + k ≤ v.lim) : SimW (w.num k n) (v.num k n) := by
  rw [Wr.num_room h1, Wr.num_room h2]
  obtain ⟨he, ho⟩ := h
  rw [he, ho]
  split
  · exact ⟨he, ho⟩
  split
  · exact ⟨rfl, rfl⟩
  · exact ⟨rfl, rfl⟩
theorem sim_fold {α : Type} {f g : Wr → α → Wr} {m : Nat} (hf : ∀ w x, (f w x).out.length ≤ w.out.length + m ∧ (f w x).lim = w.lim) (hg : ∀ w x, (g w x).out.length ≤ w.out.length + m ∧ (g w x).lim = w.lim)
    (hs : ∀ w v x, SimW w v → (w.out.length : Int) + m ≤ w.lim → (v.out.length : Int) + m ≤ v.lim → SimW (f w x) (g v x)) : ∀ (l : List α) (w v : Wr), SimW w v → (w.out.length : Int) + m * l.length ≤ w.lim → (v.out.length : Int) + m * l.length ≤ v.lim →
      SimW (l.foldl f w) (l.foldl g v) := by
  intro l
  induction l with
  | nil => intro w v h _ _; exact h
  | cons x l ih =>
    intro w v h h1 h2
    rw [List.length_cons] at h1 h2
    have e : (m : Int) * ((l.length + 1 : Nat) : Int) = m * l.length + m := by rw [Int.natCast_add, Int.mul_add]; simp
    have hm0 : (0 : Int) ≤ m * l.length := Int.mul_nonneg (by omega) (by omega)
    rw [e] at h1 h2
    have a1 := hf w x
    have a2 := hg v x
    exact ih _ _ (hs w v x h (by omega) (by omega)) (by rw [a1.2]; omega) (by rw [a2.2]; omega)
theorem ownW_out' (w : Wr) (o : Int) : (ownW w o).out.length ≤ w.out.length + 2 ∧ (ownW w o).lim = w.lim := w.num_out 2 _
theorem ownR_out (w : Wr) (o : Int) : (ownR w o).out.length ≤ w.out.length + 2 ∧ (ownR w o).lim = w.lim := w.num_out 2 _
theorem rtW_out' (w : Wr) (r : Rs) : (rtW w r).out.length ≤ w.out.length + 2 ∧ (rtW w r).lim = w.lim := by
  have h1 := w.num_out 1 r.State
  have h2 := (w.num 1 r.State).num_out 1 r.Next
  unfold rtW
  exact ⟨by omega, h2.2.trans h1.2⟩
theorem lnW_out' (w : Wr) (l : Ls) : (lnW w l).out.length ≤ w.out.length + 12 ∧ (lnW w l).lim = w.lim := by
  have h1 := w.num_out 4 l.Ask
  have h2 := (w.num 4 l.Ask).num_out 4 l.Done
  have h3 := ((w.num 4 l.Ask).num 4 l.Done).num_out 4 l.Grant
  unfold lnW
  exact ⟨by omega, h3.2.trans (h2.2.trans h1.2)⟩
theorem foldW_out {α : Type} {f : Wr → α → Wr} {m : Nat} (hf : ∀ w x, (f w x).out.length ≤ w.out.length + m ∧ (f w x).lim = w.lim) : ∀ (l : List α) (w : Wr), (l.foldl f w).out.length ≤ w.out.length + m * l.length ∧ (l.foldl f w).lim = w.lim := by
  intro l
  induction l with
  | nil => intro w; simp
  | cons x l ih =>
    intro w
    have h1 := ih (f w x)
    have h2 := hf w x
    rw [List.foldl_cons]
    refine ⟨Nat.le_trans h1.1 ?_, h1.2.trans h2.2⟩
    rw [List.length_cons, Nat.mul_add]; omega
def Co.saveR (k : Co) : Wr := ((k.Lines.drop 1).take 3).foldl lnW (k.Routes.foldl rtW (k.Own.foldl ownR ⟨0, [], 2 ^ 40⟩))
theorem saveR_sim (k : Co) (h1 : k.Own.length ≤ 2 ^ 30) (h2 : k.Routes.length ≤ 2 ^ 30) : SimW k.saveR k.saveW := by
  have s1 := sim_fold (f := ownR) (g := ownW) (m := 2) ownR_out ownW_out' (fun w v x h a b => by rw [ownR_eq x a]; exact h.num _ a b) k.Own ⟨0, [], 2 ^ 40⟩ ⟨0, [], 2 * (k.Own.length : Int) + 2 * k.Routes.length + 36⟩ ⟨rfl, rfl⟩ (by simp; omega) (by simp; omega)
  have a1 := foldW_out ownR_out k.Own ⟨0, [], 2 ^ 40⟩
  have b1 := foldW_out ownW_out' k.Own ⟨0, [], 2 * (k.Own.length : Int) + 2 * k.Routes.length + 36⟩
  simp only [List.length_nil, Nat.zero_add] at a1 b1
  unfold Co.saveR Co.saveW
  generalize k.Own.foldl ownR ⟨0, [], 2 ^ 40⟩ = w1 at *
  generalize k.Own.foldl ownW ⟨0, [], 2 * (k.Own.length : Int) + 2 * k.Routes.length + 36⟩ = v1 at *
  have s2 := sim_fold (f := rtW) (g := rtW) (m := 2) rtW_out' rtW_out' (fun w v x h a b => by
    have q1 := w.num_out 1 x.State
    have q2 := v.num_out 1 x.State
    unfold rtW
    exact (h.num _ (by omega) (by omega)).num _ (by rw [q1.2]; omega) (by rw [q2.2]; omega)) k.Routes w1 v1 s1 (by rw [a1.2]; omega) (by rw [b1.2]; omega)
  have a2 := foldW_out rtW_out' k.Routes w1
  have b2 := foldW_out rtW_out' k.Routes v1
  generalize k.Routes.foldl rtW w1 = w2 at *
  generalize k.Routes.foldl rtW v1 = v2 at *
  have hl : ((k.Lines.drop 1).take 3).length ≤ 3 := by rw [List.length_take]; omega
  refine sim_fold (f := lnW) (g := lnW) (m := 12) lnW_out' lnW_out' (fun w v x h a b => ?_) _ w2 v2 s2 (by rw [a2.2, a1.2]; omega) (by rw [b2.2, b1.2]; omega)
  have q1 := w.num_out 4 x.Ask
  have q2 := v.num_out 4 x.Ask
  have r1 := (w.num 4 x.Ask).num_out 4 x.Done
  have r2 := (v.num 4 x.Ask).num_out 4 x.Done
  unfold lnW
  exact ((h.num _ (by omega) (by omega)).num _ (by rw [q1.2]; omega) (by rw [q2.2]; omega)).num _ (by rw [r1.2, q1.2]; omega) (by rw [r2.2, q2.2]; omega)
theorem be_step {m : Nat} {n x : Nat} (hx : x = n / 256 ^ m) : be (m + 1) (n : Int) = UInt8.ofNat (x % 256) :: be m (n : Int) := by
  rw [be]
  congr 1
  unfold byteAt
  have e : (n : Int).fdiv (2 ^ (8 * m)) = ((n / 256 ^ m : Nat) : Int) := by
    rw [Int.fdiv_eq_ediv_of_nonneg _ (by exact Int.pow_nonneg (by omega)), Int.pow_mul]
    simp
  rw [e, hx]
  congr 1
end Go.Fw
end
section
set_option linter.unusedVariables false
set_option linter.unusedSimpArgs false
namespace Go.Proofs.YtpanpagcgckeoaaGreat
open Go.Fw Go.Proofs Go.RowKit
variable {σ σ0 : Store}
structure WrR (σ0 s : Store) (id : Nat) (w : Wr) : Prop where
  new : σ0 id = .free
  cell : ∃ d, s id = .live t_ref01_Writer [[d, iD w.lim, iD w.e]] ∧ Own Tryz.prog σ0 s t_uint8 d (w.out.map encU) ∧ idOf d ≠ some id
theorem WrR.ext {s : Store} {id : Nat} {w : Wr} (h : WrR σ0 s id w) : Ext σ0 s := by
  obtain ⟨d, _, h, _⟩ := h.cell; exact h.ext
theorem WrR.ext' {s s' : Store} {id : Nat} {w : Wr} (h : WrR σ0 s id w) (he : Ext s s') : WrR σ0 s' id w := by
  obtain ⟨d, h1, h2, h3⟩ := h.cell
  exact ⟨h.new, d, by rw [he id (by rw [h1]; intro e; cases e)]; exact h1, h2.ext' he, h3⟩
theorem ref01_New_ok {n : Int} (hn : 0 ≤ n) : DCalls Tryz.prog n_ref01_New [iA n] σ fun r s => ∃ id, r = .a (.one (pO id)) ∧ WrR σ s id ⟨0, [], n⟩ := by
  refine W_ref01_New n σ _ (newObj_intro fun id s hid _ he hs => ?_)
  rw [if_neg (by omega)] at hs
  exact ⟨id, rfl, hid, .nils, hs, .nil _ he, by intro e; cases e⟩
theorem ref_put_ok {s : Store} {id : Nat} {w : Wr} (h : WrR σ0 s id w) {b : D} {l : List UInt8} (hb : At Tryz.prog s t_uint8 b (l.map encU)) (right : Bool) (hs : w.out.length + l.length ≤ 2 ^ 45) (hl : (w.out.length : Int) + l.length ≤ w.lim) (hlim : w.lim ≤ 2 ^ 60) :
    DCalls Tryz.prog n_ref01_Writer_put [.one (pO id), .one b, bA right] s fun r s' => r = .tup [] ∧ WrR σ0 s' id (w.putR l right) := by
  obtain ⟨hn, d, h1, h2, h3⟩ := h
  have ho := h2.at_.size
  have hbs := hb.size
  rw [List.length_map] at ho hbs
  unfold Wr.putR
  refine W_ref01_Writer_put (pO id) b right s _ ⟨trivial, _, _, _, rfl, _, box_row h1, w.e, rfl, bcn (fun e => ⟨rfl, ?_⟩) (fun e0 => bcnot (fun hr => ?_) (fun hr => ?_))⟩
  · rw [if_pos e]; exact ⟨hn, d, h1, h2, h3⟩
  · subst hr
    refine ⟨trivial, _, _, _, rfl, cell_store h1 (by simp) fun s' hs' ho' => ⟨rfl, ?_⟩⟩
    rw [if_neg (by simp [e0])]
    exact ⟨hn, d, hs', own_other h2 hn h3 ho', h3⟩
  · subst hr
    refine hb.lenK ⟨trivial, _, _, _, rfl, _, box_row h1, w.lim, rfl, trivial, _, _, _, rfl, _, box_row h1, d, rfl, h2.at_.lenK ?_⟩
    rw [List.length_map, List.length_map, w64_id (by omega) (by omega)]
    refine bcd (fun hg => by simp only [gt_iff_lt] at hg; omega) (fun _ => ⟨trivial, _, _, _, rfl, _, box_row h1, d, rfl, h2.append hb (by simp; omega) (by simp; omega) fun d2 s2 o2 k2 i2 => ⟨trivial, _, _, _, rfl, ?_⟩⟩)
    have hs2 : s2 id = .live t_ref01_Writer [[d, iD w.lim, iD w.e]] := by
      rw [k2 id (by rw [h1]; intro e; cases e) (fun a b e => h3 (by rw [e]; rfl)), h1]
    have hd2 : idOf d2 ≠ some id := fun hi => by
      cases d2 with
      | osl j a m =>
        have : j = id := by simpa [idOf] using hi
        subst this
        rcases i2 j a m rfl with g | ⟨a', b', g⟩
        · rw [h1] at g; cases g
        · exact h3 (by rw [g]; rfl)
      | _ => simp [idOf] at hi
    rw [← List.map_append] at o2
    refine cell_store hs2 (by simp) fun s3 hs3 ho3 => ⟨rfl, ?_⟩
    rw [if_neg (by simp [e0]), if_pos rfl]
    exact ⟨hn, d2, hs3, own_other o2 hn hd2 ho3, hd2⟩
theorem pow256 {j : Nat} (h : j ≤ 4) : (1 : Int) ≤ 256 ^ j ∧ (256 : Int) ^ j ≤ 4294967296 := by
  have : j = 0 ∨ j = 1 ∨ j = 2 ∨ j = 3 ∨ j = 4 := by omega
  rcases this with rfl | rfl | rfl | rfl | rfl <;> decide
theorem ref_Num_ok {s : Store} {id : Nat} {w : Wr} (h : WrR σ0 s id w) {k : Nat} (hk : k ≤ 4) {n : Int} (hI : -2 ^ 63 ≤ n ∧ n < 2 ^ 63) (hs : w.out.length + k ≤ 2 ^ 45) (hl : (w.out.length : Int) + k ≤ w.lim) (hlim : w.lim ≤ 2 ^ 60) {kk : Int} (hkk : kk = k) :
    DCalls Tryz.prog n_ref01_Writer_Num [.one (pO id), iA n, iA kk] s fun r s' => r = .tup [] ∧ WrR σ0 s' id (w.num k n) := by
  subst hkk
  have hp := pow256 hk
  have hnum := w.num_room (n := n) hl
  refine W_ref01_Writer_Num (pO id) n k s _ ⟨fun n1 n2 s' => s' = s ∧ ∃ j : Nat, n2 = j ∧ j ≤ k ∧ n1 = 256 ^ j, fun _ n2 _ => k - n2.toNat, ⟨rfl, 0, rfl, by omega, rfl⟩, ?_⟩
  rintro _ _ s' ⟨rfl, j, rfl, hj, rfl⟩
  refine bcd (fun hlt => ?_) (fun hge => ?_)
  · have hlt : j < k := by omega
    have hpj := pow256 (j := j + 1) (by omega)
    rw [Int.pow_succ] at hpj
    rw [w64_succ (by omega), w64_id (by omega) (by omega)]
    exact ⟨⟨rfl, j + 1, rfl, hlt, by rw [Int.pow_succ]⟩, dec_lt hlt⟩
  have e : j = k := by omega
  subst e
  have bad : (n < 0 ∨ 256 ^ j ≤ n) → DCalls Tryz.prog n_ref01_Writer_put [.one (pO id), .one .nils, bA false] s' fun r s1 => (r = .tup []) ∧ (RV.tup [] = RV.tup [] ∧ WrR σ0 s1 id (w.num j n)) := fun hb => by
    refine (ref_put_ok h (b := .nils) (l := []) .nil false (by simp; omega) (by simp; omega) hlim).mono ?_
    rintro r s1 ⟨rfl, h1⟩
    refine ⟨rfl, rfl, ?_⟩
    have e2 : w.num j n = w.putR [] false := by
      rw [hnum]
      unfold Wr.putR
      rw [if_pos hb, if_neg (show ¬ (false = true) by decide)]
    rw [e2]; exact h1
  intro R hR
  refine bcd (fun h0 => bad (.inl h0)) (fun h0 => bcd (fun h1 => bad (.inr h1)) (fun h1 => hR s' ?_))
  simp only [ge_iff_le] at h1
  obtain ⟨N, rfl⟩ := Int.eq_ofNat_of_zero_le (show 0 ≤ n by omega)
  refine ⟨by omega, by omega, by omega, newObj_intro fun id2 s2 hid2 _ he2 hs2 => ?_⟩
  rw [Int.toNat_natCast] at hs2 ⊢
  rw [w64_id (n := (j : Int) - 1) (by omega) (by omega)]
  refine ⟨fun n3 n4 s3 => ∃ m q : Nat, m + q = j ∧ n4 = (m : Int) - 1 ∧ n3 = ((N / 256 ^ q : Nat) : Int) ∧ Ext s' s3 ∧ s3 id2 = .live t_uint8 (List.replicate m [.int .u8 0] ++ (be q (N : Int)).map encU), fun _ n4 _ => (n4 + 1).toNat,
    ⟨j, 0, rfl, rfl, by simp, he2, by rw [hs2]; simp [be]⟩, ?_⟩
  rintro _ _ s3 ⟨m, q, hmq, rfl, rfl, he3, hs3⟩
  refine bcd (fun hge0 => ?_) (fun hlt0 => ?_)
  · obtain ⟨m', rfl⟩ : ∃ m', m = m' + 1 := ⟨m - 1, by omega⟩
    have hlen : (List.replicate (m' + 1) [D.int .u8 0] ++ (be q (N : Int)).map encU).length = j := by simp [be_len]; omega
    refine ⟨j, ⟨by omega, t_uint8, _, hs3, c_uint8⟩, by omega, by omega, id2, 0, j, t_uint8, _, [.int .u8 0], rfl, by omega, hs3, ?_, by simp, ?_⟩
    · rw [show 0 + (((m' + 1 : Nat) : Int) - 1).toNat = m' by omega, List.getElem?_append_left (by simp), List.getElem?_replicate, if_pos (by omega)]
    have hX : N / 256 ^ q < 2 ^ 63 := by
      have := Nat.div_le_self N (256 ^ q)
      omega
    generalize hx : N / 256 ^ q = X at *
    have h1 : Int.tdiv (X : Int) 256 = ((X / 256 : Nat) : Int) := by rw [Int.tdiv_eq_ediv_of_nonneg (by omega)]; rfl
    have h2 : Int.tmod (X : Int) 256 = ((X % 256 : Nat) : Int) := by rw [Int.tmod_eq_emod_of_nonneg (by omega)]; rfl
    have h3 : X % 256 < 256 := Nat.mod_lt _ (by omega)
    rw [h1, h2, w64_id (n := ((X / 256 : Nat) : Int)) (by omega) (by omega), w64_id (n := ((m' + 1 : Nat) : Int) - 1 - 1) (by omega) (by omega)]
    refine ⟨⟨m', q + 1, by omega, by omega, ?_, fun i hi => ?_, ?_⟩, by show (((m' + 1 : Nat) : Int) - 1 - 1 + 1).toNat < (((m' + 1 : Nat) : Int) - 1 + 1).toNat; omega⟩
    · rw [← hx, Nat.div_div_eq_div_mul, Nat.pow_succ]
    · rw [Store.set_ne _ _ (fun e => hi (by rw [e]; exact hid2))]; exact he3 i hi
    · rw [Store.set_same, show 0 + (((m' + 1 : Nat) : Int) - 1).toNat = m' by omega, be_step hx.symm]
      congr 1
      rw [List.replicate_succ', List.append_assoc]
      rw [List.set_append_right _ _ (by simp), List.length_replicate, Nat.sub_self]
      simp only [List.singleton_append, List.set_cons_zero, List.map_cons]
      congr 2
  · have hm0 : m = 0 := by omega
    subst hm0
    have hqj : q = j := by omega
    subst hqj
    rw [List.replicate_zero, List.nil_append] at hs3
    refine (ref_put_ok (h.ext' he3) (At.fresh hs3 (by simp [be_len]; omega) (by simp [be_len])) true (by rw [be_len]; exact hs) (by rw [be_len]; exact hl) hlim).mono ?_
    rintro r s4 ⟨rfl, h4⟩
    refine ⟨rfl, rfl, ?_⟩
    have e2 : w.num q (N : Int) = w.putR (be q (N : Int)) true := by
      rw [hnum]
      unfold Wr.putR
      rw [if_neg (show ¬ ((N : Int) < 0 ∨ 256 ^ q ≤ (N : Int)) by omega), if_pos rfl]
    rw [e2]; exact h4
theorem ref_Done_ok {s : Store} {id : Nat} {w : Wr} (h : WrR σ0 s id w) :
    Pure Tryz.prog n_ref01_Writer_Done [.one (pO id)] s (.tup [.one (.str (ofL (if w.e = 0 then w.out else []))), iA w.e]) := by
  obtain ⟨hn, d, h1, h2, h3⟩ := h
  refine W_ref01_Writer_Done (pO id) s _ ⟨trivial, _, _, _, rfl, _, box_row h1, w.e, rfl, bcn (fun e => ?_) (fun e => ?_)⟩
  · refine ⟨trivial, _, _, _, rfl, _, box_row h1, w.e, rfl, ?_⟩
    rw [if_neg e]; exact ⟨rfl, rfl⟩
  · refine ⟨trivial, _, _, _, rfl, _, box_row h1, d, rfl, ofL w.out, ?_, ?_⟩
    · rw [bytesD_ofL]; exact h2.at_.rows
    · rw [if_pos e, e]; exact ⟨rfl, rfl⟩
def RdR (s : Store) (id : Nat) (r : Rd) : Prop := s id = .live t_ref01_Reader [[.str (ofL r.l), .bool (decide (r.e ≠ 0))]]
theorem ref_Read_ok {s : Store} {id : Nat} {r : Rd} (h : RdR s id r) {k : Nat} (hk : k ≤ 4) (hl : r.l.length ≤ 2 ^ 60) {kk : Int} (hkk : kk = k) :
    DCalls Tryz.prog n_ref01_Reader_Num [.one (pO id), iA kk] s fun rr s' => rr = .a (iA (r.num k).1) ∧ RdR s' id (r.num k).2 ∧ ∀ i, i ≠ id → s' i = s i := by
  subst hkk
  have bad : (r.short k).e ≠ 0 → storeEl [.bool true] s (.osl id 0 1) 0 (0 + 1) fun s' => (RV.a (iA 0) = .a (iA (r.num k).1) ∧ RdR s' id (r.num k).2 ∧ ∀ i, i ≠ id → s' i = s i) := fun hb => by
    refine cell_store h (by simp) fun s' hs' ho' => ?_
    unfold Rd.num
    rw [if_neg hb]
    refine ⟨rfl, ?_, ho'⟩
    unfold RdR
    rw [hs', Rd.short_l, decide_eq_true hb]; rfl
  refine W_ref01_Reader_Num (pO id) k s _ ?_
  intro R hR
  refine ⟨trivial, _, _, _, rfl, _, box_row h, _, rfl, bcd (fun he => ⟨trivial, _, _, _, rfl, bad ?_⟩) (fun he => ⟨trivial, _, _, _, rfl, _, box_row h, ofL r.l, rfl, ?_⟩)⟩
  · unfold Rd.short
    split <;> first | exact he | (rw [if_neg he]; exact he)
  have he : r.e = 0 := Classical.not_not.1 he
  rw [size_ofL]
  refine bcd (fun hlt => ⟨trivial, _, _, _, rfl, bad ?_⟩) (fun hge => hR s ?_)
  · unfold Rd.short
    rw [if_pos (by omega), if_pos he]
    show (1 : Int) ≠ 0
    decide
  have hsh : r.short k = r := by unfold Rd.short; rw [if_neg (by omega)]
  have hnum : r.num k = (rd (r.l.take k), ⟨0, r.l.drop k⟩) := by unfold Rd.num; rw [hsh, if_pos he]
  rw [hnum]
  refine ⟨fun n n1 s' => s' = s ∧ ∃ j : Nat, n1 = j ∧ j ≤ k ∧ n = rd (r.l.take j), fun _ n1 _ => k - n1.toNat, ⟨rfl, 0, rfl, by omega, rfl⟩, ?_⟩
  rintro _ _ s' ⟨rfl, j, rfl, hj, rfl⟩
  refine bcd (fun hlt => ?_) (fun hge1 => ?_)
  · have hlt : j < k := by omega
    obtain ⟨c, hc⟩ := get_of_lt (l := r.l) (j := j) (by omega)
    refine ⟨trivial, _, _, _, rfl, _, box_row h, ofL r.l, rfl, (c.toNat : Int), ⟨by omega, c, by rw [ofL_data, Int.toNat_natCast]; exact hc, rfl⟩, ?_⟩
    have hx := rdL_lt (r.l.take j) 0 (by omega)
    have hp := pow256 (j := (r.l.take j).length) (by rw [List.length_take]; omega)
    have hb : 0 ≤ rd (r.l.take j) ∧ rd (r.l.take j) < 4294967296 := by unfold rd; omega
    have hcn : (c.toNat : Int) < 256 := by have := c.toNat_lt; omega
    rw [w64_succ (by omega), w64_id (n := (c.toNat : Int)) (by omega) (by omega), w64_id (n := 256 * rd (r.l.take j)) (by omega) (by omega), w64_id (by omega) (by omega)]
    refine ⟨⟨rfl, j + 1, rfl, hlt, ?_⟩, dec_lt hlt⟩
    rw [List.take_add_one, hc, Option.toList_some, rd, rd, rdL_append]
    show _ = rdL (r.l.take j) 0 * 256 + (c.toNat : Int)
    rw [Int.mul_comm]
  have e : j = k := by omega
  subst e
  refine ⟨trivial, _, _, _, rfl, _, box_row h, ofL r.l, rfl, by omega, by rw [size_ofL]; omega, trivial, _, _, _, rfl, cell_store h (by simp) fun s1 hs1 ho1 => ⟨rfl, ?_, ho1⟩⟩
  unfold RdR
  rw [hs1, Int.toNat_natCast, size_ofL, extract_ofL, List.take_length, he]
  rfl
theorem ref_End_ok {s : Store} {id : Nat} {r : Rd} (h : RdR s id r) : Pure Tryz.prog n_ref01_Reader_End [.one (pO id)] s (.a (iA (if r.e ≠ 0 then 1 else if r.l ≠ [] then 3 else 0))) := by
  refine W_ref01_Reader_End (pO id) s _ ⟨trivial, _, _, _, rfl, _, box_row h, _, rfl, bcd (fun he => ?_) (fun he => ⟨trivial, _, _, _, rfl, _, box_row h, ofL r.l, rfl, ?_⟩)⟩
  · rw [if_pos he]; exact ⟨rfl, rfl⟩
  rw [if_neg he, size_ofL]
  refine bcd (fun hg => ?_) (fun hg => ?_)
  · rw [if_pos (by intro e; rw [e] at hg; simp at hg)]; exact ⟨rfl, rfl⟩
  · have : r.l = [] := List.length_eq_zero_iff.1 (by omega)
    rw [if_neg (by simp [this])]; exact ⟨rfl, rfl⟩
/-! ### Save and Load -/
theorem ref13_Save_ok {k0 k1 k2 k3 k4 k5 : D} {k : Co} (hk : CoAt σ k0 k1 k2 k3 k4 k5 k) (h1 : k.Own.length ≤ 2 ^ 30) (h2 : k.Routes.length ≤ 2 ^ 30) (hI : CoI k) :
    Pure Tryz.prog n_ref13_Save [coA k0 k1 k2 k3 k4 k5 k.Dirty] σ (.tup [.one (.str (ofL k.saveC.1)), iA k.saveC.2]) := by
  refine .of ?_ (.tup [.str (ofL k.saveC.1), iD k.saveC.2] (by simp only [List.mem_cons, List.not_mem_nil, or_false]; rintro d (rfl | rfl) <;> constructor))
  have hl4 := hk.lines.size
  rw [List.length_map] at hl4
  refine W_ref13_Save k0 k1 k2 k3 k4 k5 k.Dirty σ _ ((ref01_New_ok (by omega)).mono ?_)
  rintro r s ⟨id, rfl, hw⟩
  refine ⟨_, rfl, (hk.own.ext hw.ext).lenK ?_⟩
  rw [List.length_map]
  have hw : WrR σ s id ⟨0, [], 2 ^ 40⟩ := hw
  generalize hw0 : (⟨0, [], 2 ^ 40⟩ : Wr) = w0 at hw
  have l0 : w0.out.length = 0 ∧ w0.lim = 2 ^ 40 := by rw [← hw0]; exact ⟨rfl, rfl⟩
  refine ⟨fun n s => ∃ j : Nat, n = j ∧ j ≤ k.Own.length ∧ WrR σ s id ((k.Own.take j).foldl ownR w0), fun n _ => k.Own.length - n.toNat, ⟨0, rfl, by omega, hw⟩, ?_⟩
  rintro _ s1 ⟨j, rfl, hj, hw1⟩
  refine bcd (fun hlt => ?_) (fun hge1 => ?_)
  · have hlt : j < k.Own.length := by omega
    obtain ⟨o, ho⟩ := get_of_lt (l := k.Own) (j := j) hlt
    have hof := fold_out ownR_out (k.Own.take j) w0
    rw [List.length_take, Nat.min_eq_left hj] at hof
    refine (hk.own.ext hw1.ext).load (map_get ho) c_int rfl ⟨o, rfl, ?_⟩
    have next : ∀ n : Int, n = (if -2 ≤ o ∧ o < 65536 then o + 2 else -1) → DCalls Tryz.prog n_ref01_Writer_Num [.one (pO id), iA n, iA 2] s1 fun r1 s2 => (r1 = .tup []) ∧ ((∃ j' : Nat, w64 ((j : Int) + 1) = j' ∧ j' ≤ k.Own.length ∧ WrR σ s2 id ((k.Own.take j').foldl ownR w0)) ∧
        k.Own.length - (w64 ((j : Int) + 1)).toNat < k.Own.length - ((j : Nat) : Int).toNat) := fun n hn => by
      refine (ref_Num_ok hw1 (k := 2) (by omega) (by rw [hn]; split <;> omega) (by omega) (by rw [hof.2]; omega) (by rw [hof.2]; omega) rfl).mono ?_
      rintro r s2 ⟨rfl, hw2⟩
      rw [w64_succ (by omega)]
      refine ⟨rfl, ⟨j + 1, rfl, hlt, ?_⟩, dec_lt hlt⟩
      rw [fold_take _ _ _ _ _ ho, ownR, ← hn]; exact hw2
    refine bcd (fun c1 => bcd (fun c2 => next _ ?_) (fun c2 => next _ ?_)) (fun c1 => next _ ?_)
    · rw [if_pos (by omega), w64_id (by omega) (by omega)]
    · rw [if_neg (by omega)]
    · rw [if_neg (by omega)]
  have e : j = k.Own.length := by omega
  subst e
  rw [List.take_length] at hw1
  have hof := fold_out ownR_out k.Own w0
  generalize hw1e : k.Own.foldl ownR w0 = w1 at hw1 hof
  refine (hk.routes.ext hw1.ext).lenK ⟨fun n s => ∃ j : Nat, n = j ∧ j ≤ k.Routes.length ∧ WrR σ s id ((k.Routes.take j).foldl rtW w1), fun n _ => k.Routes.length - n.toNat, ⟨0, rfl, by omega, hw1⟩, ?_⟩
  rintro _ s2 ⟨j, rfl, hj, hw2⟩
  rw [List.length_map]
  refine bcd (fun hlt => ?_) (fun hge2 => ?_)
  · have hlt : j < k.Routes.length := by omega
    obtain ⟨o, ho⟩ := get_of_lt (l := k.Routes) (j := j) hlt
    have hoi := hI.routes o (List.mem_of_getElem? ho)
    have hrf := fold_out rtW_out (k.Routes.take j) w1
    rw [List.length_take, Nat.min_eq_left hj] at hrf
    have i1 := hoi.1
    have i2 := hoi.2.2.1
    simp only [I64] at i1 i2
    refine (hk.routes.ext hw2.ext).load (map_get ho) c_RouteState rfl ⟨o.State, o.Since, o.Next, o.Mark, rfl, (ref_Num_ok hw2 (k := 1) (by omega) (by omega) (by omega) (by rw [hrf.2, hof.2]; omega) (by rw [hrf.2, hof.2]; omega) rfl).mono ?_⟩
    rintro r s3 ⟨rfl, hw3⟩
    have hn1 := ((k.Routes.take j).foldl rtW w1).num_out 1 o.State
    refine ⟨rfl, (ref_Num_ok hw3 (k := 1) (by omega) (by omega) (by omega) (by rw [hn1.2, hrf.2, hof.2]; omega) (by rw [hn1.2, hrf.2, hof.2]; omega) rfl).mono ?_⟩
    rintro r s4 ⟨rfl, hw4⟩
    rw [w64_succ (by omega)]
    exact ⟨rfl, ⟨j + 1, rfl, hlt, by rw [fold_take _ _ _ _ _ ho]; exact hw4⟩, dec_lt hlt⟩
  have e : j = k.Routes.length := by omega
  subst e
  rw [List.take_length] at hw2
  have hrf := fold_out rtW_out k.Routes w1
  generalize hw2e : k.Routes.foldl rtW w1 = w2 at hw2 hrf
  have hk4 := hk.lines.ext hw2.ext
  refine hk4.lenK ?_
  rw [List.length_map]
  refine bcd (fun hlt => ?_) (fun hge => ?_)
  · rw [Co.saveC, if_pos (by omega)]
    exact ⟨rfl, hw2.ext⟩
  have hge : ¬ k.Lines.length < 4 := by omega
  have hsub := hk4.sub (lo := 1) (hi := 4) (by omega) (by rw [List.length_map]; omega)
  rw [← List.map_drop, ← List.map_take] at hsub
  have hsl : ((k.Lines.drop 1).take (4 - 1)).length = 3 := by rw [List.length_take, List.length_drop]; omega
  refine hk4.sliceK (lo := 1) (hi := 4) c_LineState rfl rfl (by omega) (by rw [List.length_map]; omega) (hsub.lenK ⟨fun n s => ∃ j : Nat, n = j ∧ j ≤ 3 ∧ WrR σ s id ((((k.Lines.drop 1).take 3).take j).foldl lnW w2), fun n _ => 3 - n.toNat, ⟨0, rfl, by omega, hw2⟩, ?_⟩)
  rintro _ s3 ⟨j, rfl, hj, hw3⟩
  rw [List.length_map, hsl]
  have hsub3 : At Tryz.prog s3 t_LineState (dsub k4 1 4) (((k.Lines.drop 1).take 3).map Ls.enc) := by
    have := (hk.lines.ext hw3.ext).sub (lo := 1) (hi := 4) (by omega) (by rw [List.length_map]; omega)
    rw [← List.map_drop, ← List.map_take] at this; exact this
  refine bcd (fun hlt => ?_) (fun hge3 => ?_)
  · have hlt : j < 3 := by omega
    obtain ⟨o, ho⟩ := get_of_lt (l := (k.Lines.drop 1).take 3) (j := j) (by rw [hsl]; exact hlt)
    have hoi := hI.lines o (List.mem_of_mem_drop (List.mem_of_mem_take (List.mem_of_getElem? ho)))
    have i1 := hoi.1
    have i2 := hoi.2
    have i3 := hoi.3
    simp only [I64] at i1 i2 i3
    have hlf := fold_out lnW_out (((k.Lines.drop 1).take 3).take j) w2
    rw [List.length_take, hsl, Nat.min_eq_left hj] at hlf
    generalize hwj : (((k.Lines.drop 1).take 3).take j).foldl lnW w2 = wj at hw3 hlf
    have n1 := wj.num_out 4 o.Ask
    have n2 := (wj.num 4 o.Ask).num_out 4 o.Done
    have hlm : wj.lim = 2 ^ 40 := by rw [hlf.2, hrf.2, hof.2]; exact l0.2
    refine hsub3.load (map_get ho) c_LineState rfl ⟨o.Ask, o.Done, o.Grant, o.Told, o.PAsk, o.PDone, o.PGrant, o.Since, rfl, (ref_Num_ok hw3 (k := 4) (by omega) (by omega) (by omega) (by omega) (by omega) rfl).mono ?_⟩
    rintro r s4 ⟨rfl, hw4⟩
    refine ⟨rfl, (ref_Num_ok hw4 (k := 4) (by omega) (by omega) (by omega) (by omega) (by omega) rfl).mono ?_⟩
    rintro r s5 ⟨rfl, hw5⟩
    refine ⟨rfl, (ref_Num_ok hw5 (k := 4) (by omega) (by omega) (by omega) (by omega) (by omega) rfl).mono ?_⟩
    rintro r s6 ⟨rfl, hw6⟩
    rw [w64_succ (by omega)]
    exact ⟨rfl, ⟨j + 1, rfl, hlt, by rw [fold_take _ _ _ _ _ ho, hwj]; exact hw6⟩, dec_lt hlt⟩
  have e : j = 3 := by omega
  subst e
  rw [List.take_take, Nat.min_self] at hw3
  have hsave : ((k.Lines.drop 1).take 3).foldl lnW w2 = k.saveR := by rw [Co.saveR, ← hw2e, ← hw1e, ← hw0]
  rw [hsave] at hw3
  have hsim := saveR_sim k h1 h2
  refine (ref_Done_ok hw3).use ⟨_, _, rfl, ?_⟩
  rw [Co.saveC, if_neg hge, hsim.1, hsim.2]
  exact ⟨rfl, hw3.ext⟩
theorem rdRts_zero : ∀ (n : Nat) (r : Rd), ∀ x ∈ (rdRts n r).1, x.Since = 0 ∧ x.Mark = 0 := by
  intro n
  induction n with
  | zero => intro r x hx; cases hx
  | succ n ih =>
    intro r x hx
    rw [rdRts] at hx
    simp only [List.mem_cons] at hx
    rcases hx with rfl | hx
    · exact ⟨rfl, rfl⟩
    · exact ih _ x hx
theorem ref13_Load_ok {c0 c1 c2 c3 c4 : D} {c : Cf} (h : ∀ s, CfAt s c0 c1 c2 c3 c4 c) (now : Int) (h1 : c.Secs.length ≤ 2 ^ 20) (h2 : c.Xs.length ≤ 2 ^ 20) (h3 : c.Rts.length ≤ 2 ^ 20) {l : List UInt8} (hl : l.length ≤ 2 ^ 60) :
    DCalls Tryz.prog n_ref13_Load [cfA c0 c1 c2 c3 c4 c, iA now, .one (.str (ofL l))] σ (CoPost σ (c.loadC now l)) := by
  refine W_ref13_Load _ _ _ _ _ _ _ _ _ now (ofL l) σ _ ((ref13_New_ok h now h1 h2 h3).mono ?_)
  rintro r s0 ⟨k0, k1, k2, k3, k4, k5, rfl, hk0⟩
  refine ⟨_, _, _, _, _, _, _, rfl, newObj_intro fun id s1 hid0 hset he1 hs1 => ?_⟩
  have hr1 : RdR s1 id ⟨0, l⟩ := hs1
  have ho1 : ∀ i, i ≠ id → s1 i = s0 i := fun i hi => by rw [hset, Store.set_ne _ _ hi]
  have hid : σ id = .free := by
    by_cases hf : σ id = .free
    · exact hf
    · have := hk0.own.ext id hf; rw [hid0] at this; exact this.symm
  have hne : ∀ d ∈ [k0, k1, k2, k3, k4, k5], idOf d ≠ some id := by
    intro d hd hi
    simp only [List.mem_cons, List.not_mem_nil, or_false] at hd
    rcases hd with rfl | rfl | rfl | rfl | rfl | rfl
    · exact live_idOf'' hk0.own.at_ hi hid0
    · exact live_idOf'' hk0.routes.at_ hi hid0
    · exact live_idOf'' hk0.points.at_ hi hid0
    · exact live_idOf'' hk0.xs.at_ hi hid0
    · exact live_idOf'' hk0.lines.at_ hi hid0
    · exact live_idOf'' hk0.resets.at_ hi hid0
  have hk1 := hk0.other hid hne ho1
  have eO : (newCo c now).Own = List.replicate c.Secs.length (-1) := rfl
  have eR : (newCo c now).Routes = List.replicate c.Rts.length ⟨0, 0, 0, 0⟩ := rfl
  have eL : (newCo c now).Lines = List.replicate 4 ⟨0, 0, 0, 0, 0, 0, 0, 0⟩ := rfl
  have eD : (newCo c now).Dirty = true := rfl
  have nO : (newCo c now).Own.length = c.Secs.length := by simp [newCo]
  have nR : (newCo c now).Routes.length = c.Rts.length := by simp [newCo]
  generalize hkk : newCo c now = k at *
  refine hk1.own.at_.lenK ?_
  rw [List.length_map, nO]
  -- the owners
  refine ⟨fun n s => ∃ (j : Nat) (a : List Int) (q : Rd), n = j ∧ j ≤ c.Secs.length ∧ a.length = j ∧ CoOwn σ s k0 k1 k2 k3 k4 k5 { k with Own := a ++ List.replicate (c.Secs.length - j) (-1) } ∧ RdR s id q ∧ q.l.length ≤ l.length ∧
      rdOwn c.Secs.length ⟨0, l⟩ = (a ++ (rdOwn (c.Secs.length - j) q).1, (rdOwn (c.Secs.length - j) q).2), fun n _ => c.Secs.length - n.toNat, ⟨0, [], ⟨0, l⟩, rfl, by omega, rfl, by rw [List.nil_append, Nat.sub_zero, ← eO]; exact hk1, hr1, Nat.le_refl _, rfl⟩, ?_⟩
  rintro _ s2 ⟨j, a, q, rfl, hj, ha, hk2, hr2, hq, hrd⟩
  refine bcd (fun hlt => ?_) (fun hge => ?_)
  · have hlt : j < c.Secs.length := by omega
    obtain ⟨m, hm⟩ : ∃ m, c.Secs.length - j = m + 1 := ⟨c.Secs.length - j - 1, by omega⟩
    have hm' : c.Secs.length - (j + 1) = m := by omega
    rw [hm] at hk2 hrd
    rw [List.replicate_succ] at hk2
    refine (ref_Read_ok hr2 (k := 2) (by omega) (by omega) rfl).mono ?_
    rintro r s3 ⟨rfl, hr3, ho3⟩
    have hk3 := hk2.other hid hne ho3
    have hn2 : 0 ≤ (q.num 2).1 ∧ (q.num 2).1 < 2 ^ 60 := by
      unfold Rd.num
      split
      · have := rdL_lt ((q.short 2).l.take 2) 0 (by omega)
        refine ⟨this.1, Int.lt_of_lt_of_le this.2 ?_⟩
        have e : ∀ m : Nat, (0 + 1 : Int) * (256 : Int) ^ m = ((256 ^ m : Nat) : Int) := fun m => by simp
        rw [e]
        have : 256 ^ ((q.short 2).l.take 2).length ≤ 256 ^ 2 := Nat.pow_le_pow_right (by omega) (by rw [List.length_take]; omega)
        omega
      · exact ⟨Int.le_refl 0, by show (0 : Int) < 2 ^ 60; decide⟩
    refine ⟨_, rfl, ?_⟩
    rw [w64_id (n := (q.num 2).1 - 2) (by omega) (by omega)]
    refine hk3.own.at_.idxK (j := j) c_int rfl (by simp; omega) (hk3.putO (k := { k with Own := a ++ -1 :: List.replicate m (-1) }) (j := j) (x := -1) (y := (q.num 2).1 - 2) (by show (a ++ -1 :: List.replicate m (-1))[j]? = _; rw [← ha, List.getElem?_append_right (Nat.le_refl _), Nat.sub_self]; rfl) (by omega) (by simp) rfl fun s4 hk4 ho4 => ⟨by trivial, ?_⟩)
    rw [w64_succ (by omega)]
    refine ⟨⟨j + 1, a ++ [(q.num 2).1 - 2], (q.num 2).2, rfl, hlt, by simp [ha], ?_, (ho4 id (hne _ (by simp))).trans hr3, Nat.le_trans (q.num_len 2) hq, ?_⟩, dec_lt hlt⟩
    · rw [hm']
      have e : (a ++ -1 :: List.replicate m (-1)).set j ((q.num 2).1 - 2) = a ++ [(q.num 2).1 - 2] ++ List.replicate m (-1) := by rw [← ha, set_mid]; simp
      rw [← e]; exact hk4
    · rw [hm', hrd, rdOwn, List.append_assoc]; rfl
  have e : j = c.Secs.length := by omega
  subst e
  rw [Nat.sub_self, List.replicate_zero, List.append_nil] at hk2
  rw [Nat.sub_self, rdOwn, List.append_nil] at hrd
  -- the routes
  refine hk2.routes.at_.lenK ?_
  rw [List.length_map, nR]
  refine ⟨fun n s => ∃ (j : Nat) (b : List Rs) (p : Rd), n = j ∧ j ≤ c.Rts.length ∧ b.length = j ∧ CoOwn σ s k0 k1 k2 k3 k4 k5 { k with Own := a, Routes := b ++ List.replicate (c.Rts.length - j) ⟨0, 0, 0, 0⟩ } ∧ RdR s id p ∧ p.l.length ≤ l.length ∧
      rdRts c.Rts.length q = (b ++ (rdRts (c.Rts.length - j) p).1, (rdRts (c.Rts.length - j) p).2), fun n _ => c.Rts.length - n.toNat, ⟨0, [], q, rfl, by omega, rfl, by rw [List.nil_append, Nat.sub_zero, ← eR]; exact hk2, hr2, hq, rfl⟩, ?_⟩
  rintro _ s3 ⟨j, b, p, rfl, hj, hb, hk3, hr3, hp, hrt⟩
  refine bcd (fun hlt => ?_) (fun hge => ?_)
  · have hlt : j < c.Rts.length := by omega
    obtain ⟨m, hm⟩ : ∃ m, c.Rts.length - j = m + 1 := ⟨c.Rts.length - j - 1, by omega⟩
    have hm' : c.Rts.length - (j + 1) = m := by omega
    rw [hm] at hk3 hrt
    rw [List.replicate_succ] at hk3
    refine (ref_Read_ok hr3 (k := 1) (by omega) (by omega) rfl).mono ?_
    rintro r s4 ⟨rfl, hr4, ho4⟩
    refine ⟨_, rfl, (ref_Read_ok hr4 (k := 1) (by omega) (by have := p.num_len 1; omega) rfl).mono ?_⟩
    rintro r s5 ⟨rfl, hr5, ho5⟩
    have hk5 := (hk3.other hid hne ho4).other hid hne ho5
    refine ⟨_, rfl, hk5.routes.at_.idxK (j := j) c_RouteState rfl (by simp; omega) (hk5.putR (k := { k with Own := a, Routes := b ++ ⟨0, 0, 0, 0⟩ :: List.replicate m ⟨0, 0, 0, 0⟩ }) (j := j) (x := ⟨0, 0, 0, 0⟩) (y := ⟨(p.num 1).1, 0, ((p.num 1).2.num 1).1, 0⟩) (by show (b ++ (⟨0, 0, 0, 0⟩ : Rs) :: List.replicate m ⟨0, 0, 0, 0⟩)[j]? = _; rw [← hb, List.getElem?_append_right (Nat.le_refl _), Nat.sub_self]; rfl) (by omega) (by simp) rfl fun s6 hk6 ho6 => ⟨by trivial, ?_⟩)⟩
    rw [w64_succ (by omega)]
    refine ⟨⟨j + 1, b ++ [⟨(p.num 1).1, 0, ((p.num 1).2.num 1).1, 0⟩], ((p.num 1).2.num 1).2, rfl, hlt, by simp [hb], ?_, (ho6 id (hne _ (by simp))).trans hr5, Nat.le_trans ((p.num 1).2.num_len 1) (Nat.le_trans (p.num_len 1) hp), ?_⟩, dec_lt hlt⟩
    · rw [hm']
      have e : (b ++ (⟨0, 0, 0, 0⟩ : Rs) :: List.replicate m ⟨0, 0, 0, 0⟩).set j ⟨(p.num 1).1, 0, ((p.num 1).2.num 1).1, 0⟩ = b ++ [⟨(p.num 1).1, 0, ((p.num 1).2.num 1).1, 0⟩] ++ List.replicate m ⟨0, 0, 0, 0⟩ := by rw [← hb, set_mid]; simp
      rw [← e]; exact hk6
    · rw [hm', hrt, rdRts, List.append_assoc]; rfl
  have e : j = c.Rts.length := by omega
  subst e
  rw [Nat.sub_self, List.replicate_zero, List.append_nil] at hk3
  rw [Nat.sub_self, rdRts, List.append_nil] at hrt
  -- the lines
  obtain ⟨N, hN⟩ : ∃ N : Nat, N = 3 := ⟨3, rfl⟩
  refine ⟨fun n s => ∃ (j : Nat) (d : List Ls) (p' : Rd), n = (j : Int) + 1 ∧ j ≤ N ∧ d.length = j ∧ CoOwn σ s k0 k1 k2 k3 k4 k5 { k with Own := a, Routes := b, Lines := ⟨0, 0, 0, 0, 0, 0, 0, 0⟩ :: (d ++ List.replicate (N - j) ⟨0, 0, 0, 0, 0, 0, 0, 0⟩) } ∧ RdR s id p' ∧ p'.l.length ≤ l.length ∧
      rdLns N p = (d ++ (rdLns (N - j) p').1, (rdLns (N - j) p').2), fun n _ => 4 - n.toNat, ⟨0, [], p, rfl, by omega, rfl, by rw [List.nil_append, Nat.sub_zero, ← List.replicate_succ, hN, ← eL]; exact hk3, hr3, hp, rfl⟩, ?_⟩
  rintro _ s4 ⟨j, d, p', rfl, hj, hd, hk4, hr4, hp', hln⟩
  refine bcd (fun hlt => ?_) (fun hge => ?_)
  · have hlt : j < N := by omega
    obtain ⟨m, hm⟩ : ∃ m, N - j = m + 1 := ⟨N - j - 1, by omega⟩
    have hm' : N - (j + 1) = m := by omega
    rw [hm] at hk4 hln
    rw [List.replicate_succ] at hk4
    refine (ref_Read_ok hr4 (k := 4) (by omega) (by omega) rfl).mono ?_
    rintro r s5 ⟨rfl, hr5, ho5⟩
    have n1 := p'.num_len 4
    refine ⟨_, rfl, (ref_Read_ok hr5 (k := 4) (by omega) (by omega) rfl).mono ?_⟩
    rintro r s6 ⟨rfl, hr6, ho6⟩
    have n2 := (p'.num 4).2.num_len 4
    refine ⟨_, rfl, (ref_Read_ok hr6 (k := 4) (by omega) (by omega) rfl).mono ?_⟩
    rintro r s7 ⟨rfl, hr7, ho7⟩
    have n3 := ((p'.num 4).2.num 4).2.num_len 4
    have hk7 := ((hk4.other hid hne ho5).other hid hne ho6).other hid hne ho7
    refine ⟨_, rfl, ?_⟩
    have hj1 : (j : Int) + 1 = ((j + 1 : Nat) : Int) := by omega
    rw [hj1]
    have hget : ∀ y : Ls, ((⟨0, 0, 0, 0, 0, 0, 0, 0⟩ : Ls) :: (d ++ y :: List.replicate m ⟨0, 0, 0, 0, 0, 0, 0, 0⟩))[j + 1]? = some y := fun y => by
      rw [List.getElem?_cons_succ, ← hd, List.getElem?_append_right (Nat.le_refl _), Nat.sub_self]; rfl
    have hset : ∀ y z : Ls, ((⟨0, 0, 0, 0, 0, 0, 0, 0⟩ : Ls) :: (d ++ y :: List.replicate m ⟨0, 0, 0, 0, 0, 0, 0, 0⟩)).set (j + 1) z = ⟨0, 0, 0, 0, 0, 0, 0, 0⟩ :: (d ++ z :: List.replicate m ⟨0, 0, 0, 0, 0, 0, 0, 0⟩) := fun y z => by
      rw [List.set_cons_succ, ← hd, set_mid]
    generalize hA : (p'.num 4).1 = vA at *
    generalize hB : ((p'.num 4).2.num 4).1 = vB at *
    generalize hC : (((p'.num 4).2.num 4).2.num 4).1 = vC at *
    refine hk7.lines.at_.idxK (j := j + 1) c_LineState rfl (by simp; omega) (hk7.putL (k := { k with Own := a, Routes := b, Lines := ⟨0, 0, 0, 0, 0, 0, 0, 0⟩ :: (d ++ ⟨0, 0, 0, 0, 0, 0, 0, 0⟩ :: List.replicate m ⟨0, 0, 0, 0, 0, 0, 0, 0⟩) }) (j := j + 1) (x := ⟨0, 0, 0, 0, 0, 0, 0, 0⟩) (y := ⟨vA, vB, vC, 0, 0, 0, 0, 0⟩) (hget _) (by omega) (by simp) rfl fun s8 hk8 ho8 => ?_)
    simp only [hset] at hk8
    refine hk8.lines.at_.load (map_get (hget ⟨vA, vB, vC, 0, 0, 0, 0, 0⟩)) c_LineState rfl ⟨vC, rfl, ?_⟩
    refine hk8.lines.at_.idxK (j := j + 1) c_LineState rfl (by simp; omega) (hk8.putL (k := { k with Own := a, Routes := b, Lines := ⟨0, 0, 0, 0, 0, 0, 0, 0⟩ :: (d ++ ⟨vA, vB, vC, 0, 0, 0, 0, 0⟩ :: List.replicate m ⟨0, 0, 0, 0, 0, 0, 0, 0⟩) }) (j := j + 1) (x := ⟨vA, vB, vC, 0, 0, 0, 0, 0⟩) (y := ln3 vA vB vC) (hget _) (by omega) (by simp) rfl fun s9 hk9 ho9 => ⟨by trivial, ?_⟩)
    simp only [hset] at hk9
    rw [w64_succ (by omega)]
    refine ⟨⟨j + 1, d ++ [ln3 vA vB vC], (((p'.num 4).2.num 4).2.num 4).2, rfl, hlt, by simp [hd], ?_, ((ho9 id (hne _ (by simp))).trans (ho8 id (hne _ (by simp)))).trans hr7, by omega, ?_⟩, by show 4 - (((j + 1 : Nat) : Int) + 1).toNat < 4 - (((j + 1 : Nat) : Int)).toNat; omega⟩
    · rw [hm', List.append_assoc]; exact hk9
    · rw [hm', hln, rdLns, List.append_assoc, hA, hB, hC]; rfl
  have e : j = N := by omega
  subst e
  rw [Nat.sub_self, List.replicate_zero, List.append_nil] at hk4
  rw [Nat.sub_self, rdLns, List.append_nil] at hln
  subst hN
  -- what has been read
  have hQ : c.loadQ now l = (⟨a, b, k.Points, k.Xs, ⟨0, 0, 0, 0, 0, 0, 0, 0⟩ :: d, k.Resets, true⟩, p') := by
    simp only [Cf.loadQ, hkk, hrd, hrt, hln]
  have hkq : CoOwn σ s4 k0 k1 k2 k3 k4 k5 ⟨a, b, k.Points, k.Xs, ⟨0, 0, 0, 0, 0, 0, 0, 0⟩ :: d, k.Resets, true⟩ := ⟨hk4.own, hk4.routes, hk4.points, hk4.xs, hk4.lines, hk4.resets, hk4.apart⟩
  have bad : ∀ s, Ext σ s → ¬ (p'.e = 0 ∧ p'.l = [] ∧ Co.fits c ⟨a, b, k.Points, k.Xs, ⟨0, 0, 0, 0, 0, 0, 0, 0⟩ :: d, k.Resets, true⟩ = true ∧ tm 0 now = true) →
      CoPost σ (c.loadC now l) (.tup [.agg [.nils, .nils, .nils, .nils, .nils, .nils, .bool false], iA 3]) s := fun s he hn => by
    rw [Cf.loadC, hQ, if_neg hn]
    have ap : ∀ l : List D, (∀ d ∈ l, d = .nils) → l.Pairwise Apart := by
      intro l
      induction l with
      | nil => intro _; exact .nil
      | cons x l ih => intro h; exact .cons (fun y hy id h1 => by rw [h x (by simp)] at h1; cases h1) (ih fun d hd => h d (by simp [hd]))
    exact ⟨.nils, .nils, .nils, .nils, .nils, .nils, rfl, .nil _ he, .nil _ he, .nil _ he, .nil _ he, .nil _ he, .nil _ he, ap _ (by simp)⟩
  intro R hR
  refine (ref_End_ok hr4).use ⟨_, rfl, bcn (fun e => bad s4 hkq.own.ext fun g => ?_) (fun e => ?_)⟩
  · rw [if_neg (fun g2 => g2 g.1), if_neg (fun g2 => g2 g.2.1)] at e; exact e rfl
  have hp0 : p'.e = 0 ∧ p'.l = [] := by
    by_cases h2 : p'.e ≠ 0
    · rw [if_pos h2] at e; cases e
    · rw [if_neg h2] at e
      refine ⟨Classical.not_not.1 h2, Classical.byContradiction fun h3 => ?_⟩
      rw [if_pos h3] at e; cases e
  refine (ref13_Fits_ok h hkq.at true).use ⟨_, rfl, bcnot (fun e => bad s4 hkq.own.ext fun g => by rw [g.2.2.1] at e; cases e) (fun hfit => ?_)⟩
  refine (ref13_Time_ok now).use ⟨_, rfl, bcnot (fun e => bad s4 hkq.own.ext fun g => by rw [g.2.2.2] at e; cases e) (fun htm => ⟨by trivial, hR _ _ _ _ _ _ _ s4 ?_⟩)⟩
  have hk5 := hkq
  -- the routes are held
  refine hk5.routes.at_.lenK ?_
  rw [List.length_map, hb]
  refine ⟨fun n s => ∃ j : Nat, n = j ∧ j ≤ c.Rts.length ∧ CoOwn σ s k0 k1 k2 k3 k4 k5 ⟨a, (b.take j).map heldR ++ (b.drop j), k.Points, k.Xs, ⟨0, 0, 0, 0, 0, 0, 0, 0⟩ :: d, k.Resets, true⟩, fun n _ => c.Rts.length - n.toNat, ⟨0, rfl, by omega, by simpa using hk5⟩, ?_⟩
  have hzero : ∀ x ∈ b, x.Since = 0 ∧ x.Mark = 0 := fun x hx => rdRts_zero c.Rts.length q x (by rw [hrt]; exact hx)
  rintro _ s6 ⟨j, rfl, hj, hk6⟩
  refine bcd (fun hlt => ?_) (fun hge => ?_)
  · have hlt : j < c.Rts.length := by omega
    obtain ⟨x, hx⟩ := get_of_lt (l := b) (j := j) (by omega)
    have hxz := hzero x (List.mem_of_getElem? hx)
    have hln1 : ((b.take j).map heldR).length = j := by rw [List.length_map, List.length_take]; omega
    have hdx : b.drop j = x :: b.drop (j + 1) := by
      have hlt' := (List.getElem?_eq_some_iff.1 hx)
      rw [List.drop_eq_getElem_cons hlt'.1, hlt'.2]
    have hxj : ((b.take j).map heldR ++ b.drop j)[j]? = some x := by
      rw [List.getElem?_append_right (by omega), hln1, Nat.sub_self, hdx]; rfl
    have next : ∀ y : Rs, y = heldR x → ∀ s7, CoOwn σ s7 k0 k1 k2 k3 k4 k5 ⟨a, ((b.take j).map heldR ++ b.drop j).set j y, k.Points, k.Xs, ⟨0, 0, 0, 0, 0, 0, 0, 0⟩ :: d, k.Resets, true⟩ →
        (∃ j' : Nat, w64 ((j : Int) + 1) = j' ∧ j' ≤ c.Rts.length ∧ CoOwn σ s7 k0 k1 k2 k3 k4 k5 ⟨a, (b.take j').map heldR ++ b.drop j', k.Points, k.Xs, ⟨0, 0, 0, 0, 0, 0, 0, 0⟩ :: d, k.Resets, true⟩) ∧ c.Rts.length - (w64 ((j : Int) + 1)).toNat < c.Rts.length - (j : Int).toNat := fun y hy s7 h7 => by
      rw [w64_succ (by omega)]
      refine ⟨⟨j + 1, rfl, hlt, ?_⟩, dec_lt hlt⟩
      have e : ((b.take j).map heldR ++ b.drop j).set j y = (b.take (j + 1)).map heldR ++ b.drop (j + 1) := by
        rw [hdx, hy]
        have := set_mid ((b.take j).map heldR) (b.drop (j + 1)) x (heldR x)
        rw [hln1] at this
        rw [this, List.take_add_one, hx]; simp
      rw [← e]; exact h7
    refine hk6.routes.at_.load (map_get hxj) c_RouteState rfl ⟨x.State, x.Since, x.Next, x.Mark, rfl, bce (fun h0 => ?_) (fun h0 => ?_)⟩
    · exact hk6.routes.at_.idxK (j := j) c_RouteState rfl (by simp; omega) (hk6.putR (k := ⟨a, (b.take j).map heldR ++ b.drop j, k.Points, k.Xs, ⟨0, 0, 0, 0, 0, 0, 0, 0⟩ :: d, k.Resets, true⟩) (j := j) (x := x) (y := ⟨0, 0, 0, 0⟩) hxj (by omega) (by simp) rfl fun s7 h7 _ => ⟨by trivial, next _ (by rw [heldR, if_pos h0]) s7 h7⟩)
    · exact hk6.routes.at_.idxK (j := j) c_RouteState rfl (by simp; omega) (hk6.putR (k := ⟨a, (b.take j).map heldR ++ b.drop j, k.Points, k.Xs, ⟨0, 0, 0, 0, 0, 0, 0, 0⟩ :: d, k.Resets, true⟩) (j := j) (x := x) (y := ⟨5, x.Since, x.Next, x.Mark⟩) hxj (by omega) (by simp) rfl fun s7 h7 _ => ⟨by trivial, next _ (by rw [heldR, if_neg h0, hxz.1, hxz.2]) s7 h7⟩)
  have e : j = c.Rts.length := by omega
  subst e
  rw [← hb, List.take_length, List.drop_length, List.append_nil] at hk6
  rw [Cf.loadC, hQ, if_pos ⟨hp0.1, hp0.2, hfit, htm⟩]
  exact ⟨_, _, _, _, _, _, rfl, hk6.own, hk6.routes, hk6.points, hk6.xs, hk6.lines, hk6.resets, hk6.apart⟩
end Go.Proofs.YtpanpagcgckeoaaGreat
end
section
set_option linter.unusedVariables false
set_option linter.unusedSimpArgs false
namespace Go.Fw
theorem heldR_fits {x : Rs} {r : Rt} (h : Rs.fits (x, r) = true) : Rs.fits (heldR ⟨x.State, 0, x.Next, 0⟩, r) = true := by
  simp only [Rs.fits, Bool.and_eq_true, decide_eq_true_eq] at h ⊢
  unfold heldR
  simp only
  split
  · exact ⟨⟨by decide, by simp⟩, by decide⟩
  · exact ⟨⟨by show (0 : Int) ≤ 5 ∧ (5 : Int) ≤ 5; decide, h.1.2⟩, by show tm 0 0 = true ∧ tm 0 0 = true; decide⟩
theorem back_fits {c : Cf} {k : Co} (h : FitIs c k) {now : Int} (hn : tm 0 now = true) : (k.backK c now).fits c = true := by
  have hnew := fits_iff.1 (new_fits h.chk hn)
  have l3 : ((k.Lines.drop 1).take 3).length = 3 := by rw [List.length_take, List.length_drop, h.lLn]; rfl
  refine fits_iff.2 ⟨h.chk, h.lOwn, hnew.lPts, hnew.lRes, by show (k.Routes.map _).length = _; rw [List.length_map]; exact h.lRts, hnew.lXs, by show (_ :: ((k.Lines.drop 1).take 3).map _ : List Ls).length = 4; rw [List.length_cons, List.length_map, l3], h.own, fun i x r hi hr => ?_, hnew.pts, hnew.xs, fun l hl => ?_, hnew.res⟩
  · have hi : (k.Routes.map (fun r => heldR ⟨r.State, 0, r.Next, 0⟩))[i]? = some x := hi
    rw [List.getElem?_map, Option.map_eq_some_iff] at hi
    obtain ⟨y, hy, rfl⟩ := hi
    exact heldR_fits (h.rts i y r hy hr)
  · have hl : l ∈ (⟨0, 0, 0, 0, 0, 0, 0, 0⟩ : Ls) :: ((k.Lines.drop 1).take 3).map (fun x => ln3 x.Ask x.Done x.Grant) := hl
    simp only [List.mem_cons, List.mem_map] at hl
    rcases hl with rfl | ⟨x, hx, rfl⟩
    · decide
    · have := h.lns x (List.mem_of_mem_drop (List.mem_of_mem_take hx))
      simp only [Ls.fits, Bool.and_eq_true, ln3] at this ⊢
      exact ⟨⟨this.1.1, this.1.2.1, this.1.2.2.1, this.1.2.2.1, by decide, by decide, by decide⟩, by decide⟩
end Go.Fw
end
section
set_option linter.unusedVariables false
set_option linter.unusedSimpArgs false
namespace Go.Proofs.YtpanpagcgckeoaaGreat
open Go.Fw Go.Proofs Go.RowKit
variable {σ σ0 : Store}
theorem str_eq (a b : ByteArray) : (a.toList == b.toList) = decide (a.data.toList = b.data.toList) := by
  rw [toList_data, toList_data]
  by_cases h : a.data.toList = b.data.toList
  · rw [decide_eq_true h, h]; exact beq_self_eq_true _
  · rw [decide_eq_false h]
    exact Bool.eq_false_iff.2 fun e => h (eq_of_beq e)
theorem law13_LocksSaves_ok {xs : List A} (h : TyAs Tryz.prog [t_Config, t_Core, t_law13_At] xs) (hsm : ∀ a ∈ xs, SmA 1048576 a) : LawTrue n_law13_LocksSaves xs := by
  obtain ⟨a0, xs, rfl, h0, hr0⟩ := tys_cons h
  obtain ⟨a1, xs, rfl, h1, hr1⟩ := tys_cons hr0
  obtain ⟨a2, xs, rfl, h2, hr2⟩ := tys_cons hr1
  obtain rfl := tys_nil hr2
  obtain ⟨cs, _, rfl, p0⟩ := tya_agg h0 (by kernel_rfl)
  obtain ⟨c0, c1, c2, c3, c4, c, rfl, hc, hci⟩ := ty_Config p0
  obtain ⟨ks, _, rfl, p1⟩ := tya_agg h1 (by kernel_rfl)
  obtain ⟨k0, k1, k2, k3, k4, k5, k, rfl, hk, hf, hki⟩ := ty_Core p1
  obtain ⟨ts, _, rfl, p2⟩ := tya_agg h2 (by kernel_rfl)
  obtain ⟨_, _, rfl, ⟨now, rfl, hnow⟩, _, _, rfl, ⟨txt, rfl, htx⟩, rfl⟩ := ty_sh _ 5 _ _ [.int .i64, .str] p2 (by kernel_rfl)
  have hs0 := hsm (.agg _) (List.mem_cons_self ..)
  have hs1 := hsm (.agg _) (List.mem_cons_of_mem _ (List.mem_cons_self ..))
  have z1 : c.Secs.length ≤ 2 ^ 20 := by have := sm_lenN (fun s => (hc s).secs) (hs0 c0 (by simp)); rw [List.length_map] at this; omega
  have z2 : c.Xs.length ≤ 2 ^ 20 := by have := sm_lenN (fun s => (hc s).xs) (hs0 c3 (by simp)); rw [List.length_map] at this; omega
  have z3 : c.Rts.length ≤ 2 ^ 20 := by
    obtain ⟨rows, hat, hlen, _⟩ := rts_froz fun s => (hc s).rts
    have := sm_lenN hat (hs0 c4 (by simp)); omega
  have y1 : k.Own.length ≤ 2 ^ 30 := by have := sm_lenN (fun s => (hk.at_ s).own) (hs1 k0 (by simp)); rw [List.length_map] at this; omega
  have y2 : k.Routes.length ≤ 2 ^ 30 := by have := sm_lenN (fun s => (hk.at_ s).routes) (hs1 k1 (by simp)); rw [List.length_map] at this; omega
  clear h h0 h1 h2 hr0 hr1 hr2 p0 p1 p2 hs0 hs1 hsm
  obtain ⟨l, rfl⟩ : ∃ l, txt = ofL l := ⟨txt.data.toList, (ofL_toL txt).symm⟩
  have htl : l.length ≤ 2 ^ 60 := by rw [← size_ofL]; omega
  refine W_law13_LocksSaves _ _ _ _ _ _ _ _ _ k0 k1 k2 k3 k4 k5 k.Dirty now (ofL l) noS _ ?_
  refine law13_lives_ok.use ⟨true, rfl, bcnot (fun e => by cases e) (fun _ => ?_)⟩
  refine (locks_Save_ok (hk.at_ noS) y1 y2 (fun o ho => by have := (hki.own o ho).1; omega)).use ⟨_, _, rfl, (ref13_Save_ok (hk.at_ noS) y1 y2 hki).use ⟨_, _, rfl, ?_⟩⟩
  intro R hR
  refine bcnot (fun e => by rw [str_eq, decide_eq_true rfl] at e; cases e) (fun _ => bcn (fun e => absurd rfl e) (fun _ => hR noS ?_))
  clear R hR
  refine (locks_Load_ok hc now z1 z2 z3 htl).mono ?_
  rintro r s1 ⟨d0, d1, d2, d3, d4, d5, rfl, ha⟩
  refine ⟨_, _, _, _, _, _, _, _, rfl, (ref13_Load_ok hc now z1 z2 z3 htl).mono ?_⟩
  rintro r s2 ⟨e0, e1, e2, e3, e4, e5, rfl, hb⟩
  refine ⟨_, _, _, _, _, _, _, _, rfl, ?_⟩
  have hb : CoOwn s1 s2 e0 e1 e2 e3 e4 e5 (c.loadC now l).1 := hb
  have ha : CoOwn noS s1 d0 d1 d2 d3 d4 d5 (c.loadC now l).1 := ha
  generalize hPP : c.loadC now l = PP at *
  obtain ⟨kk, ee⟩ := PP
  clear hPP
  have ha1 := ha.at.ext hb.own.ext
  have hb1 := hb.at
  clear ha hb
  simp only at ha1 hb1 ⊢
  intro R1 hR1
  refine bcn (fun e => absurd rfl e) (fun _ => (ref13_Same_ok ha1 hb1).use ⟨_, rfl, bcnot (fun e => absurd rfl (of_decide_eq_false e)) (fun _ => hR1 s2 ?_)⟩)
  clear R1 hR1
  intro R2 hR2
  refine (locks_Fits_ok hc (hk.at_ s2)).use ⟨_, rfl, bcnot (fun _ => by trivial) (fun hfit => bc (fun _ => by trivial) (fun _ => hR2 s2 ?_))⟩
  clear R2 hR2
  have hfi := fits_iff.1 hfit
  rw [saveC_fit hfi]
  have hR12 : c.Rts.length ≤ 12 := (check_small hfi.chk).2.2.1
  have hbl : k.saveB.length ≤ 2 ^ 60 := by
    unfold Co.saveB
    rw [List.length_append, List.length_append, flat_len ownB_len, flat_len rtB_len, flat_len lnB_len, List.length_take]
    omega
  refine (locks_Load_ok hc now z1 z2 z3 hbl).mono ?_
  rintro r s3 ⟨g0, g1, g2, g3, g4, g5, rfl, hg⟩
  refine ⟨_, _, _, _, _, _, _, _, rfl, (ref13_Time_ok now).use ⟨_, rfl, bcnot (fun hn => ?_) (fun hn => ?_)⟩⟩
  · have e : (c.loadC now k.saveB).2 = 3 := by
      unfold Cf.loadC
      rw [if_neg (fun g => by rw [g.2.2.2] at hn; cases hn)]
    rw [e]; rfl
  rw [load_back hfi hn] at hg ⊢
  have hg : CoOwn s2 s3 g0 g1 g2 g3 g4 g5 (k.backK c now) := hg
  intro R3 hR3
  refine bcn (fun e => absurd rfl e) (fun _ => (locks_Fits_ok hc hg.at).use ⟨_, rfl, bcnot (fun e => by rw [back_fits hfi hn] at e; cases e) (fun _ => bc (fun e => by cases e) (fun _ => ⟨by trivial, hR3 s3 ?_⟩))⟩)
  clear R3 hR3
  have nO : (k.backK c now).Own = k.Own := rfl
  have nR : (k.backK c now).Routes = k.Routes.map (fun r => heldR ⟨r.State, 0, r.Next, 0⟩) := rfl
  have nX : (k.backK c now).Xs = List.replicate c.Xs.length (⟨1, now⟩ : Mv) := rfl
  have gO := hg.own.at_
  have gR := hg.routes.at_
  have gX := hg.xs.at_
  rw [nO] at gO
  rw [nR] at gR
  rw [nX] at gX
  have hkO := (hk.at_ s3).own
  have hkR := (hk.at_ s3).routes
  refine gO.lenK ⟨fun n s => s = s3 ∧ ∃ j : Nat, n = j ∧ j ≤ k.Own.length, fun n _ => k.Own.length - n.toNat, ⟨rfl, 0, rfl, by omega⟩, ?_⟩
  rintro _ s ⟨rfl, j, rfl, hj⟩
  rw [List.length_map]
  refine bcd (fun hlt => ?_) (fun _ => ?_)
  · have hlt : j < k.Own.length := by omega
    obtain ⟨o, ho⟩ := get_of_lt (l := k.Own) (j := j) hlt
    refine gO.load (map_get ho) c_int rfl ⟨o, rfl, hkO.load (map_get ho) c_int rfl ⟨o, rfl, bcn (fun e => absurd rfl e) (fun _ => ⟨by trivial, ?_⟩)⟩⟩
    rw [w64_succ (by omega)]
    exact ⟨⟨rfl, j + 1, rfl, hlt⟩, dec_lt hlt⟩
  refine gR.lenK ⟨fun n s1 => s1 = s ∧ ∃ j : Nat, n = j ∧ j ≤ k.Routes.length, fun n _ => k.Routes.length - n.toNat, ⟨rfl, 0, rfl, by omega⟩, ?_⟩
  rintro _ s' ⟨rfl, j, rfl, hj⟩
  rw [List.length_map, List.length_map]
  refine bcd (fun hlt => ?_) (fun _ => ?_)
  · have hlt : j < k.Routes.length := by omega
    obtain ⟨x, hx⟩ := get_of_lt (l := k.Routes) (j := j) hlt
    have hx2 : (k.Routes.map (fun r => heldR ⟨r.State, 0, r.Next, 0⟩))[j]? = some (heldR ⟨x.State, 0, x.Next, 0⟩) := by rw [List.getElem?_map, hx]; rfl
    refine gR.load (map_get hx2) c_RouteState rfl ⟨_, _, _, _, rfl, hkR.load (map_get hx) c_RouteState rfl ⟨x.State, rfl, ?_⟩⟩
    have next : (∃ j' : Nat, w64 ((j : Int) + 1) = j' ∧ j' ≤ k.Routes.length) ∧ k.Routes.length - (w64 ((j : Int) + 1)).toNat < k.Routes.length - (j : Int).toNat := by
      rw [w64_succ (by omega)]; exact ⟨⟨j + 1, rfl, hlt⟩, dec_lt hlt⟩
    unfold heldR
    by_cases h0 : x.State = 0
    · simp only [h0, if_true]
      exact ⟨by trivial, ⟨by trivial, next.1⟩, next.2⟩
    · simp only [h0, if_false]
      refine bcnot (fun e => ?_) (fun _ => bcn (fun e => absurd rfl e) (fun _ => ⟨by trivial, ⟨by trivial, next.1⟩, next.2⟩))
      simp [h0] at e
  refine gX.lenK ⟨fun n s1 => s1 = s' ∧ ∃ j : Nat, n = j ∧ j ≤ c.Xs.length, fun n _ => c.Xs.length - n.toNat, ⟨rfl, 0, rfl, by omega⟩, ?_⟩
  rintro _ s'' ⟨rfl, j, rfl, hj⟩
  rw [List.length_map, List.length_replicate]
  refine bcd (fun hlt => ?_) (fun _ => by trivial)
  have hlt : j < c.Xs.length := by omega
  have hx : (List.replicate c.Xs.length (⟨1, now⟩ : Mv))[j]? = some ⟨1, now⟩ := by rw [List.getElem?_replicate, if_pos hlt]
  refine gX.load (map_get hx) c_Mover rfl ⟨_, _, rfl, bcn (fun e => absurd rfl e) (fun _ => ?_)⟩
  rw [w64_succ (by omega)]
  exact ⟨⟨rfl, j + 1, rfl, hlt⟩, dec_lt hlt⟩
end Go.Proofs.YtpanpagcgckeoaaGreat
end
