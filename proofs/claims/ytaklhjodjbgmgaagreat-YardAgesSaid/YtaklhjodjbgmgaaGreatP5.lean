/-
  Proofs that the statement of this claim leans on: part 5.
-/
import Derived.Test.YtaklhjodjbgmgaaGreatP4
section
set_option linter.unusedVariables false
set_option linter.unusedSimpArgs false
namespace Go.Fw
open Go.Shelf Go.Sort Go.Proofs
variable {P : Program} {ρ : Ren} {σ : Store}
def intRow (z : Int) : List D := [.int .i64 z]
theorem ints_hold {k : Nat → Prop} {β : Bk} {W : World} (hS : SRel P k β W σ) {id i0 : Nat} {t : TypeId} {rows : List (List D)} {zs : List Int} {bi : BI} (ht : P.cellsOf t = 1) (hl : σ id = .live t rows) (hb : β id = some bi)
    (hrows : (rows.drop i0).take zs.length = zs.map intRow) : Holds (Value.int .i64) W bi.blk (i0 * bi.es) zs.toArray := by
  obtain ⟨arr, g1, g2, g3, g4, g5, g6, g7⟩ := hS.obj id bi t rows hb hl
  have hes : bi.es = 1 := by rw [← g3, ht]
  have hget : ∀ j, j < zs.length → arr[i0 + j]? = some (Value.int .i64 (zs.getD j 0)) := by
    intro j hj
    have h1 : ((rows.drop i0).take zs.length)[j]? = some (intRow (zs.getD j 0)) := by rw [hrows]; simp [hj]
    rw [List.getElem?_take_of_lt hj, List.getElem?_drop] at h1
    obtain ⟨u, hu, hVu⟩ := g7 _ _ 0 (.int .i64 (zs.getD j 0)) h1 rfl
    rw [hes, Nat.mul_one, Nat.add_zero] at hu
    rw [hu]; cases hVu; rfl
  intro j hj
  have hj : j < zs.length := by simpa using hj
  refine ⟨?_, by simp [World.frozen?, g1]⟩
  have := hget j hj
  simp only [World.cell?, g1, hes, Nat.mul_one, Option.isSome_none, Bool.false_eq_true, if_false]
  rw [this]
  simp [hj]
end Go.Fw
end
section
set_option linter.unusedVariables false
set_option linter.unusedSimpArgs false
namespace Go.Fw
def Co.inh (c : Cf) (k : Co) (r s : Int) : Bool :=
  let o := (geti k.Own s).getD 0 - 1
  decide (0 ≤ o ∧ o ≠ r) && (decide ((c.rt o).Exit = (c.rt r).Entry) && inL (c.rt o).Overlap s)
def Co.blocked (c : Cf) (k : Co) (r : Int) (l : List Int) : Bool := l.any fun s => decide ((geti k.Own s).getD 0 ≠ 0) && !k.inh c r s
def Co.may (c : Cf) (k : Co) (r : Int) (l : List Int) : Int :=
  if apprS c l k.Routes 0 = true then 23 else if k.blocked c r l = true then 22 else 0
def Co.done (k : Co) (e : Int) (y : Co) : Co × Int := (if e = 0 then y else k, e)
end Go.Fw
end
section
set_option linter.unusedVariables false
set_option linter.unusedSimpArgs false
namespace Go.Fw
structure FitIs (c : Cf) (k : Co) : Prop where
  chk : c.check = 0
  lOwn : k.Own.length = c.Secs.length
  lPts : k.Points.length = c.Secs.length
  lRes : k.Resets.length = c.Secs.length
  lRts : k.Routes.length = c.Rts.length
  lXs : k.Xs.length = c.Xs.length
  lLn : k.Lines.length = 4
  own : ∀ o ∈ k.Own, -2 ≤ o ∧ o ≤ c.Rts.length
  rts : ∀ (i : Nat) x r, k.Routes[i]? = some x → c.Rts[i]? = some r → Rs.fits (x, r) = true
  pts : ∀ m ∈ k.Points, Mv.fits m = true
  xs : ∀ m ∈ k.Xs, Mv.fits m = true
  lns : ∀ l ∈ k.Lines, Ls.fits l = true
  res : ∀ z ∈ k.Resets, tm 1 z = true
end Go.Fw
end
section
set_option linter.unusedVariables false
set_option linter.unusedSimpArgs false
namespace Go.Fw
def ofL (l : List UInt8) : ByteArray := ⟨l.toArray⟩
def encU (b : UInt8) : List D := [.int .u8 b.toNat]
theorem bytesD_ofL (l : List UInt8) : bytesD (ofL l) = l.map encU := rfl
theorem size_ofL (l : List UInt8) : (ofL l).size = l.length := by
  show l.toArray.size = _
  simp
theorem ofL_data (l : List UInt8) : (ofL l).data.toList = l := rfl
theorem extract_ofL (l : List UInt8) (a b : Nat) : (ofL l).extract a b = ofL ((l.take b).drop a) := by
  apply ByteArray.ext
  simp [ofL, List.drop_take]
theorem toList_loop (bs : ByteArray) : ∀ (m i : Nat) (r : List UInt8), bs.size - i = m → ByteArray.toList.loop bs i r = r.reverse ++ bs.data.toList.drop i := by
  intro m
  induction m with
  | zero =>
    intro i r h
    have h' : ¬ i < bs.size := by omega
    rw [ByteArray.toList.loop, if_neg h', List.drop_eq_nil_of_le (by show bs.size ≤ i; omega), List.append_nil]
  | succ m ih =>
    intro i r h
    have h' : i < bs.size := by omega
    have h'' : i < bs.data.toList.length := h'
    rw [ByteArray.toList.loop, if_pos h', ih (i + 1) _ (by omega), List.drop_eq_getElem_cons h'']
    have e : bs.get! i = bs.data.toList[i] := by
      show bs.data[i]! = _
      rw [getElem!_pos bs.data i h']
      rfl
    rw [e]; simp
theorem toList_data (bs : ByteArray) : bs.toList = bs.data.toList := by
  rw [ByteArray.toList, toList_loop bs _ 0 [] rfl]; simp
def byteAt (n : Int) (s : Nat) : UInt8 := UInt8.ofNat ((n.fdiv (2 ^ s)) % 256).toNat
theorem byteAt_enc (n : Int) (s : Nat) : encU (byteAt n s) = [.int .u8 (IntKind.wrap .u8 (n.fdiv (2 ^ s)))] := by
  have e : IntKind.wrap .u8 (n.fdiv (2 ^ s)) = (n.fdiv (2 ^ s)) % 256 := rfl
  rw [e]
  unfold encU byteAt
  generalize n.fdiv (2 ^ s) = x
  have h1 : 0 ≤ x % 256 := Int.emod_nonneg _ (by omega)
  have h2 : x % 256 < 256 := Int.emod_lt_of_pos _ (by omega)
  obtain ⟨m, hm⟩ := Int.eq_ofNat_of_zero_le h1
  rw [hm] at h2 ⊢
  rw [Int.toNat_natCast, UInt8.toNat_ofNat', Nat.mod_eq_of_lt (by show m < 256; omega)]
def be : Nat → Int → List UInt8
  | 0, _ => []
  | k + 1, n => byteAt n (8 * k) :: be k n
theorem be_len (k : Nat) (n : Int) : (be k n).length = k := by
  induction k with
  | zero => rfl
  | succ k ih => rw [be, List.length_cons, ih]
def rdL (l : List UInt8) (x : Int) : Int := l.foldl (fun x c => x * 256 + (c.toNat : Int)) x
def rd (l : List UInt8) : Int := rdL l 0
theorem byteAt_nat {n : Nat} {s : Nat} : ((byteAt (n : Int) s).toNat : Int) = ((n / 2 ^ s % 256 : Nat) : Int) := by
  unfold byteAt
  have e : (n : Int).fdiv (2 ^ s) = ((n / 2 ^ s : Nat) : Int) := by
    rw [Int.fdiv_eq_ediv_of_nonneg _ (by exact Int.pow_nonneg (by omega))]
    simp
  rw [e]
  have h2 : n / 2 ^ s % 256 < 256 := Nat.mod_lt _ (by omega)
  have e2 : (((n / 2 ^ s : Nat) : Int) % 256).toNat = n / 2 ^ s % 256 := by omega
  rw [e2, UInt8.toNat_ofNat', Nat.mod_eq_of_lt (by show _ < 256; exact h2)]
theorem rdL_be : ∀ (k : Nat) (n : Nat) (x : Int), rdL (be k (n : Int)) x = x * 256 ^ k + ((n % 256 ^ k : Nat) : Int) := by
  intro k
  induction k with
  | zero => intro n x; simp [be, rdL, Nat.mod_one]
  | succ k ih =>
    intro n x
    rw [be, rdL, List.foldl_cons]
    have := ih n (x * 256 + ((byteAt (n : Int) (8 * k)).toNat : Int))
    rw [rdL] at this
    rw [this, byteAt_nat]
    have e : (2 : Nat) ^ (8 * k) = 256 ^ k := by rw [Nat.pow_mul]
    rw [e]
    have e2 : n % 256 ^ (k + 1) = n % 256 ^ k + 256 ^ k * (n / 256 ^ k % 256) := by rw [Nat.pow_succ, Nat.mod_mul]
    rw [e2, Int.pow_succ, Int.add_mul]
    simp only [Int.natCast_add, Int.natCast_mul, Int.natCast_pow]
    have e3 : x * 256 * 256 ^ k = x * (256 ^ k * 256) := by rw [Int.mul_assoc, Int.mul_comm 256]
    have e4 : ((n / 256 ^ k % 256 : Nat) : Int) * 256 ^ k = 256 ^ k * ((n / 256 ^ k % 256 : Nat) : Int) := Int.mul_comm _ _
    rw [e3, e4]
    simp only [Int.add_assoc]
    have : ∀ a b c : Int, a + (b + c) = a + (c + b) := fun a b c => by omega
    exact this _ _ _
theorem rd_be {k : Nat} {n : Int} (h0 : 0 ≤ n) (h1 : n < 256 ^ k) : rd (be k n) = n := by
  obtain ⟨m, rfl⟩ := Int.eq_ofNat_of_zero_le h0
  rw [rd, rdL_be, Int.zero_mul, Int.zero_add]
  have : m < 256 ^ k := by
    have e : ((256 ^ k : Nat) : Int) = (256 : Int) ^ k := by simp
    omega
  rw [Nat.mod_eq_of_lt this]
theorem rdL_lt : ∀ (l : List UInt8) (x : Int), 0 ≤ x → 0 ≤ rdL l x ∧ rdL l x < (x + 1) * 256 ^ l.length := by
  intro l
  induction l with
  | nil => intro x h; simp [rdL]; omega
  | cons c l ih =>
    intro x h
    have hc : (c.toNat : Int) < 256 := by have := c.toNat_lt; omega
    have := ih (x * 256 + c.toNat) (by omega)
    rw [rdL] at this ⊢
    rw [List.foldl_cons]
    refine ⟨this.1, Int.lt_of_lt_of_le this.2 ?_⟩
    rw [List.length_cons, Int.pow_succ]
    have e : (x + 1) * (256 ^ l.length * 256) = ((x + 1) * 256) * 256 ^ l.length := by rw [Int.mul_assoc, Int.mul_comm (256 ^ l.length)]
    rw [e]
    exact Int.mul_le_mul_of_nonneg_right (by omega) (Int.pow_nonneg (by omega))
theorem rdL_append (a b : List UInt8) (x : Int) : rdL (a ++ b) x = rdL b (rdL a x) := by unfold rdL; rw [List.foldl_append]
theorem or_byte {x c : Int} (hx0 : 0 ≤ x) (hx : x < 2 ^ 48) (hc0 : 0 ≤ c) (hc : c < 256) : w64 (BitVec.toNat ((BitVec.ofInt 64 (w64 (x * (2 ^ 8)))) ||| (BitVec.ofInt 64 (w64 c))) : Int) = x * 256 + c := by
  obtain ⟨m, rfl⟩ := Int.eq_ofNat_of_zero_le hx0
  obtain ⟨b, rfl⟩ := Int.eq_ofNat_of_zero_le hc0
  rw [w64_id (n := (m : Int) * 2 ^ 8) (by omega) (by omega), w64_id (n := (b : Int)) (by omega) (by omega)]
  have e : (m : Int) * 2 ^ 8 = ((m * 256 : Nat) : Int) := by simp
  rw [e, BitVec.ofInt_natCast, BitVec.ofInt_natCast, BitVec.toNat_or, BitVec.toNat_ofNat, BitVec.toNat_ofNat, Nat.mod_eq_of_lt (by omega), Nat.mod_eq_of_lt (by omega)]
  have := Nat.shiftLeft_add_eq_or_of_lt (a := m) (b := b) (i := 8) (by omega)
  rw [Nat.shiftLeft_eq] at this
  have h256 : (2 : Nat) ^ 8 = 256 := rfl
  rw [h256] at this
  rw [← this, w64_id (by omega) (by omega)]
  simp
structure Wr where
  e : Int
  out : List UInt8
  lim : Int
def Wr.note (w : Wr) (x : Int) : Wr := if w.e = 0 then { w with e := x } else w
def Wr.put (w : Wr) (b : List UInt8) : Wr :=
  let v := if (b.length : Int) > w.lim - w.out.length then w.note 2 else w
  if v.e = 0 then { v with out := v.out ++ b } else v
def Wr.num (w : Wr) (k : Nat) (n : Int) : Wr := (if n < 0 ∨ n.fdiv (2 ^ (8 * k)) ≠ 0 then w.note 32 else w).put (be k n)
theorem Wr.note_out (w : Wr) (x : Int) : (w.note x).out = w.out ∧ (w.note x).lim = w.lim := by unfold Wr.note; split <;> exact ⟨rfl, rfl⟩
structure Rd where
  e : Int
  l : List UInt8
def Rd.short (r : Rd) (n : Nat) : Rd := if r.l.length < n then (if r.e = 0 then { r with e := 1 } else r) else r
def Rd.num (r : Rd) (n : Nat) : Int × Rd := if (r.short n).e = 0 then (rd ((r.short n).l.take n), ⟨0, (r.short n).l.drop n⟩) else (0, r.short n)
theorem Rd.short_l (r : Rd) (n : Nat) : (r.short n).l = r.l := by unfold Rd.short; split <;> (try split) <;> rfl
end Go.Fw
end
section
set_option linter.unusedVariables false
set_option linter.unusedSimpArgs false
namespace Go.Fw
def crcBit (r : Nat) : Nat := if 2147483648 ≤ r then (2 * r - 4294967296) ^^^ 79764919 else 2 * r
def crcN : Nat → Nat → Nat
  | 0, r => r
  | n + 1, r => crcN n (crcBit r)
def crcU (r : Nat) (b : UInt8) : Nat := crcN 8 (r ^^^ (b.toNat * 16777216))
def crcL (r : Nat) (l : List UInt8) : Nat := l.foldl crcU r
def crc (l : List UInt8) : Nat := crcL 4294967295 l
theorem xor_lt32 {a b : Nat} (ha : a < 4294967296) (hb : b < 4294967296) : a ^^^ b < 4294967296 := Nat.xor_lt_two_pow (n := 32) ha hb
theorem crcBit_lt {r : Nat} (h : r < 4294967296) : crcBit r < 4294967296 := by
  unfold crcBit
  split
  · exact xor_lt32 (by omega) (by decide)
  · omega
theorem crcN_succ (n r : Nat) : crcN (n + 1) r = crcN n (crcBit r) := rfl
theorem crcN_zero (r : Nat) : crcN 0 r = r := by unfold crcN; rfl
theorem crcN_lt (n : Nat) : ∀ {r : Nat}, r < 4294967296 → crcN n r < 4294967296 := by
  induction n with
  | zero => intro r h; exact h
  | succ n ih => intro r h; rw [crcN_succ]; exact ih (crcBit_lt h)
theorem crcU_lt {r : Nat} (h : r < 4294967296) (b : UInt8) : crcU r b < 4294967296 := crcN_lt 8 (xor_lt32 h (by have := b.toNat_lt; omega))
theorem crcL_cons (r : Nat) (b : UInt8) (l : List UInt8) : crcL r (b :: l) = crcL (crcU r b) l := by unfold crcL; rw [List.foldl_cons]
theorem crcL_nil (r : Nat) : crcL r [] = r := by unfold crcL; rw [List.foldl_nil]
theorem crcL_lt (l : List UInt8) : ∀ {r : Nat}, r < 4294967296 → crcL r l < 4294967296 := by
  induction l with
  | nil => intro r h; exact h
  | cons b l ih => intro r h; rw [crcL_cons]; exact ih (crcU_lt h b)
theorem crc_lt (l : List UInt8) : crc l < 4294967296 := crcL_lt l (by omega)
theorem crcL_append (r : Nat) (a b : List UInt8) : crcL r (a ++ b) = crcL (crcL r a) b := by unfold crcL; rw [List.foldl_append]
theorem crcN_add (m n r : Nat) : crcN (m + n) r = crcN n (crcN m r) := by
  induction m generalizing r with
  | zero => simp [crcN]
  | succ m ih => rw [Nat.succ_add]; exact ih (crcBit r)
def sealL (b : List UInt8) : List UInt8 := be 2 b.length ++ b ++ be 4 (crc (be 2 b.length ++ b))
def cutL (t : List UInt8) : Int × Int :=
  if t.length < 6 then (0, 1) else
  if rd (t.take 2) > 1024 then (0, 2) else
  if (t.length : Int) < rd (t.take 2) + 6 then (0, 1) else (rd (t.take 2) + 6, 0)
def nextL (t : List UInt8) : List UInt8 × Int × Int :=
  if (cutL t).2 ≠ 0 then ([], 0, (cutL t).2) else
  if rd ((t.take (cutL t).1.toNat).drop ((cutL t).1.toNat - 4)) ≠ crc (t.take ((cutL t).1.toNat - 4)) then ([], 0, 4) else
  ((t.take ((cutL t).1.toNat - 4)).drop 2, (cutL t).1, 0)
def openL (t : List UInt8) : List UInt8 × Int :=
  if (cutL t).2 ≠ 0 then ([], (cutL t).2) else
  if (cutL t).1 < t.length then ([], 3) else ((nextL t).1, (nextL t).2.2)
theorem seal_len (b : List UInt8) : (sealL b).length = b.length + 6 := by simp [sealL, be_len]; omega
theorem cut_seal {b : List UInt8} (h : b.length ≤ 1024) : cutL (sealL b) = ((b.length : Int) + 6, 0) := by
  have e : (sealL b).take 2 = be 2 b.length := by
    unfold sealL
    rw [List.append_assoc, List.take_left' (be_len 2 _)]
  unfold cutL
  rw [e, rd_be (by omega) (by omega), seal_len, if_neg (by omega), if_neg (by omega), if_neg (by omega)]
theorem open_seal {b : List UInt8} (h : b.length ≤ 1024) : openL (sealL b) = (b, 0) := by
  have hc := cut_seal h
  have hl : (be 2 (b.length : Int) ++ b).length = b.length + 2 := by simp [be_len]; omega
  have e1 : ((b.length : Int) + 6).toNat = b.length + 6 := by omega
  have e2 : (sealL b).take (b.length + 6) = sealL b := List.take_of_length_le (by rw [seal_len]; exact Nat.le_refl _)
  have e3 : (sealL b).take (b.length + 6 - 4) = be 2 b.length ++ b := by
    unfold sealL
    rw [List.take_left' (by rw [hl]; omega)]
  have e4 : (sealL b).drop (b.length + 6 - 4) = be 4 (crc (be 2 b.length ++ b)) := by
    unfold sealL
    rw [List.drop_left' (by rw [hl]; omega)]
  have e5 : nextL (sealL b) = (b, (b.length : Int) + 6, 0) := by
    unfold nextL
    rw [hc]
    simp only [ne_eq, not_true_eq_false, if_false, e1, e2, e3, e4]
    have hlt := crc_lt (be 2 (b.length : Int) ++ b)
    rw [rd_be (by omega) (by omega)]
    rw [if_neg (by simp), List.drop_left' (be_len 2 _)]
  unfold openL
  rw [e5, hc]
  simp only [ne_eq, not_true_eq_false, if_false]
  rw [seal_len, if_neg (by omega)]
def headL (p n s : Int) : List UInt8 := be 1 p ++ be 2 n ++ be 4 s
theorem head_len (p n s : Int) : (headL p n s).length = 7 := by simp [headL, be_len]
structure Said where
  p : Int
  n : Int
  s : Int
  b : List UInt8
  e : Int
def saidL (t : List UInt8) : Said :=
  if (openL t).2 ≠ 0 then ⟨0, 0, 0, [], (openL t).2⟩ else
  if (openL t).1.length < 7 then ⟨0, 0, 0, [], 3⟩ else
  if 1007 < (openL t).1.length then ⟨0, 0, 0, [], 2⟩ else
  ⟨rd ((openL t).1.take 1), rd (((openL t).1.drop 1).take 2), rd (((openL t).1.drop 3).take 4), (openL t).1.drop 7, 0⟩
theorem said_make {p n s : Int} {b : List UInt8} (hp : 0 ≤ p ∧ p < 256) (hn : 0 ≤ n ∧ n < 65536) (hs : 0 ≤ s ∧ s < 4294967296) (hb : b.length ≤ 1000) :
    saidL (sealL (headL p n s ++ b)) = ⟨p, n, s, b, 0⟩ := by
  have hl : (headL p n s ++ b).length = b.length + 7 := by rw [List.length_append, head_len]; omega
  have ho := open_seal (b := headL p n s ++ b) (by rw [hl]; omega)
  unfold saidL
  rw [ho]
  simp only [ne_eq, not_true_eq_false, if_false]
  rw [hl, if_neg (by omega), if_neg (by omega)]
  have e1 : (headL p n s ++ b).take 1 = be 1 p := by
    unfold headL
    rw [List.append_assoc, List.append_assoc, List.take_left' (be_len 1 _)]
  have e2 : (headL p n s ++ b).drop 1 = be 2 n ++ (be 4 s ++ b) := by
    unfold headL
    rw [List.append_assoc, List.append_assoc, List.drop_left' (be_len 1 _)]
  have e3 : (headL p n s ++ b).drop 3 = be 4 s ++ b := by
    have : (headL p n s ++ b).drop 3 = ((headL p n s ++ b).drop 1).drop 2 := by rw [List.drop_drop]
    rw [this, e2, List.drop_left' (be_len 2 _)]
  have e4 : (headL p n s ++ b).drop 7 = b := List.drop_left' (head_len p n s)
  rw [e1, e2, e3, e4, List.take_left' (be_len 2 _), List.take_left' (be_len 4 _), rd_be (by omega) (by omega), rd_be (by omega) (by omega), rd_be (by omega) (by omega)]
end Go.Fw
end
section
set_option linter.unusedVariables false
set_option linter.unusedSimpArgs false
namespace Go.Fw
structure Th where
  At : Int
  To : Int
  Left : Int
def Th.enc (x : Th) : List D := [iD x.At, iD x.To, iD x.Left]
def Th.tick (x : Th) (stuck : Bool) : Th :=
  if x.Left > 0 ∧ stuck = false then (if x.Left - 1 > 0 then { x with Left := x.Left - 1 } else ⟨x.To, x.To, x.Left - 1⟩) else x
def Th.order (x : Th) (to : Int) : Th := if to ≠ x.To then ⟨x.At, to, 2⟩ else x
structure Lp where
  Asp : Int
  Last : Int
def Lp.enc (x : Lp) : List D := [iD x.Asp, iD x.Last]
structure Rc where
  Last : Int
  Peer : Int
  Age : Int
def Rc.take (r : Rc) (now : Int) (t : List UInt8) : Rc × List UInt8 × Int :=
  if (saidL t).e ≠ 0 then (r, [], (saidL t).e) else
  if (saidL t).p ≠ r.Peer then (r, [], 16) else
  if (saidL t).s > now then (r, [], 19) else
  if now - (saidL t).s > r.Age then (r, [], 17) else
  if (saidL t).s ≤ r.Last then (r, [], 18) else ({ r with Last := (saidL t).s }, (saidL t).b, 0)
structure Shp where
  Secs : List Int
  Pts : List Int
  Xs : List Int
  Sgs : List Int
def Cf.mine (c : Cf) (oc s : Int) : Bool := ((geti c.Secs s).map fun x => decide (x.OC = oc)).getD false
def shSecs (oc : Int) : List Sec → Int → List Int
  | [], _ => []
  | s :: r, i => if s.OC = oc then i :: shSecs oc r (i + 1) else shSecs oc r (i + 1)
def shPts (oc : Int) : List Sec → Int → List Int
  | [], _ => []
  | s :: r, i => if s.OC = oc ∧ s.Kind = 1 then i :: shPts oc r (i + 1) else shPts oc r (i + 1)
def shXs (c : Cf) (oc : Int) : List Int → Int → List Int
  | [], _ => []
  | s :: r, i => if c.mine oc s = true then i :: shXs c oc r (i + 1) else shXs c oc r (i + 1)
def shSgs (c : Cf) (oc : Int) : List Sg → Int → List Int
  | [], _ => []
  | x :: r, i => if c.mine oc x.Sec = true then i :: shSgs c oc r (i + 1) else shSgs c oc r (i + 1)
def Cf.shape (c : Cf) (oc : Int) : Shp := ⟨shSecs oc c.Secs 0, shPts oc c.Secs 0, shXs c oc c.Xs 0, shSgs c oc c.Sigs 0⟩
structure Pst where
  R : Rc
  H : Shp
  Stamp : Int
structure Tr where
  Secs : List Int
  Out : Int
structure Yd where
  C : Cf
  Pts : List Th
  Gts : List Th
  Lps : List Lp
  Psts : List Pst
  Trs : List Tr
  Now : Int
  Flt : Int × Int → Bool
def thereL (l : List Tr) (s : Int) : Nat := (l.map fun t => t.Secs.count s).sum
def Yd.there (y : Yd) (s : Int) : Int := (thereL y.Trs s : Nat)
def Cf.sigAt (c : Cf) (s e : Int) : Int := fidx (fun x => decide ((⟨s, e⟩ : Sg) = x)) c.Sigs 0
def Cf.stands (c : Cf) (s e : Int) : Bool := (nxt c.Jts s e).isNone || decide (0 ≤ c.sigAt s e)
def Cf.trFits (c : Cf) (l : List Tr) (t : Tr) : Bool :=
  match t.Secs with
  | [s] => match geti c.Secs s with
    | some x => decide (x.Kind = 0) && decide (t.Out = 0 ∨ t.Out = 1) && decide (thereL l s = 0) && c.stands s t.Out
    | none => false
  | _ => false
def trsNew (c : Cf) : List Tr → List Tr → Option (List Tr)
  | [], l => some l
  | t :: r, l => if c.trFits l t = true then trsNew c r (l ++ [t]) else none
def Yd.fresh (c : Cf) (l : List Tr) : Yd :=
  ⟨c, List.replicate c.Secs.length ⟨1, 1, 0⟩, List.replicate c.Xs.length ⟨1, 1, 0⟩, List.replicate c.Sigs.length ⟨0, -1⟩,
    [0, 1, 2, 3].map fun oc => ⟨⟨-1, oc + 50, c.Age⟩, c.shape oc, -1⟩, l, 0, fun _ => false⟩
def newYd (c : Cf) (l : List Tr) : Int × Yd :=
  if c.check ≠ 0 then (c.check, .fresh c []) else
  if l.length > 4 then (5, .fresh c []) else
  match trsNew c l [] with
  | none => (30, .fresh c [])
  | some l => (0, .fresh c l)
def tickL (f : Int → Bool) : List Th → Int → List Th
  | [], _ => []
  | x :: r, i => x.tick (f i) :: tickL f r (i + 1)
def Yd.tick (y : Yd) (now : Int) : Yd :=
  if now ≤ y.Now then y else { y with Now := now, Pts := tickL (fun i => y.Flt (3, i)) y.Pts 0, Gts := tickL (fun i => y.Flt (6, i)) y.Gts 0 }
structure Od where
  Pos : List Int
  Asp : List Int
  Shut : List Int
def bytesI (l : List UInt8) : List Int := l.map fun b => (b.toNat : Int)
def Od.right (o : Od) (h : Shp) : Bool :=
  decide (o.Pos.length = h.Pts.length ∧ o.Asp.length = h.Sgs.length ∧ o.Shut.length = h.Xs.length) &&
    (o.Pos.all fun x => decide (0 ≤ x ∧ x ≤ 2)) && (o.Asp.all fun x => decide (0 ≤ x ∧ x ≤ 2)) && (o.Shut.all fun x => decide (0 ≤ x ∧ x ≤ 1))
def Od.bytes (o : Od) : List UInt8 := (2 :: (o.Pos ++ o.Asp ++ o.Shut)).map fun x => byteAt x 0
def Od.of (h : Shp) (t : List UInt8) : Od :=
  ⟨bytesI ((t.drop 1).take h.Pts.length), bytesI ((t.drop (1 + h.Pts.length)).take h.Sgs.length), bytesI ((t.drop (1 + h.Pts.length + h.Sgs.length)).take h.Xs.length)⟩
def readO (h : Shp) (t : List UInt8) : Option Od :=
  if t.head? = some 2 ∧ t.length = 1 + h.Pts.length + h.Sgs.length + h.Xs.length ∧ (Od.of h t).right h = true then some (Od.of h t) else none
def orderL : List Int → List Int → List Th → List Th
  | i :: is, o :: os, l => orderL is os (l.modify i.toNat fun x => x.order o)
  | _, _, l => l
def orderP : List Int → List Int → List Th → List Th
  | i :: is, o :: os, l => orderP is os (if o ≠ 0 then l.modify i.toNat fun x => x.order o else l)
  | _, _, l => l
def aspL : List Int → List Int → List Lp → List Lp
  | i :: is, o :: os, l => aspL is os (l.modify i.toNat fun x => { x with Asp := o })
  | _, _, l => l
def Yd.take (y : Yd) (oc : Int) (t : List UInt8) : Yd × Int :=
  match geti y.Psts oc with
  | none => (y, 20)
  | some p =>
    if (p.R.take y.Now t).2.2 ≠ 0 then (y, (p.R.take y.Now t).2.2) else
    match readO p.H (p.R.take y.Now t).2.1 with
    | none => ({ y with Psts := y.Psts.set oc.toNat { p with R := (p.R.take y.Now t).1 } }, 3)
    | some o => ({ y with Psts := y.Psts.set oc.toNat ⟨(p.R.take y.Now t).1, p.H, (p.R.take y.Now t).1.Last⟩, Pts := orderP p.H.Pts o.Pos y.Pts, Gts := orderL p.H.Xs o.Shut y.Gts, Lps := aspL p.H.Sgs o.Asp y.Lps }, 0)
def Yd.shows (y : Yd) (x : Int) : Int :=
  match geti y.Lps x, geti y.C.Sigs x with
  | some l, some g => match geti y.C.Secs g.Sec with
    | some s => match geti y.Psts s.OC with
      | some p => if p.Stamp < 0 ∨ y.Now - p.Stamp > y.C.Age then 0 else l.Asp
      | none => 0
    | none => 0
  | _, _ => 0
def lookL (f : Int → Int) (now : Int) : List Lp → Int → List Lp
  | [], _ => []
  | x :: r, i => (if f i ≠ 0 then { x with Last := now } else x) :: lookL f now r (i + 1)
def Yd.look (y : Yd) : Yd := { y with Lps := lookL y.shows y.Now y.Lps 0 }
def wout : List (Int × Int × Int) → Int → Int → Option Int
  | [], _, _ => none
  | w :: r, i, p => match (if i = w.1 then some w.2.1 else if i = w.2.1 then some w.1 else none : Option Int) with
    | some o => if w.2.2 = 0 ∨ w.2.2 = p then some o else wout r i p
    | none => wout r i p
def wayOut (k i p : Int) : Option Int := wout (wayL k) i p
def Yd.pos (y : Yd) (s : Int) : Int := ((geti y.Pts s).map fun x => if x.Left > 0 then 0 else x.At).getD 0
def Yd.way (y : Yd) (s i : Int) : Int := (wayOut (((geti y.C.Secs s).map Sec.Kind).getD 0) i (y.pos s)).getD (-1)
def Yd.shut (y : Yd) (i : Int) : Bool := ((geti y.Gts i).map fun x => decide (¬ x.Left > 0) && decide (x.At = 1)).getD false
def Tr.hd (t : Tr) : Int := t.Secs.head?.getD 0
def Yd.move (y : Yd) (i : Int) : Yd × Int :=
  match geti y.Trs i with
  | none => (y, 30)
  | some t => match nxt y.C.Jts t.hd t.Out with
    | none => (y, 29)
    | some (s, e) =>
      if t.Out < 0 then (y, 29) else
      if (match geti y.Lps (y.C.sigAt t.hd t.Out) with
        | some l => decide (l.Last < 0 ∨ y.Now - l.Last > y.C.Brake)
        | none => false) = true then (y, 29) else
      ({ y with Trs := y.Trs.set i.toNat ⟨s :: t.Secs, y.way s e⟩ }, 0)
def Yd.tail (y : Yd) (i : Int) : Yd × Int :=
  match geti y.Trs i with
  | none => (y, 30)
  | some t => if t.Secs.length = 1 then (y, 29) else ({ y with Trs := y.Trs.set i.toNat ⟨t.Secs.take (t.Secs.length - 1), t.Out⟩ }, 0)
def Yd.enter (y : Yd) (line : Int) : Yd × Int :=
  let s := fidx (fun x => x.Line == line) y.C.Secs 0
  if line < 1 ∨ s < 0 then (y, 20) else
  if y.Trs.length ≥ 4 then (y, 5) else
  if y.C.sigAt s 0 < 0 then (y, 29) else ({ y with Trs := y.Trs ++ [⟨[s], 0⟩] }, 0)
structure Ht where
  Kind : Int
  Sec : Int
def Ht.enc (h : Ht) : List D := [iD h.Kind, iD h.Sec]
def hits1 (y : Yd) : List Sec → Int → List Ht
  | [], _ => []
  | _ :: r, i => (if y.there i > 1 then [⟨1, i⟩] else []) ++ hits1 y r (i + 1)
def hits2 (y : Yd) : List Sec → Int → List Ht
  | [], _ => []
  | x :: r, i => (if x.Kind = 1 ∧ y.there i > 0 ∧ (((geti y.Pts i).map Th.Left).getD 0) > 0 then [⟨2, i⟩] else []) ++ hits2 y r (i + 1)
def hits3 (y : Yd) : List Int → Int → List Ht
  | [], _ => []
  | s :: r, i => (if y.there s > 0 ∧ y.shut i = false then [⟨3, s⟩] else []) ++ hits3 y r (i + 1)
def hits4 : List Tr → List Ht
  | [] => []
  | t :: r => (if t.Out < 0 then [⟨4, t.hd⟩] else []) ++ hits4 r
def Yd.hits (y : Yd) : List Ht := hits1 y y.C.Secs 0 ++ hits2 y y.C.Secs 0 ++ hits3 y y.C.Xs 0 ++ hits4 y.Trs
end Go.Fw
end
section
set_option linter.unusedVariables false
set_option linter.unusedSimpArgs false
namespace Go.Proofs.YtaklhjodjbgmgaaGreat
open Go.Fw Go.Proofs Go.RowKit
variable {σ σ0 : Store}
theorem own_other {σ0 s s' : Store} {el : TypeId} {d : D} {rs : List (List D)} {id : Nat} (h : Own Tryz.prog σ0 s el d rs) (hid : σ0 id = .free) (hd : idOf d ≠ some id) (hs : ∀ i, i ≠ id → s' i = s i) : Own Tryz.prog σ0 s' el d rs :=
  ⟨h.at_.same fun i a n e => hs i fun e2 => hd (by subst e; rw [← e2]; rfl), fun i hi => by
    have hne : i ≠ id := fun e => hi (by rw [e]; exact hid)
    rw [hs i hne]; exact h.ext i hi, h.new, h.nsl, h.nz⟩
theorem ext_other {s s' : Store} {i : Nat} (he : Ext σ0 s) (hf : σ0 i = .free) (hs : ∀ j, j ≠ i → s' j = s j) : Ext σ0 s' := fun j hj => by
  have hne : j ≠ i := fun e => hj (by rw [e]; exact hf)
  rw [hs j hne]; exact he j hj
theorem live_ext {s s' : Store} {id : Nat} {t : TypeId} {rows : List (List D)} (h : s id = .live t rows) (he : Ext s s') : s' id = .live t rows := (he id (by rw [h]; intro e; cases e)).trans h
theorem at_sl {P : Program} {s : Store} {el : TypeId} {rows : List (List D)} (hsz : rows.length < 2 ^ 60) : At P s el (.sl (P.cellsOf el) rows) rows := ⟨⟨rfl, .inr rfl⟩, hsz, fun es rows e => by injection e with e1 e2; rw [← e1]⟩
theorem copy_ok {t : TypeId} {bytes : Nat} {d : D} {rows : List (List D)} {K : D → Store → Prop} (h : At Tryz.prog σ t d rows) (hb : bytes * rows.length ≤ 140737488355328)
    (hK : ∀ d' s, Own Tryz.prog σ s t d' rows → K d' s) : Fw.newObj σ (.live t []) fun id σ' => appendTo Tryz.prog σ' t bytes (.osl id 0 0) d K := by
  refine newObj_intro fun id s hid _ he hs => ?_
  have ho : Own Tryz.prog σ s t (.osl id 0 0) [] := .at_new hid he hs (by simp) rfl
  exact ho.append (h.ext he) (by simpa using hb) (by have := h.size; simpa using this) fun d' s' ho' _ _ => hK _ _ (by simpa using ho')
theorem pure_spec {f : FuncId} (F : List A → Option RV) (h : ∀ az r s, F az = some r → Pure Tryz.prog f az s r) :
    SpecOk Tryz.prog f (fun az _ => ∃ r, F az = some r) (fun az s r s' => F az = some r ∧ s' = s) := by
  refine ⟨?_, ?_, ?_, ?_, ?_⟩
  · rintro az s ⟨r, hr⟩
    exact (h az r s hr).mono fun r' s' ⟨e1, e2⟩ => ⟨by rw [e1]; exact hr, e2⟩
  · rintro az s ⟨r, hr⟩ hf
    exact ⟨r, s, ⟨hr, rfl⟩, hf⟩
  · rintro az s r s' ⟨_, rfl⟩ hf; exact hf
  · rintro az s id so h0 hso ⟨r, hr⟩
    refine ⟨⟨r, hr⟩, ?_⟩
    rintro r' s' ⟨h1, rfl⟩
    exact ⟨s, ⟨h1, rfl⟩, h0, rfl⟩
  · rintro az s r s' _ ⟨_, rfl⟩ i hi
    rfl
end Go.Proofs.YtaklhjodjbgmgaaGreat
end
section
set_option linter.unusedVariables false
set_option linter.unusedSimpArgs false
namespace Go.Proofs.YtaklhjodjbgmgaaGreat
open Go.Fw Go.Proofs Go.RowKit
variable {σ σ0 : Store}
abbrev pO (id : Nat) : D := .el (.osl id 0 1) 0 0
theorem trouble_note_ok {s : Store} {id : Nat} {t : TypeId} {e : Int} {rest : List D} (h : s id = .live t [iD e :: rest]) (x : Int) :
    DCalls Tryz.prog n_pack_trouble_note [.one (pO id), iA x] s fun r s' => r = .tup [] ∧ s' id = .live t [iD (if e = 0 then x else e) :: rest] ∧ ∀ i, i ≠ id → s' i = s i := by
  refine W_pack_trouble_note (pO id) x s _ ⟨trivial, _, _, _, rfl, _, box_row h, e, rfl, bce (fun e0 => ⟨trivial, _, _, _, rfl, cell_store h (by simp) fun s' hs ho => ⟨rfl, ?_, ho⟩⟩) (fun e0 => ⟨rfl, by rw [if_neg e0]; exact h, fun _ _ => rfl⟩)⟩
  rw [hs, if_pos e0]; rfl
theorem trouble_well_ok {s : Store} {id : Nat} {t : TypeId} {e : Int} {rest : List D} (h : s id = .live t [iD e :: rest]) :
    Pure Tryz.prog n_pack_trouble_well [.one (pO id)] s (.a (bA (e == 0))) :=
  W_pack_trouble_well (pO id) s _ ⟨trivial, _, _, _, rfl, _, box_row h, e, rfl, rfl, rfl⟩
def RdIn (s : Store) (id : Nat) (r : Rd) : Prop := s id = .live t_pack_Reader [[iD r.e, .str (ofL r.l)]]
theorem pack_Read_ok (l : List UInt8) : DCalls Tryz.prog n_pack_Read [.one (.str (ofL l))] σ fun r s => ∃ id, r = .a (.one (pO id)) ∧ σ id = .free ∧ RdIn s id ⟨0, l⟩ ∧ Ext σ s ∧ ∀ i, i ≠ id → s i = σ i :=
  W_pack_Read _ σ _ (newObj_intro fun id s hid hset he hs => ⟨id, rfl, hid, hs, he, fun i hi => by rw [hset, Store.set_ne _ _ hi]⟩)
theorem Reader_take_ok {s : Store} {id : Nat} {r : Rd} (h : RdIn s id r) {n : Nat} (hn : n ≤ 2 ^ 20) (hl : r.l.length ≤ 2 ^ 60) :
    DCalls Tryz.prog n_pack_Reader_take [.one (pO id), iA 0, iA n] s fun rr s' => rr = .a (.one (.str (ofL (if (r.short n).e = 0 then r.l.take n else [])))) ∧
      RdIn s' id (if (r.short n).e = 0 then ⟨0, r.l.drop n⟩ else r.short n) ∧ ∀ i, i ≠ id → s' i = s i := by
  -- behind what was noted
  have rest : ∀ (s1 : Store) (q : Rd), RdIn s1 id q → (∀ i, i ≠ id → s1 i = s i) → q = r.short n → (q.e = 0 → n ≤ q.l.length) →
      DCalls Tryz.prog n_pack_trouble_well [.one (pO id)] s1 fun r1 s2 => ∃ b, r1 = .a (bA b) ∧ bcase (!b) (RV.a (.one (.str (ByteArray.mk (List.toArray [])))) = .a (.one (.str (ofL (if (r.short n).e = 0 then r.l.take n else [])))) ∧
        RdIn s2 id (if (r.short n).e = 0 then ⟨0, r.l.drop n⟩ else r.short n) ∧ ∀ i, i ≠ id → s2 i = s i)
        ((NotNil (pO id)) ∧ ∃ (s3 : D) (i2 off2 : Nat), (pO id = (.el s3 i2 off2 : D)) ∧ ∃ row1 : List D, Row s2 s3 i2 row1 ∧ ∃ s4 : ByteArray, ((List.drop (off2 + 1) row1).take 1 = [.str s4]) ∧ ((0 : Int) ≤ 0) ∧ ((0 : Int) ≤ (w64 (0 + (n : Int)))) ∧ ((w64 (0 + (n : Int))) ≤ (ByteArray.size s4 : Int)) ∧
          (NotNil (pO id)) ∧ ∃ (s5 : D) (i3 off3 : Nat), (pO id = (.el s5 i3 off3 : D)) ∧ ∃ row2 : List D, Row s2 s5 i3 row2 ∧ ∃ s6 : ByteArray, ((List.drop (off3 + 1) row2).take 1 = [.str s6]) ∧ ((0 : Int) ≤ (w64 (0 + (n : Int)))) ∧ ((w64 (0 + (n : Int))) ≤ (ByteArray.size s6 : Int)) ∧
          (NotNil (pO id)) ∧ ∃ (s7 : D) (i4 off4 : Nat), (pO id = (.el s7 i4 off4 : D)) ∧ storeEl [.str (ByteArray.extract s6 (Int.toNat (w64 (0 + (n : Int)))) (ByteArray.size s6))] s2 s7 i4 (off4 + 1) fun s' =>
            (RV.a (.one (.str (ByteArray.extract s4 (Int.toNat 0) (Int.toNat (w64 (0 + (n : Int))))))) = .a (.one (.str (ofL (if (r.short n).e = 0 then r.l.take n else [])))) ∧
            RdIn s' id (if (r.short n).e = 0 then ⟨0, r.l.drop n⟩ else r.short n) ∧ ∀ i, i ≠ id → s' i = s i)) := by
    intro s1 q hq ho hqe hql
    refine (trouble_well_ok hq).use ⟨_, rfl, bcnot (fun e => ?_) (fun e => ?_)⟩
    · have hne : (r.short n).e ≠ 0 := by rw [← hqe]; simpa using e
      rw [if_neg hne, if_neg hne, ← hqe]
      exact ⟨rfl, hq, ho⟩
    · have he : q.e = 0 := by simpa using e
      have hlq := hql he
      have hqr : q.l = r.l := by rw [hqe, Rd.short_l]
      have hw : w64 (0 + (n : Int)) = n := by rw [w64_id (by omega) (by omega)]; omega
      rw [hw, if_pos (by rw [← hqe]; exact he), if_pos (by rw [← hqe]; exact he)]
      refine ⟨trivial, _, _, _, rfl, _, box_row hq, ofL q.l, rfl, by omega, by omega, by rw [size_ofL]; omega, trivial, _, _, _, rfl, _, box_row hq, ofL q.l, rfl, by omega, by rw [size_ofL]; omega, trivial, _, _, _, rfl, cell_store hq (by simp) fun s' hs' ho' => ⟨?_, ?_, fun i hi => (ho' i hi).trans (ho i hi)⟩⟩
      · rw [Int.toNat_natCast, extract_ofL, hqr]; rfl
      · unfold RdIn
        rw [hs', Int.toNat_natCast, size_ofL, extract_ofL, List.take_length, hqr, he]
        rfl
  refine W_pack_Reader_take (pO id) 0 n s _ ⟨trivial, _, _, _, rfl, _, box_row h, ofL r.l, rfl, ?_⟩
  rw [size_ofL, w64_id (by omega) (by omega)]
  refine bcd (fun hg => ?_) (fun hg => ?_)
  · simp only [gt_iff_lt] at hg
    have hsh : r.short n = ⟨if r.e = 0 then 1 else r.e, r.l⟩ := by
      unfold Rd.short
      rw [if_pos (by omega)]
      split <;> rfl
    refine ⟨trivial, _, _, _, rfl, (trouble_note_ok (e := r.e) (rest := [.str (ofL r.l)]) h 1).mono ?_⟩
    rintro r1 s1 ⟨rfl, hs1, ho1⟩
    refine ⟨rfl, trivial, _, _, _, rfl, rest s1 ⟨if r.e = 0 then 1 else r.e, r.l⟩ hs1 ho1 hsh.symm fun e => ?_⟩
    simp only at e
    split at e
    · cases e
    · rename_i hc; exact absurd e hc
  · simp only [gt_iff_lt] at hg
    have hsh : r.short n = r := by unfold Rd.short; rw [if_neg (by omega)]
    exact ⟨trivial, _, _, _, rfl, rest s r h (fun _ _ => rfl) hsh.symm fun _ => by omega⟩
theorem Reader_fixed_ok {s : Store} {id : Nat} {r : Rd} (h : RdIn s id r) {n : Nat} (hn : n ≤ 4) (hl : r.l.length ≤ 2 ^ 60) :
    DCalls Tryz.prog n_pack_Reader_fixed [.one (pO id), iA n] s fun rr s' => rr = .a (iA (r.num n).1) ∧ RdIn s' id (r.num n).2 ∧ ∀ i, i ≠ id → s' i = s i := by
  refine W_pack_Reader_fixed (pO id) n s _ ((Reader_take_ok h (by omega) hl).mono ?_)
  rintro rr s1 ⟨rfl, h1, ho1⟩
  have hnum : r.num n = (rd (if (r.short n).e = 0 then r.l.take n else []), if (r.short n).e = 0 then ⟨0, r.l.drop n⟩ else r.short n) := by
    unfold Rd.num
    split
    · rw [Rd.short_l]
    · rfl
  rw [hnum]
  have hll : (if (r.short n).e = 0 then r.l.take n else []).length ≤ 4 := by
    split
    · rw [List.length_take]; omega
    · simp
  generalize (if (r.short n).e = 0 then r.l.take n else []) = l at *
  refine ⟨_, rfl, ?_⟩
  rw [bytesD_ofL]
  have hat : ∀ s, At Tryz.prog s t_uint8 (.sl 1 (l.map encU)) (l.map encU) := fun s => ⟨⟨rfl, .inr c_uint8.symm⟩, by rw [List.length_map]; omega, fun es rows e => by injection e with e1 e2; rw [← e1]; exact c_uint8.symm⟩
  refine (hat s1).lenK ⟨fun x n2 s2 => s2 = s1 ∧ ∃ j : Nat, n2 = j ∧ j ≤ l.length ∧ x = rd (l.take j), fun _ n2 _ => l.length - n2.toNat, ⟨rfl, 0, rfl, by omega, rfl⟩, ?_⟩
  rintro _ _ s2 ⟨rfl, j, rfl, hj, rfl⟩
  rw [List.length_map]
  refine bcd (fun hlt => ?_) (fun hge => ?_)
  · have hlt : j < l.length := by omega
    obtain ⟨c, hc⟩ := get_of_lt (l := l) (j := j) hlt
    refine (hat s2).load (map_get hc) c_uint8 rfl ⟨(c.toNat : Int), rfl, ?_⟩
    have hx := rdL_lt (l.take j) 0 (by omega)
    have h256 : (256 : Int) ^ (l.take j).length ≤ 256 ^ 4 := by
      have e : ∀ m : Nat, (256 : Int) ^ m = ((256 ^ m : Nat) : Int) := fun m => by simp
      rw [e, e]
      exact Int.ofNat_le.2 (Nat.pow_le_pow_right (by omega) (by rw [List.length_take]; omega))
    have hb : rd (l.take j) < 2 ^ 48 := by
      unfold rd
      have := hx.2
      have h4 : (256 : Int) ^ 4 = 4294967296 := by decide
      rw [h4] at h256
      omega
    have hor := or_byte (x := rd (l.take j)) (c := (c.toNat : Int)) hx.1 hb (by omega) (by have := c.toNat_lt; omega)
    rw [w64_succ (by omega)]
    refine ⟨⟨rfl, j + 1, rfl, hlt, ?_⟩, dec_lt hlt⟩
    rw [hor, List.take_add_one, hc, Option.toList_some, rd, rd, rdL_append]; rfl
  · have e : j = l.length := by omega
    subst e
    rw [List.take_length]
    exact ⟨rfl, h1, ho1⟩
theorem Reader_Byte_ok {s : Store} {id : Nat} {r : Rd} (h : RdIn s id r) (hl : r.l.length ≤ 2 ^ 60) : DCalls Tryz.prog n_pack_Reader_Byte [.one (pO id)] s fun rr s' => rr = .a (iA (r.num 1).1) ∧ RdIn s' id (r.num 1).2 ∧ ∀ i, i ≠ id → s' i = s i :=
  W_pack_Reader_Byte _ s _ ((Reader_fixed_ok h (n := 1) (by omega) hl).mono fun rr s' ⟨h1, h2⟩ => ⟨_, h1, rfl, h2⟩)
theorem Reader_Word_ok {s : Store} {id : Nat} {r : Rd} (h : RdIn s id r) (hl : r.l.length ≤ 2 ^ 60) : DCalls Tryz.prog n_pack_Reader_Word [.one (pO id)] s fun rr s' => rr = .a (iA (r.num 2).1) ∧ RdIn s' id (r.num 2).2 ∧ ∀ i, i ≠ id → s' i = s i :=
  W_pack_Reader_Word _ s _ ((Reader_fixed_ok h (n := 2) (by omega) hl).mono fun rr s' ⟨h1, h2⟩ => ⟨_, h1, rfl, h2⟩)
theorem Reader_Long_ok {s : Store} {id : Nat} {r : Rd} (h : RdIn s id r) (hl : r.l.length ≤ 2 ^ 60) : DCalls Tryz.prog n_pack_Reader_Long [.one (pO id)] s fun rr s' => rr = .a (iA (r.num 4).1) ∧ RdIn s' id (r.num 4).2 ∧ ∀ i, i ≠ id → s' i = s i :=
  W_pack_Reader_Long _ s _ ((Reader_fixed_ok h (n := 4) (by omega) hl).mono fun rr s' ⟨h1, h2⟩ => ⟨_, h1, rfl, h2⟩)
theorem Reader_End_ok {s : Store} {id : Nat} {r : Rd} (h : RdIn s id r) : Pure Tryz.prog n_pack_Reader_End [.one (pO id)] s (.a (iA (if r.e = 0 ∧ r.l ≠ [] then 3 else r.e))) := by
  refine W_pack_Reader_End (pO id) s _ ⟨trivial, _, _, _, rfl, (trouble_well_ok (e := r.e) (rest := [.str (ofL r.l)]) h).use ⟨_, rfl, bce (fun e => ?_) (fun e => ?_)⟩⟩
  · refine ⟨trivial, _, _, _, rfl, _, box_row h, ofL r.l, rfl, bcnot (fun hs => ?_) (fun hs => ?_)⟩
    · have hne : r.l ≠ [] := fun hl => by
        rw [toList_data, toList_data, hl] at hs
        cases hs
      rw [if_pos ⟨e, hne⟩]
      exact ⟨rfl, rfl⟩
    · have hl : r.l = [] := by
        have := eq_of_beq hs
        rw [toList_data, toList_data] at this
        exact this
      refine ⟨trivial, _, _, _, rfl, _, box_row h, r.e, rfl, ?_⟩
      rw [if_neg (fun g => g.2 hl)]; exact ⟨rfl, rfl⟩
  · refine ⟨trivial, _, _, _, rfl, _, box_row h, r.e, rfl, ?_⟩
    rw [if_neg (fun g => e g.1)]; exact ⟨rfl, rfl⟩
end Go.Proofs.YtaklhjodjbgmgaaGreat
end
section
set_option linter.unusedVariables false
set_option linter.unusedSimpArgs false
namespace Go.Proofs.YtaklhjodjbgmgaaGreat
open Go.Fw Go.Proofs Go.RowKit
variable {σ σ0 : Store}
theorem wu32 {n : Int} (h0 : 0 ≤ n) (h1 : n < 4294967296) : IntKind.wrap .u32 n = n := by
  show n % 4294967296 = n
  omega
theorem bit_step {r : Nat} (h : r < 4294967296) :
    IntKind.wrap .u32 (BitVec.toNat ((BitVec.ofInt 32 (IntKind.wrap .u32 ((r : Int) * (2 ^ 1)))) ^^^ (BitVec.ofInt 32 (IntKind.wrap .u32 (BitVec.toNat ((BitVec.ofInt 32 79764919) &&& (BitVec.ofInt 32 (IntKind.wrap .u32 (0 - (Int.fdiv r (2 ^ 31)))))) : Int)))) : Int) = (crcBit r : Nat) := by
  have hfd : Int.fdiv (r : Int) (2 ^ 31) = ((r / 2147483648 : Nat) : Int) := by
    rw [Int.fdiv_eq_ediv_of_nonneg _ (by decide)]
    simp
  have hlt := crcBit_lt h
  rw [hfd]
  unfold crcBit at hlt ⊢
  by_cases hb : 2147483648 ≤ r
  · rw [if_pos hb] at hlt ⊢
    have e1 : r / 2147483648 = 1 := by omega
    have e2 : IntKind.wrap .u32 ((r : Int) * 2 ^ 1) = ((2 * r - 4294967296 : Nat) : Int) := by
      show ((r : Int) * 2 ^ 1) % 4294967296 = _
      omega
    have e3 : IntKind.wrap .u32 (0 - ((1 : Nat) : Int)) = ((4294967295 : Nat) : Int) := by decide
    rw [e1, e2, e3]
    have e4 : ((BitVec.ofInt 32 79764919) &&& (BitVec.ofInt 32 ((4294967295 : Nat) : Int))).toNat = 79764919 := by decide
    rw [e4]
    have e5 : IntKind.wrap .u32 ((79764919 : Nat) : Int) = ((79764919 : Nat) : Int) := by decide
    rw [e5, BitVec.ofInt_natCast, BitVec.ofInt_natCast, BitVec.toNat_xor, BitVec.toNat_ofNat, BitVec.toNat_ofNat, Nat.mod_eq_of_lt (by omega), Nat.mod_eq_of_lt (by omega)]
    exact wu32 (by omega) (by omega)
  · rw [if_neg hb] at hlt ⊢
    have e1 : r / 2147483648 = 0 := by omega
    have e2 : IntKind.wrap .u32 ((r : Int) * 2 ^ 1) = ((2 * r : Nat) : Int) := by
      show ((r : Int) * 2 ^ 1) % 4294967296 = _
      omega
    have e3 : IntKind.wrap .u32 (0 - ((0 : Nat) : Int)) = ((0 : Nat) : Int) := by decide
    rw [e1, e2, e3]
    have e4 : ((BitVec.ofInt 32 79764919) &&& (BitVec.ofInt 32 ((0 : Nat) : Int))).toNat = 0 := by decide
    rw [e4]
    have e5 : IntKind.wrap .u32 ((0 : Nat) : Int) = ((0 : Nat) : Int) := by decide
    rw [e5, BitVec.ofInt_natCast, BitVec.ofInt_natCast, BitVec.toNat_xor, BitVec.toNat_ofNat, BitVec.toNat_ofNat, Nat.mod_eq_of_lt (by omega), Nat.mod_eq_of_lt (by omega), Nat.xor_zero]
    exact wu32 (by omega) (by omega)
theorem byte_step {r : Nat} (h : r < 4294967296) (b : UInt8) :
    IntKind.wrap .u32 (BitVec.toNat ((BitVec.ofInt 32 (r : Int)) ^^^ (BitVec.ofInt 32 (IntKind.wrap .u32 ((IntKind.wrap .u32 (b.toNat : Int)) * (2 ^ 24))))) : Int) = ((r ^^^ (b.toNat * 16777216) : Nat) : Int) := by
  have hb := b.toNat_lt
  have hx := xor_lt32 h (show b.toNat * 16777216 < 4294967296 by omega)
  have e1 : IntKind.wrap .u32 ((IntKind.wrap .u32 (b.toNat : Int)) * (2 ^ 24)) = ((b.toNat * 16777216 : Nat) : Int) := by
    rw [wu32 (n := (b.toNat : Int)) (by omega) (by omega)]
    rw [wu32 (by omega) (by omega)]
    omega
  rw [e1, BitVec.ofInt_natCast, BitVec.ofInt_natCast, BitVec.toNat_xor, BitVec.toNat_ofNat, BitVec.toNat_ofNat, Nat.mod_eq_of_lt (by omega), Nat.mod_eq_of_lt (by omega)]
  exact wu32 (by omega) (by omega)
def encS (b : List UInt8) : List D := [.str (ofL b)]
theorem crcL_take {r : Nat} {l : List UInt8} {m : Nat} {b : UInt8} (h : l[m]? = some b) : crcL r (l.take (m + 1)) = crcU (crcL r (l.take m)) b := by
  rw [List.take_add_one, h, Option.toList_some, crcL_append, crcL_cons, crcL_nil]
theorem flat_take {l : List (List UInt8)} {m : Nat} {b : List UInt8} (h : l[m]? = some b) : (l.take (m + 1)).flatten = (l.take m).flatten ++ b := by
  rw [List.take_add_one, h, Option.toList_some, List.flatten_append]; simp
theorem crcN_take (r q : Nat) : crcN (q + 1) r = crcBit (crcN q r) := by rw [crcN_add q 1, crcN_succ, crcN_zero]
theorem seal_Sum_ok {d : D} {l : List (List UInt8)} (h : At Tryz.prog σ t_string d (l.map encS)) (hl : ∀ b ∈ l, b.length < 2 ^ 60) : Pure Tryz.prog n_seal_Sum [.one d] σ (.a (iA (crc l.flatten))) := by
  have hls := h.size
  rw [List.length_map] at hls
  refine W_seal_Sum d σ _ (h.lenK ⟨fun n n1 s => s = σ ∧ ∃ j : Nat, n1 = j ∧ j ≤ l.length ∧ n = (crcL 4294967295 (l.take j).flatten : Nat), fun _ n1 _ => l.length - n1.toNat, ⟨rfl, 0, rfl, by omega, rfl⟩, ?_⟩)
  rintro _ _ s ⟨rfl, j, rfl, hj, rfl⟩
  rw [List.length_map]
  refine bcd (fun hlt => ?_) (fun hge => ?_)
  rotate_left
  · have e : j = l.length := by omega
    subst e
    rw [List.take_length]
    have := crcL_lt l.flatten (r := 4294967295) (by omega)
    rw [w64_id (by omega) (by omega)]
    exact ⟨rfl, rfl⟩
  have hlt : j < l.length := by omega
  obtain ⟨b, hb⟩ := get_of_lt (l := l) (j := j) hlt
  have hbl := hl b (List.mem_of_getElem? hb)
  refine h.load (map_get hb) c_string rfl ⟨ofL b, rfl, ?_⟩
  rw [size_ofL]
  generalize hr0 : crcL 4294967295 (l.take j).flatten = r0
  have hr0l : r0 < 4294967296 := by rw [← hr0]; exact crcL_lt _ (by omega)
  refine ⟨fun n2 n3 s' => s' = s ∧ ∃ m : Nat, n3 = m ∧ m ≤ b.length ∧ n2 = (crcL r0 (b.take m) : Nat), fun _ n3 _ => b.length - n3.toNat, ⟨rfl, 0, rfl, by omega, rfl⟩, ?_⟩
  rintro _ _ s' ⟨rfl, m, rfl, hm, rfl⟩
  refine bcd (fun hlt2 => ?_) (fun hge => ?_)
  rotate_left
  · have e : m = b.length := by omega
    subst e
    rw [List.take_length, w64_succ (by omega)]
    refine ⟨⟨rfl, j + 1, rfl, by omega, ?_⟩, dec_lt hlt⟩
    rw [flat_take hb, crcL_append, hr0]
  have hlt2 : m < b.length := by omega
  obtain ⟨c, hc⟩ := get_of_lt (l := b) (j := m) hlt2
  refine ⟨c.toNat, ⟨by omega, c, by rw [Int.toNat_natCast]; exact hc, rfl⟩, ?_⟩
  have hr1 := crcL_lt (b.take m) hr0l
  rw [byte_step hr1]
  have hx := xor_lt32 hr1 (show c.toNat * 16777216 < 4294967296 by have := c.toNat_lt; omega)
  refine ⟨fun n5 n6 s => s = s' ∧ ∃ q : Nat, n6 = q ∧ q ≤ 8 ∧ n5 = (crcN q (crcL r0 (b.take m) ^^^ (c.toNat * 16777216)) : Nat), fun _ n6 _ => 8 - n6.toNat, ⟨rfl, 0, rfl, by omega, rfl⟩, ?_⟩
  rintro _ _ s ⟨rfl, q, rfl, hq, rfl⟩
  refine bcd (fun hlt3 => ?_) (fun hge => ?_)
  · have hlt3 : q < 8 := by omega
    rw [w64_succ (by omega)]
    have hN := crcN_lt q hx
    refine ⟨⟨rfl, q + 1, rfl, by omega, ?_⟩, by show 8 - ((q + 1 : Nat) : Int).toNat < 8 - ((q : Nat) : Int).toNat; omega⟩
    rw [bit_step hN, crcN_take]
  · have e : q = 8 := by omega
    subst e
    rw [w64_succ (by omega)]
    refine ⟨⟨rfl, m + 1, rfl, by omega, ?_⟩, dec_lt hlt2⟩
    rw [crcL_take hc, crcU]
theorem fl_str (l : List UInt8) : Flat (.str (ofL l)) := .str _
theorem fl_i (n : Int) : Flat (iD n) := .int _ _
theorem num_fst {r : List UInt8} {n : Nat} (h : n ≤ r.length) : (⟨0, r⟩ : Rd).num n = (rd (r.take n), ⟨0, r.drop n⟩) := by
  have hs : (⟨0, r⟩ : Rd).short n = ⟨0, r⟩ := by unfold Rd.short; rw [if_neg (by show ¬ r.length < n; omega)]
  unfold Rd.num
  rw [hs]; rfl
theorem seal_cut_ok {t : List UInt8} (ht : t.length ≤ 2 ^ 60) : Pure Tryz.prog n_seal_cut [.one (.str (ofL t))] σ (.tup [iA (cutL t).1, iA (cutL t).2]) := by
  refine Pure.of (W_seal_cut (ofL t) σ _ ?_) (.tup [iD (cutL t).1, iD (cutL t).2] (by simp [fl_i]))
  unfold V_seal_cut cutL
  rw [size_ofL]
  refine bcd (fun h1 => ?_) (fun h1 => ?_)
  · rw [if_pos (by omega)]; exact ⟨rfl, .refl _⟩
  rw [if_neg (by omega)]
  refine (pack_Read_ok t).mono ?_
  rintro r s ⟨id, rfl, hid, hr, he, ho⟩
  refine ⟨_, rfl, (Reader_Word_ok hr ht).mono ?_⟩
  rintro r s1 ⟨rfl, hr1, ho1⟩
  rw [num_fst (by omega)]
  have he1 : Ext σ s1 := fun i hi => by
    have hne : i ≠ id := fun e => hi (by rw [e]; exact hid)
    rw [ho1 i hne]; exact he i hi
  have hb := rdL_lt (t.take 2) 0 (by omega)
  have hbb : rd (t.take 2) < 65536 := by
    have e : (t.take 2).length = 2 := by rw [List.length_take]; omega
    have := hb.2
    rw [e] at this
    unfold rd
    omega
  have hb0 : 0 ≤ rd (t.take 2) := hb.1
  refine ⟨_, rfl, ?_⟩
  have hw : w64 (rd (t.take 2) + 6) = rd (t.take 2) + 6 := w64_id (by omega) (by omega)
  rw [hw]
  refine bcd (fun h2 => ?_) (fun h2 => bcd (fun h3 => ?_) (fun h3 => ?_))
  · rw [if_pos h2]; exact ⟨rfl, he1⟩
  · rw [if_neg h2, if_pos h3]; exact ⟨rfl, he1⟩
  · rw [if_neg h2, if_neg h3]; exact ⟨rfl, he1⟩
theorem cut_pos {t : List UInt8} (h : (cutL t).2 = 0) : 6 ≤ (cutL t).1 ∧ (cutL t).1 ≤ 1030 ∧ (cutL t).1 ≤ t.length := by
  have hb := rdL_lt (t.take 2) 0 (by omega)
  have hb0 : 0 ≤ rd (t.take 2) := hb.1
  unfold cutL at h ⊢
  split at h
  · cases h
  split at h
  · cases h
  split at h
  · cases h
  rename_i h1 h2 h3
  rw [if_neg h1, if_neg h2, if_neg h3]
  refine ⟨by show 6 ≤ rd (t.take 2) + 6; omega, by show rd (t.take 2) + 6 ≤ 1030; omega, by show rd (t.take 2) + 6 ≤ t.length; omega⟩
def rdPre (az : List A) (s : Store) : Prop := ∃ l, az = [.one (.str (ofL l))]
def rdPost (az : List A) (s : Store) (r : RV) (s' : Store) : Prop := ∃ l id, az = [.one (.str (ofL l))] ∧ s id = .free ∧ r = .a (.one (pO id)) ∧ s' = s.set id (.live t_pack_Reader [[iD 0, .str (ofL l)]])
theorem ofL_inj {a b : List UInt8} (h : ofL a = ofL b) : a = b := by
  have := congrArg (fun x : ByteArray => x.data.toList) h
  exact this
theorem read_spec : SpecOk Tryz.prog n_pack_Read rdPre rdPost := by
  refine ⟨?_, ?_, ?_, ?_, ?_⟩
  · rintro az s ⟨l, rfl⟩
    refine W_pack_Read _ s _ (newObj_intro fun id s' hid hset he hs => ⟨l, id, rfl, hid, rfl, hset⟩)
  · rintro az s ⟨l, rfl⟩ ⟨N, hN⟩
    exact ⟨_, _, ⟨l, N, rfl, hN N (Nat.le_refl _), rfl, rfl⟩, Fin.set' ⟨N, hN⟩ _ _⟩
  · rintro az s r s' ⟨l, id, rfl, h3, rfl, rfl⟩ hf
    exact hf.set' _ _
  · rintro az s id so hid hso ⟨l, rfl⟩
    refine ⟨⟨l, rfl⟩, ?_⟩
    rintro r s' ⟨l', id', e1, g3, rfl, rfl⟩
    have hne : id' ≠ id := fun e => by subst e; rw [Store.set_same] at g3; exact hso g3
    rw [Store.set_ne _ _ hne] at g3
    injection e1 with e1 _
    injection e1 with e1
    injection e1 with e1
    have := ofL_inj e1
    subst this
    refine ⟨_, ⟨l, id', rfl, g3, rfl, rfl⟩, ?_, set_comm (Ne.symm hne) _ _⟩
    rw [Store.set_ne _ _ (Ne.symm hne)]; exact hid
  · rintro az s r s' _ ⟨l, id, rfl, h3, rfl, rfl⟩ i hi
    exact Store.set_ne _ _ (fun e => hi (e ▸ h3))
theorem seal_Next_ok {t : List UInt8} (ht : t.length ≤ 2 ^ 59) : Pure Tryz.prog n_seal_Next [.one (.str (ofL t)), iA 0] σ (.tup [.one (.str (ofL (nextL t).1)), iA (nextL t).2.1, iA (nextL t).2.2]) := by
  refine Pure.of (W_seal_Next (ofL t) 0 σ _ ?_) (.tup [.str (ofL (nextL t).1), iD (nextL t).2.1, iD (nextL t).2.2] (by simp [fl_i, fl_str]))
  intro R hR
  have go : R σ := by
    refine hR _ ?_
    rw [size_ofL]
    refine ⟨by omega, by omega, ?_⟩
    have e0 : (ofL t).extract (Int.toNat 0) t.length = ofL t := by rw [extract_ofL, List.take_length]; rfl
    rw [e0]
    refine (seal_cut_ok (by omega)).use ⟨_, _, rfl, ?_⟩
    unfold nextL
    refine bcn (fun h1 => ?_) (fun h1 => ?_)
    · rw [if_pos h1]; exact ⟨rfl, .refl _⟩
    have hn := cut_pos h1
    rw [if_neg (by rw [h1]; simp)]
    obtain ⟨k, hk⟩ : ∃ k : Nat, (cutL t).1 = ((k + 6 : Nat) : Int) := ⟨(cutL t).1.toNat - 6, by omega⟩
    rw [hk] at hn ⊢
    have hw0 : w64 (0 + ((k + 6 : Nat) : Int)) = ((k + 6 : Nat) : Int) := by rw [w64_id (by omega) (by omega)]; omega
    have hw1 : w64 (((k + 6 : Nat) : Int) - 4) = ((k + 2 : Nat) : Int) := by rw [w64_id (by omega) (by omega)]; omega
    rw [hw0, hw1]
    simp only [Int.toNat_natCast, Int.toNat_zero, extract_ofL, size_ofL, List.drop_zero]
    have l1 : (t.take (k + 6)).length = k + 6 := by rw [List.length_take]; omega
    have e1 : k + 6 - 4 = k + 2 := by omega
    have e2 : ((t.take (k + 6)).take (k + 2)) = t.take (k + 2) := by rw [List.take_take]; congr 1; omega
    have e3 : ((t.take (k + 6)).take (k + 6)).drop (k + 2) = (t.take (k + 6)).drop (k + 2) := by rw [List.take_take]; congr 2; omega
    rw [l1, e1, e2, e3]
    have l2 : ((t.take (k + 6)).drop (k + 2)).length = 4 := by rw [List.length_drop, l1]; omega
    refine ⟨by omega, by omega, by omega, ?_⟩
    intro R1 hR1
    -- the sum is right, or not
    have fin : ∀ s, Ext σ s → R1 (rd ((t.take (k + 6)).drop (k + 2)) != (crc (t.take (k + 2)) : Int)) s := fun s he => by
      refine hR1 _ _ (bcn (fun h2 => ?_) (fun h2 => ⟨by omega, by omega, by omega, ?_⟩))
      · rw [if_pos h2]; exact ⟨rfl, he⟩
      · rw [if_neg (by simpa using h2)]; exact ⟨rfl, he⟩
    have hsum : ∀ {s : Store} {id : Nat}, s id = .live t_string [[.str (ofL (t.take (k + 2)))]] → Pure Tryz.prog n_seal_Sum [.one (.osl id 0 1)] s (.a (iA (crc (t.take (k + 2))))) := fun {s id} hs => by
      have h := seal_Sum_ok (σ := s) (d := .osl id 0 1) (l := [t.take (k + 2)]) (At.fresh hs (by simp) rfl) (by intro b hb; simp at hb; rw [hb, List.length_take]; omega)
      simpa using h
    have hnum : (⟨0, (t.take (k + 6)).drop (k + 2)⟩ : Rd).num 4 = (rd ((t.take (k + 6)).drop (k + 2)), ⟨0, ((t.take (k + 6)).drop (k + 2)).drop 4⟩) := by
      rw [num_fst (by omega), List.take_of_length_le (by omega)]
    refine ⟨⟨by omega, by omega, by omega, by omega, by omega, ?_⟩, rdPre, rdPost, read_spec, by omega, by omega, by omega, by omega, by omega, ⟨_, rfl⟩, ?_⟩
    · refine (pack_Read_ok _).mono ?_
      rintro r s ⟨id, rfl, hid, hr, he, ho⟩
      refine ⟨_, rfl, (Reader_Long_ok hr (by rw [l2]; omega)).mono ?_⟩
      rintro r s1 ⟨rfl, hr1, ho1⟩
      rw [hnum]
      have he1 : Ext σ s1 := fun i hi => by
        have hne : i ≠ id := fun e => hi (by rw [e]; exact hid)
        rw [ho1 i hne]; exact he i hi
      exact ⟨_, rfl, newObj_intro fun id2 s2 _ _ he2 hs2 => (hsum hs2).use ⟨_, rfl, fin s2 (he1.trans he2)⟩⟩
    · rintro r s ⟨l', id, e, hid, rfl, rfl⟩
      injection e with e _
      injection e with e
      injection e with e
      have := ofL_inj e
      subst this
      have hr : RdIn (σ.set id (.live t_pack_Reader [[iD 0, .str (ofL ((t.take (k + 6)).drop (k + 2)))]])) id ⟨0, (t.take (k + 6)).drop (k + 2)⟩ := Store.set_same _ _ _
      have he : Ext σ (σ.set id (.live t_pack_Reader [[iD 0, .str (ofL ((t.take (k + 6)).drop (k + 2)))]])) := Ext.new hid _
      refine ⟨_, rfl, newObj_intro fun id2 s2 hid2 _ he2 hs2 => ?_⟩
      have hne : id ≠ id2 := fun e => by rw [← e, hr] at hid2; cases hid2
      have hr2 : RdIn s2 id ⟨0, (t.take (k + 6)).drop (k + 2)⟩ := by unfold RdIn; rw [he2 id (by rw [hr]; intro e; cases e)]; exact hr
      refine (Reader_Long_ok hr2 (by rw [l2]; omega)).mono ?_
      rintro r s3 ⟨rfl, hr3, ho3⟩
      rw [hnum]
      have he3 : Ext σ s3 := fun i hi => by
        have hne : i ≠ id := fun e => hi (by rw [e]; exact hid)
        rw [ho3 i hne]; exact (he.trans he2) i hi
      exact ⟨_, rfl, (hsum (by rw [ho3 id2 (Ne.symm hne)]; exact hs2)).use ⟨_, rfl, fin s3 he3⟩⟩
  refine bcd (fun h => absurd h (by omega)) (fun _ => bcd (fun h => ?_) (fun _ => go))
  rw [size_ofL] at h; omega
theorem seal_Open_ok {t : List UInt8} (ht : t.length ≤ 2 ^ 59) : Pure Tryz.prog n_seal_Open [.one (.str (ofL t))] σ (.tup [.one (.str (ofL (openL t).1)), iA (openL t).2]) := by
  refine W_seal_Open (ofL t) σ _ ((seal_cut_ok (by omega)).use ⟨_, _, rfl, ?_⟩)
  unfold openL
  rw [size_ofL]
  refine bcn (fun h1 => ?_) (fun h1 => bcd (fun h2 => ?_) (fun h2 => ?_))
  · rw [if_pos h1]; exact ⟨rfl, rfl⟩
  · rw [if_neg (by rw [h1]; simp), if_pos h2]; exact ⟨rfl, rfl⟩
  · rw [if_neg (by rw [h1]; simp), if_neg h2]
    exact (seal_Next_ok ht).use ⟨_, _, _, rfl, rfl, rfl⟩
theorem next_len (t : List UInt8) : (nextL t).1.length ≤ t.length := by
  unfold nextL
  split
  · simp
  split
  · simp
  · simp; omega
theorem open_len (t : List UInt8) : (openL t).1.length ≤ t.length := by
  unfold openL
  split
  · simp
  split
  · simp
  · exact next_len t
theorem link_Read_ok {t : List UInt8} (ht : t.length ≤ 2 ^ 59) : Pure Tryz.prog n_link_Read [.one (.str (ofL t))] σ (.tup [iA (saidL t).p, iA (saidL t).n, iA (saidL t).s, .one (.str (ofL (saidL t).b)), iA (saidL t).e]) := by
  refine Pure.of (W_link_Read (ofL t) σ _ ((seal_Open_ok ht).use ⟨_, _, rfl, ?_⟩)) (.tup [iD (saidL t).p, iD (saidL t).n, iD (saidL t).s, .str (ofL (saidL t).b), iD (saidL t).e] (by simp [fl_i, fl_str]))
  have hol := open_len t
  unfold saidL
  rw [size_ofL]
  refine bcn (fun h1 => ?_) (fun h1 => bcd (fun h2 => ?_) (fun h2 => bcd (fun h3 => ?_) (fun h3 => ?_)))
  · rw [if_pos h1]; exact ⟨rfl, .refl _⟩
  · rw [if_neg (by rw [h1]; simp), if_pos (by omega)]; exact ⟨rfl, .refl _⟩
  · rw [if_neg (by rw [h1]; simp), if_neg (by omega), if_pos (by omega)]; exact ⟨rfl, .refl _⟩
  rw [if_neg (by rw [h1]; simp), if_neg (by omega), if_neg (by omega)]
  generalize (openL t).1 = b at *
  refine (pack_Read_ok b).mono ?_
  rintro r s ⟨id, rfl, hid, hr, he, ho⟩
  have ex : ∀ {s s' : Store}, Ext σ s → (∀ i, i ≠ id → s' i = s i) → Ext σ s' := fun {s s'} he ho i hi => by
    have hne : i ≠ id := fun e => hi (by rw [e]; exact hid)
    rw [ho i hne]; exact he i hi
  refine ⟨_, rfl, by omega, by omega, (Reader_Byte_ok hr (by show b.length ≤ 2 ^ 60; omega)).mono ?_⟩
  rintro r s1 ⟨rfl, hr1, ho1⟩
  have n1 : (⟨0, b⟩ : Rd).num 1 = (rd (b.take 1), ⟨0, b.drop 1⟩) := num_fst (by omega)
  rw [n1] at hr1 ⊢
  refine ⟨_, rfl, (Reader_Word_ok hr1 (by show (b.drop 1).length ≤ 2 ^ 60; simp; omega)).mono ?_⟩
  rintro r s2 ⟨rfl, hr2, ho2⟩
  have n2 : (⟨0, b.drop 1⟩ : Rd).num 2 = (rd ((b.drop 1).take 2), ⟨0, (b.drop 1).drop 2⟩) := num_fst (by simp; omega)
  rw [n2] at hr2 ⊢
  refine ⟨_, rfl, (Reader_Long_ok hr2 (by show ((b.drop 1).drop 2).length ≤ 2 ^ 60; simp; omega)).mono ?_⟩
  rintro r s3 ⟨rfl, hr3, ho3⟩
  have n3 : (⟨0, (b.drop 1).drop 2⟩ : Rd).num 4 = (rd (((b.drop 1).drop 2).take 4), ⟨0, ((b.drop 1).drop 2).drop 4⟩) := num_fst (by simp; omega)
  rw [n3]
  refine ⟨_, rfl, ?_, ex (ex (ex he ho1) ho2) ho3⟩
  rw [extract_ofL, List.take_length, List.drop_drop]
/-! ### numbers of telegrams -/
end Go.Proofs.YtaklhjodjbgmgaaGreat
end
section
set_option linter.unusedVariables false
set_option linter.unusedSimpArgs false
namespace Go.Proofs.YtaklhjodjbgmgaaGreat
open Go.Fw Go.Proofs Go.RowKit
variable {σ σ0 : Store}
def gapI (a b : Int) : Int := w64 (IntKind.wrap .i16 (IntKind.wrap .u16 (IntKind.wrap .u16 b - IntKind.wrap .u16 a)))
theorem seq_Gap_p (a b : Int) : Pure Tryz.prog n_seq_Gap [iA a, iA b] σ (.a (iA (gapI a b))) := W_seq_Gap a b σ _ ⟨rfl, rfl⟩
theorem seq_Newer_ok (a b : Int) : Pure Tryz.prog n_seq_Newer [iA a, iA b] σ (.a (bA (decide (gapI a b > 0)))) := W_seq_Newer a b σ _ ((seq_Gap_p a b).use ⟨_, rfl, rfl, rfl⟩)
def gapF (az : List A) : Option RV :=
  match az with
  | [.one (.int .i64 a), .one (.int .i64 b)] => some (.a (iA (gapI a b)))
  | _ => none
theorem gap_spec : SpecOk Tryz.prog n_seq_Gap (fun az _ => ∃ r, gapF az = some r) (fun az s r s' => gapF az = some r ∧ s' = s) := pure_spec gapF fun az r s h => by
  unfold gapF at h
  split at h
  · injection h with h; subst h; exact seq_Gap_p _ _
  · cases h
def Keep (id : Nat) (s s' : Store) : Prop := ∀ i, i ≠ id → s i ≠ .free → s' i = s i
theorem Keep.refl (id : Nat) (s : Store) : Keep id s s := fun _ _ _ => rfl
theorem Keep.of {id : Nat} {s s' : Store} (h : ∀ i, i ≠ id → s' i = s i) : Keep id s s' := fun i hi _ => h i hi
theorem Keep.trans {id : Nat} {s s' s'' : Store} (h : Keep id s s') (h' : Keep id s' s'') : Keep id s s'' := fun i hi hf => by
  have e := h i hi hf
  rw [h' i hi (by rw [e]; exact hf), e]
theorem Keep.ext {id : Nat} {s s' : Store} (h : Ext s s') : Keep id s s' := fun i _ hf => h i hf
theorem seq_run_take_ok {s : Store} {id : Nat} {a b : Int} (h : s id = .live t_seq_run [[iD a, iD b]]) (n : Int) :
    DCalls Tryz.prog n_seq_run_take [.one (pO id), iA n] s fun r s' => r = .tup [] ∧ (∃ a' b', s' id = .live t_seq_run [[iD a', iD b']]) ∧ ∀ i, i ≠ id → s' i = s i := by
  refine W_seq_run_take (pO id) n s _ ⟨trivial, _, _, _, rfl, _, box_row h, a, rfl, (seq_Newer_ok a n).use ⟨_, rfl, bc (fun _ => ?_) (fun _ => ⟨rfl, ⟨a, b, h⟩, fun _ _ => rfl⟩)⟩⟩
  refine ⟨_, _, gap_spec, trivial, _, _, _, rfl, _, box_row h, b, rfl, trivial, _, _, _, rfl, _, box_row h, a, rfl, ⟨_, rfl⟩, ?_⟩
  rintro r s3 ⟨hr, rfl⟩
  injection hr with hr; subst hr
  refine ⟨_, rfl, trivial, _, _, _, rfl, cell_store h (by simp) fun s4 hs4 ho4 => ⟨trivial, _, _, _, rfl, cell_store hs4 (by simp [patch]) fun s5 hs5 ho5 => ⟨rfl, ⟨n, _, hs5⟩, fun i hi => (ho5 i hi).trans (ho4 i hi)⟩⟩⟩
theorem seq_Lost_ok {d : D} {l : List Int} (h : At Tryz.prog σ t_int d (l.map Go.Fw.encI)) : DCalls Tryz.prog n_seq_Lost [.one d] σ fun r s => s = σ ∧ ∃ n, r = .a (iA n) := by
  have hl := h.size
  rw [List.length_map] at hl
  have key : DCalls Tryz.prog n_seq_Lost [.one d] σ fun r s => Ext σ s ∧ ∃ n, r = .a (iA n) := by
    refine W_seq_Lost d σ _ (h.lenK ?_)
    rw [List.length_map]
    refine bce (fun _ => ⟨.refl _, _, rfl⟩) (fun hne => ?_)
    obtain ⟨x, hx⟩ := get_of_lt (l := l) (j := 0) (by omega)
    refine h.load (j := 0) (map_get hx) c_int rfl ⟨x, rfl, newObj_intro fun id s1 hid hset he hs1 => cell_store hs1 (by simp) fun s2 hs2 ho2 => ?_⟩
    have ex : ∀ {s s' : Store}, Ext σ s → (∀ i, i ≠ id → s' i = s i) → Ext σ s' := fun {s s'} he ho i hi => by
      have hne : i ≠ id := fun e => hi (by rw [e]; exact hid)
      rw [ho i hne]; exact he i hi
    have he2 := ex he ho2
    refine (h.ext he2).sliceFromK (lo := 1) c_int rfl (by rw [List.length_map]; omega) ?_
    have hsub : At Tryz.prog s2 t_int (dsub d 1 (l.map Go.Fw.encI).length) (((l.map Go.Fw.encI).drop 1).take ((l.map Go.Fw.encI).length - 1)) := (h.ext he2).sub (by rw [List.length_map]; omega) (Nat.le_refl _)
    have hsub : At Tryz.prog s2 t_int (dsub d 1 (l.map Go.Fw.encI).length) ((l.drop 1).map Go.Fw.encI) := by
      rw [List.take_of_length_le (by simp)] at hsub
      rwa [List.map_drop]
    generalize dsub d 1 (l.map Go.Fw.encI).length = d1 at hsub ⊢
    have hl2 : (l.drop 1).length < 2 ^ 60 := by simp; omega
    generalize l.drop 1 = l1 at hsub hl2
    refine hsub.lenK ⟨fun n s => ∃ j : Nat, n = j ∧ j ≤ l1.length ∧ Ext σ s ∧ (∃ a b, s id = .live t_seq_run [[iD a, iD b]]) ∧ ∀ i, i ≠ id → s i = s2 i, fun n _ => l1.length - n.toNat, ⟨0, rfl, by omega, he2, ⟨_, _, hs2⟩, fun _ _ => rfl⟩, ?_⟩
    rintro _ s ⟨j, rfl, hj, hes, ⟨a, b, hab⟩, hos⟩
    rw [List.length_map]
    refine bcd (fun hlt => ?_) (fun _ => ⟨_, box_row hab, b, rfl, hes, _, rfl⟩)
    have hlt : j < l1.length := by omega
    obtain ⟨y, hy⟩ := get_of_lt (l := l1) (j := j) hlt
    have hne : idOf d1 ≠ some id := fun e => by
      cases d1 with
      | osl i a n =>
        have : i = id := by simpa [idOf] using e
        subst this
        obtain ⟨t, rows, g1, g2, _⟩ := hsub.rows
        rw [hs2] at g1
        injection g1 with g1 _
        rw [← g1, c_seq_run, c_int] at g2
        cases g2
      | _ => simp [idOf] at e
    have hsubs : At Tryz.prog s t_int d1 (l1.map Go.Fw.encI) := hsub.same fun i a n e => hos i fun e2 => hne (by rw [e, e2]; rfl)
    refine hsubs.load (map_get hy) c_int rfl ⟨y, rfl, (seq_run_take_ok hab y).mono ?_⟩
    rintro r s3 ⟨rfl, ⟨a', b', h3⟩, ho3⟩
    rw [w64_succ (by omega)]
    exact ⟨rfl, ⟨j + 1, rfl, hlt, ex hes ho3, ⟨a', b', h3⟩, fun i hi => (ho3 i hi).trans (hos i hi)⟩, dec_lt hlt⟩
  exact key.ret fun r s ⟨he, n, e⟩ => by subst e; exact ⟨_, σ, .pure he (flat_i n).fz, rfl, n, rfl⟩
def lostPre (az : List A) (s : Store) : Prop := ∃ (d : D) (l : List Int), az = [.one d] ∧ At Tryz.prog s t_int d (l.map Go.Fw.encI)
def lostPost (az : List A) (s : Store) (r : RV) (s' : Store) : Prop := s' = s ∧ ∃ n, r = .a (iA n)
theorem lost_spec : SpecOk Tryz.prog n_seq_Lost lostPre lostPost := by
  refine ⟨?_, ?_, ?_, ?_, ?_⟩
  · rintro az s ⟨d, l, rfl, h⟩
    exact seq_Lost_ok h
  · rintro az s _ hf
    exact ⟨.a (iA 0), s, ⟨rfl, 0, rfl⟩, hf⟩
  · rintro az s r s' ⟨rfl, _⟩ hf; exact hf
  · rintro az s id so h0 hso ⟨d, l, rfl, h⟩
    refine ⟨⟨d, l, rfl, h.ext (Ext.new h0 so)⟩, ?_⟩
    rintro r s' ⟨rfl, hr⟩
    exact ⟨s, ⟨rfl, hr⟩, h0, rfl⟩
  · rintro az s r s' _ ⟨rfl, _⟩ i hi
    rfl
def RcIn (s : Store) (id : Nat) (r : Rc) : Prop := ∃ lost num : Int, s id = .live t_link_Receiver [[iD r.Last, iD lost, iD num, iD r.Peer, iD r.Age]]
theorem link_record_note_ok {s : Store} {id : Nat} {r : Rc} (h : RcIn s id r) (number stamp : Int) :
    DCalls Tryz.prog n_link_record_note [.one (pO id), iA number, iA stamp] s fun rr s' => rr = .tup [] ∧ RcIn s' id { r with Last := stamp } ∧ Keep id s s' := by
  obtain ⟨lost, num, h⟩ := h
  refine W_link_record_note (pO id) number stamp s _ ?_
  intro R hR
  have go : ∀ n, R n s := fun n => by
    refine hR n s ⟨trivial, _, _, _, rfl, _, box_row h, r.Last, rfl, bcd (fun _ => ?_) (fun _ => ?_)⟩
    · refine ⟨lostPre, lostPost, lost_spec, trivial, _, _, _, rfl, _, box_row h, lost, rfl, trivial, _, _, _, rfl, _, box_row h, num, rfl, newObj_intro fun id2 s2 hid2 _ he2 hs2 => ⟨⟨_, [num, n], rfl, At.fresh hs2 (by simp) rfl⟩, ?_⟩⟩
      rintro rr s3 ⟨rfl, n4, rfl⟩
      have h2 := live_ext h he2
      refine ⟨n4, rfl, trivial, _, _, _, rfl, cell_store h2 (by simp) fun s4 hs4 ho4 => ⟨trivial, _, _, _, rfl, cell_store hs4 (by simp [patch]) fun s5 hs5 ho5 => ⟨trivial, _, _, _, rfl, cell_store hs5 (by simp [patch]) fun s6 hs6 ho6 => ⟨rfl, ⟨_, _, hs6⟩, ((Keep.ext he2).trans (.of ho4)).trans ((Keep.of ho5).trans (.of ho6))⟩⟩⟩⟩
    · exact ⟨trivial, _, _, _, rfl, cell_store h (by simp) fun s5 hs5 ho5 => ⟨trivial, _, _, _, rfl, cell_store hs5 (by simp [patch]) fun s6 hs6 ho6 => ⟨rfl, ⟨_, _, hs6⟩, (Keep.of ho5).trans (.of ho6)⟩⟩⟩
  refine ⟨trivial, _, _, _, rfl, _, box_row h, r.Last, rfl, bcd (fun _ => ⟨trivial, _, _, _, rfl, _, box_row h, num, rfl, (seq_Newer_ok num number).use ⟨_, rfl, bcnot (fun _ => ⟨trivial, _, _, _, rfl, _, box_row h, num, rfl, go num⟩) (fun _ => go number)⟩⟩) (fun _ => go number)⟩
theorem link_record_Last_ok {s : Store} {id : Nat} {r : Rc} (h : RcIn s id r) : Pure Tryz.prog n_link_record_Last [.one (pO id)] s (.a (iA r.Last)) := by
  obtain ⟨lost, num, h⟩ := h
  exact W_link_record_Last (pO id) s _ ⟨trivial, _, _, _, rfl, _, box_row h, r.Last, rfl, rfl, rfl⟩
theorem link_NewReceiver_ok (peer age : Int) : DCalls Tryz.prog n_link_NewReceiver [iA peer, iA age] σ fun r s => ∃ id, r = .a (.one (pO id)) ∧ σ id = .free ∧ s = σ.set id (.live t_link_Receiver [[iD (-1), iD 0, iD 0, iD peer, iD age]]) :=
  W_link_NewReceiver peer age σ _ (newObj_intro fun id s hid hset he hs => ⟨id, rfl, hid, hset⟩)
theorem said_pos (t : List UInt8) : 0 ≤ (saidL t).s ∧ (saidL t).s < 4294967296 := by
  unfold saidL
  split
  · exact ⟨Int.le_refl 0, by show (0 : Int) < 4294967296; decide⟩
  split
  · exact ⟨Int.le_refl 0, by show (0 : Int) < 4294967296; decide⟩
  split
  · exact ⟨Int.le_refl 0, by show (0 : Int) < 4294967296; decide⟩
  · have h := rdL_lt (((openL t).1.drop 3).take 4) 0 (by omega)
    refine ⟨h.1, Int.lt_of_lt_of_le h.2 ?_⟩
    have h4 : (((openL t).1.drop 3).take 4).length ≤ 4 := by rw [List.length_take]; omega
    have e : ∀ m : Nat, (256 : Int) ^ m = ((256 ^ m : Nat) : Int) := fun m => by simp
    rw [e]
    have h5 := Nat.pow_le_pow_right (show 0 < 256 by omega) h4
    have h6 : (256 : Nat) ^ 4 = 4294967296 := by decide
    omega
theorem link_Receiver_Take_ok {s : Store} {id : Nat} {r : Rc} (h : RcIn s id r) {now : Int} (hnow : now ≤ 9223372036854775807) {t : List UInt8} (ht : t.length ≤ 2 ^ 59) :
    DCalls Tryz.prog n_link_Receiver_Take [.one (pO id), iA now, .one (.str (ofL t))] s fun rr s' => rr = .tup [.one (.str (ofL (r.take now t).2.1)), iA (r.take now t).2.2] ∧ RcIn s' id (r.take now t).1 ∧ Keep id s s' := by
  have hp := said_pos t
  have hR := h
  obtain ⟨lost, num, h⟩ := h
  refine W_link_Receiver_Take (pO id) now (ofL t) s _ ((link_Read_ok ht).use ⟨_, _, _, _, _, rfl, ?_⟩)
  unfold Rc.take
  refine bcn (fun h1 => ?_) (fun h1 => ?_)
  · rw [if_pos h1]; exact ⟨rfl, hR, .refl _ _⟩
  rw [if_neg (by rw [h1]; simp)]
  refine ⟨trivial, _, _, _, rfl, _, box_row h, r.Peer, rfl, bcn (fun h2 => ?_) (fun h2 => bcd (fun h3 => ?_) (fun h3 => ⟨trivial, _, _, _, rfl, _, box_row h, r.Age, rfl, ?_⟩))⟩
  · rw [if_pos h2]; exact ⟨rfl, hR, .refl _ _⟩
  · rw [if_neg (by simpa using h2), if_pos h3]; exact ⟨rfl, hR, .refl _ _⟩
  rw [if_neg (by simpa using h2), if_neg h3, w64_id (by omega) (by omega)]
  refine bcd (fun h4 => ?_) (fun h4 => ⟨trivial, _, _, _, rfl, _, box_row h, r.Last, rfl, bcd (fun h5 => ?_) (fun h5 => ⟨trivial, _, _, _, rfl, ?_⟩)⟩)
  · rw [if_pos h4]; exact ⟨rfl, hR, .refl _ _⟩
  · rw [if_neg h4, if_pos h5]; exact ⟨rfl, hR, .refl _ _⟩
  rw [if_neg h4, if_neg h5]
  refine (link_record_note_ok hR _ _).mono ?_
  rintro rr s1 ⟨rfl, h6, h7⟩
  exact ⟨rfl, rfl, h6, h7⟩
end Go.Proofs.YtaklhjodjbgmgaaGreat
end
section
set_option linter.unusedVariables false
set_option linter.unusedSimpArgs false
namespace Go.Proofs.YtaklhjodjbgmgaaGreat
open Go.Fw Go.Proofs Go.RowKit
variable {σ σ0 : Store}
structure OwnAll (σ0 s : Store) (ds : List D) (ls : List (List Int)) : Prop where
  ext : Ext σ0 s
  len : ds.length = ls.length
  own : ∀ (k : Nat) d l, ds[k]? = some d → ls[k]? = some l → Own Tryz.prog σ0 s t_int d (l.map Go.Fw.encI)
  ap : ∀ (j k : Nat) a b, ds[j]? = some a → ds[k]? = some b → j ≠ k → Apart a b
theorem OwnAll.ext' {s s' : Store} {ds : List D} {ls : List (List Int)} (h : OwnAll σ0 s ds ls) (he : Ext s s') : OwnAll σ0 s' ds ls :=
  ⟨h.ext.trans he, h.len, fun k d l a b => (h.own k d l a b).ext' he, h.ap⟩
theorem OwnAll.append {s : Store} {ds : List D} {ls : List (List Int)} (h : OwnAll σ0 s ds ls) {k : Nat} {d x : D} {l ns : List Int} (hd : ds[k]? = some d) (hl : ls[k]? = some l) (hx : At Tryz.prog s t_int x (ns.map Go.Fw.encI))
    (hb : l.length + ns.length ≤ 2 ^ 43) {K : D → Store → Prop} (hK : ∀ d' s', OwnAll σ0 s' (ds.set k d') (ls.set k (l ++ ns)) → (∀ i, s i ≠ .free → idOf d ≠ some i → s' i = s i) → K d' s') : appendTo Tryz.prog s t_int 8 d x K := by
  have hkl := (List.getElem?_eq_some_iff.1 hd).1
  have hkl' := (List.getElem?_eq_some_iff.1 hl).1
  refine (h.own k d l hd hl).append hx (by simp; omega) (by simp; omega) fun d' s' ho h1 h2 => ?_
  have hs : ∀ i, s i ≠ .free → idOf d ≠ some i → s' i = s i := fun i hi hdi => h1 i hi fun a b e => hdi (by rw [e]; rfl)
  refine hK d' s' ⟨ho.ext, by simp [h.len], fun j e m he hm => ?_, fun j j' a b ha hb' hne => ?_⟩ hs
  · by_cases hj : j = k
    · subst hj
      rw [List.getElem?_set_self (by omega)] at he hm
      injection he with he; injection hm with hm
      subst he hm
      rw [List.map_append]; exact ho
    · rw [List.getElem?_set_ne (Ne.symm hj)] at he hm
      exact (h.own j e m he hm).stay (d := d) hs (h.ap j k e d he hd hj) ho.ext
  · have key : ∀ (j : Nat) a, j ≠ k → ds[j]? = some a → Apart a d' := by
      clear ha hb'
      intro j a hj ha i hi hd'
      obtain ⟨m, hm⟩ := get_of_lt (l := ls) (j := j) (by have := (List.getElem?_eq_some_iff.1 ha).1; have := h.len; omega)
      have hown := h.own j a m ha hm
      cases d' with
      | osl i' a' n' =>
        have e2 : i' = i := by simpa [idOf] using hd'
        subst e2
        rcases h2 i' a' n' rfl with q | ⟨a2, b2, q⟩
        · have := hown.at_.rows
          cases a with
          | osl i2 a3 n3 =>
            have e3 : i2 = i' := by simpa [idOf] using hi
            subst e3
            obtain ⟨t, rows, h3, _⟩ := this
            rw [h3] at q; cases q
          | _ => simp [idOf] at hi
        · exact h.ap j k a d ha hd hj i' hi (by rw [q]; rfl)
      | _ => simp [idOf] at hd'
    by_cases hj : j = k
    · subst hj
      have hj' : j' ≠ j := Ne.symm hne
      rw [List.getElem?_set_self (by omega)] at ha
      rw [List.getElem?_set_ne hne] at hb'
      injection ha with ha; subst ha
      exact (key j' b hj' hb').symm
    · rw [List.getElem?_set_ne (Ne.symm hj)] at ha
      by_cases hj' : j' = k
      · subst hj'
        rw [List.getElem?_set_self (by omega)] at hb'
        injection hb' with hb'; subst hb'
        exact key j a hj ha
      · rw [List.getElem?_set_ne (Ne.symm hj')] at hb'
        exact h.ap j j' a b ha hb' hne
theorem OwnAll.nils (σ0 : Store) {s : Store} (he : Ext σ0 s) (n : Nat) : OwnAll σ0 s (List.replicate n .nils) (List.replicate n []) := by
  refine ⟨he, by simp, fun k d l a b => ?_, fun j k a b ha hb _ => ?_⟩
  · rw [List.getElem?_replicate] at a b
    split at a
    · rename_i h
      injection a with a; subst a
      rw [if_pos h] at b
      injection b with b; subst b
      exact .nil _ he
    · cases a
  · rw [List.getElem?_replicate] at ha
    split at ha
    · injection ha with ha; subst ha
      exact fun i h => by simp [idOf] at h
    · cases ha
/-! ### the shape -/
theorem shSecs_snoc (oc : Int) (x : Sec) : ∀ (a : List Sec) (i : Int), shSecs oc (a ++ [x]) i = shSecs oc a i ++ (if x.OC = oc then [i + a.length] else [])
  | [], i => by simp only [shSecs, List.nil_append]; split <;> simp
  | y :: a, i => by
    have ih := shSecs_snoc oc x a (i + 1)
    have e : i + 1 + (a.length : Int) = i + ((y :: a).length : Nat) := by simp; omega
    rw [List.cons_append, shSecs, ih, e]
    conv => rhs; rw [shSecs]
    split <;> simp
theorem shPts_snoc (oc : Int) (x : Sec) : ∀ (a : List Sec) (i : Int), shPts oc (a ++ [x]) i = shPts oc a i ++ (if x.OC = oc ∧ x.Kind = 1 then [i + a.length] else [])
  | [], i => by simp only [shPts, List.nil_append]; split <;> simp
  | y :: a, i => by
    have ih := shPts_snoc oc x a (i + 1)
    have e : i + 1 + (a.length : Int) = i + ((y :: a).length : Nat) := by simp; omega
    rw [List.cons_append, shPts, ih, e]
    conv => rhs; rw [shPts]
    split <;> simp
theorem shXs_snoc (c : Cf) (oc : Int) (x : Int) : ∀ (a : List Int) (i : Int), shXs c oc (a ++ [x]) i = shXs c oc a i ++ (if c.mine oc x = true then [i + a.length] else [])
  | [], i => by simp only [shXs, List.nil_append]; split <;> simp
  | y :: a, i => by
    have ih := shXs_snoc c oc x a (i + 1)
    have e : i + 1 + (a.length : Int) = i + ((y :: a).length : Nat) := by simp; omega
    rw [List.cons_append, shXs, ih, e]
    conv => rhs; rw [shXs]
    split <;> simp
theorem shSgs_snoc (c : Cf) (oc : Int) (x : Sg) : ∀ (a : List Sg) (i : Int), shSgs c oc (a ++ [x]) i = shSgs c oc a i ++ (if c.mine oc x.Sec = true then [i + a.length] else [])
  | [], i => by simp only [shSgs, List.nil_append]; split <;> simp
  | y :: a, i => by
    have ih := shSgs_snoc c oc x a (i + 1)
    have e : i + 1 + (a.length : Int) = i + ((y :: a).length : Nat) := by simp; omega
    rw [List.cons_append, shSgs, ih, e]
    conv => rhs; rw [shSgs]
    split <;> simp
theorem sh_len (c : Cf) (oc : Int) : (∀ (l : List Sec) (i : Int), (shSecs oc l i).length ≤ l.length ∧ (shPts oc l i).length ≤ l.length) ∧ (∀ (l : List Int) (i : Int), (shXs c oc l i).length ≤ l.length) ∧ (∀ (l : List Sg) (i : Int), (shSgs c oc l i).length ≤ l.length) := by
  refine ⟨fun l => ?_, fun l => ?_, fun l => ?_⟩ <;> induction l with
  | nil => intro i; simp [shSecs, shPts, shXs, shSgs]
  | cons x l ih =>
    intro i
    have := ih (i + 1)
    first
      | (simp only [shSecs, shPts]; refine ⟨?_, ?_⟩ <;> split <;> simp <;> omega)
      | (simp only [shXs]; split <;> simp <;> omega)
      | (simp only [shSgs]; split <;> simp <;> omega)
structure ShFz (h0 h1 h2 h3 : D) (h : Shp) : Prop where
  secs : ∀ s, At Tryz.prog s t_int h0 (h.Secs.map Go.Fw.encI)
  pts : ∀ s, At Tryz.prog s t_int h1 (h.Pts.map Go.Fw.encI)
  xs : ∀ s, At Tryz.prog s t_int h2 (h.Xs.map Go.Fw.encI)
  sgs : ∀ s, At Tryz.prog s t_int h3 (h.Sgs.map Go.Fw.encI)
section
variable {c0 c1 c2 c3 c4 : D} {c : Cf} (hc : ∀ s, CfAt s c0 c1 c2 c3 c4 c)
include hc
theorem tele_Shape_1_ok {s : Store} {id id1 : Nat} {t : TypeId} {oc : Int} (h : s id = .live t [[c0, c1, c2, c3, c4, iD c.Age, iD c.Brake, iD c.Hold, iD c.Budget]]) (h1 : s id1 = .live t_int [[iD oc]]) (n : Int) :
    Pure Tryz.prog n_tele_Shape_1 [iA n, .one (pO id), .one (pO id1)] s (.a (bA (c.mine oc n))) := by
  unfold Cf.mine
  refine W_tele_Shape_1 n (pO id) (pO id1) s _ (bcd (fun h0 => ⟨_, _, _, rfl, _, box_row h, c0, rfl, (hc s).secs.lenK ?_⟩) (fun h0 => ⟨by rw [geti_neg (by omega)]; rfl, rfl⟩))
  rw [List.length_map]
  refine bcd (fun hlt => ?_) (fun hge => ⟨by rw [geti_ge (by omega)]; rfl, rfl⟩)
  have h0 : 0 ≤ n := h0
  obtain ⟨j, rfl⟩ := Int.eq_ofNat_of_zero_le h0
  obtain ⟨x, hx⟩ := get_of_lt (l := c.Secs) (j := j) (by omega)
  refine ⟨_, _, _, rfl, _, box_row h, c0, rfl, (hc s).secs.load (map_get hx) c_Section rfl ⟨x.OC, rfl, _, _, _, rfl, _, box_row h1, oc, rfl, ?_, rfl⟩⟩
  rw [geti_nat, hx]; rfl
theorem tele_Shape_ok (oc : Int) (h1 : c.Secs.length ≤ 2 ^ 20) (h2 : c.Xs.length ≤ 2 ^ 20) (h3 : c.Sigs.length ≤ 2 ^ 20) :
    DCalls Tryz.prog n_tele_Shape [cfA c0 c1 c2 c3 c4 c, iA oc] σ fun r s => s = σ ∧ ∃ a0 a1 a2 a3, r = .a (.agg [a0, a1, a2, a3]) ∧ ShFz a0 a1 a2 a3 (c.shape oc) := by
  have key : DCalls Tryz.prog n_tele_Shape [cfA c0 c1 c2 c3 c4 c, iA oc] σ fun r s => ∃ a0 a1 a2 a3, r = .a (.agg [a0, a1, a2, a3]) ∧ OwnAll σ s [a0, a1, a2, a3] [(c.shape oc).Secs, (c.shape oc).Pts, (c.shape oc).Xs, (c.shape oc).Sgs] := by
    obtain ⟨l1, l2, l3⟩ := sh_len c oc
    refine W_tele_Shape c0 c1 c2 c3 c4 c.Age c.Brake c.Hold c.Budget oc σ _ (newObj_intro fun id s1 hid _ he1 hs1 => newObj_intro fun id1 s2 hid1 _ he2 hs2 => ?_)
    have hs1' := live_ext hs1 he2
    have he : Ext σ s2 := he1.trans he2
    have mine : ∀ {s : Store}, Ext s2 s → ∀ n, Pure Tryz.prog n_tele_Shape_1 [iA n, .one (pO id), .one (pO id1)] s (.a (bA (c.mine oc n))) := fun hs n => tele_Shape_1_ok hc (live_ext hs1' hs) (live_ext hs2 hs) n
    refine ⟨_, box_row hs1', c0, rfl, (hc s2).secs.lenK ⟨fun d1 d2 d3 d4 n s => ∃ j : Nat, n = j ∧ j ≤ c.Secs.length ∧ OwnAll s2 s [d1, d2, d3, d4] [shSecs oc (c.Secs.take j) 0, shPts oc (c.Secs.take j) 0, [], []], fun _ _ _ _ n _ => c.Secs.length - n.toNat, ⟨0, rfl, by omega, OwnAll.nils s2 (.refl _) 4⟩, ?_⟩⟩
    rintro d1 d2 d3 d4 _ s ⟨j, rfl, hj, ho⟩
    rw [List.length_map]
    refine bcd (fun hlt => ?_) (fun hge => ?_)
    · have hlt : j < c.Secs.length := by omega
      obtain ⟨x, hx⟩ := get_of_lt (l := c.Secs) (j := j) hlt
      have ht : c.Secs.take (j + 1) = c.Secs.take j ++ [x] := by rw [List.take_add_one, hx, Option.toList_some]
      have hmine : c.mine oc (j : Int) = decide (x.OC = oc) := by unfold Cf.mine; rw [geti_nat, hx]; rfl
      have hlen : (c.Secs.take j).length = j := by rw [List.length_take]; omega
      have q1 := (l1 (c.Secs.take j) 0).1
      have q2 := (l1 (c.Secs.take j) 0).2
      have hdec := dec_lt hlt
      refine (hc s).secs.load (map_get hx) c_Section rfl ⟨x.Kind, x.OC, x.Line, rfl, _, _, _, _, _, rfl, rfl, rfl, (mine ho.ext j).use ⟨_, rfl, ?_⟩⟩
      rw [hmine, w64_succ (by omega)]
      refine bcd (fun hoc => newObj_intro fun id2 s4 _ _ he4 hs4 => (ho.ext' he4).append (k := 0) (l := shSecs oc (c.Secs.take j) 0) (ns := [(j : Int)]) rfl rfl (At.fresh hs4 (by simp) rfl) (by simp; omega) fun d5 s5 ho5 _ => bce (fun hk => ?_) (fun hk => ⟨by trivial, ⟨j + 1, rfl, hlt, ?_⟩, hdec⟩)) (fun hoc => ⟨by trivial, ⟨j + 1, rfl, hlt, ?_⟩, hdec⟩)
      · refine newObj_intro fun id3 s6 _ _ he6 hs6 => (ho5.ext' he6).append (k := 1) (l := shPts oc (c.Secs.take j) 0) (ns := [(j : Int)]) rfl rfl (At.fresh hs6 (by simp) rfl) (by simp; omega) fun d6 s7 ho7 _ => ⟨by trivial, ⟨j + 1, rfl, hlt, ?_⟩, hdec⟩
        rw [ht, shSecs_snoc, shPts_snoc, if_pos hoc, if_pos ⟨hoc, hk⟩, hlen, Int.zero_add]; exact ho7
      · rw [ht, shSecs_snoc, shPts_snoc, if_pos hoc, if_neg (fun h => hk h.2), hlen, Int.zero_add, List.append_nil]; exact ho5
      · rw [ht, shSecs_snoc, shPts_snoc, if_neg hoc, if_neg (fun h => hoc h.1), List.append_nil, List.append_nil]; exact ho
    have e : j = c.Secs.length := by omega
    subst e
    rw [List.take_length] at ho
    refine ⟨_, box_row (live_ext hs1' ho.ext), c3, rfl, (hc s).xs.lenK ⟨fun d1 d2 d3 d4 n s => ∃ j : Nat, n = j ∧ j ≤ c.Xs.length ∧ OwnAll s2 s [d1, d2, d3, d4] [shSecs oc c.Secs 0, shPts oc c.Secs 0, shXs c oc (c.Xs.take j) 0, []], fun _ _ _ _ n _ => c.Xs.length - n.toNat, ⟨0, rfl, by omega, ho⟩, ?_⟩⟩
    clear ho d1 d2 d3 d4 s
    rintro d1 d2 d3 d4 _ s ⟨j, rfl, hj, ho⟩
    rw [List.length_map]
    refine bcd (fun hlt => ?_) (fun hge => ?_)
    · have hlt : j < c.Xs.length := by omega
      obtain ⟨x, hx⟩ := get_of_lt (l := c.Xs) (j := j) hlt
      have ht : c.Xs.take (j + 1) = c.Xs.take j ++ [x] := by rw [List.take_add_one, hx, Option.toList_some]
      have hlen : (c.Xs.take j).length = j := by rw [List.length_take]; omega
      have q1 := l2 (c.Xs.take j) 0
      have hdec := dec_lt hlt
      refine (hc s).xs.load (map_get hx) c_int rfl ⟨x, rfl, _, _, _, _, _, rfl, rfl, rfl, (mine ho.ext x).use ⟨_, rfl, ?_⟩⟩
      rw [w64_succ (by omega)]
      refine bc (fun hoc => newObj_intro fun id2 s4 _ _ he4 hs4 => (ho.ext' he4).append (k := 2) (l := shXs c oc (c.Xs.take j) 0) (ns := [(j : Int)]) rfl rfl (At.fresh hs4 (by simp) rfl) (by simp; omega) fun d5 s5 ho5 _ => ⟨by trivial, ⟨j + 1, rfl, hlt, ?_⟩, hdec⟩) (fun hoc => ⟨by trivial, ⟨j + 1, rfl, hlt, ?_⟩, hdec⟩)
      · rw [ht, shXs_snoc, if_pos hoc, hlen, Int.zero_add]; exact ho5
      · rw [ht, shXs_snoc, if_neg (by rw [hoc]; simp), List.append_nil]; exact ho
    have e : j = c.Xs.length := by omega
    subst e
    rw [List.take_length] at ho
    refine ⟨_, box_row (live_ext hs1' ho.ext), c2, rfl, (hc s).sigs.lenK ⟨fun d1 d2 d3 d4 n s => ∃ j : Nat, n = j ∧ j ≤ c.Sigs.length ∧ OwnAll s2 s [d1, d2, d3, d4] [shSecs oc c.Secs 0, shPts oc c.Secs 0, shXs c oc c.Xs 0, shSgs c oc (c.Sigs.take j) 0], fun _ _ _ _ n _ => c.Sigs.length - n.toNat, ⟨0, rfl, by omega, ho⟩, ?_⟩⟩
    clear ho d1 d2 d3 d4 s
    rintro d1 d2 d3 d4 _ s ⟨j, rfl, hj, ho⟩
    rw [List.length_map]
    refine bcd (fun hlt => ?_) (fun hge => ?_)
    · have hlt : j < c.Sigs.length := by omega
      obtain ⟨x, hx⟩ := get_of_lt (l := c.Sigs) (j := j) hlt
      have ht : c.Sigs.take (j + 1) = c.Sigs.take j ++ [x] := by rw [List.take_add_one, hx, Option.toList_some]
      have hlen : (c.Sigs.take j).length = j := by rw [List.length_take]; omega
      have q1 := l3 (c.Sigs.take j) 0
      have hdec := dec_lt hlt
      refine (hc s).sigs.load (map_get hx) c_Signal rfl ⟨x.Sec, x.End_, rfl, _, _, _, _, _, rfl, rfl, rfl, (mine ho.ext x.Sec).use ⟨_, rfl, ?_⟩⟩
      rw [w64_succ (by omega)]
      refine bc (fun hoc => newObj_intro fun id2 s4 _ _ he4 hs4 => (ho.ext' he4).append (k := 3) (l := shSgs c oc (c.Sigs.take j) 0) (ns := [(j : Int)]) rfl rfl (At.fresh hs4 (by simp) rfl) (by simp; omega) fun d5 s5 ho5 _ => ⟨by trivial, ⟨j + 1, rfl, hlt, ?_⟩, hdec⟩) (fun hoc => ⟨by trivial, ⟨j + 1, rfl, hlt, ?_⟩, hdec⟩)
      · rw [ht, shSgs_snoc, if_pos hoc, hlen, Int.zero_add]; exact ho5
      · rw [ht, shSgs_snoc, if_neg (by rw [hoc]; simp), List.append_nil]; exact ho
    have e : j = c.Sigs.length := by omega
    subst e
    rw [List.take_length] at ho
    refine ⟨d1, d2, d3, d4, rfl, he.trans ho.ext, ho.len, fun k d l a b => (ho.own k d l a b).from he, ho.ap⟩
  refine key.ret ?_
  rintro r s ⟨a0, a1, a2, a3, rfl, ho⟩
  have fl : ∀ (l : List Int), ∀ row ∈ l.map Go.Fw.encI, ∀ x ∈ row, Flat x := fun l row hr x hx => by
    obtain ⟨n, _, rfl⟩ := List.mem_map.1 hr
    simp only [Go.Fw.encI, List.mem_singleton] at hx
    subst hx; exact .int _ _
  have o0 := ho.own 0 _ _ rfl rfl
  have o1 := ho.own 1 _ _ rfl rfl
  have o2 := ho.own 2 _ _ rfl rfl
  have o3 := ho.own 3 _ _ rfl rfl
  obtain ⟨b0, f0, g0⟩ := ret_slice o0.at_ ho.ext o0.new (fl _)
  obtain ⟨b1, f1, g1⟩ := ret_slice o1.at_ ho.ext o1.new (fl _)
  obtain ⟨b2, f2, g2⟩ := ret_slice o2.at_ ho.ext o2.new (fl _)
  obtain ⟨b3, f3, g3⟩ := ret_slice o3.at_ ho.ext o3.new (fl _)
  exact ⟨.a (.agg [b0, b1, b2, b3]), σ, .pure ho.ext (.cons f0 (.cons f1 (.cons f2 (.cons f3 .nil)))), rfl, b0, b1, b2, b3, rfl, ⟨g0, g1, g2, g3⟩⟩
end
end Go.Proofs.YtaklhjodjbgmgaaGreat
end
section
set_option linter.unusedVariables false
set_option linter.unusedSimpArgs false
namespace Go.Proofs.YtaklhjodjbgmgaaGreat
open Go.Fw Go.Proofs Go.RowKit
variable {σ σ0 : Store}
theorem away {s : Store} {el t : TypeId} {d : D} {rs rows : List (List D)} {i : Nat} (h : At Tryz.prog s el d rs) (hs : s i = .live t rows) (hc : Tryz.prog.cellsOf t ≠ Tryz.prog.cellsOf el) : idOf d ≠ some i := fun e => by
  cases d with
  | osl j a n =>
    have : j = i := by simpa [idOf] using e
    subst this
    obtain ⟨t', rows', g1, g2, _⟩ := h.rows
    rw [hs] at g1
    injection g1 with g1 _
    rw [← g1] at g2
    exact hc g2
  | _ => simp [idOf] at e
theorem OwnAll.other {s s' : Store} {ds : List D} {ls : List (List Int)} {id : Nat} (h : OwnAll σ0 s ds ls) (hn : σ0 id = .free) (ha : ∀ d ∈ ds, idOf d ≠ some id) (hs : ∀ i, i ≠ id → s' i = s i) : OwnAll σ0 s' ds ls :=
  ⟨ext_other h.ext hn hs, h.len, fun k d l a b => own_other (h.own k d l a b) hn (ha d (List.mem_of_getElem? a)) hs, h.ap⟩
theorem OwnAll.away {s : Store} {ds : List D} {ls : List (List Int)} {i : Nat} {t : TypeId} {rows : List (List D)} (h : OwnAll σ0 s ds ls) (hs : s i = .live t rows) (hc : Tryz.prog.cellsOf t ≠ 1) : ∀ d ∈ ds, idOf d ≠ some i := fun d hd => by
  obtain ⟨k, hk⟩ := List.mem_iff_getElem?.1 hd
  obtain ⟨l, hl⟩ := get_of_lt (l := ls) (j := k) (by have := (List.getElem?_eq_some_iff.1 hk).1; have := h.len; omega)
  exact Go.Proofs.YtaklhjodjbgmgaaGreat.away (h.own k d l hk hl).at_ hs (by rw [c_int]; exact hc)
structure Fld where
  off : Nat
  n : Nat
  most : Int
def Fld.enc (oid : Nat) (f : Fld) : List D := [.el (.osl oid 0 1) 0 f.off, iD f.n, iD f.most]
def Fld.right (ls : List (List Int)) (f : Fld) : Bool := decide (((ls.getD f.off []).length : Int) = f.n) && (ls.getD f.off []).all fun x => decide (0 ≤ x ∧ x ≤ f.most)
theorem patch1 {ds : List D} {k : Nat} {d d' : D} (h : ds[k]? = some d) : patch ds k [d'] = ds.set k d' := by
  have hk := (List.getElem?_eq_some_iff.1 h).1
  unfold patch
  rw [List.set_eq_take_append_cons_drop, if_pos hk]
  simp
theorem drop_take1 {ds : List D} {k : Nat} {d : D} (h : ds[k]? = some d) : (List.drop k ds).take 1 = [d] := by
  obtain ⟨h1, h2⟩ := List.getElem?_eq_some_iff.1 h
  rw [List.drop_eq_getElem_cons h1, h2]; rfl
theorem tele_right_ok {s : Store} {oid fid : Nat} {F : List Fld} {ds : List D} {ls : List (List Int)} (hF : At Tryz.prog s t_tele_field (.osl fid 0 F.length) (F.map (Fld.enc oid))) (ho : s oid = .live t_Orders [ds]) (hl : ds.length = ls.length)
    (hd : ∀ (k : Nat) d l, ds[k]? = some d → ls[k]? = some l → At Tryz.prog s t_int d (l.map Go.Fw.encI)) (hb : ∀ f ∈ F, f.off < ls.length) :
    Pure Tryz.prog n_tele_right [.one (.osl fid 0 F.length)] s (.a (bA (F.all (Fld.right ls)))) := by
  have hsz := hF.size
  rw [List.length_map] at hsz
  refine W_tele_right _ s _ (hF.lenK ⟨fun n s' => s' = s ∧ Rng F (fun r => r.all (Fld.right ls) = F.all (Fld.right ls)) n, fun n _ => F.length - n.toNat, ⟨rfl, .start rfl⟩, ?_⟩)
  rintro n s' ⟨rfl, hr⟩
  refine bcd (fun hlt => ?_) (fun hge => ?_)
  rotate_left
  · obtain ⟨j, hj, hj2, hE⟩ := hr
    rw [List.length_map] at hge
    rw [drop_end (by omega)] at hE
    exact ⟨by rw [← hE]; rfl, rfl⟩
  obtain ⟨j, f, rfl, hf, hj, hE, nx⟩ := hr.step (by simp) hsz hlt
  obtain ⟨d, hdk⟩ := get_of_lt (l := ds) (j := f.off) (by have := hb f (List.mem_of_getElem? hf); omega)
  obtain ⟨l, hlk⟩ := get_of_lt (l := ls) (j := f.off) (hb f (List.mem_of_getElem? hf))
  have hat := hd _ d l hdk hlk
  have hgd : ls.getD f.off [] = l := by rw [List.getD_eq_getElem?_getD, hlk]; rfl
  have hls := hat.size
  rw [List.length_map] at hls
  refine hF.load (map_get hf) c_tele_field rfl ⟨_, f.n, f.most, rfl, trivial, _, _, _, rfl, _, box_row ho, d, drop_take1 hdk, hat.lenK ?_⟩
  rw [List.length_map]
  have hE' : (Fld.right ls f && (F.drop (j + 1)).all (Fld.right ls)) = F.all (Fld.right ls) := by rw [← hE]; rfl
  have hfr : Fld.right ls f = (decide ((l.length : Int) = f.n) && l.all fun x => decide (0 ≤ x ∧ x ≤ f.most)) := by unfold Fld.right; rw [hgd]
  rw [hfr] at hE'
  refine bcn (fun h1 => ?_) (fun h1 => ?_)
  · rw [decide_eq_false h1, Bool.false_and, Bool.false_and] at hE'
    exact ⟨by rw [← hE'], rfl⟩
  rw [decide_eq_true h1, Bool.true_and] at hE'
  refine ⟨trivial, _, _, _, rfl, _, box_row ho, d, drop_take1 hdk, hat.lenK ⟨fun n s2 => s2 = s' ∧ ∃ m : Nat, n = m ∧ m ≤ l.length ∧ ((l.drop m).all fun x => decide (0 ≤ x ∧ x ≤ f.most)) = l.all fun x => decide (0 ≤ x ∧ x ≤ f.most), fun n _ => l.length - n.toNat, ⟨rfl, 0, rfl, by omega, rfl⟩, ?_⟩⟩
  rintro _ s2 ⟨rfl, m, rfl, hm, hA⟩
  rw [List.length_map]
  refine bcd (fun hlt2 => ?_) (fun hge => ?_)
  · have hlt2 : m < l.length := by omega
    obtain ⟨x, hx⟩ := get_of_lt (l := l) (j := m) hlt2
    obtain ⟨hx1, hx2⟩ := List.getElem?_eq_some_iff.1 hx
    rw [List.drop_eq_getElem_cons hx1, hx2, List.all_cons] at hA
    have bad : ¬ (0 ≤ x ∧ x ≤ f.most) → F.all (Fld.right ls) = false := fun hb => by
      rw [decide_eq_false hb, Bool.false_and] at hA
      rw [← hE', ← hA, Bool.false_and]
    refine hat.load (map_get hx) c_int rfl ⟨x, rfl, bcd (fun h2 => ⟨by rw [bad (by omega)], rfl⟩) (fun h2 => bcd (fun h3 => ⟨by rw [bad (by omega)], rfl⟩) (fun h3 => ?_))⟩
    rw [w64_succ (by omega)]
    refine ⟨by trivial, ⟨rfl, m + 1, rfl, hlt2, ?_⟩, dec_lt hlt2⟩
    rw [decide_eq_true (by omega), Bool.true_and] at hA
    exact hA
  · have e : m = l.length := by omega
    subst e
    rw [List.drop_length] at hA
    have hA : true = l.all fun x => decide (0 ≤ x ∧ x ≤ f.most) := hA
    rw [← hA, Bool.true_and] at hE'
    have := nx (fun r => r.all (Fld.right ls) = F.all (Fld.right ls)) hE'
    exact ⟨⟨rfl, this.1⟩, this.2⟩
def lsAt : List Nat → List UInt8 → List (List Int)
  | [], _ => []
  | n :: ns, t => bytesI (t.take n) :: lsAt ns (t.drop n)
theorem lsAt_len : ∀ (ns : List Nat) (t : List UInt8), (lsAt ns t).length = ns.length
  | [], t => rfl
  | n :: ns, t => by rw [lsAt, List.length_cons, List.length_cons, lsAt_len ns]
theorem bytesI_snoc (u : List UInt8) (x : UInt8) : bytesI (u ++ [x]) = bytesI u ++ [(x.toNat : Int)] := by unfold bytesI; simp
theorem lsAt_nil : ∀ (ns : List Nat), lsAt ns [] = List.replicate ns.length []
  | [] => rfl
  | n :: ns => by rw [lsAt, List.take_nil, List.drop_nil, lsAt_nil ns]; rfl
theorem lsAt_step (x : UInt8) : ∀ (ns : List Nat) (u : List UInt8) (k n : Nat), ns[k]? = some n → (ns.take k).sum ≤ u.length → u.length < (ns.take k).sum + n →
    ∃ l, (lsAt ns u)[k]? = some l ∧ l.length ≤ u.length ∧ lsAt ns (u ++ [x]) = (lsAt ns u).set k (l ++ [(x.toNat : Int)])
  | [], u, k, n, hk, h1, h2 => by simp at hk
  | m :: ns, u, 0, n, hk, h1, h2 => by
    simp at hk h2
    subst hk
    have e1 : (u ++ [x]).take m = u ++ [x] := List.take_of_length_le (by simp; omega)
    have e2 : u.take m = u := List.take_of_length_le (by omega)
    have e3 : (u ++ [x]).drop m = [] := List.drop_eq_nil_of_le (by simp; omega)
    have e4 : u.drop m = [] := List.drop_eq_nil_of_le (by omega)
    refine ⟨bytesI u, by rw [lsAt, e2]; rfl, by unfold bytesI; simp, ?_⟩
    rw [lsAt, lsAt, e1, e2, e3, e4, bytesI_snoc]; rfl
  | m :: ns, u, k + 1, n, hk, h1, h2 => by
    simp at hk h1 h2
    obtain ⟨l, g1, g2, g3⟩ := lsAt_step x ns (u.drop m) k n hk (by simp; omega) (by simp; omega)
    have e1 : (u ++ [x]).take m = u.take m := List.take_append_of_le_length (by omega)
    have e2 : (u ++ [x]).drop m = u.drop m ++ [x] := List.drop_append_of_le_length (by omega)
    refine ⟨l, by rw [lsAt]; exact g1, by simp at g2; omega, ?_⟩
    rw [lsAt, lsAt, e1, e2, g3]; rfl
end Go.Proofs.YtaklhjodjbgmgaaGreat
end
section
set_option linter.unusedVariables false
set_option linter.unusedSimpArgs false
namespace Go.Proofs.YtaklhjodjbgmgaaGreat
open Go.Fw Go.Proofs Go.RowKit
variable {σ σ0 : Store}
theorem Reader_Left_ok {s : Store} {id : Nat} {r : Rd} (h : RdIn s id r) : Pure Tryz.prog n_pack_Reader_Left [.one (pO id)] s (.a (iA r.l.length)) :=
  W_pack_Reader_Left (pO id) s _ ⟨trivial, _, _, _, rfl, _, box_row h, ofL r.l, rfl, by rw [size_ofL]; exact ⟨rfl, rfl⟩⟩
def readF (F : List Fld) (t : List UInt8) : Option (List (List Int)) :=
  if t.head? = some 2 ∧ t.length = 1 + (F.map Fld.n).sum ∧ F.all (Fld.right (lsAt (F.map Fld.n) (t.drop 1))) = true then some (lsAt (F.map Fld.n) (t.drop 1)) else none
theorem rd1 (x : UInt8) : rd [x] = (x.toNat : Int) := by simp [rd, rdL]
structure RdSt (σ0 s : Store) (oid fid rid : Nat) (F : List Fld) (u : List UInt8) (q : Nat) (ds : List D) : Prop where
  le : q ≤ u.length
  rdr : RdIn s rid ⟨0, u.drop q⟩
  flds : s fid = .live t_tele_field (F.map (Fld.enc oid))
  row : s oid = .live t_Orders [ds]
  own : OwnAll σ0 s ds (lsAt (F.map Fld.n) (u.take q))
theorem free_of {s s' : Store} {i : Nat} (he : Ext s s') (h : s' i = .free) : s i = .free := by
  by_cases hf : s i = .free
  · exact hf
  · have := he i hf; rw [h] at this; exact this.symm
theorem tele_read_ok {s : Store} {oid fid : Nat} {F : List Fld} (hF : s fid = .live t_tele_field (F.map (Fld.enc oid))) (ho : s oid = .live t_Orders [List.replicate F.length .nils]) (hn1 : σ0 oid = .free) (hn2 : σ0 fid = .free) (he : Ext σ0 s)
    (hoff : ∀ (k : Nat) f, F[k]? = some f → f.off = k) {t : List UInt8} (ht : t.length ≤ 2 ^ 40) (hsum : (F.map Fld.n).sum ≤ 2 ^ 20) (hFl : F.length ≤ 2 ^ 20) :
    DCalls Tryz.prog n_tele_read [.one (.str (ofL t)), iA 2, .one (.osl fid 0 F.length)] s fun r s' => Ext σ0 s' ∧ ((readF F t = none ∧ r = .a (iA 3)) ∨ ∃ ls ds, readF F t = some ls ∧ r = .a (iA 0) ∧ s' oid = .live t_Orders [ds] ∧ OwnAll σ0 s' ds ls) := by
  have cO : Tryz.prog.cellsOf t_Orders ≠ 1 := by rw [c_Orders]; decide
  have cR : Tryz.prog.cellsOf t_pack_Reader ≠ 1 := by rw [c_pack_Reader]; decide
  have cF : Tryz.prog.cellsOf t_tele_field ≠ 1 := by rw [c_tele_field]; decide
  refine W_tele_read (ofL t) 2 (.osl fid 0 F.length) s _ ((pack_Read_ok t).mono ?_)
  rintro r s1 ⟨rid, rfl, hrid, hr1, he1, ho1⟩
  have hrn : σ0 rid = .free := free_of he hrid
  refine ⟨_, rfl, (Reader_Byte_ok hr1 (by show t.length ≤ 2 ^ 60; omega)).mono ?_⟩
  rintro r s2 ⟨rfl, hr2, ho2⟩
  have ex : ∀ {s s' : Store}, Ext σ0 s → (∀ i, i ≠ rid → s' i = s i) → Ext σ0 s' := fun h1 h2 => ext_other h1 hrn h2
  have he2 : Ext σ0 s2 := ex (ex he ho1) ho2
  cases t with
  | nil =>
    have hn : readF F [] = none := by unfold readF; rw [if_neg]; rintro ⟨h, _⟩; cases h
    refine ⟨_, rfl, ?_⟩
    have : ((⟨0, []⟩ : Rd).num 1).1 = 0 := rfl
    rw [this]
    exact bcn (fun _ => ⟨he2, .inl ⟨hn, rfl⟩⟩) (fun e => by cases e)
  | cons b u =>
  have hnum : (⟨0, b :: u⟩ : Rd).num 1 = ((b.toNat : Int), ⟨0, u⟩) := by rw [num_fst (by simp)]; simp [rd1]
  rw [hnum] at hr2 ⊢
  refine ⟨_, rfl, bcn (fun hb => ⟨he2, .inl ⟨?_, rfl⟩⟩) (fun hb => ?_)⟩
  · unfold readF
    rw [if_neg]
    rintro ⟨h, _⟩
    simp at h
    subst h
    exact hb rfl
  have hb2 : b = 2 := UInt8.toNat_inj.1 (by have : b.toNat = 2 := by omega
                                            rw [this]; rfl)
  subst hb2
  have hul : u.length ≤ 2 ^ 40 := by simp at ht; omega
  have hno : oid ≠ rid := fun e => by rw [e, hrid] at ho; cases ho
  have hnf : fid ≠ rid := fun e => by rw [e, hrid] at hF; cases hF
  have hfo : fid ≠ oid := fun e => by
    rw [e, ho] at hF
    injection hF with hF _
    exact absurd hF (by decide)
  have h0 : RdSt σ0 s2 oid fid rid F u 0 (List.replicate F.length .nils) := by
    refine ⟨by omega, by simpa using hr2, by rw [ho2 _ hnf, ho1 _ hnf]; exact hF, by rw [ho2 _ hno, ho1 _ hno]; exact ho, ?_⟩
    rw [List.take_zero, lsAt_nil, List.length_map]
    exact .nils σ0 he2 _
  -- too short
  have short : u.length < (F.map Fld.n).sum → readF F (2 :: u) = none := fun h => by
    unfold readF
    rw [if_neg]
    rintro ⟨_, h2, _⟩
    rw [List.length_cons] at h2; omega
  have hnsl : (F.map Fld.n).length = F.length := by simp
  have hFat : At Tryz.prog s2 t_tele_field (.osl fid 0 F.length) (F.map (Fld.enc oid)) := At.fresh h0.flds (by simp; omega) (by simp)
  have hFs : ∀ {s : Store}, s fid = .live t_tele_field (F.map (Fld.enc oid)) → At Tryz.prog s t_tele_field (.osl fid 0 F.length) (F.map (Fld.enc oid)) := fun h => At.fresh h (by simp; omega) (by simp)
  refine hFat.lenK ⟨fun n s => ∃ (k : Nat) (ds : List D), n = k ∧ k ≤ F.length ∧ RdSt σ0 s oid fid rid F u ((F.map Fld.n).take k).sum ds, fun n _ => F.length - n.toNat, ⟨0, _, rfl, by omega, h0⟩, ?_⟩
  rintro _ s3 ⟨k, ds, rfl, hk, h3⟩
  rw [List.length_map]
  refine bcd (fun hlt => ?_) (fun hge => ?_)
  rotate_left
  · -- all fields are full
    have e : k = F.length := by omega
    subst e
    rw [List.take_of_length_le (by simp)] at h3
    refine (Reader_End_ok h3.rdr).use ⟨_, rfl, ?_⟩
    by_cases hend : u.drop (F.map Fld.n).sum = []
    · have hlen : u.length = (F.map Fld.n).sum := by
        have := List.drop_eq_nil_iff.1 hend
        have := h3.le
        omega
      have htk : u.take (F.map Fld.n).sum = u := List.take_of_length_le (by omega)
      have h3o := h3.own
      rw [htk] at h3o
      have hr := tele_right_ok (hFs h3.flds) h3.row h3o.len (fun k d l a b => (h3o.own k d l a b).at_) (fun f hf => by
        obtain ⟨k, hk⟩ := List.mem_iff_getElem?.1 hf
        have := hoff k f hk
        have := (List.getElem?_eq_some_iff.1 hk).1
        rw [lsAt_len, hnsl]; omega)
      have hcond : (if (⟨0, u.drop (F.map Fld.n).sum⟩ : Rd).e = 0 ∧ (⟨0, u.drop (F.map Fld.n).sum⟩ : Rd).l ≠ [] then (3 : Int) else (⟨0, u.drop (F.map Fld.n).sum⟩ : Rd).e) = 0 := by
        rw [if_neg (fun g => g.2 hend)]
      rw [hcond]
      refine bcn (fun e => absurd rfl e) (fun _ => hr.use ⟨_, rfl, bcnot (fun hb => ?_) (fun hb => ?_)⟩)
      · refine ⟨h3o.ext, .inl ⟨?_, rfl⟩⟩
        unfold readF
        rw [if_neg]
        rintro ⟨_, _, h⟩
        rw [show List.drop 1 (2 :: u) = u from rfl, hb] at h; cases h
      · refine ⟨h3o.ext, .inr ⟨_, ds, ?_, rfl, h3.row, h3o⟩⟩
        unfold readF
        rw [if_pos ⟨rfl, by rw [List.length_cons]; omega, hb⟩]; rfl
    · have hcond : (if (⟨0, u.drop (F.map Fld.n).sum⟩ : Rd).e = 0 ∧ (⟨0, u.drop (F.map Fld.n).sum⟩ : Rd).l ≠ [] then (3 : Int) else (⟨0, u.drop (F.map Fld.n).sum⟩ : Rd).e) = 3 := by
        rw [if_pos ⟨rfl, hend⟩]
      rw [hcond]
      refine bcn (fun _ => ⟨h3.own.ext, .inl ⟨?_, rfl⟩⟩) (fun e => by cases e)
      unfold readF
      rw [if_neg]
      rintro ⟨_, h2, _⟩
      rw [List.length_cons] at h2
      exact hend (List.drop_eq_nil_of_le (by omega))
  have hlt : k < F.length := by omega
  obtain ⟨f, hf⟩ := get_of_lt (l := F) (j := k) hlt
  have hfk := hoff k f hf
  have hnk : (F.map Fld.n)[k]? = some f.n := by rw [List.getElem?_map, hf]; rfl
  have hsk : ((F.map Fld.n).take (k + 1)).sum = ((F.map Fld.n).take k).sum + f.n := by rw [List.take_add_one, hnk, Option.toList_some, List.sum_append]; simp
  have hskle : ((F.map Fld.n).take (k + 1)).sum ≤ (F.map Fld.n).sum := by
    have := congrArg List.sum (List.take_append_drop (k + 1) (F.map Fld.n))
    rw [List.sum_append] at this; omega
  have hdec := dec_lt hlt
  refine (hFs h3.flds).load (map_get hf) c_tele_field rfl ⟨_, f.n, f.most, rfl, fun n s => ∃ (m : Nat) (ds : List D), n = m ∧ m ≤ f.n ∧ RdSt σ0 s oid fid rid F u (((F.map Fld.n).take k).sum + m) ds, fun n _ => f.n - n.toNat, ⟨0, ds, rfl, by omega, h3⟩, ?_⟩
  clear h3 ds
  rintro _ s4 ⟨m, ds, rfl, hm, h4⟩
  refine bcd (fun hlt2 => ?_) (fun hge2 => ?_)
  rotate_left
  · have e : m = f.n := by omega
    subst e
    rw [w64_succ (by omega)]
    exact ⟨⟨k + 1, ds, rfl, hlt, by rw [hsk]; exact h4⟩, hdec⟩
  have hlt2 : m < f.n := by omega
  generalize hq : ((F.map Fld.n).take k).sum + m = q at h4
  have hqs : q < (F.map Fld.n).sum := by omega
  have hdec2 := dec_lt hlt2
  refine (Reader_Left_ok h4.rdr).use ⟨_, rfl, bce (fun h0 => ⟨h4.own.ext, .inl ⟨short ?_, rfl⟩⟩) (fun h0 => ?_)⟩
  · have h0 : ((u.drop q).length : Int) = 0 := h0
    simp at h0; omega
  have hql : q < u.length := by
    have h0 : ((u.drop q).length : Int) ≠ 0 := h0
    simp at h0; omega
  obtain ⟨x, hx⟩ := get_of_lt (l := u) (j := q) hql
  have hdr : u.drop q = x :: u.drop (q + 1) := drop_get hx
  have hrn1 : (⟨0, u.drop q⟩ : Rd).num 1 = ((x.toNat : Int), ⟨0, u.drop (q + 1)⟩) := by
    rw [hdr, num_fst (by simp)]
    simp [rd1]
  have htk : u.take (q + 1) = u.take q ++ [x] := by rw [List.take_add_one, hx, Option.toList_some]
  have hqlen : (u.take q).length = q := by rw [List.length_take]; omega
  obtain ⟨l, g1, g2, g3⟩ := lsAt_step x (F.map Fld.n) (u.take q) k f.n hnk (by rw [hqlen]; omega) (by rw [hqlen]; omega)
  obtain ⟨d, hd⟩ := get_of_lt (l := ds) (j := k) (by rw [h4.own.len, lsAt_len, hnsl]; exact hlt)
  -- a byte is read, and laid on
  have lay : ∀ s5, RdIn s5 rid ⟨0, u.drop (q + 1)⟩ → (∀ i, i ≠ rid → s5 i = s4 i) → ∀ K : Store → Prop, (∀ s8 ds', RdSt σ0 s8 oid fid rid F u (q + 1) ds' → K s8) → Fw.newObj s5 (.live t_int [[iD (x.toNat : Int)]]) fun id s6 => appendTo Tryz.prog s6 t_int 8 d (.osl id 0 1) fun d3 s7 =>
      (NotNil (.el (.osl oid 0 1) 0 f.off : D)) ∧ ∃ s1 i1 off1, ((.el (.osl oid 0 1) 0 f.off : D) = (.el s1 i1 off1 : D)) ∧ storeEl [d3] s7 s1 i1 off1 K := by
    intro s5 hr5 ho5 K hK
    have hO5 : OwnAll σ0 s5 ds (lsAt (F.map Fld.n) (u.take q)) := h4.own.other hrn (h4.own.away h4.rdr cR) ho5
    refine newObj_intro fun id s6 hid _ he6 hs6 => (hO5.ext' he6).append (k := k) (ns := [(x.toNat : Int)]) hd g1 (At.fresh hs6 (by simp) rfl) (by simp; omega) fun d' s7 hO7 hs7 => ⟨trivial, _, _, _, rfl, ?_⟩
    have hO6 := hO5.ext' he6
    have row6 : s6 oid = .live t_Orders [ds] := live_ext (by rw [ho5 _ hno]; exact h4.row) he6
    have rdr6 : s6 rid = .live t_pack_Reader [[iD 0, .str (ofL (u.drop (q + 1)))]] := live_ext hr5 he6
    have fld6 : s6 fid = .live t_tele_field (F.map (Fld.enc oid)) := live_ext (by rw [ho5 _ hnf]; exact h4.flds) he6
    have hdm := List.mem_of_getElem? hd
    have lf : ∀ {i t rows}, s6 i = .live t rows → s6 i ≠ .free := fun h e => by rw [h] at e; cases e
    have row7 : s7 oid = .live t_Orders [ds] := by rw [hs7 oid (lf row6) (hO6.away row6 cO d hdm)]; exact row6
    have rdr7 : s7 rid = .live t_pack_Reader [[iD 0, .str (ofL (u.drop (q + 1)))]] := by rw [hs7 rid (lf rdr6) (hO6.away rdr6 cR d hdm)]; exact rdr6
    have fld7 : s7 fid = .live t_tele_field (F.map (Fld.enc oid)) := by rw [hs7 fid (lf fld6) (hO6.away fld6 cF d hdm)]; exact fld6
    have hkl := (List.getElem?_eq_some_iff.1 hd).1
    refine cell_store row7 (by rw [hfk]; simp; omega) fun s8 hs8 ho8 => hK s8 (ds.set k d') ⟨hql, by unfold RdIn; rw [ho8 _ (Ne.symm hno)]; exact rdr7, by rw [ho8 _ hfo]; exact fld7, by rw [hs8, hfk, patch1 hd], ?_⟩
    rw [htk, g3]
    exact hO7.other hn1 (hO7.away row7 cO) ho8
  refine ⟨⟨trivial, _, _, _, rfl, _, box_row h4.row, d, by rw [hfk]; exact drop_take1 hd, (Reader_Byte_ok h4.rdr (by show (u.drop q).length ≤ 2 ^ 60; simp; omega)).mono ?_⟩, trivial, (Reader_Byte_ok h4.rdr (by show (u.drop q).length ≤ 2 ^ 60; simp; omega)).mono ?_⟩
  · rintro r s5 ⟨rfl, hr5, ho5⟩
    rw [hrn1] at hr5 ⊢
    refine ⟨_, rfl, lay s5 hr5 ho5 _ fun s8 ds' h8 => ?_⟩
    rw [w64_succ (by omega)]
    exact ⟨by first | exact rfl | trivial, ⟨m + 1, ds', rfl, hlt2, by rw [show ((F.map Fld.n).take k).sum + (m + 1) = q + 1 by omega]; exact h8⟩, hdec2⟩
  · rintro r s5 ⟨rfl, hr5, ho5⟩
    rw [hrn1] at hr5 ⊢
    refine ⟨_, rfl, _, _, _, rfl, _, box_row (by rw [ho5 _ hno]; exact h4.row), d, by rw [hfk]; exact drop_take1 hd, lay s5 hr5 ho5 _ fun s8 ds' h8 => ?_⟩
    rw [w64_succ (by omega)]
    exact ⟨by first | exact rfl | trivial, ⟨m + 1, ds', rfl, hlt2, by rw [show ((F.map Fld.n).take k).sum + (m + 1) = q + 1 by omega]; exact h8⟩, hdec2⟩
structure OdFz (d1 d2 d3 : D) (o : Od) : Prop where
  pos : ∀ s, At Tryz.prog s t_int d1 (o.Pos.map Go.Fw.encI)
  asp : ∀ s, At Tryz.prog s t_int d2 (o.Asp.map Go.Fw.encI)
  shut : ∀ s, At Tryz.prog s t_int d3 (o.Shut.map Go.Fw.encI)
def fldsO (h : Shp) : List Fld := [⟨0, h.Pts.length, 2⟩, ⟨1, h.Sgs.length, 2⟩, ⟨2, h.Xs.length, 1⟩]
theorem readF_none {h : Shp} {t : List UInt8} (hn : readF (fldsO h) t = none) : readO h t = none := by
  unfold readF at hn
  unfold readO
  split at hn
  · cases hn
  · rename_i hc
    rw [if_neg]
    rintro ⟨h1, h2, h3⟩
    refine hc ⟨h1, by simp [fldsO]; omega, ?_⟩
    unfold Od.right Od.of at h3
    simp only [Bool.and_eq_true, decide_eq_true_eq] at h3
    obtain ⟨⟨⟨⟨e1, e2, e3⟩, a1⟩, a2⟩, a3⟩ := h3
    simp only [fldsO, List.map_cons, List.map_nil, List.all_cons, List.all_nil, Fld.right, lsAt, List.drop_drop, Bool.and_eq_true, decide_eq_true_eq, Bool.and_true]
    refine ⟨⟨by simp only [List.getD_cons_zero]; omega, a1⟩, ⟨by simp only [List.getD_cons_succ, List.getD_cons_zero]; omega, a2⟩, ⟨?_, ?_⟩⟩
    · simp only [List.getD_cons_succ, List.getD_cons_zero, ← Nat.add_assoc]; omega
    · simp only [List.getD_cons_succ, List.getD_cons_zero, ← Nat.add_assoc]; exact a3
theorem readF_some {h : Shp} {t : List UInt8} {ls : List (List Int)} (hn : readF (fldsO h) t = some ls) : ∃ o, readO h t = some o ∧ ls = [o.Pos, o.Asp, o.Shut] := by
  unfold readF at hn
  split at hn
  · rename_i hc
    obtain ⟨h1, h2, h3⟩ := hc
    injection hn with hn
    refine ⟨Od.of h t, ?_, ?_⟩
    · unfold readO
      rw [if_pos]
      refine ⟨h1, by simp [fldsO] at h2; omega, ?_⟩
      simp only [fldsO, List.map_cons, List.map_nil, List.all_cons, List.all_nil, Fld.right, lsAt, List.drop_drop, Bool.and_eq_true, decide_eq_true_eq, Bool.and_true] at h3
      obtain ⟨⟨e1, a1⟩, ⟨e2, a2⟩, ⟨e3, a3⟩⟩ := h3
      simp only [List.getD_cons_succ, List.getD_cons_zero, ← Nat.add_assoc] at e1 e2 e3 a1 a2 a3
      unfold Od.right Od.of
      simp only [Bool.and_eq_true, decide_eq_true_eq]
      exact ⟨⟨⟨⟨by omega, by omega, by omega⟩, a1⟩, a2⟩, a3⟩
    · rw [← hn]
      simp only [fldsO, List.map_cons, List.map_nil, lsAt, List.drop_drop, Od.of, ← Nat.add_assoc]
  · cases hn
theorem tele_ReadOrders_ok {h0 h1 h2 h3 : D} {h : Shp} (hs : ShFz h0 h1 h2 h3 h) (hl : h.Pts.length + h.Sgs.length + h.Xs.length ≤ 2 ^ 20) {t : List UInt8} (ht : t.length ≤ 2 ^ 40) :
    DCalls Tryz.prog n_tele_ReadOrders [.agg [h0, h1, h2, h3], .one (.str (ofL t))] σ fun r s => s = σ ∧ ((readO h t = none ∧ r = .tup [.agg [.nils, .nils, .nils], iA 3]) ∨
      ∃ o d1 d2 d3, readO h t = some o ∧ r = .tup [.agg [d1, d2, d3], iA 0] ∧ OdFz d1 d2 d3 o) := by
  have key : DCalls Tryz.prog n_tele_ReadOrders [.agg [h0, h1, h2, h3], .one (.str (ofL t))] σ fun r s => Ext σ s ∧ ((readO h t = none ∧ r = .tup [.agg [.nils, .nils, .nils], iA 3]) ∨
      ∃ o d1 d2 d3, readO h t = some o ∧ r = .tup [.agg [d1, d2, d3], iA 0] ∧ OwnAll σ s [d1, d2, d3] [o.Pos, o.Asp, o.Shut]) := by
    refine W_tele_ReadOrders h0 h1 h2 h3 (ofL t) σ _ (newObj_intro fun oid s1 ho _ he1 hs1 => ?_)
    refine W_tele_orders h0 h1 h2 h3 (pO oid) s1 _ ⟨trivial, _, _, _, rfl, (hs.pts s1).lenK ⟨trivial, _, _, _, rfl, (hs.sgs s1).lenK ⟨trivial, _, _, _, rfl, (hs.xs s1).lenK (newObj_intro fun fid s2 hf _ he2 hs2 => ?_)⟩⟩⟩
    rw [List.length_map, List.length_map, List.length_map] at hs2
    have hf0 : σ fid = .free := free_of he1 hf
    refine ⟨_, rfl, (tele_read_ok (σ0 := σ) (F := fldsO h) (oid := oid) (fid := fid) hs2 (live_ext hs1 he2) ho hf0 (he1.trans he2) ?_ ht (by simp [fldsO]; omega) (by simp [fldsO])).mono ?_⟩
    · intro k f hk
      rcases k with _ | _ | _ | k <;> simp [fldsO] at hk <;> subst hk <;> rfl
    rintro r s3 ⟨he3, ⟨hn, rfl⟩ | ⟨ls, ds, hsome, rfl, hrow, hO⟩⟩
    · exact ⟨3, rfl, bcn (fun _ => ⟨he3, .inl ⟨readF_none hn, rfl⟩⟩) (fun e => by cases e)⟩
    · obtain ⟨o, g1, rfl⟩ := readF_some hsome
      have hlen := hO.len
      match ds, hlen with
      | [d1, d2, d3], _ =>
        exact ⟨0, rfl, bcn (fun e => absurd rfl e) (fun _ => ⟨_, box_row hrow, d1, d2, d3, rfl, he3, .inr ⟨o, d1, d2, d3, g1, rfl, hO⟩⟩)⟩
  refine key.ret ?_
  rintro r s ⟨he, ⟨hn, rfl⟩ | ⟨o, d1, d2, d3, ho, rfl, hO⟩⟩
  · refine ⟨.tup [.agg [.nils, .nils, .nils], iA 3], σ, .pure he ⟨rfl, fun i x y h1 h2 => ?_⟩, rfl, .inl ⟨hn, rfl⟩⟩
    rw [h1] at h2; injection h2 with h2; subst h2
    rcases i with _ | _ | i
    · simp at h1; subst h1; exact .cons .nils (.cons .nils (.cons .nils .nil))
    · simp at h1; subst h1; exact .int _ _
    · simp at h1
  · have o0 := hO.own 0 _ _ rfl rfl
    have o1 := hO.own 1 _ _ rfl rfl
    have o2 := hO.own 2 _ _ rfl rfl
    obtain ⟨b0, f0, g0⟩ := ret_slice o0.at_ he o0.new (flatI _)
    obtain ⟨b1, f1, g1⟩ := ret_slice o1.at_ he o1.new (flatI _)
    obtain ⟨b2, f2, g2⟩ := ret_slice o2.at_ he o2.new (flatI _)
    refine ⟨.tup [.agg [b0, b1, b2], iA 0], σ, .pure he ⟨rfl, fun i x y h1 h2 => ?_⟩, rfl, .inr ⟨o, b0, b1, b2, ho, rfl, ⟨g0, g1, g2⟩⟩⟩
    rcases i with _ | _ | i
    · simp at h1 h2; subst h1 h2; exact .cons f0 (.cons f1 (.cons f2 .nil))
    · simp at h1 h2; subst h1 h2; exact .int _ _
    · simp at h1
end Go.Proofs.YtaklhjodjbgmgaaGreat
end
section
set_option linter.unusedVariables false
set_option linter.unusedSimpArgs false
namespace Go.Fw
def Heap (s : Store) (l : List (Nat × SO)) : Prop := (l.map (·.1)).Nodup ∧ ∀ x ∈ l, s x.1 = x.2 ∧ x.2 ≠ .free
theorem Heap.nil (s : Store) : Heap s [] := ⟨.nil, fun x h => by cases h⟩
theorem Heap.get {s : Store} {l : List (Nat × SO)} (h : Heap s l) {i : Nat} {so : SO} (hm : (i, so) ∈ l) : s i = so := (h.2 _ hm).1
theorem Heap.ext {s s' : Store} {l : List (Nat × SO)} (h : Heap s l) (he : Ext s s') : Heap s' l :=
  ⟨h.1, fun x hx => ⟨by rw [he x.1 (by rw [(h.2 x hx).1]; exact (h.2 x hx).2)]; exact (h.2 x hx).1, (h.2 x hx).2⟩⟩
theorem Heap.perm {s : Store} {l l' : List (Nat × SO)} (h : Heap s l) (hp : l.Perm l') : Heap s l' :=
  ⟨(hp.map _).nodup_iff.1 h.1, fun x hx => h.2 x (hp.mem_iff.2 hx)⟩
theorem Heap.new {s s' : Store} {l : List (Nat × SO)} (h : Heap s l) {id : Nat} {so : SO} (hid : s id = .free) (he : Ext s s') (hs : s' id = so) (hne : so ≠ .free) : Heap s' ((id, so) :: l) := by
  have h' := h.ext he
  refine ⟨List.nodup_cons.2 ⟨fun hm => ?_, h.1⟩, fun x hx => ?_⟩
  · obtain ⟨x, hx, e⟩ := List.mem_map.1 hm
    have := h.2 x hx
    rw [e, hid] at this
    exact this.2 this.1.symm
  · rcases List.mem_cons.1 hx with rfl | hx
    · exact ⟨hs, hne⟩
    · exact h'.2 x hx
theorem Heap.tail {s : Store} {x : Nat × SO} {l : List (Nat × SO)} (h : Heap s (x :: l)) : Heap s l := ⟨(List.nodup_cons.1 h.1).2, fun y hy => h.2 y (List.mem_cons_of_mem _ hy)⟩
theorem Heap.put {s s' : Store} {A X B : List (Nat × SO)} (h : Heap s (A ++ X ++ B)) {k i : Nat} {so so' : SO} (hk : X[k]? = some (i, so)) (hs : s' i = so') (hne : so' ≠ .free) (ho : ∀ j, j ≠ i → s j ≠ .free → s' j = s j) :
    Heap s' (A ++ X.set k (i, so') ++ B) := by
  obtain ⟨hkl, hke⟩ := List.getElem?_eq_some_iff.1 hk
  have e1 : X.map (·.1) = (X.set k (i, so')).map (·.1) := by
    refine List.ext_getElem? fun j => ?_
    rw [List.getElem?_map, List.getElem?_map]
    by_cases hj : j = k
    · subst hj
      rw [List.getElem?_set_self hkl, hk]; rfl
    · rw [List.getElem?_set_ne (Ne.symm hj)]
  have hnd : ((A ++ X.set k (i, so') ++ B).map (·.1)).Nodup := by
    have := h.1
    rw [List.map_append, List.map_append] at this ⊢
    rw [← e1]; exact this
  have old : ∀ x ∈ A ++ X ++ B, x.1 ≠ i → s' x.1 = x.2 ∧ x.2 ≠ .free := fun x hx hne' => by
    have := h.2 x hx
    exact ⟨by rw [ho x.1 hne' (by rw [this.1]; exact this.2)]; exact this.1, this.2⟩
  refine ⟨hnd, fun x hx => ?_⟩
  by_cases hxi : x.1 = i
  · -- it is the one
    obtain ⟨m, hm⟩ := List.mem_iff_getElem?.1 hx
    have hidx : (A ++ X.set k (i, so') ++ B)[A.length + k]? = some (i, so') := by
      rw [List.append_assoc, List.getElem?_append_right (by omega), Nat.add_sub_cancel_left, List.getElem?_append_left (by simpa using hkl), List.getElem?_set_self hkl]
    have hinj := List.pairwise_iff_getElem.1 hnd
    have hmk : m = A.length + k := by
      obtain ⟨hml, hme⟩ := List.getElem?_eq_some_iff.1 hm
      obtain ⟨hkl2, hke2⟩ := List.getElem?_eq_some_iff.1 hidx
      refine Classical.byContradiction fun hne2 => ?_
      rcases Nat.lt_or_gt_of_ne hne2 with hlt | hlt
      · refine hinj m (A.length + k) (by simpa using hml) (by simpa using hkl2) hlt ?_
        rw [List.getElem_map, List.getElem_map, hme, hke2]; exact hxi
      · refine hinj (A.length + k) m (by simpa using hkl2) (by simpa using hml) hlt ?_
        rw [List.getElem_map, List.getElem_map, hme, hke2]; exact hxi.symm
    rw [hmk, hidx] at hm
    injection hm with hm
    subst hm
    exact ⟨hs, hne⟩
  · refine old x ?_ hxi
    rcases List.mem_append.1 hx with hx | hx
    · rcases List.mem_append.1 hx with hx | hx
      · exact List.mem_append_left _ (List.mem_append_left _ hx)
      · rcases List.mem_or_eq_of_mem_set hx with hx | hx
        · exact List.mem_append_left _ (List.mem_append_right _ hx)
        · exact absurd (by rw [hx]) hxi
    · exact List.mem_append_right _ hx
theorem Heap.fresh {s : Store} {l : List (Nat × SO)} (h : Heap s l) {i : Nat} (hi : s i = .free) : ∀ x ∈ l, x.1 ≠ i := fun x hx e => by
  have := h.2 x hx
  rw [e, hi] at this
  exact this.2 this.1.symm
theorem zip_get {α β : Type} {l : List α} {m : List β} {k : Nat} {a : α} {b : β} (h : l[k]? = some a) (h' : m[k]? = some b) : (l.zip m)[k]? = some (a, b) := List.getElem?_zip_eq_some.2 ⟨h, h'⟩
theorem zip_set {α β : Type} {l : List α} {m : List β} {k : Nat} {a : α} (h : l[k]? = some a) (b : β) : l.zip (m.set k b) = (l.zip m).set k (a, b) := by
  refine List.ext_getElem? fun j => ?_
  by_cases hj : j = k
  · subst hj
    by_cases hm : j < m.length
    · have hl := (List.getElem?_eq_some_iff.1 h).1
      rw [List.getElem?_set_self (by simp; omega), zip_get h (List.getElem?_set_self hm)]
    · rw [List.set_eq_of_length_le (by omega), List.set_eq_of_length_le (by simp; omega)]
  · rw [List.getElem?_set_ne (Ne.symm hj)]
    simp only [List.zip_eq_zipWith, List.getElem?_zipWith, List.getElem?_set_ne (Ne.symm hj)]
end Go.Fw
end
section
set_option linter.unusedVariables false
set_option linter.unusedSimpArgs false
namespace Go.Proofs.YtaklhjodjbgmgaaGreat
open Go.Fw Go.Proofs Go.RowKit
variable {σ σ0 : Store}
def TrsAt (s : Store) (d : D) (l : List Tr) : Prop := ∃ rows, At Tryz.prog s t_Train d rows ∧ rows.length = l.length ∧
  ∀ (k : Nat) row t, rows[k]? = some row → l[k]? = some t → ∃ e, row = [e, iD t.Out] ∧ At Tryz.prog s t_int e (t.Secs.map Go.Fw.encI)
theorem thereL_snoc (l : List Tr) (t : Tr) (n : Int) : thereL (l ++ [t]) n = thereL l n + t.Secs.count n := by unfold thereL; simp
theorem count_snoc (l : List Int) (x n : Int) : (l ++ [x]).count n = l.count n + if x = n then 1 else 0 := by
  rw [List.count_append, List.count_singleton]
  by_cases h : x = n
  · subst h; simp
  · simp [h]
theorem yard_there_ok {s : Store} {id : Nat} {row : List D} {tr : D} {l : List Tr} (h : s id = .live t_yard_Yard [row]) (htr : row[14]? = some tr) (ht : TrsAt s tr l) (hl : l.length ≤ 2 ^ 10) (hs : ∀ t ∈ l, t.Secs.length ≤ 2 ^ 45) (n : Int) :
    Pure Tryz.prog n_yard_Yard_there [.one (pO id), iA n] s (.a (iA (thereL l n : Nat))) := by
  obtain ⟨rows, hat, hrl, hrow⟩ := ht
  have hbound : ∀ j ≤ l.length, thereL (l.take j) n ≤ j * 2 ^ 45 := by
    intro j
    induction j with
    | zero => intro _; simp [thereL]
    | succ j ih =>
      intro hj
      obtain ⟨t, htj⟩ := get_of_lt (l := l) (j := j) (by omega)
      rw [List.take_add_one, htj, Option.toList_some, thereL_snoc]
      have h1 := ih (by omega)
      have h2 := hs t (List.mem_of_getElem? htj)
      have h3 : t.Secs.count n ≤ t.Secs.length := List.count_le_length
      have e : (j + 1) * 2 ^ 45 = j * 2 ^ 45 + 2 ^ 45 := by omega
      omega
  refine W_yard_Yard_there (pO id) n s _ ⟨trivial, _, _, _, rfl, _, box_row h, tr, drop_take1 htr, hat.lenK ⟨fun m k s' => s' = s ∧ ∃ j : Nat, k = j ∧ j ≤ l.length ∧ m = (thereL (l.take j) n : Nat), fun _ k _ => l.length - k.toNat, ⟨rfl, 0, rfl, by omega, by simp [thereL]⟩, ?_⟩⟩
  rintro _ _ s' ⟨rfl, j, rfl, hj, rfl⟩
  rw [hrl]
  refine bcd (fun hlt => ?_) (fun hge => ?_)
  rotate_left
  · have e : j = l.length := by omega
    subst e
    rw [List.take_length]; exact ⟨rfl, rfl⟩
  have hlt : j < l.length := by omega
  obtain ⟨t, htj⟩ := get_of_lt (l := l) (j := j) hlt
  obtain ⟨r, hr⟩ := get_of_lt (l := rows) (j := j) (by omega)
  obtain ⟨e, rfl, hae⟩ := hrow j r t hr htj
  have hts := hs t (List.mem_of_getElem? htj)
  have hb := hbound j (by omega)
  have hjb : j * 2 ^ 45 ≤ 2 ^ 10 * 2 ^ 45 := Nat.mul_le_mul_right _ (by omega)
  generalize hm0 : thereL (l.take j) n = m0 at *
  have hdec := dec_lt hlt
  refine hat.load hr c_Train rfl ⟨e, t.Out, rfl, hae.lenK ⟨fun m k s2 => s2 = s' ∧ ∃ q : Nat, k = q ∧ q ≤ t.Secs.length ∧ m = (m0 + (t.Secs.take q).count n : Nat), fun _ k _ => t.Secs.length - k.toNat, ⟨rfl, 0, rfl, by omega, by simp⟩, ?_⟩⟩
  rintro _ _ s2 ⟨rfl, q, rfl, hq, rfl⟩
  rw [List.length_map]
  refine bcd (fun hlt2 => ?_) (fun hge => ?_)
  · have hlt2 : q < t.Secs.length := by omega
    obtain ⟨x, hx⟩ := get_of_lt (l := t.Secs) (j := q) hlt2
    have htk : t.Secs.take (q + 1) = t.Secs.take q ++ [x] := by rw [List.take_add_one, hx, Option.toList_some]
    have hdec2 := dec_lt hlt2
    have hc : (t.Secs.take q).count n ≤ q := by have := List.count_le_length (l := t.Secs.take q) (a := n); rw [List.length_take] at this; omega
    refine hae.load (map_get hx) c_int rfl ⟨x, rfl, ?_⟩
    have hwq : w64 ((q : Int) + 1) = ((q + 1 : Nat) : Int) := w64_succ (by omega)
    have hwm : w64 (((m0 + (t.Secs.take q).count n : Nat) : Int) + 1) = ((m0 + (t.Secs.take q).count n + 1 : Nat) : Int) := w64_succ (by omega)
    rw [hwq, hwm]
    refine bce (fun he => ⟨⟨rfl, q + 1, rfl, hlt2, ?_⟩, hdec2⟩) (fun he => ⟨⟨rfl, q + 1, rfl, hlt2, ?_⟩, hdec2⟩)
    · rw [htk, count_snoc, if_pos he]; rfl
    · rw [htk, count_snoc, if_neg he]; rfl
  · have e2 : q = t.Secs.length := by omega
    subst e2
    rw [List.take_length, w64_succ (by omega)]
    refine ⟨⟨rfl, j + 1, rfl, hlt, ?_⟩, hdec⟩
    rw [List.take_add_one, htj, Option.toList_some, thereL_snoc, hm0]
theorem yard_signal_ok {s : Store} {id : Nat} {row : List D} {c0 c1 c2 c3 c4 : D} {c : Cf} (h : s id = .live t_yard_Yard [row]) (h3 : row[3]? = some c2) (hc : ∀ s, CfAt s c0 c1 c2 c3 c4 c) (a e : Int) :
    Pure Tryz.prog n_yard_Yard_signal [.one (pO id), iA a, iA e] s (.a (iA (c.sigAt a e))) :=
  W_yard_Yard_signal (pO id) a e s _ ⟨trivial, _, _, _, rfl, _, box_row h, c2, drop_take1 h3, (Index_Signal_ok (⟨a, e⟩ : Sg) (hc s).sigs).use ⟨_, rfl, rfl, rfl⟩⟩
theorem yard_stands_ok {s : Store} {id : Nat} {row : List D} {c0 c1 c2 c3 c4 : D} {c : Cf} (h : s id = .live t_yard_Yard [row]) (h2 : row[2]? = some c1) (h3 : row[3]? = some c2) (hc : ∀ s, CfAt s c0 c1 c2 c3 c4 c) (a e : Int) :
    Pure Tryz.prog n_yard_Yard_stands [.one (pO id), iA a, iA e] s (.a (bA (c.stands a e))) := by
  refine W_yard_Yard_stands (pO id) a e s _ ⟨trivial, _, _, _, rfl, _, box_row h, c1, drop_take1 h2, (topo_Next_ok a e (hc s).jts).mono ?_⟩
  rintro r s' ⟨rfl, rfl⟩
  unfold Cf.stands
  cases hn : nxt c.Jts a e with
  | none => exact ⟨0, 0, false, rfl, bcnot (fun _ => ⟨rfl, rfl⟩) (fun e => by cases e)⟩
  | some p =>
    refine ⟨p.1, p.2, true, rfl, bcnot (fun e => by cases e) (fun _ => (yard_signal_ok h h3 hc a e).use ⟨_, rfl, ?_, rfl⟩)⟩
    simp only [Option.isNone_some, Bool.false_or]
theorem yard_fits_ok {s : Store} {id : Nat} {row : List D} {c0 c1 c2 c3 c4 tr d : D} {c : Cf} {l : List Tr} {t : Tr} (h : s id = .live t_yard_Yard [row]) (h1 : row[1]? = some c0) (h2 : row[2]? = some c1) (h3 : row[3]? = some c2) (h14 : row[14]? = some tr)
    (hc : ∀ s, CfAt s c0 c1 c2 c3 c4 c) (hl : TrsAt s tr l) (hll : l.length ≤ 2 ^ 10) (hs : ∀ t ∈ l, t.Secs.length ≤ 2 ^ 45) (ht : At Tryz.prog s t_int d (t.Secs.map Go.Fw.encI)) :
    Pure Tryz.prog n_yard_Yard_fits [.one (pO id), .agg [d, iD t.Out]] s (.a (bA (c.trFits l t))) := by
  have hts := ht.size
  rw [List.length_map] at hts
  refine W_yard_Yard_fits (pO id) d t.Out s _ ?_
  intro R hR
  refine ht.lenK ?_
  rw [List.length_map]
  match hsec : t.Secs with
  | [] =>
    have hF : c.trFits l t = false := by unfold Cf.trFits; rw [hsec]
    exact bcn (fun _ => ⟨by rw [hF], rfl⟩) (fun e => by simp at e)
  | a :: b :: r =>
    have hF : c.trFits l t = false := by unfold Cf.trFits; rw [hsec]
    exact bcn (fun _ => ⟨by rw [hF], rfl⟩) (fun e => by simp at e; omega)
  | [a] =>
    have hF : c.trFits l t = match geti c.Secs a with
      | some x => decide (x.Kind = 0) && decide (t.Out = 0 ∨ t.Out = 1) && decide (thereL l a = 0) && c.stands a t.Out
      | none => false := by unfold Cf.trFits; rw [hsec] <;> rfl
    rw [hsec] at ht
    refine bcn (fun e => absurd rfl e) (fun _ => ht.load (j := 0) rfl c_int rfl ⟨a, rfl, bcd (fun hn => ?_) (fun hn => ht.load (j := 0) rfl c_int rfl ⟨a, rfl, trivial, _, _, _, rfl, _, box_row h, c0, drop_take1 h1, (hc s).secs.lenK (bcd (fun hg => ?_) (fun hg => hR s ?_))⟩)⟩)
    · exact ⟨by rw [hF, geti_neg hn], rfl⟩
    · rw [List.length_map] at hg
      exact ⟨by rw [hF, geti_ge (l := c.Secs) (i := a) hg], rfl⟩
    rw [List.length_map] at hg
    obtain ⟨j, rfl⟩ := Int.eq_ofNat_of_zero_le (show 0 ≤ a by omega)
    obtain ⟨x, hx⟩ := get_of_lt (l := c.Secs) (j := j) (by omega)
    have hgx : geti c.Secs (j : Int) = some x := by rw [geti_nat, hx]
    rw [hgx] at hF
    have hth := yard_there_ok h h14 hl hll hs (j : Int)
    have hst := yard_stands_ok h h2 h3 hc (j : Int) t.Out
    have tail : x.Kind = 0 → (t.Out = 0 ∨ t.Out = 1) → DCalls Tryz.prog n_yard_Yard_there [.one (pO id), iA (j : Int)] s fun r s1 => ∃ n2 : Int, (r = .a (iA n2)) ∧ bcase (n2 == 0) (DCalls Tryz.prog n_yard_Yard_stands [.one (pO id), iA (j : Int), iA t.Out] s1 fun r1 s2 => ∃ b : Bool, (r1 = .a (bA b)) ∧ (RV.a (bA b) = .a (bA (c.trFits l t)) ∧ s2 = s)) (RV.a (bA false) = .a (bA (c.trFits l t)) ∧ s1 = s) := fun hk ho => by
      refine hth.use ⟨_, rfl, bce (fun h0 => hst.use ⟨_, rfl, ?_, rfl⟩) (fun h0 => ⟨?_, rfl⟩)⟩
      · rw [hF]; simp only; rw [decide_eq_true hk, decide_eq_true ho, decide_eq_true (show thereL l (j : Int) = 0 by omega)]; rfl
      · rw [hF]; simp only; rw [decide_eq_false (show ¬ thereL l (j : Int) = 0 by omega), Bool.and_false, Bool.false_and]
    refine ht.load (j := 0) rfl c_int rfl ⟨(j : Int), rfl, trivial, _, _, _, rfl, _, box_row h, c0, drop_take1 h1, (hc s).secs.load (map_get hx) c_Section rfl ⟨x.Kind, rfl, bce (fun hk => bce (fun ho => tail hk (.inl ho)) (fun ho => bce (fun ho1 => tail hk (.inr ho1)) (fun ho1 => ⟨?_, rfl⟩))) (fun hk => ⟨?_, rfl⟩)⟩⟩
    · rw [hF]; simp only; rw [decide_eq_false (show ¬ (t.Out = 0 ∨ t.Out = 1) from fun g => g.elim ho ho1), Bool.and_false, Bool.false_and, Bool.false_and]
    · rw [hF]; simp only; rw [decide_eq_false hk, Bool.false_and, Bool.false_and, Bool.false_and]
theorem topo_Way_ok (k i p : Int) : Pure Tryz.prog n_topo_Way [iA k, iA i, iA p] σ (opt1 (wayOut k i p)) := by
  refine Pure.of (W_topo_Way k i p σ _ ((topo_ways_ok k).mono ?_)) ?_
  rotate_left
  · cases wayOut k i p with
    | none => exact .tup [iD 0, .bool false] (by intro d hd; simp at hd; rcases hd with rfl | rfl; exact .int _ _; exact .bool _)
    | some x => exact .tup [iD x, .bool true] (by intro d hd; simp at hd; rcases hd with rfl | rfl; exact .int _ _; exact .bool _)
  rintro r s ⟨rfl, d, rfl, hd⟩
  have hat := hd s
  have hwl := wayL_len k
  refine ⟨_, rfl, hat.lenK ⟨fun n s' => s' = s ∧ Rng (wayL k) (fun r => wout r i p = wayOut k i p) n, fun n _ => (wayL k).length - n.toNat, ⟨rfl, .start rfl⟩, ?_⟩⟩
  rintro n s' ⟨rfl, hr⟩
  refine bcd (fun hlt => ?_) (fun hge => ?_)
  · obtain ⟨j, w, rfl, hw, hj, hE, nx⟩ := hr.step (by simp) hwl hlt
    refine hat.load (map_get hw) c_topo_way rfl ⟨w.1, w.2.1, w.2.2, rfl, (way_other_ok w.1 w.2.1 w.2.2 i).mono ?_⟩
    rintro r s2 ⟨rfl, rfl⟩
    rw [wout] at hE
    have next : wout ((wayL k).drop (j + 1)) i p = wayOut k i p → (s2 = s2 ∧ Rng (wayL k) (fun r => wout r i p = wayOut k i p) (w64 ((j : Int) + 1))) ∧ (wayL k).length - (w64 ((j : Int) + 1)).toNat < (wayL k).length - ((j : Int)).toNat := fun h => by
      have := nx (fun r => wout r i p = wayOut k i p) h
      exact ⟨⟨rfl, this.1⟩, this.2⟩
    cases ho : (if i = w.1 then some w.2.1 else if i = w.2.1 then some w.1 else none : Option Int) with
    | none =>
      rw [ho] at hE
      exact ⟨0, false, rfl, bc (fun e => by cases e) (fun _ => next hE)⟩
    | some o =>
      rw [ho] at hE
      simp only at hE
      refine ⟨o, true, rfl, bc (fun _ => bce (fun h0 => ?_) (fun h0 => bce (fun h1 => ?_) (fun h1 => next ?_))) (fun e => by cases e)⟩
      · rw [if_pos (.inl h0)] at hE; rw [← hE]; exact ⟨rfl, .refl _⟩
      · rw [if_pos (.inr h1)] at hE; rw [← hE]; exact ⟨rfl, .refl _⟩
      · rw [if_neg (fun g => g.elim h0 h1)] at hE; exact hE
  · have := hr.done (by simp) hge
    rw [wout] at this
    rw [← this]; exact ⟨rfl, .refl _⟩
end Go.Proofs.YtaklhjodjbgmgaaGreat
end
section
set_option linter.unusedVariables false
set_option linter.unusedSimpArgs false
namespace Go.Proofs.YtaklhjodjbgmgaaGreat
open Go.Fw Go.Proofs Go.RowKit
variable {σ σ0 : Store}
structure PL where
  i : Nat
  j : Nat
  h0 : D
  h1 : D
  h2 : D
  h3 : D
  lost : Int
  num : Int
structure YL where
  mp : Nat
  clk : Nat
  es : List Ent
  c0 : D
  c1 : D
  c2 : D
  c3 : D
  c4 : D
  p : Nat
  g : Nat
  l : Nat
  po : Nat
  poJ : List (List D)
  ps : List PL
  trd : Option (Nat × List (List D))
  tk : List (Nat × List (List D))
def encH (k : Int × Int) : A := .agg [iD k.1, iD k.2]
def postE (x : PL × Pst) : Nat × SO := (x.1.i, .live t_yard_post [[pO x.1.j, x.1.h0, x.1.h1, x.1.h2, x.1.h3, iD x.2.Stamp]])
def recE (x : PL × Pst) : Nat × SO := (x.1.j, .live t_link_Receiver [[iD x.2.R.Last, iD x.1.lost, iD x.1.num, iD x.2.R.Peer, iD x.2.R.Age]])
def tkE (x : (Nat × List (List D)) × Tr) : Nat × SO := (x.1.1, .live t_int (x.2.Secs.map Go.Fw.encI ++ x.1.2))
def trRow (x : (Nat × List (List D)) × Tr) : List D := [.osl x.1.1 0 x.2.Secs.length, iD x.2.Out]
def trE (L : YL) (y : Yd) : List (Nat × SO) := match L.trd with
  | none => []
  | some x => [(x.1, .live t_Train ((L.tk.zip y.Trs).map trRow ++ x.2))]
def trD (L : YL) (n : Nat) : D := match L.trd with
  | none => .nils
  | some x => .osl x.1 0 n
def ydRow (L : YL) (y : Yd) : List D :=
  [.omap L.mp, L.c0, L.c1, L.c2, L.c3, L.c4, iD y.C.Age, iD y.C.Brake, iD y.C.Hold, iD y.C.Budget, .osl L.p 0 y.Pts.length, .osl L.g 0 y.Gts.length, .osl L.l 0 y.Lps.length, .osl L.po 0 y.Psts.length, trD L y.Trs.length, iD y.Now]
def ydBase (id : Nat) (L : YL) (y : Yd) : List (Nat × SO) :=
  [(id, .live t_yard_Yard [ydRow L y]), (L.mp, .mp L.clk L.es), (L.p, .live t_yard_thing (y.Pts.map Th.enc)), (L.g, .live t_yard_thing (y.Gts.map Th.enc)), (L.l, .live t_yard_lamp (y.Lps.map Lp.enc)),
    (L.po, .live t_p_yard_post (L.ps.map (fun x => [pO x.i]) ++ L.poJ))]
def ydHeap (id : Nat) (L : YL) (y : Yd) (fr : List (Nat × SO)) : List (Nat × SO) :=
  ydBase id L y ++ ((L.ps.zip y.Psts).map postE ++ ((L.ps.zip y.Psts).map recE ++ (trE L y ++ ((L.tk.zip y.Trs).map tkE ++ fr))))
structure YdIn (s : Store) (id : Nat) (L : YL) (y : Yd) (fr : List (Nat × SO)) : Prop where
  heap : Heap s (ydHeap id L y fr)
  cfg : ∀ s, CfAt s L.c0 L.c1 L.c2 L.c3 L.c4 y.C
  keys : keysOk Tryz.prog t_Hit L.es
  flt : ∀ k, (findM (encH k) L.es).getD (bA false) = bA (y.Flt k)
  psl : L.ps.length = y.Psts.length
  sh : ∀ (k : Nat) pl p, L.ps[k]? = some pl → y.Psts[k]? = some p → ShFz pl.h0 pl.h1 pl.h2 pl.h3 p.H
  tkl : L.tk.length = y.Trs.length
  trn : L.trd = none → y.Trs = []
structure Ywf (y : Yd) (N : Nat) : Prop where
  chk : y.C.check = 0
  pts : y.Pts.length = y.C.Secs.length
  gts : y.Gts.length = y.C.Xs.length
  lps : y.Lps.length = y.C.Sigs.length
  psts : y.Psts.length = 4
  pst : ∀ (k : Nat) p, y.Psts[k]? = some p → p.H = y.C.shape k ∧ p.R.Peer = (k : Int) + 50 ∧ p.R.Age = y.C.Age ∧ -1 ≤ p.Stamp ∧ p.Stamp ≤ 4294967296
  trs : y.Trs.length ≤ 4
  tr : ∀ t ∈ y.Trs, t.Secs ≠ [] ∧ t.Secs.length ≤ N ∧ ∀ s ∈ t.Secs, ∃ x, geti y.C.Secs s = some x
  now : 0 ≤ y.Now ∧ y.Now ≤ 9223372036854775807
  last : ∀ l ∈ y.Lps, -1 ≤ l.Last ∧ l.Last ≤ 9223372036854775807
  left : ∀ x ∈ y.Pts ++ y.Gts, 0 ≤ x.Left ∧ x.Left ≤ 2
theorem topo_len {c : Cf} (h : c.check = 0) : c.Secs.length ≤ 16 ∧ c.Jts.length ≤ 24 ∧ c.Sigs.length ≤ 12 ∧ c.Xs.length ≤ 4 := by
  obtain ⟨h1, h2, h3, _⟩ := check_parts h
  unfold topoOk at h1
  unfold Cf.sigsOk at h2
  unfold Cf.xsOk at h3
  simp only [Bool.and_eq_true, decide_eq_true_eq] at h1 h2 h3
  exact ⟨h1.1.2.1, h1.1.2.2, h2.2, h3.2⟩
theorem srun_oc {tk : List (Int × Int)} : ∀ (l : List Sec) (i : Int) (ls : List Int), srun tk l i ls = true → ∀ s ∈ l, 0 ≤ s.OC ∧ s.OC ≤ 3
  | [], _, _, _, s, hs => by cases hs
  | x :: r, i, ls, h, s, hs => by
    unfold srun at h
    split at h
    · cases h
    · rename_i hc
      rcases List.mem_cons.1 hs with rfl | hs
      · exact Classical.byContradiction fun hn => hc (.inr (.inl hn))
      · exact srun_oc r _ _ h s hs
theorem sec_oc {c : Cf} (h : c.check = 0) {s : Sec} (hs : s ∈ c.Secs) : 0 ≤ s.OC ∧ s.OC ≤ 3 := by
  have h1 := (check_parts h).1
  unfold topoOk at h1
  simp only [Bool.and_eq_true] at h1
  have h2 := h1.2
  split at h2
  · cases h2
  · exact srun_oc _ _ _ h2 s hs
section
variable {s : Store} {id : Nat} {L : YL} {y : Yd} {fr : List (Nat × SO)} {N : Nat}
theorem YdIn.ext (h : YdIn s id L y fr) {s' : Store} (he : Ext s s') : YdIn s' id L y fr := ⟨h.heap.ext he, h.cfg, h.keys, h.flt, h.psl, h.sh, h.tkl, h.trn⟩
theorem YdIn.base (h : YdIn s id L y fr) {x : Nat × SO} (hx : x ∈ ydBase id L y) : s x.1 = x.2 := h.heap.get (List.mem_append_left _ hx)
theorem YdIn.row (h : YdIn s id L y fr) : s id = .live t_yard_Yard [ydRow L y] := h.base (x := (id, _)) (by simp [ydBase])
theorem YdIn.mp (h : YdIn s id L y fr) : s L.mp = .mp L.clk L.es := h.base (x := (L.mp, _)) (by simp [ydBase])
theorem YdIn.pts (h : YdIn s id L y fr) : s L.p = .live t_yard_thing (y.Pts.map Th.enc) := h.base (x := (L.p, _)) (by simp [ydBase])
theorem YdIn.gts (h : YdIn s id L y fr) : s L.g = .live t_yard_thing (y.Gts.map Th.enc) := h.base (x := (L.g, _)) (by simp [ydBase])
theorem YdIn.lps (h : YdIn s id L y fr) : s L.l = .live t_yard_lamp (y.Lps.map Lp.enc) := h.base (x := (L.l, _)) (by simp [ydBase])
theorem YdIn.pos (h : YdIn s id L y fr) : s L.po = .live t_p_yard_post (L.ps.map (fun x => [pO x.i]) ++ L.poJ) := h.base (x := (L.po, _)) (by simp [ydBase])
theorem YdIn.post (h : YdIn s id L y fr) {k : Nat} {pl : PL} {p : Pst} (h1 : L.ps[k]? = some pl) (h2 : y.Psts[k]? = some p) : s pl.i = .live t_yard_post [[pO pl.j, pl.h0, pl.h1, pl.h2, pl.h3, iD p.Stamp]] :=
  h.heap.get (i := pl.i) (List.mem_append_right _ (List.mem_append_left _ (List.mem_map.2 ⟨(pl, p), List.mem_of_getElem? (zip_get h1 h2), rfl⟩)))
theorem YdIn.rcv (h : YdIn s id L y fr) {k : Nat} {pl : PL} {p : Pst} (h1 : L.ps[k]? = some pl) (h2 : y.Psts[k]? = some p) : s pl.j = .live t_link_Receiver [[iD p.R.Last, iD pl.lost, iD pl.num, iD p.R.Peer, iD p.R.Age]] :=
  h.heap.get (i := pl.j) (List.mem_append_right _ (List.mem_append_right _ (List.mem_append_left _ (List.mem_map.2 ⟨(pl, p), List.mem_of_getElem? (zip_get h1 h2), rfl⟩))))
theorem YdIn.tk (h : YdIn s id L y fr) {k : Nat} {x : Nat × List (List D)} {t : Tr} (h1 : L.tk[k]? = some x) (h2 : y.Trs[k]? = some t) : s x.1 = .live t_int (t.Secs.map Go.Fw.encI ++ x.2) :=
  h.heap.get (i := x.1) (List.mem_append_right _ (List.mem_append_right _ (List.mem_append_right _ (List.mem_append_right _ (List.mem_append_left _ (List.mem_map.2 ⟨(x, t), List.mem_of_getElem? (zip_get h1 h2), rfl⟩))))))
theorem YdIn.trd (h : YdIn s id L y fr) {x : Nat × List (List D)} (h1 : L.trd = some x) : s x.1 = .live t_Train ((L.tk.zip y.Trs).map trRow ++ x.2) :=
  h.heap.get (i := x.1) (List.mem_append_right _ (List.mem_append_right _ (List.mem_append_right _ (List.mem_append_left _ (by unfold trE; rw [h1]; simp)))))
theorem at_pre {P : Program} {s : Store} {t : TypeId} {i n : Nat} {rows J : List (List D)} (hs : s i = .live t (rows ++ J)) (hn : n = rows.length) (hsz : rows.length < 2 ^ 60) : At P s t (.osl i 0 n) rows :=
  ⟨⟨t, rows ++ J, hs, rfl, by simp; omega, by subst hn; simp⟩, hsz, fun es rows e => by cases e⟩
theorem YdIn.ptsAt (h : YdIn s id L y fr) (hw : Ywf y N) : At Tryz.prog s t_yard_thing (.osl L.p 0 y.Pts.length) (y.Pts.map Th.enc) := by
  have := topo_len hw.chk
  exact At.fresh h.pts (by simp; have := hw.pts; omega) (by simp)
theorem YdIn.gtsAt (h : YdIn s id L y fr) (hw : Ywf y N) : At Tryz.prog s t_yard_thing (.osl L.g 0 y.Gts.length) (y.Gts.map Th.enc) := by
  have := topo_len hw.chk
  exact At.fresh h.gts (by simp; have := hw.gts; omega) (by simp)
theorem YdIn.lpsAt (h : YdIn s id L y fr) (hw : Ywf y N) : At Tryz.prog s t_yard_lamp (.osl L.l 0 y.Lps.length) (y.Lps.map Lp.enc) := by
  have := topo_len hw.chk
  exact At.fresh h.lps (by simp; have := hw.lps; omega) (by simp)
theorem YdIn.posAt (h : YdIn s id L y fr) (hw : Ywf y N) : At Tryz.prog s t_p_yard_post (.osl L.po 0 y.Psts.length) (L.ps.map fun x => [pO x.i]) := at_pre h.pos (by simp [h.psl]) (by simp [h.psl, hw.psts])
theorem YdIn.tkAt (h : YdIn s id L y fr) {k : Nat} {x : Nat × List (List D)} {t : Tr} (h1 : L.tk[k]? = some x) (h2 : y.Trs[k]? = some t) (hl : t.Secs.length < 2 ^ 60) : At Tryz.prog s t_int (.osl x.1 0 t.Secs.length) (t.Secs.map Go.Fw.encI) :=
  at_pre (h.tk h1 h2) (by simp) (by simpa using hl)
theorem YdIn.trAt (h : YdIn s id L y fr) (hw : Ywf y N) : At Tryz.prog s t_Train (trD L y.Trs.length) ((L.tk.zip y.Trs).map trRow) := by
  unfold trD
  cases ht : L.trd with
  | none =>
    have := h.trn ht
    rw [this]; simp only [List.zip_nil_right, List.map_nil]; exact .nil
  | some x => exact at_pre (h.trd ht) (by simp [h.tkl]) (by simp; have := hw.trs; omega)
theorem YdIn.trsAt (h : YdIn s id L y fr) (hw : Ywf y N) (hN : N ≤ 2 ^ 45) : TrsAt s (trD L y.Trs.length) y.Trs := by
  refine ⟨_, h.trAt hw, by simp [h.tkl], fun k row t hr ht => ?_⟩
  rw [List.getElem?_map] at hr
  obtain ⟨x, hx⟩ := get_of_lt (l := L.tk) (j := k) (by rw [h.tkl]; exact (List.getElem?_eq_some_iff.1 ht).1)
  rw [zip_get hx ht] at hr
  injection hr with hr
  subst hr
  have := (hw.tr t (List.mem_of_getElem? ht)).2.1
  exact ⟨_, rfl, h.tkAt hx ht (by show t.Secs.length < 2 ^ 60; omega)⟩
theorem YdIn.there (h : YdIn s id L y fr) (hw : Ywf y N) (hN : N ≤ 2 ^ 45) (n : Int) : Pure Tryz.prog n_yard_Yard_there [.one (pO id), iA n] s (.a (iA (y.there n))) :=
  yard_there_ok h.row rfl (h.trsAt hw hN) (by have := hw.trs; omega) (fun t ht => Nat.le_trans (hw.tr t ht).2.1 hN) n
theorem YdIn.signal (h : YdIn s id L y fr) (a e : Int) : Pure Tryz.prog n_yard_Yard_signal [.one (pO id), iA a, iA e] s (.a (iA (y.C.sigAt a e))) := yard_signal_ok h.row rfl h.cfg a e
theorem YdIn.stands (h : YdIn s id L y fr) (a e : Int) : Pure Tryz.prog n_yard_Yard_stands [.one (pO id), iA a, iA e] s (.a (bA (y.C.stands a e))) := yard_stands_ok h.row rfl rfl h.cfg a e
theorem yard_moves_ok {s : Store} {i n j : Nat} {l : List Th} {x : Th} (h : At Tryz.prog s t_yard_thing (.osl i 0 n) (l.map Th.enc)) (hx : l[j]? = some x) : Pure Tryz.prog n_yard_thing_moves [.one (.el (.osl i 0 n) j 0)] s (.a (bA (decide (x.Left > 0)))) :=
  W_yard_thing_moves _ s _ ⟨trivial, _, _, _, rfl, _, h.row (map_get hx), x.Left, rfl, rfl, rfl⟩
theorem YdIn.wayAt (h : YdIn s id L y fr) (hw : Ywf y N) {s2 : Store} (e1 : s2 id = s id) (e2 : s2 L.p = s L.p) {a : Int} {sec : Sec} (ha : geti y.C.Secs a = some sec) (i : Int) : Pure Tryz.prog n_yard_Yard_way [.one (pO id), iA a, iA i] s2 (.a (iA (y.way a i))) := by
  obtain ⟨h0, h1, h2⟩ := geti_some ha
  obtain ⟨j, rfl⟩ := Int.eq_ofNat_of_zero_le h0
  rw [Int.toNat_natCast] at h2
  obtain ⟨x, hx⟩ := get_of_lt (l := y.Pts) (j := j) (by have := hw.pts; omega)
  have hl16 := topo_len hw.chk
  have hrow : s2 id = .live t_yard_Yard [ydRow L y] := e1.trans h.row
  have hP : At Tryz.prog s2 t_yard_thing (.osl L.p 0 y.Pts.length) (y.Pts.map Th.enc) := At.fresh (e2.trans h.pts) (by simp; have := hw.pts; omega) (by simp)
  have hpos : y.pos (j : Int) = if x.Left > 0 then 0 else x.At := by unfold Yd.pos; rw [geti_nat, hx]; rfl
  have hway : y.way (j : Int) i = (wayOut sec.Kind i (y.pos (j : Int))).getD (-1) := by unfold Yd.way; rw [ha]; rfl
  have fin : ∀ p, y.pos (j : Int) = p → DCalls Tryz.prog n_topo_Way [iA sec.Kind, iA i, iA p] s2 fun r s' => ∃ n2 : Int, ∃ b1 : Bool, (r = .tup [iA n2, bA b1]) ∧ bcase (!b1) (RV.a (iA (-1)) = .a (iA (y.way (j : Int) i)) ∧ s' = s2) (RV.a (iA n2) = .a (iA (y.way (j : Int) i)) ∧ s' = s2) := by
    rintro p rfl
    refine (topo_Way_ok _ _ _).mono ?_
    rintro r s' ⟨rfl, rfl⟩
    rw [hway]
    cases wayOut sec.Kind i (y.pos (j : Int)) with
    | none => exact ⟨0, false, rfl, bcnot (fun _ => ⟨rfl, rfl⟩) (fun e => by cases e)⟩
    | some o => exact ⟨o, true, rfl, bcnot (fun e => by cases e) (fun _ => ⟨rfl, rfl⟩)⟩
  refine W_yard_Yard_way (pO id) j i s2 _ ⟨trivial, _, _, _, rfl, _, box_row hrow, _, rfl, hP.load (map_get hx) c_yard_thing rfl ⟨x.At, rfl, trivial, _, _, _, rfl, _, box_row hrow, _, rfl, hP.idxK c_yard_thing rfl (by simpa using (List.getElem?_eq_some_iff.1 hx).1) ?_⟩⟩
  rw [Int.toNat_natCast]
  refine (yard_moves_ok hP hx).use ⟨_, rfl, bcd (fun hm => ?_) (fun hm => ?_)⟩
  · exact ⟨trivial, _, _, _, rfl, _, box_row hrow, _, rfl, (h.cfg s2).secs.load (map_get h2) c_Section rfl ⟨sec.Kind, rfl, fin 0 (by rw [hpos, if_pos hm])⟩⟩
  · exact ⟨trivial, _, _, _, rfl, _, box_row hrow, _, rfl, (h.cfg s2).secs.load (map_get h2) c_Section rfl ⟨sec.Kind, rfl, fin x.At (by rw [hpos, if_neg hm])⟩⟩
theorem YdIn.way (h : YdIn s id L y fr) (hw : Ywf y N) {a : Int} {sec : Sec} (ha : geti y.C.Secs a = some sec) (i : Int) : Pure Tryz.prog n_yard_Yard_way [.one (pO id), iA a, iA i] s (.a (iA (y.way a i))) := h.wayAt hw rfl rfl ha i
theorem YdIn.shut (h : YdIn s id L y fr) (hw : Ywf y N) {j : Nat} {x : Th} (hx : y.Gts[j]? = some x) : Pure Tryz.prog n_yard_Yard_shut [.one (pO id), iA j] s (.a (bA (y.shut j))) := by
  have hG := h.gtsAt hw
  have hsh : y.shut (j : Int) = (decide (¬ x.Left > 0) && decide (x.At = 1)) := by unfold Yd.shut; rw [geti_nat, hx]; rfl
  refine W_yard_Yard_shut (pO id) j s _ ⟨trivial, _, _, _, rfl, _, box_row h.row, _, rfl, hG.idxK c_yard_thing rfl (by simpa using (List.getElem?_eq_some_iff.1 hx).1) ?_⟩
  rw [Int.toNat_natCast]
  refine (yard_moves_ok hG hx).use ⟨_, rfl, ?_⟩
  rw [hsh]
  refine bcnot (fun hm => ⟨trivial, _, _, _, rfl, _, box_row h.row, _, rfl, hG.load (map_get hx) c_yard_thing rfl ⟨x.At, rfl, ?_, rfl⟩⟩) (fun hm => ⟨?_, rfl⟩)
  · have hm := of_decide_eq_false hm
    rw [decide_eq_true hm, Bool.true_and]; rfl
  · have hm := of_decide_eq_true hm
    rw [decide_eq_false (by simpa using hm), Bool.false_and]
theorem YdIn.train (h : YdIn s id L y fr) (hw : Ywf y N) (t : Int) : Pure Tryz.prog n_yard_Yard_train [.one (pO id), iA t] s (.a (.one (if 0 ≤ t ∧ t < y.Trs.length then .el (trD L y.Trs.length) t.toNat 0 else .nilp))) := by
  have hT := h.trAt hw
  have hl : ((L.tk.zip y.Trs).map trRow).length = y.Trs.length := by simp [h.tkl]
  refine W_yard_Yard_train (pO id) t s _ (bcd (fun h0 => ⟨by rw [if_neg (by omega)], rfl⟩) (fun h0 => ⟨trivial, _, _, _, rfl, _, box_row h.row, _, rfl, hT.lenK ?_⟩))
  rw [hl]
  refine bcd (fun h1 => ⟨by rw [if_neg (by omega)], rfl⟩) (fun h1 => ⟨trivial, _, _, _, rfl, _, box_row h.row, _, rfl, hT.idxK (j := t.toNat) c_Train (by omega) (by rw [hl]; omega) ⟨by rw [if_pos (by omega)], rfl⟩⟩)
theorem YdIn.shows (h : YdIn s id L y fr) (hw : Ywf y N) (x : Int) : Pure Tryz.prog n_yard_Yard_Shows [.one (pO id), iA x] s (.a (iA (y.shows x))) := by
  have hLp := h.lpsAt hw
  have hPo := h.posAt hw
  refine W_yard_Yard_Shows (pO id) x s _ ?_
  intro R hR
  refine bcd (fun h0 => ⟨by unfold Yd.shows; rw [geti_neg h0], rfl⟩) (fun h0 => ⟨trivial, _, _, _, rfl, _, box_row h.row, _, rfl, hLp.lenK ?_⟩)
  rw [List.length_map]
  refine bcd (fun h1 => ⟨by unfold Yd.shows; rw [geti_ge h1], rfl⟩) (fun h1 => hR s ?_)
  obtain ⟨j, rfl⟩ := Int.eq_ofNat_of_zero_le (show 0 ≤ x by omega)
  obtain ⟨l, hl⟩ := get_of_lt (l := y.Lps) (j := j) (by omega)
  obtain ⟨g, hg⟩ := get_of_lt (l := y.C.Sigs) (j := j) (by have := hw.lps; omega)
  obtain ⟨sec, hsec⟩ := sig_sec hw.chk (List.mem_of_getElem? hg)
  obtain ⟨q0, q1, q2⟩ := geti_some hsec
  have hoc := sec_oc hw.chk (List.mem_of_getElem? q2)
  obtain ⟨oc, hoce⟩ := Int.eq_ofNat_of_zero_le hoc.1
  obtain ⟨p, hp⟩ := get_of_lt (l := y.Psts) (j := oc) (by rw [hw.psts]; omega)
  obtain ⟨pl, hpl⟩ := get_of_lt (l := L.ps) (j := oc) (by rw [h.psl, hw.psts]; omega)
  have hpw := hw.pst oc p hp
  have hnow := hw.now
  have hpost := h.post hpl hp
  have hsh : y.shows (j : Int) = if p.Stamp < 0 ∨ y.Now - p.Stamp > y.C.Age then 0 else l.Asp := by
    unfold Yd.shows
    rw [geti_nat, hl, geti_nat, hg]
    simp only [hsec, hoce, geti_nat, hp]
  have hgj : (y.C.Secs.map Sec.enc)[g.Sec.toNat]? = some sec.enc := map_get q2
  refine ⟨trivial, _, _, _, rfl, _, box_row h.row, _, rfl, trivial, _, _, _, rfl, _, box_row h.row, _, rfl, trivial, _, _, _, rfl, _, box_row h.row, _, rfl, (h.cfg s).sigs.load (map_get hg) c_Signal rfl ⟨g.Sec, rfl, (h.cfg s).secs.load (j := g.Sec.toNat) hgj c_Section (by omega) ⟨sec.OC, rfl, ?_⟩⟩⟩
  rw [hoce]
  refine hPo.load (map_get (f := fun x : PL => [pO x.i]) hpl) c_p_yard_post rfl ⟨pO pl.i, rfl, trivial, _, _, _, rfl, _, box_row hpost, p.Stamp, rfl, bcd (fun hs => ⟨by rw [hsh, if_pos (.inl hs)], rfl⟩) (fun hs => ⟨trivial, _, _, _, rfl, _, box_row h.row, y.Now, rfl, trivial, _, _, _, rfl, _, box_row hpost, p.Stamp, rfl, trivial, _, _, _, rfl, _, box_row h.row, y.C.Age, rfl, ?_⟩)⟩
  rw [w64_id (by omega) (by omega)]
  refine bcd (fun ha => ⟨by rw [hsh, if_pos (.inr ha)], rfl⟩) (fun ha => ⟨trivial, _, _, _, rfl, _, box_row h.row, _, rfl, hLp.load (map_get hl) c_yard_lamp rfl ⟨l.Asp, rfl, by rw [hsh, if_neg (fun g => g.elim hs ha)], rfl⟩⟩)
end
end Go.Proofs.YtaklhjodjbgmgaaGreat
end
section
set_option linter.unusedVariables false
set_option linter.unusedSimpArgs false
namespace Go.Proofs.YtaklhjodjbgmgaaGreat
open Go.Fw Go.Proofs Go.RowKit
variable {σ σ0 : Store}
theorem apart_cells {s : Store} {el el' : TypeId} {d d' : D} {rs rs' : List (List D)} (h : At Tryz.prog s el d rs) (h' : At Tryz.prog s el' d' rs') (hc : Tryz.prog.cellsOf el ≠ Tryz.prog.cellsOf el') : Apart d d' := by
  intro i h1 h2
  cases d with
  | osl j a n =>
    have : j = i := by simpa [idOf] using h1
    subst this
    cases d' with
    | osl j' a' n' =>
      have : j' = j := by simpa [idOf] using h2
      subst this
      obtain ⟨t, rows, g1, g2, _⟩ := h.rows
      obtain ⟨t', rows', g3, g4, _⟩ := h'.rows
      rw [g1] at g3
      injection g3 with g3 _
      rw [← g3] at g4
      exact hc (g2.symm.trans g4)
    | _ => simp [idOf] at h2
  | _ => simp [idOf] at h1
def TrsOwn (σ0 s : Store) (d : D) (l : List Tr) : Prop := ∃ rows, Own Tryz.prog σ0 s t_Train d rows ∧ rows.length = l.length ∧
  ∀ (k : Nat) row t, rows[k]? = some row → l[k]? = some t → ∃ e, row = [e, iD t.Out] ∧ Own Tryz.prog σ0 s t_int e (t.Secs.map Go.Fw.encI)
theorem TrsOwn.nil {s : Store} (he : Ext σ0 s) : TrsOwn σ0 s .nils [] := ⟨[], .nil _ he, rfl, fun k row t h => by simp at h⟩
theorem TrsOwn.ext' {s s' : Store} {d : D} {l : List Tr} (h : TrsOwn σ0 s d l) (he : Ext s s') : TrsOwn σ0 s' d l := by
  obtain ⟨rows, h1, h2, h3⟩ := h
  exact ⟨rows, h1.ext' he, h2, fun k row t a b => by obtain ⟨e, e1, e2⟩ := h3 k row t a b; exact ⟨e, e1, e2.ext' he⟩⟩
theorem TrsOwn.push {s s1 : Store} {d e : D} {l : List Tr} {t : Tr} (h : TrsOwn σ0 s d l) (he : Own Tryz.prog s s1 t_int e (t.Secs.map Go.Fw.encI)) (hl : 32 * l.length ≤ 140737488351232) {K : D → Store → Prop} (hK : ∀ d' s', TrsOwn σ0 s' d' (l ++ [t]) → K d' s') :
    Fw.newObj s1 (.live t_Train [[e, iD t.Out]]) fun id s2 => appendTo Tryz.prog s2 t_Train 32 d (.osl id 0 1) K := by
  refine newObj_intro fun id s2 hid _ he2 hs2 => ?_
  obtain ⟨rows, h1, h2, h3⟩ := (h.ext' he.ext).ext' he2
  have he' : Own Tryz.prog σ0 s2 t_int e (t.Secs.map Go.Fw.encI) := (he.from (by obtain ⟨rows, h1, _⟩ := h; exact h1.ext)).ext' he2
  refine h1.append (At.fresh hs2 (by simp) rfl) (by simp; omega) (by simp; omega) fun d' s' ho g1 g2 => hK d' s' ⟨rows ++ [[e, iD t.Out]], ho, by simp [h2], fun k row t' a b => ?_⟩
  have keep : ∀ {x : D} {rs : List (List D)}, Own Tryz.prog σ0 s2 t_int x rs → Own Tryz.prog σ0 s' t_int x rs := fun {x rs} hx =>
    hx.stay (d := d) (fun i hi hd => g1 i hi fun a b e => hd (by rw [e]; rfl)) (apart_cells hx.at_ h1.at_ (by rw [c_int, c_Train]; decide)) ho.ext
  by_cases hk : k < rows.length
  · rw [List.getElem?_append_left hk] at a
    rw [List.getElem?_append_left (by omega)] at b
    obtain ⟨e', e1, e2⟩ := h3 k row t' a b
    exact ⟨e', e1, keep e2⟩
  · have hkk : k = rows.length := by
      have := (List.getElem?_eq_some_iff.1 a).1
      simp at this; omega
    subst hkk
    rw [List.getElem?_append_right (by omega), Nat.sub_self] at a
    rw [List.getElem?_append_right (by omega), show rows.length - l.length = 0 by omega] at b
    injection a with a; injection b with b
    subst a b
    exact ⟨e, rfl, keep he'⟩
theorem frz_rows {s : Store} (he : Ext σ0 s) : ∀ (rows : List (List D)) (l : List Tr), rows.length = l.length → (∀ (k : Nat) row t, rows[k]? = some row → l[k]? = some t → ∃ e, row = [e, iD t.Out] ∧ Own Tryz.prog σ0 s t_int e (t.Secs.map Go.Fw.encI)) →
    ∃ rows' : List (List D), rows'.length = rows.length ∧ (∀ (k : Nat) row row', rows[k]? = some row → rows'[k]? = some row' → FzL Tryz.prog s (fun i => σ0 i ≠ .free) row row') ∧
      ∀ (k : Nat) row' t, rows'[k]? = some row' → l[k]? = some t → ∃ e, row' = [e, iD t.Out] ∧ ∀ s, At Tryz.prog s t_int e (t.Secs.map Go.Fw.encI)
  | [], l, hl, h => ⟨[], rfl, fun k row row' a => by simp at a, fun k row' t a => by simp at a⟩
  | r :: rows, [], hl, h => by simp at hl
  | r :: rows, t :: l, hl, h => by
    obtain ⟨rows', q1, q2, q3⟩ := frz_rows he rows l (by simpa using hl) (fun k row t a b => h (k + 1) row t (by simpa using a) (by simpa using b))
    obtain ⟨e, rfl, ho⟩ := h 0 r t rfl rfl
    obtain ⟨e', f1, f2⟩ := ret_slice ho.at_ he ho.new (flatI _)
    refine ⟨[e', iD t.Out] :: rows', by simp [q1], fun k row row' a b => ?_, fun k row' t' a b => ?_⟩
    · rcases k with _ | k
      · simp at a b; subst a b; exact .cons f1 (.cons (.int _ _) .nil)
      · exact q2 k row row' (by simpa using a) (by simpa using b)
    · rcases k with _ | k
      · simp at a b; subst a b; exact ⟨e', rfl, f2⟩
      · exact q3 k row' t' (by simpa using a) (by simpa using b)
theorem TrsOwn.ret {s : Store} {d : D} {l : List Tr} (h : TrsOwn σ0 s d l) : ∃ d', Fz Tryz.prog s (fun i => σ0 i ≠ .free) d d' ∧ ∀ s, TrsAt s d' l := by
  obtain ⟨rows, h1, h2, h3⟩ := h
  obtain ⟨rows', q1, q2, q3⟩ := frz_rows h1.ext rows l h2 h3
  have hr := h1.at_.rows
  have hsz := h1.at_.size
  have hn := h1.new
  have hnl := h1.nsl
  have hnz := h1.nz
  cases d with
  | nils =>
    have : rows = [] := hr
    subst this
    exact ⟨.nils, .nils, fun s => ⟨[], .nil, h2, fun k row t a => by simp at a⟩⟩
  | zsl => exact absurd rfl hnz
  | sl es rs => exact absurd trivial hnl
  | osl i a n =>
    obtain ⟨t, full, g1, g2, g3, g4⟩ := hr
    have hrl : rows.length = n := by rw [g4]; simp; omega
    have key : ∀ (j : Nat) row, full[a + j]? = some row → j < n → rows[j]? = some row := fun j row hj hlt => by
      rw [g4, List.getElem?_take_of_lt hlt, List.getElem?_drop]; exact hj
    refine ⟨.sl (Tryz.prog.cellsOf t) rows', .osl i a n t full rows' (fun hc => hc (hn _ _ _ rfl)) g1 g3 (by omega) (fun j row row' x y => ?_) (fun j row row' m d d' x y z w => ?_), fun s => ⟨rows', ⟨⟨rfl, .inr g2⟩, by omega, fun es rs e => ?_⟩, by omega, fun k row t a b => ?_⟩⟩
    · have hj := (List.getElem?_eq_some_iff.1 y).1
      exact (q2 j row row' (key j row x (by omega)) y).1
    · have hj := (List.getElem?_eq_some_iff.1 y).1
      exact (q2 j row row' (key j row x (by omega)) y).2 m d d' z w
    · rw [← (D.sl.inj e).1]; exact g2
    · obtain ⟨e, e1, e2⟩ := q3 k row t a b
      exact ⟨e, e1, e2 s⟩
  | _ => exact hr.elim
def TrsPost (σ : Store) (l : List Tr) (r : RV) (s : Store) : Prop := s = σ ∧ ∃ d, r = .a (.one d) ∧ ∀ s, TrsAt s d l
structure HtIn (σ0 s : Store) (oid : Nat) (l : List Ht) : Prop where
  new : σ0 oid = .free
  cell : ∃ d, s oid = .live t_sl_Hit [[d]] ∧ Own Tryz.prog σ0 s t_Hit d (l.map Ht.enc)
theorem HtIn.ext {s : Store} {oid : Nat} {l : List Ht} (h : HtIn σ0 s oid l) : Ext σ0 s := by obtain ⟨d, _, h⟩ := h.cell; exact h.ext
theorem yard_Hits_1_ok {s : Store} {oid : Nat} {l : List Ht} (h : HtIn σ0 s oid l) (hl : l.length ≤ 2 ^ 40) (w : Bool) (k n : Int) :
    DCalls Tryz.prog n_yard_Yard_Hits_1 [bA w, iA k, iA n, .one (pO oid)] s fun r s' => r = .tup [] ∧ HtIn σ0 s' oid (l ++ if w = true then [⟨k, n⟩] else []) := by
  have hI := h
  obtain ⟨hn, d, h1, h2⟩ := h
  refine W_yard_Yard_Hits_1 w k n (pO oid) s _ (bc (fun hw => ⟨_, _, _, rfl, _, box_row h1, d, rfl, newObj_intro fun id s1 hid _ he hs => ?_⟩) (fun hw => ⟨rfl, by rw [hw]; simpa using hI⟩))
  have h1' := live_ext h1 he
  have haw := away h2.at_ h1 (by rw [c_sl_Hit, c_Hit]; decide)
  refine (h2.ext' he).append (At.fresh (rs := [Ht.enc ⟨k, n⟩]) hs (by simp) rfl) (by simp; omega) (by simp; omega) fun d' s' ho g1 g2 => ⟨_, _, _, rfl, ?_⟩
  have h3 : s' oid = .live t_sl_Hit [[d]] := by rw [g1 oid (by rw [h1']; intro e; cases e) (fun a b e => haw (by rw [e]; rfl))]; exact h1'
  refine cell_store h3 (by simp) fun s2 hs2 ho2 => ⟨rfl, hn, d', by rw [hs2]; rfl, ?_⟩
  rw [if_pos hw]
  have := own_other ho hn (away ho.at_ h3 (by rw [c_sl_Hit, c_Hit]; decide)) ho2
  simpa using this
section
variable {s : Store} {id : Nat} {L : YL} {y : Yd} {fr : List (Nat × SO)} {N : Nat}
theorem YdIn.trains (h : YdIn s id L y fr) (hw : Ywf y N) (hN : N ≤ 2 ^ 43) : DCalls Tryz.prog n_yard_Yard_Trains [.one (pO id)] s (TrsPost s y.Trs) := by
  have htl := hw.trs
  have key : DCalls Tryz.prog n_yard_Yard_Trains [.one (pO id)] s fun r s' => ∃ d', r = .a (.one d') ∧ TrsOwn s s' d' y.Trs := by
    obtain ⟨rows0, hat0, hrl0, _⟩ := h.trsAt hw (by omega)
    refine W_yard_Yard_Trains (pO id) s _ ⟨trivial, _, _, _, rfl, _, box_row h.row, _, rfl, hat0.lenK ⟨fun d1 n s' => ∃ j : Nat, n = j ∧ j ≤ y.Trs.length ∧ TrsOwn s s' d1 (y.Trs.take j), fun _ n _ => y.Trs.length - n.toNat, ⟨0, rfl, by omega, .nil (.refl _)⟩, ?_⟩⟩
    rw [hrl0]
    rintro d1 _ s' ⟨j, rfl, hj, ho⟩
    refine bcd (fun hlt => ?_) (fun hge => ?_)
    · have hlt : j < y.Trs.length := by omega
      have he : Ext s s' := by obtain ⟨rows, h1, _⟩ := ho; exact h1.ext
      obtain ⟨rows, hat, hrl, hrow⟩ := (h.ext he).trsAt hw (by omega)
      obtain ⟨t, ht⟩ := get_of_lt (l := y.Trs) (j := j) hlt
      obtain ⟨r, hr⟩ := get_of_lt (l := rows) (j := j) (by omega)
      obtain ⟨x, hx⟩ := get_of_lt (l := L.tk) (j := j) (by rw [h.tkl]; exact hlt)
      have hts := (hw.tr t (List.mem_of_getElem? ht)).2.1
      have hae := (h.ext he).tkAt hx ht (by omega)
      have hat := (h.ext he).trAt hw
      have hz : ((L.tk.zip y.Trs).map trRow)[j]? = some [.osl x.1 0 t.Secs.length, iD t.Out] := by rw [List.getElem?_map, zip_get hx ht]; rfl
      refine hat.load hz c_Train rfl ⟨_, t.Out, rfl, (Clone_int_ok hae (by intro e; cases e) (by simp; omega)).mono ?_⟩
      rintro r' s1 ⟨e', rfl, hoe⟩
      refine ⟨e', rfl, ho.push hoe (by simp; omega) fun d' s2 ho' => ?_⟩
      rw [w64_succ (by omega)]
      exact ⟨⟨j + 1, rfl, hlt, by rw [List.take_add_one, ht, Option.toList_some]; exact ho'⟩, dec_lt hlt⟩
    · have e : j = y.Trs.length := by omega
      subst e
      rw [List.take_length] at ho
      exact ⟨_, rfl, ho⟩
  refine key.ret ?_
  rintro r s' ⟨d', rfl, ho⟩
  obtain ⟨d2, f1, f2⟩ := ho.ret
  have he : Ext s s' := by obtain ⟨rows, h1, _⟩ := ho; exact h1.ext
  exact ⟨.a (.one d2), s, .pure he f1, rfl, d2, rfl, f2⟩
theorem hits_len (y : Yd) : (∀ (l : List Sec) (i : Int), (hits1 y l i).length ≤ l.length ∧ (hits2 y l i).length ≤ l.length) ∧ (∀ (l : List Int) (i : Int), (hits3 y l i).length ≤ l.length) ∧ ∀ l : List Tr, (hits4 l).length ≤ l.length := by
  refine ⟨fun l => ?_, fun l => ?_, fun l => ?_⟩ <;> induction l with
  | nil => first | (intro i; simp [hits1, hits2, hits3]) | simp [hits4]
  | cons x l ih =>
    first
      | (intro i; have := ih (i + 1); simp only [hits1, hits2, List.length_append, List.length_cons]; refine ⟨?_, ?_⟩ <;> split <;> simp <;> omega)
      | (intro i; have := ih (i + 1); simp only [hits3, List.length_append, List.length_cons]; split <;> simp <;> omega)
      | (simp only [hits4, List.length_append, List.length_cons]; split <;> simp <;> omega)
theorem YdIn.hits (h : YdIn s id L y fr) (hw : Ywf y N) (hN : N ≤ 2 ^ 43) : DCalls Tryz.prog n_yard_Yard_Hits [.one (pO id)] s (SlPost s t_Hit (y.hits.map Ht.enc)) := by
  have htl := hw.trs
  have hcl := topo_len hw.chk
  obtain ⟨q1, q3, q4⟩ := hits_len y
  have key : DCalls Tryz.prog n_yard_Yard_Hits [.one (pO id)] s fun r s' => ∃ d', r = .a (.one d') ∧ Own Tryz.prog s s' t_Hit d' (y.hits.map Ht.enc) := by
    refine W_yard_Yard_Hits (pO id) s _ (newObj_intro fun oid s1 hoid _ he1 hs1 => ?_)
    have h0 : HtIn s s1 oid [] := ⟨hoid, .nils, hs1, .nil _ he1⟩
    refine ⟨trivial, _, _, _, rfl, _, box_row (h.ext he1).row, _, rfl, (h.cfg s1).secs.lenK ⟨fun n s' => ∃ (j : Nat) (out : List Ht), n = j ∧ j ≤ y.C.Secs.length ∧ HtIn s s' oid out ∧ out ++ hits1 y (y.C.Secs.drop j) j = hits1 y y.C.Secs 0, fun n _ => y.C.Secs.length - n.toNat, ⟨0, [], rfl, by omega, h0, rfl⟩, ?_⟩⟩
    rintro _ s2 ⟨j, out, rfl, hj, ho, hE⟩
    rw [List.length_map]
    have hYs : ∀ {s'}, Ext s s' → YdIn s' id L y fr := fun he => h.ext he
    have a1 := (q1 y.C.Secs 0).1
    have hol := congrArg List.length hE
    rw [List.length_append] at hol
    refine bcd (fun hlt => ?_) (fun hge => ?_)
    · have hlt : j < y.C.Secs.length := by omega
      obtain ⟨x, hx⟩ := get_of_lt (l := y.C.Secs) (j := j) hlt
      have hdec := dec_lt hlt
      refine ((hYs ho.ext).there hw (by omega) j).use ⟨_, rfl, _, _, _, _, _, rfl, rfl, rfl, (yard_Hits_1_ok ho (by omega) (decide (y.there j > 1)) 1 j).mono ?_⟩
      rintro r s3 ⟨rfl, ho3⟩
      rw [w64_succ (by omega)]
      refine ⟨rfl, ⟨j + 1, _, rfl, hlt, ho3, ?_⟩, hdec⟩
      rw [drop_get hx, hits1] at hE
      rw [← hE, List.append_assoc, show ((j : Int) + 1) = ((j + 1 : Nat) : Int) by omega]
      congr 2
      by_cases hc : y.there j > 1
      · rw [if_pos hc, if_pos (decide_eq_true hc)]
      · rw [if_neg hc, if_neg (by simpa using hc)]
    have e : j = y.C.Secs.length := by omega
    subst e
    rw [List.drop_length, hits1, List.append_nil] at hE
    subst hE
    clear hol hge hj
    refine ⟨trivial, _, _, _, rfl, _, box_row (hYs ho.ext).row, _, rfl, (h.cfg s2).secs.lenK ⟨fun n s' => ∃ (j : Nat) (out : List Ht), n = j ∧ j ≤ y.C.Secs.length ∧ HtIn s s' oid (hits1 y y.C.Secs 0 ++ out) ∧ out ++ hits2 y (y.C.Secs.drop j) j = hits2 y y.C.Secs 0, fun n _ => y.C.Secs.length - n.toNat, ⟨0, [], rfl, by omega, by simpa using ho, rfl⟩, ?_⟩⟩
    clear ho s2
    rintro _ s2 ⟨j, out, rfl, hj, ho, hE⟩
    rw [List.length_map]
    have a2 := (q1 y.C.Secs 0).2
    have hol := congrArg List.length hE
    rw [List.length_append] at hol
    refine bcd (fun hlt => ?_) (fun hge => ?_)
    · have hlt : j < y.C.Secs.length := by omega
      obtain ⟨x, hx⟩ := get_of_lt (l := y.C.Secs) (j := j) hlt
      obtain ⟨p, hp⟩ := get_of_lt (l := y.Pts) (j := j) (by rw [hw.pts]; exact hlt)
      have hdec := dec_lt hlt
      have hP := (hYs ho.ext).ptsAt hw
      rw [drop_get hx, hits2] at hE
      have fin : ∀ (s3 : Store), s3 = s2 → ∀ w : Bool, (w = true ↔ (x.Kind = 1 ∧ y.there (j : Int) > 0 ∧ (((geti y.Pts (j : Int)).map Th.Left).getD 0) > 0)) → DCalls Tryz.prog n_yard_Yard_Hits_1 [bA w, iA 2, iA j, .one (pO oid)] s3 fun r s4 => r = .tup [] ∧
          ((∃ (j' : Nat) (out : List Ht), w64 ((j : Int) + 1) = j' ∧ j' ≤ y.C.Secs.length ∧ HtIn s s4 oid (hits1 y y.C.Secs 0 ++ out) ∧ out ++ hits2 y (y.C.Secs.drop j') j' = hits2 y y.C.Secs 0) ∧ y.C.Secs.length - (w64 ((j : Int) + 1)).toNat < y.C.Secs.length - (j : Int).toNat) := by
        rintro s3 rfl w hwc
        refine (yard_Hits_1_ok ho (by simp; omega) w 2 j).mono ?_
        rintro r s4 ⟨rfl, ho4⟩
        rw [w64_succ (by omega)]
        rw [List.append_assoc] at ho4
        refine ⟨rfl, ⟨j + 1, _, rfl, hlt, ho4, ?_⟩, hdec⟩
        rw [← hE, List.append_assoc, show ((j : Int) + 1) = ((j + 1 : Nat) : Int) by omega]
        congr 2
        by_cases hc : w = true
        · rw [if_pos hc, if_pos (hwc.1 hc)]
        · rw [if_neg hc, if_neg (fun g => hc (hwc.2 g))]
      have hgp : ((geti y.Pts (j : Int)).map Th.Left).getD 0 = p.Left := by rw [geti_nat, hp]; rfl
      rw [hgp] at fin
      refine (h.cfg s2).secs.load (map_get hx) c_Section rfl ⟨x.Kind, x.OC, x.Line, rfl, bce (fun hk => ((hYs ho.ext).there hw (by omega) j).use ⟨_, rfl, bcd (fun ht => ?_) (fun ht => ⟨_, _, _, _, _, rfl, rfl, rfl, fin s2 rfl false ⟨fun e => (by cases e), fun g => absurd g.2.1 ht⟩⟩)⟩) (fun hk => ⟨_, _, _, _, _, rfl, rfl, rfl, fin s2 rfl false ⟨fun e => (by cases e), fun g => absurd g.1 hk⟩⟩)⟩
      refine ⟨trivial, _, _, _, rfl, _, box_row (hYs ho.ext).row, _, rfl, hP.idxK c_yard_thing rfl (by simpa using (List.getElem?_eq_some_iff.1 hp).1) ?_⟩
      rw [Int.toNat_natCast]
      exact (yard_moves_ok hP hp).use ⟨_, rfl, _, _, _, _, _, rfl, rfl, rfl, fin s2 rfl _ ⟨fun g => ⟨hk, ht, of_decide_eq_true g⟩, fun g => decide_eq_true g.2.2⟩⟩
    have e : j = y.C.Secs.length := by omega
    subst e
    rw [List.drop_length, hits2, List.append_nil] at hE
    subst hE
    clear hol hge hj
    refine ⟨trivial, _, _, _, rfl, _, box_row (hYs ho.ext).row, _, rfl, (h.cfg s2).xs.lenK ⟨fun n s' => ∃ (j : Nat) (out : List Ht), n = j ∧ j ≤ y.C.Xs.length ∧ HtIn s s' oid (hits1 y y.C.Secs 0 ++ hits2 y y.C.Secs 0 ++ out) ∧ out ++ hits3 y (y.C.Xs.drop j) j = hits3 y y.C.Xs 0, fun n _ => y.C.Xs.length - n.toNat, ⟨0, [], rfl, by omega, by simpa using ho, rfl⟩, ?_⟩⟩
    clear ho s2
    rintro _ s2 ⟨j, out, rfl, hj, ho, hE⟩
    rw [List.length_map]
    have a3 := q3 y.C.Xs 0
    have hol := congrArg List.length hE
    rw [List.length_append] at hol
    refine bcd (fun hlt => ?_) (fun hge => ?_)
    · have hlt : j < y.C.Xs.length := by omega
      obtain ⟨x, hx⟩ := get_of_lt (l := y.C.Xs) (j := j) hlt
      obtain ⟨p, hp⟩ := get_of_lt (l := y.Gts) (j := j) (by rw [hw.gts]; exact hlt)
      have hdec := dec_lt hlt
      rw [drop_get hx, hits3] at hE
      have fin : ∀ w : Bool, (w = true ↔ (y.there x > 0 ∧ y.shut (j : Int) = false)) → DCalls Tryz.prog n_yard_Yard_Hits_1 [bA w, iA 3, iA x, .one (pO oid)] s2 fun r s4 => r = .tup [] ∧
          ((∃ (j' : Nat) (out : List Ht), w64 ((j : Int) + 1) = j' ∧ j' ≤ y.C.Xs.length ∧ HtIn s s4 oid (hits1 y y.C.Secs 0 ++ hits2 y y.C.Secs 0 ++ out) ∧ out ++ hits3 y (y.C.Xs.drop j') j' = hits3 y y.C.Xs 0) ∧ y.C.Xs.length - (w64 ((j : Int) + 1)).toNat < y.C.Xs.length - (j : Int).toNat) := by
        intro w hwc
        refine (yard_Hits_1_ok ho (by simp; omega) w 3 x).mono ?_
        rintro r s4 ⟨rfl, ho4⟩
        rw [w64_succ (by omega)]
        rw [List.append_assoc] at ho4
        refine ⟨rfl, ⟨j + 1, _, rfl, hlt, ho4, ?_⟩, hdec⟩
        rw [← hE, List.append_assoc, show ((j : Int) + 1) = ((j + 1 : Nat) : Int) by omega]
        congr 2
        by_cases hc : w = true
        · rw [if_pos hc, if_pos (hwc.1 hc)]
        · rw [if_neg hc, if_neg (fun g => hc (hwc.2 g))]
      refine (h.cfg s2).xs.load (map_get hx) c_int rfl ⟨x, rfl, ((hYs ho.ext).there hw (by omega) x).use ⟨_, rfl, bcd (fun ht => ((hYs ho.ext).shut hw hp).use ⟨_, rfl, _, _, _, _, _, rfl, rfl, rfl, fin _ ?_⟩) (fun ht => ⟨_, _, _, _, _, rfl, rfl, rfl, fin false ⟨fun e => (by cases e), fun g => absurd g.1 ht⟩⟩)⟩⟩
      exact ⟨fun g => ⟨ht, by simpa using g⟩, fun g => by simpa using g.2⟩
    have e : j = y.C.Xs.length := by omega
    subst e
    rw [List.drop_length, hits3, List.append_nil] at hE
    subst hE
    clear hol hge hj
    have hT0 := (hYs ho.ext).trAt hw
    have hTl : ((L.tk.zip y.Trs).map trRow).length = y.Trs.length := by simp [h.tkl]
    refine ⟨trivial, _, _, _, rfl, _, box_row (hYs ho.ext).row, _, rfl, hT0.lenK ⟨fun n s' => ∃ (j : Nat) (out : List Ht), n = j ∧ j ≤ y.Trs.length ∧ HtIn s s' oid (hits1 y y.C.Secs 0 ++ hits2 y y.C.Secs 0 ++ hits3 y y.C.Xs 0 ++ out) ∧ out ++ hits4 (y.Trs.drop j) = hits4 y.Trs, fun n _ => y.Trs.length - n.toNat, ⟨0, [], rfl, by omega, by simpa using ho, rfl⟩, ?_⟩⟩
    clear ho s2 hT0
    rintro _ s2 ⟨j, out, rfl, hj, ho, hE⟩
    rw [hTl]
    have a4 := q4 y.Trs
    have hol := congrArg List.length hE
    rw [List.length_append] at hol
    refine bcd (fun hlt => ?_) (fun hge => ?_)
    · have hlt : j < y.Trs.length := by omega
      obtain ⟨t, ht⟩ := get_of_lt (l := y.Trs) (j := j) hlt
      obtain ⟨x, hx⟩ := get_of_lt (l := L.tk) (j := j) (by rw [h.tkl]; exact hlt)
      obtain ⟨hne, hts, _⟩ := hw.tr t (List.mem_of_getElem? ht)
      have hdec := dec_lt hlt
      have hz : ((L.tk.zip y.Trs).map trRow)[j]? = some [.osl x.1 0 t.Secs.length, iD t.Out] := by rw [List.getElem?_map, zip_get hx ht]; rfl
      have hae := (hYs ho.ext).tkAt hx ht (by omega)
      rw [drop_get ht, hits4] at hE
      obtain ⟨a, ha⟩ := get_of_lt (l := t.Secs) (j := 0) (by cases hsec : t.Secs with
        | nil => exact absurd hsec hne
        | cons => simp)
      have hhd : t.hd = a := by
        unfold Tr.hd
        rw [List.head?_eq_getElem?, ha]; rfl
      refine ((hYs ho.ext).trAt hw).load hz c_Train rfl ⟨_, t.Out, rfl, hae.load (j := 0) (map_get ha) c_int rfl ⟨a, rfl, _, _, _, _, _, rfl, rfl, rfl, (yard_Hits_1_ok ho (by simp; omega) (decide (t.Out < 0)) 4 a).mono ?_⟩⟩
      rintro r s4 ⟨rfl, ho4⟩
      rw [w64_succ (by omega)]
      rw [List.append_assoc] at ho4
      refine ⟨rfl, ⟨j + 1, _, rfl, hlt, ho4, ?_⟩, hdec⟩
      rw [← hE, List.append_assoc, hhd]
      congr 2
      by_cases hc : t.Out < 0
      · rw [if_pos hc, if_pos (decide_eq_true hc)]
      · rw [if_neg hc, if_neg (by simpa using hc)]
    have e : j = y.Trs.length := by omega
    subst e
    rw [List.drop_length, hits4, List.append_nil] at hE
    subst hE
    obtain ⟨hn, d, g1, g2⟩ := ho
    exact ⟨_, box_row g1, d, rfl, d, rfl, g2⟩
  refine key.ret ?_
  rintro r s' ⟨d', rfl, ho⟩
  exact own_fin ho (fun row hr x hx => by
    obtain ⟨w, _, rfl⟩ := List.mem_map.1 hr
    simp [Ht.enc] at hx
    rcases hx with rfl | rfl <;> exact .int _ _)
end
end Go.Proofs.YtaklhjodjbgmgaaGreat
end
section
set_option linter.unusedVariables false
set_option linter.unusedSimpArgs false
namespace Go.Proofs.YtaklhjodjbgmgaaGreat
open Go.Fw Go.Proofs Go.RowKit
variable {σ σ0 : Store}
theorem live_store {s : Store} {id n j : Nat} {t : TypeId} {rows : List (List D)} {row xs : List D} {off : Nat} {K : Store → Prop} (hs : s id = .live t rows) (hj : j < n) (hr : rows[j]? = some row) (ho : off + xs.length ≤ row.length)
    (hK : ∀ s', s' id = .live t (rows.set j (patch row off xs)) → (∀ i, i ≠ id → s' i = s i) → K s') : storeEl xs s (.osl id 0 n) j off K :=
  ⟨id, 0, n, t, rows, row, rfl, hj, hs, by rw [Nat.zero_add]; exact hr, ho, by rw [Nat.zero_add]; exact hK _ (Store.set_same _ _ _) fun i hi => Store.set_ne _ _ hi⟩
theorem set_get {α : Type} {l : List α} {j : Nat} {x : α} (h : l[j]? = some x) : l.set j x = l := by
  obtain ⟨h1, rfl⟩ := List.getElem?_eq_some_iff.1 h
  exact List.set_getElem_self h1
theorem map_set' {α β : Type} (f : α → β) (l : List α) (j : Nat) (x : α) : (l.set j x).map f = (l.map f).set j (f x) := List.map_set ..
theorem pre_set {α : Type} {l l' : List α} {j : Nat} {x : α} (hl : l'.length = l.length) (hx : l'[j]? = some x) : (l'.take j ++ l.drop j).set j x = l'.take (j + 1) ++ l.drop (j + 1) := by
  have hj := (List.getElem?_eq_some_iff.1 hx).1
  obtain ⟨z, hz⟩ := get_of_lt (l := l) (j := j) (by omega)
  rw [List.set_append_right _ _ (by simp; omega), List.length_take, Nat.min_eq_left (by omega), Nat.sub_self, drop_get hz, List.set_cons_zero, List.take_add_one, hx, Option.toList_some, List.append_assoc]
  rfl
theorem pre_get {α : Type} {l l' : List α} {j : Nat} (hl : l'.length = l.length) (hj : j < l.length) : (l'.take j ++ l.drop j)[j]? = l[j]? := by
  rw [List.getElem?_append_right (by simp; omega), List.getElem?_drop, List.length_take, Nat.min_eq_left (by omega), Nat.sub_self]; rfl
section
variable {s : Store} {id : Nat} {L : YL} {y : Yd} {fr : List (Nat × SO)} {N : Nat}
def ydRest (L : YL) (y : Yd) (fr : List (Nat × SO)) : List (Nat × SO) := (L.ps.zip y.Psts).map postE ++ ((L.ps.zip y.Psts).map recE ++ (trE L y ++ ((L.tk.zip y.Trs).map tkE ++ fr)))
theorem YdIn.putP (h : YdIn s id L y fr) {l : List Th} (hl : l.length = y.Pts.length) {s' : Store} (hs : s' L.p = .live t_yard_thing (l.map Th.enc)) (ho : Keep L.p s s') : YdIn s' id L { y with Pts := l } fr := by
  have hp := Heap.put (A := []) (X := ydBase id L y) (B := ydRest L y fr) (k := 2) h.heap rfl hs (by intro e; cases e) ho
  refine ⟨?_, h.cfg, h.keys, h.flt, h.psl, h.sh, h.tkl, h.trn⟩
  have e : ydHeap id L { y with Pts := l } fr = [] ++ (ydBase id L y).set 2 (L.p, .live t_yard_thing (l.map Th.enc)) ++ ydRest L y fr := by
    unfold ydHeap ydBase ydRow; simp only [hl]; rfl
  rw [e]; exact hp
theorem YdIn.putG (h : YdIn s id L y fr) {l : List Th} (hl : l.length = y.Gts.length) {s' : Store} (hs : s' L.g = .live t_yard_thing (l.map Th.enc)) (ho : Keep L.g s s') : YdIn s' id L { y with Gts := l } fr := by
  have hp := Heap.put (A := []) (X := ydBase id L y) (B := ydRest L y fr) (k := 3) h.heap rfl hs (by intro e; cases e) ho
  refine ⟨?_, h.cfg, h.keys, h.flt, h.psl, h.sh, h.tkl, h.trn⟩
  have e : ydHeap id L { y with Gts := l } fr = [] ++ (ydBase id L y).set 3 (L.g, .live t_yard_thing (l.map Th.enc)) ++ ydRest L y fr := by
    unfold ydHeap ydBase ydRow; simp only [hl]; rfl
  rw [e]; exact hp
theorem YdIn.putL (h : YdIn s id L y fr) {l : List Lp} (hl : l.length = y.Lps.length) {s' : Store} (hs : s' L.l = .live t_yard_lamp (l.map Lp.enc)) (ho : Keep L.l s s') : YdIn s' id L { y with Lps := l } fr := by
  have hp := Heap.put (A := []) (X := ydBase id L y) (B := ydRest L y fr) (k := 4) h.heap rfl hs (by intro e; cases e) ho
  refine ⟨?_, h.cfg, h.keys, h.flt, h.psl, h.sh, h.tkl, h.trn⟩
  have e : ydHeap id L { y with Lps := l } fr = [] ++ (ydBase id L y).set 4 (L.l, .live t_yard_lamp (l.map Lp.enc)) ++ ydRest L y fr := by
    unfold ydHeap ydBase ydRow; simp only [hl]; rfl
  rw [e]; exact hp
theorem YdIn.putNow (h : YdIn s id L y fr) {n : Int} {s' : Store} (hs : s' id = .live t_yard_Yard [ydRow L { y with Now := n }]) (ho : Keep id s s') : YdIn s' id L { y with Now := n } fr := by
  have hp := Heap.put (A := []) (X := ydBase id L y) (B := ydRest L y fr) (k := 0) h.heap rfl hs (by intro e; cases e) ho
  exact ⟨hp, h.cfg, h.keys, h.flt, h.psl, h.sh, h.tkl, h.trn⟩
def fltPre (id : Nat) (F : Int × Int → Bool) (az : List A) (s : Store) : Prop := ∃ k n : Int, az = [.one (pO id), iA k, iA n] ∧ ∃ (row : List D) (mp clk : Nat) (es : List Ent), s id = .live t_yard_Yard [row] ∧ row[0]? = some (.omap mp) ∧ s mp = .mp clk es ∧ keysOk Tryz.prog t_Hit es ∧ ∀ k, (findM (encH k) es).getD (bA false) = bA (F k)
def fltPost (id : Nat) (F : Int × Int → Bool) (az : List A) (s : Store) (r : RV) (s' : Store) : Prop := s' = s ∧ ∃ k n : Int, az = [.one (pO id), iA k, iA n] ∧ r = .a (bA (F (k, n)))
theorem fault_spec (id : Nat) (F : Int × Int → Bool) : SpecOk Tryz.prog n_yard_faults_fault (fltPre id F) (fltPost id F) := by
  refine ⟨?_, ?_, ?_, ?_, ?_⟩
  · rintro az s ⟨k, n, rfl, row, mp, clk, es, h1, h2, h3, h4, h5⟩
    have h2' : row = .omap mp :: row.drop 1 := by
      cases row with
      | nil => cases h2
      | cons a r => simp at h2; subst h2; rfl
    refine W_yard_faults_fault (pO id) k n s _ ⟨trivial, _, _, _, rfl, _, box_row h1, .omap mp, by rw [h2']; rfl, findM (encH (k, n)) es, ⟨by kernel_rfl, .inr ⟨mp, clk, es, rfl, h3, h4, rfl⟩⟩, F (k, n), h5 (k, n), rfl, k, n, rfl, rfl⟩
  · rintro az s ⟨k, n, rfl, _⟩ hf
    exact ⟨.a (bA (F (k, n))), s, ⟨rfl, k, n, rfl, rfl⟩, hf⟩
  · rintro az s r s' ⟨rfl, _⟩ hf; exact hf
  · rintro az s i so h0 hso ⟨k, n, rfl, row, mp, clk, es, h1, h2, h3, h4, h5⟩
    have g1 : (s.set i so) id = .live t_yard_Yard [row] := live_ext h1 (Ext.new h0 so)
    have g3 : (s.set i so) mp = .mp clk es := (Ext.new h0 so mp (by rw [h3]; intro e; cases e)).trans h3
    refine ⟨⟨k, n, rfl, row, mp, clk, es, g1, h2, g3, h4, h5⟩, ?_⟩
    rintro r s' ⟨rfl, hr⟩
    exact ⟨s, ⟨rfl, hr⟩, h0, rfl⟩
  · rintro az s r s' _ ⟨rfl, _⟩ i hi
    rfl
theorem YdIn.fltp (h : YdIn s id L y fr) (k n : Int) : fltPre id y.Flt [.one (pO id), iA k, iA n] s := ⟨k, n, rfl, _, L.mp, L.clk, L.es, h.row, rfl, h.mp, h.keys, h.flt⟩
theorem yard_thing_tick_ok {i n j : Nat} {l : List Th} {x : Th} (h : s i = .live t_yard_thing (l.map Th.enc)) (hn : n = l.length) (hsz : l.length ≤ 2 ^ 20) (hx : l[j]? = some x) (hl : 0 ≤ x.Left ∧ x.Left ≤ 2) (stuck : Bool) :
    DCalls Tryz.prog n_yard_thing_tick [.one (.el (.osl i 0 n) j 0), bA stuck] s fun r s' => r = .tup [] ∧ s' i = .live t_yard_thing ((l.set j (x.tick stuck)).map Th.enc) ∧ ∀ k, k ≠ i → s' k = s k := by
  have hj := (List.getElem?_eq_some_iff.1 hx).1
  have hA : At Tryz.prog s t_yard_thing (.osl i 0 n) (l.map Th.enc) := by subst hn; exact At.fresh h (by simp; omega) (by simp)
  have same : x.tick stuck = x → (RV.tup [] = .tup [] ∧ s i = .live t_yard_thing ((l.set j (x.tick stuck)).map Th.enc) ∧ ∀ k, k ≠ i → s k = s k) := fun e => ⟨rfl, by rw [e, set_get hx]; exact h, fun _ _ => rfl⟩
  refine W_yard_thing_tick _ stuck s _ ((yard_moves_ok hA hx).use ⟨_, rfl, bcnot (fun hm => ?_) (fun hm => bc (fun hst => ?_) (fun hst => ⟨trivial, _, _, _, rfl, _, hA.row (map_get hx), x.Left, rfl, trivial, _, _, _, rfl, live_store h (by omega) (map_get hx) (by simp [Th.enc]) fun s1 h1 o1 => ?_⟩))⟩)
  · exact same (by unfold Th.tick; rw [if_neg]; rintro ⟨g, _⟩; exact of_decide_eq_false hm g)
  · exact same (by unfold Th.tick; rw [if_neg]; rintro ⟨_, g⟩; rw [g] at hst; cases hst)
  have hm := of_decide_eq_true hm
  rw [w64_id (by omega) (by omega)] at h1
  have h1 : s1 i = .live t_yard_thing ((l.set j ⟨x.At, x.To, x.Left - 1⟩).map Th.enc) := by rw [h1, map_set']; rfl
  have hx1 : (l.set j (⟨x.At, x.To, x.Left - 1⟩ : Th))[j]? = some ⟨x.At, x.To, x.Left - 1⟩ := List.getElem?_set_self hj
  have hA1 : At Tryz.prog s1 t_yard_thing (.osl i 0 n) ((l.set j ⟨x.At, x.To, x.Left - 1⟩).map Th.enc) := by subst hn; exact At.fresh h1 (by simp; omega) (by simp)
  have htick : x.tick stuck = if x.Left - 1 > 0 then { x with Left := x.Left - 1 } else ⟨x.To, x.To, x.Left - 1⟩ := by
    unfold Th.tick; rw [if_pos ⟨hm, by simpa using hst⟩]
  refine (yard_moves_ok hA1 hx1).use ⟨_, rfl, bcnot (fun hm2 => ?_) (fun hm2 => ?_)⟩
  · have hm2 : ¬ x.Left - 1 > 0 := of_decide_eq_false hm2
    refine ⟨trivial, _, _, _, rfl, _, hA1.row (map_get hx1), x.To, rfl, trivial, _, _, _, rfl, live_store h1 (by omega) (map_get hx1) (by simp [Th.enc]) fun s2 h2 o2 => ⟨rfl, ?_, fun k hk => (o2 k hk).trans (o1 k hk)⟩⟩
    rw [h2, htick, if_neg hm2, map_set' _ l j ⟨x.At, x.To, x.Left - 1⟩, List.set_set, map_set']; rfl
  · have hm2 : x.Left - 1 > 0 := of_decide_eq_true hm2
    refine ⟨rfl, ?_, o1⟩
    rw [h1, htick, if_pos hm2]
theorem yard_thing_order_ok {i n j : Nat} {l : List Th} {x : Th} (h : s i = .live t_yard_thing (l.map Th.enc)) (hn : n = l.length) (hsz : l.length ≤ 2 ^ 20) (hx : l[j]? = some x) (to : Int) :
    DCalls Tryz.prog n_yard_thing_order [.one (.el (.osl i 0 n) j 0), iA to] s fun r s' => r = .tup [] ∧ s' i = .live t_yard_thing ((l.set j (x.order to)).map Th.enc) ∧ ∀ k, k ≠ i → s' k = s k := by
  have hj := (List.getElem?_eq_some_iff.1 hx).1
  have hA : At Tryz.prog s t_yard_thing (.osl i 0 n) (l.map Th.enc) := by subst hn; exact At.fresh h (by simp; omega) (by simp)
  refine W_yard_thing_order _ to s _ ⟨trivial, _, _, _, rfl, _, hA.row (map_get hx), x.To, rfl, bcn (fun hne => ⟨trivial, _, _, _, rfl, live_store h (by omega) (map_get hx) (by simp [Th.enc]) fun s1 h1 o1 => ?_⟩) (fun he => ⟨rfl, ?_, fun _ _ => rfl⟩)⟩
  · have hr1 : ((l.map Th.enc).set j (patch x.enc (0 + 1) [iD to]))[j]? = some (patch x.enc (0 + 1) [iD to]) := List.getElem?_set_self (by simpa using hj)
    refine ⟨trivial, _, _, _, rfl, live_store h1 (by omega) hr1 (by simp [Th.enc, patch]) fun s2 h2 o2 => ⟨rfl, ?_, fun k hk => (o2 k hk).trans (o1 k hk)⟩⟩
    rw [h2, List.set_set, map_set']
    unfold Th.order
    rw [if_pos hne]; rfl
  · unfold Th.order
    rw [if_neg (by simpa using he), set_get hx]; exact h
theorem tickL_len (f : Int → Bool) : ∀ (l : List Th) (i : Int), (tickL f l i).length = l.length
  | [], _ => rfl
  | x :: r, i => by simp [tickL, tickL_len f r]
theorem tickL_get (f : Int → Bool) : ∀ (l : List Th) (i : Int) (j : Nat), (tickL f l i)[j]? = (l[j]?).map fun x => x.tick (f (i + j))
  | [], _, _ => rfl
  | x :: r, i, 0 => by simp [tickL]
  | x :: r, i, j + 1 => by
    rw [tickL, List.getElem?_cons_succ, List.getElem?_cons_succ, tickL_get f r, show i + 1 + (j : Int) = i + ((j + 1 : Nat) : Int) by omega]
theorem lookL_len (f : Int → Int) (n : Int) : ∀ (l : List Lp) (i : Int), (lookL f n l i).length = l.length
  | [], _ => rfl
  | x :: r, i => by simp [lookL, lookL_len f n r]
theorem lookL_get (f : Int → Int) (n : Int) : ∀ (l : List Lp) (i : Int) (j : Nat), (lookL f n l i)[j]? = (l[j]?).map fun x => if f (i + j) ≠ 0 then { x with Last := n } else x
  | [], _, _ => rfl
  | x :: r, i, 0 => by simp [lookL]
  | x :: r, i, j + 1 => by
    rw [lookL, List.getElem?_cons_succ, List.getElem?_cons_succ, lookL_get f n r, show i + 1 + (j : Int) = i + ((j + 1 : Nat) : Int) by omega]
theorem YdIn.tick (h : YdIn s id L y fr) (hw : Ywf y N) (now : Int) : DCalls Tryz.prog n_yard_Yard_Tick [.one (pO id), iA now] s fun r s' => r = .tup [] ∧ YdIn s' id L (y.tick now) fr := by
  have hcl := topo_len hw.chk
  have hpl := hw.pts
  have hgl := hw.gts
  have htick : y.tick now = if now ≤ y.Now then y else { y with Now := now, Pts := tickL (fun i => y.Flt (3, i)) y.Pts 0, Gts := tickL (fun i => y.Flt (6, i)) y.Gts 0 } := rfl
  refine W_yard_Yard_Tick (pO id) now s _ ⟨trivial, _, _, _, rfl, _, box_row h.row, y.Now, rfl, bcd (fun hle => ?_) (fun hgt => ⟨trivial, _, _, _, rfl, cell_store h.row (by simp [ydRow]) fun s1 h1 o1 => ?_⟩)⟩
  · rw [htick, if_pos hle]; exact ⟨rfl, h⟩
  rw [htick, if_neg hgt]
  have hy1 : YdIn s1 id L { y with Now := now } fr := h.putNow h1 (.of o1)
  generalize hP : tickL (fun i => y.Flt (3, i)) y.Pts 0 = P'
  generalize hG : tickL (fun i => y.Flt (6, i)) y.Gts 0 = G'
  have hPl : P'.length = y.Pts.length := by rw [← hP]; exact tickL_len _ _ _
  have hGl : G'.length = y.Gts.length := by rw [← hG]; exact tickL_len _ _ _
  have hw1 : Ywf { y with Now := y.Now } N := hw
  refine ⟨trivial, _, _, _, rfl, _, box_row hy1.row, _, rfl, ?_⟩
  have hA1 : At Tryz.prog s1 t_yard_thing (.osl L.p 0 y.Pts.length) (y.Pts.map Th.enc) := At.fresh hy1.pts (by simp; omega) (by simp)
  refine hA1.lenK ⟨fun n s' => ∃ j : Nat, n = j ∧ j ≤ y.Pts.length ∧ YdIn s' id L { y with Now := now, Pts := P'.take j ++ y.Pts.drop j } fr, fun n _ => y.Pts.length - n.toNat, ⟨0, rfl, by omega, by simpa using hy1⟩, ?_⟩
  rintro _ s2 ⟨j, rfl, hj, hy⟩
  rw [List.length_map]
  have hml : (P'.take j ++ y.Pts.drop j).length = y.Pts.length := by simp; omega
  refine bcd (fun hlt => ?_) (fun hge => ?_)
  · have hlt : j < y.Pts.length := by omega
    obtain ⟨x, hx⟩ := get_of_lt (l := y.Pts) (j := j) hlt
    have hxm : (P'.take j ++ y.Pts.drop j)[j]? = some x := (pre_get hPl hlt).trans hx
    have hA : At Tryz.prog s2 t_yard_thing (.osl L.p 0 (P'.take j ++ y.Pts.drop j).length) ((P'.take j ++ y.Pts.drop j).map Th.enc) := At.fresh hy.pts (by simp; omega) (by simp)
    refine ⟨fltPre id y.Flt, fltPost id y.Flt, fault_spec id y.Flt, trivial, _, _, _, rfl, _, box_row hy.row, _, rfl, hA.idxK c_yard_thing rfl (by rw [List.length_map, hml]; exact hlt) ⟨trivial, _, _, _, rfl, hy.fltp 3 j, ?_⟩⟩
    rintro r s3 ⟨rfl, k, n, he, rfl⟩
    have e1 : k = 3 ∧ n = (j : Int) := by simp at he; exact ⟨he.1.symm, he.2.symm⟩
    obtain ⟨rfl, rfl⟩ := e1
    refine ⟨_, rfl, ?_⟩
    rw [Int.toNat_natCast]
    refine (yard_thing_tick_ok (l := P'.take j ++ y.Pts.drop j) hy.pts rfl (by omega) hxm (hw.left x (List.mem_append_left _ (List.mem_of_getElem? hx))) (y.Flt (3, (j : Int)))).mono ?_
    rintro r s4 ⟨rfl, h4, o4⟩
    rw [w64_succ (by omega)]
    refine ⟨rfl, ⟨j + 1, rfl, hlt, ?_⟩, dec_lt hlt⟩
    have hy4 := hy.putP (l := (P'.take j ++ y.Pts.drop j).set j (x.tick (y.Flt (3, (j : Int))))) (by simp) h4 (.of o4)
    rw [pre_set hPl (by rw [← hP, tickL_get, hx, Option.map_some, Int.zero_add])] at hy4
    exact hy4
  have e : j = y.Pts.length := by omega
  subst e
  rw [← hPl, List.take_length, hPl, List.drop_length, List.append_nil] at hy
  clear hml hge hj hA1 hy1 h1 o1
  have hA1 : At Tryz.prog s2 t_yard_thing (.osl L.g 0 y.Gts.length) (y.Gts.map Th.enc) := At.fresh hy.gts (by simp; omega) (by simp)
  refine ⟨trivial, _, _, _, rfl, _, box_row hy.row, _, rfl, hA1.lenK ⟨fun n s' => ∃ j : Nat, n = j ∧ j ≤ y.Gts.length ∧ YdIn s' id L { y with Now := now, Pts := P', Gts := G'.take j ++ y.Gts.drop j } fr, fun n _ => y.Gts.length - n.toNat, ⟨0, rfl, by omega, by simpa using hy⟩, ?_⟩⟩
  clear hA1 hy s2 s1
  rintro _ s2 ⟨j, rfl, hj, hy⟩
  rw [List.length_map]
  have hml : (G'.take j ++ y.Gts.drop j).length = y.Gts.length := by simp; omega
  refine bcd (fun hlt => ?_) (fun hge => ?_)
  · have hlt : j < y.Gts.length := by omega
    obtain ⟨x, hx⟩ := get_of_lt (l := y.Gts) (j := j) hlt
    have hxm : (G'.take j ++ y.Gts.drop j)[j]? = some x := (pre_get hGl hlt).trans hx
    have hA : At Tryz.prog s2 t_yard_thing (.osl L.g 0 (G'.take j ++ y.Gts.drop j).length) ((G'.take j ++ y.Gts.drop j).map Th.enc) := At.fresh hy.gts (by simp; omega) (by simp)
    refine ⟨fltPre id y.Flt, fltPost id y.Flt, fault_spec id y.Flt, trivial, _, _, _, rfl, _, box_row hy.row, _, rfl, hA.idxK c_yard_thing rfl (by rw [List.length_map, hml]; exact hlt) ⟨trivial, _, _, _, rfl, hy.fltp 6 j, ?_⟩⟩
    rintro r s3 ⟨rfl, k, n, he, rfl⟩
    have e1 : k = 6 ∧ n = (j : Int) := by simp at he; exact ⟨he.1.symm, he.2.symm⟩
    obtain ⟨rfl, rfl⟩ := e1
    refine ⟨_, rfl, ?_⟩
    rw [Int.toNat_natCast]
    refine (yard_thing_tick_ok (l := G'.take j ++ y.Gts.drop j) hy.gts rfl (by omega) hxm (hw.left x (List.mem_append_right _ (List.mem_of_getElem? hx))) (y.Flt (6, (j : Int)))).mono ?_
    rintro r s4 ⟨rfl, h4, o4⟩
    rw [w64_succ (by omega)]
    refine ⟨rfl, ⟨j + 1, rfl, hlt, ?_⟩, dec_lt hlt⟩
    have hy4 := hy.putG (l := (G'.take j ++ y.Gts.drop j).set j (x.tick (y.Flt (6, (j : Int))))) (by simp) h4 (.of o4)
    rw [pre_set hGl (by rw [← hG, tickL_get, hx, Option.map_some, Int.zero_add])] at hy4
    exact hy4
  have e : j = y.Gts.length := by omega
  subst e
  rw [← hGl, List.take_length, hGl, List.drop_length, List.append_nil] at hy
  exact ⟨rfl, hy⟩
theorem shows_asp {l : List Lp} (hl : ∀ j : Nat, (l[j]?).map Lp.Asp = (y.Lps[j]?).map Lp.Asp) (x : Int) : ({ y with Lps := l } : Yd).shows x = y.shows x := by
  have hg : (geti l x).map Lp.Asp = (geti y.Lps x).map Lp.Asp := by
    by_cases hx : 0 ≤ x
    · obtain ⟨j, rfl⟩ := Int.eq_ofNat_of_zero_le hx
      rw [geti_nat, geti_nat]; exact hl j
    · rw [geti_neg (by omega), geti_neg (by omega)]
  have hg : (geti l x).map Lp.Asp = (geti y.Lps x).map Lp.Asp := hg
  unfold Yd.shows
  show (match geti l x, geti y.C.Sigs x with | some l, some g => _ | _, _ => _) = _
  cases h1 : geti l x with
  | none =>
    cases h2 : geti y.Lps x with
    | none => rfl
    | some a => rw [h1, h2] at hg; cases hg
  | some b =>
    cases h2 : geti y.Lps x with
    | none => rw [h1, h2] at hg; cases hg
    | some a =>
      rw [h1, h2] at hg
      have hg : some b.Asp = some a.Asp := hg
      injection hg with hg
      cases geti y.C.Sigs x with
      | none => rfl
      | some g => simp only [hg]
theorem YdIn.look (h : YdIn s id L y fr) (hw : Ywf y N) : DCalls Tryz.prog n_yard_Yard_Look [.one (pO id)] s fun r s' => r = .tup [] ∧ YdIn s' id L y.look fr := by
  have hcl := topo_len hw.chk
  have hll := hw.lps
  have hlook : y.look = { y with Lps := lookL y.shows y.Now y.Lps 0 } := rfl
  rw [hlook]
  generalize hP : lookL y.shows y.Now y.Lps 0 = P'
  have hPl : P'.length = y.Lps.length := by rw [← hP]; exact lookL_len _ _ _ _
  refine W_yard_Yard_Look (pO id) s _ ⟨trivial, _, _, _, rfl, _, box_row h.row, _, rfl, ?_⟩
  refine (h.lpsAt hw).lenK ⟨fun n s' => ∃ j : Nat, n = j ∧ j ≤ y.Lps.length ∧ YdIn s' id L { y with Lps := P'.take j ++ y.Lps.drop j } fr, fun n _ => y.Lps.length - n.toNat, ⟨0, rfl, by omega, by simpa using h⟩, ?_⟩
  rintro _ s2 ⟨j, rfl, hj, hy⟩
  rw [List.length_map]
  have hml : (P'.take j ++ y.Lps.drop j).length = y.Lps.length := by simp; omega
  have hPm : ∀ (k : Nat) p, P'[k]? = some p → ∃ x, y.Lps[k]? = some x ∧ p.Asp = x.Asp ∧ (p.Last = x.Last ∨ p.Last = y.Now) := fun k p hp => by
    rw [← hP, lookL_get] at hp
    cases hx : y.Lps[k]? with
    | none => rw [hx] at hp; cases hp
    | some x =>
      rw [hx] at hp
      have hp : some (if y.shows (0 + k) ≠ 0 then { x with Last := y.Now } else x) = some p := hp
      injection hp with hp
      subst hp
      refine ⟨x, rfl, ?_, ?_⟩
      · split <;> rfl
      · split
        · exact .inr rfl
        · exact .inl rfl
  have hmix : ∀ (k : Nat) p, (P'.take j ++ y.Lps.drop j)[k]? = some p → ∃ x, y.Lps[k]? = some x ∧ p.Asp = x.Asp ∧ (p.Last = x.Last ∨ p.Last = y.Now) := fun k p hp => by
    by_cases hk : k < j
    · rw [List.getElem?_append_left (by simp; omega), List.getElem?_take, if_pos hk] at hp
      exact hPm k p hp
    · rw [List.getElem?_append_right (by simp; omega), List.getElem?_drop, List.length_take, Nat.min_eq_left (by omega), show j + (k - j) = k by omega] at hp
      exact ⟨p, hp, rfl, .inl rfl⟩
  have hwj : Ywf { y with Lps := P'.take j ++ y.Lps.drop j } N := by
    refine ⟨hw.chk, hw.pts, hw.gts, hml.trans hw.lps, hw.psts, hw.pst, hw.trs, hw.tr, hw.now, fun l hl => ?_, hw.left⟩
    obtain ⟨k, hk⟩ := List.mem_iff_getElem?.1 hl
    obtain ⟨x, hx, _, h2⟩ := hmix k l hk
    have := hw.last x (List.mem_of_getElem? hx)
    have := hw.now
    omega
  have hsh : ({ y with Lps := P'.take j ++ y.Lps.drop j } : Yd).shows (j : Int) = y.shows (j : Int) := shows_asp (fun k => by
    cases hk : (P'.take j ++ y.Lps.drop j)[k]? with
    | none =>
      have : y.Lps[k]? = none := by rw [List.getElem?_eq_none_iff] at hk ⊢; omega
      rw [this]
    | some p =>
      obtain ⟨x, hx, h1, _⟩ := hmix k p hk
      rw [hx]; simp [h1]) _
  refine bcd (fun hlt => ?_) (fun hge => ?_)
  · have hlt : j < y.Lps.length := by omega
    obtain ⟨x, hx⟩ := get_of_lt (l := y.Lps) (j := j) hlt
    have hxm : (P'.take j ++ y.Lps.drop j)[j]? = some x := (pre_get hPl hlt).trans hx
    have hPj : P'[j]? = some (if y.shows (j : Int) ≠ 0 then { x with Last := y.Now } else x) := by rw [← hP, lookL_get, hx, Option.map_some, Int.zero_add]
    have hA : At Tryz.prog s2 t_yard_lamp (.osl L.l 0 (P'.take j ++ y.Lps.drop j).length) ((P'.take j ++ y.Lps.drop j).map Lp.enc) := At.fresh hy.lps (by simp; omega) (by simp)
    have hset := pre_set (l := y.Lps) hPl hPj
    have hdec := dec_lt hlt
    refine (hy.shows hwj j).use ⟨_, rfl, ?_⟩
    rw [hsh, w64_succ (by omega)]
    refine bcn (fun hne => ⟨trivial, _, _, _, rfl, _, box_row hy.row, _, rfl, trivial, _, _, _, rfl, _, box_row hy.row, y.Now, rfl, hA.idxK c_yard_lamp rfl (by rw [List.length_map, hml]; exact hlt) ?_⟩) (fun he => ?_)
    · rw [Int.toNat_natCast]
      refine live_store hy.lps (by rw [hml]; exact hlt) (map_get hxm) (by simp [Lp.enc]) fun s3 h3 o3 => ⟨⟨j + 1, rfl, hlt, ?_⟩, hdec⟩
      rw [if_pos hne] at hset
      rw [← hset]
      exact hy.putL (by simp) (by rw [h3, map_set']; rfl) (.of o3)
    · rw [if_neg (by simpa using he), set_get hxm] at hset
      rw [hset] at hy
      exact ⟨⟨j + 1, rfl, hlt, hy⟩, hdec⟩
  have e : j = y.Lps.length := by omega
  subst e
  rw [← hPl, List.take_length, hPl, List.drop_length, List.append_nil] at hy
  exact ⟨rfl, hy⟩
end
end Go.Proofs.YtaklhjodjbgmgaaGreat
end
section
set_option linter.unusedVariables false
set_option linter.unusedSimpArgs false
namespace Go.Fw
theorem modify_get {α : Type} {l : List α} {i : Nat} {x : α} (h : l[i]? = some x) (f : α → α) : l.modify i f = l.set i (f x) := by
  refine List.ext_getElem? fun j => ?_
  rw [List.getElem?_modify]
  by_cases hj : i = j
  · subst hj
    rw [List.getElem?_set_self (List.getElem?_eq_some_iff.1 h).1, h]; simp
  · rw [List.getElem?_set_ne hj]
    cases l[j]? <;> simp [hj]
theorem modify_mem {α : Type} {l : List α} {i : Nat} {f : α → α} {x : α} (h : x ∈ l.modify i f) : ∃ z ∈ l, x = z ∨ x = f z := by
  obtain ⟨k, hk⟩ := List.mem_iff_getElem?.1 h
  rw [List.getElem?_modify] at hk
  cases hz : l[k]? with
  | none => rw [hz] at hk; cases hk
  | some z =>
    rw [hz] at hk
    have hk : some (if i = k then f z else z) = some x := hk
    injection hk with hk
    refine ⟨z, List.mem_of_getElem? hz, ?_⟩
    split at hk
    · exact .inr hk.symm
    · exact .inl hk.symm
theorem orderL_cons (i o : Int) (is os : List Int) (l : List Th) : orderL (i :: is) (o :: os) l = orderL is os (l.modify i.toNat fun x => x.order o) := by rw [orderL]
theorem orderP_cons (i o : Int) (is os : List Int) (l : List Th) : orderP (i :: is) (o :: os) l = orderP is os (if o ≠ 0 then l.modify i.toNat fun x => x.order o else l) := by rw [orderP]
theorem aspL_cons (i o : Int) (is os : List Int) (l : List Lp) : aspL (i :: is) (o :: os) l = aspL is os (l.modify i.toNat fun x => { x with Asp := o }) := by rw [aspL]
theorem orderL_nil (os : List Int) (l : List Th) : orderL [] os l = l := by cases os <;> rfl
theorem orderP_nil (os : List Int) (l : List Th) : orderP [] os l = l := by cases os <;> rfl
theorem aspL_nil (os : List Int) (l : List Lp) : aspL [] os l = l := by cases os <;> rfl
theorem orderL_all {p : Th → Prop} (hp : ∀ x o, p x → p (x.order o)) : ∀ (is os : List Int) (l : List Th), (∀ x ∈ l, p x) → (∀ x ∈ orderL is os l, p x) ∧ (orderL is os l).length = l.length
  | [], os, l, h => by rw [orderL_nil]; exact ⟨h, rfl⟩
  | i :: is, [], l, h => ⟨h, rfl⟩
  | i :: is, o :: os, l, h => by
    rw [orderL_cons]
    have := orderL_all hp is os (l.modify i.toNat fun x => x.order o) (fun x hx => by
      obtain ⟨z, hz, rfl | rfl⟩ := modify_mem hx
      · exact h _ hz
      · exact hp _ _ (h _ hz))
    exact ⟨this.1, by rw [this.2, List.length_modify]⟩
theorem orderP_all {p : Th → Prop} (hp : ∀ x o, p x → p (x.order o)) : ∀ (is os : List Int) (l : List Th), (∀ x ∈ l, p x) → (∀ x ∈ orderP is os l, p x) ∧ (orderP is os l).length = l.length
  | [], os, l, h => by rw [orderP_nil]; exact ⟨h, rfl⟩
  | i :: is, [], l, h => ⟨h, rfl⟩
  | i :: is, o :: os, l, h => by
    rw [orderP_cons]
    have := orderP_all hp is os (if o ≠ 0 then l.modify i.toNat fun x => x.order o else l) (fun x hx => by
      split at hx
      · obtain ⟨z, hz, rfl | rfl⟩ := modify_mem hx
        · exact h _ hz
        · exact hp _ _ (h _ hz)
      · exact h x hx)
    refine ⟨this.1, by rw [this.2]; split <;> simp⟩
theorem aspL_all {p : Lp → Prop} (hp : ∀ (x : Lp) o, p x → p { x with Asp := o }) : ∀ (is os : List Int) (l : List Lp), (∀ x ∈ l, p x) → (∀ x ∈ aspL is os l, p x) ∧ (aspL is os l).length = l.length
  | [], os, l, h => by rw [aspL_nil]; exact ⟨h, rfl⟩
  | i :: is, [], l, h => ⟨h, rfl⟩
  | i :: is, o :: os, l, h => by
    rw [aspL_cons]
    have := aspL_all hp is os (l.modify i.toNat fun x => { x with Asp := o }) (fun x hx => by
      obtain ⟨z, hz, rfl | rfl⟩ := modify_mem hx
      · exact h _ hz
      · exact hp _ _ (h _ hz))
    exact ⟨this.1, by rw [this.2, List.length_modify]⟩
theorem shPts_in (oc : Int) : ∀ (l : List Sec) (i : Int), ∀ x ∈ shPts oc l i, i ≤ x ∧ x < i + l.length
  | [], i, x, h => by cases h
  | s :: r, i, x, h => by
    rw [shPts] at h
    have ih := shPts_in oc r (i + 1) x
    simp only [List.length_cons]
    split at h
    · rcases List.mem_cons.1 h with rfl | h
      · omega
      · have := ih h; omega
    · have := ih h; omega
theorem shXs_in (c : Cf) (oc : Int) : ∀ (l : List Int) (i : Int), ∀ x ∈ shXs c oc l i, i ≤ x ∧ x < i + l.length
  | [], i, x, h => by cases h
  | s :: r, i, x, h => by
    rw [shXs] at h
    have ih := shXs_in c oc r (i + 1) x
    simp only [List.length_cons]
    split at h
    · rcases List.mem_cons.1 h with rfl | h
      · omega
      · have := ih h; omega
    · have := ih h; omega
theorem shSgs_in (c : Cf) (oc : Int) : ∀ (l : List Sg) (i : Int), ∀ x ∈ shSgs c oc l i, i ≤ x ∧ x < i + l.length
  | [], i, x, h => by cases h
  | s :: r, i, x, h => by
    rw [shSgs] at h
    have ih := shSgs_in c oc r (i + 1) x
    simp only [List.length_cons]
    split at h
    · rcases List.mem_cons.1 h with rfl | h
      · omega
      · have := ih h; omega
    · have := ih h; omega
theorem readO_len {h : Shp} {t : List UInt8} {o : Od} (hr : readO h t = some o) : o.Pos.length = h.Pts.length ∧ o.Asp.length = h.Sgs.length ∧ o.Shut.length = h.Xs.length := by
  unfold readO at hr
  split at hr
  · rename_i hc
    injection hr with hr
    subst hr
    have h3 := hc.2.2
    unfold Od.right at h3
    simp only [Bool.and_eq_true, decide_eq_true_eq] at h3
    exact h3.1.1.1
  · cases hr
theorem said_b (t : List UInt8) : (saidL t).b.length ≤ 1000 := by
  unfold saidL
  split
  · simp
  split
  · simp
  split
  · simp
  · rename_i h1 h2 h3
    show ((openL t).1.drop 7).length ≤ 1000
    rw [List.length_drop]; omega
theorem take_err {r : Rc} {n : Int} {t : List UInt8} (h : (r.take n t).2.2 ≠ 0) : (r.take n t).1 = r := by
  unfold Rc.take at h ⊢
  split
  · rfl
  split
  · rfl
  split
  · rfl
  split
  · rfl
  split
  · rfl
  · rename_i h1 h2 h3 h4 h5
    rw [if_neg h1, if_neg h2, if_neg h3, if_neg h4, if_neg h5] at h
    exact absurd rfl h
theorem take_ok {r : Rc} {n : Int} {t : List UInt8} (h : (r.take n t).2.2 = 0) : (r.take n t).1 = { r with Last := (saidL t).s } ∧ (r.take n t).2.1 = (saidL t).b := by
  unfold Rc.take at h ⊢
  split
  · rename_i h1; rw [if_pos h1] at h; exact absurd h h1
  split
  · rename_i h1 h2; rw [if_neg h1, if_pos h2] at h; cases h
  split
  · rename_i h1 h2 h3; rw [if_neg h1, if_neg h2, if_pos h3] at h; cases h
  split
  · rename_i h1 h2 h3 h4; rw [if_neg h1, if_neg h2, if_neg h3, if_pos h4] at h; cases h
  split
  · rename_i h1 h2 h3 h4 h5; rw [if_neg h1, if_neg h2, if_neg h3, if_neg h4, if_pos h5] at h; cases h
  · exact ⟨rfl, rfl⟩
end Go.Fw
end
section
set_option linter.unusedVariables false
set_option linter.unusedSimpArgs false
namespace Go.Proofs.YtaklhjodjbgmgaaGreat
open Go.Fw Go.Proofs Go.RowKit
variable {σ σ0 : Store}
theorem zip2 {α β : Type} (l : List α) (m : List β) (k : Nat) (a : α) (b : β) : (l.set k a).zip (m.set k b) = (l.zip m).set k (a, b) := by
  refine List.ext_getElem? fun j => ?_
  by_cases hj : j = k
  · subst hj
    by_cases h1 : j < l.length
    · by_cases h2 : j < m.length
      · rw [zip_get (List.getElem?_set_self h1) (List.getElem?_set_self h2), List.getElem?_set_self (by simp; omega)]
      · rw [List.getElem?_eq_none (by simp; omega), List.getElem?_eq_none (by simp; omega)]
    · rw [List.getElem?_eq_none (by simp; omega), List.getElem?_eq_none (by simp; omega)]
  · rw [List.getElem?_set_ne (Ne.symm hj)]
    simp only [List.zip_eq_zipWith, List.getElem?_zipWith, List.getElem?_set_ne (Ne.symm hj)]
section
variable {s : Store} {id : Nat} {L : YL} {y : Yd} {fr : List (Nat × SO)} {N : Nat}
theorem YdIn.putRcv (h : YdIn s id L y fr) {k : Nat} {pl : PL} {p : Pst} (hpl : L.ps[k]? = some pl) (hp : y.Psts[k]? = some p) {r : Rc} {lost num : Int} {s' : Store}
    (hs : s' pl.j = .live t_link_Receiver [[iD r.Last, iD lost, iD num, iD r.Peer, iD r.Age]]) (ho : Keep pl.j s s') :
    YdIn s' id { L with ps := L.ps.set k { pl with lost := lost, num := num } } { y with Psts := y.Psts.set k { p with R := r } } fr := by
  have hz := zip_get hpl hp
  have hk := (List.getElem?_eq_some_iff.1 hpl).1
  have hX : ((L.ps.zip y.Psts).map recE)[k]? = some (pl.j, .live t_link_Receiver [[iD p.R.Last, iD pl.lost, iD pl.num, iD p.R.Peer, iD p.R.Age]]) := by rw [List.getElem?_map, hz]; rfl
  have h0 : Heap s ((ydBase id L y ++ (L.ps.zip y.Psts).map postE) ++ (L.ps.zip y.Psts).map recE ++ (trE L y ++ ((L.tk.zip y.Trs).map tkE ++ fr))) := by
    have := h.heap; unfold ydHeap at this; simpa only [List.append_assoc] using this
  have hp' := Heap.put h0 hX hs (by intro e; cases e) ho
  have eb : ydBase id { L with ps := L.ps.set k { pl with lost := lost, num := num } } { y with Psts := y.Psts.set k { p with R := r } } = ydBase id L y := by
    unfold ydBase ydRow
    have e2 : (L.ps.set k { pl with lost := lost, num := num }).map (fun x => [pO x.i]) = L.ps.map (fun x => [pO x.i]) := by
      rw [map_set', set_get (by rw [List.getElem?_map, hpl]; rfl)]
    simp only [e2, List.length_set]; rfl
  refine ⟨?_, h.cfg, h.keys, h.flt, by simpa using h.psl, fun k' pl' p' a b => ?_, h.tkl, h.trn⟩
  · have e : ydHeap id { L with ps := L.ps.set k { pl with lost := lost, num := num } } { y with Psts := y.Psts.set k { p with R := r } } fr =
        (ydBase id L y ++ (L.ps.zip y.Psts).map postE) ++ ((L.ps.zip y.Psts).map recE).set k (pl.j, .live t_link_Receiver [[iD r.Last, iD lost, iD num, iD r.Peer, iD r.Age]]) ++ (trE L y ++ ((L.tk.zip y.Trs).map tkE ++ fr)) := by
      unfold ydHeap
      rw [eb]
      simp only [zip2, map_set']
      rw [set_get (x := postE _) (by rw [List.getElem?_map, hz]; rfl)]
      simp only [List.append_assoc]; rfl
    rw [e]; exact hp'
  · have a : (L.ps.set k { pl with lost := lost, num := num })[k']? = some pl' := a
    have b : (y.Psts.set k { p with R := r })[k']? = some p' := b
    by_cases hkk : k' = k
    · subst hkk
      rw [List.getElem?_set_self hk] at a
      rw [List.getElem?_set_self (by rw [← h.psl]; exact hk)] at b
      injection a with a; injection b with b
      subst a b
      exact h.sh k' pl p hpl hp
    · rw [List.getElem?_set_ne (Ne.symm hkk)] at a b
      exact h.sh k' pl' p' a b
theorem YdIn.putStamp (h : YdIn s id L y fr) {k : Nat} {pl : PL} {p : Pst} (hpl : L.ps[k]? = some pl) (hp : y.Psts[k]? = some p) {n : Int} {s' : Store}
    (hs : s' pl.i = .live t_yard_post [[pO pl.j, pl.h0, pl.h1, pl.h2, pl.h3, iD n]]) (ho : Keep pl.i s s') :
    YdIn s' id L { y with Psts := y.Psts.set k { p with Stamp := n } } fr := by
  have hz := zip_get hpl hp
  have hk := (List.getElem?_eq_some_iff.1 hpl).1
  have hX : ((L.ps.zip y.Psts).map postE)[k]? = some (pl.i, .live t_yard_post [[pO pl.j, pl.h0, pl.h1, pl.h2, pl.h3, iD p.Stamp]]) := by rw [List.getElem?_map, hz]; rfl
  have h0 : Heap s (ydBase id L y ++ (L.ps.zip y.Psts).map postE ++ ((L.ps.zip y.Psts).map recE ++ (trE L y ++ ((L.tk.zip y.Trs).map tkE ++ fr)))) := by
    have := h.heap; unfold ydHeap at this; simpa only [List.append_assoc] using this
  have hp' := Heap.put h0 hX hs (by intro e; cases e) ho
  have eb : ydBase id L { y with Psts := y.Psts.set k { p with Stamp := n } } = ydBase id L y := by
    unfold ydBase ydRow
    simp only [List.length_set]
  refine ⟨?_, h.cfg, h.keys, h.flt, by simpa using h.psl, fun k' pl' p' a b => ?_, h.tkl, h.trn⟩
  · have e : ydHeap id L { y with Psts := y.Psts.set k { p with Stamp := n } } fr =
        ydBase id L y ++ ((L.ps.zip y.Psts).map postE).set k (pl.i, .live t_yard_post [[pO pl.j, pl.h0, pl.h1, pl.h2, pl.h3, iD n]]) ++ ((L.ps.zip y.Psts).map recE ++ (trE L y ++ ((L.tk.zip y.Trs).map tkE ++ fr))) := by
      unfold ydHeap
      rw [eb]
      simp only [zip_set hpl, map_set']
      rw [set_get (x := recE _) (by rw [List.getElem?_map, hz]; rfl)]
      simp only [List.append_assoc]; rfl
    rw [e]; exact hp'
  · have b : (y.Psts.set k { p with Stamp := n })[k']? = some p' := b
    by_cases hkk : k' = k
    · subst hkk
      rw [List.getElem?_set_self (by rw [← h.psl]; exact hk)] at b
      injection b with b
      subst b
      rw [hpl] at a; injection a with a; subst a
      exact h.sh k' pl p hpl hp
    · rw [List.getElem?_set_ne (Ne.symm hkk)] at b
      exact h.sh k' pl' p' a b
theorem YdIn.take (h : YdIn s id L y fr) (hw : Ywf y N) (oc : Int) {t : List UInt8} (ht : t.length ≤ 2 ^ 59) :
    DCalls Tryz.prog n_yard_Yard_Take [.one (pO id), iA oc, .one (.str (ofL t))] s fun r s' => r = .a (iA (y.take oc t).2) ∧ ∃ L', YdIn s' id L' (y.take oc t).1 fr := by
  have hcl := topo_len hw.chk
  have hPo := h.posAt hw
  have hpsl := h.psl
  have hYt : y.take oc t = match geti y.Psts oc with
    | none => (y, 20)
    | some p =>
      if (p.R.take y.Now t).2.2 ≠ 0 then (y, (p.R.take y.Now t).2.2) else
      match readO p.H (p.R.take y.Now t).2.1 with
      | none => ({ y with Psts := y.Psts.set oc.toNat { p with R := (p.R.take y.Now t).1 } }, 3)
      | some o => ({ y with Psts := y.Psts.set oc.toNat ⟨(p.R.take y.Now t).1, p.H, (p.R.take y.Now t).1.Last⟩, Pts := orderP p.H.Pts o.Pos y.Pts, Gts := orderL p.H.Xs o.Shut y.Gts, Lps := aspL p.H.Sgs o.Asp y.Lps }, 0) := rfl
  refine W_yard_Yard_Take (pO id) oc (ofL t) s _ ?_
  intro R hR
  refine bcd (fun h0 => ⟨?_, L, ?_⟩) (fun h0 => ⟨trivial, _, _, _, rfl, _, box_row h.row, _, rfl, hPo.lenK ?_⟩)
  · rw [hYt, geti_neg h0]
  · rw [hYt, geti_neg h0]; exact h
  rw [List.length_map]
  refine bcd (fun h1 => ⟨?_, L, ?_⟩) (fun h1 => hR s ?_)
  · rw [hYt, geti_ge (by omega)]
  · rw [hYt, geti_ge (by omega)]; exact h
  clear hR R
  obtain ⟨k, rfl⟩ := Int.eq_ofNat_of_zero_le (show 0 ≤ oc by omega)
  obtain ⟨pl, hpl⟩ := get_of_lt (l := L.ps) (j := k) (by omega)
  obtain ⟨p, hp⟩ := get_of_lt (l := y.Psts) (j := k) (by omega)
  obtain ⟨w1, w2, w3, w4, w5⟩ := hw.pst k p hp
  have hk := (List.getElem?_eq_some_iff.1 hpl).1
  have hk' := (List.getElem?_eq_some_iff.1 hp).1
  rw [geti_nat, hp] at hYt
  have hYt : y.take (k : Int) t = if (p.R.take y.Now t).2.2 ≠ 0 then (y, (p.R.take y.Now t).2.2) else
      match readO p.H (p.R.take y.Now t).2.1 with
      | none => ({ y with Psts := y.Psts.set k { p with R := (p.R.take y.Now t).1 } }, 3)
      | some o => ({ y with Psts := y.Psts.set k ⟨(p.R.take y.Now t).1, p.H, (p.R.take y.Now t).1.Last⟩, Pts := orderP p.H.Pts o.Pos y.Pts, Gts := orderL p.H.Xs o.Shut y.Gts, Lps := aspL p.H.Sgs o.Asp y.Lps }, 0) := hYt
  have hrc : RcIn s pl.j p.R := ⟨_, _, h.rcv hpl hp⟩
  refine ⟨trivial, _, _, _, rfl, _, box_row h.row, _, rfl, hPo.load (j := k) (show (L.ps.map fun x => [pO x.i])[k]? = some [pO pl.i] by rw [List.getElem?_map, hpl]; rfl) c_p_yard_post rfl ⟨pO pl.i, rfl, trivial, _, _, _, rfl, _, box_row (h.post hpl hp), pO pl.j, rfl, trivial, _, _, _, rfl, _, box_row h.row, y.Now, rfl, (link_Receiver_Take_ok hrc hw.now.2 ht).mono ?_⟩⟩
  rintro r s1 ⟨rfl, ⟨lost, num, hr1⟩, keep1⟩
  have hy1 := h.putRcv hpl hp hr1 keep1
  refine ⟨_, _, rfl, bcn (fun he => ?_) (fun he => ?_)⟩
  · rw [hYt, if_pos he]
    have e1 : y.Psts.set k ({ p with R := p.R } : Pst) = y.Psts := set_get hp
    rw [take_err he, e1] at hy1
    exact ⟨rfl, _, hy1⟩
  rw [hYt, if_neg (by rw [he]; simp)]
  clear hYt
  obtain ⟨k1, k2⟩ := take_ok he
  generalize hr' : (p.R.take y.Now t).1 = r' at *
  generalize hb : (p.R.take y.Now t).2.1 = b at *
  have hbl : b.length ≤ 1000 := by rw [k2]; exact said_b t
  have hpl1 : (L.ps.set k { pl with lost := lost, num := num })[k]? = some { pl with lost := lost, num := num } := List.getElem?_set_self hk
  have hp1 : (y.Psts.set k { p with R := r' })[k]? = some { p with R := r' } := List.getElem?_set_self hk'
  have hsh := h.sh k pl p hpl hp
  obtain ⟨l1, l2, l3⟩ := sh_len y.C k
  have l1 : p.H.Pts.length ≤ y.C.Secs.length := by rw [w1]; exact (l1 y.C.Secs 0).2
  have l2 : p.H.Xs.length ≤ y.C.Xs.length := by rw [w1]; exact l2 y.C.Xs 0
  have l3 : p.H.Sgs.length ≤ y.C.Sigs.length := by rw [w1]; exact l3 y.C.Sigs 0
  have row1 := hy1.post hpl1 hp1
  refine ⟨trivial, _, _, _, rfl, _, box_row row1, pl.h0, pl.h1, pl.h2, pl.h3, rfl, (tele_ReadOrders_ok hsh (by omega) (by omega)).mono ?_⟩
  rintro r s2 ⟨rfl, ⟨hn, rfl⟩ | ⟨o, d1, d2, d3, ho, rfl, hO⟩⟩
  · rw [hn]
    exact ⟨_, _, _, 3, rfl, bcn (fun _ => ⟨rfl, _, hy1⟩) (fun e => by cases e)⟩
  rw [ho]
  obtain ⟨m1, m2, m3⟩ := readO_len ho
  refine ⟨d1, d2, d3, 0, rfl, bcn (fun e => absurd rfl e) (fun _ => ⟨trivial, _, _, _, rfl, _, box_row row1, pO pl.j, rfl, trivial, _, _, _, rfl, (link_record_Last_ok ⟨_, _, hy1.rcv hpl1 hp1⟩).use ⟨r'.Last, rfl, trivial, _, _, _, rfl, cell_store row1 (by simp) fun s3 h3 o3 => ?_⟩⟩)⟩
  have hy3 := hy1.putStamp hpl1 hp1 h3 (.of o3)
  have hy3 : YdIn s3 id { L with ps := L.ps.set k { pl with lost := lost, num := num } } { y with Psts := y.Psts.set k ⟨r', p.H, r'.Last⟩ } fr := by
    have e : (y.Psts.set k { p with R := r' }).set k { ({ p with R := r' } : Pst) with Stamp := r'.Last } = y.Psts.set k ⟨r', p.H, r'.Last⟩ := by rw [List.set_set]
    have hy3 : YdIn s3 id { L with ps := L.ps.set k { pl with lost := lost, num := num } } { y with Psts := (y.Psts.set k { p with R := r' }).set k { ({ p with R := r' } : Pst) with Stamp := r'.Last } } fr := hy3
    rwa [e] at hy3
  have hp3 : (y.Psts.set k (⟨r', p.H, r'.Last⟩ : Pst))[k]? = some ⟨r', p.H, r'.Last⟩ := List.getElem?_set_self hk'
  clear row1 h3 o3 hy1 hp1 hr1 keep1 hrc hPo
  generalize hL' : ({ L with ps := L.ps.set k { pl with lost := lost, num := num } } : YL) = L' at hy3
  have hpl3 : L'.ps[k]? = some { pl with lost := lost, num := num } := by rw [← hL']; exact hpl1
  generalize hy' : ({ y with Psts := y.Psts.set k ⟨r', p.H, r'.Last⟩ } : Yd) = y' at hy3
  have row3 : ∀ {s4 P G Q}, YdIn s4 id L' { y' with Pts := P, Gts := G, Lps := Q } fr → s4 pl.i = .live t_yard_post [[pO pl.j, pl.h0, pl.h1, pl.h2, pl.h3, iD r'.Last]] := fun hy => hy.post hpl3 (by rw [← hy']; exact hp3)
  have eC : y'.C = y.C := by rw [← hy']
  have e1 : y'.Pts = y.Pts := by rw [← hy']
  have e2 : y'.Gts = y.Gts := by rw [← hy']
  have e3 : y'.Lps = y.Lps := by rw [← hy']
  have hPts : ∀ i ∈ p.H.Pts, 0 ≤ i ∧ i < y.Pts.length := fun i hi => by
    rw [w1] at hi
    have := shPts_in _ _ _ i hi
    have := hw.pts
    omega
  have hXs : ∀ i ∈ p.H.Xs, 0 ≤ i ∧ i < y.Gts.length := fun i hi => by
    rw [w1] at hi
    have := shXs_in _ _ _ _ i hi
    have := hw.gts
    omega
  have hSgs : ∀ i ∈ p.H.Sgs, 0 ≤ i ∧ i < y.Lps.length := fun i hi => by
    rw [w1] at hi
    have := shSgs_in _ _ _ _ i hi
    have := hw.lps
    omega
  have hpl := hw.pts
  have hgl := hw.gts
  have hll := hw.lps
  refine ⟨trivial, _, _, _, rfl, _, box_row (row3 (P := y'.Pts) (G := y'.Gts) (Q := y'.Lps) hy3), pl.h1, rfl, (hsh.pts s3).lenK ⟨fun n s' => ∃ (j : Nat) (P : List Th), n = j ∧ j ≤ p.H.Pts.length ∧ P.length = y.Pts.length ∧ YdIn s' id L' { y' with Pts := P } fr ∧ orderP (p.H.Pts.drop j) (o.Pos.drop j) P = orderP p.H.Pts o.Pos y.Pts, fun n _ => p.H.Pts.length - n.toNat, ⟨0, y.Pts, rfl, by omega, rfl, by rw [← e1]; exact hy3, rfl⟩, ?_⟩⟩
  rw [List.length_map]
  rintro _ s4 ⟨j, P, rfl, hj, hPl, hy4, hE⟩
  refine bcd (fun hlt => ?_) (fun hge => ?_)
  · have hlt : j < p.H.Pts.length := by omega
    obtain ⟨i, hi⟩ := get_of_lt (l := p.H.Pts) (j := j) hlt
    obtain ⟨v, hv⟩ := get_of_lt (l := o.Pos) (j := j) (by omega)
    obtain ⟨i0, i1⟩ := hPts i (List.mem_of_getElem? hi)
    obtain ⟨q, rfl⟩ := Int.eq_ofNat_of_zero_le i0
    obtain ⟨x, hx⟩ := get_of_lt (l := P) (j := q) (by omega)
    have hdec := dec_lt hlt
    rw [drop_get hi, drop_get hv, orderP_cons] at hE
    refine (hsh.pts s4).load (map_get hi) c_int rfl ⟨(q : Int), rfl, (hO.pos s4).load (map_get hv) c_int rfl ⟨v, rfl, ?_⟩⟩
    rw [w64_succ (by omega)]
    refine bcn (fun hne => ?_) (fun he0 => ⟨by first | exact rfl | trivial, ⟨j + 1, P, rfl, hlt, hPl, hy4, by rw [if_neg (by rw [he0]; simp)] at hE; exact hE⟩, hdec⟩)
    have hA : At Tryz.prog s4 t_yard_thing (.osl L'.p 0 P.length) (P.map Th.enc) := At.fresh hy4.pts (by simp; omega) (by simp)
    refine ⟨trivial, _, _, _, rfl, _, box_row hy4.row, _, rfl, hA.idxK c_yard_thing rfl (by simpa using (List.getElem?_eq_some_iff.1 hx).1) ((hO.pos s4).load (map_get hv) c_int rfl ⟨v, rfl, ?_⟩)⟩
    rw [Int.toNat_natCast]
    refine (yard_thing_order_ok (l := P) hy4.pts rfl (by omega) hx v).mono ?_
    rintro r s5 ⟨rfl, h5, o5⟩
    refine ⟨rfl, by first | exact rfl | trivial, ⟨j + 1, P.set q (x.order v), rfl, hlt, by simpa using hPl, hy4.putP (by simp) h5 (.of o5), ?_⟩, hdec⟩
    rw [if_pos hne, Int.toNat_natCast, modify_get hx] at hE
    exact hE
  have e : j = p.H.Pts.length := by omega
  subst e
  rw [List.drop_length, orderP_nil] at hE
  subst hE
  clear hge hj hy3
  generalize hPe : orderP p.H.Pts o.Pos y.Pts = P' at hy4
  refine ⟨trivial, _, _, _, rfl, _, box_row (row3 (P := P') (G := y'.Gts) (Q := y'.Lps) hy4), pl.h2, rfl, (hsh.xs s4).lenK ⟨fun n s' => ∃ (j : Nat) (P : List Th), n = j ∧ j ≤ p.H.Xs.length ∧ P.length = y.Gts.length ∧ YdIn s' id L' { y' with Pts := P', Gts := P } fr ∧ orderL (p.H.Xs.drop j) (o.Shut.drop j) P = orderL p.H.Xs o.Shut y.Gts, fun n _ => p.H.Xs.length - n.toNat, ⟨0, y.Gts, rfl, by omega, rfl, by rw [← e2]; exact hy4, rfl⟩, ?_⟩⟩
  clear hy4 s4
  rw [List.length_map]
  rintro _ s4 ⟨j, P, rfl, hj, hGl, hy4, hE⟩
  refine bcd (fun hlt => ?_) (fun hge => ?_)
  · have hlt : j < p.H.Xs.length := by omega
    obtain ⟨i, hi⟩ := get_of_lt (l := p.H.Xs) (j := j) hlt
    obtain ⟨v, hv⟩ := get_of_lt (l := o.Shut) (j := j) (by omega)
    obtain ⟨i0, i1⟩ := hXs i (List.mem_of_getElem? hi)
    obtain ⟨q, rfl⟩ := Int.eq_ofNat_of_zero_le i0
    obtain ⟨x, hx⟩ := get_of_lt (l := P) (j := q) (by omega)
    have hdec := dec_lt hlt
    rw [drop_get hi, drop_get hv, orderL_cons, Int.toNat_natCast, modify_get hx] at hE
    have hA : At Tryz.prog s4 t_yard_thing (.osl L'.g 0 P.length) (P.map Th.enc) := At.fresh hy4.gts (by simp; omega) (by simp)
    refine (hsh.xs s4).load (map_get hi) c_int rfl ⟨(q : Int), rfl, trivial, _, _, _, rfl, _, box_row hy4.row, _, rfl, hA.idxK c_yard_thing rfl (by simpa using (List.getElem?_eq_some_iff.1 hx).1) ((hO.shut s4).load (map_get hv) c_int rfl ⟨v, rfl, ?_⟩)⟩
    rw [Int.toNat_natCast]
    refine (yard_thing_order_ok (l := P) hy4.gts rfl (by omega) hx v).mono ?_
    rintro r s5 ⟨rfl, h5, o5⟩
    rw [w64_succ (by omega)]
    exact ⟨rfl, by first | exact rfl | trivial, ⟨j + 1, P.set q (x.order v), rfl, hlt, by simpa using hGl, hy4.putG (by simp) h5 (.of o5), hE⟩, hdec⟩
  have e : j = p.H.Xs.length := by omega
  subst e
  rw [List.drop_length, orderL_nil] at hE
  subst hE
  clear hge hj
  generalize hGe : orderL p.H.Xs o.Shut y.Gts = G' at hy4
  refine ⟨trivial, _, _, _, rfl, _, box_row (row3 (P := P') (G := G') (Q := y'.Lps) hy4), pl.h3, rfl, (hsh.sgs s4).lenK ⟨fun n s' => ∃ (j : Nat) (P : List Lp), n = j ∧ j ≤ p.H.Sgs.length ∧ P.length = y.Lps.length ∧ YdIn s' id L' { y' with Pts := P', Gts := G', Lps := P } fr ∧ aspL (p.H.Sgs.drop j) (o.Asp.drop j) P = aspL p.H.Sgs o.Asp y.Lps, fun n _ => p.H.Sgs.length - n.toNat, ⟨0, y.Lps, rfl, by omega, rfl, by rw [← e3]; exact hy4, rfl⟩, ?_⟩⟩
  clear hy4 s4
  rw [List.length_map]
  rintro _ s4 ⟨j, P, rfl, hj, hLl, hy4, hE⟩
  refine bcd (fun hlt => ?_) (fun hge => ?_)
  · have hlt : j < p.H.Sgs.length := by omega
    obtain ⟨i, hi⟩ := get_of_lt (l := p.H.Sgs) (j := j) hlt
    obtain ⟨v, hv⟩ := get_of_lt (l := o.Asp) (j := j) (by omega)
    obtain ⟨i0, i1⟩ := hSgs i (List.mem_of_getElem? hi)
    obtain ⟨q, rfl⟩ := Int.eq_ofNat_of_zero_le i0
    obtain ⟨x, hx⟩ := get_of_lt (l := P) (j := q) (by omega)
    have hdec := dec_lt hlt
    rw [drop_get hi, drop_get hv, aspL_cons, Int.toNat_natCast, modify_get hx] at hE
    have hA : At Tryz.prog s4 t_yard_lamp (.osl L'.l 0 P.length) (P.map Lp.enc) := At.fresh hy4.lps (by simp; omega) (by simp)
    refine (hsh.sgs s4).load (map_get hi) c_int rfl ⟨(q : Int), rfl, trivial, _, _, _, rfl, _, box_row hy4.row, _, rfl, (hO.asp s4).load (map_get hv) c_int rfl ⟨v, rfl, hA.idxK c_yard_lamp rfl (by simpa using (List.getElem?_eq_some_iff.1 hx).1) ?_⟩⟩
    rw [Int.toNat_natCast]
    refine live_store hy4.lps (List.getElem?_eq_some_iff.1 hx).1 (map_get hx) (by simp [Lp.enc]) fun s5 h5 o5 => ?_
    rw [w64_succ (by omega)]
    exact ⟨by first | exact rfl | trivial, ⟨j + 1, P.set q { x with Asp := v }, rfl, hlt, by simpa using hLl, hy4.putL (by simp) (by rw [h5, map_set']; rfl) (.of o5), hE⟩, hdec⟩
  have e : j = p.H.Sgs.length := by omega
  subst e
  rw [List.drop_length, aspL_nil] at hE
  subst hE
  refine ⟨rfl, L', ?_⟩
  rw [← hy'] at hy4
  subst hPe hGe
  exact hy4
end
end Go.Proofs.YtaklhjodjbgmgaaGreat
end
section
set_option linter.unusedVariables false
set_option linter.unusedSimpArgs false
namespace Go.Proofs.YtaklhjodjbgmgaaGreat
open Go.Fw Go.Proofs Go.RowKit
variable {σ σ0 : Store}
section
variable {s : Store} {id : Nat} {L : YL} {y : Yd} {fr : List (Nat × SO)} {N : Nat}
theorem Th.tick_left {x : Th} {b : Bool} (h : 0 ≤ x.Left ∧ x.Left ≤ 2) : 0 ≤ (x.tick b).Left ∧ (x.tick b).Left ≤ 2 := by
  unfold Th.tick
  split
  · split <;> (simp only; omega)
  · exact h
theorem Th.order_left (x : Th) (o : Int) (h : 0 ≤ x.Left ∧ x.Left ≤ 2) : 0 ≤ (x.order o).Left ∧ (x.order o).Left ≤ 2 := by
  unfold Th.order
  split
  · simp only; omega
  · exact h
theorem Ywf.tick (hw : Ywf y N) {now : Int} (hn : now ≤ 9223372036854775807) : Ywf (y.tick now) N := by
  unfold Yd.tick
  split
  · exact hw
  refine ⟨hw.chk, (tickL_len _ _ _).trans hw.pts, (tickL_len _ _ _).trans hw.gts, hw.lps, hw.psts, hw.pst, hw.trs, hw.tr, ?_, hw.last, fun x hx => ?_⟩
  · have := hw.now
    show 0 ≤ now ∧ now ≤ 9223372036854775807
    omega
  · rcases List.mem_append.1 hx with hx | hx
    · obtain ⟨j, hj⟩ := List.mem_iff_getElem?.1 hx
      rw [tickL_get] at hj
      cases hz : y.Pts[j]? with
      | none => rw [hz] at hj; cases hj
      | some z =>
        rw [hz] at hj
        injection hj with hj
        rw [← hj]
        exact Th.tick_left (hw.left z (List.mem_append_left _ (List.mem_of_getElem? hz)))
    · obtain ⟨j, hj⟩ := List.mem_iff_getElem?.1 hx
      rw [tickL_get] at hj
      cases hz : y.Gts[j]? with
      | none => rw [hz] at hj; cases hj
      | some z =>
        rw [hz] at hj
        injection hj with hj
        rw [← hj]
        exact Th.tick_left (hw.left z (List.mem_append_right _ (List.mem_of_getElem? hz)))
theorem Ywf.look (hw : Ywf y N) : Ywf y.look N := by
  refine ⟨hw.chk, hw.pts, hw.gts, (lookL_len _ _ _ _).trans hw.lps, hw.psts, hw.pst, hw.trs, hw.tr, hw.now, fun l hl => ?_, hw.left⟩
  obtain ⟨j, hj⟩ := List.mem_iff_getElem?.1 hl
  have hj : (lookL y.shows y.Now y.Lps 0)[j]? = some l := hj
  rw [lookL_get] at hj
  cases hz : y.Lps[j]? with
  | none => rw [hz] at hj; cases hj
  | some z =>
    rw [hz] at hj
    injection hj with hj
    rw [← hj]
    split
    · have := hw.now; show -1 ≤ y.Now ∧ y.Now ≤ 9223372036854775807; omega
    · exact hw.last z (List.mem_of_getElem? hz)
theorem Ywf.take (hw : Ywf y N) (oc : Int) (t : List UInt8) : Ywf (y.take oc t).1 N := by
  unfold Yd.take
  split
  · exact hw
  rename_i p hp
  obtain ⟨h0, h1, h2⟩ := geti_some hp
  obtain ⟨k, rfl⟩ := Int.eq_ofNat_of_zero_le h0
  rw [Int.toNat_natCast] at h2
  split
  · exact hw
  rename_i he
  have he : (p.R.take y.Now t).2.2 = 0 := Classical.byContradiction he
  have hr := (take_ok he).1
  obtain ⟨w1, w2, w3, w4, w5⟩ := hw.pst k p h2
  have hs := said_pos t
  have pst : ∀ (q : Pst), q.H = p.H → q.R = (p.R.take y.Now t).1 → (q.Stamp = p.Stamp ∨ q.Stamp = (p.R.take y.Now t).1.Last) → ∀ (k' : Nat) p', (y.Psts.set k q)[k']? = some p' → p'.H = y.C.shape k' ∧ p'.R.Peer = (k' : Int) + 50 ∧ p'.R.Age = y.C.Age ∧ -1 ≤ p'.Stamp ∧ p'.Stamp ≤ 4294967296 := fun q q1 q2 q3 k' p' hp' => by
    by_cases hk : k' = k
    · subst hk
      rw [List.getElem?_set_self (List.getElem?_eq_some_iff.1 h2).1] at hp'
      injection hp' with hp'
      subst hp'
      rw [hr] at q2 q3
      have q3 : q.Stamp = p.Stamp ∨ q.Stamp = (saidL t).s := q3
      refine ⟨q1.trans w1, by rw [q2]; exact w2, by rw [q2]; exact w3, by omega, by omega⟩
    · rw [List.getElem?_set_ne (Ne.symm hk)] at hp'
      exact hw.pst k' p' hp'
  split
  · exact ⟨hw.chk, hw.pts, hw.gts, hw.lps, by simpa using hw.psts, by rw [Int.toNat_natCast]; exact pst _ rfl rfl (.inl rfl), hw.trs, hw.tr, hw.now, hw.last, hw.left⟩
  · rename_i o ho
    obtain ⟨a1, a2⟩ := orderP_all (p := fun x => 0 ≤ x.Left ∧ x.Left ≤ 2) Th.order_left p.H.Pts o.Pos y.Pts (fun x hx => hw.left x (List.mem_append_left _ hx))
    obtain ⟨b1, b2⟩ := orderL_all (p := fun x => 0 ≤ x.Left ∧ x.Left ≤ 2) Th.order_left p.H.Xs o.Shut y.Gts (fun x hx => hw.left x (List.mem_append_right _ hx))
    obtain ⟨c1, c2⟩ := aspL_all (p := fun l => -1 ≤ l.Last ∧ l.Last ≤ 9223372036854775807) (fun x o h => h) p.H.Sgs o.Asp y.Lps hw.last
    refine ⟨hw.chk, a2.trans hw.pts, b2.trans hw.gts, c2.trans hw.lps, by simpa using hw.psts, by rw [Int.toNat_natCast]; exact pst _ rfl rfl (.inr rfl), hw.trs, hw.tr, hw.now, c1, fun x hx => ?_⟩
    rcases List.mem_append.1 hx with hx | hx
    · exact a1 x hx
    · exact b1 x hx
theorem Heap.repl {s s' : Store} {A X B : List (Nat × SO)} (h : Heap s (A ++ X ++ B)) {k i i' : Nat} {so so' : SO} (hk : X[k]? = some (i, so)) (hi : i' = i ∨ s i' = .free) (hs : s' i' = so') (hne : so' ≠ .free) (ho : ∀ j, j ≠ i → s j ≠ .free → s' j = s j) :
    Heap s' (A ++ X.set k (i', so') ++ B) := by
  obtain ⟨hkl, hke⟩ := List.getElem?_eq_some_iff.1 hk
  have eX : X = X.take k ++ (i, so) :: X.drop (k + 1) := by
    have := List.set_eq_take_append_cons_drop (l := X) (i := k) (a := (i, so))
    rw [if_pos hkl, set_get hk] at this
    exact this
  have eS : X.set k (i', so') = X.take k ++ (i', so') :: X.drop (k + 1) := by rw [List.set_eq_take_append_cons_drop, if_pos hkl]
  have perm : ∀ e : Nat × SO, (A ++ (X.take k ++ e :: X.drop (k + 1)) ++ B).Perm (e :: (A ++ X.take k ++ X.drop (k + 1) ++ B)) := fun e => by
    have : A ++ (X.take k ++ e :: X.drop (k + 1)) ++ B = (A ++ X.take k) ++ e :: (X.drop (k + 1) ++ B) := by simp
    rw [this]
    refine List.perm_middle.trans ?_
    simp
  rw [eX] at h
  have h1 := h.perm (perm (i, so))
  rw [eS]
  refine Heap.perm ?_ (perm (i', so')).symm
  have hrest := h1.tail
  have hnot : ∀ x ∈ A ++ X.take k ++ X.drop (k + 1) ++ B, x.1 ≠ i := fun x hx e => (List.nodup_cons.1 h1.1).1 (List.mem_map.2 ⟨x, hx, e⟩)
  refine ⟨List.nodup_cons.2 ⟨fun hm => ?_, hrest.1⟩, fun x hx => ?_⟩
  · obtain ⟨x, hx, e⟩ := List.mem_map.1 hm
    have e : x.1 = i' := e
    rcases hi with rfl | hf
    · exact hnot x hx e
    · have := hrest.2 x hx
      rw [e, hf] at this
      exact this.2 this.1.symm
  · rcases List.mem_cons.1 hx with rfl | hx
    · exact ⟨hs, hne⟩
    · have := hrest.2 x hx
      exact ⟨by rw [ho x.1 (hnot x hx) (by rw [this.1]; exact this.2)]; exact this.1, this.2⟩
theorem YdIn.putTr (h : YdIn s id L y fr) {k : Nat} {z x x' : Nat × List (List D)} {t t' : Tr} (hz : L.trd = some z) (hx : L.tk[k]? = some x) (ht : y.Trs[k]? = some t) {s' : Store}
    (h1 : s' z.1 = .live t_Train ((((L.tk.zip y.Trs).map trRow).set k (trRow (x', t'))) ++ z.2)) (h2 : s' x'.1 = .live t_int (t'.Secs.map Go.Fw.encI ++ x'.2)) (hi : x'.1 = x.1 ∨ s x'.1 = .free)
    (ho : ∀ j, j ≠ z.1 → j ≠ x.1 → s j ≠ .free → s' j = s j) : YdIn s' id { L with tk := L.tk.set k x' } { y with Trs := y.Trs.set k t' } fr := by
  have hzip := zip_get hx ht
  have hk := (List.getElem?_eq_some_iff.1 hx).1
  have h0 : Heap s ((ydBase id L y ++ ((L.ps.zip y.Psts).map postE ++ ((L.ps.zip y.Psts).map recE ++ trE L y))) ++ (L.tk.zip y.Trs).map tkE ++ fr) := by
    have := h.heap; unfold ydHeap at this; simpa only [List.append_assoc] using this
  have hX : ((L.tk.zip y.Trs).map tkE)[k]? = some (tkE (x, t)) := by rw [List.getElem?_map, hzip]; rfl
  have hzs : s z.1 = .live t_Train ((L.tk.zip y.Trs).map trRow ++ z.2) := h.trd hz
  have hzx : x'.1 ≠ z.1 := by
    intro e
    rcases hi with hi | hi
    · have := h.tk hx ht
      rw [← hi, e, hzs] at this
      injection this with e1 _
      exact absurd e1 (by decide)
    · rw [e, hzs] at hi; cases hi
  -- first the list, the header as0 it was
  have hm : Heap (fun j => if j = z.1 then s z.1 else s' j) ((ydBase id L y ++ ((L.ps.zip y.Psts).map postE ++ ((L.ps.zip y.Psts).map recE ++ trE L y))) ++ ((L.tk.zip y.Trs).map tkE).set k (tkE (x', t')) ++ fr) := by
    refine Heap.repl h0 hX hi ?_ (by intro e; cases e) fun j hj hf => ?_
    · show (if x'.1 = z.1 then s z.1 else s' x'.1) = _
      rw [if_neg hzx]; exact h2
    · show (if j = z.1 then s z.1 else s' j) = s j
      by_cases e : j = z.1
      · rw [if_pos e, e]
      · rw [if_neg e]; exact ho j e hj hf
  have hT : trE L y = [(z.1, .live t_Train ((L.tk.zip y.Trs).map trRow ++ z.2))] := by unfold trE; rw [hz]
  have hm2 : Heap (fun j => if j = z.1 then s z.1 else s' j) ((ydBase id L y ++ ((L.ps.zip y.Psts).map postE ++ (L.ps.zip y.Psts).map recE)) ++ trE L y ++ (((L.tk.zip y.Trs).map tkE).set k (tkE (x', t')) ++ fr)) := by
    simpa only [List.append_assoc] using hm
  have hfin := Heap.put (s' := s') hm2 (k := 0) (i := z.1) (by rw [hT]; rfl) h1 (by intro e; cases e) fun j hj _ => by
    show s' j = if j = z.1 then s z.1 else s' j
    rw [if_neg hj]
  have eb : ydBase id { L with tk := L.tk.set k x' } { y with Trs := y.Trs.set k t' } = ydBase id L y := by
    unfold ydBase ydRow trD
    simp only [hz, List.length_set]
  refine ⟨?_, h.cfg, h.keys, h.flt, h.psl, h.sh, by simpa using h.tkl, fun e => ?_⟩
  · have e : ydHeap id { L with tk := L.tk.set k x' } { y with Trs := y.Trs.set k t' } fr =
        (ydBase id L y ++ ((L.ps.zip y.Psts).map postE ++ (L.ps.zip y.Psts).map recE)) ++ (trE L y).set 0 (z.1, .live t_Train ((((L.tk.zip y.Trs).map trRow).set k (trRow (x', t'))) ++ z.2)) ++ (((L.tk.zip y.Trs).map tkE).set k (tkE (x', t')) ++ fr) := by
      unfold ydHeap
      rw [eb, hT]
      have e2 : trE { L with tk := L.tk.set k x' } { y with Trs := y.Trs.set k t' } = [(z.1, .live t_Train ((((L.tk.zip y.Trs).map trRow).set k (trRow (x', t'))) ++ z.2))] := by
        unfold trE
        simp only [hz, zip2, map_set']
      rw [e2]
      simp only [zip2, map_set', List.append_assoc, List.set_cons_zero]
    rw [e]; exact hfin
  · have e : L.trd = none := e
    rw [hz] at e; cases e
end
end Go.Proofs.YtaklhjodjbgmgaaGreat
end
section
namespace Go.Proofs.YtaklhjodjbgmgaaGreat
open Go.Shelf Go.Proofs
def insertLays_ren : Go.Shelf.Ren := ⟨fun | 21 => 54 | 27 => 93 | 28 => 94 | 35 => 139 | 39 => 165 | n => n, fun | 22 => 25 | 3 => 3 | 4 => 4 | 0 => 0 | n => n, fun | n => n⟩
theorem insertLays : Go.Proofs.Lays2.n21 Tryz.prog insertLays_ren := {
  mixed := by kernel_rfl
  f21 := Tryz.func54.trans (congrArg some (by kernel_rfl))
  f27 := Tryz.func93.trans (congrArg some (by kernel_rfl))
  f28 := Tryz.func94.trans (congrArg some (by kernel_rfl))
  f35 := Tryz.func139.trans (congrArg some (by kernel_rfl))
  f39 := Tryz.func165.trans (congrArg some (by kernel_rfl))
  t0 := Tryz.underlying0
  a0 := Tryz.isAgg0
  z0 := Tryz.sizeOf0
  v0 := Tryz.zeroValue0
  t3 := Tryz.underlying3
  a3 := Tryz.isAgg3
  z3 := Tryz.sizeOf3
  v3 := Tryz.zeroValue3
  t4 := Tryz.underlying4
  a4 := Tryz.isAgg4
  z4 := Tryz.sizeOf4
  v4 := Tryz.zeroValue4
  t22 := Tryz.underlying25
  a22 := Tryz.isAgg25
  z22 := Tryz.sizeOf25
  v22 := Tryz.zeroValue25
  i3 := by kernel_rfl }
end Go.Proofs.YtaklhjodjbgmgaaGreat
end
section
set_option linter.unusedVariables false
set_option linter.unusedSimpArgs false
namespace Go.Fw
open Go.Shelf Go.Sort Go.Proofs
variable {P : Program} {ρ : Ren} {σ : Store}
theorem setCells_rest (b : Nat) : ∀ (vs : List Value) (o : Nat) (W : World), (W.setCells b o vs).os = W.os ∧ (W.setCells b o vs).tape = W.tape ∧ (W.setCells b o vs).output = W.output ∧ (W.setCells b o vs).heap.size = W.heap.size ∧ ∀ i, i ≠ b → (W.setCells b o vs).heap[i]? = W.heap[i]?
  | [], o, W => ⟨rfl, rfl, rfl, rfl, fun _ _ => rfl⟩
  | v :: r, o, W => by
    rw [World.setCells]
    obtain ⟨h1, h2, h3, h4, h5⟩ := setCells_rest b r (o + 1) (W.setCell ⟨b, o, none⟩ v)
    refine ⟨h1.trans rfl, h2.trans rfl, h3.trans rfl, h4.trans (by simp [World.setCell]), fun i hi => (h5 i hi).trans ?_⟩
    simp only [World.setCell, Array.getElem?_modify]
    rw [if_neg (Ne.symm hi)]
theorem heap_al (W : World) (b : Obj) : (W.alloc b).heap = W.heap.push b := rfl
theorem heap_dr (W : World) : W.drew.heap = W.heap := rfl
theorem setCells_row (b : Nat) (t : TypeId) (fz : Nat × Nat) : ∀ (vs : List Value) (o : Nat) (W : World) (arr : Array Value), W.heap[b]? = some (.cells arr t fz) → o + vs.length ≤ arr.size →
    (W.setCells b o vs).heap[b]? = some (.cells (arr.toList.take o ++ vs ++ arr.toList.drop (o + vs.length)).toArray t fz)
  | [], o, W, arr, h, hl => by
    rw [World.setCells, h]
    simp
  | v :: r, o, W, arr, h, hl => by
    rw [List.length_cons] at hl
    rw [World.setCells]
    have h' : (W.setCell ⟨b, o, none⟩ v).heap[b]? = some (.cells (arr.setIfInBounds o v) t fz) := by
      simp only [World.setCell, Array.getElem?_modify, if_true, h, Option.map_some]
      rfl
    rw [setCells_row b t fz r (o + 1) _ _ h' (by simp; omega)]
    have ho : o < arr.toList.length := by simp; omega
    have e1 : (arr.setIfInBounds o v).toList = arr.toList.take o ++ v :: arr.toList.drop (o + 1) := by
      rw [Array.toList_setIfInBounds, List.set_eq_take_append_cons_drop, if_pos ho]
    have e2 : (arr.toList.take o).length = o := by simp; omega
    have e3 : ∀ (l m : List Value), l.length = o → (l ++ v :: m).take (o + 1) = l ++ [v] := fun l m h => by
      subst h; rw [List.take_append, List.take_of_length_le (show l.length ≤ l.length + 1 by omega)]; simp
    have e4 : ∀ (l m : List Value) n, l.length = o → (l ++ v :: m).drop (o + 1 + n) = m.drop n := fun l m n h => by
      subst h; rw [← List.drop_drop, List.drop_append, List.drop_eq_nil_of_le (show l.length ≤ l.length + 1 by omega)]; simp
    rw [e1, e3 _ _ e2, e4 _ _ _ e2, List.length_cons, List.drop_drop]
    congr 2
    simp [Nat.add_comm, Nat.add_left_comm, Nat.add_assoc]
def Inserted (P : Program) (σ : Store) (t3 : TypeId) (id : Nat) (v : Int) (zs : List Int) (r : RV) (σ' : Store) : Prop :=
  (∃ id', σ id' = .free ∧ r = .a (.one (.osl id' 0 (zs.length + 1))) ∧ σ' = σ.set id' (.live t3 ((v :: zs).map intRow))) ∨
  (∃ t rows, σ id = .live t rows ∧ r = .a (.one (.osl id 0 (zs.length + 1))) ∧ σ' = σ.set id (.live t ((v :: zs).map intRow ++ rows.drop (zs.length + 1))))
theorem three_args {k : Nat → Prop} {β : Bk} {W : World} {x y z : A} {vs : Array Value} (hvs : vs.size = [x, y, z].length) (hargs : ∀ (i : Nat) v u, vs[i]? = some v → [x, y, z][i]? = some u → VA k β W v u) :
    ∃ a b c, vs = #[a, b, c] ∧ VA k β W a x ∧ VA k β W b y ∧ VA k β W c z := by
  have hvs : vs.size = 3 := hvs
  obtain ⟨l⟩ := vs
  match l, hvs with
  | [a, b, c], _ => exact ⟨a, b, c, rfl, hargs 0 a x rfl rfl, hargs 1 b y rfl rfl, hargs 2 c z rfl rfl⟩
theorem ints_flat (ys : List Int) : ((ys.map intRow).flatten) = ys.map (D.int .i64) := by
  induction ys with
  | nil => rfl
  | cons x r ih => simp only [List.map_cons, List.flatten_cons, ih]; rfl
theorem ints_vl {k : Nat → Prop} {β : Bk} {W : World} (ys : List Int) : VL k β W (ys.map (Value.int .i64)) (ys.map intRow).flatten := by
  rw [ints_flat]
  refine ⟨by simp, fun i v d hv hd => ?_⟩
  rw [List.getElem?_map] at hv hd
  cases hx : ys[i]? with
  | none => rw [hx] at hv; cases hv
  | some x => rw [hx] at hv hd; cases hv; cases hd; exact .int _ _
theorem insert_DCalls (Ly : Lays2.n21 P ρ) {id vid : Nat} {t tv : TypeId} {rows rv : List (List D)} {v : Int} {zs : List Int} (ht : P.cellsOf t = 1) (hl : σ id = .live t rows) (hfit : zs.length ≤ rows.length) (hrows : rows.take zs.length = zs.map intRow) (h0 : 0 < zs.length)
    (htv : P.cellsOf tv = 1) (hlv : σ vid = .live tv (intRow v :: rv)) (hne : vid ≠ id) (hsz : zs.length < 2 ^ 43) (ht3 : P.cellsOf (ρ.t 3) = 1) :
    DCalls P (ρ.f 21) [.one (.osl id 0 zs.length), .one (.int .i64 0), .one (.osl vid 0 1)] σ (Inserted P σ (ρ.t 3) id v zs) := by
  refine ⟨by unfold callOk; rw [Ly.f21]; rfl, fun k β W vs hS hvs hargs => ?_⟩
  obtain ⟨x, i, y, rfl, hX, hI, hY⟩ := three_args hvs hargs
  have hX : V k β W x (.osl id 0 zs.length) := hX
  have hI : V k β W i (.int .i64 0) := hI
  have hY : V k β W y (.osl vid 0 1) := hY
  have hI := V.inv_int hI
  subst hI
  cases hX with
  | osl _ _ _ cap a bi hb ha hc hs hcm =>
    cases hY with
    | osl _ _ _ capv av biv hbv hav hcv hsv hcmv =>
      have ha := ha (by omega)
      have hav := hav (by omega)
      subst ha hav
      obtain ⟨arr, g1, g2, g3, g4, g5, g6, g7⟩ := hS.obj id bi t rows hb hl
      obtain ⟨arrv, q1, q2, q3, q4, q5, q6, q7⟩ := hS.obj vid biv tv _ hbv hlv
      have hes : bi.es = 1 := by rw [← g3, ht]
      have hesv : biv.es = 1 := by rw [← q3, htv]
      have hnd : ∀ {j t r}, σ j = .live t r → σ j ≠ .dead := fun h e => by rw [h] at e; cases e
      have hblk : biv.blk ≠ bi.blk := fun e => hne (hS.inj vid id biv bi hbv hb (hnd hlv) (hnd hl) e)
      rw [hes] at hs g4
      rw [hesv] at hsv q4
      have hH := ints_hold hS (i0 := 0) (zs := zs) ht hl hb (by simpa using hrows)
      have hHv := ints_hold hS (i0 := 0) (zs := [v]) htv hlv hbv (by simp)
      simp only [Nat.zero_mul] at hH hHv
      have hcs : ∀ (j : Nat) u, (zs.map (Value.int .i64))[j]? = some u → W.cell? ⟨bi.blk, 0 + j, none⟩ = some u := fun j u hu => by
        rw [List.getElem?_map] at hu
        cases hx : zs[j]? with
        | none => rw [hx] at hu; cases hu
        | some z =>
          rw [hx] at hu
          injection hu with hu
          have hj := (List.getElem?_eq_some_iff.1 hx).1
          have := (hH j (by simpa using hj)).1
          rw [← hu, this]
          obtain ⟨h1, h2⟩ := List.getElem?_eq_some_iff.1 hx
          simp [h1, h2]
      have hvsv : ∀ (j : Nat) u, [Value.int .i64 v][j]? = some u → W.cell? ⟨biv.blk, 0 + j, none⟩ = some u := fun j u hu => by
        rcases j with _ | j
        · have hu : some (Value.int .i64 v) = some u := hu
          injection hu with hu
          have := (hHv 0 (by simp)).1
          rw [← hu]; simpa using this
        · simp at hu
      have h1c : ∀ u ∈ zs.map (Value.int .i64), u.oneCell' = true := fun u hu => by obtain ⟨z, _, rfl⟩ := List.mem_map.1 hu; rfl
      have h1v : ∀ u ∈ [Value.int .i64 v], u.oneCell' = true := fun u hu => by
        simp only [List.mem_singleton] at hu; subst hu; rfl
      by_cases hroom : zs.length + 1 ≤ cap
      · -- in place
        have hcell : ∀ j, j < zs.length + 1 → (W.cell? ⟨bi.blk, 0 + j, none⟩).isSome = true := fun j hj => by
          have hj2 : 0 + j < arr.size := by omega
          simp [World.cell?, g1]; omega
        have hfz : ∀ (o : Nat), W.frozen? ⟨bi.blk, o, none⟩ = false := fun o => by simp [World.frozen?, g1]
        have hfzv : ∀ (o : Nat), W.frozen? ⟨biv.blk, o, none⟩ = false := fun o => by simp [World.frozen?, q1]
        have hcall := Go.Proofs.Any2.slices_Insert_int_shift Ly bi.blk 0 zs.length cap 0 biv.blk 0 1 capv (zs.map (Value.int .i64)) [Value.int .i64 v] W h0 (by omega) hroom hcm hblk (by simp) rfl hcs hcell (fun j _ => hfz _) hvsv h1c h1v
          tv t arrv.size arr.size (by simp [World.shape?, q1]) (by simp [World.shape?, g1]) (by omega) (hfzv _) (hfzv _)
        simp only [Nat.zero_mul, Nat.zero_add, List.drop_zero, Int.ofNat_eq_natCast, Int.natCast_zero] at hcall ⊢
        refine hcall.mono ?_
        rintro e W' ⟨rfl, rfl⟩
        have hov := hS.over hb hl g1 (ns := (v :: zs).map intRow) (vx := (v :: zs).map (Value.int .i64)) 0 (by omega) (by omega) (by simp [hes]) (ints_vl _)
          (fun i r hr => by
            rw [List.getElem?_map] at hr
            cases hx : (v :: zs)[i]? with
            | none => rw [hx] at hr; cases hr
            | some x => rw [hx] at hr; cases hr; rw [hes]; rfl)
          (by simp; omega)
        simp only [Nat.zero_mul, Nat.zero_add, List.take_zero, List.nil_append, List.length_map, List.length_cons] at hov
        have r1 := setCells_rest bi.blk (zs.map (Value.int .i64)) 1 W.drew
        have r2 := setCells_rest bi.blk [Value.int .i64 v] 0 (W.drew.setCells bi.blk 1 (zs.map (Value.int .i64)))
        have hrow1 := setCells_row bi.blk t (0, 0) (zs.map (Value.int .i64)) 1 W.drew arr g1 (by simp; omega)
        have hrow2 := setCells_row bi.blk t (0, 0) [Value.int .i64 v] 0 _ _ hrow1 (by simp; omega)
        have hG : Grow (W.setRow bi.blk ((v :: zs).map (Value.int .i64) ++ arr.toList.drop (zs.length + 1)).toArray) ((W.drew.setCells bi.blk 1 (zs.map (Value.int .i64))).setCells bi.blk 0 [Value.int .i64 v]) := by
          refine ⟨r2.1.trans r1.1, r2.2.1.trans r1.2.1, r2.2.2.1.trans r1.2.2.1, by rw [setRow_size, r2.2.2.2.1, r1.2.2.2.1]; exact Nat.le_refl _, fun b hb' => ?_⟩
          by_cases he : b = bi.blk
          · subst he
            rw [setRow_heap _ _ _ _ _ _ g1, hrow2]
            congr 2
            have hlen : (arr.toList.take 1).length = 1 := by simp; omega
            simp [List.drop_append, hlen]
            rw [Nat.add_comm]
          · rw [setRow_get _ _ _ _ he, r2.2.2.2.2 b he, r1.2.2.2.2 b he]; rfl
        refine ⟨_, .a (.one (.osl id 0 (zs.length + 1))), _, k, β, rfl, .inr ⟨t, rows, hl, rfl, rfl⟩, ?_, hov.grow hG, ⟨fun _ h => h, fun _ h => .inl h, fun _ _ h => h, fun _ _ h => .inl h, fun j hj => ?_⟩, ?_⟩
        · exact V.osl id 0 (zs.length + 1) cap _ bi hb (fun _ => by simp) hroom (by rw [hes]; exact hs) hcm
        · rw [Store.set_ne _ _ (by intro e; subst e; exact hnd hl hj)]; exact hj
        · refine ⟨hG.os, hG.tape, hG.output, by have := hG.size; rwa [setRow_size] at this, fun b hb' hn => ?_⟩
          rw [hG.block b (by rw [setRow_size]; exact hb'), setRow_get _ _ _ _ (fun e => hn id bi hb (hnd hl) e.symm)]
      · -- a new row
        have hcall := Go.Proofs.Any2.slices_Insert_int_grow Ly bi.blk 0 zs.length cap 0 biv.blk 0 1 capv (zs.map (Value.int .i64)) [Value.int .i64 v] W h0 (by omega) hc (by omega) (by omega) (by simp) rfl hcs hvsv h1c h1v
        simp only [Nat.zero_mul, Nat.zero_add, List.drop_zero, List.take_zero, Nat.sub_zero, Int.ofNat_eq_natCast, Int.natCast_zero] at hcall ⊢
        refine hcall.mono ?_
        rintro e W' ⟨rfl, rfl⟩
        obtain ⟨id', hid'⟩ := hS.someFree
        have hge := grownCap_ge W (zs.length + 1) cap (ρ.t 3)
        have hlm := grownCap_le_maxLen W (zs.length + 1) cap (ρ.t 3) (by unfold maxLen; omega)
        generalize hcapn : grownCap W (zs.length + 1) cap (ρ.t 3) = cn at *
        generalize harr0 : ((#[] : Array Value) ++ Builtin.zeroCells (Value.int .i64 0).cells (zs.length + 1) ++ Builtin.zeroCells (Value.int .i64 0).cells (cn - (zs.length + 1))) = A0
        have hA0 : A0.size = cn := by rw [← harr0]; simp [Builtin.zeroCells, Value.cells]; omega
        have hA01 : ∀ u ∈ A0, cell1 u = true := fun u hu => by
          rw [← harr0] at hu
          simp [Builtin.zeroCells, Value.cells] at hu
          rcases hu with ⟨w, _, hw⟩ | ⟨w, _, hw⟩ <;> (rw [← hw, Nat.mod_one]; rfl)
        let A1 : Array Value := ((v :: zs).map (Value.int .i64) ++ A0.toList.drop (zs.length + 1)).toArray
        have hA1 : A1.size = cn := by simp [A1]; omega
        obtain ⟨hN, hGh⟩ := (hS.grow (Grow.drew W)).newRows hid' (arr := A1) (t := ρ.t 3) (rows := (v :: zs).map intRow) (fun r row hr => by
            rw [List.getElem?_map] at hr
            cases hx : (v :: zs)[r]? with
            | none => rw [hx] at hr; cases hr
            | some x => rw [hx] at hr; cases hr; rw [ht3]; rfl)
          (by rw [ht3, hA1]; simp; omega) (fun u hu => by
            simp only [A1, List.mem_toArray, List.mem_append] at hu
            rcases hu with hu | hu
            · obtain ⟨z, _, rfl⟩ := List.mem_map.1 hu; rfl
            · exact hA01 u (by simpa using List.mem_of_mem_drop hu))
          (fun r row j d hr hj => by
            rw [List.getElem?_map] at hr
            cases hx : (v :: zs)[r]? with
            | none => rw [hx] at hr; cases hr
            | some x =>
              rw [hx] at hr
              cases hr
              rcases j with _ | j
              · have hj : some (D.int .i64 x) = some d := hj
                injection hj with hj
                subst hj
                refine ⟨.int .i64 x, ?_, .int _ _⟩
                have hlt := (List.getElem?_eq_some_iff.1 hx).1
                rw [ht3, Nat.mul_one, Nat.add_zero]
                simp only [A1, List.getElem?_toArray]
                rw [List.getElem?_append_left (by simpa using hlt), List.getElem?_map, hx]; rfl
              · simp [intRow] at hj)
        have hhead : (W.alloc (.cells A0 (ρ.t 3))).drew.heap[W.heap.size]? = some (.cells A0 (ρ.t 3) (0, 0)) := by simp [heap_al, heap_dr]
        have r1 := setCells_rest W.heap.size [Value.int .i64 v] 0 (W.alloc (.cells A0 (ρ.t 3))).drew
        have r2 := setCells_rest W.heap.size (zs.map (Value.int .i64)) 1 ((W.alloc (.cells A0 (ρ.t 3))).drew.setCells W.heap.size 0 [Value.int .i64 v]).drew
        have hrow1 := setCells_row W.heap.size (ρ.t 3) (0, 0) [Value.int .i64 v] 0 _ _ hhead (by simp; omega)
        have hrow2 := setCells_row W.heap.size (ρ.t 3) (0, 0) (zs.map (Value.int .i64)) 1 ((W.alloc (.cells A0 (ρ.t 3))).drew.setCells W.heap.size 0 [Value.int .i64 v]).drew _ hrow1 (by simp; omega)
        have hG : Grow { W with drawn := W.drawn + 1, heap := W.heap.push (.cells A1 (ρ.t 3) (0, 0)) } (((W.alloc (.cells A0 (ρ.t 3))).drew.setCells W.heap.size 0 [Value.int .i64 v]).drew.setCells W.heap.size 1 (zs.map (Value.int .i64))) := by
          refine ⟨r2.1.trans r1.1, r2.2.1.trans r1.2.1, r2.2.2.1.trans r1.2.2.1, ?_, fun b hb' => ?_⟩
          · rw [r2.2.2.2.1]
            show _ ≤ (World.setCells _ _ _ _).heap.size
            rw [r1.2.2.2.1]; simp [heap_al, heap_dr]
          · by_cases he : b = W.heap.size
            · subst he
              rw [hrow2]
              simp only [Array.getElem?_push_size]
              congr 2
              simp only [A1]
              have e0 : A0.toList.length = cn := by simpa using hA0
              congr 1
              simp only [List.take_zero, List.nil_append, List.length_singleton, Nat.zero_add, List.length_map, List.singleton_append, List.map_cons]
              rw [show (1 : Nat) = 0 + 1 from rfl, List.take_succ_cons, List.take_zero]
              rw [Nat.add_comm (0 + 1), List.drop_succ_cons, List.drop_drop]
              simp [Nat.add_comm]
            · rw [r2.2.2.2.2 b he]
              show (World.setCells _ _ _ _).heap[b]? = _
              rw [r1.2.2.2.2 b he]
              simp [heap_al, heap_dr, Array.getElem?_push, he]
        refine ⟨_, .a (.one (.osl id' 0 (zs.length + 1))), _, k, _, rfl, .inl ⟨id', hid', rfl, rfl⟩, ?_, hN.grow hG, ⟨hGh.kk, hGh.kn, hGh.bb, hGh.bn, hGh.dd⟩, ?_⟩
        · exact V.osl id' 0 (zs.length + 1) cn _ ⟨W.heap.size, P.cellsOf (ρ.t 3), A1.size⟩ (by simp) (fun _ => by simp) hge (by simp [ht3, hA1]) hlm
        · refine ⟨hG.os, hG.tape, hG.output, Nat.le_trans (by simp) hG.size, fun b hb' hn => ?_⟩
          rw [hG.block b (by simp; omega)]
          simp [Array.getElem?_push, Nat.ne_of_lt hb']
end Go.Fw
end
section
set_option linter.unusedVariables false
set_option linter.unusedSimpArgs false
namespace Go.Proofs.YtaklhjodjbgmgaaGreat
open Go.Fw Go.Proofs Go.RowKit
variable {σ σ0 : Store}
section
variable {s : Store} {id : Nat} {L : YL} {y : Yd} {fr : List (Nat × SO)} {N : Nat}
theorem geti_out {α : Type} {l : List α} {t : Int} (h : ¬ (0 ≤ t ∧ t < l.length)) : geti l t = none := by
  by_cases h0 : 0 ≤ t
  · exact geti_ge (by omega)
  · exact geti_neg (by omega)
theorem YdIn.trainK (h : YdIn s id L y fr) (hw : Ywf y N) (t : Int) {Q : RV → Store → Prop} (hn : geti y.Trs t = none → Q (.a (.one .nilp)) s)
    (hs : ∀ k tr x z, t = (k : Nat) → y.Trs[k]? = some tr → L.tk[k]? = some x → L.trd = some z → Q (.a (.one (.el (.osl z.1 0 y.Trs.length) k 0))) s) : DCalls Tryz.prog n_yard_Yard_train [.one (pO id), iA t] s Q := by
  refine (h.train hw t).mono ?_
  rintro r s' ⟨rfl, rfl⟩
  by_cases ht : 0 ≤ t ∧ t < y.Trs.length
  · rw [if_pos ht]
    obtain ⟨k, rfl⟩ := Int.eq_ofNat_of_zero_le ht.1
    obtain ⟨tr, htr⟩ := get_of_lt (l := y.Trs) (j := k) (by omega)
    obtain ⟨x, hx⟩ := get_of_lt (l := L.tk) (j := k) (by rw [h.tkl]; omega)
    cases hz : L.trd with
    | none =>
      have := h.trn hz
      rw [this] at ht; simp at ht; omega
    | some z =>
      have e : trD L y.Trs.length = .osl z.1 0 y.Trs.length := by unfold trD; rw [hz]
      rw [e, Int.toNat_natCast]
      exact hs k tr x z rfl htr hx hz
  · rw [if_neg ht]
    exact hn (geti_out ht)
theorem YdIn.hdr (h : YdIn s id L y fr) {k : Nat} {tr : Tr} {x : Nat × List (List D)} (hx : L.tk[k]? = some x) (ht : y.Trs[k]? = some tr) (J : List (List D)) :
    ((L.tk.zip y.Trs).map trRow ++ J)[k]? = some [.osl x.1 0 tr.Secs.length, iD tr.Out] ∧ k < y.Trs.length ∧ k < ((L.tk.zip y.Trs).map trRow).length := by
  have h1 := (List.getElem?_eq_some_iff.1 ht).1
  have h2 : k < ((L.tk.zip y.Trs).map trRow).length := by simp [h.tkl]; exact h1
  refine ⟨?_, h1, h2⟩
  rw [List.getElem?_append_left h2, List.getElem?_map, zip_get hx ht]; rfl
theorem YdIn.hrow (h : YdIn s id L y fr) (hw : Ywf y N) {k : Nat} {tr : Tr} {x z : Nat × List (List D)} (hx : L.tk[k]? = some x) (ht : y.Trs[k]? = some tr) (hz : L.trd = some z) {n : Nat} (hn : n = y.Trs.length) :
    Row s (.osl z.1 0 n) k [.osl x.1 0 tr.Secs.length, iD tr.Out] := by
  obtain ⟨h1, h2, h3⟩ := h.hdr hx ht z.2
  have hA : At Tryz.prog s t_Train (.osl z.1 0 n) ((L.tk.zip y.Trs).map trRow) := at_pre (h.trd hz) (by simp [h.tkl, hn]) (by
    have := hw.trs
    simp [h.tkl]
    omega)
  exact hA.row (by rw [List.getElem?_append_left h3] at h1; exact h1)
theorem hdr_set {A : List (List D)} {J : List (List D)} {k : Nat} (h : k < A.length) (r : List D) : (A ++ J).set k r = A.set k r ++ J := List.set_append_left _ _ h
theorem YdIn.tail (h : YdIn s id L y fr) (hw : Ywf y N) (hN : N ≤ 2 ^ 43) (t : Int) : DCalls Tryz.prog n_yard_Yard_Tail [.one (pO id), iA t] s fun r s' => r = .a (iA (y.tail t).2) ∧ ∃ L', YdIn s' id L' (y.tail t).1 fr := by
  have hY : y.tail t = match geti y.Trs t with
    | none => (y, 30)
    | some t' => if t'.Secs.length = 1 then (y, 29) else ({ y with Trs := y.Trs.set t.toNat ⟨t'.Secs.take (t'.Secs.length - 1), t'.Out⟩ }, 0) := rfl
  refine W_yard_Yard_Tail (pO id) t s _ (h.trainK hw t (fun hn => ?_) fun k tr x z e htr hx hz => ?_)
  · rw [hY, hn]
    exact ⟨_, rfl, true, rfl, ⟨rfl, L, h⟩⟩
  subst e
  rw [geti_nat, htr, Int.toNat_natCast] at hY
  obtain ⟨hne, hlen, hsec⟩ := hw.tr tr (List.mem_of_getElem? htr)
  have hr := h.hrow hw hx htr hz rfl
  have hA := h.tkAt hx htr (by omega)
  have hY : y.tail k = if tr.Secs.length = 1 then (y, 29) else ({ y with Trs := y.Trs.set k ⟨tr.Secs.take (tr.Secs.length - 1), tr.Out⟩ }, 0) := hY
  have hl0 : 0 < tr.Secs.length := List.length_pos_iff.2 hne
  refine ⟨_, rfl, false, rfl, trivial, _, _, _, rfl, _, hr, _, rfl, hA.lenK ?_⟩
  rw [List.length_map]
  refine bce (fun h1 => ?_) (fun h1 => ?_)
  · rw [hY, if_pos (by omega)]; exact ⟨rfl, L, h⟩
  have h1 : tr.Secs.length ≠ 1 := fun e => h1 (by rw [e]; rfl)
  refine ⟨trivial, _, _, _, rfl, _, hr, _, rfl, trivial, _, _, _, rfl, _, hr, _, rfl, hA.lenK ?_⟩
  rw [List.length_map, w64_id (by omega) (by omega)]
  have hrow := (h.hdr hx htr z.2)
  refine hA.sliceK (lo := 0) (hi := tr.Secs.length - 1) c_int rfl (by omega) (by omega) (by rw [List.length_map]; omega) ⟨trivial, _, _, _, rfl, live_store (h.trd hz) hrow.2.1 hrow.1 (by simp) fun s1 h1' o1 => ?_⟩
  rw [hY, if_neg h1]
  have e0 : ((tr.Secs.length : Int) - 1).toNat = tr.Secs.length - 1 := by omega
  rw [e0, hdr_set hrow.2.2] at h1'
  have hlast : tr.Secs.map Go.Fw.encI = (tr.Secs.take (tr.Secs.length - 1)).map Go.Fw.encI ++ (tr.Secs.drop (tr.Secs.length - 1)).map Go.Fw.encI := by rw [← List.map_append, List.take_append_drop]
  refine ⟨rfl, _, h.putTr (x' := (x.1, (tr.Secs.drop (tr.Secs.length - 1)).map Go.Fw.encI ++ x.2)) (t' := ⟨tr.Secs.take (tr.Secs.length - 1), tr.Out⟩) hz hx htr ?_ ?_ (.inl rfl) fun j hj _ _ => o1 j hj⟩
  · rw [h1']
    unfold trRow
    simp only [List.length_take]
    rw [Nat.min_eq_left (by omega)]; rfl
  · have hxz : x.1 ≠ z.1 := fun e => by
      have a := h.tk hx htr
      rw [e, h.trd hz] at a
      injection a with a _
      exact absurd a (by decide)
    rw [o1 _ hxz, h.tk hx htr, hlast, List.append_assoc]
theorem sigAt_bound (c : Cf) (a e : Int) : c.sigAt a e = -1 ∨ (0 ≤ c.sigAt a e ∧ c.sigAt a e < c.Sigs.length) := by
  unfold Cf.sigAt
  rcases fidx_bound (fun x => decide ((⟨a, e⟩ : Sg) = x)) c.Sigs 0 with h | h
  · exact .inl h
  · exact .inr (by omega)
def HdrTo (d d4 : D) (n4 : Int) (s3 : Store) (Q : RV → Store → Prop) : Prop :=
  NotNil d ∧ ∃ s4 i4 off4, d = .el s4 i4 off4 ∧ storeEl [d4] s3 s4 i4 (off4 + 0) fun s5 => NotNil d ∧ ∃ s6 i5 off5, d = .el s6 i5 off5 ∧ storeEl [iD n4] s5 s6 i5 (off5 + 1) fun s7 => Q (.a (iA 0)) s7
theorem YdIn.goOn (h : YdIn s id L y fr) (hw : Ywf y N) (hN : N ≤ 2 ^ 42) {k : Nat} {tr : Tr} {x z : Nat × List (List D)} (htr : y.Trs[k]? = some tr) (hx : L.tk[k]? = some x) (hz : L.trd = some z) {v o : Int} {sec : Sec} (hv : geti y.C.Secs v = some sec) {Q : RV → Store → Prop}
    (hQ : ∀ s' L', YdIn s' id L' { y with Trs := y.Trs.set k ⟨v :: tr.Secs, y.way v o⟩ } fr → Q (.a (iA 0)) s') :
    Fw.newObj s (.live t_int [[iD v]]) fun vid s1 => DCalls Tryz.prog n_slices_Insert_int [.one (.osl x.1 0 tr.Secs.length), iA 0, .one (.osl vid 0 1)] s1 fun r2 s2 => ∃ d4, r2 = .a (.one d4) ∧ DCalls Tryz.prog n_yard_Yard_way [.one (pO id), iA v, iA o] s2 fun r3 s3 => ∃ n4, r3 = .a (iA n4) ∧
      HdrTo (.el (.osl z.1 0 y.Trs.length) k 0) d4 n4 s3 Q := by
  obtain ⟨hne, hlen, hsec⟩ := hw.tr tr (List.mem_of_getElem? htr)
  have hl0 : 0 < tr.Secs.length := List.length_pos_iff.2 hne
  refine newObj_intro fun vid s1 hvid _ he1 hs1 => ?_
  have h1 := h.ext he1
  have htk := h1.tk hx htr
  have htd := h1.trd hz
  have hxv : vid ≠ x.1 := fun e => by
    have := h.tk hx htr
    rw [← e, hvid] at this; cases this
  have hxz : x.1 ≠ z.1 := fun e => by
    rw [e, htd] at htk
    injection htk with a _
    exact absurd a (by decide)
  have hxi : x.1 ≠ id := fun e => by
    rw [e, h1.row] at htk
    injection htk with a _
    exact absurd a (by decide)
  have hxp : x.1 ≠ L.p := fun e => by
    rw [e, h1.pts] at htk
    injection htk with a _
    exact absurd a (by decide)
  refine (insert_DCalls (v := v) (rv := []) (zs := tr.Secs) insertLays c_int htk (by simp) (by rw [List.take_left' (by simp)]; rfl) hl0 c_int hs1 hxv (by omega) c_int).mono ?_
  have hrow := (h1.hdr hx htr z.2)
  have fin : ∀ (s2 : Store) (x' : Nat × List (List D)), s2 id = s1 id → s2 L.p = s1 L.p → s2 z.1 = s1 z.1 → (∀ j, j ≠ x.1 → s1 j ≠ .free → s2 j = s1 j) → s2 x'.1 = .live t_int ((v :: tr.Secs).map Go.Fw.encI ++ x'.2) → (x'.1 = x.1 ∨ s1 x'.1 = .free) → x'.1 ≠ z.1 →
      DCalls Tryz.prog n_yard_Yard_way [.one (pO id), iA v, iA o] s2 fun r3 s3 => ∃ n4, r3 = .a (iA n4) ∧
      HdrTo (.el (.osl z.1 0 y.Trs.length) k 0) (.osl x'.1 0 (tr.Secs.length + 1)) n4 s3 Q := fun s2 x' e1 e2 e3 e4 e5 e6 e7 => by
    refine (h1.wayAt hw e1 e2 hv o).use ⟨_, rfl, trivial, _, _, _, rfl, live_store (e3.trans htd) hrow.2.1 hrow.1 (by simp) fun s4 h4 o4 => ?_⟩
    have hl4 : k < (((L.tk.zip y.Trs).map trRow ++ z.2).set k (patch [.osl x.1 0 tr.Secs.length, iD tr.Out] (0 + 0) [.osl x'.1 0 (tr.Secs.length + 1)])).length := by
      have := hrow.2.2
      rw [List.length_set, List.length_append]; omega
    refine ⟨trivial, _, _, _, rfl, ?_⟩
    refine live_store h4 hrow.2.1 (List.getElem?_set_self (by simpa using hl4)) (by simp [patch]) fun s5 h5 o5 => ?_
    rw [List.set_set, hdr_set hrow.2.2] at h5
    refine hQ s5 _ (h1.putTr (x' := x') (t' := ⟨v :: tr.Secs, y.way v o⟩) hz hx htr (by rw [h5]; rfl) ?_ e6 fun j hj hj2 hf => ?_)
    · rw [o5 _ e7, o4 _ e7]; exact e5
    · rw [o5 _ hj, o4 _ hj, e4 j hj2 hf]
  rintro r s2 (⟨id', hid', rfl, rfl⟩ | ⟨t, rows, ht, rfl, rfl⟩)
  · have hne' : ∀ j, s1 j ≠ .free → (s1.set id' (.live (insertLays_ren.t 3) ((v :: tr.Secs).map intRow))) j = s1 j := fun j hj => Store.set_ne _ _ fun e => hj (by rw [e]; exact hid')
    refine ⟨_, rfl, fin _ (id', []) (hne' _ (by rw [h1.row]; intro e; cases e)) (hne' _ (by rw [h1.pts]; intro e; cases e)) (hne' _ (by rw [htd]; intro e; cases e)) (fun j _ hj => hne' j hj) ?_ (.inr hid') fun e => ?_⟩
    · rw [Store.set_same, List.append_nil]; rfl
    · have e : id' = z.1 := e
      rw [e, htd] at hid'; cases hid'
  · rw [htk] at ht
    injection ht with ht1 ht2
    subst ht1 ht2
    refine ⟨_, rfl, fin _ (x.1, (tr.Secs.map Go.Fw.encI ++ x.2).drop (tr.Secs.length + 1)) (Store.set_ne _ _ (Ne.symm hxi)) (Store.set_ne _ _ (Ne.symm hxp)) (Store.set_ne _ _ (Ne.symm hxz)) (fun j hj _ => Store.set_ne _ _ hj) ?_ (.inl rfl) hxz⟩
    rw [Store.set_same]; rfl
theorem YdIn.move (h : YdIn s id L y fr) (hw : Ywf y N) (hN : N ≤ 2 ^ 42) (t : Int) : DCalls Tryz.prog n_yard_Yard_Move [.one (pO id), iA t] s fun r s' => r = .a (iA (y.move t).2) ∧ ∃ L', YdIn s' id L' (y.move t).1 fr := by
  have hY : y.move t = match geti y.Trs t with
    | none => (y, 30)
    | some t' => match nxt y.C.Jts t'.hd t'.Out with
      | none => (y, 29)
      | some (s, e) =>
        if t'.Out < 0 then (y, 29) else
        if (match geti y.Lps (y.C.sigAt t'.hd t'.Out) with
          | some l => decide (l.Last < 0 ∨ y.Now - l.Last > y.C.Brake)
          | none => false) = true then (y, 29) else
        ({ y with Trs := y.Trs.set t.toNat ⟨s :: t'.Secs, y.way s e⟩ }, 0) := rfl
  refine W_yard_Yard_Move (pO id) t s _ (h.trainK hw t (fun hn => ?_) fun k tr x z e htr hx hz => ?_)
  · rw [hY, hn]
    exact ⟨_, rfl, true, rfl, ⟨rfl, L, h⟩⟩
  subst e
  rw [geti_nat, htr, Int.toNat_natCast] at hY
  obtain ⟨hne, hlen, hsec⟩ := hw.tr tr (List.mem_of_getElem? htr)
  have hr := h.hrow hw hx htr hz rfl
  have hA := h.tkAt hx htr (by omega)
  have hl0 : 0 < tr.Secs.length := List.length_pos_iff.2 hne
  obtain ⟨a, ha⟩ := get_of_lt (l := tr.Secs) (j := 0) (by omega)
  have hhd : tr.hd = a := by unfold Tr.hd; rw [List.head?_eq_getElem?, ha]; rfl
  have hY : y.move k = match nxt y.C.Jts tr.hd tr.Out with
      | none => (y, 29)
      | some (s, e) =>
        if tr.Out < 0 then (y, 29) else
        if (match geti y.Lps (y.C.sigAt tr.hd tr.Out) with
          | some l => decide (l.Last < 0 ∨ y.Now - l.Last > y.C.Brake)
          | none => false) = true then (y, 29) else
        ({ y with Trs := y.Trs.set k ⟨s :: tr.Secs, y.way s e⟩ }, 0) := hY
  rw [hhd] at hY
  have hY : y.move k = match nxt y.C.Jts a tr.Out with
      | none => (y, 29)
      | some (s, e) =>
        if tr.Out < 0 then (y, 29) else
        if (match geti y.Lps (y.C.sigAt a tr.Out) with
          | some l => decide (l.Last < 0 ∨ y.Now - l.Last > y.C.Brake)
          | none => false) = true then (y, 29) else
        ({ y with Trs := y.Trs.set k ⟨s :: tr.Secs, y.way s e⟩ }, 0) := hY
  refine ⟨_, rfl, false, rfl, trivial, _, _, _, rfl, _, box_row h.row, L.c1, rfl, trivial, _, _, _, rfl, _, hr, _, rfl, hA.load (j := 0) (map_get ha) c_int rfl ⟨a, rfl, trivial, _, _, _, rfl, _, hr, tr.Out, rfl, (topo_Next_ok a tr.Out (h.cfg s).jts).mono ?_⟩⟩
  rintro r s' ⟨rfl, rfl⟩
  cases hn : nxt y.C.Jts a tr.Out with
  | none =>
    rw [hn] at hY
    refine ⟨0, 0, false, rfl, fun R hR => ⟨trivial, _, _, _, rfl, _, hr, tr.Out, rfl, bcd (fun _ => ?_) (fun _ => bcnot (fun _ => ?_) (fun e => by cases e))⟩⟩
    · rw [hY]; exact ⟨rfl, L, h⟩
    · rw [hY]; exact ⟨rfl, L, h⟩
  | some p =>
    obtain ⟨v, o⟩ := p
    rw [hn] at hY
    obtain ⟨sec, hsv⟩ := nxt_sec (check_parts hw.chk).1 hn
    refine ⟨v, o, true, rfl, ?_⟩
    intro R hR
    refine ⟨trivial, _, _, _, rfl, _, hr, tr.Out, rfl, bcd (fun h1 => ?_) (fun h1 => bcnot (fun e => by cases e) (fun _ => hR s' ?_))⟩
    · have hY' : y.move k = (y, 29) := by rw [hY]; simp only [if_pos h1]
      rw [hY']; exact ⟨rfl, L, h⟩
    clear hR R
    have hY : y.move k = if (match geti y.Lps (y.C.sigAt a tr.Out) with
          | some l => decide (l.Last < 0 ∨ y.Now - l.Last > y.C.Brake)
          | none => false) = true then (y, 29) else
        ({ y with Trs := y.Trs.set k ⟨v :: tr.Secs, y.way v o⟩ }, 0) := by rw [hY]; simp only [if_neg h1]
    intro R1 hR1
    refine ⟨trivial, _, _, _, rfl, _, hr, _, rfl, hA.load (j := 0) (map_get ha) c_int rfl ⟨a, rfl, trivial, _, _, _, rfl, _, hr, tr.Out, rfl, (h.signal a tr.Out).use ⟨_, rfl, ?_⟩⟩⟩
    have go : (match geti y.Lps (y.C.sigAt a tr.Out) with
          | some l => decide (l.Last < 0 ∨ y.Now - l.Last > y.C.Brake)
          | none => false) = false → R1 s' := fun hf => hR1 s' ⟨trivial, _, _, _, rfl, _, hr, _, rfl, by
      rw [hY, if_neg (by rw [hf]; decide)]
      exact h.goOn hw hN htr hx hz hsv (o := o) (Q := fun r s'' => r = .a (iA 0) ∧ ∃ L', YdIn s'' id L' { y with Trs := y.Trs.set k ⟨v :: tr.Secs, y.way v o⟩ } fr) (fun s'' L' hy => ⟨rfl, L', hy⟩)⟩
    rcases sigAt_bound y.C a tr.Out with hb | ⟨hb1, hb2⟩
    · rw [hb] at go ⊢
      exact bcd (fun e => absurd e (by decide)) (fun _ => go (by rw [geti_neg (by decide)]))
    · refine bcd (fun _ => ?_) (fun e => absurd hb1 e)
      obtain ⟨q, hq⟩ := Int.eq_ofNat_of_zero_le hb1
      rw [hq] at go hY hb2 ⊢
      obtain ⟨l, hl⟩ := get_of_lt (l := y.Lps) (j := q) (by have := hw.lps; omega)
      rw [geti_nat, hl] at go hY
      have hlast := hw.last l (List.mem_of_getElem? hl)
      have hnow := hw.now
      refine ⟨trivial, _, _, _, rfl, _, box_row h.row, _, rfl, (h.lpsAt hw).load (map_get hl) c_yard_lamp rfl ⟨l.Last, rfl, bcd (fun g1 => ?_) (fun g1 => ?_)⟩⟩
      · rw [hY, if_pos (decide_eq_true (.inl g1))]; exact ⟨rfl, L, h⟩
      refine ⟨trivial, _, _, _, rfl, _, box_row h.row, y.Now, rfl, trivial, _, _, _, rfl, _, box_row h.row, _, rfl, (h.lpsAt hw).load (map_get hl) c_yard_lamp rfl ⟨l.Last, rfl, trivial, _, _, _, rfl, _, box_row h.row, y.C.Brake, rfl, ?_⟩⟩
      rw [w64_id (by omega) (by omega)]
      refine bcd (fun g2 => ?_) (fun g2 => go (decide_eq_false (by rintro (g | g) <;> contradiction)))
      rw [hY, if_pos (decide_eq_true (.inr g2))]; exact ⟨rfl, L, h⟩
theorem Ywf.setTr (hw : Ywf y N) {k : Nat} {t' : Tr} {M : Nat} (hM : N ≤ M) (ht : t'.Secs ≠ [] ∧ t'.Secs.length ≤ M ∧ ∀ s ∈ t'.Secs, ∃ x, geti y.C.Secs s = some x) : Ywf { y with Trs := y.Trs.set k t' } M :=
  ⟨hw.chk, hw.pts, hw.gts, hw.lps, hw.psts, hw.pst, by simpa using hw.trs, fun t h => by
    rcases List.mem_or_eq_of_mem_set h with h | rfl
    · obtain ⟨a, b, c⟩ := hw.tr t h; exact ⟨a, by omega, c⟩
    · exact ht, hw.now, hw.last, hw.left⟩
theorem Ywf.up (hw : Ywf y N) {M : Nat} (hM : N ≤ M) : Ywf y M :=
  ⟨hw.chk, hw.pts, hw.gts, hw.lps, hw.psts, hw.pst, hw.trs, fun t h => by obtain ⟨a, b, c⟩ := hw.tr t h; exact ⟨a, by omega, c⟩, hw.now, hw.last, hw.left⟩
theorem geti_nth {α : Type} {l : List α} {t : Int} {x : α} (h : geti l t = some x) : x ∈ l := List.mem_of_getElem? (geti_some h).2.2
theorem Ywf.tail (hw : Ywf y N) (t : Int) : Ywf (y.tail t).1 N := by
  unfold Yd.tail
  split
  · exact hw
  · rename_i tr htr
    obtain ⟨a, b, c⟩ := hw.tr tr (geti_nth htr)
    have hl : 0 < tr.Secs.length := List.length_pos_iff.2 a
    split
    · exact hw
    · rename_i hne
      have h1 : tr.Secs.take (tr.Secs.length - 1) ≠ [] := fun e => by
        have := congrArg List.length e
        rw [List.length_take, List.length_nil] at this; omega
      have h2 : (tr.Secs.take (tr.Secs.length - 1)).length ≤ N := by rw [List.length_take]; omega
      exact hw.setTr (Nat.le_refl _) ⟨h1, h2, fun s hs => c s (List.mem_of_mem_take hs)⟩
theorem Ywf.move (hw : Ywf y N) (t : Int) : Ywf (y.move t).1 (N + 1) := by
  unfold Yd.move
  split
  · exact hw.up (M := N + 1) (by omega)
  · rename_i tr htr
    obtain ⟨a, b, c⟩ := hw.tr tr (geti_nth htr)
    split
    · exact hw.up (M := N + 1) (by omega)
    · rename_i v o hn
      have fin : Ywf { y with Trs := y.Trs.set t.toNat ⟨v :: tr.Secs, y.way v o⟩ } (N + 1) := by
        refine hw.setTr (M := N + 1) (t' := ⟨v :: tr.Secs, y.way v o⟩) (by omega) ⟨(by intro e; cases e), (by simp; omega), fun s hs => ?_⟩
        rcases List.mem_cons.1 hs with rfl | hs
        · exact nxt_sec (check_parts hw.chk).1 hn
        · exact c s hs
      have up := hw.up (M := N + 1) (by omega)
      repeat' split
      all_goals first | exact up | exact fin
end
end Go.Proofs.YtaklhjodjbgmgaaGreat
end
section
set_option linter.unusedVariables false
set_option linter.unusedSimpArgs false
namespace Go.Fw
variable {P : Program}
theorem Heap.sub {s : Store} {l l' : List (Nat × SO)} (h : Heap s l) (hs : l'.Sublist l) : Heap s l' := ⟨(hs.map _).nodup h.1, fun x hx => h.2 x (hs.subset hx)⟩
theorem Heap.put0 {s s' : Store} {id : Nat} {so so' : SO} {R : List (Nat × SO)} (h : Heap s ((id, so) :: R)) (hs : s' id = so') (hne : so' ≠ .free) (ho : ∀ j, j ≠ id → s j ≠ .free → s' j = s j) : Heap s' ((id, so') :: R) :=
  Heap.put (A := []) (X := [(id, so)]) (B := R) (k := 0) h rfl hs hne ho
theorem Heap.row {s : Store} {id : Nat} {t : TypeId} {row : List D} {R : List (Nat × SO)} {off : Nat} {x : D} {K : Store → Prop} (h : Heap s ((id, .live t [row]) :: R)) (ho : off + 1 ≤ row.length)
    (hK : ∀ s', Heap s' ((id, .live t [patch row off [x]]) :: R) → (∀ j, j ≠ id → s' j = s j) → K s') : storeEl [x] s (.osl id 0 1) 0 off K :=
  cell_store (h.get (List.mem_cons_self)) ho fun s' h1 o1 => hK s' (h.put0 h1 (by intro e; cases e) fun j hj _ => o1 j hj) o1
theorem Heap.new' {s s' : Store} {a : Nat × SO} {R : List (Nat × SO)} {id : Nat} {so : SO} (h : Heap s (a :: R)) (hid : s id = .free) (he : Ext s s') (hs : s' id = so) (hne : so ≠ .free) : Heap s' (a :: (id, so) :: R) :=
  (h.new hid he hs hne).perm (.swap _ _ _)
open Classical in
theorem perm_cnt {α : Type} {l m : List α} (h : ∀ a, l.count a = m.count a) : l.Perm m := List.perm_iff_count.2 h
def objPost (G : List A → Nat → RV → SO → Prop) (az : List A) (s : Store) (r : RV) (s' : Store) : Prop := ∃ id so, s id = .free ∧ so ≠ .free ∧ G az id r so ∧ s' = s.set id so
theorem obj_spec {f : FuncId} {pre : List A → Store → Prop} {G : List A → Nat → RV → SO → Prop} (hc : ∀ az s, pre az s → DCalls P f az s (objPost G az s)) (hex : ∀ az s id, pre az s → ∃ r so, so ≠ .free ∧ G az id r so)
    (hst : ∀ az s i so, s i = .free → so ≠ .free → pre az s → pre az (s.set i so)) : SpecOk P f pre (objPost G) := by
  refine ⟨hc, ?_, ?_, ?_, ?_⟩
  · rintro az s hp ⟨N, hN⟩
    obtain ⟨r, so, h1, h2⟩ := hex az s N hp
    exact ⟨r, _, ⟨N, so, hN N (Nat.le_refl _), h1, h2, rfl⟩, Fin.set' ⟨N, hN⟩ _ _⟩
  · rintro az s r s' ⟨id, so, h1, h2, h3, rfl⟩ hf
    exact hf.set' _ _
  · rintro az s i so hi hso hp
    refine ⟨hst az s i so hi hso hp, ?_⟩
    rintro r s' ⟨id, so', h1, h2, h3, rfl⟩
    have hne : id ≠ i := fun e => by
      rw [e, Store.set_same] at h1; exact hso h1
    refine ⟨s.set id so', ⟨id, so', by rw [Store.set_ne _ _ hne] at h1; exact h1, h2, h3, rfl⟩, by rw [Store.set_ne _ _ (Ne.symm hne)]; exact hi, ?_⟩
    funext j
    by_cases h4 : j = id
    · subst h4; rw [Store.set_same, Store.set_ne _ _ hne, Store.set_same]
    · by_cases h5 : j = i
      · subst h5; rw [Store.set_ne _ _ h4, Store.set_same, Store.set_same]
      · rw [Store.set_ne _ _ h4, Store.set_ne _ _ h5, Store.set_ne _ _ h5, Store.set_ne _ _ h4]
  · rintro az s r s' hp ⟨id, so, h1, h2, h3, rfl⟩ i hi
    exact Store.set_ne _ _ fun e => hi (by rw [e]; exact h1)
theorem val_spec {f : FuncId} {F : List A → RV → Prop} {pre : List A → Store → Prop} (hc : ∀ az s, pre az s → DCalls P f az s fun r s' => s' = s ∧ F az r) (hex : ∀ az s, pre az s → ∃ r, F az r)
    (hst : ∀ az s i so, s i = .free → so ≠ .free → pre az s → pre az (s.set i so)) : SpecOk P f pre (fun az s r s' => s' = s ∧ F az r) := by
  refine ⟨hc, ?_, ?_, ?_, ?_⟩
  · rintro az s hp hf
    obtain ⟨r, hr⟩ := hex az s hp
    exact ⟨r, s, ⟨rfl, hr⟩, hf⟩
  · rintro az s r s' ⟨rfl, _⟩ hf; exact hf
  · rintro az s i so hi hso hp
    refine ⟨hst az s i so hi hso hp, ?_⟩
    rintro r s' ⟨rfl, hr⟩
    exact ⟨s, ⟨rfl, hr⟩, hi, rfl⟩
  · rintro az s r s' _ ⟨rfl, _⟩ i hi
    rfl
theorem ret_obj {σ s : Store} {id len : Nat} {t : TypeId} {rows : List (List D)} (he : Ext σ s) (hid : σ id = .free) (hs : s id = .live t rows) (hf : ∀ row ∈ rows, ∀ x ∈ row, Flat x) :
    Ret P σ s (.a (.one (.osl id 0 len))) (σ.set id (.live t rows)) (.a (.one (.osl id 0 len))) := by
  refine ⟨fun i => σ i ≠ .free ∨ i = id, fun i h => .inl h, fun i h => ?_, fun i h => ?_, ?_⟩
  · have h1 : i ≠ id := fun e => h (.inr e)
    rw [Store.set_ne _ _ h1]
    exact Classical.not_not.1 fun e => h (.inl e)
  · by_cases e : i = id
    · subst e
      refine .inr ?_
      rw [hs, Store.set_same]
      refine ⟨rfl, rfl, fun j row row' h1 h2 => ?_⟩
      rw [h1] at h2; injection h2 with h2; subst h2
      refine ⟨rfl, fun k x y h3 h4 => ?_⟩
      rw [h3] at h4; injection h4 with h4; subst h4
      exact (hf row (List.mem_of_getElem? h1) x (List.mem_of_getElem? h3)).fz
    · have h2 : σ i ≠ .free := by rcases h with h | h; exact h; exact absurd h e
      rw [Store.set_ne _ _ e]
      exact .inl ⟨(he i h2).symm, he i h2⟩
  · exact .keep _ _ _ (.inr rfl)
end Go.Fw
end
