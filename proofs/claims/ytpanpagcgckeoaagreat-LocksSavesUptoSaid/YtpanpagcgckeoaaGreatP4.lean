/-
  Proofs that the statement of this claim leans on: part 4.
-/
import Derived.Test.YtpanpagcgckeoaaGreatP3
section
set_option maxRecDepth 100000
set_option linter.unusedVariables false
namespace Go.Proofs.YtpanpagcgckeoaaGreat
open Go.Fw Go.Proofs
def an_locks_Save : Ann := { esc := [], cbs := [1], draws := [], loops := [(5, { mods := [(29, SlotSh.one (Sh.int IntKind.i64))], keep := [1, 4, 27, 28] }), (10, { mods := [(43, SlotSh.one (Sh.int IntKind.i64))], keep := [1, 4, 41, 42] }), (15, { mods := [(59, SlotSh.one (Sh.int IntKind.i64))], keep := [4, 57, 58] })], joins := [] }
def V_locks_Save (k0 : D) (k1 : D) (k2 : D) (k3 : D) (k4 : D) (k5 : D) (k6 : Bool) (σ : Store) (Qp : RV → Store → Prop) : Prop :=
  ∃ len : Nat, (Len k4 len) ∧ bcase (decide ((len : Int) < 4)) (Qp (.tup [.one (.str (ByteArray.mk (List.toArray []))), .one (.int .i64 32)]) σ) (∃ len1 : Nat, (Len k0 len1) ∧ ∃ len2 : Nat, (Len k1 len2) ∧ DCalls Tryz.prog n_pack_New [.one (.int .i64 (w64 ((w64 ((w64 (2 * (len1 : Int))) + (w64 (2 * (len2 : Int))))) + 36)))] σ (fun (r : RV) => fun (σ' : Store) => ∃ d : D, (r = (.a (.one d) : RV)) ∧ ∃ len3 : Nat, (Len k0 len3) ∧ ∃ I : Int → Store → Prop, ∃ μ : Int → Store → Nat, (I 0 σ') ∧ ∀ n : Int, ∀ σ'1 : Store, (I n σ'1) → bcase (decide (n < (len3 : Int))) (∃ len4 : Nat, (Idx Tryz.prog σ'1 k0 1 len4) ∧ ((0 : Int) ≤ n) ∧ (n < (len4 : Int)) ∧ ∃ row : List D, (Row σ'1 k0 (Int.toNat n) row) ∧ ∃ n1 : Int, ((List.take 1 row) = ([.int .i64 n1] : List D)) ∧ Fw.newObj σ'1 (.live t_int [[.int .i64 (w64 ((ite ((1048576 : Int) < n1) 1048576 n1) + 2))]]) (fun (id : Nat) => fun (σ'2 : Store) => DCalls Tryz.prog n_pack_Writer_Word [.one d, .one (.osl id 0 1)] σ'2 (fun (r1 : RV) => fun (σ'3 : Store) => (r1 = (.tup [] : RV)) ∧ (I (w64 (n + 1)) σ'3) ∧ ((μ (w64 (n + 1)) σ'3) < (μ n σ'1))))) (∃ len4 : Nat, (Len k1 len4) ∧ ∃ I1 : Int → Store → Prop, ∃ μ1 : Int → Store → Nat, (I1 0 σ'1) ∧ ∀ n1 : Int, ∀ σ'2 : Store, (I1 n1 σ'2) → bcase (decide (n1 < (len4 : Int))) (∃ len5 : Nat, (Idx Tryz.prog σ'2 k1 4 len5) ∧ ((0 : Int) ≤ n1) ∧ (n1 < (len5 : Int)) ∧ ∃ row : List D, (Row σ'2 k1 (Int.toNat n1) row) ∧ ∃ n2 : Int, ∃ n3 : Int, ∃ n4 : Int, ∃ n5 : Int, ((List.take 4 row) = ([.int .i64 n2, .int .i64 n3, .int .i64 n4, .int .i64 n5] : List D)) ∧ Fw.newObj σ'2 (.live t_int [[.int .i64 n2], [.int .i64 n4]]) (fun (id : Nat) => fun (σ'3 : Store) => DCalls Tryz.prog n_pack_Writer_Byte [.one d, .one (.osl id 0 2)] σ'3 (fun (r1 : RV) => fun (σ'4 : Store) => (r1 = (.tup [] : RV)) ∧ (I1 (w64 (n1 + 1)) σ'4) ∧ ((μ1 (w64 (n1 + 1)) σ'4) < (μ1 n1 σ'2))))) (∃ len5 : Nat, (IdxN Tryz.prog σ'2 k4 8 len5) ∧ ((0 : Int) ≤ 1) ∧ ((1 : Int) ≤ 4) ∧ ((4 : Int) ≤ (len5 : Int)) ∧ ∃ len6 : Nat, (Len (dsub k4 1 4) len6) ∧ ∃ I2 : Int → Store → Prop, ∃ μ2 : Int → Store → Nat, (I2 0 σ'2) ∧ ∀ n2 : Int, ∀ σ'3 : Store, (I2 n2 σ'3) → bcase (decide (n2 < (len6 : Int))) (∃ len7 : Nat, (Idx Tryz.prog σ'3 (dsub k4 1 4) 8 len7) ∧ ((0 : Int) ≤ n2) ∧ (n2 < (len7 : Int)) ∧ ∃ row : List D, (Row σ'3 (dsub k4 1 4) (Int.toNat n2) row) ∧ ∃ n3 : Int, ∃ n4 : Int, ∃ n5 : Int, ∃ n6 : Int, ∃ n7 : Int, ∃ n8 : Int, ∃ n9 : Int, ∃ n10 : Int, ((List.take 8 row) = ([.int .i64 n3, .int .i64 n4, .int .i64 n5, .int .i64 n6, .int .i64 n7, .int .i64 n8, .int .i64 n9, .int .i64 n10] : List D)) ∧ Fw.newObj σ'3 (.live t_int [[.int .i64 n3], [.int .i64 n4], [.int .i64 n5]]) (fun (id : Nat) => fun (σ'4 : Store) => DCalls Tryz.prog n_pack_Writer_Long [.one d, .one (.osl id 0 3)] σ'4 (fun (r1 : RV) => fun (σ'5 : Store) => (r1 = (.tup [] : RV)) ∧ (I2 (w64 (n2 + 1)) σ'5) ∧ ((μ2 (w64 (n2 + 1)) σ'5) < (μ2 n2 σ'3))))) (DCalls Tryz.prog n_pack_Writer_Done [.one d] σ'3 (fun (r1 : RV) => fun (σ'4 : Store) => ∃ s : ByteArray, ∃ n3 : Int, (r1 = (.tup [.one (.str s), .one (.int .i64 n3)] : RV)) ∧ Qp (.tup [.one (.str s), .one (.int .i64 n3)]) σ'4))))))
theorem W_locks_Save (k0 : D) (k1 : D) (k2 : D) (k3 : D) (k4 : D) (k5 : D) (k6 : Bool) (σ : Store) (Qp : RV → Store → Prop) (h : V_locks_Save k0 k1 k2 k3 k4 k5 k6 σ Qp) : DCalls Tryz.prog n_locks_Save [.agg [k0, k1, k2, k3, k4, k5, .bool k6]] σ Qp :=
  dcalls_of_body mixed (by kernel_rfl) Tryz.func5 an_locks_Save ((show V_locks_Save k0 k1 k2 k3 k4 k5 k6 σ Qp = dbody Tryz.prog Tryz.f5 an_locks_Save [.agg [k0, k1, k2, k3, k4, k5, .bool k6]] σ Qp by kernel_rfl) ▸ h)
def an_ref13_Same : Ann := { esc := [], cbs := [2, 3], draws := [(6, { ord := [0, 1, 2, 3, 4, 5, 6, 7, 8, 9, 10], nb := [], av := [], dir := [] }), (12, { ord := [0, 1, 2, 3, 4, 5, 6, 7, 8, 9, 10], nb := [], av := [], dir := [] }), (18, { ord := [0, 1, 2, 3, 4, 5, 6, 7, 8, 9, 10], nb := [], av := [], dir := [] }), (24, { ord := [0, 1, 2, 3, 4, 5, 6, 7, 8, 9, 10], nb := [], av := [], dir := [] })], loops := [(4, { mods := [(69, SlotSh.one (Sh.int IntKind.i64))], keep := [2, 3, 68] }), (10, { mods := [(87, SlotSh.one (Sh.int IntKind.i64))], keep := [2, 3, 86] }), (16, { mods := [(105, SlotSh.one (Sh.int IntKind.i64))], keep := [2, 3, 104] }), (22, { mods := [(123, SlotSh.one (Sh.int IntKind.i64))], keep := [2, 3, 122] })], joins := [(3, { mods := [], keep := [2, 3] })] }
def V_ref13_Same (a0 : D) (a1 : D) (a2 : D) (a3 : D) (a4 : D) (a5 : D) (a6 : Bool) (b0 : D) (b1 : D) (b2 : D) (b3 : D) (b4 : D) (b5 : D) (b6 : Bool) (σ : Store) (Qp : RV → Store → Prop) : Prop :=
  ∀ R : Store → Prop, (∀ σ' : Store, (∃ len : Nat, (Len a1 len) ∧ ∃ I : Int → Store → Prop, ∃ μ : Int → Store → Nat, (I 0 σ') ∧ ∀ n : Int, ∀ σ'1 : Store, (I n σ'1) → bcase (decide (n < (len : Int))) (∃ len1 : Nat, (Idx Tryz.prog σ'1 a1 4 len1) ∧ ((0 : Int) ≤ n) ∧ (n < (len1 : Int)) ∧ ∃ row : List D, (Row σ'1 a1 (Int.toNat n) row) ∧ ∃ n1 : Int, ∃ n2 : Int, ∃ n3 : Int, ∃ n4 : Int, ((List.take 4 row) = ([.int .i64 n1, .int .i64 n2, .int .i64 n3, .int .i64 n4] : List D)) ∧ ∃ len2 : Nat, (Idx Tryz.prog σ'1 b1 4 len2) ∧ ((0 : Int) ≤ n) ∧ (n < (len2 : Int)) ∧ ∃ row1 : List D, (Row σ'1 b1 (Int.toNat n) row1) ∧ ∃ n5 : Int, ∃ n6 : Int, ∃ n7 : Int, ∃ n8 : Int, ((List.take 4 row1) = ([.int .i64 n5, .int .i64 n6, .int .i64 n7, .int .i64 n8] : List D)) ∧ bcase (!((n1 == n5) && ((n2 == n6) && ((n3 == n7) && (n4 == n8))))) (Qp (.a (.one (.bool false))) σ'1) ((I (w64 (n + 1)) σ'1) ∧ ((μ (w64 (n + 1)) σ'1) < (μ n σ'1)))) (∃ len1 : Nat, (Len a2 len1) ∧ ∃ I1 : Int → Store → Prop, ∃ μ1 : Int → Store → Nat, (I1 0 σ'1) ∧ ∀ n1 : Int, ∀ σ'2 : Store, (I1 n1 σ'2) → bcase (decide (n1 < (len1 : Int))) (∃ len2 : Nat, (Idx Tryz.prog σ'2 a2 2 len2) ∧ ((0 : Int) ≤ n1) ∧ (n1 < (len2 : Int)) ∧ ∃ row : List D, (Row σ'2 a2 (Int.toNat n1) row) ∧ ∃ n2 : Int, ∃ n3 : Int, ((List.take 2 row) = ([.int .i64 n2, .int .i64 n3] : List D)) ∧ ∃ len3 : Nat, (Idx Tryz.prog σ'2 b2 2 len3) ∧ ((0 : Int) ≤ n1) ∧ (n1 < (len3 : Int)) ∧ ∃ row1 : List D, (Row σ'2 b2 (Int.toNat n1) row1) ∧ ∃ n4 : Int, ∃ n5 : Int, ((List.take 2 row1) = ([.int .i64 n4, .int .i64 n5] : List D)) ∧ bcase (!((n2 == n4) && (n3 == n5))) (Qp (.a (.one (.bool false))) σ'2) ((I1 (w64 (n1 + 1)) σ'2) ∧ ((μ1 (w64 (n1 + 1)) σ'2) < (μ1 n1 σ'2)))) (∃ len2 : Nat, (Len a3 len2) ∧ ∃ I2 : Int → Store → Prop, ∃ μ2 : Int → Store → Nat, (I2 0 σ'2) ∧ ∀ n2 : Int, ∀ σ'3 : Store, (I2 n2 σ'3) → bcase (decide (n2 < (len2 : Int))) (∃ len3 : Nat, (Idx Tryz.prog σ'3 a3 2 len3) ∧ ((0 : Int) ≤ n2) ∧ (n2 < (len3 : Int)) ∧ ∃ row : List D, (Row σ'3 a3 (Int.toNat n2) row) ∧ ∃ n3 : Int, ∃ n4 : Int, ((List.take 2 row) = ([.int .i64 n3, .int .i64 n4] : List D)) ∧ ∃ len4 : Nat, (Idx Tryz.prog σ'3 b3 2 len4) ∧ ((0 : Int) ≤ n2) ∧ (n2 < (len4 : Int)) ∧ ∃ row1 : List D, (Row σ'3 b3 (Int.toNat n2) row1) ∧ ∃ n5 : Int, ∃ n6 : Int, ((List.take 2 row1) = ([.int .i64 n5, .int .i64 n6] : List D)) ∧ bcase (!((n3 == n5) && (n4 == n6))) (Qp (.a (.one (.bool false))) σ'3) ((I2 (w64 (n2 + 1)) σ'3) ∧ ((μ2 (w64 (n2 + 1)) σ'3) < (μ2 n2 σ'3)))) (∃ len3 : Nat, (Len a4 len3) ∧ ∃ I3 : Int → Store → Prop, ∃ μ3 : Int → Store → Nat, (I3 0 σ'3) ∧ ∀ n3 : Int, ∀ σ'4 : Store, (I3 n3 σ'4) → bcase (decide (n3 < (len3 : Int))) (∃ len4 : Nat, (Idx Tryz.prog σ'4 a4 8 len4) ∧ ((0 : Int) ≤ n3) ∧ (n3 < (len4 : Int)) ∧ ∃ row : List D, (Row σ'4 a4 (Int.toNat n3) row) ∧ ∃ n4 : Int, ∃ n5 : Int, ∃ n6 : Int, ∃ n7 : Int, ∃ n8 : Int, ∃ n9 : Int, ∃ n10 : Int, ∃ n11 : Int, ((List.take 8 row) = ([.int .i64 n4, .int .i64 n5, .int .i64 n6, .int .i64 n7, .int .i64 n8, .int .i64 n9, .int .i64 n10, .int .i64 n11] : List D)) ∧ ∃ len5 : Nat, (Idx Tryz.prog σ'4 b4 8 len5) ∧ ((0 : Int) ≤ n3) ∧ (n3 < (len5 : Int)) ∧ ∃ row1 : List D, (Row σ'4 b4 (Int.toNat n3) row1) ∧ ∃ n12 : Int, ∃ n13 : Int, ∃ n14 : Int, ∃ n15 : Int, ∃ n16 : Int, ∃ n17 : Int, ∃ n18 : Int, ∃ n19 : Int, ((List.take 8 row1) = ([.int .i64 n12, .int .i64 n13, .int .i64 n14, .int .i64 n15, .int .i64 n16, .int .i64 n17, .int .i64 n18, .int .i64 n19] : List D)) ∧ bcase (!((n4 == n12) && ((n5 == n13) && ((n6 == n14) && ((n7 == n15) && (((n8 == n16) && ((n9 == n17) && (n10 == n18))) && (n11 == n19))))))) (Qp (.a (.one (.bool false))) σ'4) ((I3 (w64 (n3 + 1)) σ'4) ∧ ((μ3 (w64 (n3 + 1)) σ'4) < (μ3 n3 σ'4)))) (Qp (.a (.one (.bool true))) σ'4))))) → R σ') → DCalls Tryz.prog n_ref01_SameInts [.one a0, .one b0] σ (fun (r : RV) => fun (σ' : Store) => ∃ b : Bool, (r = (.a (.one (.bool b)) : RV)) ∧ bcase (!b) (Qp (.a (.one (.bool false))) σ') (DCalls Tryz.prog n_ref01_SameInts [.one a5, .one b5] σ' (fun (r1 : RV) => fun (σ'1 : Store) => ∃ b7 : Bool, (r1 = (.a (.one (.bool b7)) : RV)) ∧ bcase (!b7) (Qp (.a (.one (.bool false))) σ'1) (bcase (!(a6 == b6)) (Qp (.a (.one (.bool false))) σ'1) (∃ len : Nat, (Len a1 len) ∧ ∃ len1 : Nat, (Len b1 len1) ∧ bcase ((len : Int) != (len1 : Int)) (Qp (.a (.one (.bool false))) σ'1) (∃ len2 : Nat, (Len a2 len2) ∧ ∃ len3 : Nat, (Len b2 len3) ∧ bcase ((len2 : Int) != (len3 : Int)) (Qp (.a (.one (.bool false))) σ'1) (∃ len4 : Nat, (Len a3 len4) ∧ ∃ len5 : Nat, (Len b3 len5) ∧ bcase ((len4 : Int) != (len5 : Int)) (Qp (.a (.one (.bool false))) σ'1) (∃ len6 : Nat, (Len a4 len6) ∧ ∃ len7 : Nat, (Len b4 len7) ∧ bcase ((len6 : Int) != (len7 : Int)) (Qp (.a (.one (.bool false))) σ'1) (R σ'1)))))))))
theorem W_ref13_Same (a0 : D) (a1 : D) (a2 : D) (a3 : D) (a4 : D) (a5 : D) (a6 : Bool) (b0 : D) (b1 : D) (b2 : D) (b3 : D) (b4 : D) (b5 : D) (b6 : Bool) (σ : Store) (Qp : RV → Store → Prop) (h : V_ref13_Same a0 a1 a2 a3 a4 a5 a6 b0 b1 b2 b3 b4 b5 b6 σ Qp) : DCalls Tryz.prog n_ref13_Same [.agg [a0, a1, a2, a3, a4, a5, .bool a6], .agg [b0, b1, b2, b3, b4, b5, .bool b6]] σ Qp :=
  dcalls_of_body mixed (by kernel_rfl) Tryz.func9 an_ref13_Same ((show V_ref13_Same a0 a1 a2 a3 a4 a5 a6 b0 b1 b2 b3 b4 b5 b6 σ Qp = dbody Tryz.prog Tryz.f9 an_ref13_Same [.agg [a0, a1, a2, a3, a4, a5, .bool a6], .agg [b0, b1, b2, b3, b4, b5, .bool b6]] σ Qp by kernel_rfl) ▸ h)
def an_law13_station : Ann := { esc := [], cbs := [], draws := [], loops := [], joins := [], frz := [6, 11, 14, 17, 20, 22] }
def V_law13_station (σ : Store) (Qp : RV → Store → Prop) : Prop :=
  Qp (.a (.agg [.sl 3 [[.int .i64 0, .int .i64 0, .int .i64 0], [.int .i64 1, .int .i64 0, .int .i64 0], [.int .i64 0, .int .i64 0, .int .i64 0], [.int .i64 0, .int .i64 0, .int .i64 0], [.int .i64 0, .int .i64 0, .int .i64 1]], .sl 4 [[.int .i64 0, .int .i64 1, .int .i64 1, .int .i64 0], [.int .i64 1, .int .i64 1, .int .i64 2, .int .i64 0], [.int .i64 1, .int .i64 2, .int .i64 3, .int .i64 0], [.int .i64 2, .int .i64 1, .int .i64 4, .int .i64 0]], .sl 2 [[.int .i64 0, .int .i64 1], [.int .i64 2, .int .i64 1]], .nils, .sl 6 [[.int .i64 0, .int .i64 1, .sl 3 [[.int .i64 1, .int .i64 0, .int .i64 1], [.int .i64 2, .int .i64 0, .int .i64 1]], .nils, .nils, .bool false], [.int .i64 1, .int .i64 (-1), .sl 3 [[.int .i64 4, .int .i64 0, .int .i64 1]], .nils, .nils, .bool false]], .int .i64 2, .int .i64 1, .int .i64 4, .int .i64 1000])) σ
theorem W_law13_station (σ : Store) (Qp : RV → Store → Prop) (h : V_law13_station σ Qp) : DCalls Tryz.prog n_law13_station [] σ Qp :=
  dcalls_of_body mixed (by kernel_rfl) Tryz.func13 an_law13_station ((show V_law13_station σ Qp = dbody Tryz.prog Tryz.f13 an_law13_station [] σ Qp by kernel_rfl) ▸ h)
def an_pack_Writer_Byte : Ann := { esc := [], cbs := [], draws := [], loops := [], joins := [] }
def V_pack_Writer_Byte (w : D) (list : D) (σ : Store) (Qp : RV → Store → Prop) : Prop :=
  DCalls Tryz.prog n_pack_Writer_fixed [.one w, .one (.int .i64 8), .one list] σ (fun (r : RV) => fun (σ' : Store) => (r = (.tup [] : RV)) ∧ Qp (.tup []) σ')
theorem W_pack_Writer_Byte (w : D) (list : D) (σ : Store) (Qp : RV → Store → Prop) (h : V_pack_Writer_Byte w list σ Qp) : DCalls Tryz.prog n_pack_Writer_Byte [.one w, .one list] σ Qp :=
  dcalls_of_body mixed (by kernel_rfl) Tryz.func17 an_pack_Writer_Byte ((show V_pack_Writer_Byte w list σ Qp = dbody Tryz.prog Tryz.f17 an_pack_Writer_Byte [.one w, .one list] σ Qp by kernel_rfl) ▸ h)
def an_ref01_Writer_Num : Ann := { esc := [], cbs := [], draws := [], loops := [(2, { mods := [(6, SlotSh.one (Sh.int IntKind.i64)), (7, SlotSh.one (Sh.int IntKind.i64))], keep := [0, 1, 2] }), (9, { mods := [(1, SlotSh.one (Sh.int IntKind.i64)), (9, SlotSh.one (Sh.int IntKind.i64))], keep := [0, 8] })], joins := [(7, { mods := [], keep := [0, 1, 2] })] }
def V_ref01_Writer_Num (w : D) (n : Int) (width : Int) (σ : Store) (Qp : RV → Store → Prop) : Prop :=
  ∃ I : Int → Int → Store → Prop, ∃ μ : Int → Int → Store → Nat, (I 1 0 σ) ∧ ∀ n1 : Int, ∀ n2 : Int, ∀ σ' : Store, (I n1 n2 σ') → bcase (decide (n2 < width)) ((I (w64 (n1 * 256)) (w64 (n2 + 1)) σ') ∧ ((μ (w64 (n1 * 256)) (w64 (n2 + 1)) σ') < (μ n1 n2 σ'))) (∀ R : Store → Prop, (∀ σ'1 : Store, (((0 : Int) ≤ width) ∧ (width ≤ width) ∧ (((1 : Int) * width) ≤ (2 ^ 48)) ∧ Fw.newObj σ'1 (.live t_uint8 (List.replicate (Int.toNat width) [.int .u8 0])) (fun (id : Nat) => fun (σ'2 : Store) => ∃ I1 : Int → Int → Store → Prop, ∃ μ1 : Int → Int → Store → Nat, (I1 n (w64 (width - 1)) σ'2) ∧ ∀ n3 : Int, ∀ n4 : Int, ∀ σ'3 : Store, (I1 n3 n4 σ'3) → bcase (decide (n4 ≥ 0)) (∃ len : Nat, (Idx Tryz.prog σ'3 (.osl id 0 (Int.toNat width)) 1 len) ∧ ((0 : Int) ≤ n4) ∧ (n4 < (len : Int)) ∧ storeEl [.int .u8 (IntKind.wrap .u8 (Int.tmod n3 256))] σ'3 (.osl id 0 (Int.toNat width)) (Int.toNat n4) 0 (fun (σ'4 : Store) => (I1 (w64 (Int.tdiv n3 256)) (w64 (n4 - 1)) σ'4) ∧ ((μ1 (w64 (Int.tdiv n3 256)) (w64 (n4 - 1)) σ'4) < (μ1 n3 n4 σ'3)))) (DCalls Tryz.prog n_ref01_Writer_put [.one w, .one (.osl id 0 (Int.toNat width)), .one (.bool true)] σ'3 (fun (r : RV) => fun (σ'4 : Store) => (r = (.tup [] : RV)) ∧ Qp (.tup []) σ'4)))) → R σ'1) → bcase (decide (n < 0)) (DCalls Tryz.prog n_ref01_Writer_put [.one w, .one .nils, .one (.bool false)] σ' (fun (r : RV) => fun (σ'1 : Store) => (r = (.tup [] : RV)) ∧ Qp (.tup []) σ'1)) (bcase (decide (n ≥ n1)) (DCalls Tryz.prog n_ref01_Writer_put [.one w, .one .nils, .one (.bool false)] σ' (fun (r : RV) => fun (σ'1 : Store) => (r = (.tup [] : RV)) ∧ Qp (.tup []) σ'1)) (R σ')))
theorem W_ref01_Writer_Num (w : D) (n : Int) (width : Int) (σ : Store) (Qp : RV → Store → Prop) (h : V_ref01_Writer_Num w n width σ Qp) : DCalls Tryz.prog n_ref01_Writer_Num [.one w, .one (.int .i64 n), .one (.int .i64 width)] σ Qp :=
  dcalls_of_body mixed (by kernel_rfl) Tryz.func21 an_ref01_Writer_Num ((show V_ref01_Writer_Num w n width σ Qp = dbody Tryz.prog Tryz.f21 an_ref01_Writer_Num [.one w, .one (.int .i64 n), .one (.int .i64 width)] σ Qp by kernel_rfl) ▸ h)
def an_pack_Reader_Byte : Ann := { esc := [], cbs := [], draws := [], loops := [], joins := [] }
def V_pack_Reader_Byte (r : D) (σ : Store) (Qp : RV → Store → Prop) : Prop :=
  DCalls Tryz.prog n_pack_Reader_fixed [.one r, .one (.int .i64 1)] σ (fun (r1 : RV) => fun (σ' : Store) => ∃ n : Int, (r1 = (.a (.one (.int .i64 n)) : RV)) ∧ Qp (.a (.one (.int .i64 n))) σ')
theorem W_pack_Reader_Byte (r : D) (σ : Store) (Qp : RV → Store → Prop) (h : V_pack_Reader_Byte r σ Qp) : DCalls Tryz.prog n_pack_Reader_Byte [.one r] σ Qp :=
  dcalls_of_body mixed (by kernel_rfl) Tryz.func25 an_pack_Reader_Byte ((show V_pack_Reader_Byte r σ Qp = dbody Tryz.prog Tryz.f25 an_pack_Reader_Byte [.one r] σ Qp by kernel_rfl) ▸ h)
def an_ref13_New : Ann := { esc := [], cbs := [2], draws := [(1, { ord := [1, 2, 3, 5, 6, 7, 10, 0, 4, 8, 9, 11], nb := [2, 6], av := [], dir := [] })], loops := [(3, { mods := [(5, SlotSh.bx [Sh.any, Sh.any, Sh.any, Sh.any, Sh.any, Sh.any, Sh.bool]), (21, SlotSh.one (Sh.int IntKind.i64))], keep := [1, 2, 4, 20] })], joins := [] }
def V_ref13_New (c0 : D) (c1 : D) (c2 : D) (c3 : D) (c4 : D) (c5 : Int) (c6 : Int) (c7 : Int) (c8 : Int) (now : Int) (σ : Store) (Qp : RV → Store → Prop) : Prop :=
  ∃ len : Nat, (Len c4 len) ∧ ∃ len1 : Nat, (Len c0 len1) ∧ ((0 : Int) ≤ 4) ∧ ((4 : Int) ≤ 4) ∧ (((64 : Int) * 4) ≤ (2 ^ 48)) ∧ Fw.newObj σ (.live t_LineState [[.int .i64 0, .int .i64 0, .int .i64 0, .int .i64 0, .int .i64 0, .int .i64 0, .int .i64 0, .int .i64 0], [.int .i64 0, .int .i64 0, .int .i64 0, .int .i64 0, .int .i64 0, .int .i64 0, .int .i64 0, .int .i64 0], [.int .i64 0, .int .i64 0, .int .i64 0, .int .i64 0, .int .i64 0, .int .i64 0, .int .i64 0, .int .i64 0], [.int .i64 0, .int .i64 0, .int .i64 0, .int .i64 0, .int .i64 0, .int .i64 0, .int .i64 0, .int .i64 0]]) (fun (id : Nat) => fun (σ' : Store) => ((0 : Int) ≤ (len : Int)) ∧ ((len : Int) ≤ (len : Int)) ∧ (((32 : Int) * (len : Int)) ≤ (2 ^ 48)) ∧ Fw.newObj σ' (.live t_RouteState (List.replicate (Int.toNat (len : Int)) [.int .i64 0, .int .i64 0, .int .i64 0, .int .i64 0])) (fun (id1 : Nat) => fun (σ'1 : Store) => ((0 : Int) ≤ (len1 : Int)) ∧ ((len1 : Int) ≤ (len1 : Int)) ∧ (((8 : Int) * (len1 : Int)) ≤ (2 ^ 48)) ∧ Fw.newObj σ'1 (.live t_int (List.replicate (Int.toNat (len1 : Int)) [.int .i64 0])) (fun (id2 : Nat) => fun (σ'2 : Store) => ∃ len2 : Nat, (Len c0 len2) ∧ ∃ I : D → D → D → D → D → D → Bool → Int → Store → Prop, ∃ μ : D → D → D → D → D → D → Bool → Int → Store → Nat, (I .nils (.osl id1 0 (Int.toNat (len : Int))) .nils .nils (.osl id 0 4) (.osl id2 0 (Int.toNat (len1 : Int))) true 0 σ'2) ∧ ∀ d : D, ∀ d1 : D, ∀ d2 : D, ∀ d3 : D, ∀ d4 : D, ∀ d5 : D, ∀ b : Bool, ∀ n : Int, ∀ σ'3 : Store, (I d d1 d2 d3 d4 d5 b n σ'3) → bcase (decide (n < (len2 : Int))) (Fw.newObj σ'3 (.live t_int [[.int .i64 (-1)]]) (fun (id3 : Nat) => fun (σ'4 : Store) => appendTo Tryz.prog σ'4 t_int 8 d (.osl id3 0 1) (fun (d6 : D) => fun (σ'5 : Store) => (([[.nils, .nils, .nils, .nils, .nils, .nils, .bool false]] : List (List D)) = ([[.nils, .nils, .nils, .nils, .nils, .nils, .bool false]] : List (List D))) ∧ (I d6 d1 d2 d3 d4 d5 b (w64 (n + 1)) σ'5) ∧ ((μ d6 d1 d2 d3 d4 d5 b (w64 (n + 1)) σ'5) < (μ d d1 d2 d3 d4 d5 b n σ'3))))) (DCalls Tryz.prog n_ref13_movers [.agg [c0, c1, c2, c3, c4, .int .i64 c5, .int .i64 c6, .int .i64 c7, .int .i64 c8], .one (.int .i64 now)] σ'3 (fun (r : RV) => fun (σ'4 : Store) => ∃ d6 : D, ∃ d7 : D, (r = (.tup [.one d6, .one d7] : RV)) ∧ Qp (.a (.agg [d, d1, d6, d7, d4, d5, .bool b])) σ'4)))))
theorem W_ref13_New (c0 : D) (c1 : D) (c2 : D) (c3 : D) (c4 : D) (c5 : Int) (c6 : Int) (c7 : Int) (c8 : Int) (now : Int) (σ : Store) (Qp : RV → Store → Prop) (h : V_ref13_New c0 c1 c2 c3 c4 c5 c6 c7 c8 now σ Qp) : DCalls Tryz.prog n_ref13_New [.agg [c0, c1, c2, c3, c4, .int .i64 c5, .int .i64 c6, .int .i64 c7, .int .i64 c8], .one (.int .i64 now)] σ Qp :=
  dcalls_of_body mixed (by kernel_rfl) Tryz.func29 an_ref13_New ((show V_ref13_New c0 c1 c2 c3 c4 c5 c6 c7 c8 now σ Qp = dbody Tryz.prog Tryz.f29 an_ref13_New [.agg [c0, c1, c2, c3, c4, .int .i64 c5, .int .i64 c6, .int .i64 c7, .int .i64 c8], .one (.int .i64 now)] σ Qp by kernel_rfl) ▸ h)
def an_ref01_SameInts : Ann := { esc := [], cbs := [], draws := [(6, { ord := [0, 1, 2, 3, 4, 5, 6, 7, 8], nb := [], av := [], dir := [] })], loops := [(4, { mods := [(13, SlotSh.one (Sh.int IntKind.i64))], keep := [0, 1, 12] })], joins := [] }
def V_ref01_SameInts (a : D) (b : D) (σ : Store) (Qp : RV → Store → Prop) : Prop :=
  ∃ len : Nat, (Len a len) ∧ ∃ len1 : Nat, (Len b len1) ∧ bcase ((len : Int) != (len1 : Int)) (Qp (.a (.one (.bool false))) σ) (∃ len2 : Nat, (Len a len2) ∧ ∃ I : Int → Store → Prop, ∃ μ : Int → Store → Nat, (I 0 σ) ∧ ∀ n : Int, ∀ σ' : Store, (I n σ') → bcase (decide (n < (len2 : Int))) (∃ len3 : Nat, (Idx Tryz.prog σ' a 1 len3) ∧ ((0 : Int) ≤ n) ∧ (n < (len3 : Int)) ∧ ∃ row : List D, (Row σ' a (Int.toNat n) row) ∧ ∃ n1 : Int, ((List.take 1 row) = ([.int .i64 n1] : List D)) ∧ ∃ len4 : Nat, (Idx Tryz.prog σ' b 1 len4) ∧ ((0 : Int) ≤ n) ∧ (n < (len4 : Int)) ∧ ∃ row1 : List D, (Row σ' b (Int.toNat n) row1) ∧ ∃ n2 : Int, ((List.take 1 row1) = ([.int .i64 n2] : List D)) ∧ bcase (n1 != n2) (Qp (.a (.one (.bool false))) σ') ((I (w64 (n + 1)) σ') ∧ ((μ (w64 (n + 1)) σ') < (μ n σ')))) (Qp (.a (.one (.bool true))) σ'))
theorem W_ref01_SameInts (a : D) (b : D) (σ : Store) (Qp : RV → Store → Prop) (h : V_ref01_SameInts a b σ Qp) : DCalls Tryz.prog n_ref01_SameInts [.one a, .one b] σ Qp :=
  dcalls_of_body mixed (by kernel_rfl) Tryz.func33 an_ref01_SameInts ((show V_ref01_SameInts a b σ Qp = dbody Tryz.prog Tryz.f33 an_ref01_SameInts [.one a, .one b] σ Qp by kernel_rfl) ▸ h)
def an_slices_Repeat_int : Ann := { esc := [], cbs := [], draws := [(9, { ord := [0, 1, 2, 3, 4, 5, 6, 7, 8, 9], nb := [], av := [], dir := [] })], loops := [(8, { mods := [(8, SlotSh.one (Sh.int IntKind.i64))], keep := [7] })], joins := [(3, { mods := [], keep := [0, 1] }), (6, { mods := [], keep := [0, 6] })] }
def V_slices_Repeat_int (x : D) (count : Int) (σ : Store) (Qp : RV → Store → Prop) : Prop :=
  ∀ R : Store → Prop, (∀ σ' : Store, (∃ len : Nat, (Len x len) ∧ DCalls Tryz.prog n_math_bits_Mul [.one (.int .u64 (IntKind.wrap .u64 (len : Int))), .one (.int .u64 (IntKind.wrap .u64 count))] σ' (fun (r : RV) => fun (σ'1 : Store) => ∃ n : Int, ∃ n1 : Int, (r = (.tup [.one (.int .u64 n), .one (.int .u64 n1)] : RV)) ∧ ∀ R1 : Store → Prop, (∀ σ'2 : Store, (((0 : Int) ≤ (w64 n1)) ∧ ((w64 n1) ≤ (w64 n1)) ∧ (((8 : Int) * (w64 n1)) ≤ (2 ^ 48)) ∧ Fw.newObj σ'2 (.live t_int (List.replicate (Int.toNat (w64 n1)) [.int .i64 0])) (fun (id : Nat) => fun (σ'3 : Store) => copyTo Tryz.prog σ'3 t_int (.osl id 0 (Int.toNat (w64 n1))) x (fun (n2 : Int) => fun (σ'4 : Store) => ∃ I : Int → Store → Prop, ∃ μ : Int → Store → Nat, (I n2 σ'4) ∧ ∀ n3 : Int, ∀ σ'5 : Store, (I n3 σ'5) → ∃ len1 : Nat, (Len (.osl id 0 (Int.toNat (w64 n1))) len1) ∧ bcase (decide (n3 < (len1 : Int))) (∃ len2 : Nat, (IdxN Tryz.prog σ'5 (.osl id 0 (Int.toNat (w64 n1))) 1 len2) ∧ ((0 : Int) ≤ n3) ∧ (n3 ≤ (len2 : Int)) ∧ ∃ len3 : Nat, (IdxN Tryz.prog σ'5 (.osl id 0 (Int.toNat (w64 n1))) 1 len3) ∧ ((0 : Int) ≤ 0) ∧ ((0 : Int) ≤ n3) ∧ (n3 ≤ (len3 : Int)) ∧ copyTo Tryz.prog σ'5 t_int (.osl id (0 + (Int.toNat n3)) (len2 - (Int.toNat n3))) (.osl id 0 ((Int.toNat n3) - 0)) (fun (n4 : Int) => fun (σ'6 : Store) => (I (w64 (n3 + n4)) σ'6) ∧ ((μ (w64 (n3 + n4)) σ'6) < (μ n3 σ'5)))) (Qp (.a (.one (.osl id 0 (Int.toNat (w64 n1))))) σ'5)))) → R1 σ'2) → bcase (decide (n > 0)) False (bcase (decide (n1 > 9223372036854775807)) False (R1 σ'1)))) → R σ') → bcase (decide (count < 0)) False (R σ)
theorem W_slices_Repeat_int (x : D) (count : Int) (σ : Store) (Qp : RV → Store → Prop) (h : V_slices_Repeat_int x count σ Qp) : DCalls Tryz.prog n_slices_Repeat_int [.one x, .one (.int .i64 count)] σ Qp :=
  dcalls_of_body mixed (by kernel_rfl) Tryz.func37 an_slices_Repeat_int ((show V_slices_Repeat_int x count σ Qp = dbody Tryz.prog Tryz.f37 an_slices_Repeat_int [.one x, .one (.int .i64 count)] σ Qp by kernel_rfl) ▸ h)
def an_locks_desk_request : Ann := { esc := [], cbs := [], draws := [(24, { ord := [0, 1, 2, 3, 4, 5, 6, 7, 8, 9, 10, 11, 12, 13, 14, 15, 16, 17, 18, 19, 20, 21], nb := [6], av := [], dir := [], sp := [19] }), (29, { ord := [0, 1, 2, 3, 4, 5, 6, 7, 8, 9, 10, 11, 12, 13, 14, 15, 16, 17], nb := [], av := [], dir := [], sp := [15] })], loops := [(16, { mods := [(66, SlotSh.one (Sh.int IntKind.i64))], keep := [0, 1, 2, 7, 64, 65] }), (22, { mods := [(90, SlotSh.one (Sh.int IntKind.i64))], keep := [0, 1, 2, 88, 89] }), (27, { mods := [(123, SlotSh.one (Sh.int IntKind.i64))], keep := [0, 1, 121, 122] })], joins := [(15, { mods := [], keep := [0, 1, 2, 7, 9] })] }
def V_locks_desk_request (d : D) (now : Int) (r : Int) (σ : Store) (Qp : RV → Store → Prop) : Prop :=
  DCalls Tryz.prog n_locks_desk_state [.one d, .one (.int .i64 r)] σ (fun (r1 : RV) => fun (σ' : Store) => ∃ d1 : D, ∃ n : Int, (r1 = (.tup [.one d1, .one (.int .i64 n)] : RV)) ∧ bcase (n != 0) (Qp (.a (.one (.int .i64 n))) σ') ((NotNil d1) ∧ ∃ s : D, ∃ i : Nat, ∃ off : Nat, (d1 = (.el s i off : D)) ∧ ∃ row : List D, (Row σ' s i row) ∧ ∃ n1 : Int, ((List.take 1 (List.drop (off + 0) row)) = ([.int .i64 n1] : List D)) ∧ bcase (n1 != 0) (Qp (.a (.one (.int .i64 28))) σ') ((NotNil d) ∧ ∃ s1 : D, ∃ i1 : Nat, ∃ off1 : Nat, (d = (.el s1 i1 off1 : D)) ∧ ∃ row1 : List D, (Row σ' s1 i1 row1) ∧ ∃ d2 : D, ∃ d3 : D, ∃ d4 : D, ∃ d5 : D, ∃ d6 : D, ∃ n2 : Int, ∃ n3 : Int, ∃ n4 : Int, ∃ n5 : Int, ((List.take 9 (List.drop (off1 + 0) row1)) = ([d2, d3, d4, d5, d6, .int .i64 n2, .int .i64 n3, .int .i64 n4, .int .i64 n5] : List D)) ∧ DCalls Tryz.prog n_conf_Locks [.agg [d2, d3, d4, d5, d6, .int .i64 n2, .int .i64 n3, .int .i64 n4, .int .i64 n5], .one (.int .i64 r)] σ' (fun (r2 : RV) => fun (σ'1 : Store) => ∃ d7 : D, (r2 = (.a (.one d7) : RV)) ∧ DCalls Tryz.prog n_locks_desk_may [.one d, .one (.int .i64 r), .one d7] σ'1 (fun (r3 : RV) => fun (σ'2 : Store) => ∃ n6 : Int, (r3 = (.a (.one (.int .i64 n6)) : RV)) ∧ bcase (n6 != 0) (Qp (.a (.one (.int .i64 n6))) σ'2) (∀ R : Store → Prop, (∀ σ'3 : Store, (∃ len : Nat, (Len d7 len) ∧ ∃ I : Int → Store → Prop, ∃ μ : Int → Store → Nat, (I 0 σ'3) ∧ ∀ n7 : Int, ∀ σ'4 : Store, (I n7 σ'4) → bcase (decide (n7 < (len : Int))) (∃ len1 : Nat, (Idx Tryz.prog σ'4 d7 1 len1) ∧ ((0 : Int) ≤ n7) ∧ (n7 < (len1 : Int)) ∧ ∃ row2 : List D, (Row σ'4 d7 (Int.toNat n7) row2) ∧ ∃ n8 : Int, ((List.take 1 row2) = ([.int .i64 n8] : List D)) ∧ (NotNil d) ∧ ∃ s2 : D, ∃ i2 : Nat, ∃ off2 : Nat, (d = (.el s2 i2 off2 : D)) ∧ ∃ row3 : List D, (Row σ'4 s2 i2 row3) ∧ ∃ d8 : D, ((List.take 1 (List.drop ((off2 + 9) + 0) row3)) = ([d8] : List D)) ∧ ∃ len2 : Nat, (Idx Tryz.prog σ'4 d8 1 len2) ∧ ((0 : Int) ≤ n8) ∧ (n8 < (len2 : Int)) ∧ storeEl [.int .i64 (w64 (r + 1))] σ'4 d8 (Int.toNat n8) 0 (fun (σ'5 : Store) => (I (w64 (n7 + 1)) σ'5) ∧ ((μ (w64 (n7 + 1)) σ'5) < (μ n7 σ'4)))) ((NotNil d1) ∧ ∃ s2 : D, ∃ i2 : Nat, ∃ off2 : Nat, (d1 = (.el s2 i2 off2 : D)) ∧ storeEl [.int .i64 1, .int .i64 0, .int .i64 0, .int .i64 0] σ'4 s2 i2 off2 (fun (σ'5 : Store) => (NotNil d) ∧ ∃ s3 : D, ∃ i3 : Nat, ∃ off3 : Nat, (d = (.el s3 i3 off3 : D)) ∧ ∃ row2 : List D, (Row σ'5 s3 i3 row2) ∧ ∃ d8 : D, ∃ d9 : D, ∃ d10 : D, ∃ d11 : D, ∃ d12 : D, ∃ n8 : Int, ∃ n9 : Int, ∃ n10 : Int, ∃ n11 : Int, ((List.take 9 (List.drop (off3 + 0) row2)) = ([d8, d9, d10, d11, d12, .int .i64 n8, .int .i64 n9, .int .i64 n10, .int .i64 n11] : List D)) ∧ DCalls Tryz.prog n_mover_Needs [.agg [d8, d9, d10, d11, d12, .int .i64 n8, .int .i64 n9, .int .i64 n10, .int .i64 n11], .one (.int .i64 r)] σ'5 (fun (r4 : RV) => fun (σ'6 : Store) => ∃ d13 : D, (r4 = (.a (.one d13) : RV)) ∧ ∃ len1 : Nat, (Len d13 len1) ∧ ∃ I1 : Int → Store → Prop, ∃ μ1 : Int → Store → Nat, (I1 0 σ'6) ∧ ∀ n12 : Int, ∀ σ'7 : Store, (I1 n12 σ'7) → bcase (decide (n12 < (len1 : Int))) (∃ len2 : Nat, (Idx Tryz.prog σ'7 d13 2 len2) ∧ ((0 : Int) ≤ n12) ∧ (n12 < (len2 : Int)) ∧ ∃ row3 : List D, (Row σ'7 d13 (Int.toNat n12) row3) ∧ ∃ n13 : Int, ∃ n14 : Int, ((List.take 2 row3) = ([.int .i64 n13, .int .i64 n14] : List D)) ∧ ∃ pre : List A → Store → Prop, ∃ post : List A → Store → RV → Store → Prop, (SpecOk Tryz.prog n_mover_Command pre post) ∧ (NotNil d) ∧ ∃ s4 : D, ∃ i4 : Nat, ∃ off4 : Nat, (d = (.el s4 i4 off4 : D)) ∧ ∃ row4 : List D, (Row σ'7 s4 i4 row4) ∧ ∃ d14 : D, ((List.take 1 (List.drop ((off4 + 9) + 2) row4)) = ([d14] : List D)) ∧ (NotNil d) ∧ ∃ s5 : D, ∃ i5 : Nat, ∃ off5 : Nat, (d = (.el s5 i5 off5 : D)) ∧ ∃ row5 : List D, (Row σ'7 s5 i5 row5) ∧ ∃ d15 : D, ((List.take 1 (List.drop ((off5 + 9) + 2) row5)) = ([d15] : List D)) ∧ ∃ len3 : Nat, (Idx Tryz.prog σ'7 d15 2 len3) ∧ ((0 : Int) ≤ n13) ∧ (n13 < (len3 : Int)) ∧ ∃ row6 : List D, (Row σ'7 d15 (Int.toNat n13) row6) ∧ ∃ n15 : Int, ∃ n16 : Int, ((List.take 2 row6) = ([.int .i64 n15, .int .i64 n16] : List D)) ∧ (pre [.agg [.int .i64 n15, .int .i64 n16], .one (.int .i64 now), .one (.int .i64 n14)] σ'7) ∧ ∀ r5 : RV, ∀ s6 : Store, (post [.agg [.int .i64 n15, .int .i64 n16], .one (.int .i64 now), .one (.int .i64 n14)] σ'7 r5 s6) → ∃ n17 : Int, ∃ n18 : Int, (r5 = (.a (.agg [.int .i64 n17, .int .i64 n18]) : RV)) ∧ ∃ len4 : Nat, (Idx Tryz.prog s6 d14 2 len4) ∧ ((0 : Int) ≤ n13) ∧ (n13 < (len4 : Int)) ∧ storeEl [.int .i64 n17, .int .i64 n18] s6 d14 (Int.toNat n13) 0 (fun (σ'8 : Store) => (I1 (w64 (n12 + 1)) σ'8) ∧ ((μ1 (w64 (n12 + 1)) σ'8) < (μ1 n12 σ'7)))) ((NotNil d) ∧ ∃ s4 : D, ∃ i4 : Nat, ∃ off4 : Nat, (d = (.el s4 i4 off4 : D)) ∧ ∃ row3 : List D, (Row σ'7 s4 i4 row3) ∧ ∃ d14 : D, ∃ d15 : D, ∃ d16 : D, ∃ d17 : D, ∃ d18 : D, ∃ n13 : Int, ∃ n14 : Int, ∃ n15 : Int, ∃ n16 : Int, ((List.take 9 (List.drop (off4 + 0) row3)) = ([d14, d15, d16, d17, d18, .int .i64 n13, .int .i64 n14, .int .i64 n15, .int .i64 n16] : List D)) ∧ DCalls Tryz.prog n_mover_Crossings [.agg [d14, d15, d16, d17, d18, .int .i64 n13, .int .i64 n14, .int .i64 n15, .int .i64 n16], .one (.int .i64 r)] σ'7 (fun (r5 : RV) => fun (σ'8 : Store) => ∃ d19 : D, (r5 = (.a (.one d19) : RV)) ∧ ∃ len2 : Nat, (Len d19 len2) ∧ ∃ I2 : Int → Store → Prop, ∃ μ2 : Int → Store → Nat, (I2 0 σ'8) ∧ ∀ n17 : Int, ∀ σ'9 : Store, (I2 n17 σ'9) → bcase (decide (n17 < (len2 : Int))) (∃ len3 : Nat, (Idx Tryz.prog σ'9 d19 1 len3) ∧ ((0 : Int) ≤ n17) ∧ (n17 < (len3 : Int)) ∧ ∃ row4 : List D, (Row σ'9 d19 (Int.toNat n17) row4) ∧ ∃ n18 : Int, ((List.take 1 row4) = ([.int .i64 n18] : List D)) ∧ ∃ pre : List A → Store → Prop, ∃ post : List A → Store → RV → Store → Prop, (SpecOk Tryz.prog n_mover_Command pre post) ∧ (NotNil d) ∧ ∃ s5 : D, ∃ i5 : Nat, ∃ off5 : Nat, (d = (.el s5 i5 off5 : D)) ∧ ∃ row5 : List D, (Row σ'9 s5 i5 row5) ∧ ∃ d20 : D, ((List.take 1 (List.drop ((off5 + 9) + 3) row5)) = ([d20] : List D)) ∧ (NotNil d) ∧ ∃ s6 : D, ∃ i6 : Nat, ∃ off6 : Nat, (d = (.el s6 i6 off6 : D)) ∧ ∃ row6 : List D, (Row σ'9 s6 i6 row6) ∧ ∃ d21 : D, ((List.take 1 (List.drop ((off6 + 9) + 3) row6)) = ([d21] : List D)) ∧ ∃ len4 : Nat, (Idx Tryz.prog σ'9 d21 2 len4) ∧ ((0 : Int) ≤ n18) ∧ (n18 < (len4 : Int)) ∧ ∃ row7 : List D, (Row σ'9 d21 (Int.toNat n18) row7) ∧ ∃ n19 : Int, ∃ n20 : Int, ((List.take 2 row7) = ([.int .i64 n19, .int .i64 n20] : List D)) ∧ (pre [.agg [.int .i64 n19, .int .i64 n20], .one (.int .i64 now), .one (.int .i64 1)] σ'9) ∧ ∀ r6 : RV, ∀ s7 : Store, (post [.agg [.int .i64 n19, .int .i64 n20], .one (.int .i64 now), .one (.int .i64 1)] σ'9 r6 s7) → ∃ n21 : Int, ∃ n22 : Int, (r6 = (.a (.agg [.int .i64 n21, .int .i64 n22]) : RV)) ∧ ∃ len5 : Nat, (Idx Tryz.prog s7 d20 2 len5) ∧ ((0 : Int) ≤ n18) ∧ (n18 < (len5 : Int)) ∧ storeEl [.int .i64 n21, .int .i64 n22] s7 d20 (Int.toNat n18) 0 (fun (σ'10 : Store) => (I2 (w64 (n17 + 1)) σ'10) ∧ ((μ2 (w64 (n17 + 1)) σ'10) < (μ2 n17 σ'9)))) ((NotNil d) ∧ ∃ s5 : D, ∃ i5 : Nat, ∃ off5 : Nat, (d = (.el s5 i5 off5 : D)) ∧ storeEl [.bool true] σ'9 s5 i5 ((off5 + 9) + 6) (fun (σ'10 : Store) => Qp (.a (.one (.int .i64 0))) σ'10)))))))) → R σ'3) → DCalls Tryz.prog n_locks_desk_line [.one d, .one (.int .i64 r)] σ'2 (fun (r4 : RV) => fun (σ'3 : Store) => ∃ d8 : D, (r4 = (.a (.one d8) : RV)) ∧ ∃ b : Bool, (IsNil .pt d8 b) ∧ bcase (b != true) ((NotNil d8) ∧ ∃ s2 : D, ∃ i2 : Nat, ∃ off2 : Nat, (d8 = (.el s2 i2 off2 : D)) ∧ ∃ row2 : List D, (Row σ'3 s2 i2 row2) ∧ ∃ n7 : Int, ((List.take 1 (List.drop (off2 + 0) row2)) = ([.int .i64 n7] : List D)) ∧ bcase (decide (n7 ≥ 4294967295)) (Qp (.a (.one (.int .i64 5))) σ'3) ((NotNil d8) ∧ ∃ s3 : D, ∃ i3 : Nat, ∃ off3 : Nat, (d8 = (.el s3 i3 off3 : D)) ∧ ∃ row3 : List D, (Row σ'3 s3 i3 row3) ∧ ∃ n8 : Int, ((List.take 1 (List.drop (off3 + 0) row3)) = ([.int .i64 n8] : List D)) ∧ (NotNil d8) ∧ ∃ s4 : D, ∃ i4 : Nat, ∃ off4 : Nat, (d8 = (.el s4 i4 off4 : D)) ∧ storeEl [.int .i64 (w64 (n8 + 1))] σ'3 s4 i4 (off4 + 0) (fun (σ'4 : Store) => R σ'4))) (R σ'3))))))))
theorem W_locks_desk_request (d : D) (now : Int) (r : Int) (σ : Store) (Qp : RV → Store → Prop) (h : V_locks_desk_request d now r σ Qp) : DCalls Tryz.prog n_locks_desk_request [.one d, .one (.int .i64 now), .one (.int .i64 r)] σ Qp :=
  dcalls_of_body mixed (by kernel_rfl) Tryz.func41 an_locks_desk_request ((show V_locks_desk_request d now r σ Qp = dbody Tryz.prog Tryz.f41 an_locks_desk_request [.one d, .one (.int .i64 now), .one (.int .i64 r)] σ Qp by kernel_rfl) ▸ h)
def an_pack_Reader_fixed : Ann := { esc := [], cbs := [], draws := [], loops := [(3, { mods := [(5, SlotSh.one (Sh.int IntKind.i64)), (13, SlotSh.one (Sh.int IntKind.i64))], keep := [11, 12] })], joins := [] }
def V_pack_Reader_fixed (r : D) (n : Int) (σ : Store) (Qp : RV → Store → Prop) : Prop :=
  DCalls Tryz.prog n_pack_Reader_take [.one r, .one (.int .i64 0), .one (.int .i64 n)] σ (fun (r1 : RV) => fun (σ' : Store) => ∃ s : ByteArray, (r1 = (.a (.one (.str s)) : RV)) ∧ ∃ len : Nat, (Len (.sl 1 (bytesD s)) len) ∧ ∃ I : Int → Int → Store → Prop, ∃ μ : Int → Int → Store → Nat, (I 0 0 σ') ∧ ∀ n1 : Int, ∀ n2 : Int, ∀ σ'1 : Store, (I n1 n2 σ'1) → bcase (decide (n2 < (len : Int))) (∃ len1 : Nat, (Idx Tryz.prog σ'1 (.sl 1 (bytesD s)) 1 len1) ∧ ((0 : Int) ≤ n2) ∧ (n2 < (len1 : Int)) ∧ ∃ row : List D, (Row σ'1 (.sl 1 (bytesD s)) (Int.toNat n2) row) ∧ ∃ n3 : Int, ((List.take 1 row) = ([.int .u8 n3] : List D)) ∧ (I (w64 (BitVec.toNat ((BitVec.ofInt 64 (w64 (n1 * (2 ^ 8)))) ||| (BitVec.ofInt 64 (w64 n3))) : Int)) (w64 (n2 + 1)) σ'1) ∧ ((μ (w64 (BitVec.toNat ((BitVec.ofInt (IntKind.bits .i64) (w64 (n1 * (2 ^ (Min.min (Int.toNat 8) (IntKind.bits .i64)))))) ||| (BitVec.ofInt (IntKind.bits .i64) (w64 n3))) : Int)) (w64 (n2 + 1)) σ'1) < (μ n1 n2 σ'1))) (Qp (.a (.one (.int .i64 n1))) σ'1))
theorem W_pack_Reader_fixed (r : D) (n : Int) (σ : Store) (Qp : RV → Store → Prop) (h : V_pack_Reader_fixed r n σ Qp) : DCalls Tryz.prog n_pack_Reader_fixed [.one r, .one (.int .i64 n)] σ Qp :=
  dcalls_of_body mixed (by kernel_rfl) Tryz.func45 an_pack_Reader_fixed ((show V_pack_Reader_fixed r n σ Qp = dbody Tryz.prog Tryz.f45 an_pack_Reader_fixed [.one r, .one (.int .i64 n)] σ Qp by kernel_rfl) ▸ h)
def an_conf_plan_signals : Ann := { esc := [], cbs := [1], draws := [(6, { ord := [0, 1, 2, 3, 4, 5, 6], nb := [], av := [], dir := [] })], loops := [(3, { mods := [(14, SlotSh.one (Sh.int IntKind.i64))], keep := [1, 3, 12, 13] })], joins := [] }
def V_conf_plan_signals (p0 : D) (p1 : D) (p2 : D) (p3 : D) (p4 : D) (p5 : Int) (p6 : Int) (p7 : Int) (p8 : Int) (σ : Store) (Qp : RV → Store → Prop) : Prop :=
  Fw.newObj σ (.mp 0 []) (fun (id : Nat) => fun (σ' : Store) => ∃ len : Nat, (Len p2 len) ∧ ∃ I : Int → Store → Prop, ∃ μ : Int → Store → Nat, (I 0 σ') ∧ ∀ n : Int, ∀ σ'1 : Store, (I n σ'1) → bcase (decide (n < (len : Int))) (∃ len1 : Nat, (Idx Tryz.prog σ'1 p2 2 len1) ∧ ((0 : Int) ≤ n) ∧ (n < (len1 : Int)) ∧ ∃ row : List D, (Row σ'1 p2 (Int.toNat n) row) ∧ ∃ n1 : Int, ∃ n2 : Int, ((List.take 2 row) = ([.int .i64 n1, .int .i64 n2] : List D)) ∧ DCalls Tryz.prog n_topo_Next [.one p1, .one (.int .i64 n1), .one (.int .i64 n2)] σ'1 (fun (r : RV) => fun (σ'2 : Store) => ∃ n3 : Int, ∃ n4 : Int, ∃ b : Bool, (r = (.tup [.one (.int .i64 n3), .one (.int .i64 n4), .one (.bool b)] : RV)) ∧ ∃ r1 : Option A, (MLook Tryz.prog t_Signal σ'2 (.omap id) (.agg [.int .i64 n1, .int .i64 n2]) r1) ∧ ∃ n5 : Int, ((Option.getD r1 (.one (.int .i64 0))) = (.one (.int .i64 n5) : A)) ∧ MEntry Tryz.prog t_Signal σ'2 (.omap id) (.agg [.int .i64 n1, .int .i64 n2]) (.one (.int .i64 0)) (fun (v : A) => fun (n6 : Int) => fun (σ'3 : Store) => MStamp σ'3 (.omap id) n6 (.one (.int .i64 (w64 (n5 + 1)))) (fun (σ'4 : Store) => bcase (!b) (Qp (.a (.one (.bool false))) σ'4) (∃ r2 : Option A, (MLook Tryz.prog t_Signal σ'4 (.omap id) (.agg [.int .i64 n1, .int .i64 n2]) r2) ∧ ∃ n7 : Int, ((Option.getD r2 (.one (.int .i64 0))) = (.one (.int .i64 n7) : A)) ∧ bcase (decide (n7 > 1)) (Qp (.a (.one (.bool false))) σ'4) ((I (w64 (n + 1)) σ'4) ∧ ((μ (w64 (n + 1)) σ'4) < (μ n σ'1)))))))) (∃ len1 : Nat, (Len p2 len1) ∧ Qp (.a (.one (.bool (decide ((len1 : Int) ≤ 12))))) σ'1))
theorem W_conf_plan_signals (p0 : D) (p1 : D) (p2 : D) (p3 : D) (p4 : D) (p5 : Int) (p6 : Int) (p7 : Int) (p8 : Int) (σ : Store) (Qp : RV → Store → Prop) (h : V_conf_plan_signals p0 p1 p2 p3 p4 p5 p6 p7 p8 σ Qp) : DCalls Tryz.prog n_conf_plan_signals [.agg [p0, p1, p2, p3, p4, .int .i64 p5, .int .i64 p6, .int .i64 p7, .int .i64 p8]] σ Qp :=
  dcalls_of_body mixed (by kernel_rfl) Tryz.func49 an_conf_plan_signals ((show V_conf_plan_signals p0 p1 p2 p3 p4 p5 p6 p7 p8 σ Qp = dbody Tryz.prog Tryz.f49 an_conf_plan_signals [.agg [p0, p1, p2, p3, p4, .int .i64 p5, .int .i64 p6, .int .i64 p7, .int .i64 p8]] σ Qp by kernel_rfl) ▸ h)
def an_slices_Grow_Mover : Ann := { esc := [], cbs := [], draws := [], loops := [], joins := [] }
def V_slices_Grow_Mover (n : Int) (σ : Store) (Qp : RV → Store → Prop) : Prop :=
  bcase (decide (n < 0)) False (∃ len : Nat, (Len .nils len) ∧ bcase (decide ((w64 (n - (w64 (0 - (len : Int))))) > 0)) (∃ len1 : Nat, (IdxN Tryz.prog σ .nils 2 len1) ∧ ((0 : Int) ≤ 0) ∧ ((0 : Int) ≤ 0) ∧ ((0 : Int) ≤ (len1 : Int)) ∧ ((0 : Int) ≤ (w64 (n - (w64 (0 - (len : Int)))))) ∧ (((16 : Int) * (w64 (n - (w64 (0 - (len : Int)))))) ≤ (2 ^ 47)) ∧ bcase (decide ((w64 (n - (w64 (0 - (len : Int)))) : Int) = 0)) (∃ len2 : Nat, (Len .nils len2) ∧ ∃ len3 : Nat, (IdxN Tryz.prog σ .nils 2 len3) ∧ ((0 : Int) ≤ 0) ∧ ((0 : Int) ≤ (len2 : Int)) ∧ ((len2 : Int) ≤ (len3 : Int)) ∧ Qp (.a (.one .nils)) σ) (Fw.newObj σ (.live t_Mover (List.replicate (Int.toNat (w64 (n - (w64 (0 - (len : Int)))))) [.int .i64 0, .int .i64 0])) (fun (id : Nat) => fun (σ' : Store) => ∃ len2 : Nat, (Len .nils len2) ∧ ∃ len3 : Nat, (IdxN Tryz.prog σ' (.osl id 0 (Int.toNat (w64 (n - (w64 (0 - (len : Int))))))) 2 len3) ∧ ((0 : Int) ≤ 0) ∧ ((0 : Int) ≤ (len2 : Int)) ∧ ((len2 : Int) ≤ (len3 : Int)) ∧ Qp (.a (.one (.osl id 0 ((Int.toNat (len2 : Int)) - 0)))) σ'))) (Qp (.a (.one .nils)) σ))
theorem W_slices_Grow_Mover (n : Int) (σ : Store) (Qp : RV → Store → Prop) (h : V_slices_Grow_Mover n σ Qp) : DCalls Tryz.prog n_slices_Grow_Mover [.one .nils, .one (.int .i64 n)] σ Qp :=
  dcalls_of_body mixed (by kernel_rfl) Tryz.func53 an_slices_Grow_Mover ((show V_slices_Grow_Mover n σ Qp = dbody Tryz.prog Tryz.f53 an_slices_Grow_Mover [.one .nils, .one (.int .i64 n)] σ Qp by kernel_rfl) ▸ h)
def an_locks_open : Ann := { esc := [10], cbs := [2, 3], draws := [], loops := [], joins := [] }
def V_locks_open (c0 : D) (c1 : D) (c2 : D) (c3 : D) (c4 : D) (c5 : Int) (c6 : Int) (c7 : Int) (c8 : Int) (k0 : D) (k1 : D) (k2 : D) (k3 : D) (k4 : D) (k5 : D) (k6 : Bool) (σ : Store) (Qp : RV → Store → Prop) : Prop :=
  Fw.newObj σ (.live t_locks_desk [[c0, c1, c2, c3, c4, .int .i64 c5, .int .i64 c6, .int .i64 c7, .int .i64 c8, k0, k1, k2, k3, k4, k5, .bool k6]]) (fun (id : Nat) => fun (σ' : Store) => DCalls Tryz.prog n_slices_Clone_int [.one k0] σ' (fun (r : RV) => fun (σ'1 : Store) => ∃ d : D, (r = (.a (.one d) : RV)) ∧ storeEl [d] σ'1 (.osl id 0 1) 0 9 (fun (σ'2 : Store) => DCalls Tryz.prog n_slices_Clone_RouteState [.one k1] σ'2 (fun (r1 : RV) => fun (σ'3 : Store) => ∃ d1 : D, (r1 = (.a (.one d1) : RV)) ∧ storeEl [d1] σ'3 (.osl id 0 1) 0 10 (fun (σ'4 : Store) => DCalls Tryz.prog n_slices_Clone_Mover [.one k2] σ'4 (fun (r2 : RV) => fun (σ'5 : Store) => ∃ d2 : D, (r2 = (.a (.one d2) : RV)) ∧ storeEl [d2] σ'5 (.osl id 0 1) 0 11 (fun (σ'6 : Store) => DCalls Tryz.prog n_slices_Clone_Mover [.one k3] σ'6 (fun (r3 : RV) => fun (σ'7 : Store) => ∃ d3 : D, (r3 = (.a (.one d3) : RV)) ∧ storeEl [d3] σ'7 (.osl id 0 1) 0 12 (fun (σ'8 : Store) => DCalls Tryz.prog n_slices_Clone_LineState [.one k4] σ'8 (fun (r4 : RV) => fun (σ'9 : Store) => ∃ d4 : D, (r4 = (.a (.one d4) : RV)) ∧ storeEl [d4] σ'9 (.osl id 0 1) 0 13 (fun (σ'10 : Store) => DCalls Tryz.prog n_slices_Clone_int [.one k5] σ'10 (fun (r5 : RV) => fun (σ'11 : Store) => ∃ d5 : D, (r5 = (.a (.one d5) : RV)) ∧ storeEl [d5] σ'11 (.osl id 0 1) 0 14 (fun (σ'12 : Store) => DCalls Tryz.prog n_locks_Fits [.agg [c0, c1, c2, c3, c4, .int .i64 c5, .int .i64 c6, .int .i64 c7, .int .i64 c8], .agg [k0, k1, k2, k3, k4, k5, .bool k6]] σ'12 (fun (r6 : RV) => fun (σ'13 : Store) => ∃ b : Bool, (r6 = (.a (.one (.bool b)) : RV)) ∧ Qp (.tup [.one (.el (.osl id 0 1) 0 0), .one (.bool b)]) σ'13))))))))))))))
theorem W_locks_open (c0 : D) (c1 : D) (c2 : D) (c3 : D) (c4 : D) (c5 : Int) (c6 : Int) (c7 : Int) (c8 : Int) (k0 : D) (k1 : D) (k2 : D) (k3 : D) (k4 : D) (k5 : D) (k6 : Bool) (σ : Store) (Qp : RV → Store → Prop) (h : V_locks_open c0 c1 c2 c3 c4 c5 c6 c7 c8 k0 k1 k2 k3 k4 k5 k6 σ Qp) : DCalls Tryz.prog n_locks_open [.agg [c0, c1, c2, c3, c4, .int .i64 c5, .int .i64 c6, .int .i64 c7, .int .i64 c8], .agg [k0, k1, k2, k3, k4, k5, .bool k6]] σ Qp :=
  dcalls_of_body mixed (by kernel_rfl) Tryz.func57 an_locks_open ((show V_locks_open c0 c1 c2 c3 c4 c5 c6 c7 c8 k0 k1 k2 k3 k4 k5 k6 σ Qp = dbody Tryz.prog Tryz.f57 an_locks_open [.agg [c0, c1, c2, c3, c4, .int .i64 c5, .int .i64 c6, .int .i64 c7, .int .i64 c8], .agg [k0, k1, k2, k3, k4, k5, .bool k6]] σ Qp by kernel_rfl) ▸ h)
def an_locks_desk_line : Ann := { esc := [], cbs := [], draws := [(4, { ord := [0, 1, 2, 3, 4, 5, 6, 7, 8, 9, 10], nb := [], av := [], dir := [] })], loops := [(2, { mods := [(18, SlotSh.one (Sh.int IntKind.i64))], keep := [0, 16, 17] })], joins := [] }
def V_locks_desk_line (d : D) (r : Int) (σ : Store) (Qp : RV → Store → Prop) : Prop :=
  (NotNil d) ∧ ∃ s : D, ∃ i : Nat, ∃ off : Nat, (d = (.el s i off : D)) ∧ ∃ row : List D, (Row σ s i row) ∧ ∃ d1 : D, ((List.take 1 (List.drop ((off + 0) + 4) row)) = ([d1] : List D)) ∧ ∃ len : Nat, (Idx Tryz.prog σ d1 6 len) ∧ ((0 : Int) ≤ r) ∧ (r < (len : Int)) ∧ ∃ row1 : List D, (Row σ d1 (Int.toNat r) row1) ∧ ∃ d2 : D, ((List.take 1 (List.drop 2 row1)) = ([d2] : List D)) ∧ ∃ len1 : Nat, (Len d2 len1) ∧ ∃ I : Int → Store → Prop, ∃ μ : Int → Store → Nat, (I 0 σ) ∧ ∀ n : Int, ∀ σ' : Store, (I n σ') → bcase (decide (n < (len1 : Int))) (∃ len2 : Nat, (Idx Tryz.prog σ' d2 3 len2) ∧ ((0 : Int) ≤ n) ∧ (n < (len2 : Int)) ∧ ∃ row2 : List D, (Row σ' d2 (Int.toNat n) row2) ∧ ∃ n1 : Int, ∃ n2 : Int, ∃ n3 : Int, ((List.take 3 row2) = ([.int .i64 n1, .int .i64 n2, .int .i64 n3] : List D)) ∧ (NotNil d) ∧ ∃ s1 : D, ∃ i1 : Nat, ∃ off1 : Nat, (d = (.el s1 i1 off1 : D)) ∧ ∃ row3 : List D, (Row σ' s1 i1 row3) ∧ ∃ d3 : D, ((List.take 1 (List.drop ((off1 + 0) + 0) row3)) = ([d3] : List D)) ∧ ∃ len3 : Nat, (Idx Tryz.prog σ' d3 3 len3) ∧ ((0 : Int) ≤ n1) ∧ (n1 < (len3 : Int)) ∧ ∃ row4 : List D, (Row σ' d3 (Int.toNat n1) row4) ∧ ∃ n4 : Int, ((List.take 1 (List.drop 2 row4)) = ([.int .i64 n4] : List D)) ∧ bcase (decide (n4 > 0)) ((NotNil d) ∧ ∃ s2 : D, ∃ i2 : Nat, ∃ off2 : Nat, (d = (.el s2 i2 off2 : D)) ∧ ∃ row5 : List D, (Row σ' s2 i2 row5) ∧ ∃ d4 : D, ((List.take 1 (List.drop ((off2 + 9) + 4) row5)) = ([d4] : List D)) ∧ ∃ len4 : Nat, (Idx Tryz.prog σ' d4 8 len4) ∧ ((0 : Int) ≤ n4) ∧ (n4 < (len4 : Int)) ∧ Qp (.a (.one (.el d4 (Int.toNat n4) 0))) σ') ((I (w64 (n + 1)) σ') ∧ ((μ (w64 (n + 1)) σ') < (μ n σ')))) (Qp (.a (.one .nilp)) σ')
theorem W_locks_desk_line (d : D) (r : Int) (σ : Store) (Qp : RV → Store → Prop) (h : V_locks_desk_line d r σ Qp) : DCalls Tryz.prog n_locks_desk_line [.one d, .one (.int .i64 r)] σ Qp :=
  dcalls_of_body mixed (by kernel_rfl) Tryz.func61 an_locks_desk_line ((show V_locks_desk_line d r σ Qp = dbody Tryz.prog Tryz.f61 an_locks_desk_line [.one d, .one (.int .i64 r)] σ Qp by kernel_rfl) ▸ h)
def an_pack_trouble_note : Ann := { esc := [], cbs := [], draws := [], loops := [], joins := [] }
def V_pack_trouble_note (t : D) (e_ : Int) (σ : Store) (Qp : RV → Store → Prop) : Prop :=
  (NotNil t) ∧ ∃ s : D, ∃ i : Nat, ∃ off : Nat, (t = (.el s i off : D)) ∧ ∃ row : List D, (Row σ s i row) ∧ ∃ n : Int, ((List.take 1 (List.drop (off + 0) row)) = ([.int .i64 n] : List D)) ∧ bcase (n == 0) ((NotNil t) ∧ ∃ s1 : D, ∃ i1 : Nat, ∃ off1 : Nat, (t = (.el s1 i1 off1 : D)) ∧ storeEl [.int .i64 e_] σ s1 i1 (off1 + 0) (fun (σ' : Store) => Qp (.tup []) σ')) (Qp (.tup []) σ)
theorem W_pack_trouble_note (t : D) (e_ : Int) (σ : Store) (Qp : RV → Store → Prop) (h : V_pack_trouble_note t e_ σ Qp) : DCalls Tryz.prog n_pack_trouble_note [.one t, .one (.int .i64 e_)] σ Qp :=
  dcalls_of_body mixed (by kernel_rfl) Tryz.func65 an_pack_trouble_note ((show V_pack_trouble_note t e_ σ Qp = dbody Tryz.prog Tryz.f65 an_pack_trouble_note [.one t, .one (.int .i64 e_)] σ Qp by kernel_rfl) ▸ h)
def an_ref06_signals : Ann := { esc := [], cbs := [1], draws := [], loops := [(2, { mods := [(11, SlotSh.one (Sh.int IntKind.i64))], keep := [1, 9, 10] })], joins := [] }
def V_ref06_signals (c0 : D) (c1 : D) (c2 : D) (c3 : D) (c4 : D) (c5 : Int) (c6 : Int) (c7 : Int) (c8 : Int) (σ : Store) (Qp : RV → Store → Prop) : Prop :=
  ∃ len : Nat, (Len c2 len) ∧ ∃ I : Int → Store → Prop, ∃ μ : Int → Store → Nat, (I 0 σ) ∧ ∀ n : Int, ∀ σ' : Store, (I n σ') → bcase (decide (n < (len : Int))) (∃ len1 : Nat, (Idx Tryz.prog σ' c2 2 len1) ∧ ((0 : Int) ≤ n) ∧ (n < (len1 : Int)) ∧ ∃ row : List D, (Row σ' c2 (Int.toNat n) row) ∧ ∃ n1 : Int, ∃ n2 : Int, ((List.take 2 row) = ([.int .i64 n1, .int .i64 n2] : List D)) ∧ DCalls Tryz.prog n_ref05_Next [.one c1, .one (.int .i64 n1), .one (.int .i64 n2)] σ' (fun (r : RV) => fun (σ'1 : Store) => ∃ n3 : Int, ∃ n4 : Int, ∃ b : Bool, (r = (.tup [.one (.int .i64 n3), .one (.int .i64 n4), .one (.bool b)] : RV)) ∧ bcase (!b) (Qp (.a (.one (.bool false))) σ'1) (DCalls Tryz.prog n_ref06_at [.agg [c0, c1, c2, c3, c4, .int .i64 c5, .int .i64 c6, .int .i64 c7, .int .i64 c8], .one (.int .i64 n1), .one (.int .i64 n2), .one (.int .i64 n)] σ'1 (fun (r1 : RV) => fun (σ'2 : Store) => ∃ b1 : Bool, (r1 = (.a (.one (.bool b1)) : RV)) ∧ bcase b1 (Qp (.a (.one (.bool false))) σ'2) ((I (w64 (n + 1)) σ'2) ∧ ((μ (w64 (n + 1)) σ'2) < (μ n σ'))))))) (∃ len1 : Nat, (Len c2 len1) ∧ Qp (.a (.one (.bool (decide ((len1 : Int) ≤ 12))))) σ')
theorem W_ref06_signals (c0 : D) (c1 : D) (c2 : D) (c3 : D) (c4 : D) (c5 : Int) (c6 : Int) (c7 : Int) (c8 : Int) (σ : Store) (Qp : RV → Store → Prop) (h : V_ref06_signals c0 c1 c2 c3 c4 c5 c6 c7 c8 σ Qp) : DCalls Tryz.prog n_ref06_signals [.agg [c0, c1, c2, c3, c4, .int .i64 c5, .int .i64 c6, .int .i64 c7, .int .i64 c8]] σ Qp :=
  dcalls_of_body mixed (by kernel_rfl) Tryz.func69 an_ref06_signals ((show V_ref06_signals c0 c1 c2 c3 c4 c5 c6 c7 c8 σ Qp = dbody Tryz.prog Tryz.f69 an_ref06_signals [.agg [c0, c1, c2, c3, c4, .int .i64 c5, .int .i64 c6, .int .i64 c7, .int .i64 c8]] σ Qp by kernel_rfl) ▸ h)
def an_ref06_Flank : Ann := { esc := [], cbs := [3], draws := [], loops := [(4, { mods := [(7, SlotSh.one (Sh.any)), (8, SlotSh.one (Sh.any)), (18, SlotSh.one (Sh.int IntKind.i64))], keep := [1, 2, 3, 16, 17] }), (8, { mods := [(7, SlotSh.one (Sh.any)), (8, SlotSh.one (Sh.any)), (12, SlotSh.one (Sh.int IntKind.i64))], keep := [1, 2, 3, 10, 11, 16, 17, 18] })], joins := [(9, { mods := [(7, SlotSh.one (Sh.any)), (8, SlotSh.one (Sh.any))], keep := [1, 2, 3, 10, 11, 12, 16, 17, 18] }), (11, { mods := [], keep := [1, 2, 3, 7, 8, 10, 11, 12, 16, 17, 18] }), (13, { mods := [], keep := [1, 2, 3, 7, 8, 10, 11, 12, 13, 14, 16, 17, 18] })] }
def V_ref06_Flank (c0 : D) (c1 : D) (c2 : D) (c3 : D) (c4 : D) (c5 : Int) (c6 : Int) (c7 : Int) (c8 : Int) (approach : Int) (path : D) (σ : Store) (Qp : RV → Store → Prop) : Prop :=
  ∃ len : Nat, (Len path len) ∧ ∃ I : D → D → Int → Store → Prop, ∃ μ : D → D → Int → Store → Nat, (I .nils .nils 0 σ) ∧ ∀ d : D, ∀ d1 : D, ∀ n : Int, ∀ σ' : Store, (I d d1 n σ') → bcase (decide (n < (len : Int))) (∃ len1 : Nat, (Idx Tryz.prog σ' path 3 len1) ∧ ((0 : Int) ≤ n) ∧ (n < (len1 : Int)) ∧ ∃ row : List D, (Row σ' path (Int.toNat n) row) ∧ ∃ n1 : Int, ∃ n2 : Int, ∃ n3 : Int, ((List.take 3 row) = ([.int .i64 n1, .int .i64 n2, .int .i64 n3] : List D)) ∧ DCalls Tryz.prog n_ref06_kind [.agg [c0, c1, c2, c3, c4, .int .i64 c5, .int .i64 c6, .int .i64 c7, .int .i64 c8], .one (.int .i64 n1)] σ' (fun (r : RV) => fun (σ'1 : Store) => ∃ n4 : Int, (r = (.a (.one (.int .i64 n4)) : RV)) ∧ ∃ I1 : D → D → Int → Store → Prop, ∃ μ1 : D → D → Int → Store → Nat, (I1 d d1 0 σ'1) ∧ ∀ d2 : D, ∀ d3 : D, ∀ n5 : Int, ∀ σ'2 : Store, (I1 d2 d3 n5 σ'2) → DCalls Tryz.prog n_ref05_Ends [.one (.int .i64 n4)] σ'2 (fun (r1 : RV) => fun (σ'3 : Store) => ∃ n6 : Int, (r1 = (.a (.one (.int .i64 n6)) : RV)) ∧ bcase (decide (n5 < n6)) (∀ R : D → D → Store → Prop, (∀ d4 : D, ∀ d5 : D, ∀ σ'4 : Store, ((([[.int .i64 n1, .int .i64 n2, .int .i64 n3]] : List (List D)) = ([[.int .i64 n1, .int .i64 n2, .int .i64 n3]] : List (List D))) ∧ (I1 d4 d5 (w64 (n5 + 1)) σ'4) ∧ ((μ1 d4 d5 (w64 (n5 + 1)) σ'4) < (μ1 d2 d3 n5 σ'2))) → R d4 d5 σ'4) → ∀ R1 : Store → Prop, (∀ σ'4 : Store, (DCalls Tryz.prog n_ref05_Next [.one c1, .one (.int .i64 n1), .one (.int .i64 n5)] σ'4 (fun (r2 : RV) => fun (σ'5 : Store) => ∃ n7 : Int, ∃ n8 : Int, ∃ b : Bool, (r2 = (.tup [.one (.int .i64 n7), .one (.int .i64 n8), .one (.bool b)] : RV)) ∧ ∀ R2 : Store → Prop, (∀ σ'6 : Store, (Fw.newObj σ'6 (.live t_int [[.int .i64 n7]]) (fun (id : Nat) => fun (σ'7 : Store) => appendTo Tryz.prog σ'7 t_int 8 d3 (.osl id 0 1) (fun (d4 : D) => fun (σ'8 : Store) => Fw.newObj σ'8 (.live t_Need [[.int .i64 n7, .int .i64 (w64 (3 - n8))]]) (fun (id1 : Nat) => fun (σ'9 : Store) => appendTo Tryz.prog σ'9 t_Need 16 d2 (.osl id1 0 1) (fun (d5 : D) => fun (σ'10 : Store) => (([[.int .i64 n1, .int .i64 n2, .int .i64 n3]] : List (List D)) = ([[.int .i64 n1, .int .i64 n2, .int .i64 n3]] : List (List D))) ∧ R d5 d4 σ'10))))) → R2 σ'6) → bcase (!b) ((([[.int .i64 n1, .int .i64 n2, .int .i64 n3]] : List (List D)) = ([[.int .i64 n1, .int .i64 n2, .int .i64 n3]] : List (List D))) ∧ R d2 d3 σ'5) (DCalls Tryz.prog n_ref06_kind [.agg [c0, c1, c2, c3, c4, .int .i64 c5, .int .i64 c6, .int .i64 c7, .int .i64 c8], .one (.int .i64 n7)] σ'5 (fun (r3 : RV) => fun (σ'6 : Store) => ∃ n9 : Int, (r3 = (.a (.one (.int .i64 n9)) : RV)) ∧ bcase (n9 != 1) ((([[.int .i64 n1, .int .i64 n2, .int .i64 n3]] : List (List D)) = ([[.int .i64 n1, .int .i64 n2, .int .i64 n3]] : List (List D))) ∧ R d2 d3 σ'6) (bcase (n8 != 1) (bcase (n8 != 2) ((([[.int .i64 n1, .int .i64 n2, .int .i64 n3]] : List (List D)) = ([[.int .i64 n1, .int .i64 n2, .int .i64 n3]] : List (List D))) ∧ R d2 d3 σ'6) (DCalls Tryz.prog n_ref06_Sections [.one path] σ'6 (fun (r4 : RV) => fun (σ'7 : Store) => ∃ d4 : D, (r4 = (.a (.one d4) : RV)) ∧ DCalls Tryz.prog n_ref06_in [.one d4, .one (.int .i64 n7)] σ'7 (fun (r5 : RV) => fun (σ'8 : Store) => ∃ b1 : Bool, (r5 = (.a (.one (.bool b1)) : RV)) ∧ bcase b1 ((([[.int .i64 n1, .int .i64 n2, .int .i64 n3]] : List (List D)) = ([[.int .i64 n1, .int .i64 n2, .int .i64 n3]] : List (List D))) ∧ R d2 d3 σ'8) (bcase (n7 == approach) ((([[.int .i64 n1, .int .i64 n2, .int .i64 n3]] : List (List D)) = ([[.int .i64 n1, .int .i64 n2, .int .i64 n3]] : List (List D))) ∧ R d2 d3 σ'8) (DCalls Tryz.prog n_ref06_in [.one d3, .one (.int .i64 n7)] σ'8 (fun (r6 : RV) => fun (σ'9 : Store) => ∃ b2 : Bool, (r6 = (.a (.one (.bool b2)) : RV)) ∧ bcase b2 ((([[.int .i64 n1, .int .i64 n2, .int .i64 n3]] : List (List D)) = ([[.int .i64 n1, .int .i64 n2, .int .i64 n3]] : List (List D))) ∧ R d2 d3 σ'9) ((([[.int .i64 n1, .int .i64 n2, .int .i64 n3]] : List (List D)) = ([[.int .i64 n1, .int .i64 n2, .int .i64 n3]] : List (List D))) ∧ R2 σ'9)))))))) (DCalls Tryz.prog n_ref06_Sections [.one path] σ'6 (fun (r4 : RV) => fun (σ'7 : Store) => ∃ d4 : D, (r4 = (.a (.one d4) : RV)) ∧ DCalls Tryz.prog n_ref06_in [.one d4, .one (.int .i64 n7)] σ'7 (fun (r5 : RV) => fun (σ'8 : Store) => ∃ b1 : Bool, (r5 = (.a (.one (.bool b1)) : RV)) ∧ bcase b1 ((([[.int .i64 n1, .int .i64 n2, .int .i64 n3]] : List (List D)) = ([[.int .i64 n1, .int .i64 n2, .int .i64 n3]] : List (List D))) ∧ R d2 d3 σ'8) (bcase (n7 == approach) ((([[.int .i64 n1, .int .i64 n2, .int .i64 n3]] : List (List D)) = ([[.int .i64 n1, .int .i64 n2, .int .i64 n3]] : List (List D))) ∧ R d2 d3 σ'8) (DCalls Tryz.prog n_ref06_in [.one d3, .one (.int .i64 n7)] σ'8 (fun (r6 : RV) => fun (σ'9 : Store) => ∃ b2 : Bool, (r6 = (.a (.one (.bool b2)) : RV)) ∧ bcase b2 ((([[.int .i64 n1, .int .i64 n2, .int .i64 n3]] : List (List D)) = ([[.int .i64 n1, .int .i64 n2, .int .i64 n3]] : List (List D))) ∧ R d2 d3 σ'9) ((([[.int .i64 n1, .int .i64 n2, .int .i64 n3]] : List (List D)) = ([[.int .i64 n1, .int .i64 n2, .int .i64 n3]] : List (List D))) ∧ R2 σ'9)))))))))))) → R1 σ'4) → bcase (n5 == n2) ((([[.int .i64 n1, .int .i64 n2, .int .i64 n3]] : List (List D)) = ([[.int .i64 n1, .int .i64 n2, .int .i64 n3]] : List (List D))) ∧ R d2 d3 σ'3) (bcase (n5 == n3) ((([[.int .i64 n1, .int .i64 n2, .int .i64 n3]] : List (List D)) = ([[.int .i64 n1, .int .i64 n2, .int .i64 n3]] : List (List D))) ∧ R d2 d3 σ'3) ((([[.int .i64 n1, .int .i64 n2, .int .i64 n3]] : List (List D)) = ([[.int .i64 n1, .int .i64 n2, .int .i64 n3]] : List (List D))) ∧ R1 σ'3))) ((I d2 d3 (w64 (n + 1)) σ'3) ∧ ((μ d2 d3 (w64 (n + 1)) σ'3) < (μ d d1 n σ')))))) (Qp (.a (.one d)) σ')
theorem W_ref06_Flank (c0 : D) (c1 : D) (c2 : D) (c3 : D) (c4 : D) (c5 : Int) (c6 : Int) (c7 : Int) (c8 : Int) (approach : Int) (path : D) (σ : Store) (Qp : RV → Store → Prop) (h : V_ref06_Flank c0 c1 c2 c3 c4 c5 c6 c7 c8 approach path σ Qp) : DCalls Tryz.prog n_ref06_Flank [.agg [c0, c1, c2, c3, c4, .int .i64 c5, .int .i64 c6, .int .i64 c7, .int .i64 c8], .one (.int .i64 approach), .one path] σ Qp :=
  dcalls_of_body mixed (by kernel_rfl) Tryz.func73 an_ref06_Flank ((show V_ref06_Flank c0 c1 c2 c3 c4 c5 c6 c7 c8 approach path σ Qp = dbody Tryz.prog Tryz.f73 an_ref06_Flank [.agg [c0, c1, c2, c3, c4, .int .i64 c5, .int .i64 c6, .int .i64 c7, .int .i64 c8], .one (.int .i64 approach), .one path] σ Qp by kernel_rfl) ▸ h)
def an_topo_between : Ann := { esc := [], cbs := [], draws := [], loops := [], joins := [] }
def V_topo_between (n : Int) (lo : Int) (hi : Int) (σ : Store) (Qp : RV → Store → Prop) : Prop :=
  bcase (decide (lo ≤ n)) (Qp (.a (.one (.bool (decide (n ≤ hi))))) σ) (Qp (.a (.one (.bool false))) σ)
theorem W_topo_between (n : Int) (lo : Int) (hi : Int) (σ : Store) (Qp : RV → Store → Prop) (h : V_topo_between n lo hi σ Qp) : DCalls Tryz.prog n_topo_between [.one (.int .i64 n), .one (.int .i64 lo), .one (.int .i64 hi)] σ Qp :=
  dcalls_of_body mixed (by kernel_rfl) Tryz.func77 an_topo_between ((show V_topo_between n lo hi σ Qp = dbody Tryz.prog Tryz.f77 an_topo_between [.one (.int .i64 n), .one (.int .i64 lo), .one (.int .i64 hi)] σ Qp by kernel_rfl) ▸ h)
def an_conf_plan_path : Ann := { esc := [], cbs := [2, 3], draws := [], loops := [(7, { mods := [(5, SlotSh.bx [Sh.int IntKind.i64, Sh.int IntKind.i64]), (63, SlotSh.one (Sh.int IntKind.i64))], keep := [2, 3, 7, 8, 9, 61, 62] })], joins := [(5, { mods := [], keep := [2, 3, 5, 7, 8] }), (18, { mods := [(5, SlotSh.bx [Sh.int IntKind.i64, Sh.int IntKind.i64])], keep := [2, 3, 7, 8, 9, 61, 62, 63] }), (16, { mods := [(20, SlotSh.one (Sh.bool))], keep := [2, 3, 5, 7, 8, 9, 11, 12, 13, 14, 15, 18, 19, 61, 62, 63] })] }
def V_conf_plan_path (p0 : D) (p1 : D) (p2 : D) (p3 : D) (p4 : D) (p5 : Int) (p6 : Int) (p7 : Int) (p8 : Int) (r0 : Int) (r1 : Int) (r2 : D) (r3 : D) (r4 : D) (r5 : Bool) (σ : Store) (Qp : RV → Store → Prop) : Prop :=
  DCalls Tryz.prog n_conf_plan_signal [.agg [p0, p1, p2, p3, p4, .int .i64 p5, .int .i64 p6, .int .i64 p7, .int .i64 p8], .one (.int .i64 r0)] σ (fun (r : RV) => fun (σ' : Store) => ∃ n : Int, ∃ n1 : Int, ∃ b : Bool, (r = (.tup [.agg [.int .i64 n, .int .i64 n1], .one (.bool b)] : RV)) ∧ DCalls Tryz.prog n_conf_plan_signal [.agg [p0, p1, p2, p3, p4, .int .i64 p5, .int .i64 p6, .int .i64 p7, .int .i64 p8], .one (.int .i64 r1)] σ' (fun (r6 : RV) => fun (σ'1 : Store) => ∃ n2 : Int, ∃ n3 : Int, ∃ b1 : Bool, (r6 = (.tup [.agg [.int .i64 n2, .int .i64 n3], .one (.bool b1)] : RV)) ∧ ∀ R : Store → Prop, (∀ σ'2 : Store, (Fw.newObj σ'2 (.mp 0 []) (fun (id : Nat) => fun (σ'3 : Store) => MPut Tryz.prog t_int σ'3 (.omap id) (.one (.int .i64 n)) (.one (.int .i64 1)) (fun (σ'4 : Store) => ∃ len : Nat, (Len r2 len) ∧ ∃ I : Int → Int → Int → Store → Prop, ∃ μ : Int → Int → Int → Store → Nat, (I n n1 0 σ'4) ∧ ∀ n4 : Int, ∀ n5 : Int, ∀ n6 : Int, ∀ σ'5 : Store, (I n4 n5 n6 σ'5) → bcase (decide (n6 < (len : Int))) (∀ R1 : Int → Int → Store → Prop, (∀ n7 : Int, ∀ n8 : Int, ∀ σ'6 : Store, ((([[.int .i64 n2, .int .i64 n3]] : List (List D)) = ([[.int .i64 n2, .int .i64 n3]] : List (List D))) ∧ (I n7 n8 (w64 (n6 + 1)) σ'6) ∧ ((μ n7 n8 (w64 (n6 + 1)) σ'6) < (μ n4 n5 n6 σ'5))) → R1 n7 n8 σ'6) → ∃ len1 : Nat, (Idx Tryz.prog σ'5 r2 3 len1) ∧ ((0 : Int) ≤ n6) ∧ (n6 < (len1 : Int)) ∧ ∃ row : List D, (Row σ'5 r2 (Int.toNat n6) row) ∧ ∃ n7 : Int, ∃ n8 : Int, ∃ n9 : Int, ((List.take 3 row) = ([.int .i64 n7, .int .i64 n8, .int .i64 n9] : List D)) ∧ DCalls Tryz.prog n_topo_Next [.one p1, .one (.int .i64 n4), .one (.int .i64 n5)] σ'5 (fun (r7 : RV) => fun (σ'6 : Store) => ∃ n10 : Int, ∃ n11 : Int, ∃ b2 : Bool, (r7 = (.tup [.one (.int .i64 n10), .one (.int .i64 n11), .one (.bool b2)] : RV)) ∧ DCalls Tryz.prog n_conf_plan_section [.agg [p0, p1, p2, p3, p4, .int .i64 p5, .int .i64 p6, .int .i64 p7, .int .i64 p8], .one (.int .i64 n10)] σ'6 (fun (r8 : RV) => fun (σ'7 : Store) => ∃ n12 : Int, ∃ n13 : Int, ∃ n14 : Int, ∃ b3 : Bool, (r8 = (.tup [.agg [.int .i64 n12, .int .i64 n13, .int .i64 n14], .one (.bool b3)] : RV)) ∧ DCalls Tryz.prog n_topo_Pos [.one (.int .i64 n12), .one (.int .i64 n8), .one (.int .i64 n9)] σ'7 (fun (r9 : RV) => fun (σ'8 : Store) => ∃ n15 : Int, ∃ b4 : Bool, (r9 = (.tup [.one (.int .i64 n15), .one (.bool b4)] : RV)) ∧ ∃ r10 : Option A, (MLook Tryz.prog t_int σ'8 (.omap id) (.one (.int .i64 n10)) r10) ∧ ∃ n16 : Int, ((Option.getD r10 (.one (.int .i64 0))) = (.one (.int .i64 n16) : A)) ∧ MPut Tryz.prog t_int σ'8 (.omap id) (.one (.int .i64 n10)) (.one (.int .i64 (w64 (n16 + 1)))) (fun (σ'9 : Store) => DCalls Tryz.prog n_slices_Contains_Signal [.one p2, .agg [.int .i64 n7, .int .i64 n9]] σ'9 (fun (r11 : RV) => fun (σ'10 : Store) => ∃ b5 : Bool, (r11 = (.a (.one (.bool b5)) : RV)) ∧ ∀ R2 : Bool → Store → Prop, (∀ b6 : Bool, ∀ σ'11 : Store, (bcase (!b2) (Qp (.a (.one (.bool false))) σ'11) (bcase (n10 != n7) (Qp (.a (.one (.bool false))) σ'11) (bcase (n11 != n8) (Qp (.a (.one (.bool false))) σ'11) (bcase (!b4) (Qp (.a (.one (.bool false))) σ'11) (∃ r12 : Option A, (MLook Tryz.prog t_int σ'11 (.omap id) (.one (.int .i64 n10)) r12) ∧ ∃ n17 : Int, ((Option.getD r12 (.one (.int .i64 0))) = (.one (.int .i64 n17) : A)) ∧ bcase (decide (n17 > 1)) (Qp (.a (.one (.bool false))) σ'11) (bcase b5 (bcase (!b6) (Qp (.a (.one (.bool false))) σ'11) (bcase r5 (bcase (n14 != 0) (Qp (.a (.one (.bool false))) σ'11) ((([[.int .i64 n2, .int .i64 n3]] : List (List D)) = ([[.int .i64 n2, .int .i64 n3]] : List (List D))) ∧ R1 n7 n9 σ'11)) ((([[.int .i64 n2, .int .i64 n3]] : List (List D)) = ([[.int .i64 n2, .int .i64 n3]] : List (List D))) ∧ R1 n7 n9 σ'11))) (bcase r5 (bcase (n14 != 0) (Qp (.a (.one (.bool false))) σ'11) ((([[.int .i64 n2, .int .i64 n3]] : List (List D)) = ([[.int .i64 n2, .int .i64 n3]] : List (List D))) ∧ R1 n7 n9 σ'11)) ((([[.int .i64 n2, .int .i64 n3]] : List (List D)) = ([[.int .i64 n2, .int .i64 n3]] : List (List D))) ∧ R1 n7 n9 σ'11)))))))) → R2 b6 σ'11) → ∃ len2 : Nat, (Len r2 len2) ∧ bcase (n6 == (w64 ((len2 : Int) - 1))) (bcase b1 ((([[.int .i64 n7, .int .i64 n9], [.int .i64 n2, .int .i64 n3], [.int .i64 n7, .int .i64 n8, .int .i64 n9], [.int .i64 n12, .int .i64 n13, .int .i64 n14]] : List (List D)) = ([[.int .i64 n7, .int .i64 n9], [.int .i64 n2, .int .i64 n3], [.int .i64 n7, .int .i64 n8, .int .i64 n9], [.int .i64 n12, .int .i64 n13, .int .i64 n14]] : List (List D))) ∧ R2 ((n7 == n2) && (n9 == n3)) σ'10) ((([[.int .i64 n7, .int .i64 n9], [.int .i64 n2, .int .i64 n3], [.int .i64 n7, .int .i64 n8, .int .i64 n9], [.int .i64 n12, .int .i64 n13, .int .i64 n14]] : List (List D)) = ([[.int .i64 n7, .int .i64 n9], [.int .i64 n2, .int .i64 n3], [.int .i64 n7, .int .i64 n8, .int .i64 n9], [.int .i64 n12, .int .i64 n13, .int .i64 n14]] : List (List D))) ∧ R2 false σ'10)) ((([[.int .i64 n7, .int .i64 n9], [.int .i64 n2, .int .i64 n3], [.int .i64 n7, .int .i64 n8, .int .i64 n9], [.int .i64 n12, .int .i64 n13, .int .i64 n14]] : List (List D)) = ([[.int .i64 n7, .int .i64 n9], [.int .i64 n2, .int .i64 n3], [.int .i64 n7, .int .i64 n8, .int .i64 n9], [.int .i64 n12, .int .i64 n13, .int .i64 n14]] : List (List D))) ∧ R2 false σ'10))))))) (bcase b1 (Qp (.a (.one (.bool ((n4 == n2) && (n5 == n3))))) σ'5) (DCalls Tryz.prog n_topo_Next [.one p1, .one (.int .i64 n4), .one (.int .i64 n5)] σ'5 (fun (r7 : RV) => fun (σ'6 : Store) => ∃ n7 : Int, ∃ n8 : Int, ∃ b2 : Bool, (r7 = (.tup [.one (.int .i64 n7), .one (.int .i64 n8), .one (.bool b2)] : RV)) ∧ Qp (.a (.one (.bool (!b2)))) σ'6)))))) → R σ'2) → bcase (!b) (Qp (.a (.one (.bool false))) σ'1) (bcase (!b1) (bcase (r1 != (-1)) (Qp (.a (.one (.bool false))) σ'1) (∃ len : Nat, (Len r2 len) ∧ DCalls Tryz.prog n_conf_between [.one (.int .i64 (len : Int)), .one (.int .i64 1), .one (.int .i64 8)] σ'1 (fun (r7 : RV) => fun (σ'2 : Store) => ∃ b2 : Bool, (r7 = (.a (.one (.bool b2)) : RV)) ∧ bcase (!b2) (Qp (.a (.one (.bool false))) σ'2) ((([[.int .i64 n, .int .i64 n1], [.int .i64 n2, .int .i64 n3]] : List (List D)) = ([[.int .i64 n, .int .i64 n1], [.int .i64 n2, .int .i64 n3]] : List (List D))) ∧ R σ'2)))) (∃ len : Nat, (Len r2 len) ∧ DCalls Tryz.prog n_conf_between [.one (.int .i64 (len : Int)), .one (.int .i64 1), .one (.int .i64 8)] σ'1 (fun (r7 : RV) => fun (σ'2 : Store) => ∃ b2 : Bool, (r7 = (.a (.one (.bool b2)) : RV)) ∧ bcase (!b2) (Qp (.a (.one (.bool false))) σ'2) ((([[.int .i64 n, .int .i64 n1], [.int .i64 n2, .int .i64 n3]] : List (List D)) = ([[.int .i64 n, .int .i64 n1], [.int .i64 n2, .int .i64 n3]] : List (List D))) ∧ R σ'2))))))
theorem W_conf_plan_path (p0 : D) (p1 : D) (p2 : D) (p3 : D) (p4 : D) (p5 : Int) (p6 : Int) (p7 : Int) (p8 : Int) (r0 : Int) (r1 : Int) (r2 : D) (r3 : D) (r4 : D) (r5 : Bool) (σ : Store) (Qp : RV → Store → Prop) (h : V_conf_plan_path p0 p1 p2 p3 p4 p5 p6 p7 p8 r0 r1 r2 r3 r4 r5 σ Qp) : DCalls Tryz.prog n_conf_plan_path [.agg [p0, p1, p2, p3, p4, .int .i64 p5, .int .i64 p6, .int .i64 p7, .int .i64 p8], .agg [.int .i64 r0, .int .i64 r1, r2, r3, r4, .bool r5]] σ Qp :=
  dcalls_of_body mixed (by kernel_rfl) Tryz.func81 an_conf_plan_path ((show V_conf_plan_path p0 p1 p2 p3 p4 p5 p6 p7 p8 r0 r1 r2 r3 r4 r5 σ Qp = dbody Tryz.prog Tryz.f81 an_conf_plan_path [.agg [p0, p1, p2, p3, p4, .int .i64 p5, .int .i64 p6, .int .i64 p7, .int .i64 p8], .agg [.int .i64 r0, .int .i64 r1, r2, r3, r4, .bool r5]] σ Qp by kernel_rfl) ▸ h)
def an_slices_Equal_int : Ann := { esc := [], cbs := [], draws := [(6, { ord := [0, 1, 2, 3, 4, 5, 6, 7, 8], nb := [], av := [], dir := [] })], loops := [(4, { mods := [(13, SlotSh.one (Sh.int IntKind.i64))], keep := [0, 1, 12] })], joins := [] }
def V_slices_Equal_int (s1 : D) (s2 : D) (σ : Store) (Qp : RV → Store → Prop) : Prop :=
  ∃ len : Nat, (Len s1 len) ∧ ∃ len1 : Nat, (Len s2 len1) ∧ bcase ((len : Int) != (len1 : Int)) (Qp (.a (.one (.bool false))) σ) (∃ len2 : Nat, (Len s1 len2) ∧ ∃ I : Int → Store → Prop, ∃ μ : Int → Store → Nat, (I 0 σ) ∧ ∀ n : Int, ∀ σ' : Store, (I n σ') → bcase (decide (n < (len2 : Int))) (∃ len3 : Nat, (Idx Tryz.prog σ' s1 1 len3) ∧ ((0 : Int) ≤ n) ∧ (n < (len3 : Int)) ∧ ∃ row : List D, (Row σ' s1 (Int.toNat n) row) ∧ ∃ n1 : Int, ((List.take 1 row) = ([.int .i64 n1] : List D)) ∧ ∃ len4 : Nat, (Idx Tryz.prog σ' s2 1 len4) ∧ ((0 : Int) ≤ n) ∧ (n < (len4 : Int)) ∧ ∃ row1 : List D, (Row σ' s2 (Int.toNat n) row1) ∧ ∃ n2 : Int, ((List.take 1 row1) = ([.int .i64 n2] : List D)) ∧ bcase (n1 != n2) (Qp (.a (.one (.bool false))) σ') ((I (w64 (n + 1)) σ') ∧ ((μ (w64 (n + 1)) σ') < (μ n σ')))) (Qp (.a (.one (.bool true))) σ'))
theorem W_slices_Equal_int (s1 : D) (s2 : D) (σ : Store) (Qp : RV → Store → Prop) (h : V_slices_Equal_int s1 s2 σ Qp) : DCalls Tryz.prog n_slices_Equal_int [.one s1, .one s2] σ Qp :=
  dcalls_of_body mixed (by kernel_rfl) Tryz.func85 an_slices_Equal_int ((show V_slices_Equal_int s1 s2 σ Qp = dbody Tryz.prog Tryz.f85 an_slices_Equal_int [.one s1, .one s2] σ Qp by kernel_rfl) ▸ h)
def an_slices_Clone_RouteState : Ann := { esc := [], cbs := [], draws := [], loops := [], joins := [] }
def V_slices_Clone_RouteState (s : D) (σ : Store) (Qp : RV → Store → Prop) : Prop :=
  ∃ b : Bool, (IsNil .sl s b) ∧ bcase (b != false) (Qp (.a (.one .nils)) σ) (Fw.newObj σ (.live t_RouteState []) (fun (id : Nat) => fun (σ' : Store) => appendTo Tryz.prog σ' t_RouteState 32 (.osl id 0 0) s (fun (d : D) => fun (σ'1 : Store) => Qp (.a (.one d)) σ'1)))
theorem W_slices_Clone_RouteState (s : D) (σ : Store) (Qp : RV → Store → Prop) (h : V_slices_Clone_RouteState s σ Qp) : DCalls Tryz.prog n_slices_Clone_RouteState [.one s] σ Qp :=
  dcalls_of_body mixed (by kernel_rfl) Tryz.func90 an_slices_Clone_RouteState ((show V_slices_Clone_RouteState s σ Qp = dbody Tryz.prog Tryz.f90 an_slices_Clone_RouteState [.one s] σ Qp by kernel_rfl) ▸ h)
def an_slices_Contains_int : Ann := { esc := [], cbs := [], draws := [], loops := [], joins := [] }
def V_slices_Contains_int (s : D) (v : Int) (σ : Store) (Qp : RV → Store → Prop) : Prop :=
  DCalls Tryz.prog n_slices_Index_int [.one s, .one (.int .i64 v)] σ (fun (r : RV) => fun (σ' : Store) => ∃ n : Int, (r = (.a (.one (.int .i64 n)) : RV)) ∧ Qp (.a (.one (.bool (decide (n ≥ 0))))) σ')
theorem W_slices_Contains_int (s : D) (v : Int) (σ : Store) (Qp : RV → Store → Prop) (h : V_slices_Contains_int s v σ Qp) : DCalls Tryz.prog n_slices_Contains_int [.one s, .one (.int .i64 v)] σ Qp :=
  dcalls_of_body mixed (by kernel_rfl) Tryz.func95 an_slices_Contains_int ((show V_slices_Contains_int s v σ Qp = dbody Tryz.prog Tryz.f95 an_slices_Contains_int [.one s, .one (.int .i64 v)] σ Qp by kernel_rfl) ▸ h)
def an_topo_Pos : Ann := { esc := [], cbs := [], draws := [], loops := [(2, { mods := [(15, SlotSh.one (Sh.int IntKind.i64))], keep := [1, 2, 13, 14] })], joins := [] }
def V_topo_Pos (kind : Int) (in_ : Int) (out_ : Int) (σ : Store) (Qp : RV → Store → Prop) : Prop :=
  DCalls Tryz.prog n_topo_ways [.one (.int .i64 kind)] σ (fun (r : RV) => fun (σ' : Store) => ∃ d : D, (r = (.a (.one d) : RV)) ∧ ∃ len : Nat, (Len d len) ∧ ∃ I : Int → Store → Prop, ∃ μ : Int → Store → Nat, (I 0 σ') ∧ ∀ n : Int, ∀ σ'1 : Store, (I n σ'1) → bcase (decide (n < (len : Int))) (∃ len1 : Nat, (Idx Tryz.prog σ'1 d 3 len1) ∧ ((0 : Int) ≤ n) ∧ (n < (len1 : Int)) ∧ ∃ row : List D, (Row σ'1 d (Int.toNat n) row) ∧ ∃ n1 : Int, ∃ n2 : Int, ∃ n3 : Int, ((List.take 3 row) = ([.int .i64 n1, .int .i64 n2, .int .i64 n3] : List D)) ∧ DCalls Tryz.prog n_topo_way_other [.agg [.int .i64 n1, .int .i64 n2, .int .i64 n3], .one (.int .i64 in_)] σ'1 (fun (r1 : RV) => fun (σ'2 : Store) => ∃ n4 : Int, ∃ b : Bool, (r1 = (.tup [.one (.int .i64 n4), .one (.bool b)] : RV)) ∧ bcase b (bcase (n4 == out_) (Qp (.tup [.one (.int .i64 n3), .one (.bool true)]) σ'2) ((I (w64 (n + 1)) σ'2) ∧ ((μ (w64 (n + 1)) σ'2) < (μ n σ'1)))) ((I (w64 (n + 1)) σ'2) ∧ ((μ (w64 (n + 1)) σ'2) < (μ n σ'1))))) (Qp (.tup [.one (.int .i64 0), .one (.bool false)]) σ'1))
theorem W_topo_Pos (kind : Int) (in_ : Int) (out_ : Int) (σ : Store) (Qp : RV → Store → Prop) (h : V_topo_Pos kind in_ out_ σ Qp) : DCalls Tryz.prog n_topo_Pos [.one (.int .i64 kind), .one (.int .i64 in_), .one (.int .i64 out_)] σ Qp :=
  dcalls_of_body mixed (by kernel_rfl) Tryz.func99 an_topo_Pos ((show V_topo_Pos kind in_ out_ σ Qp = dbody Tryz.prog Tryz.f99 an_topo_Pos [.one (.int .i64 kind), .one (.int .i64 in_), .one (.int .i64 out_)] σ Qp by kernel_rfl) ▸ h)
def an_ref05_count : Ann := { esc := [], cbs := [], draws := [], loops := [(3, { mods := [(7, SlotSh.one (Sh.int IntKind.i64)), (12, SlotSh.one (Sh.int IntKind.i64))], keep := [1, 2, 10, 11] })], joins := [(7, { mods := [(7, SlotSh.one (Sh.int IntKind.i64))], keep := [1, 2, 9, 10, 11, 12] })] }
def V_ref05_count (joints : D) (section_ : Int) (end_ : Int) (σ : Store) (Qp : RV → Store → Prop) : Prop :=
  ∃ len : Nat, (Len joints len) ∧ ∃ I : Int → Int → Store → Prop, ∃ μ : Int → Int → Store → Nat, (I 0 0 σ) ∧ ∀ n : Int, ∀ n1 : Int, ∀ σ' : Store, (I n n1 σ') → bcase (decide (n1 < (len : Int))) (∃ len1 : Nat, (Idx Tryz.prog σ' joints 4 len1) ∧ ((0 : Int) ≤ n1) ∧ (n1 < (len1 : Int)) ∧ ∃ row : List D, (Row σ' joints (Int.toNat n1) row) ∧ ∃ n2 : Int, ∃ n3 : Int, ∃ n4 : Int, ∃ n5 : Int, ((List.take 4 row) = ([.int .i64 n2, .int .i64 n3, .int .i64 n4, .int .i64 n5] : List D)) ∧ ∀ R : Int → Store → Prop, (∀ n6 : Int, ∀ σ'1 : Store, (bcase (n4 == section_) (bcase (n5 == end_) ((I (w64 (n6 + 1)) (w64 (n1 + 1)) σ'1) ∧ ((μ (w64 (n6 + 1)) (w64 (n1 + 1)) σ'1) < (μ n n1 σ'))) ((I n6 (w64 (n1 + 1)) σ'1) ∧ ((μ n6 (w64 (n1 + 1)) σ'1) < (μ n n1 σ')))) ((I n6 (w64 (n1 + 1)) σ'1) ∧ ((μ n6 (w64 (n1 + 1)) σ'1) < (μ n n1 σ')))) → R n6 σ'1) → bcase (n2 == section_) (bcase (n3 == end_) ((([[.int .i64 n2, .int .i64 n3, .int .i64 n4, .int .i64 n5]] : List (List D)) = ([[.int .i64 n2, .int .i64 n3, .int .i64 n4, .int .i64 n5]] : List (List D))) ∧ R (w64 (n + 1)) σ') ((([[.int .i64 n2, .int .i64 n3, .int .i64 n4, .int .i64 n5]] : List (List D)) = ([[.int .i64 n2, .int .i64 n3, .int .i64 n4, .int .i64 n5]] : List (List D))) ∧ R n σ')) ((([[.int .i64 n2, .int .i64 n3, .int .i64 n4, .int .i64 n5]] : List (List D)) = ([[.int .i64 n2, .int .i64 n3, .int .i64 n4, .int .i64 n5]] : List (List D))) ∧ R n σ')) (Qp (.a (.one (.int .i64 n))) σ')
theorem W_ref05_count (joints : D) (section_ : Int) (end_ : Int) (σ : Store) (Qp : RV → Store → Prop) (h : V_ref05_count joints section_ end_ σ Qp) : DCalls Tryz.prog n_ref05_count [.one joints, .one (.int .i64 section_), .one (.int .i64 end_)] σ Qp :=
  dcalls_of_body mixed (by kernel_rfl) Tryz.func103 an_ref05_count ((show V_ref05_count joints section_ end_ σ Qp = dbody Tryz.prog Tryz.f103 an_ref05_count [.one joints, .one (.int .i64 section_), .one (.int .i64 end_)] σ Qp by kernel_rfl) ▸ h)
def an_ref06_in : Ann := { esc := [], cbs := [], draws := [], loops := [(2, { mods := [(9, SlotSh.one (Sh.int IntKind.i64))], keep := [1, 7, 8] })], joins := [] }
def V_ref06_in (l : D) (n : Int) (σ : Store) (Qp : RV → Store → Prop) : Prop :=
  ∃ len : Nat, (Len l len) ∧ ∃ I : Int → Store → Prop, ∃ μ : Int → Store → Nat, (I 0 σ) ∧ ∀ n1 : Int, ∀ σ' : Store, (I n1 σ') → bcase (decide (n1 < (len : Int))) (∃ len1 : Nat, (Idx Tryz.prog σ' l 1 len1) ∧ ((0 : Int) ≤ n1) ∧ (n1 < (len1 : Int)) ∧ ∃ row : List D, (Row σ' l (Int.toNat n1) row) ∧ ∃ n2 : Int, ((List.take 1 row) = ([.int .i64 n2] : List D)) ∧ bcase (n2 == n) (Qp (.a (.one (.bool true))) σ') ((I (w64 (n1 + 1)) σ') ∧ ((μ (w64 (n1 + 1)) σ') < (μ n1 σ')))) (Qp (.a (.one (.bool false))) σ')
theorem W_ref06_in (l : D) (n : Int) (σ : Store) (Qp : RV → Store → Prop) (h : V_ref06_in l n σ Qp) : DCalls Tryz.prog n_ref06_in [.one l, .one (.int .i64 n)] σ Qp :=
  dcalls_of_body mixed (by kernel_rfl) Tryz.func107 an_ref06_in ((show V_ref06_in l n σ Qp = dbody Tryz.prog Tryz.f107 an_ref06_in [.one l, .one (.int .i64 n)] σ Qp by kernel_rfl) ▸ h)
def an_conf_plan_signal : Ann := { esc := [], cbs := [2], draws := [], loops := [], joins := [] }
def V_conf_plan_signal (p0 : D) (p1 : D) (p2 : D) (p3 : D) (p4 : D) (p5 : Int) (p6 : Int) (p7 : Int) (p8 : Int) (x : Int) (σ : Store) (Qp : RV → Store → Prop) : Prop :=
  bcase (decide (x < 0)) (Qp (.tup [.agg [.int .i64 0, .int .i64 0], .one (.bool false)]) σ) (∃ len : Nat, (Len p2 len) ∧ bcase (decide (x ≥ (len : Int))) (Qp (.tup [.agg [.int .i64 0, .int .i64 0], .one (.bool false)]) σ) (∃ len1 : Nat, (Idx Tryz.prog σ p2 2 len1) ∧ ((0 : Int) ≤ x) ∧ (x < (len1 : Int)) ∧ ∃ row : List D, (Row σ p2 (Int.toNat x) row) ∧ ∃ n : Int, ∃ n1 : Int, ((List.take 2 row) = ([.int .i64 n, .int .i64 n1] : List D)) ∧ Qp (.tup [.agg [.int .i64 n, .int .i64 n1], .one (.bool true)]) σ))
theorem W_conf_plan_signal (p0 : D) (p1 : D) (p2 : D) (p3 : D) (p4 : D) (p5 : Int) (p6 : Int) (p7 : Int) (p8 : Int) (x : Int) (σ : Store) (Qp : RV → Store → Prop) (h : V_conf_plan_signal p0 p1 p2 p3 p4 p5 p6 p7 p8 x σ Qp) : DCalls Tryz.prog n_conf_plan_signal [.agg [p0, p1, p2, p3, p4, .int .i64 p5, .int .i64 p6, .int .i64 p7, .int .i64 p8], .one (.int .i64 x)] σ Qp :=
  dcalls_of_body mixed (by kernel_rfl) Tryz.func111 an_conf_plan_signal ((show V_conf_plan_signal p0 p1 p2 p3 p4 p5 p6 p7 p8 x σ Qp = dbody Tryz.prog Tryz.f111 an_conf_plan_signal [.agg [p0, p1, p2, p3, p4, .int .i64 p5, .int .i64 p6, .int .i64 p7, .int .i64 p8], .one (.int .i64 x)] σ Qp by kernel_rfl) ▸ h)
def an_conf_plan_flank_1 : Ann := { esc := [], cbs := [2], draws := [], loops := [], joins := [] }
def V_conf_plan_flank_1 (n0 : Int) (n1 : Int) (a1 : D) (σ : Store) (Qp : RV → Store → Prop) : Prop :=
  ∃ s : D, ∃ i : Nat, ∃ off : Nat, (a1 = (.el s i off : D)) ∧ ∃ row : List D, (Row σ s i row) ∧ ∃ n : Int, ((List.take 1 (List.drop off row)) = ([.int .i64 n] : List D)) ∧ Qp (.a (.one (.bool (n0 == n)))) σ
theorem W_conf_plan_flank_1 (n0 : Int) (n1 : Int) (a1 : D) (σ : Store) (Qp : RV → Store → Prop) (h : V_conf_plan_flank_1 n0 n1 a1 σ Qp) : DCalls Tryz.prog n_conf_plan_flank_1 [.agg [.int .i64 n0, .int .i64 n1], .one a1] σ Qp :=
  dcalls_of_body mixed (by kernel_rfl) Tryz.func115 an_conf_plan_flank_1 ((show V_conf_plan_flank_1 n0 n1 a1 σ Qp = dbody Tryz.prog Tryz.f115 an_conf_plan_flank_1 [.agg [.int .i64 n0, .int .i64 n1], .one a1] σ Qp by kernel_rfl) ▸ h)
def an_ref05_ways : Ann := { esc := [], cbs := [], draws := [], loops := [], joins := [] }
def V_ref05_ways (kind : Int) (σ : Store) (Qp : RV → Store → Prop) : Prop :=
  bcase (kind == 0) (Fw.newObj σ (.live t_ref05_way [[.int .i64 0, .int .i64 1, .int .i64 0]]) (fun (id : Nat) => fun (σ' : Store) => Qp (.a (.one (.osl id 0 1))) σ')) (bcase (kind == 1) (Fw.newObj σ (.live t_ref05_way [[.int .i64 0, .int .i64 1, .int .i64 1], [.int .i64 0, .int .i64 2, .int .i64 2]]) (fun (id : Nat) => fun (σ' : Store) => Qp (.a (.one (.osl id 0 2))) σ')) (bcase (kind == 2) (Fw.newObj σ (.live t_ref05_way [[.int .i64 0, .int .i64 1, .int .i64 0], [.int .i64 2, .int .i64 3, .int .i64 0]]) (fun (id : Nat) => fun (σ' : Store) => Qp (.a (.one (.osl id 0 2))) σ')) (Qp (.a (.one .nils)) σ)))
theorem W_ref05_ways (kind : Int) (σ : Store) (Qp : RV → Store → Prop) (h : V_ref05_ways kind σ Qp) : DCalls Tryz.prog n_ref05_ways [.one (.int .i64 kind)] σ Qp :=
  dcalls_of_body mixed (by kernel_rfl) Tryz.func121 an_ref05_ways ((show V_ref05_ways kind σ Qp = dbody Tryz.prog Tryz.f121 an_ref05_ways [.one (.int .i64 kind)] σ Qp by kernel_rfl) ▸ h)
end Go.Proofs.YtpanpagcgckeoaaGreat
end
section
set_option maxRecDepth 100000
set_option linter.unusedVariables false
namespace Go.Proofs.YtpanpagcgckeoaaGreat
open Go.Fw Go.Proofs
def an_ref13_Save : Ann := { esc := [], cbs := [1], draws := [], loops := [(3, { mods := [(18, SlotSh.one (Sh.int IntKind.i64))], keep := [1, 4, 16, 17] }), (11, { mods := [(37, SlotSh.one (Sh.int IntKind.i64))], keep := [1, 4, 35, 36] }), (19, { mods := [(58, SlotSh.one (Sh.int IntKind.i64))], keep := [4, 56, 57] })], joins := [] }
def V_ref13_Save (k0 : D) (k1 : D) (k2 : D) (k3 : D) (k4 : D) (k5 : D) (k6 : Bool) (σ : Store) (Qp : RV → Store → Prop) : Prop :=
  DCalls Tryz.prog n_ref01_New [.one (.int .i64 1099511627776)] σ (fun (r : RV) => fun (σ' : Store) => ∃ d : D, (r = (.a (.one d) : RV)) ∧ ∃ len : Nat, (Len k0 len) ∧ ∃ I : Int → Store → Prop, ∃ μ : Int → Store → Nat, (I 0 σ') ∧ ∀ n : Int, ∀ σ'1 : Store, (I n σ'1) → bcase (decide (n < (len : Int))) (∃ len1 : Nat, (Idx Tryz.prog σ'1 k0 1 len1) ∧ ((0 : Int) ≤ n) ∧ (n < (len1 : Int)) ∧ ∃ row : List D, (Row σ'1 k0 (Int.toNat n) row) ∧ ∃ n1 : Int, ((List.take 1 row) = ([.int .i64 n1] : List D)) ∧ bcase (decide (n1 ≥ (-2))) (bcase (decide (n1 < 65536)) (DCalls Tryz.prog n_ref01_Writer_Num [.one d, .one (.int .i64 (w64 (n1 + 2))), .one (.int .i64 2)] σ'1 (fun (r1 : RV) => fun (σ'2 : Store) => (r1 = (.tup [] : RV)) ∧ (I (w64 (n + 1)) σ'2) ∧ ((μ (w64 (n + 1)) σ'2) < (μ n σ'1)))) (DCalls Tryz.prog n_ref01_Writer_Num [.one d, .one (.int .i64 (-1)), .one (.int .i64 2)] σ'1 (fun (r1 : RV) => fun (σ'2 : Store) => (r1 = (.tup [] : RV)) ∧ (I (w64 (n + 1)) σ'2) ∧ ((μ (w64 (n + 1)) σ'2) < (μ n σ'1))))) (DCalls Tryz.prog n_ref01_Writer_Num [.one d, .one (.int .i64 (-1)), .one (.int .i64 2)] σ'1 (fun (r1 : RV) => fun (σ'2 : Store) => (r1 = (.tup [] : RV)) ∧ (I (w64 (n + 1)) σ'2) ∧ ((μ (w64 (n + 1)) σ'2) < (μ n σ'1))))) (∃ len1 : Nat, (Len k1 len1) ∧ ∃ I1 : Int → Store → Prop, ∃ μ1 : Int → Store → Nat, (I1 0 σ'1) ∧ ∀ n1 : Int, ∀ σ'2 : Store, (I1 n1 σ'2) → bcase (decide (n1 < (len1 : Int))) (∃ len2 : Nat, (Idx Tryz.prog σ'2 k1 4 len2) ∧ ((0 : Int) ≤ n1) ∧ (n1 < (len2 : Int)) ∧ ∃ row : List D, (Row σ'2 k1 (Int.toNat n1) row) ∧ ∃ n2 : Int, ∃ n3 : Int, ∃ n4 : Int, ∃ n5 : Int, ((List.take 4 row) = ([.int .i64 n2, .int .i64 n3, .int .i64 n4, .int .i64 n5] : List D)) ∧ DCalls Tryz.prog n_ref01_Writer_Num [.one d, .one (.int .i64 n2), .one (.int .i64 1)] σ'2 (fun (r1 : RV) => fun (σ'3 : Store) => (r1 = (.tup [] : RV)) ∧ DCalls Tryz.prog n_ref01_Writer_Num [.one d, .one (.int .i64 n4), .one (.int .i64 1)] σ'3 (fun (r2 : RV) => fun (σ'4 : Store) => (r2 = (.tup [] : RV)) ∧ (I1 (w64 (n1 + 1)) σ'4) ∧ ((μ1 (w64 (n1 + 1)) σ'4) < (μ1 n1 σ'2))))) (∃ len2 : Nat, (Len k4 len2) ∧ bcase (decide ((len2 : Int) < 4)) (Qp (.tup [.one (.str (ByteArray.mk (List.toArray []))), .one (.int .i64 32)]) σ'2) (∃ len3 : Nat, (IdxN Tryz.prog σ'2 k4 8 len3) ∧ ((0 : Int) ≤ 1) ∧ ((1 : Int) ≤ 4) ∧ ((4 : Int) ≤ (len3 : Int)) ∧ ∃ len4 : Nat, (Len (dsub k4 1 4) len4) ∧ ∃ I2 : Int → Store → Prop, ∃ μ2 : Int → Store → Nat, (I2 0 σ'2) ∧ ∀ n2 : Int, ∀ σ'3 : Store, (I2 n2 σ'3) → bcase (decide (n2 < (len4 : Int))) (∃ len5 : Nat, (Idx Tryz.prog σ'3 (dsub k4 1 4) 8 len5) ∧ ((0 : Int) ≤ n2) ∧ (n2 < (len5 : Int)) ∧ ∃ row : List D, (Row σ'3 (dsub k4 1 4) (Int.toNat n2) row) ∧ ∃ n3 : Int, ∃ n4 : Int, ∃ n5 : Int, ∃ n6 : Int, ∃ n7 : Int, ∃ n8 : Int, ∃ n9 : Int, ∃ n10 : Int, ((List.take 8 row) = ([.int .i64 n3, .int .i64 n4, .int .i64 n5, .int .i64 n6, .int .i64 n7, .int .i64 n8, .int .i64 n9, .int .i64 n10] : List D)) ∧ DCalls Tryz.prog n_ref01_Writer_Num [.one d, .one (.int .i64 n3), .one (.int .i64 4)] σ'3 (fun (r1 : RV) => fun (σ'4 : Store) => (r1 = (.tup [] : RV)) ∧ DCalls Tryz.prog n_ref01_Writer_Num [.one d, .one (.int .i64 n4), .one (.int .i64 4)] σ'4 (fun (r2 : RV) => fun (σ'5 : Store) => (r2 = (.tup [] : RV)) ∧ DCalls Tryz.prog n_ref01_Writer_Num [.one d, .one (.int .i64 n5), .one (.int .i64 4)] σ'5 (fun (r3 : RV) => fun (σ'6 : Store) => (r3 = (.tup [] : RV)) ∧ (I2 (w64 (n2 + 1)) σ'6) ∧ ((μ2 (w64 (n2 + 1)) σ'6) < (μ2 n2 σ'3)))))) (DCalls Tryz.prog n_ref01_Writer_Done [.one d] σ'3 (fun (r1 : RV) => fun (σ'4 : Store) => ∃ s : ByteArray, ∃ n3 : Int, (r1 = (.tup [.one (.str s), .one (.int .i64 n3)] : RV)) ∧ Qp (.tup [.one (.str s), .one (.int .i64 n3)]) σ'4))))))
theorem W_ref13_Save (k0 : D) (k1 : D) (k2 : D) (k3 : D) (k4 : D) (k5 : D) (k6 : Bool) (σ : Store) (Qp : RV → Store → Prop) (h : V_ref13_Save k0 k1 k2 k3 k4 k5 k6 σ Qp) : DCalls Tryz.prog n_ref13_Save [.agg [k0, k1, k2, k3, k4, k5, .bool k6]] σ Qp :=
  dcalls_of_body mixed (by kernel_rfl) Tryz.func6 an_ref13_Save ((show V_ref13_Save k0 k1 k2 k3 k4 k5 k6 σ Qp = dbody Tryz.prog Tryz.f6 an_ref13_Save [.agg [k0, k1, k2, k3, k4, k5, .bool k6]] σ Qp by kernel_rfl) ▸ h)
def an_locks_Fits : Ann := { esc := [], cbs := [2, 3], draws := [(13, { ord := [0, 1, 2, 3, 4, 5, 6, 7, 8, 9, 10, 11, 12, 13, 14, 15, 16, 17, 18, 19, 20, 21, 22, 23, 24, 25], nb := [], av := [], dir := [] })], loops := [(5, { mods := [(68, SlotSh.one (Sh.int IntKind.i64))], keep := [2, 3, 66, 67] }), (11, { mods := [(82, SlotSh.one (Sh.int IntKind.i64))], keep := [2, 3, 80, 81] }), (17, { mods := [(121, SlotSh.one (Sh.int IntKind.i64))], keep := [3, 119, 120] }), (23, { mods := [(139, SlotSh.one (Sh.int IntKind.i64))], keep := [3, 137, 138] })], joins := [(4, { mods := [], keep := [2, 3] })] }
def V_locks_Fits (c0 : D) (c1 : D) (c2 : D) (c3 : D) (c4 : D) (c5 : Int) (c6 : Int) (c7 : Int) (c8 : Int) (k0 : D) (k1 : D) (k2 : D) (k3 : D) (k4 : D) (k5 : D) (k6 : Bool) (σ : Store) (Qp : RV → Store → Prop) : Prop :=
  ∃ len : Nat, (Len c0 len) ∧ ∀ R : Store → Prop, (∀ σ' : Store, (∃ len1 : Nat, (Len k0 len1) ∧ ∃ I : Int → Store → Prop, ∃ μ : Int → Store → Nat, (I 0 σ') ∧ ∀ n : Int, ∀ σ'1 : Store, (I n σ'1) → bcase (decide (n < (len1 : Int))) (∃ len2 : Nat, (Idx Tryz.prog σ'1 k0 1 len2) ∧ ((0 : Int) ≤ n) ∧ (n < (len2 : Int)) ∧ ∃ row : List D, (Row σ'1 k0 (Int.toNat n) row) ∧ ∃ n1 : Int, ((List.take 1 row) = ([.int .i64 n1] : List D)) ∧ ∃ len3 : Nat, (Len c4 len3) ∧ DCalls Tryz.prog n_locks_between [.one (.int .i64 n1), .one (.int .i64 (-2)), .one (.int .i64 (len3 : Int))] σ'1 (fun (r : RV) => fun (σ'2 : Store) => ∃ b : Bool, (r = (.a (.one (.bool b)) : RV)) ∧ bcase (!b) (Qp (.a (.one (.bool false))) σ'2) ((I (w64 (n + 1)) σ'2) ∧ ((μ (w64 (n + 1)) σ'2) < (μ n σ'1))))) (∃ len2 : Nat, (Len k1 len2) ∧ ∃ I1 : Int → Store → Prop, ∃ μ1 : Int → Store → Nat, (I1 0 σ'1) ∧ ∀ n1 : Int, ∀ σ'2 : Store, (I1 n1 σ'2) → bcase (decide (n1 < (len2 : Int))) (∃ len3 : Nat, (Idx Tryz.prog σ'2 k1 4 len3) ∧ ((0 : Int) ≤ n1) ∧ (n1 < (len3 : Int)) ∧ ∃ row : List D, (Row σ'2 k1 (Int.toNat n1) row) ∧ ∃ n2 : Int, ∃ n3 : Int, ∃ n4 : Int, ∃ n5 : Int, ((List.take 4 row) = ([.int .i64 n2, .int .i64 n3, .int .i64 n4, .int .i64 n5] : List D)) ∧ DCalls Tryz.prog n_locks_between [.one (.int .i64 n2), .one (.int .i64 0), .one (.int .i64 5)] σ'2 (fun (r : RV) => fun (σ'3 : Store) => ∃ b : Bool, (r = (.a (.one (.bool b)) : RV)) ∧ bcase (!b) (Qp (.a (.one (.bool false))) σ'3) (∃ len4 : Nat, (Idx Tryz.prog σ'3 c4 6 len4) ∧ ((0 : Int) ≤ n1) ∧ (n1 < (len4 : Int)) ∧ ∃ row1 : List D, (Row σ'3 c4 (Int.toNat n1) row1) ∧ ∃ d : D, ((List.take 1 (List.drop 2 row1)) = ([d] : List D)) ∧ ∃ len5 : Nat, (Len d len5) ∧ DCalls Tryz.prog n_locks_between [.one (.int .i64 n4), .one (.int .i64 0), .one (.int .i64 (len5 : Int))] σ'3 (fun (r1 : RV) => fun (σ'4 : Store) => ∃ b1 : Bool, (r1 = (.a (.one (.bool b1)) : RV)) ∧ bcase (!b1) (Qp (.a (.one (.bool false))) σ'4) (Fw.newObj σ'4 (.live t_int [[.int .i64 n3], [.int .i64 n5]]) (fun (id : Nat) => fun (σ'5 : Store) => DCalls Tryz.prog n_locks_times [.one (.int .i64 0), .one (.osl id 0 2)] σ'5 (fun (r2 : RV) => fun (σ'6 : Store) => ∃ b2 : Bool, (r2 = (.a (.one (.bool b2)) : RV)) ∧ bcase (!b2) (Qp (.a (.one (.bool false))) σ'6) ((I1 (w64 (n1 + 1)) σ'6) ∧ ((μ1 (w64 (n1 + 1)) σ'6) < (μ1 n1 σ'2)))))))))) (Fw.newObj σ'2 (.live t_sl_Mover [[k2], [k3]]) (fun (id : Nat) => fun (σ'3 : Store) => DCalls Tryz.prog n_slices_Concat_Mover [.one (.osl id 0 2)] σ'3 (fun (r : RV) => fun (σ'4 : Store) => ∃ d : D, (r = (.a (.one d) : RV)) ∧ ∃ len3 : Nat, (Len d len3) ∧ ∃ I2 : Int → Store → Prop, ∃ μ2 : Int → Store → Nat, (I2 0 σ'4) ∧ ∀ n2 : Int, ∀ σ'5 : Store, (I2 n2 σ'5) → bcase (decide (n2 < (len3 : Int))) (∃ len4 : Nat, (Idx Tryz.prog σ'5 d 2 len4) ∧ ((0 : Int) ≤ n2) ∧ (n2 < (len4 : Int)) ∧ ∃ row : List D, (Row σ'5 d (Int.toNat n2) row) ∧ ∃ n3 : Int, ∃ n4 : Int, ((List.take 2 row) = ([.int .i64 n3, .int .i64 n4] : List D)) ∧ DCalls Tryz.prog n_locks_between [.one (.int .i64 n3), .one (.int .i64 0), .one (.int .i64 2)] σ'5 (fun (r1 : RV) => fun (σ'6 : Store) => ∃ b : Bool, (r1 = (.a (.one (.bool b)) : RV)) ∧ bcase (!b) (Qp (.a (.one (.bool false))) σ'6) (DCalls Tryz.prog n_locks_between [.one (.int .i64 n4), .one (.int .i64 (-1)), .one (.int .i64 4294967295)] σ'6 (fun (r2 : RV) => fun (σ'7 : Store) => ∃ b1 : Bool, (r2 = (.a (.one (.bool b1)) : RV)) ∧ bcase (!b1) (Qp (.a (.one (.bool false))) σ'7) ((I2 (w64 (n2 + 1)) σ'7) ∧ ((μ2 (w64 (n2 + 1)) σ'7) < (μ2 n2 σ'5))))))) (∃ len4 : Nat, (Len k4 len4) ∧ ∃ I3 : Int → Store → Prop, ∃ μ3 : Int → Store → Nat, (I3 0 σ'5) ∧ ∀ n3 : Int, ∀ σ'6 : Store, (I3 n3 σ'6) → bcase (decide (n3 < (len4 : Int))) (∃ len5 : Nat, (Idx Tryz.prog σ'6 k4 8 len5) ∧ ((0 : Int) ≤ n3) ∧ (n3 < (len5 : Int)) ∧ ∃ row : List D, (Row σ'6 k4 (Int.toNat n3) row) ∧ ∃ n4 : Int, ∃ n5 : Int, ∃ n6 : Int, ∃ n7 : Int, ∃ n8 : Int, ∃ n9 : Int, ∃ n10 : Int, ∃ n11 : Int, ((List.take 8 row) = ([.int .i64 n4, .int .i64 n5, .int .i64 n6, .int .i64 n7, .int .i64 n8, .int .i64 n9, .int .i64 n10, .int .i64 n11] : List D)) ∧ Fw.newObj σ'6 (.live t_int [[.int .i64 n4], [.int .i64 n5], [.int .i64 n6], [.int .i64 n7], [.int .i64 n8], [.int .i64 n9], [.int .i64 n10]]) (fun (id1 : Nat) => fun (σ'7 : Store) => DCalls Tryz.prog n_locks_times [.one (.int .i64 0), .one (.osl id1 0 7)] σ'7 (fun (r1 : RV) => fun (σ'8 : Store) => ∃ b : Bool, (r1 = (.a (.one (.bool b)) : RV)) ∧ bcase (!b) (Qp (.a (.one (.bool false))) σ'8) (Fw.newObj σ'8 (.live t_int [[.int .i64 n11]]) (fun (id2 : Nat) => fun (σ'9 : Store) => DCalls Tryz.prog n_locks_times [.one (.int .i64 1), .one (.osl id2 0 1)] σ'9 (fun (r2 : RV) => fun (σ'10 : Store) => ∃ b1 : Bool, (r2 = (.a (.one (.bool b1)) : RV)) ∧ bcase (!b1) (Qp (.a (.one (.bool false))) σ'10) ((I3 (w64 (n3 + 1)) σ'10) ∧ ((μ3 (w64 (n3 + 1)) σ'10) < (μ3 n3 σ'6))))))))) (DCalls Tryz.prog n_locks_times [.one (.int .i64 1), .one k5] σ'6 (fun (r1 : RV) => fun (σ'7 : Store) => ∃ b : Bool, (r1 = (.a (.one (.bool b)) : RV)) ∧ Qp (.a (.one (.bool b))) σ'7)))))))) → R σ') → DCalls Tryz.prog n_conf_Check [.agg [c0, c1, c2, c3, c4, .int .i64 c5, .int .i64 c6, .int .i64 c7, .int .i64 c8]] σ (fun (r : RV) => fun (σ' : Store) => ∃ n : Int, (r = (.a (.one (.int .i64 n)) : RV)) ∧ bcase (n != 0) (Qp (.a (.one (.bool false))) σ') (∃ len1 : Nat, (Len k0 len1) ∧ bcase ((len1 : Int) != (len : Int)) (Qp (.a (.one (.bool false))) σ') (∃ len2 : Nat, (Len k2 len2) ∧ bcase ((len2 : Int) != (len : Int)) (Qp (.a (.one (.bool false))) σ') (∃ len3 : Nat, (Len k5 len3) ∧ bcase ((len3 : Int) != (len : Int)) (Qp (.a (.one (.bool false))) σ') (∃ len4 : Nat, (Len k1 len4) ∧ ∃ len5 : Nat, (Len c4 len5) ∧ bcase ((len4 : Int) != (len5 : Int)) (Qp (.a (.one (.bool false))) σ') (∃ len6 : Nat, (Len k3 len6) ∧ ∃ len7 : Nat, (Len c3 len7) ∧ bcase ((len6 : Int) != (len7 : Int)) (Qp (.a (.one (.bool false))) σ') (∃ len8 : Nat, (Len k4 len8) ∧ bcase ((len8 : Int) != 4) (Qp (.a (.one (.bool false))) σ') (R σ'))))))))
theorem W_locks_Fits (c0 : D) (c1 : D) (c2 : D) (c3 : D) (c4 : D) (c5 : Int) (c6 : Int) (c7 : Int) (c8 : Int) (k0 : D) (k1 : D) (k2 : D) (k3 : D) (k4 : D) (k5 : D) (k6 : Bool) (σ : Store) (Qp : RV → Store → Prop) (h : V_locks_Fits c0 c1 c2 c3 c4 c5 c6 c7 c8 k0 k1 k2 k3 k4 k5 k6 σ Qp) : DCalls Tryz.prog n_locks_Fits [.agg [c0, c1, c2, c3, c4, .int .i64 c5, .int .i64 c6, .int .i64 c7, .int .i64 c8], .agg [k0, k1, k2, k3, k4, k5, .bool k6]] σ Qp :=
  dcalls_of_body mixed (by kernel_rfl) Tryz.func10 an_locks_Fits ((show V_locks_Fits c0 c1 c2 c3 c4 c5 c6 c7 c8 k0 k1 k2 k3 k4 k5 k6 σ Qp = dbody Tryz.prog Tryz.f10 an_locks_Fits [.agg [c0, c1, c2, c3, c4, .int .i64 c5, .int .i64 c6, .int .i64 c7, .int .i64 c8], .agg [k0, k1, k2, k3, k4, k5, .bool k6]] σ Qp by kernel_rfl) ▸ h)
def an_locks_Request : Ann := { esc := [6, 7], cbs := [4, 5], draws := [], loops := [], joins := [] }
def V_locks_Request (c0 : D) (c1 : D) (c2 : D) (c3 : D) (c4 : D) (c5 : Int) (c6 : Int) (c7 : Int) (c8 : Int) (k0 : D) (k1 : D) (k2 : D) (k3 : D) (k4 : D) (k5 : D) (k6 : Bool) (now : Int) (r : Int) (σ : Store) (Qp : RV → Store → Prop) : Prop :=
  Fw.newObj σ (.live t_int [[.int .i64 now]]) (fun (id : Nat) => fun (σ' : Store) => Fw.newObj σ' (.live t_int [[.int .i64 r]]) (fun (id1 : Nat) => fun (σ'1 : Store) => ∃ row : List D, (Row σ'1 (.osl id 0 1) 0 row) ∧ ∃ n : Int, ((List.take 1 row) = ([.int .i64 n] : List D)) ∧ DCalls Tryz.prog n_locks_change [.agg [c0, c1, c2, c3, c4, .int .i64 c5, .int .i64 c6, .int .i64 c7, .int .i64 c8], .agg [k0, k1, k2, k3, k4, k5, .bool k6], .one (.int .i64 n), .one (.fn n_locks_Request_1 [] [(false, [.el (.osl id 0 1) 0 0]), (false, [.el (.osl id1 0 1) 0 0])])] σ'1 (fun (r1 : RV) => fun (σ'2 : Store) => ∃ d : D, ∃ d1 : D, ∃ d2 : D, ∃ d3 : D, ∃ d4 : D, ∃ d5 : D, ∃ b : Bool, ∃ n1 : Int, (r1 = (.tup [.agg [d, d1, d2, d3, d4, d5, .bool b], .one (.int .i64 n1)] : RV)) ∧ Qp (.tup [.agg [d, d1, d2, d3, d4, d5, .bool b], .one (.int .i64 n1)]) σ'2)))
theorem W_locks_Request (c0 : D) (c1 : D) (c2 : D) (c3 : D) (c4 : D) (c5 : Int) (c6 : Int) (c7 : Int) (c8 : Int) (k0 : D) (k1 : D) (k2 : D) (k3 : D) (k4 : D) (k5 : D) (k6 : Bool) (now : Int) (r : Int) (σ : Store) (Qp : RV → Store → Prop) (h : V_locks_Request c0 c1 c2 c3 c4 c5 c6 c7 c8 k0 k1 k2 k3 k4 k5 k6 now r σ Qp) : DCalls Tryz.prog n_locks_Request [.agg [c0, c1, c2, c3, c4, .int .i64 c5, .int .i64 c6, .int .i64 c7, .int .i64 c8], .agg [k0, k1, k2, k3, k4, k5, .bool k6], .one (.int .i64 now), .one (.int .i64 r)] σ Qp :=
  dcalls_of_body mixed (by kernel_rfl) Tryz.func14 an_locks_Request ((show V_locks_Request c0 c1 c2 c3 c4 c5 c6 c7 c8 k0 k1 k2 k3 k4 k5 k6 now r σ Qp = dbody Tryz.prog Tryz.f14 an_locks_Request [.agg [c0, c1, c2, c3, c4, .int .i64 c5, .int .i64 c6, .int .i64 c7, .int .i64 c8], .agg [k0, k1, k2, k3, k4, k5, .bool k6], .one (.int .i64 now), .one (.int .i64 r)] σ Qp by kernel_rfl) ▸ h)
def an_pack_Writer_Long : Ann := { esc := [], cbs := [], draws := [], loops := [], joins := [] }
def V_pack_Writer_Long (w : D) (list : D) (σ : Store) (Qp : RV → Store → Prop) : Prop :=
  DCalls Tryz.prog n_pack_Writer_fixed [.one w, .one (.int .i64 32), .one list] σ (fun (r : RV) => fun (σ' : Store) => (r = (.tup [] : RV)) ∧ Qp (.tup []) σ')
theorem W_pack_Writer_Long (w : D) (list : D) (σ : Store) (Qp : RV → Store → Prop) (h : V_pack_Writer_Long w list σ Qp) : DCalls Tryz.prog n_pack_Writer_Long [.one w, .one list] σ Qp :=
  dcalls_of_body mixed (by kernel_rfl) Tryz.func18 an_pack_Writer_Long ((show V_pack_Writer_Long w list σ Qp = dbody Tryz.prog Tryz.f18 an_pack_Writer_Long [.one w, .one list] σ Qp by kernel_rfl) ▸ h)
def an_ref01_Writer_Done : Ann := { esc := [], cbs := [], draws := [(2, { ord := [0, 1, 2, 3, 4, 5], nb := [], av := [], dir := [] })], loops := [], joins := [] }
def V_ref01_Writer_Done (w : D) (σ : Store) (Qp : RV → Store → Prop) : Prop :=
  (NotNil w) ∧ ∃ s : D, ∃ i : Nat, ∃ off : Nat, (w = (.el s i off : D)) ∧ ∃ row : List D, (Row σ s i row) ∧ ∃ n : Int, ((List.take 1 (List.drop (off + 2) row)) = ([.int .i64 n] : List D)) ∧ bcase (n != 0) ((NotNil w) ∧ ∃ s1 : D, ∃ i1 : Nat, ∃ off1 : Nat, (w = (.el s1 i1 off1 : D)) ∧ ∃ row1 : List D, (Row σ s1 i1 row1) ∧ ∃ n1 : Int, ((List.take 1 (List.drop (off1 + 2) row1)) = ([.int .i64 n1] : List D)) ∧ Qp (.tup [.one (.str (ByteArray.mk (List.toArray []))), .one (.int .i64 n1)]) σ) ((NotNil w) ∧ ∃ s1 : D, ∃ i1 : Nat, ∃ off1 : Nat, (w = (.el s1 i1 off1 : D)) ∧ ∃ row1 : List D, (Row σ s1 i1 row1) ∧ ∃ d : D, ((List.take 1 (List.drop (off1 + 0) row1)) = ([d] : List D)) ∧ ∃ b : ByteArray, (Fw.Rows Tryz.prog σ t_uint8 d (bytesD b)) ∧ Qp (.tup [.one (.str b), .one (.int .i64 0)]) σ)
theorem W_ref01_Writer_Done (w : D) (σ : Store) (Qp : RV → Store → Prop) (h : V_ref01_Writer_Done w σ Qp) : DCalls Tryz.prog n_ref01_Writer_Done [.one w] σ Qp :=
  dcalls_of_body mixed (by kernel_rfl) Tryz.func22 an_ref01_Writer_Done ((show V_ref01_Writer_Done w σ Qp = dbody Tryz.prog Tryz.f22 an_ref01_Writer_Done [.one w] σ Qp by kernel_rfl) ▸ h)
def an_pack_Reader_Long : Ann := { esc := [], cbs := [], draws := [], loops := [], joins := [] }
def V_pack_Reader_Long (r : D) (σ : Store) (Qp : RV → Store → Prop) : Prop :=
  DCalls Tryz.prog n_pack_Reader_fixed [.one r, .one (.int .i64 4)] σ (fun (r1 : RV) => fun (σ' : Store) => ∃ n : Int, (r1 = (.a (.one (.int .i64 n)) : RV)) ∧ Qp (.a (.one (.int .i64 n))) σ')
theorem W_pack_Reader_Long (r : D) (σ : Store) (Qp : RV → Store → Prop) (h : V_pack_Reader_Long r σ Qp) : DCalls Tryz.prog n_pack_Reader_Long [.one r] σ Qp :=
  dcalls_of_body mixed (by kernel_rfl) Tryz.func26 an_pack_Reader_Long ((show V_pack_Reader_Long r σ Qp = dbody Tryz.prog Tryz.f26 an_pack_Reader_Long [.one r] σ Qp by kernel_rfl) ▸ h)
def an_ref01_Reader_Num : Ann := { esc := [], cbs := [], draws := [], loops := [(6, { mods := [(5, SlotSh.one (Sh.int IntKind.i64)), (6, SlotSh.one (Sh.int IntKind.i64))], keep := [0, 1] })], joins := [(4, { mods := [], keep := [0, 1] })] }
def V_ref01_Reader_Num (r : D) (width : Int) (σ : Store) (Qp : RV → Store → Prop) : Prop :=
  ∀ R : Store → Prop, (∀ σ' : Store, (∃ I : Int → Int → Store → Prop, ∃ μ : Int → Int → Store → Nat, (I 0 0 σ') ∧ ∀ n : Int, ∀ n1 : Int, ∀ σ'1 : Store, (I n n1 σ'1) → bcase (decide (n1 < width)) ((NotNil r) ∧ ∃ s : D, ∃ i : Nat, ∃ off : Nat, (r = (.el s i off : D)) ∧ ∃ row : List D, (Row σ'1 s i row) ∧ ∃ s1 : ByteArray, ((List.take 1 (List.drop (off + 0) row)) = ([.str s1] : List D)) ∧ ∃ n2 : Int, (SByte s1 n1 n2) ∧ (I (w64 ((w64 (256 * n)) + (w64 n2))) (w64 (n1 + 1)) σ'1) ∧ ((μ (w64 ((w64 (256 * n)) + (w64 n2))) (w64 (n1 + 1)) σ'1) < (μ n n1 σ'1))) ((NotNil r) ∧ ∃ s : D, ∃ i : Nat, ∃ off : Nat, (r = (.el s i off : D)) ∧ ∃ row : List D, (Row σ'1 s i row) ∧ ∃ s1 : ByteArray, ((List.take 1 (List.drop (off + 0) row)) = ([.str s1] : List D)) ∧ ((0 : Int) ≤ width) ∧ (width ≤ (ByteArray.size s1 : Int)) ∧ (NotNil r) ∧ ∃ s2 : D, ∃ i1 : Nat, ∃ off1 : Nat, (r = (.el s2 i1 off1 : D)) ∧ storeEl [.str (ByteArray.extract s1 (Int.toNat width) (ByteArray.size s1))] σ'1 s2 i1 (off1 + 0) (fun (σ'2 : Store) => Qp (.a (.one (.int .i64 n))) σ'2))) → R σ') → (NotNil r) ∧ ∃ s : D, ∃ i : Nat, ∃ off : Nat, (r = (.el s i off : D)) ∧ ∃ row : List D, (Row σ s i row) ∧ ∃ b : Bool, ((List.take 1 (List.drop (off + 1) row)) = ([.bool b] : List D)) ∧ bcase b ((NotNil r) ∧ ∃ s1 : D, ∃ i1 : Nat, ∃ off1 : Nat, (r = (.el s1 i1 off1 : D)) ∧ storeEl [.bool true] σ s1 i1 (off1 + 1) (fun (σ' : Store) => Qp (.a (.one (.int .i64 0))) σ')) ((NotNil r) ∧ ∃ s1 : D, ∃ i1 : Nat, ∃ off1 : Nat, (r = (.el s1 i1 off1 : D)) ∧ ∃ row1 : List D, (Row σ s1 i1 row1) ∧ ∃ s2 : ByteArray, ((List.take 1 (List.drop (off1 + 0) row1)) = ([.str s2] : List D)) ∧ bcase (decide ((ByteArray.size s2 : Int) < width)) ((NotNil r) ∧ ∃ s3 : D, ∃ i2 : Nat, ∃ off2 : Nat, (r = (.el s3 i2 off2 : D)) ∧ storeEl [.bool true] σ s3 i2 (off2 + 1) (fun (σ' : Store) => Qp (.a (.one (.int .i64 0))) σ')) (R σ))
theorem W_ref01_Reader_Num (r : D) (width : Int) (σ : Store) (Qp : RV → Store → Prop) (h : V_ref01_Reader_Num r width σ Qp) : DCalls Tryz.prog n_ref01_Reader_Num [.one r, .one (.int .i64 width)] σ Qp :=
  dcalls_of_body mixed (by kernel_rfl) Tryz.func30 an_ref01_Reader_Num ((show V_ref01_Reader_Num r width σ Qp = dbody Tryz.prog Tryz.f30 an_ref01_Reader_Num [.one r, .one (.int .i64 width)] σ Qp by kernel_rfl) ▸ h)
def an_conf_Check : Ann := { esc := [], cbs := [1], draws := [], loops := [(11, { mods := [(33, SlotSh.one (Sh.int IntKind.i64))], keep := [1, 3, 31, 32] })], joins := [] }
def V_conf_Check (c0 : D) (c1 : D) (c2 : D) (c3 : D) (c4 : D) (c5 : Int) (c6 : Int) (c7 : Int) (c8 : Int) (σ : Store) (Qp : RV → Store → Prop) : Prop :=
  DCalls Tryz.prog n_topo_Check [.one c0, .one c1] σ (fun (r : RV) => fun (σ' : Store) => ∃ n : Int, (r = (.a (.one (.int .i64 n)) : RV)) ∧ bcase (n != 0) (Qp (.a (.one (.int .i64 6))) σ') (DCalls Tryz.prog n_conf_plan_signals [.agg [c0, c1, c2, c3, c4, .int .i64 c5, .int .i64 c6, .int .i64 c7, .int .i64 c8]] σ' (fun (r1 : RV) => fun (σ'1 : Store) => ∃ b : Bool, (r1 = (.a (.one (.bool b)) : RV)) ∧ bcase (!b) (Qp (.a (.one (.int .i64 7))) σ'1) (DCalls Tryz.prog n_conf_plan_crossings [.agg [c0, c1, c2, c3, c4, .int .i64 c5, .int .i64 c6, .int .i64 c7, .int .i64 c8]] σ'1 (fun (r2 : RV) => fun (σ'2 : Store) => ∃ b1 : Bool, (r2 = (.a (.one (.bool b1)) : RV)) ∧ bcase (!b1) (Qp (.a (.one (.int .i64 8))) σ'2) (∃ len : Nat, (Len c4 len) ∧ bcase (decide ((len : Int) > 12)) (Qp (.a (.one (.int .i64 9))) σ'2) (∃ len1 : Nat, (Len c4 len1) ∧ ∃ I : Int → Store → Prop, ∃ μ : Int → Store → Nat, (I 0 σ'2) ∧ ∀ n1 : Int, ∀ σ'3 : Store, (I n1 σ'3) → bcase (decide (n1 < (len1 : Int))) (∃ len2 : Nat, (Idx Tryz.prog σ'3 c4 6 len2) ∧ ((0 : Int) ≤ n1) ∧ (n1 < (len2 : Int)) ∧ ∃ row : List D, (Row σ'3 c4 (Int.toNat n1) row) ∧ ∃ n2 : Int, ∃ n3 : Int, ∃ d : D, ∃ d1 : D, ∃ d2 : D, ∃ b2 : Bool, ((List.take 6 row) = ([.int .i64 n2, .int .i64 n3, d, d1, d2, .bool b2] : List D)) ∧ DCalls Tryz.prog n_conf_plan_route [.agg [c0, c1, c2, c3, c4, .int .i64 c5, .int .i64 c6, .int .i64 c7, .int .i64 c8], .agg [.int .i64 n2, .int .i64 n3, d, d1, d2, .bool b2]] σ'3 (fun (r3 : RV) => fun (σ'4 : Store) => ∃ n4 : Int, (r3 = (.a (.one (.int .i64 n4)) : RV)) ∧ bcase (n4 != 0) (Qp (.a (.one (.int .i64 n4))) σ'4) ((([[c0, c1, c2, c3, c4, .int .i64 c5, .int .i64 c6, .int .i64 c7, .int .i64 c8]] : List (List D)) = ([[c0, c1, c2, c3, c4, .int .i64 c5, .int .i64 c6, .int .i64 c7, .int .i64 c8]] : List (List D))) ∧ (I (w64 (n1 + 1)) σ'4) ∧ ((μ (w64 (n1 + 1)) σ'4) < (μ n1 σ'3))))) (DCalls Tryz.prog n_conf_between [.one (.int .i64 c5), .one (.int .i64 1), .one (.int .i64 8)] σ'3 (fun (r3 : RV) => fun (σ'4 : Store) => ∃ b2 : Bool, (r3 = (.a (.one (.bool b2)) : RV)) ∧ bcase (!b2) (Qp (.a (.one (.int .i64 12))) σ'4) (DCalls Tryz.prog n_conf_between [.one (.int .i64 c6), .one (.int .i64 0), .one (.int .i64 8)] σ'4 (fun (r4 : RV) => fun (σ'5 : Store) => ∃ b3 : Bool, (r4 = (.a (.one (.bool b3)) : RV)) ∧ bcase (!b3) (Qp (.a (.one (.int .i64 12))) σ'5) (DCalls Tryz.prog n_conf_between [.one (.int .i64 c7), .one (.int .i64 (w64 ((w64 (c5 + c6)) + 1))), .one (.int .i64 40)] σ'5 (fun (r5 : RV) => fun (σ'6 : Store) => ∃ b4 : Bool, (r5 = (.a (.one (.bool b4)) : RV)) ∧ bcase (!b4) (Qp (.a (.one (.int .i64 12))) σ'6) (DCalls Tryz.prog n_conf_between [.one (.int .i64 c8), .one (.int .i64 1), .one (.int .i64 1000000)] σ'6 (fun (r6 : RV) => fun (σ'7 : Store) => ∃ b5 : Bool, (r6 = (.a (.one (.bool b5)) : RV)) ∧ bcase (!b5) (Qp (.a (.one (.int .i64 12))) σ'7) (Qp (.a (.one (.int .i64 0))) σ'7))))))))))))))))
theorem W_conf_Check (c0 : D) (c1 : D) (c2 : D) (c3 : D) (c4 : D) (c5 : Int) (c6 : Int) (c7 : Int) (c8 : Int) (σ : Store) (Qp : RV → Store → Prop) (h : V_conf_Check c0 c1 c2 c3 c4 c5 c6 c7 c8 σ Qp) : DCalls Tryz.prog n_conf_Check [.agg [c0, c1, c2, c3, c4, .int .i64 c5, .int .i64 c6, .int .i64 c7, .int .i64 c8]] σ Qp :=
  dcalls_of_body mixed (by kernel_rfl) Tryz.func34 an_conf_Check ((show V_conf_Check c0 c1 c2 c3 c4 c5 c6 c7 c8 σ Qp = dbody Tryz.prog Tryz.f34 an_conf_Check [.agg [c0, c1, c2, c3, c4, .int .i64 c5, .int .i64 c6, .int .i64 c7, .int .i64 c8]] σ Qp by kernel_rfl) ▸ h)
def an_locks_movers : Ann := { esc := [], cbs := [2], draws := [], loops := [(3, { mods := [(16, SlotSh.one (Sh.int IntKind.i64))], keep := [1, 2, 6, 14, 15] })], joins := [] }
def V_locks_movers (c0 : D) (c1 : D) (c2 : D) (c3 : D) (c4 : D) (c5 : Int) (c6 : Int) (c7 : Int) (c8 : Int) (now : Int) (σ : Store) (Qp : RV → Store → Prop) : Prop :=
  ∃ len : Nat, (Len c0 len) ∧ ((0 : Int) ≤ (len : Int)) ∧ ((len : Int) ≤ (len : Int)) ∧ (((16 : Int) * (len : Int)) ≤ (2 ^ 48)) ∧ Fw.newObj σ (.live t_Mover (List.replicate (Int.toNat (len : Int)) [.int .i64 0, .int .i64 0])) (fun (id : Nat) => fun (σ' : Store) => ∃ len1 : Nat, (Len c0 len1) ∧ ∃ I : Int → Store → Prop, ∃ μ : Int → Store → Nat, (I 0 σ') ∧ ∀ n : Int, ∀ σ'1 : Store, (I n σ'1) → bcase (decide (n < (len1 : Int))) (∃ len2 : Nat, (Idx Tryz.prog σ'1 c0 3 len2) ∧ ((0 : Int) ≤ n) ∧ (n < (len2 : Int)) ∧ ∃ row : List D, (Row σ'1 c0 (Int.toNat n) row) ∧ ∃ n1 : Int, ∃ n2 : Int, ∃ n3 : Int, ((List.take 3 row) = ([.int .i64 n1, .int .i64 n2, .int .i64 n3] : List D)) ∧ bcase (n1 == 1) (DCalls Tryz.prog n_mover_Start [.one (.int .i64 now)] σ'1 (fun (r : RV) => fun (σ'2 : Store) => ∃ n4 : Int, ∃ n5 : Int, (r = (.a (.agg [.int .i64 n4, .int .i64 n5]) : RV)) ∧ ∃ len3 : Nat, (Idx Tryz.prog σ'2 (.osl id 0 (Int.toNat (len : Int))) 2 len3) ∧ ((0 : Int) ≤ n) ∧ (n < (len3 : Int)) ∧ storeEl [.int .i64 n4, .int .i64 n5] σ'2 (.osl id 0 (Int.toNat (len : Int))) (Int.toNat n) 0 (fun (σ'3 : Store) => (I (w64 (n + 1)) σ'3) ∧ ((μ (w64 (n + 1)) σ'3) < (μ n σ'1))))) ((I (w64 (n + 1)) σ'1) ∧ ((μ (w64 (n + 1)) σ'1) < (μ n σ'1)))) (Fw.newObj σ'1 (.live t_Mover [[.int .i64 1, .int .i64 now]]) (fun (id1 : Nat) => fun (σ'2 : Store) => ∃ len2 : Nat, (Len c3 len2) ∧ DCalls Tryz.prog n_slices_Repeat_Mover [.one (.osl id1 0 1), .one (.int .i64 (len2 : Int))] σ'2 (fun (r : RV) => fun (σ'3 : Store) => ∃ d : D, (r = (.a (.one d) : RV)) ∧ Qp (.tup [.one (.osl id 0 (Int.toNat (len : Int))), .one d]) σ'3))))
theorem W_locks_movers (c0 : D) (c1 : D) (c2 : D) (c3 : D) (c4 : D) (c5 : Int) (c6 : Int) (c7 : Int) (c8 : Int) (now : Int) (σ : Store) (Qp : RV → Store → Prop) (h : V_locks_movers c0 c1 c2 c3 c4 c5 c6 c7 c8 now σ Qp) : DCalls Tryz.prog n_locks_movers [.agg [c0, c1, c2, c3, c4, .int .i64 c5, .int .i64 c6, .int .i64 c7, .int .i64 c8], .one (.int .i64 now)] σ Qp :=
  dcalls_of_body mixed (by kernel_rfl) Tryz.func38 an_locks_movers ((show V_locks_movers c0 c1 c2 c3 c4 c5 c6 c7 c8 now σ Qp = dbody Tryz.prog Tryz.f38 an_locks_movers [.agg [c0, c1, c2, c3, c4, .int .i64 c5, .int .i64 c6, .int .i64 c7, .int .i64 c8], .one (.int .i64 now)] σ Qp by kernel_rfl) ▸ h)
def an_pack_Writer_fixed : Ann := { esc := [], cbs := [], draws := [], loops := [(1, { mods := [(12, SlotSh.one (Sh.int IntKind.i64))], keep := [0, 1, 10, 11] }), (7, { mods := [(8, SlotSh.one (Sh.any)), (9, SlotSh.one (Sh.int IntKind.i64))], keep := [0, 1, 7, 10, 11, 12] })], joins := [(5, { mods := [], keep := [0, 1, 7, 10, 11, 12] })] }
def V_pack_Writer_fixed (w : D) (bits : Int) (list : D) (σ : Store) (Qp : RV → Store → Prop) : Prop :=
  ∃ len : Nat, (Len list len) ∧ ∃ I : Int → Store → Prop, ∃ μ : Int → Store → Nat, (I 0 σ) ∧ ∀ n : Int, ∀ σ' : Store, (I n σ') → bcase (decide (n < (len : Int))) (∃ len1 : Nat, (Idx Tryz.prog σ' list 1 len1) ∧ ((0 : Int) ≤ n) ∧ (n < (len1 : Int)) ∧ ∃ row : List D, (Row σ' list (Int.toNat n) row) ∧ ∃ n1 : Int, ((List.take 1 row) = ([.int .i64 n1] : List D)) ∧ ∀ R : Store → Prop, (∀ σ'1 : Store, (∃ I1 : D → Int → Store → Prop, ∃ μ1 : D → Int → Store → Nat, (I1 .nils (w64 (bits - 8)) σ'1) ∧ ∀ d : D, ∀ n2 : Int, ∀ σ'2 : Store, (I1 d n2 σ'2) → bcase (decide (n2 ≥ 0)) (((0 : Int) ≤ (IntKind.wrap .u64 n2)) ∧ Fw.newObj σ'2 (.live t_uint8 [[.int .u8 (IntKind.wrap .u8 (Int.fdiv n1 (2 ^ (Min.min (Int.toNat (IntKind.wrap .u64 n2)) 64))))]]) (fun (id : Nat) => fun (σ'3 : Store) => appendTo Tryz.prog σ'3 t_uint8 1 d (.osl id 0 1) (fun (d1 : D) => fun (σ'4 : Store) => (I1 d1 (w64 (n2 - 8)) σ'4) ∧ ((μ1 d1 (w64 (n2 - 8)) σ'4) < (μ1 d n2 σ'2))))) (DCalls Tryz.prog n_pack_Writer_put [.one w, .one d] σ'2 (fun (r : RV) => fun (σ'3 : Store) => (r = (.tup [] : RV)) ∧ (I (w64 (n + 1)) σ'3) ∧ ((μ (w64 (n + 1)) σ'3) < (μ n σ'))))) → R σ'1) → bcase (decide (n1 < 0)) ((NotNil w) ∧ ∃ s : D, ∃ i : Nat, ∃ off : Nat, (w = (.el s i off : D)) ∧ DCalls Tryz.prog n_pack_trouble_note [.one (.el s i (off + 0)), .one (.int .i64 32)] σ' (fun (r : RV) => fun (σ'1 : Store) => (r = (.tup [] : RV)) ∧ R σ'1)) (((0 : Int) ≤ (IntKind.wrap .u64 bits)) ∧ bcase ((Int.fdiv n1 (2 ^ (Min.min (Int.toNat (IntKind.wrap .u64 bits)) 64))) != 0) ((NotNil w) ∧ ∃ s : D, ∃ i : Nat, ∃ off : Nat, (w = (.el s i off : D)) ∧ DCalls Tryz.prog n_pack_trouble_note [.one (.el s i (off + 0)), .one (.int .i64 32)] σ' (fun (r : RV) => fun (σ'1 : Store) => (r = (.tup [] : RV)) ∧ R σ'1)) (R σ'))) (Qp (.tup []) σ')
theorem W_pack_Writer_fixed (w : D) (bits : Int) (list : D) (σ : Store) (Qp : RV → Store → Prop) (h : V_pack_Writer_fixed w bits list σ Qp) : DCalls Tryz.prog n_pack_Writer_fixed [.one w, .one (.int .i64 bits), .one list] σ Qp :=
  dcalls_of_body mixed (by kernel_rfl) Tryz.func42 an_pack_Writer_fixed ((show V_pack_Writer_fixed w bits list σ Qp = dbody Tryz.prog Tryz.f42 an_pack_Writer_fixed [.one w, .one (.int .i64 bits), .one list] σ Qp by kernel_rfl) ▸ h)
def an_ref13_movers : Ann := { esc := [], cbs := [2], draws := [], loops := [(3, { mods := [(6, SlotSh.one (Sh.any)), (14, SlotSh.one (Sh.int IntKind.i64))], keep := [1, 2, 7, 12, 13] }), (11, { mods := [(7, SlotSh.one (Sh.any)), (32, SlotSh.one (Sh.int IntKind.i64))], keep := [1, 6, 31] })], joins := [] }
def V_ref13_movers (c0 : D) (c1 : D) (c2 : D) (c3 : D) (c4 : D) (c5 : Int) (c6 : Int) (c7 : Int) (c8 : Int) (now : Int) (σ : Store) (Qp : RV → Store → Prop) : Prop :=
  ∃ len : Nat, (Len c0 len) ∧ ∃ I : D → Int → Store → Prop, ∃ μ : D → Int → Store → Nat, (I .nils 0 σ) ∧ ∀ d : D, ∀ n : Int, ∀ σ' : Store, (I d n σ') → bcase (decide (n < (len : Int))) (∃ len1 : Nat, (Idx Tryz.prog σ' c0 3 len1) ∧ ((0 : Int) ≤ n) ∧ (n < (len1 : Int)) ∧ ∃ row : List D, (Row σ' c0 (Int.toNat n) row) ∧ ∃ n1 : Int, ∃ n2 : Int, ∃ n3 : Int, ((List.take 3 row) = ([.int .i64 n1, .int .i64 n2, .int .i64 n3] : List D)) ∧ bcase (n1 == 1) (Fw.newObj σ' (.live t_Mover [[.int .i64 0, .int .i64 now]]) (fun (id : Nat) => fun (σ'1 : Store) => appendTo Tryz.prog σ'1 t_Mover 16 d (.osl id 0 1) (fun (d1 : D) => fun (σ'2 : Store) => (I d1 (w64 (n + 1)) σ'2) ∧ ((μ d1 (w64 (n + 1)) σ'2) < (μ d n σ'))))) (Fw.newObj σ' (.live t_Mover [[.int .i64 0, .int .i64 0]]) (fun (id : Nat) => fun (σ'1 : Store) => appendTo Tryz.prog σ'1 t_Mover 16 d (.osl id 0 1) (fun (d1 : D) => fun (σ'2 : Store) => (I d1 (w64 (n + 1)) σ'2) ∧ ((μ d1 (w64 (n + 1)) σ'2) < (μ d n σ')))))) (∃ len1 : Nat, (Len c3 len1) ∧ ∃ I1 : D → Int → Store → Prop, ∃ μ1 : D → Int → Store → Nat, (I1 .nils 0 σ') ∧ ∀ d1 : D, ∀ n1 : Int, ∀ σ'1 : Store, (I1 d1 n1 σ'1) → bcase (decide (n1 < (len1 : Int))) (Fw.newObj σ'1 (.live t_Mover [[.int .i64 1, .int .i64 now]]) (fun (id : Nat) => fun (σ'2 : Store) => appendTo Tryz.prog σ'2 t_Mover 16 d1 (.osl id 0 1) (fun (d2 : D) => fun (σ'3 : Store) => (I1 d2 (w64 (n1 + 1)) σ'3) ∧ ((μ1 d2 (w64 (n1 + 1)) σ'3) < (μ1 d1 n1 σ'1))))) (Qp (.tup [.one d, .one d1]) σ'1))
theorem W_ref13_movers (c0 : D) (c1 : D) (c2 : D) (c3 : D) (c4 : D) (c5 : Int) (c6 : Int) (c7 : Int) (c8 : Int) (now : Int) (σ : Store) (Qp : RV → Store → Prop) (h : V_ref13_movers c0 c1 c2 c3 c4 c5 c6 c7 c8 now σ Qp) : DCalls Tryz.prog n_ref13_movers [.agg [c0, c1, c2, c3, c4, .int .i64 c5, .int .i64 c6, .int .i64 c7, .int .i64 c8], .one (.int .i64 now)] σ Qp :=
  dcalls_of_body mixed (by kernel_rfl) Tryz.func46 an_ref13_movers ((show V_ref13_movers c0 c1 c2 c3 c4 c5 c6 c7 c8 now σ Qp = dbody Tryz.prog Tryz.f46 an_ref13_movers [.agg [c0, c1, c2, c3, c4, .int .i64 c5, .int .i64 c6, .int .i64 c7, .int .i64 c8], .one (.int .i64 now)] σ Qp by kernel_rfl) ▸ h)
def an_conf_plan_crossings : Ann := { esc := [], cbs := [1], draws := [], loops := [(3, { mods := [(13, SlotSh.one (Sh.int IntKind.i64))], keep := [1, 3, 11, 12] })], joins := [] }
def V_conf_plan_crossings (p0 : D) (p1 : D) (p2 : D) (p3 : D) (p4 : D) (p5 : Int) (p6 : Int) (p7 : Int) (p8 : Int) (σ : Store) (Qp : RV → Store → Prop) : Prop :=
  Fw.newObj σ (.mp 0 []) (fun (id : Nat) => fun (σ' : Store) => ∃ len : Nat, (Len p3 len) ∧ ∃ I : Int → Store → Prop, ∃ μ : Int → Store → Nat, (I 0 σ') ∧ ∀ n : Int, ∀ σ'1 : Store, (I n σ'1) → bcase (decide (n < (len : Int))) (∃ len1 : Nat, (Idx Tryz.prog σ'1 p3 1 len1) ∧ ((0 : Int) ≤ n) ∧ (n < (len1 : Int)) ∧ ∃ row : List D, (Row σ'1 p3 (Int.toNat n) row) ∧ ∃ n1 : Int, ((List.take 1 row) = ([.int .i64 n1] : List D)) ∧ DCalls Tryz.prog n_conf_plan_section [.agg [p0, p1, p2, p3, p4, .int .i64 p5, .int .i64 p6, .int .i64 p7, .int .i64 p8], .one (.int .i64 n1)] σ'1 (fun (r : RV) => fun (σ'2 : Store) => ∃ n2 : Int, ∃ n3 : Int, ∃ n4 : Int, ∃ b : Bool, (r = (.tup [.agg [.int .i64 n2, .int .i64 n3, .int .i64 n4], .one (.bool b)] : RV)) ∧ ∃ r1 : Option A, (MLook Tryz.prog t_int σ'2 (.omap id) (.one (.int .i64 n1)) r1) ∧ ∃ n5 : Int, ((Option.getD r1 (.one (.int .i64 0))) = (.one (.int .i64 n5) : A)) ∧ MPut Tryz.prog t_int σ'2 (.omap id) (.one (.int .i64 n1)) (.one (.int .i64 (w64 (n5 + 1)))) (fun (σ'3 : Store) => bcase (!b) (Qp (.a (.one (.bool false))) σ'3) (bcase (n4 != 0) (Qp (.a (.one (.bool false))) σ'3) (∃ r2 : Option A, (MLook Tryz.prog t_int σ'3 (.omap id) (.one (.int .i64 n1)) r2) ∧ ∃ n6 : Int, ((Option.getD r2 (.one (.int .i64 0))) = (.one (.int .i64 n6) : A)) ∧ bcase (decide (n6 > 1)) (Qp (.a (.one (.bool false))) σ'3) ((I (w64 (n + 1)) σ'3) ∧ ((μ (w64 (n + 1)) σ'3) < (μ n σ'1)))))))) (∃ len1 : Nat, (Len p3 len1) ∧ Qp (.a (.one (.bool (decide ((len1 : Int) ≤ 4))))) σ'1))
theorem W_conf_plan_crossings (p0 : D) (p1 : D) (p2 : D) (p3 : D) (p4 : D) (p5 : Int) (p6 : Int) (p7 : Int) (p8 : Int) (σ : Store) (Qp : RV → Store → Prop) (h : V_conf_plan_crossings p0 p1 p2 p3 p4 p5 p6 p7 p8 σ Qp) : DCalls Tryz.prog n_conf_plan_crossings [.agg [p0, p1, p2, p3, p4, .int .i64 p5, .int .i64 p6, .int .i64 p7, .int .i64 p8]] σ Qp :=
  dcalls_of_body mixed (by kernel_rfl) Tryz.func50 an_conf_plan_crossings ((show V_conf_plan_crossings p0 p1 p2 p3 p4 p5 p6 p7 p8 σ Qp = dbody Tryz.prog Tryz.f50 an_conf_plan_crossings [.agg [p0, p1, p2, p3, p4, .int .i64 p5, .int .i64 p6, .int .i64 p7, .int .i64 p8]] σ Qp by kernel_rfl) ▸ h)
def an_math_bits_Mul : Ann := { esc := [], cbs := [], draws := [], loops := [], joins := [] }
def V_math_bits_Mul (x : Int) (y : Int) (σ : Store) (Qp : RV → Store → Prop) : Prop :=
  DCalls Tryz.prog n_math_bits_Mul64 [.one (.int .u64 x), .one (.int .u64 y)] σ (fun (r : RV) => fun (σ' : Store) => ∃ n : Int, ∃ n1 : Int, (r = (.tup [.one (.int .u64 n), .one (.int .u64 n1)] : RV)) ∧ Qp (.tup [.one (.int .u64 n), .one (.int .u64 n1)]) σ')
theorem W_math_bits_Mul (x : Int) (y : Int) (σ : Store) (Qp : RV → Store → Prop) (h : V_math_bits_Mul x y σ Qp) : DCalls Tryz.prog n_math_bits_Mul [.one (.int .u64 x), .one (.int .u64 y)] σ Qp :=
  dcalls_of_body mixed (by kernel_rfl) Tryz.func54 an_math_bits_Mul ((show V_math_bits_Mul x y σ Qp = dbody Tryz.prog Tryz.f54 an_math_bits_Mul [.one (.int .u64 x), .one (.int .u64 y)] σ Qp by kernel_rfl) ▸ h)
def an_locks_desk_state : Ann := { esc := [], cbs := [], draws := [], loops := [], joins := [] }
def V_locks_desk_state (d : D) (r : Int) (σ : Store) (Qp : RV → Store → Prop) : Prop :=
  (NotNil d) ∧ ∃ s : D, ∃ i : Nat, ∃ off : Nat, (d = (.el s i off : D)) ∧ ∃ row : List D, (Row σ s i row) ∧ ∃ d1 : D, ((List.take 1 (List.drop ((off + 9) + 1) row)) = ([d1] : List D)) ∧ ∃ len : Nat, (Len d1 len) ∧ DCalls Tryz.prog n_locks_between [.one (.int .i64 r), .one (.int .i64 0), .one (.int .i64 (w64 ((len : Int) - 1)))] σ (fun (r1 : RV) => fun (σ' : Store) => ∃ b : Bool, (r1 = (.a (.one (.bool b)) : RV)) ∧ bcase (!b) (Qp (.tup [.one .nilp, .one (.int .i64 20)]) σ') ((NotNil d) ∧ ∃ s1 : D, ∃ i1 : Nat, ∃ off1 : Nat, (d = (.el s1 i1 off1 : D)) ∧ ∃ row1 : List D, (Row σ' s1 i1 row1) ∧ ∃ d2 : D, ((List.take 1 (List.drop ((off1 + 9) + 1) row1)) = ([d2] : List D)) ∧ ∃ len1 : Nat, (Idx Tryz.prog σ' d2 4 len1) ∧ ((0 : Int) ≤ r) ∧ (r < (len1 : Int)) ∧ Qp (.tup [.one (.el d2 (Int.toNat r) 0), .one (.int .i64 0)]) σ'))
theorem W_locks_desk_state (d : D) (r : Int) (σ : Store) (Qp : RV → Store → Prop) (h : V_locks_desk_state d r σ Qp) : DCalls Tryz.prog n_locks_desk_state [.one d, .one (.int .i64 r)] σ Qp :=
  dcalls_of_body mixed (by kernel_rfl) Tryz.func58 an_locks_desk_state ((show V_locks_desk_state d r σ Qp = dbody Tryz.prog Tryz.f58 an_locks_desk_state [.one d, .one (.int .i64 r)] σ Qp by kernel_rfl) ▸ h)
def an_mover_Needs : Ann := { esc := [], cbs := [2], draws := [(7, { ord := [0, 1, 2, 3, 4, 5, 6, 7, 8, 9, 10, 11, 12, 13, 14, 15, 16], nb := [], av := [], dir := [] })], loops := [(4, { mods := [(7, SlotSh.one (Sh.any)), (21, SlotSh.one (Sh.int IntKind.i64))], keep := [2, 5, 19, 20] })], joins := [] }
def V_mover_Needs (c0 : D) (c1 : D) (c2 : D) (c3 : D) (c4 : D) (c5 : Int) (c6 : Int) (c7 : Int) (c8 : Int) (r : Int) (σ : Store) (Qp : RV → Store → Prop) : Prop :=
  DCalls Tryz.prog n_mover_route [.agg [c0, c1, c2, c3, c4, .int .i64 c5, .int .i64 c6, .int .i64 c7, .int .i64 c8], .one (.int .i64 r)] σ (fun (r1 : RV) => fun (σ' : Store) => ∃ n : Int, ∃ n1 : Int, ∃ d : D, ∃ d1 : D, ∃ d2 : D, ∃ b : Bool, ∃ b1 : Bool, (r1 = (.tup [.agg [.int .i64 n, .int .i64 n1, d, d1, d2, .bool b], .one (.bool b1)] : RV)) ∧ ∃ len : Nat, (Len d len) ∧ ∃ I : D → Int → Store → Prop, ∃ μ : D → Int → Store → Nat, (I .nils 0 σ') ∧ ∀ d3 : D, ∀ n2 : Int, ∀ σ'1 : Store, (I d3 n2 σ'1) → bcase (decide (n2 < (len : Int))) (∃ len1 : Nat, (Idx Tryz.prog σ'1 d 3 len1) ∧ ((0 : Int) ≤ n2) ∧ (n2 < (len1 : Int)) ∧ ∃ row : List D, (Row σ'1 d (Int.toNat n2) row) ∧ ∃ n3 : Int, ∃ n4 : Int, ∃ n5 : Int, ((List.take 3 row) = ([.int .i64 n3, .int .i64 n4, .int .i64 n5] : List D)) ∧ bcase (decide (n3 < 0)) ((([[.int .i64 n, .int .i64 n1, d, d1, d2, .bool b]] : List (List D)) = ([[.int .i64 n, .int .i64 n1, d, d1, d2, .bool b]] : List (List D))) ∧ (I d3 (w64 (n2 + 1)) σ'1) ∧ ((μ d3 (w64 (n2 + 1)) σ'1) < (μ d3 n2 σ'1))) (∃ len2 : Nat, (Len c0 len2) ∧ bcase (decide (n3 ≥ (len2 : Int))) ((([[.int .i64 n, .int .i64 n1, d, d1, d2, .bool b]] : List (List D)) = ([[.int .i64 n, .int .i64 n1, d, d1, d2, .bool b]] : List (List D))) ∧ (I d3 (w64 (n2 + 1)) σ'1) ∧ ((μ d3 (w64 (n2 + 1)) σ'1) < (μ d3 n2 σ'1))) (∃ len3 : Nat, (Idx Tryz.prog σ'1 c0 3 len3) ∧ ((0 : Int) ≤ n3) ∧ (n3 < (len3 : Int)) ∧ ∃ row1 : List D, (Row σ'1 c0 (Int.toNat n3) row1) ∧ ∃ n6 : Int, ((List.take 1 row1) = ([.int .i64 n6] : List D)) ∧ DCalls Tryz.prog n_topo_Pos [.one (.int .i64 n6), .one (.int .i64 n4), .one (.int .i64 n5)] σ'1 (fun (r2 : RV) => fun (σ'2 : Store) => ∃ n7 : Int, ∃ b2 : Bool, (r2 = (.tup [.one (.int .i64 n7), .one (.bool b2)] : RV)) ∧ bcase b2 (bcase (n7 != 0) (Fw.newObj σ'2 (.live t_Need [[.int .i64 n3, .int .i64 n7]]) (fun (id : Nat) => fun (σ'3 : Store) => appendTo Tryz.prog σ'3 t_Need 16 d3 (.osl id 0 1) (fun (d4 : D) => fun (σ'4 : Store) => (([[.int .i64 n, .int .i64 n1, d, d1, d2, .bool b]] : List (List D)) = ([[.int .i64 n, .int .i64 n1, d, d1, d2, .bool b]] : List (List D))) ∧ (I d4 (w64 (n2 + 1)) σ'4) ∧ ((μ d4 (w64 (n2 + 1)) σ'4) < (μ d3 n2 σ'1))))) ((([[.int .i64 n, .int .i64 n1, d, d1, d2, .bool b]] : List (List D)) = ([[.int .i64 n, .int .i64 n1, d, d1, d2, .bool b]] : List (List D))) ∧ (I d3 (w64 (n2 + 1)) σ'2) ∧ ((μ d3 (w64 (n2 + 1)) σ'2) < (μ d3 n2 σ'1)))) ((([[.int .i64 n, .int .i64 n1, d, d1, d2, .bool b]] : List (List D)) = ([[.int .i64 n, .int .i64 n1, d, d1, d2, .bool b]] : List (List D))) ∧ (I d3 (w64 (n2 + 1)) σ'2) ∧ ((μ d3 (w64 (n2 + 1)) σ'2) < (μ d3 n2 σ'1))))))) (appendTo Tryz.prog σ'1 t_Need 16 d3 d1 (fun (d4 : D) => fun (σ'2 : Store) => Qp (.a (.one d4)) σ'2)))
theorem W_mover_Needs (c0 : D) (c1 : D) (c2 : D) (c3 : D) (c4 : D) (c5 : Int) (c6 : Int) (c7 : Int) (c8 : Int) (r : Int) (σ : Store) (Qp : RV → Store → Prop) (h : V_mover_Needs c0 c1 c2 c3 c4 c5 c6 c7 c8 r σ Qp) : DCalls Tryz.prog n_mover_Needs [.agg [c0, c1, c2, c3, c4, .int .i64 c5, .int .i64 c6, .int .i64 c7, .int .i64 c8], .one (.int .i64 r)] σ Qp :=
  dcalls_of_body mixed (by kernel_rfl) Tryz.func62 an_mover_Needs ((show V_mover_Needs c0 c1 c2 c3 c4 c5 c6 c7 c8 r σ Qp = dbody Tryz.prog Tryz.f62 an_mover_Needs [.agg [c0, c1, c2, c3, c4, .int .i64 c5, .int .i64 c6, .int .i64 c7, .int .i64 c8], .one (.int .i64 r)] σ Qp by kernel_rfl) ▸ h)
def an_pack_Writer_put : Ann := { esc := [], cbs := [], draws := [(0, { ord := [0, 1, 2, 3, 4, 5, 6, 7, 8, 9, 10, 11, 12], nb := [], av := [], dir := [] })], loops := [], joins := [] }
def V_pack_Writer_put (w : D) (b : D) (σ : Store) (Qp : RV → Store → Prop) : Prop :=
  ∃ len : Nat, (Len b len) ∧ (NotNil w) ∧ ∃ s : D, ∃ i : Nat, ∃ off : Nat, (w = (.el s i off : D)) ∧ ∃ row : List D, (Row σ s i row) ∧ ∃ n : Int, ((List.take 1 (List.drop (off + 2) row)) = ([.int .i64 n] : List D)) ∧ (NotNil w) ∧ ∃ s1 : D, ∃ i1 : Nat, ∃ off1 : Nat, (w = (.el s1 i1 off1 : D)) ∧ ∃ row1 : List D, (Row σ s1 i1 row1) ∧ ∃ d : D, ((List.take 1 (List.drop (off1 + 1) row1)) = ([d] : List D)) ∧ ∃ len1 : Nat, (Len d len1) ∧ bcase (decide ((len : Int) > (w64 (n - (len1 : Int))))) ((NotNil w) ∧ ∃ s2 : D, ∃ i2 : Nat, ∃ off2 : Nat, (w = (.el s2 i2 off2 : D)) ∧ DCalls Tryz.prog n_pack_trouble_note [.one (.el s2 i2 (off2 + 0)), .one (.int .i64 2)] σ (fun (r : RV) => fun (σ' : Store) => (r = (.tup [] : RV)) ∧ (NotNil w) ∧ ∃ s3 : D, ∃ i3 : Nat, ∃ off3 : Nat, (w = (.el s3 i3 off3 : D)) ∧ DCalls Tryz.prog n_pack_trouble_well [.one (.el s3 i3 (off3 + 0))] σ' (fun (r1 : RV) => fun (σ'1 : Store) => ∃ b1 : Bool, (r1 = (.a (.one (.bool b1)) : RV)) ∧ bcase b1 ((NotNil w) ∧ ∃ s4 : D, ∃ i4 : Nat, ∃ off4 : Nat, (w = (.el s4 i4 off4 : D)) ∧ ∃ row2 : List D, (Row σ'1 s4 i4 row2) ∧ ∃ d1 : D, ((List.take 1 (List.drop (off4 + 1) row2)) = ([d1] : List D)) ∧ appendTo Tryz.prog σ'1 t_uint8 1 d1 b (fun (d2 : D) => fun (σ'2 : Store) => (NotNil w) ∧ ∃ s5 : D, ∃ i5 : Nat, ∃ off5 : Nat, (w = (.el s5 i5 off5 : D)) ∧ storeEl [d2] σ'2 s5 i5 (off5 + 1) (fun (σ'3 : Store) => Qp (.tup []) σ'3))) (Qp (.tup []) σ'1)))) ((NotNil w) ∧ ∃ s2 : D, ∃ i2 : Nat, ∃ off2 : Nat, (w = (.el s2 i2 off2 : D)) ∧ DCalls Tryz.prog n_pack_trouble_well [.one (.el s2 i2 (off2 + 0))] σ (fun (r : RV) => fun (σ' : Store) => ∃ b1 : Bool, (r = (.a (.one (.bool b1)) : RV)) ∧ bcase b1 ((NotNil w) ∧ ∃ s3 : D, ∃ i3 : Nat, ∃ off3 : Nat, (w = (.el s3 i3 off3 : D)) ∧ ∃ row2 : List D, (Row σ' s3 i3 row2) ∧ ∃ d1 : D, ((List.take 1 (List.drop (off3 + 1) row2)) = ([d1] : List D)) ∧ appendTo Tryz.prog σ' t_uint8 1 d1 b (fun (d2 : D) => fun (σ'1 : Store) => (NotNil w) ∧ ∃ s4 : D, ∃ i4 : Nat, ∃ off4 : Nat, (w = (.el s4 i4 off4 : D)) ∧ storeEl [d2] σ'1 s4 i4 (off4 + 1) (fun (σ'2 : Store) => Qp (.tup []) σ'2))) (Qp (.tup []) σ')))
theorem W_pack_Writer_put (w : D) (b : D) (σ : Store) (Qp : RV → Store → Prop) (h : V_pack_Writer_put w b σ Qp) : DCalls Tryz.prog n_pack_Writer_put [.one w, .one b] σ Qp :=
  dcalls_of_body mixed (by kernel_rfl) Tryz.func66 an_pack_Writer_put ((show V_pack_Writer_put w b σ Qp = dbody Tryz.prog Tryz.f66 an_pack_Writer_put [.one w, .one b] σ Qp by kernel_rfl) ▸ h)
def an_ref06_crossings : Ann := { esc := [], cbs := [1], draws := [], loops := [(2, { mods := [(8, SlotSh.one (Sh.int IntKind.i64))], keep := [1, 6, 7] })], joins := [] }
def V_ref06_crossings (c0 : D) (c1 : D) (c2 : D) (c3 : D) (c4 : D) (c5 : Int) (c6 : Int) (c7 : Int) (c8 : Int) (σ : Store) (Qp : RV → Store → Prop) : Prop :=
  ∃ len : Nat, (Len c3 len) ∧ ∃ I : Int → Store → Prop, ∃ μ : Int → Store → Nat, (I 0 σ) ∧ ∀ n : Int, ∀ σ' : Store, (I n σ') → bcase (decide (n < (len : Int))) (∃ len1 : Nat, (Idx Tryz.prog σ' c3 1 len1) ∧ ((0 : Int) ≤ n) ∧ (n < (len1 : Int)) ∧ ∃ row : List D, (Row σ' c3 (Int.toNat n) row) ∧ ∃ n1 : Int, ((List.take 1 row) = ([.int .i64 n1] : List D)) ∧ DCalls Tryz.prog n_ref06_kind [.agg [c0, c1, c2, c3, c4, .int .i64 c5, .int .i64 c6, .int .i64 c7, .int .i64 c8], .one (.int .i64 n1)] σ' (fun (r : RV) => fun (σ'1 : Store) => ∃ n2 : Int, (r = (.a (.one (.int .i64 n2)) : RV)) ∧ bcase (decide (n2 < 0)) (Qp (.a (.one (.bool false))) σ'1) (∃ len2 : Nat, (Idx Tryz.prog σ'1 c0 3 len2) ∧ ((0 : Int) ≤ n1) ∧ (n1 < (len2 : Int)) ∧ ∃ row1 : List D, (Row σ'1 c0 (Int.toNat n1) row1) ∧ ∃ n3 : Int, ((List.take 1 (List.drop 2 row1)) = ([.int .i64 n3] : List D)) ∧ bcase (n3 != 0) (Qp (.a (.one (.bool false))) σ'1) (∃ len3 : Nat, (IdxN Tryz.prog σ'1 c3 1 len3) ∧ ((0 : Int) ≤ 0) ∧ ((0 : Int) ≤ n) ∧ (n ≤ (len3 : Int)) ∧ DCalls Tryz.prog n_ref06_in [.one (dsub c3 0 (Int.toNat n)), .one (.int .i64 n1)] σ'1 (fun (r1 : RV) => fun (σ'2 : Store) => ∃ b : Bool, (r1 = (.a (.one (.bool b)) : RV)) ∧ bcase b (Qp (.a (.one (.bool false))) σ'2) ((I (w64 (n + 1)) σ'2) ∧ ((μ (w64 (n + 1)) σ'2) < (μ n σ')))))))) (∃ len1 : Nat, (Len c3 len1) ∧ Qp (.a (.one (.bool (decide ((len1 : Int) ≤ 4))))) σ')
theorem W_ref06_crossings (c0 : D) (c1 : D) (c2 : D) (c3 : D) (c4 : D) (c5 : Int) (c6 : Int) (c7 : Int) (c8 : Int) (σ : Store) (Qp : RV → Store → Prop) (h : V_ref06_crossings c0 c1 c2 c3 c4 c5 c6 c7 c8 σ Qp) : DCalls Tryz.prog n_ref06_crossings [.agg [c0, c1, c2, c3, c4, .int .i64 c5, .int .i64 c6, .int .i64 c7, .int .i64 c8]] σ Qp :=
  dcalls_of_body mixed (by kernel_rfl) Tryz.func70 an_ref06_crossings ((show V_ref06_crossings c0 c1 c2 c3 c4 c5 c6 c7 c8 σ Qp = dbody Tryz.prog Tryz.f70 an_ref06_crossings [.agg [c0, c1, c2, c3, c4, .int .i64 c5, .int .i64 c6, .int .i64 c7, .int .i64 c8]] σ Qp by kernel_rfl) ▸ h)
def an_ref06_Approach : Ann := { esc := [], cbs := [2], draws := [(1, { ord := [0, 1, 2, 3, 4, 5, 6, 7, 8, 9, 10, 11, 12, 13, 14, 15, 16, 17, 18, 19, 20, 21, 22, 23, 24, 25, 26, 27, 28, 29], nb := [], av := [], dir := [] }), (3, { ord := [0, 1, 2, 3, 4, 5, 6, 7, 8, 9, 10, 11], nb := [], av := [], dir := [] })], loops := [], joins := [] }
def V_ref06_Approach (c0 : D) (c1 : D) (c2 : D) (c3 : D) (c4 : D) (c5 : Int) (c6 : Int) (c7 : Int) (c8 : Int) (r : Int) (σ : Store) (Qp : RV → Store → Prop) : Prop :=
  bcase (decide (r < 0)) (Qp (.a (.one (.int .i64 (-1)))) σ) (∃ len : Nat, (Len c4 len) ∧ bcase (decide (r ≥ (len : Int))) (Qp (.a (.one (.int .i64 (-1)))) σ) (∃ len1 : Nat, (Idx Tryz.prog σ c4 6 len1) ∧ ((0 : Int) ≤ r) ∧ (r < (len1 : Int)) ∧ ∃ row : List D, (Row σ c4 (Int.toNat r) row) ∧ ∃ n : Int, ((List.take 1 row) = ([.int .i64 n] : List D)) ∧ bcase (decide (n < 0)) (Qp (.a (.one (.int .i64 (-1)))) σ) (∃ len2 : Nat, (Idx Tryz.prog σ c4 6 len2) ∧ ((0 : Int) ≤ r) ∧ (r < (len2 : Int)) ∧ ∃ row1 : List D, (Row σ c4 (Int.toNat r) row1) ∧ ∃ n1 : Int, ((List.take 1 row1) = ([.int .i64 n1] : List D)) ∧ ∃ len3 : Nat, (Len c2 len3) ∧ bcase (decide (n1 ≥ (len3 : Int))) (Qp (.a (.one (.int .i64 (-1)))) σ) (∃ len4 : Nat, (Idx Tryz.prog σ c4 6 len4) ∧ ((0 : Int) ≤ r) ∧ (r < (len4 : Int)) ∧ ∃ row2 : List D, (Row σ c4 (Int.toNat r) row2) ∧ ∃ n2 : Int, ((List.take 1 row2) = ([.int .i64 n2] : List D)) ∧ ∃ len5 : Nat, (Idx Tryz.prog σ c2 2 len5) ∧ ((0 : Int) ≤ n2) ∧ (n2 < (len5 : Int)) ∧ ∃ row3 : List D, (Row σ c2 (Int.toNat n2) row3) ∧ ∃ n3 : Int, ((List.take 1 row3) = ([.int .i64 n3] : List D)) ∧ Qp (.a (.one (.int .i64 n3))) σ))))
theorem W_ref06_Approach (c0 : D) (c1 : D) (c2 : D) (c3 : D) (c4 : D) (c5 : Int) (c6 : Int) (c7 : Int) (c8 : Int) (r : Int) (σ : Store) (Qp : RV → Store → Prop) (h : V_ref06_Approach c0 c1 c2 c3 c4 c5 c6 c7 c8 r σ Qp) : DCalls Tryz.prog n_ref06_Approach [.agg [c0, c1, c2, c3, c4, .int .i64 c5, .int .i64 c6, .int .i64 c7, .int .i64 c8], .one (.int .i64 r)] σ Qp :=
  dcalls_of_body mixed (by kernel_rfl) Tryz.func74 an_ref06_Approach ((show V_ref06_Approach c0 c1 c2 c3 c4 c5 c6 c7 c8 r σ Qp = dbody Tryz.prog Tryz.f74 an_ref06_Approach [.agg [c0, c1, c2, c3, c4, .int .i64 c5, .int .i64 c6, .int .i64 c7, .int .i64 c8], .one (.int .i64 r)] σ Qp by kernel_rfl) ▸ h)
def an_topo_Ends : Ann := { esc := [], cbs := [], draws := [], loops := [(3, { mods := [(3, SlotSh.one (Sh.int IntKind.i64)), (9, SlotSh.one (Sh.int IntKind.i64))], keep := [7, 8] })], joins := [] }
def V_topo_Ends (kind : Int) (σ : Store) (Qp : RV → Store → Prop) : Prop :=
  DCalls Tryz.prog n_topo_ways [.one (.int .i64 kind)] σ (fun (r : RV) => fun (σ' : Store) => ∃ d : D, (r = (.a (.one d) : RV)) ∧ ∃ len : Nat, (Len d len) ∧ ∃ I : Int → Int → Store → Prop, ∃ μ : Int → Int → Store → Nat, (I 0 0 σ') ∧ ∀ n : Int, ∀ n1 : Int, ∀ σ'1 : Store, (I n n1 σ'1) → bcase (decide (n1 < (len : Int))) (∃ len1 : Nat, (Idx Tryz.prog σ'1 d 3 len1) ∧ ((0 : Int) ≤ n1) ∧ (n1 < (len1 : Int)) ∧ ∃ row : List D, (Row σ'1 d (Int.toNat n1) row) ∧ ∃ n2 : Int, ∃ n3 : Int, ∃ n4 : Int, ((List.take 3 row) = ([.int .i64 n2, .int .i64 n3, .int .i64 n4] : List D)) ∧ ((0 : Int) ≤ 0) ∧ ((0 : Int) < (2 : Int)) ∧ ((0 : Int) ≤ 1) ∧ ((1 : Int) < (2 : Int)) ∧ (I (ite ((w64 (n3 + 1)) > (ite ((w64 (n2 + 1)) > n) (w64 (n2 + 1)) n)) (w64 (n3 + 1)) (ite ((w64 (n2 + 1)) > n) (w64 (n2 + 1)) n)) (w64 (n1 + 1)) σ'1) ∧ ((μ (ite ((w64 (n3 + 1)) > (ite ((w64 (n2 + 1)) > n) (w64 (n2 + 1)) n)) (w64 (n3 + 1)) (ite ((w64 (n2 + 1)) > n) (w64 (n2 + 1)) n)) (w64 (n1 + 1)) σ'1) < (μ n n1 σ'1))) (Qp (.a (.one (.int .i64 n))) σ'1))
theorem W_topo_Ends (kind : Int) (σ : Store) (Qp : RV → Store → Prop) (h : V_topo_Ends kind σ Qp) : DCalls Tryz.prog n_topo_Ends [.one (.int .i64 kind)] σ Qp :=
  dcalls_of_body mixed (by kernel_rfl) Tryz.func78 an_topo_Ends ((show V_topo_Ends kind σ Qp = dbody Tryz.prog Tryz.f78 an_topo_Ends [.one (.int .i64 kind)] σ Qp by kernel_rfl) ▸ h)
def an_slices_Equal_Need : Ann := { esc := [], cbs := [], draws := [(6, { ord := [0, 1, 2, 3, 4, 5, 6, 7, 8], nb := [], av := [], dir := [] })], loops := [(4, { mods := [(13, SlotSh.one (Sh.int IntKind.i64))], keep := [0, 1, 12] })], joins := [] }
def V_slices_Equal_Need (s1 : D) (s2 : D) (σ : Store) (Qp : RV → Store → Prop) : Prop :=
  ∃ len : Nat, (Len s1 len) ∧ ∃ len1 : Nat, (Len s2 len1) ∧ bcase ((len : Int) != (len1 : Int)) (Qp (.a (.one (.bool false))) σ) (∃ len2 : Nat, (Len s1 len2) ∧ ∃ I : Int → Store → Prop, ∃ μ : Int → Store → Nat, (I 0 σ) ∧ ∀ n : Int, ∀ σ' : Store, (I n σ') → bcase (decide (n < (len2 : Int))) (∃ len3 : Nat, (Idx Tryz.prog σ' s1 2 len3) ∧ ((0 : Int) ≤ n) ∧ (n < (len3 : Int)) ∧ ∃ row : List D, (Row σ' s1 (Int.toNat n) row) ∧ ∃ n1 : Int, ∃ n2 : Int, ((List.take 2 row) = ([.int .i64 n1, .int .i64 n2] : List D)) ∧ ∃ len4 : Nat, (Idx Tryz.prog σ' s2 2 len4) ∧ ((0 : Int) ≤ n) ∧ (n < (len4 : Int)) ∧ ∃ row1 : List D, (Row σ' s2 (Int.toNat n) row1) ∧ ∃ n3 : Int, ∃ n4 : Int, ((List.take 2 row1) = ([.int .i64 n3, .int .i64 n4] : List D)) ∧ bcase (!((n1 == n3) && (n2 == n4))) (Qp (.a (.one (.bool false))) σ') ((I (w64 (n + 1)) σ') ∧ ((μ (w64 (n + 1)) σ') < (μ n σ')))) (Qp (.a (.one (.bool true))) σ'))
theorem W_slices_Equal_Need (s1 : D) (s2 : D) (σ : Store) (Qp : RV → Store → Prop) (h : V_slices_Equal_Need s1 s2 σ Qp) : DCalls Tryz.prog n_slices_Equal_Need [.one s1, .one s2] σ Qp :=
  dcalls_of_body mixed (by kernel_rfl) Tryz.func82 an_slices_Equal_Need ((show V_slices_Equal_Need s1 s2 σ Qp = dbody Tryz.prog Tryz.f82 an_slices_Equal_Need [.one s1, .one s2] σ Qp by kernel_rfl) ▸ h)
def an_conf_plan_overlap : Ann := { esc := [], cbs := [2, 3], draws := [], loops := [], joins := [(4, { mods := [], keep := [2, 3, 5] })] }
def V_conf_plan_overlap (p0 : D) (p1 : D) (p2 : D) (p3 : D) (p4 : D) (p5 : Int) (p6 : Int) (p7 : Int) (p8 : Int) (r0 : Int) (r1 : Int) (r2 : D) (r3 : D) (r4 : D) (r5 : Bool) (σ : Store) (Qp : RV → Store → Prop) : Prop :=
  DCalls Tryz.prog n_conf_plan_signal [.agg [p0, p1, p2, p3, p4, .int .i64 p5, .int .i64 p6, .int .i64 p7, .int .i64 p8], .one (.int .i64 r1)] σ (fun (r : RV) => fun (σ' : Store) => ∃ n : Int, ∃ n1 : Int, ∃ b : Bool, (r = (.tup [.agg [.int .i64 n, .int .i64 n1], .one (.bool b)] : RV)) ∧ ∀ R : Store → Prop, (∀ σ'1 : Store, (DCalls Tryz.prog n_topo_Next [.one p1, .one (.int .i64 n), .one (.int .i64 n1)] σ'1 (fun (r6 : RV) => fun (σ'2 : Store) => ∃ n2 : Int, ∃ n3 : Int, ∃ b1 : Bool, (r6 = (.tup [.one (.int .i64 n2), .one (.int .i64 n3), .one (.bool b1)] : RV)) ∧ DCalls Tryz.prog n_conf_plan_section [.agg [p0, p1, p2, p3, p4, .int .i64 p5, .int .i64 p6, .int .i64 p7, .int .i64 p8], .one (.int .i64 n2)] σ'2 (fun (r7 : RV) => fun (σ'3 : Store) => ∃ n4 : Int, ∃ n5 : Int, ∃ n6 : Int, ∃ b2 : Bool, (r7 = (.tup [.agg [.int .i64 n4, .int .i64 n5, .int .i64 n6], .one (.bool b2)] : RV)) ∧ bcase (!b1) (Qp (.a (.one .nils)) σ'3) (bcase (!b2) (Qp (.a (.one .nils)) σ'3) (bcase (n6 != 0) (Qp (.a (.one .nils)) σ'3) (DCalls Tryz.prog n_conf_has [.one r2, .one (.int .i64 n2)] σ'3 (fun (r8 : RV) => fun (σ'4 : Store) => ∃ b3 : Bool, (r8 = (.a (.one (.bool b3)) : RV)) ∧ bcase b3 (Qp (.a (.one .nils)) σ'4) (DCalls Tryz.prog n_conf_plan_approach [.agg [p0, p1, p2, p3, p4, .int .i64 p5, .int .i64 p6, .int .i64 p7, .int .i64 p8], .agg [.int .i64 r0, .int .i64 r1, r2, r3, r4, .bool r5]] σ'4 (fun (r9 : RV) => fun (σ'5 : Store) => ∃ n7 : Int, (r9 = (.a (.one (.int .i64 n7)) : RV)) ∧ bcase (n2 == n7) (Qp (.a (.one .nils)) σ'5) (Fw.newObj σ'5 (.live t_int [[.int .i64 n2]]) (fun (id : Nat) => fun (σ'6 : Store) => Qp (.a (.one (.osl id 0 1))) σ'6))))))))))) → R σ'1) → bcase r5 (Qp (.a (.one .nils)) σ') (bcase (!b) (Qp (.a (.one .nils)) σ') ((([[.int .i64 n, .int .i64 n1]] : List (List D)) = ([[.int .i64 n, .int .i64 n1]] : List (List D))) ∧ R σ')))
theorem W_conf_plan_overlap (p0 : D) (p1 : D) (p2 : D) (p3 : D) (p4 : D) (p5 : Int) (p6 : Int) (p7 : Int) (p8 : Int) (r0 : Int) (r1 : Int) (r2 : D) (r3 : D) (r4 : D) (r5 : Bool) (σ : Store) (Qp : RV → Store → Prop) (h : V_conf_plan_overlap p0 p1 p2 p3 p4 p5 p6 p7 p8 r0 r1 r2 r3 r4 r5 σ Qp) : DCalls Tryz.prog n_conf_plan_overlap [.agg [p0, p1, p2, p3, p4, .int .i64 p5, .int .i64 p6, .int .i64 p7, .int .i64 p8], .agg [.int .i64 r0, .int .i64 r1, r2, r3, r4, .bool r5]] σ Qp :=
  dcalls_of_body mixed (by kernel_rfl) Tryz.func86 an_conf_plan_overlap ((show V_conf_plan_overlap p0 p1 p2 p3 p4 p5 p6 p7 p8 r0 r1 r2 r3 r4 r5 σ Qp = dbody Tryz.prog Tryz.f86 an_conf_plan_overlap [.agg [p0, p1, p2, p3, p4, .int .i64 p5, .int .i64 p6, .int .i64 p7, .int .i64 p8], .agg [.int .i64 r0, .int .i64 r1, r2, r3, r4, .bool r5]] σ Qp by kernel_rfl) ▸ h)
def an_slices_Clone_Mover : Ann := { esc := [], cbs := [], draws := [], loops := [], joins := [] }
def V_slices_Clone_Mover (s : D) (σ : Store) (Qp : RV → Store → Prop) : Prop :=
  ∃ b : Bool, (IsNil .sl s b) ∧ bcase (b != false) (Qp (.a (.one .nils)) σ) (Fw.newObj σ (.live t_Mover []) (fun (id : Nat) => fun (σ' : Store) => appendTo Tryz.prog σ' t_Mover 16 (.osl id 0 0) s (fun (d : D) => fun (σ'1 : Store) => Qp (.a (.one d)) σ'1)))
theorem W_slices_Clone_Mover (s : D) (σ : Store) (Qp : RV → Store → Prop) (h : V_slices_Clone_Mover s σ Qp) : DCalls Tryz.prog n_slices_Clone_Mover [.one s] σ Qp :=
  dcalls_of_body mixed (by kernel_rfl) Tryz.func91 an_slices_Clone_Mover ((show V_slices_Clone_Mover s σ Qp = dbody Tryz.prog Tryz.f91 an_slices_Clone_Mover [.one s] σ Qp by kernel_rfl) ▸ h)
def an_conf_Approach : Ann := { esc := [], cbs := [2], draws := [(3, { ord := [0, 1, 2, 3, 4, 5, 6, 7, 8], nb := [], av := [], dir := [] })], loops := [], joins := [] }
def V_conf_Approach (c0 : D) (c1 : D) (c2 : D) (c3 : D) (c4 : D) (c5 : Int) (c6 : Int) (c7 : Int) (c8 : Int) (r : Int) (σ : Store) (Qp : RV → Store → Prop) : Prop :=
  bcase (decide (r < 0)) (Qp (.a (.one (.int .i64 (-1)))) σ) (∃ len : Nat, (Len c4 len) ∧ bcase (decide (r ≥ (len : Int))) (Qp (.a (.one (.int .i64 (-1)))) σ) (∃ len1 : Nat, (Idx Tryz.prog σ c4 6 len1) ∧ ((0 : Int) ≤ r) ∧ (r < (len1 : Int)) ∧ ∃ row : List D, (Row σ c4 (Int.toNat r) row) ∧ ∃ n : Int, ∃ n1 : Int, ∃ d : D, ∃ d1 : D, ∃ d2 : D, ∃ b : Bool, ((List.take 6 row) = ([.int .i64 n, .int .i64 n1, d, d1, d2, .bool b] : List D)) ∧ DCalls Tryz.prog n_conf_plan_approach [.agg [c0, c1, c2, c3, c4, .int .i64 c5, .int .i64 c6, .int .i64 c7, .int .i64 c8], .agg [.int .i64 n, .int .i64 n1, d, d1, d2, .bool b]] σ (fun (r1 : RV) => fun (σ' : Store) => ∃ n2 : Int, (r1 = (.a (.one (.int .i64 n2)) : RV)) ∧ Qp (.a (.one (.int .i64 n2))) σ')))
theorem W_conf_Approach (c0 : D) (c1 : D) (c2 : D) (c3 : D) (c4 : D) (c5 : Int) (c6 : Int) (c7 : Int) (c8 : Int) (r : Int) (σ : Store) (Qp : RV → Store → Prop) (h : V_conf_Approach c0 c1 c2 c3 c4 c5 c6 c7 c8 r σ Qp) : DCalls Tryz.prog n_conf_Approach [.agg [c0, c1, c2, c3, c4, .int .i64 c5, .int .i64 c6, .int .i64 c7, .int .i64 c8], .one (.int .i64 r)] σ Qp :=
  dcalls_of_body mixed (by kernel_rfl) Tryz.func96 an_conf_Approach ((show V_conf_Approach c0 c1 c2 c3 c4 c5 c6 c7 c8 r σ Qp = dbody Tryz.prog Tryz.f96 an_conf_Approach [.agg [c0, c1, c2, c3, c4, .int .i64 c5, .int .i64 c6, .int .i64 c7, .int .i64 c8], .one (.int .i64 r)] σ Qp by kernel_rfl) ▸ h)
def an_slices_ContainsFunc_Step : Ann := { esc := [], cbs := [], draws := [], loops := [], joins := [] }
def V_slices_ContainsFunc_Step (s : D) (f : D) (σ : Store) (Qp : RV → Store → Prop) : Prop :=
  DCalls Tryz.prog n_slices_IndexFunc_Step [.one s, .one f] σ (fun (r : RV) => fun (σ' : Store) => ∃ n : Int, (r = (.a (.one (.int .i64 n)) : RV)) ∧ Qp (.a (.one (.bool (decide (n ≥ 0))))) σ')
theorem W_slices_ContainsFunc_Step (s : D) (f : D) (σ : Store) (Qp : RV → Store → Prop) (h : V_slices_ContainsFunc_Step s f σ Qp) : DCalls Tryz.prog n_slices_ContainsFunc_Step [.one s, .one f] σ Qp :=
  dcalls_of_body mixed (by kernel_rfl) Tryz.func100 an_slices_ContainsFunc_Step ((show V_slices_ContainsFunc_Step s f σ Qp = dbody Tryz.prog Tryz.f100 an_slices_ContainsFunc_Step [.one s, .one f] σ Qp by kernel_rfl) ▸ h)
def an_ref05_Next : Ann := { esc := [], cbs := [], draws := [(5, { ord := [0, 1, 2, 3, 4, 5, 6], nb := [], av := [], dir := [] }), (7, { ord := [0, 1, 2, 3, 4, 5, 6], nb := [], av := [], dir := [] })], loops := [(2, { mods := [(13, SlotSh.one (Sh.int IntKind.i64))], keep := [1, 2, 11, 12] })], joins := [] }
def V_ref05_Next (joints : D) (section_ : Int) (end_ : Int) (σ : Store) (Qp : RV → Store → Prop) : Prop :=
  ∃ len : Nat, (Len joints len) ∧ ∃ I : Int → Store → Prop, ∃ μ : Int → Store → Nat, (I 0 σ) ∧ ∀ n : Int, ∀ σ' : Store, (I n σ') → bcase (decide (n < (len : Int))) (∃ len1 : Nat, (Idx Tryz.prog σ' joints 4 len1) ∧ ((0 : Int) ≤ n) ∧ (n < (len1 : Int)) ∧ ∃ row : List D, (Row σ' joints (Int.toNat n) row) ∧ ∃ n1 : Int, ∃ n2 : Int, ∃ n3 : Int, ∃ n4 : Int, ((List.take 4 row) = ([.int .i64 n1, .int .i64 n2, .int .i64 n3, .int .i64 n4] : List D)) ∧ bcase (n1 == section_) (bcase (n2 == end_) (Qp (.tup [.one (.int .i64 n3), .one (.int .i64 n4), .one (.bool true)]) σ') (bcase (n3 == section_) (bcase (n4 == end_) (Qp (.tup [.one (.int .i64 n1), .one (.int .i64 n2), .one (.bool true)]) σ') ((I (w64 (n + 1)) σ') ∧ ((μ (w64 (n + 1)) σ') < (μ n σ')))) ((I (w64 (n + 1)) σ') ∧ ((μ (w64 (n + 1)) σ') < (μ n σ'))))) (bcase (n3 == section_) (bcase (n4 == end_) (Qp (.tup [.one (.int .i64 n1), .one (.int .i64 n2), .one (.bool true)]) σ') ((I (w64 (n + 1)) σ') ∧ ((μ (w64 (n + 1)) σ') < (μ n σ')))) ((I (w64 (n + 1)) σ') ∧ ((μ (w64 (n + 1)) σ') < (μ n σ'))))) (Qp (.tup [.one (.int .i64 0), .one (.int .i64 0), .one (.bool false)]) σ')
theorem W_ref05_Next (joints : D) (section_ : Int) (end_ : Int) (σ : Store) (Qp : RV → Store → Prop) (h : V_ref05_Next joints section_ end_ σ Qp) : DCalls Tryz.prog n_ref05_Next [.one joints, .one (.int .i64 section_), .one (.int .i64 end_)] σ Qp :=
  dcalls_of_body mixed (by kernel_rfl) Tryz.func104 an_ref05_Next ((show V_ref05_Next joints section_ end_ σ Qp = dbody Tryz.prog Tryz.f104 an_ref05_Next [.one joints, .one (.int .i64 section_), .one (.int .i64 end_)] σ Qp by kernel_rfl) ▸ h)
def an_ref05_Pos : Ann := { esc := [], cbs := [], draws := [], loops := [(2, { mods := [(13, SlotSh.one (Sh.int IntKind.i64))], keep := [1, 2, 11, 12] })], joins := [] }
def V_ref05_Pos (kind : Int) (in_ : Int) (out_ : Int) (σ : Store) (Qp : RV → Store → Prop) : Prop :=
  DCalls Tryz.prog n_ref05_ways [.one (.int .i64 kind)] σ (fun (r : RV) => fun (σ' : Store) => ∃ d : D, (r = (.a (.one d) : RV)) ∧ ∃ len : Nat, (Len d len) ∧ ∃ I : Int → Store → Prop, ∃ μ : Int → Store → Nat, (I 0 σ') ∧ ∀ n : Int, ∀ σ'1 : Store, (I n σ'1) → bcase (decide (n < (len : Int))) (∃ len1 : Nat, (Idx Tryz.prog σ'1 d 3 len1) ∧ ((0 : Int) ≤ n) ∧ (n < (len1 : Int)) ∧ ∃ row : List D, (Row σ'1 d (Int.toNat n) row) ∧ ∃ n1 : Int, ∃ n2 : Int, ∃ n3 : Int, ((List.take 3 row) = ([.int .i64 n1, .int .i64 n2, .int .i64 n3] : List D)) ∧ bcase (n1 == in_) (bcase (n2 == out_) (Qp (.tup [.one (.int .i64 n3), .one (.bool true)]) σ'1) (bcase (n2 == in_) (bcase (n1 == out_) (Qp (.tup [.one (.int .i64 n3), .one (.bool true)]) σ'1) ((I (w64 (n + 1)) σ'1) ∧ ((μ (w64 (n + 1)) σ'1) < (μ n σ'1)))) ((I (w64 (n + 1)) σ'1) ∧ ((μ (w64 (n + 1)) σ'1) < (μ n σ'1))))) (bcase (n2 == in_) (bcase (n1 == out_) (Qp (.tup [.one (.int .i64 n3), .one (.bool true)]) σ'1) ((I (w64 (n + 1)) σ'1) ∧ ((μ (w64 (n + 1)) σ'1) < (μ n σ'1)))) ((I (w64 (n + 1)) σ'1) ∧ ((μ (w64 (n + 1)) σ'1) < (μ n σ'1))))) (Qp (.tup [.one (.int .i64 0), .one (.bool false)]) σ'1))
theorem W_ref05_Pos (kind : Int) (in_ : Int) (out_ : Int) (σ : Store) (Qp : RV → Store → Prop) (h : V_ref05_Pos kind in_ out_ σ Qp) : DCalls Tryz.prog n_ref05_Pos [.one (.int .i64 kind), .one (.int .i64 in_), .one (.int .i64 out_)] σ Qp :=
  dcalls_of_body mixed (by kernel_rfl) Tryz.func108 an_ref05_Pos ((show V_ref05_Pos kind in_ out_ σ Qp = dbody Tryz.prog Tryz.f108 an_ref05_Pos [.one (.int .i64 kind), .one (.int .i64 in_), .one (.int .i64 out_)] σ Qp by kernel_rfl) ▸ h)
def an_slices_Contains_Signal : Ann := { esc := [], cbs := [3], draws := [], loops := [], joins := [] }
def V_slices_Contains_Signal (s : D) (v0 : Int) (v1 : Int) (σ : Store) (Qp : RV → Store → Prop) : Prop :=
  DCalls Tryz.prog n_slices_Index_Signal [.one s, .agg [.int .i64 v0, .int .i64 v1]] σ (fun (r : RV) => fun (σ' : Store) => ∃ n : Int, (r = (.a (.one (.int .i64 n)) : RV)) ∧ Qp (.a (.one (.bool (decide (n ≥ 0))))) σ')
theorem W_slices_Contains_Signal (s : D) (v0 : Int) (v1 : Int) (σ : Store) (Qp : RV → Store → Prop) (h : V_slices_Contains_Signal s v0 v1 σ Qp) : DCalls Tryz.prog n_slices_Contains_Signal [.one s, .agg [.int .i64 v0, .int .i64 v1]] σ Qp :=
  dcalls_of_body mixed (by kernel_rfl) Tryz.func112 an_slices_Contains_Signal ((show V_slices_Contains_Signal s v0 v1 σ Qp = dbody Tryz.prog Tryz.f112 an_slices_Contains_Signal [.one s, .agg [.int .i64 v0, .int .i64 v1]] σ Qp by kernel_rfl) ▸ h)
def an_slices_Index_int : Ann := { esc := [], cbs := [], draws := [], loops := [(2, { mods := [(8, SlotSh.one (Sh.int IntKind.i64))], keep := [0, 1, 7] })], joins := [] }
def V_slices_Index_int (s : D) (v : Int) (σ : Store) (Qp : RV → Store → Prop) : Prop :=
  ∃ len : Nat, (Len s len) ∧ ∃ I : Int → Store → Prop, ∃ μ : Int → Store → Nat, (I 0 σ) ∧ ∀ n : Int, ∀ σ' : Store, (I n σ') → bcase (decide (n < (len : Int))) (∃ len1 : Nat, (Idx Tryz.prog σ' s 1 len1) ∧ ((0 : Int) ≤ n) ∧ (n < (len1 : Int)) ∧ ∃ row : List D, (Row σ' s (Int.toNat n) row) ∧ ∃ n1 : Int, ((List.take 1 row) = ([.int .i64 n1] : List D)) ∧ bcase (v == n1) (Qp (.a (.one (.int .i64 n))) σ') ((I (w64 (n + 1)) σ') ∧ ((μ (w64 (n + 1)) σ') < (μ n σ')))) (Qp (.a (.one (.int .i64 (-1)))) σ')
theorem W_slices_Index_int (s : D) (v : Int) (σ : Store) (Qp : RV → Store → Prop) (h : V_slices_Index_int s v σ Qp) : DCalls Tryz.prog n_slices_Index_int [.one s, .one (.int .i64 v)] σ Qp :=
  dcalls_of_body mixed (by kernel_rfl) Tryz.func118 an_slices_Index_int ((show V_slices_Index_int s v σ Qp = dbody Tryz.prog Tryz.f118 an_slices_Index_int [.one s, .one (.int .i64 v)] σ Qp by kernel_rfl) ▸ h)
def an_slices_Index_Signal : Ann := { esc := [], cbs := [3], draws := [(4, { ord := [0, 1, 2, 3, 4, 5], nb := [], av := [], dir := [] })], loops := [(2, { mods := [(8, SlotSh.one (Sh.int IntKind.i64))], keep := [0, 3, 7] })], joins := [] }
def V_slices_Index_Signal (s : D) (v0 : Int) (v1 : Int) (σ : Store) (Qp : RV → Store → Prop) : Prop :=
  ∃ len : Nat, (Len s len) ∧ ∃ I : Int → Store → Prop, ∃ μ : Int → Store → Nat, (I 0 σ) ∧ ∀ n : Int, ∀ σ' : Store, (I n σ') → bcase (decide (n < (len : Int))) (∃ len1 : Nat, (Idx Tryz.prog σ' s 2 len1) ∧ ((0 : Int) ≤ n) ∧ (n < (len1 : Int)) ∧ ∃ row : List D, (Row σ' s (Int.toNat n) row) ∧ ∃ n1 : Int, ∃ n2 : Int, ((List.take 2 row) = ([.int .i64 n1, .int .i64 n2] : List D)) ∧ bcase ((v0 == n1) && (v1 == n2)) (Qp (.a (.one (.int .i64 n))) σ') ((I (w64 (n + 1)) σ') ∧ ((μ (w64 (n + 1)) σ') < (μ n σ')))) (Qp (.a (.one (.int .i64 (-1)))) σ')
theorem W_slices_Index_Signal (s : D) (v0 : Int) (v1 : Int) (σ : Store) (Qp : RV → Store → Prop) (h : V_slices_Index_Signal s v0 v1 σ Qp) : DCalls Tryz.prog n_slices_Index_Signal [.one s, .agg [.int .i64 v0, .int .i64 v1]] σ Qp :=
  dcalls_of_body mixed (by kernel_rfl) Tryz.func122 an_slices_Index_Signal ((show V_slices_Index_Signal s v0 v1 σ Qp = dbody Tryz.prog Tryz.f122 an_slices_Index_Signal [.one s, .agg [.int .i64 v0, .int .i64 v1]] σ Qp by kernel_rfl) ▸ h)
end Go.Proofs.YtpanpagcgckeoaaGreat
end
section
set_option maxRecDepth 20000
set_option linter.unusedVariables false
set_option linter.unusedSimpArgs false
namespace Go.Proofs.YtpanpagcgckeoaaGreat
open Go.Fw Go.Proofs Go.RowKit
variable {σ : Store}
theorem flatW (l : List (Int × Int × Int)) : ∀ row ∈ l.map encW, ∀ x ∈ row, Flat x := by
  intro row hrow x hx
  obtain ⟨w, _, rfl⟩ := List.mem_map.1 hrow
  simp [encW] at hx
  rcases hx with rfl | rfl | rfl <;> exact .int _ _
def WaysPost (σ : Store) (t : TypeId) (k : Int) (r : RV) (σ' : Store) : Prop := σ' = σ ∧ ∃ d, r = .a (.one d) ∧ ∀ s, At Tryz.prog s t d ((wayL k).map encW)
theorem ways_fin {t : TypeId} (hc : Tryz.prog.cellsOf t = 3) {k : Int} {rows : List (List D)} {n : Nat} {id : Nat} {σ' : Store} (hn : n = rows.length) (hl : rows.length < 100) (hid : σ id = .free) (he : Ext σ σ') (hs : σ' id = .live t rows) (hr : rows = (wayL k).map encW) :
    ∃ r' σ'', Ret Tryz.prog σ σ' (.a (.one (.osl id 0 n))) σ'' r' ∧ WaysPost σ t k r' σ'' := by
  have hat : At Tryz.prog σ' t (.osl id 0 n) rows := At.fresh hs (by omega) hn
  obtain ⟨d', h1, h2⟩ := ret_slice hat he (osl_new hid) (by rw [hr]; exact flatW _)
  exact ⟨.a (.one d'), σ, .pure he h1, rfl, d', rfl, fun s => hr ▸ h2 s⟩
theorem topo_ways_ok (k : Int) : DCalls Tryz.prog n_topo_ways [iA k] σ (WaysPost σ t_topo_way k) := by
  refine (W_topo_ways k σ _ ?_).ret (Q := fun r s => ∃ r' σ', Ret Tryz.prog σ s r σ' r' ∧ WaysPost σ t_topo_way k r' σ') (fun r s h => h)
  refine bce (fun h0 => newObj_intro fun id σ' hid _ he hs => ?_) (fun h0 => bce (fun h1 => newObj_intro fun id σ' hid _ he hs => ?_) (fun h1 => bce (fun h2 => newObj_intro fun id σ' hid _ he hs => ?_) (fun h2 => ?_)))
  · exact ways_fin c_topo_way rfl (by simp) hid he hs (by subst h0; rfl)
  · exact ways_fin c_topo_way rfl (by simp) hid he hs (by subst h1; rfl)
  · exact ways_fin c_topo_way rfl (by simp) hid he hs (by subst h2; rfl)
  · exact ⟨.a (.one .nils), σ, .pure (.refl _) .nils, rfl, .nils, rfl, fun s => by simp [wayL, h0, h1, h2]; exact .nil⟩
theorem ref05_ways_ok (k : Int) : DCalls Tryz.prog n_ref05_ways [iA k] σ (WaysPost σ t_ref05_way k) := by
  refine (W_ref05_ways k σ _ ?_).ret (Q := fun r s => ∃ r' σ', Ret Tryz.prog σ s r σ' r' ∧ WaysPost σ t_ref05_way k r' σ') (fun r s h => h)
  refine bce (fun h0 => newObj_intro fun id σ' hid _ he hs => ?_) (fun h0 => bce (fun h1 => newObj_intro fun id σ' hid _ he hs => ?_) (fun h1 => bce (fun h2 => newObj_intro fun id σ' hid _ he hs => ?_) (fun h2 => ?_)))
  · exact ways_fin c_ref05_way rfl (by simp) hid he hs (by subst h0; rfl)
  · exact ways_fin c_ref05_way rfl (by simp) hid he hs (by subst h1; rfl)
  · exact ways_fin c_ref05_way rfl (by simp) hid he hs (by subst h2; rfl)
  · exact ⟨.a (.one .nils), σ, .pure (.refl _) .nils, rfl, .nils, rfl, fun s => by simp [wayL, h0, h1, h2]; exact .nil⟩
theorem wayL_len (k : Int) : (wayL k).length < 2 ^ 60 := by unfold wayL; split <;> (try split) <;> (try split) <;> simp
theorem topo_Ends_ok (k : Int) : Pure Tryz.prog n_topo_Ends [iA k] σ (.a (iA (nends k))) := by
  refine W_topo_Ends k σ _ ((topo_ways_ok k).mono ?_)
  rintro r σ' ⟨rfl, d, rfl, hd⟩
  refine ⟨d, rfl, (hd σ').lenK ⟨fun n m s => s = σ' ∧ Rng (wayL k) (fun r => r.foldl endStep n = nends k) m, fun n m _ => (wayL k).length - m.toNat, ⟨rfl, .start (ends_eq k)⟩, ?_⟩⟩
  rintro n m _ ⟨rfl, hr⟩
  refine bcd (fun hlt => ?_) (fun hge => ?_)
  · obtain ⟨j, x, rfl, hx, hj, hF, nx⟩ := hr.step (by simp) (wayL_len k) hlt
    refine (hd _).load (map_get hx) c_topo_way rfl ⟨x.1, x.2.1, x.2.2, rfl, by omega, by omega, by omega, by omega, andl rfl (nx (fun r => r.foldl endStep (endStep n x) = nends k) hF)⟩
  · have := hr.done (by simp) hge
    exact ⟨by rw [← this]; rfl, rfl⟩
theorem ref05_Ends_ok (k : Int) : Pure Tryz.prog n_ref05_Ends [iA k] σ (.a (iA (nends k))) := by
  refine W_ref05_Ends k σ _ ((ref05_ways_ok k).mono ?_)
  rintro r σ' ⟨rfl, d, rfl, hd⟩
  refine ⟨d, rfl, (hd σ').lenK ⟨fun n m s => s = σ' ∧ Rng (wayL k) (fun r => r.foldl endStep n = nends k) m, fun n m _ => (wayL k).length - m.toNat, ⟨rfl, .start (ends_eq k)⟩, ?_⟩⟩
  rintro n m _ ⟨rfl, hr⟩
  refine bcd (fun hlt => ?_) (fun hge => ?_)
  · obtain ⟨j, x, rfl, hx, hj, hF, nx⟩ := hr.step (by simp) (wayL_len k) hlt
    refine (hd _).load (map_get hx) c_ref05_way rfl ⟨x.1, x.2.1, x.2.2, rfl, andl rfl (nx (fun r => r.foldl endStep (endStep n x) = nends k) hF)⟩
  · have := hr.done (by simp) hge
    exact ⟨by rw [← this]; rfl, rfl⟩
theorem ref05_Pos_ok (k i o : Int) : Pure Tryz.prog n_ref05_Pos [iA k, iA i, iA o] σ (opt1 (wpos (wayL k) i o)) := by
  refine W_ref05_Pos k i o σ _ ((ref05_ways_ok k).mono ?_)
  rintro r σ' ⟨rfl, d, rfl, hd⟩
  refine ⟨d, rfl, (hd σ').lenK ⟨fun m s => s = σ' ∧ Rng (wayL k) (fun r => wpos r i o = wpos (wayL k) i o) m, fun m _ => (wayL k).length - m.toNat, ⟨rfl, .start rfl⟩, ?_⟩⟩
  rintro m _ ⟨rfl, hr⟩
  refine bcd (fun hlt => ?_) (fun hge => ?_)
  · obtain ⟨j, x, rfl, hx, hj, hF, nx⟩ := hr.step (by simp) (wayL_len k) hlt
    refine (hd _).load (map_get hx) c_ref05_way rfl ⟨x.1, x.2.1, x.2.2, rfl, ?_⟩
    rw [wpos] at hF
    repeat' (first | refine bce (fun _ => ?_) (fun _ => ?_))
    all_goals first
      | (rw [if_pos (by omega)] at hF; exact ⟨by rw [← hF]; rfl, rfl⟩)
      | (rw [if_neg (by omega)] at hF; exact andl rfl (nx (fun r => wpos r i o = wpos (wayL k) i o) hF))
  · have := hr.done (by simp) hge
    exact ⟨by rw [← this]; rfl, rfl⟩
theorem topo_between_ok (n lo hi : Int) : Pure Tryz.prog n_topo_between [iA n, iA lo, iA hi] σ (.a (bA (decide (lo ≤ n ∧ n ≤ hi)))) := by
  refine W_topo_between n lo hi σ _ (bcd (fun h => ⟨?_, rfl⟩) (fun h => ⟨?_, rfl⟩))
  · simp [h]
  · simp [h]
theorem topo_Next_ok {d : D} {js : List Jt} (s e : Int) (h : At Tryz.prog σ t_Joint d (js.map Jt.enc)) : Pure Tryz.prog n_topo_Next [.one d, iA s, iA e] σ (opt2 (nxt js s e)) := by
  have hl := h.size
  rw [List.length_map] at hl
  refine W_topo_Next d s e σ _ (h.lenK ⟨fun n σ' => σ' = σ ∧ Rng js (fun r => nxt r s e = nxt js s e) n, fun n _ => js.length - n.toNat, ⟨rfl, .start rfl⟩, ?_⟩)
  rintro n σ' ⟨rfl, hr⟩
  refine bcd (fun hlt => ?_) (fun hge => ?_)
  · obtain ⟨j, x, rfl, hx, hj, hF, nx⟩ := hr.step (by simp) hl hlt
    refine h.load (map_get hx) c_Joint rfl ⟨x.A, x.AEnd, x.B, x.BEnd, rfl, ?_⟩
    rw [nxt] at hF
    repeat' (first | refine bce (fun _ => ?_) (fun _ => ?_))
    all_goals first
      | exact ⟨by rw [← hF]; simp [*, opt2], rfl⟩
      | exact andl rfl (nx (fun r => nxt r s e = nxt js s e) (by simpa [*] using hF))
  · exact ⟨by rw [← hr.done (by simp) hge]; rfl, rfl⟩
theorem slices_Index_int_ok {d : D} {l : List Int} (v : Int) (h : At Tryz.prog σ t_int d (l.map Go.Fw.encI)) : Pure Tryz.prog n_slices_Index_int [.one d, iA v] σ (.a (iA (idxOf l v 0))) := by
  have hl := h.size
  rw [List.length_map] at hl
  refine W_slices_Index_int d v σ _ (h.lenK ⟨fun n σ' => σ' = σ ∧ Rng l (fun r => (∀ j : Nat, n = j → idxOf r v j = idxOf l v 0)) n, fun n _ => l.length - n.toNat, ⟨rfl, .start fun j hj => by cases j with | zero => rfl | succ j => omega⟩, ?_⟩)
  rintro n σ' ⟨rfl, hr⟩
  refine bcd (fun hlt => ?_) (fun hge => ?_)
  · obtain ⟨j, x, rfl, hx, hj, hF, nx⟩ := hr.step (by simp) hl hlt
    refine h.load (map_get hx) c_int rfl ⟨x, rfl, ?_⟩
    have hF := hF j rfl
    rw [idxOf] at hF
    refine bce (fun _ => ?_) (fun _ => ?_)
    · exact ⟨by rw [← hF]; simp [*], rfl⟩
    · refine andl rfl (nx _ fun j' hj' => ?_)
      rw [w64_succ (by omega)] at hj'
      obtain rfl : j' = j + 1 := by omega
      rw [if_neg (fun e => by simp_all)] at hF
      exact hF
  · refine ⟨?_, rfl⟩
    obtain ⟨j, hj, hj2, hF⟩ := hr
    have hF := hF j hj
    rw [drop_end (by simp at hge; omega)] at hF
    rw [← hF]; rfl
theorem alloc_cell {W : World} {cs : Array Value} {t : TypeId} {j : Nat} {v : Value} (h : cs[j]? = some v) : (W.alloc (.cells cs t)).cell? ⟨W.heap.size, j, none⟩ = some v := by
  unfold World.cell?
  rw [(MapKept.heap_alloc W _).1]
  exact h
theorem index2_calls (a b p e : Int) (W : World) : Calls Tryz.prog n_slices_Index_int #[.slice (some ⟨W.heap.size, 0, none⟩) 2 2, .int .i64 e] (W.alloc (.cells #[.int .i64 a, .int .i64 b, .int .i64 p] t_topo_way)) fun r W' =>
    r = .returned (.int .i64 (idxOf [a, b] e 0)) ∧ Below (W.heap.size + 1) (W.alloc (.cells #[.int .i64 a, .int .i64 b, .int .i64 p] t_topo_way)) W' := by
  have hsz : (W.alloc (.cells #[.int .i64 a, .int .i64 b, .int .i64 p] t_topo_way)).heap.size = W.heap.size + 1 := Array.size_push _
  have hA : At Tryz.prog noS t_int (.sl 1 [[iD a], [iD b]]) ([a, b].map Go.Fw.encI) := ⟨⟨rfl, .inr c_int.symm⟩, by simp, fun es rows e => by injection e with e1 _; rw [← e1, c_int]⟩
  have hcell : ∀ j v, #[Value.int .i64 a, .int .i64 b, .int .i64 p][j]? = some v → (W.alloc (.cells #[.int .i64 a, .int .i64 b, .int .i64 p] t_topo_way)).cell? ⟨W.heap.size, j, none⟩ = some v := fun j v h => alloc_cell h
  have hV : V (allK (W.alloc (.cells #[.int .i64 a, .int .i64 b, .int .i64 p] t_topo_way))) noB (W.alloc (.cells #[.int .i64 a, .int .i64 b, .int .i64 p] t_topo_way)) (.slice (some ⟨W.heap.size, 0, none⟩) 2 2) (.sl 1 [[iD a], [iD b]]) := by
    have key : ∀ (i : Nat) row (j : Nat) d, ([[iD a], [iD b]] : List (List D))[i]? = some row → row[j]? = some d → (i = 0 ∧ j = 0 ∧ row = [iD a] ∧ d = iD a) ∨ (i = 1 ∧ j = 0 ∧ row = [iD b] ∧ d = iD b) := by
      intro i row j d h1 h2
      rcases i with _ | _ | i
      · simp at h1; subst h1
        rcases j with _ | j
        · simp at h2; exact .inl ⟨rfl, rfl, rfl, h2.symm⟩
        · simp at h2
      · simp at h1; subst h1
        rcases j with _ | j
        · simp at h2; exact .inr ⟨rfl, rfl, rfl, h2.symm⟩
        · simp at h2
      · simp at h1
    refine V.sl ⟨W.heap.size, 0, none⟩ 2 2 1 _ (fun i j => if i = 0 then .int .i64 a else .int .i64 b) (fun _ => ⟨by show W.heap.size < _; rw [hsz]; omega, rfl⟩) rfl (by omega) (fun i row h => ?_) (fun i row j d h hj => ?_) (fun i row j d h hj => ?_)
    · rcases i with _ | _ | i
      · simp at h; subst h; rfl
      · simp at h; subst h; rfl
      · simp at h
    · rcases key i row j d h hj with ⟨rfl, rfl, rfl, rfl⟩ | ⟨rfl, rfl, rfl, rfl⟩
      · exact hcell 0 _ rfl
      · exact hcell 1 _ rfl
    · rcases key i row j d h hj with ⟨rfl, rfl, rfl, rfl⟩ | ⟨rfl, rfl, rfl, rfl⟩
      · exact V.int _ _
      · exact V.int _ _
  have hc := (slices_Index_int_ok e hA).2 (allK _) noB (W.alloc (.cells #[.int .i64 a, .int .i64 b, .int .i64 p] t_topo_way)) #[.slice (some ⟨W.heap.size, 0, none⟩) 2 2, .int .i64 e] srel0 rfl (by
    intro i v x hv hx
    rcases i with _ | _ | i
    · simp at hv hx
      subst hv hx
      exact hV
    · simp at hv hx
      subst hv hx
      exact V.int _ _
    · simp at hv)
  refine hc.mono fun r W' ⟨v, rr, σ', k', β', q1, ⟨q2, _⟩, q3, _, _, q6⟩ => ?_
  subst q2
  have hv := V.inv_int q3
  subst hv
  exact ⟨q1, q6.os, q6.tape, q6.output, q6.size, fun b hb => q6.block b (by rw [hsz]; exact hb) (fun i bi hi => by cases hi)⟩
theorem way_other_calls (a b p e : Int) (W : World) : Calls Tryz.prog n_topo_way_other #[.agg #[.int .i64 a, .int .i64 b, .int .i64 p], .int .i64 e] W fun r W' =>
    r = .returned (if e = a then .tuple #[.int .i64 b, .bool true] else if e = b then .tuple #[.int .i64 a, .bool true] else .tuple #[.int .i64 0, .bool false]) ∧ Below W.heap.size W W' := by
  have hI := index2_calls a b p e W
  have fin : ∀ W', Below (W.heap.size + 1) (W.alloc (.cells #[.int .i64 a, .int .i64 b, .int .i64 p] t_topo_way)) W' → Below W.heap.size W W' := fun W' hb =>
    ((Below.refl _ _).alloc (Nat.le_refl _) _).trans (hb.mono (by omega))
  have cells : ∀ W', Below (W.heap.size + 1) (W.alloc (.cells #[.int .i64 a, .int .i64 b, .int .i64 p] t_topo_way)) W' →
      W'.cell? ⟨W.heap.size, 0, none⟩ = some (.int .i64 a) ∧ W'.cell? ⟨W.heap.size, 1, none⟩ = some (.int .i64 b) := fun W' hb => by
    exact ⟨(hb.cell (p := ⟨W.heap.size, 0, none⟩) (Nat.lt_succ_self _)).trans (alloc_cell rfl), (hb.cell (p := ⟨W.heap.size, 1, none⟩) (Nat.lt_succ_self _)).trans (alloc_cell rfl)⟩
  by_cases h0 : e = a
  · subst h0
    rw [show idxOf [e, b] e 0 = 0 by simp [idxOf]] at hI
    rw [if_pos rfl]
    go_enter Tryz.func119, Tryz.ntmps119
    go_wp2_with fail
    refine hI.mono ?_
    rintro r W' ⟨rfl, hb⟩
    obtain ⟨c0, c1⟩ := cells W' hb
    have hf := fin W' hb
    clear cells fin hI hb
    go_wp2
    go_ret2
    exact ⟨rfl, hf⟩
  · by_cases h1 : e = b
    · subst h1
      rw [show idxOf [a, e] e 0 = 1 by simp [idxOf, h0]] at hI
      rw [if_neg h0, if_pos rfl]
      go_enter Tryz.func119, Tryz.ntmps119
      go_wp2_with fail
      refine hI.mono ?_
      rintro r W' ⟨rfl, hb⟩
      obtain ⟨c0, c1⟩ := cells W' hb
      have hf := fin W' hb
      clear cells fin hI hb
      go_wp2
      go_ret2
      exact ⟨rfl, hf⟩
    · rw [show idxOf [a, b] e 0 = -1 by simp [idxOf, h0, h1]] at hI
      rw [if_neg h0, if_neg h1]
      go_enter Tryz.func119, Tryz.ntmps119
      go_wp2_with fail
      refine hI.mono ?_
      rintro r W' ⟨rfl, hb⟩
      have hf := fin W' hb
      clear cells fin hI hb
      go_wp2
      go_ret2
      exact ⟨rfl, hf⟩
theorem way_other_ok (a b p e : Int) : Pure Tryz.prog n_topo_way_other [.agg [iD a, iD b, iD p], iA e] σ (opt1 (if e = a then some b else if e = b then some a else none)) := by
  refine ⟨by kernel_rfl, fun k β W vs hS hsz hv => ?_⟩
  have hvs : vs = #[.agg #[.int .i64 a, .int .i64 b, .int .i64 p], .int .i64 e] := by
    have h0 := hv 0 (vs.getD 0 undef) _ (by simp at hsz; simp [hsz]) rfl
    have h1 := hv 1 (vs.getD 1 undef) _ (by simp at hsz; simp [hsz]) rfl
    obtain ⟨us, e0, hu⟩ := h0
    have e1 := V.inv_int h1
    have hus : us = #[.int .i64 a, .int .i64 b, .int .i64 p] := by
      apply Array.ext'
      exact vsOfD_eq hu rfl
    apply Array.ext
    · simpa using hsz
    · intro i h1 h2
      simp at hsz
      match i, h1 with
      | 0, _ => simp [hsz] at e0; simp [e0, hus]
      | 1, _ => simp [hsz] at e1; simp [e1]
      | i + 2, h => omega
  subst hvs
  refine (way_other_calls a b p e W).mono fun r W' ⟨h1, h2⟩ => ?_
  have hg : Grow W W' := ⟨h2.os, h2.tape, h2.output, h2.size, h2.block⟩
  have tup : ∀ (x : Int) (c : Bool), VR k β W' (.tuple #[.int .i64 x, .bool c]) (.tup [iA x, bA c]) := fun x c => tup2 (v := iA x) (V.int _ _)
  refine ⟨_, _, σ, k, β, h1, ⟨rfl, rfl⟩, ?_, hS.grow hg, Ghost.refl _ _ _ _, hg.frm _ _⟩
  by_cases h0 : e = a
  · simp only [h0, if_true]; exact tup _ _
  · by_cases h1 : e = b
    · simp only [h0, h1, if_false, if_true]; split <;> exact tup _ _
    · simp only [h0, h1, if_false]; exact tup _ _
theorem topo_Pos_ok (k i o : Int) : Pure Tryz.prog n_topo_Pos [iA k, iA i, iA o] σ (opt1 (wpos (wayL k) i o)) := by
  refine W_topo_Pos k i o σ _ ((topo_ways_ok k).mono ?_)
  rintro r σ' ⟨rfl, d, rfl, hd⟩
  refine ⟨d, rfl, (hd σ').lenK ⟨fun m s => s = σ' ∧ Rng (wayL k) (fun r => wpos r i o = wpos (wayL k) i o) m, fun m _ => (wayL k).length - m.toNat, ⟨rfl, .start rfl⟩, ?_⟩⟩
  rintro m _ ⟨rfl, hr⟩
  refine bcd (fun hlt => ?_) (fun hge => ?_)
  · obtain ⟨j, x, rfl, hx, hj, hF, nx⟩ := hr.step (by simp) (wayL_len k) hlt
    refine (hd _).load (map_get hx) c_topo_way rfl ⟨x.1, x.2.1, x.2.2, rfl, (way_other_ok _ _ _ _).use ?_⟩
    have hne : x.1 ≠ x.2.1 := by
      have hm := List.mem_of_getElem? hx
      unfold wayL at hm
      split at hm
      · simp at hm; subst hm; decide
      · split at hm
        · simp at hm; rcases hm with rfl | rfl <;> decide
        · split at hm
          · simp at hm; rcases hm with rfl | rfl <;> decide
          · cases hm
    rw [wpos] at hF
    by_cases h0 : i = x.1
    · subst h0
      refine ⟨x.2.1, true, by simp [opt1], ?_⟩
      refine bce (fun h1 => ?_) (fun h1 => ?_)
      · exact ⟨by rw [← hF]; simp [*, opt1], rfl⟩
      · exact andl rfl (nx (fun r => wpos r x.1 o = wpos (wayL k) x.1 o) (by rw [if_neg (by rintro (⟨_, h⟩ | ⟨h, _⟩); exact h1 h; exact hne h.symm)] at hF; exact hF))
    · by_cases h1 : i = x.2.1
      · subst h1
        refine ⟨x.1, true, by simp [opt1, h0], ?_⟩
        refine bce (fun h1 => ?_) (fun h1 => ?_)
        · exact ⟨by rw [← hF]; simp [*, opt1], rfl⟩
        · exact andl rfl (nx (fun r => wpos r x.2.1 o = wpos (wayL k) x.2.1 o) (by rw [if_neg (by rintro (⟨h, _⟩ | ⟨_, h⟩); exact hne h; exact h1 h)] at hF; exact hF))
      · refine ⟨0, false, by simp [opt1, h0, h1], ?_⟩
        exact andl rfl (nx (fun r => wpos r i o = wpos (wayL k) i o) (by rw [if_neg (by rintro (⟨h, _⟩ | ⟨h, _⟩); exact h0 h.symm; exact h1 h.symm)] at hF; exact hF))
  · have := hr.done (by simp) hge
    exact ⟨by rw [← this]; rfl, rfl⟩
theorem ref05_Next_ok {d : D} {js : List Jt} (s e : Int) (h : At Tryz.prog σ t_Joint d (js.map Jt.enc)) : Pure Tryz.prog n_ref05_Next [.one d, iA s, iA e] σ (opt2 (nxt js s e)) := by
  have hl := h.size
  rw [List.length_map] at hl
  refine W_ref05_Next d s e σ _ (h.lenK ⟨fun n σ' => σ' = σ ∧ Rng js (fun r => nxt r s e = nxt js s e) n, fun n _ => js.length - n.toNat, ⟨rfl, .start rfl⟩, ?_⟩)
  rintro n σ' ⟨rfl, hr⟩
  refine bcd (fun hlt => ?_) (fun hge => ?_)
  · obtain ⟨j, x, rfl, hx, hj, hF, nx⟩ := hr.step (by simp) hl hlt
    refine h.load (map_get hx) c_Joint rfl ⟨x.A, x.AEnd, x.B, x.BEnd, rfl, ?_⟩
    rw [nxt] at hF
    repeat' (first | refine bce (fun _ => ?_) (fun _ => ?_))
    all_goals first
      | exact ⟨by rw [← hF]; simp [*, opt2], rfl⟩
      | exact andl rfl (nx (fun r => nxt r s e = nxt js s e) (by simpa [*] using hF))
  · exact ⟨by rw [← hr.done (by simp) hge]; rfl, rfl⟩
theorem ref05_count_ok {d : D} {js : List Jt} (s e : Int) (h : At Tryz.prog σ t_Joint d (js.map Jt.enc)) : Pure Tryz.prog n_ref05_count [.one d, iA s, iA e] σ (.a (iA (cnt js s e))) := by
  have hl := h.size
  rw [List.length_map] at hl
  have hb : ∀ l : List Jt, 0 ≤ cnt l s e ∧ cnt l s e ≤ 2 * l.length := by
    intro l
    induction l with
    | nil => simp [cnt]
    | cons j r ih => simp only [cnt, List.length_cons]; split <;> split <;> omega
  refine W_ref05_count d s e σ _ (h.lenK ⟨fun c n σ' => σ' = σ ∧ Rng js (fun r => c + cnt r s e = cnt js s e ∧ 0 ≤ c) n, fun c n _ => js.length - n.toNat, ⟨rfl, .start ⟨by omega, by omega⟩⟩, ?_⟩)
  rintro c n σ' ⟨rfl, hr⟩
  refine bcd (fun hlt => ?_) (fun hge => ?_)
  · obtain ⟨j, x, rfl, hx, hj, hF, nx⟩ := hr.step (by simp) hl hlt
    refine h.load (map_get hx) c_Joint rfl ⟨x.A, x.AEnd, x.B, x.BEnd, rfl, ?_⟩
    rw [cnt] at hF
    have h1 := hb js
    have h2 := hb (js.drop (j + 1))
    have hw : c < 2 ^ 62 := by split at hF <;> split at hF <;> omega
    intro R hR
    have key : ∀ c' : Int, 0 ≤ c' → c' ≤ 2 ^ 62 → c' + (if x.B = s ∧ x.BEnd = e then 1 else 0) + cnt (js.drop (j + 1)) s e = cnt js s e → R c' σ' := by
      intro c' h0 h3 h4
      refine hR c' σ' ?_
      repeat' (first | refine bce (fun _ => ?_) (fun _ => ?_))
      · rw [w64_id (n := c' + 1) (by omega) (by omega)]
        exact andl rfl (nx (fun r => c' + 1 + cnt r s e = cnt js s e ∧ 0 ≤ c' + 1) ⟨by simp [*] at h4; omega, by omega⟩)
      · exact andl rfl (nx (fun r => c' + cnt r s e = cnt js s e ∧ 0 ≤ c') ⟨by simp [*] at h4; omega, by omega⟩)
      · exact andl rfl (nx (fun r => c' + cnt r s e = cnt js s e ∧ 0 ≤ c') ⟨by simp [*] at h4; omega, by omega⟩)
    repeat' (first | refine bce (fun _ => ?_) (fun _ => ?_))
    · refine ⟨rfl, ?_⟩
      rw [w64_id (n := c + 1) (by omega) (by omega)]
      exact key _ (by omega) (by omega) (by simp [*] at hF; omega)
    · exact ⟨rfl, key _ (by omega) (by omega) (by simp [*] at hF; omega)⟩
    · exact ⟨rfl, key _ (by omega) (by omega) (by simp [*] at hF; omega)⟩
  · have := hr.done (by simp) hge
    simp [cnt] at this
    exact ⟨by rw [← this.1], rfl⟩
end Go.Proofs.YtpanpagcgckeoaaGreat
end
section
namespace Go.Fw
def allSpots (js : List Jt) : List (Int × Int) := js.flatMap Jt.spots
theorem prun_iff (secs : List Sec) : ∀ (l tk tk' : List (Int × Int)), prun secs l tk = some tk' ↔ (∀ p ∈ l, spotOk secs p = true) ∧ l.Nodup ∧ (∀ p ∈ l, p ∉ tk) ∧ tk' = l.reverse ++ tk
  | [], tk, tk' => by simp [prun]; exact eq_comm
  | p :: r, tk, tk' => by
    rw [prun]
    by_cases h : spotOk secs p = true ∧ p ∉ tk
    · rw [if_pos h, prun_iff secs r (p :: tk) tk']
      simp only [List.mem_cons, forall_eq_or_imp, List.nodup_cons, List.reverse_cons, List.append_assoc, List.singleton_append]
      constructor
      · rintro ⟨h1, h2, h3, h4⟩
        exact ⟨⟨h.1, h1⟩, ⟨fun hp => (h3 p hp) (.inl rfl), h2⟩, ⟨h.2, fun q hq hqt => h3 q hq (.inr hqt)⟩, h4⟩
      · rintro ⟨⟨_, h1⟩, ⟨h2, h3⟩, ⟨_, h4⟩, h5⟩
        exact ⟨h1, h3, fun q hq hqt => hqt.elim (fun e => h2 (e ▸ hq)) (h4 q hq), h5⟩
    · rw [if_neg h]
      simp only [List.mem_cons, forall_eq_or_imp]
      constructor
      · intro h'; cases h'
      · rintro ⟨⟨h1, _⟩, _, ⟨h2, _⟩, _⟩; exact absurd ⟨h1, h2⟩ h
theorem jrun_iff (secs : List Sec) : ∀ (js : List Jt) (tk tk' : List (Int × Int)), jrun secs js tk = some tk' ↔
    (∀ p ∈ allSpots js, spotOk secs p = true) ∧ (allSpots js).Nodup ∧ (∀ p ∈ allSpots js, p ∉ tk) ∧ (∀ j ∈ js, j.A ≠ j.B) ∧ tk' = (allSpots js).reverse ++ tk
  | [], tk, tk' => by simp [jrun, allSpots]; exact eq_comm
  | j :: r, tk, tk' => by
    rw [jrun]
    have hall : allSpots (j :: r) = j.spots ++ allSpots r := by simp [allSpots]
    rw [hall]
    cases hp : prun secs j.spots tk with
    | none =>
      have hno : ¬ ∃ t, prun secs j.spots tk = some t := by rw [hp]; rintro ⟨t, h⟩; cases h
      constructor
      · intro h; cases h
      · rintro ⟨h1, h2, h3, _, _⟩
        exact absurd ⟨_, (prun_iff secs j.spots tk _).2 ⟨fun p hp => h1 p (List.mem_append_left _ hp), (List.nodup_append.1 h2).1, fun p hp => h3 p (List.mem_append_left _ hp), rfl⟩⟩ hno
    | some t =>
      obtain ⟨a1, a2, a3, a4⟩ := (prun_iff secs j.spots tk t).1 hp
      by_cases hAB : j.A = j.B
      · simp only [hAB, if_true]
        constructor
        · intro h; cases h
        · rintro ⟨_, _, _, h4, _⟩; exact absurd hAB (h4 j (by simp))
      · simp only [hAB, if_false]
        rw [jrun_iff secs r t tk', a4]
        constructor
        · rintro ⟨h1, h2, h3, h4, h5⟩
          refine ⟨fun p hp => (List.mem_append.1 hp).elim (a1 p) (h1 p), List.nodup_append.2 ⟨a2, h2, fun a ha b hb e => ?_⟩, fun p hp => (List.mem_append.1 hp).elim (a3 p) (fun hp ht => h3 p hp (by simp [ht])), fun x hx => ?_, by rw [h5]; simp⟩
          · subst e; exact h3 a hb (by simp [ha])
          · rcases List.mem_cons.1 hx with rfl | hx
            · exact hAB
            · exact h4 x hx
        · rintro ⟨h1, h2, h3, h4, h5⟩
          obtain ⟨b1, b2, b3⟩ := List.nodup_append.1 h2
          refine ⟨fun p hp => h1 p (List.mem_append_right _ hp), b2, fun p hp ht => ?_, fun x hx => h4 x (List.mem_cons_of_mem _ hx), by rw [h5]; simp⟩
          rcases List.mem_append.1 ht with ht | ht
          · exact b3 p (by simpa using ht) p hp rfl
          · exact h3 p (List.mem_append_right _ hp) ht
theorem cnt_count (s e : Int) : ∀ js : List Jt, cnt js s e = ((allSpots js).count (s, e) : Int)
  | [] => by simp [cnt, allSpots]
  | j :: r => by
    have hall : allSpots (j :: r) = (j.A, j.AEnd) :: (j.B, j.BEnd) :: allSpots r := by simp [allSpots, Jt.spots]
    rw [hall, cnt, cnt_count s e r, List.count_cons, List.count_cons]
    simp only [beq_iff_eq, Prod.mk.injEq]
    split <;> split <;> omega
theorem srun_iff (tk : List (Int × Int)) : ∀ (secs : List Sec) (i : Int) (ls : List Int), srun tk secs i ls = true ↔
    ∀ (k : Nat) s, secs[k]? = some s → nends s.Kind ≠ 0 ∧ (0 ≤ s.OC ∧ s.OC ≤ 3) ∧ (0 ≤ s.Line ∧ s.Line ≤ 3) ∧ (s.Line ≠ 0 → s.Kind = 0 ∧ (i + k, 1) ∉ tk ∧ s.Line ∉ ls ∧ ∀ k' s', k' < k → secs[k']? = some s' → s'.Line ≠ s.Line)
  | [], i, ls => by simp [srun]
  | x :: r, i, ls => by
    rw [srun]
    by_cases hc : nends x.Kind = 0 ∨ ¬ (0 ≤ x.OC ∧ x.OC ≤ 3) ∨ ¬ (0 ≤ x.Line ∧ x.Line ≤ 3) ∨ x.Line ≠ 0 ∧ (x.Kind ≠ 0 ∨ (i, 1) ∈ tk ∨ x.Line ∈ ls)
    · rw [if_pos hc]
      constructor
      · intro h; cases h
      · intro h
        obtain ⟨h1, h2, h3, h4⟩ := h 0 x rfl
        rcases hc with hc | hc | hc | ⟨hc, hd⟩
        · exact absurd hc h1
        · exact absurd h2 hc
        · exact absurd h3 hc
        · obtain ⟨g1, g2, g3, _⟩ := h4 hc
          rcases hd with hd | hd | hd
          · exact absurd g1 hd
          · exact absurd hd (by simpa using g2)
          · exact absurd hd g3
    · rw [if_neg hc, srun_iff tk r (i + 1) (x.Line :: ls)]
      have hx : nends x.Kind ≠ 0 ∧ (0 ≤ x.OC ∧ x.OC ≤ 3) ∧ (0 ≤ x.Line ∧ x.Line ≤ 3) ∧ (x.Line ≠ 0 → x.Kind = 0 ∧ (i, 1) ∉ tk ∧ x.Line ∉ ls) := by
        refine ⟨fun h => hc (.inl h), Classical.not_not.1 fun h => hc (.inr (.inl h)), Classical.not_not.1 fun h => hc (.inr (.inr (.inl h))), fun hl => ⟨Classical.not_not.1 fun h => hc (.inr (.inr (.inr ⟨hl, .inl h⟩))), fun h => hc (.inr (.inr (.inr ⟨hl, .inr (.inl h)⟩))), fun h => hc (.inr (.inr (.inr ⟨hl, .inr (.inr h)⟩)))⟩⟩
      constructor
      · intro h k s hk
        cases k with
        | zero =>
          simp at hk; subst hk
          exact ⟨hx.1, hx.2.1, hx.2.2.1, fun hl => by
            obtain ⟨a, b, c⟩ := hx.2.2.2 hl
            exact ⟨a, by simpa using b, c, fun k' s' hk' => by omega⟩⟩
        | succ k =>
          obtain ⟨h1, h2, h3, h4⟩ := h k s (by simpa using hk)
          refine ⟨h1, h2, h3, fun hl => ?_⟩
          obtain ⟨a, b, c, d⟩ := h4 hl
          refine ⟨a, by rw [show i + ((k + 1 : Nat) : Int) = i + 1 + k by omega]; exact b, fun hm => c (by simp [hm]), fun k' s' hk' hs' => ?_⟩
          cases k' with
          | zero => simp at hs'; subst hs'; exact fun e => c (by simp [e])
          | succ k' => exact d k' s' (by omega) (by simpa using hs')
      · intro h k s hk
        obtain ⟨h1, h2, h3, h4⟩ := h (k + 1) s (by simpa using hk)
        refine ⟨h1, h2, h3, fun hl => ?_⟩
        obtain ⟨a, b, c, d⟩ := h4 hl
        refine ⟨a, by rw [show i + 1 + (k : Int) = i + ((k + 1 : Nat) : Int) by omega]; exact b, fun hm => ?_, fun k' s' hk' hs' => d (k' + 1) s' (by omega) (by simpa using hs')⟩
        rcases List.mem_cons.1 hm with hm | hm
        · exact d 0 x (by omega) rfl hm.symm
        · exact c hm
def secOk (secs : List Sec) (js : List Jt) (k : Nat) (s : Sec) : Prop :=
  nends s.Kind ≠ 0 ∧ (0 ≤ s.OC ∧ s.OC ≤ 3) ∧ (0 ≤ s.Line ∧ s.Line ≤ 3) ∧ (s.Line ≠ 0 → s.Kind = 0 ∧ cnt js k 1 ≤ 0 ∧ ∀ k' s', k' < k → secs[k']? = some s' → s'.Line ≠ s.Line)
def jtOk (secs : List Sec) (js : List Jt) (j : Jt) : Prop :=
  (0 ≤ j.A ∧ j.A < secs.length) ∧ (0 ≤ j.B ∧ j.B < secs.length) ∧ j.A ≠ j.B ∧ (0 ≤ j.AEnd ∧ j.AEnd < nends (kindAt secs j.A)) ∧ (0 ≤ j.BEnd ∧ j.BEnd < nends (kindAt secs j.B)) ∧ cnt js j.A j.AEnd ≤ 1 ∧ cnt js j.B j.BEnd ≤ 1
theorem spotOk_iff (secs : List Sec) (p : Int × Int) : spotOk secs p = true ↔ (0 ≤ p.1 ∧ p.1 < secs.length) ∧ (0 ≤ p.2 ∧ p.2 < nends (kindAt secs p.1)) := by
  simp only [spotOk, Bool.and_eq_true, decide_eq_true_eq]; omega
theorem mem_spots {js : List Jt} {p : Int × Int} : p ∈ allSpots js ↔ ∃ j ∈ js, p = (j.A, j.AEnd) ∨ p = (j.B, j.BEnd) := by
  simp [allSpots, Jt.spots]
theorem topoOk_iff (secs : List Sec) (js : List Jt) : topoOk secs js = true ↔
    (1 ≤ secs.length ∧ secs.length ≤ 16 ∧ js.length ≤ 24) ∧ (∀ (k : Nat) s, secs[k]? = some s → secOk secs js k s) ∧ ∀ j ∈ js, jtOk secs js j := by
  simp only [topoOk, Bool.and_eq_true, decide_eq_true_eq]
  refine and_congr_right fun _ => ?_
  have hnd : (allSpots js).Nodup ↔ ∀ j ∈ js, cnt js j.A j.AEnd ≤ 1 ∧ cnt js j.B j.BEnd ≤ 1 := by
    rw [List.nodup_iff_count]
    constructor
    · intro h j _
      rw [cnt_count, cnt_count]
      have h1 := h (j.A, j.AEnd)
      have h2 := h (j.B, j.BEnd)
      omega
    · intro h p
      by_cases hp : p ∈ allSpots js
      · obtain ⟨j, hj, rfl | rfl⟩ := mem_spots.1 hp
        · have := (h j hj).1; rw [cnt_count] at this; omega
        · have := (h j hj).2; rw [cnt_count] at this; omega
      · rw [List.count_eq_zero_of_not_mem hp]; omega
  have hsp : (∀ p ∈ allSpots js, spotOk secs p = true) ↔ ∀ j ∈ js, ((0 ≤ j.A ∧ j.A < secs.length) ∧ (0 ≤ j.AEnd ∧ j.AEnd < nends (kindAt secs j.A))) ∧ ((0 ≤ j.B ∧ j.B < secs.length) ∧ (0 ≤ j.BEnd ∧ j.BEnd < nends (kindAt secs j.B))) := by
    constructor
    · intro h j hj
      exact ⟨(spotOk_iff _ _).1 (h (j.A, j.AEnd) (mem_spots.2 ⟨j, hj, .inl rfl⟩)), (spotOk_iff _ _).1 (h (j.B, j.BEnd) (mem_spots.2 ⟨j, hj, .inr rfl⟩))⟩
    · intro h p hp
      obtain ⟨j, hj, rfl | rfl⟩ := mem_spots.1 hp
      · exact (spotOk_iff _ _).2 (h j hj).1
      · exact (spotOk_iff _ _).2 (h j hj).2
  have hcz : ∀ k : Nat, cnt js k 1 ≤ 0 ↔ ((k : Int), (1 : Int)) ∉ (allSpots js).reverse ++ [] := fun k => by
    rw [cnt_count, List.append_nil, List.mem_reverse, ← List.count_eq_zero]; omega
  constructor
  · intro h
    cases hj : jrun secs js [] with
    | none => rw [hj] at h; cases h
    | some tk =>
      rw [hj] at h
      obtain ⟨h1, h2, _, h4, rfl⟩ := (jrun_iff secs js [] tk).1 hj
      have h5 := (srun_iff _ secs 0 []).1 h
      refine ⟨fun k s hk => ?_, fun j hj => ?_⟩
      · obtain ⟨a, b, c, d⟩ := h5 k s hk
        refine ⟨a, b, c, fun hl => ?_⟩
        obtain ⟨d1, d2, _, d4⟩ := d hl
        exact ⟨d1, (hcz k).2 (by simpa using d2), d4⟩
      · obtain ⟨⟨a1, a2⟩, b1, b2⟩ := hsp.1 h1 j hj
        exact ⟨a1, b1, h4 j hj, a2, b2, hnd.1 h2 j hj⟩
  · rintro ⟨h1, h2⟩
    have hj : jrun secs js [] = some ((allSpots js).reverse ++ []) := (jrun_iff secs js [] _).2 ⟨hsp.2 fun j hj => by obtain ⟨a, b, c, d, e, f⟩ := h2 j hj; exact ⟨⟨a, d⟩, b, e⟩, hnd.2 fun j hj => (h2 j hj).2.2.2.2.2, by simp, fun j hj => (h2 j hj).2.2.1, rfl⟩
    rw [hj]
    refine (srun_iff _ secs 0 []).2 fun k s hk => ?_
    obtain ⟨a, b, c, d⟩ := h1 k s hk
    refine ⟨a, b, c, fun hl => ?_⟩
    obtain ⟨d1, d2, d3⟩ := d hl
    exact ⟨d1, by simpa using (hcz k).1 d2, by simp, d3⟩
end Go.Fw
end
section
set_option linter.unusedVariables false
set_option linter.unusedSimpArgs false
namespace Go.Proofs.YtpanpagcgckeoaaGreat
open Go.Fw Go.Proofs Go.RowKit
variable {σ : Store}
abbrev encP (p : Int × Int) : A := .agg [iD p.1, iD p.2]
theorem keys_spot : Keys Tryz.prog t_topo_spot encP := keys_int2 fun a b => by kernel_rfl
theorem keysI : Keys Tryz.prog t_int iA := ⟨fun x => by kernel_rfl, fun x y => by simp [eqA, eqCells, aCells, eqCell]⟩
theorem topo_Check_ok {d1 d2 : D} {secs : List Sec} {js : List Jt} (hs : ∀ s, At Tryz.prog s t_Section d1 (secs.map Sec.enc)) (hj : ∀ s, At Tryz.prog s t_Joint d2 (js.map Jt.enc)) :
    Pure Tryz.prog n_topo_Check [.one d1, .one d2] σ (.a (iA (if topoOk secs js = true then 0 else 6))) := by
  have hls := (hs σ).size
  have hlj := (hj σ).size
  rw [List.length_map] at hls hlj
  refine .of (W_topo_Check d1 d2 σ _ ?_) (flat_i _)
  intro R hR
  refine (hs σ).lenK ((topo_between_ok _ _ _).use ⟨_, rfl, bcnot (fun h => ?_) (fun h => (hj σ).lenK (bcd (fun h2 => ?_) (fun h2 => hR σ ?_)))⟩)
  · simp at h
    exact ⟨by rw [if_neg]; simp [topoOk]; omega, .refl _⟩
  · simp at h2
    exact ⟨by rw [if_neg]; simp [topoOk]; omega, .refl _⟩
  simp at h h2
  have hsize : decide (1 ≤ secs.length ∧ secs.length ≤ 16 ∧ js.length ≤ 24) = true := by simp; omega
  refine newObj_intro fun id σ1 hid _ he hs1 => (hj σ1).lenK ⟨fun n s => ∃ tk f, MapAt Tryz.prog t_topo_spot encP s id f ∧ (∀ z, f z = if z ∈ tk then some (iA 1) else none) ∧ Ext σ s ∧ Rng js (fun r => jrun secs r tk = jrun secs js []) n,
    fun n _ => js.length - n.toNat, ⟨[], _, .new hs1, fun z => by simp, he, .start rfl⟩, ?_⟩
  rintro n s ⟨tk, f, hm, hf, hes, hr⟩
  refine bcd (fun hlt => ?_) (fun hge => ?_)
  · obtain ⟨j, x, rfl, hx, hjl, hF, nx⟩ := hr.step (by simp) hlj hlt
    refine (hj s).load (map_get hx) c_Joint rfl ⟨x.A, x.AEnd, x.B, x.BEnd, rfl, ?_⟩
    refine newObj_intro fun id1 s1 hid1 _ he1 hs2 => ?_
    have hne : id ≠ id1 := fun e => by
      obtain ⟨c, es, h1, _⟩ := hm
      rw [e, hid1] at h1; cases h1
    have hbad : prun secs x.spots tk = none ∨ x.A = x.B → (if topoOk secs js = true then (0 : Int) else 6) = 6 := by
      intro hb
      have : jrun secs js [] = none := by
        rw [← hF, jrun]
        rcases hb with hb | hb
        · rw [hb]
        · cases prun secs x.spots tk with
          | none => rfl
          | some tk' => simp [hb]
      rw [if_neg]; simp [topoOk, this]
    have hloc : ∀ s', s' id1 = .live t_topo_spot [[iD x.A, iD x.AEnd], [iD x.B, iD x.BEnd]] → At Tryz.prog s' t_topo_spot (.osl id1 0 2) (x.spots.map fun p => [iD p.1, iD p.2]) := fun s' h => At.fresh h (by simp) rfl
    refine (hloc s1 hs2).lenK ⟨fun m s' => ∃ tk' f', MapAt Tryz.prog t_topo_spot encP s' id f' ∧ (∀ z, f' z = if z ∈ tk' then some (iA 1) else none) ∧ Ext σ s' ∧ s' id1 = .live t_topo_spot [[iD x.A, iD x.AEnd], [iD x.B, iD x.BEnd]] ∧
      Rng x.spots (fun q => prun secs q tk' = prun secs x.spots tk) m, fun m _ => x.spots.length - m.toNat, ⟨tk, f, hm.same (he1 id (fun e => hne (by
        obtain ⟨c, es, h1, _⟩ := hm
        rw [e] at h1; cases h1))), hf, hes.trans he1, hs2, .start rfl⟩, ?_⟩
    rintro m s' ⟨tk', f', hm', hf', hes', hs2', hr'⟩
    refine bcd (fun hlt' => ?_) (fun hge' => ?_)
    · obtain ⟨i, p, rfl, hp, hil, hG, nx'⟩ := hr'.step (by simp) (by simp [Jt.spots]) hlt'
      refine (hloc s' hs2').load (map_get hp) c_topo_spot rfl ⟨p.1, p.2, rfl, (hs s').lenK ?_⟩
      rw [prun] at hG
      have hw1 : w64 (((secs.map Sec.enc).length : Int) - 1) = (secs.length : Int) - 1 := by rw [List.length_map, w64_id (by omega) (by omega)]
      refine (topo_between_ok _ _ _).use ⟨_, rfl, ?_⟩
      rw [hw1]
      refine bcnot (fun h3 => ?_) (fun h3 => ?_)
      · exact ⟨by rw [hbad (.inl ?_)]; rw [← hG, if_neg]; simp only [spotOk, h3]; simp, hes'⟩
      · have h3' := of_decide_eq_true h3
        obtain ⟨y, hy⟩ := get_of_lt (l := secs) (j := p.1.toNat) (by omega)
        refine (hs s').load (map_get hy) c_Section (by omega) ⟨y.Kind, rfl, (topo_Ends_ok _).use ⟨_, rfl, (topo_between_ok _ _ _).use ⟨_, rfl, ?_⟩⟩⟩
        have hk : kindAt secs p.1 = y.Kind := by simp [kindAt, hy]
        have hn := nends_le y.Kind
        rw [w64_id (n := nends y.Kind - 1) (by omega) (by omega)]
        refine bcnot (fun h4 => ?_) (fun h4 => ?_)
        · exact ⟨by rw [hbad (.inl ?_)]; rw [← hG, if_neg]; simp only [spotOk, hk, h4]; simp, hes'⟩
        · have hok : spotOk secs p = true := by simp only [spotOk, hk, h3, h4]; rfl
          by_cases hin : p ∈ tk'
          · refine hm'.lookI keys_spot p (n := 1) (by rw [hf', if_pos hin]; rfl) (bcd (fun _ => ?_) (fun h => absurd (by decide) h))
            exact ⟨by rw [hbad (.inl ?_)]; rw [← hG, if_neg]; simp [hin], hes'⟩
          · refine hm'.lookI keys_spot p (n := 0) (by rw [hf', if_neg hin]; rfl) (bcd (fun h => absurd h (by decide)) (fun _ => ?_))
            refine hm'.lookI keys_spot p (n := 0) (by rw [hf', if_neg hin]; rfl) ?_
            rw [if_pos ⟨hok, hin⟩] at hG
            refine hm'.bump keys_spot p fun s3 f3 hm3 hf3 hf3' hs3 hs3' => ⟨rfl, ?_⟩
            have hn2 := nx' (fun q => prun secs q (p :: tk') = prun secs x.spots tk) hG
            refine ⟨⟨p :: tk', f3, hm3, fun z => ?_, fun i hi => ?_, ?_, hn2.1⟩, hn2.2⟩
            · by_cases hz : z = p
              · subst hz; rw [hf3']; simp; rfl
              · rw [hf3 z hz, hf']; simp [hz]
            · rw [hs3 i (fun e => ?_)]
              · exact hes' i hi
              · subst e; rw [hid] at hi; exact hi rfl
            · rw [hs3 _ (Ne.symm hne)]; exact hs2'
    · have hG := hr'.done (by simp) hge'
      rw [prun] at hG
      refine bce (fun h5 => ⟨by rw [hbad (.inr h5)], hes'⟩) (fun h5 => ?_)
      rw [jrun, ← hG] at hF
      simp only [if_neg h5] at hF
      have hn2 := nx (fun r => jrun secs r tk' = jrun secs js []) hF
      exact ⟨⟨tk', f', hm', hf', hes', hn2.1⟩, hn2.2⟩
  · have hF := hr.done (by simp) hge
    rw [jrun] at hF
    have htop : topoOk secs js = srun tk secs 0 [] := by simp only [topoOk, hsize, ← hF, Bool.true_and]
    rw [htop]
    clear htop hr hF hR
    refine newObj_intro fun id1 s1 hid1 _ he1 hs2 => ?_
    have hne : id ≠ id1 := fun e => by
      obtain ⟨c, es, h1, _⟩ := hm
      rw [e, hid1] at h1; cases h1
    refine (hs s1).lenK ⟨fun n s' => ∃ ls f2, MapAt Tryz.prog t_int iA s' id1 f2 ∧ (∀ z, z ∉ ls → f2 z = none) ∧ (∀ z, z ∈ ls → ∃ c : Int, 1 ≤ c ∧ c ≤ n ∧ f2 z = some (iA c)) ∧ MapAt Tryz.prog t_topo_spot encP s' id f ∧ Ext σ s' ∧
      Rng secs (fun r => srun tk r n ls = srun tk secs 0 []) n, fun n _ => secs.length - n.toNat, ⟨[], _, .new hs2, fun z _ => rfl, fun z hz => (by cases hz), hm.same (he1 id (fun e => by
        obtain ⟨c, es, h1, _⟩ := hm
        rw [e] at h1; cases h1)), hes.trans he1, .start rfl⟩, ?_⟩
    rintro n s' ⟨ls, f2, hm2, hf2, hf2', hm', hes', hr⟩
    refine bcd (fun hlt => ?_) (fun hge => ?_)
    · obtain ⟨j, x, rfl, hx, hjl, hF, nx⟩ := hr.step (by simp) hls hlt
      refine (hs s').load (map_get hx) c_Section rfl ⟨x.Kind, x.OC, x.Line, rfl, ?_⟩
      intro R1 hR1
      rw [srun] at hF
      have hbad : ∀ hc : (nends x.Kind = 0 ∨ ¬ (0 ≤ x.OC ∧ x.OC ≤ 3) ∨ ¬ (0 ≤ x.Line ∧ x.Line ≤ 3) ∨ x.Line ≠ 0 ∧ (x.Kind ≠ 0 ∨ ((j : Int), 1) ∈ tk ∨ x.Line ∈ ls)), (if srun tk secs 0 [] = true then (0 : Int) else 6) = 6 := by
        intro hc
        rw [if_pos hc] at hF
        rw [← hF]; rfl
      refine (topo_Ends_ok _).use ⟨_, rfl, bce (fun h1 => ⟨by rw [hbad (.inl h1)], hes'⟩) (fun h1 => (topo_between_ok _ _ _).use ⟨_, rfl, bcnot (fun h2 => ⟨by rw [hbad (.inr (.inl (of_decide_eq_false h2)))], hes'⟩) (fun h2 => (topo_between_ok _ _ _).use ⟨_, rfl, bcnot (fun h3 => ⟨by rw [hbad (.inr (.inr (.inl (of_decide_eq_false h3))))], hes'⟩) (fun h3 => ⟨rfl, hR1 s' ?_⟩)⟩)⟩)⟩
      have put : ∀ hc : ¬ (x.Line ≠ 0 ∧ (x.Kind ≠ 0 ∨ ((j : Int), 1) ∈ tk ∨ x.Line ∈ ls)), ∃ c : Int, (f2 x.Line).getD (iA 0) = iA c ∧ 0 ≤ c ∧ c ≤ j ∧ (x.Line ∉ ls → c = 0) ∧ ∀ (c' : Int), c' = c → MPut Tryz.prog t_int s' (.omap id1) (iA x.Line) (iA (w64 (c' + 1))) fun s6 =>
          (∃ ls f2, MapAt Tryz.prog t_int iA s6 id1 f2 ∧ (∀ z, z ∉ ls → f2 z = none) ∧ (∀ z, z ∈ ls → ∃ c : Int, 1 ≤ c ∧ c ≤ w64 ((j : Int) + 1) ∧ f2 z = some (iA c)) ∧ MapAt Tryz.prog t_topo_spot encP s6 id f ∧ Ext σ s6 ∧
            Rng secs (fun r => srun tk r (w64 ((j : Int) + 1)) ls = srun tk secs 0 []) (w64 ((j : Int) + 1))) ∧ secs.length - (w64 ((j : Int) + 1)).toNat < secs.length - (j : Int).toNat := by
        intro hc
        have hgo : ¬ (nends x.Kind = 0 ∨ ¬ (0 ≤ x.OC ∧ x.OC ≤ 3) ∨ ¬ (0 ≤ x.Line ∧ x.Line ≤ 3) ∨ x.Line ≠ 0 ∧ (x.Kind ≠ 0 ∨ ((j : Int), 1) ∈ tk ∨ x.Line ∈ ls)) := by
          rintro (h | h | h | h)
          · exact h1 h
          · exact h (of_decide_eq_true h2)
          · exact h (of_decide_eq_true h3)
          · exact hc h
        rw [if_neg hgo] at hF
        have hcount : ∃ c : Int, (f2 x.Line).getD (iA 0) = iA c ∧ 0 ≤ c ∧ c ≤ j ∧ (x.Line ∉ ls → c = 0) := by
          by_cases hin : x.Line ∈ ls
          · obtain ⟨c, c1, c2, c3⟩ := hf2' _ hin
            exact ⟨c, by rw [c3]; rfl, by omega, c2, fun h => absurd hin h⟩
          · exact ⟨0, by rw [hf2 _ hin]; rfl, by omega, by omega, fun _ => rfl⟩
        obtain ⟨c, k1, k2, k3, k4⟩ := hcount
        refine ⟨c, k1, k2, k3, k4, fun c' hc' => ?_⟩
        subst hc'
        refine hm2.put keysI x.Line fun s6 f6 g1 g2 g3 g4 g5 => ?_
        have hn2 := nx (fun r => srun tk r (w64 ((j : Int) + 1)) (x.Line :: ls) = srun tk secs 0 []) (by rw [w64_succ (by omega)]; simpa using hF)
        have hw : w64 ((j : Int) + 1) = (j : Int) + 1 := w64_id (by omega) (by omega)
        refine ⟨⟨x.Line :: ls, f6, g1, fun z hz => ?_, fun z hz => ?_, hm'.same (g4 _ hne), fun i hi => ?_, hn2.1⟩, hn2.2⟩
        · simp only [List.mem_cons, not_or] at hz
          rw [g2 z hz.1]; exact hf2 z hz.2
        · by_cases hzx : z = x.Line
          · subst hzx
            exact ⟨c' + 1, by omega, by omega, by rw [g3, w64_id (by omega) (by omega)]⟩
          · rw [g2 z hzx]
            obtain ⟨c2, q1, q2, q3⟩ := hf2' z ((List.mem_cons.1 hz).resolve_left hzx)
            exact ⟨c2, q1, by omega, q3⟩
        · rw [g4 i (fun e => ?_)]
          · exact hes' i hi
          · subst e
            have := hes _ hi
            rw [hid1] at this; exact hi this.symm
      refine bcn (fun h4 => bcn (fun h5 => ⟨by rw [hbad (.inr (.inr (.inr ⟨h4, .inl h5⟩)))], hes'⟩) (fun h5 => ?_)) (fun h4 => ?_)
      · by_cases hin : ((j : Int), (1 : Int)) ∈ tk
        · refine hm'.lookI keys_spot ((j : Int), (1 : Int)) (n := 1) (by rw [hf, if_pos hin]; rfl) (bcd (fun _ => ⟨by rw [hbad (.inr (.inr (.inr ⟨h4, .inr (.inl hin)⟩)))], hes'⟩) (fun h => absurd (by decide) h))
        · refine hm'.lookI keys_spot ((j : Int), (1 : Int)) (n := 0) (by rw [hf, if_neg hin]; rfl) (bcd (fun h => absurd h (by decide)) (fun _ => ?_))
          by_cases hin2 : x.Line ∈ ls
          · obtain ⟨c, c1, c2, c3⟩ := hf2' _ hin2
            exact hm2.lookI keysI x.Line (n := c) (by rw [c3]; rfl) (bcd (fun _ => ⟨by rw [hbad (.inr (.inr (.inr ⟨h4, .inr (.inr hin2)⟩)))], hes'⟩) (fun h => absurd (show c > 0 by omega) h))
          · obtain ⟨c, k1, k2, k3, k4, k5⟩ := put (by rintro ⟨_, h | h | h⟩; exact h h5; exact hin h; exact hin2 h)
            have := k4 hin2
            refine hm2.lookI keysI x.Line k1 (bcd (fun h => absurd h (by omega)) (fun _ => hm2.lookI keysI x.Line k1 (k5 c rfl)))
      · obtain ⟨c, k1, k2, k3, k4, k5⟩ := put (fun h => h.1 h4)
        exact hm2.lookI keysI x.Line k1 (k5 c rfl)
    · have hF := hr.done (by simp) hge
      rw [srun] at hF
      exact ⟨by rw [← hF]; rfl, hes'⟩
theorem ref05_Check_ok {d1 d2 : D} {secs : List Sec} {js : List Jt} (hs : At Tryz.prog σ t_Section d1 (secs.map Sec.enc)) (hj : At Tryz.prog σ t_Joint d2 (js.map Jt.enc)) :
    Pure Tryz.prog n_ref05_Check [.one d1, .one d2] σ (.a (iA (if topoOk secs js = true then 0 else 6))) := by
  have hls := hs.size
  have hlj := hj.size
  rw [List.length_map] at hls hlj
  have bad : ¬ ((1 ≤ secs.length ∧ secs.length ≤ 16 ∧ js.length ≤ 24) ∧ (∀ (k : Nat) s, secs[k]? = some s → secOk secs js k s) ∧ ∀ j ∈ js, jtOk secs js j) → (RV.a (iA 6) = .a (iA (if topoOk secs js = true then 0 else 6)) ∧ σ = σ) := fun h => by
    rw [if_neg (fun ht => h ((topoOk_iff _ _).1 ht))]; exact ⟨rfl, rfl⟩
  refine W_ref05_Check d1 d2 σ _ ?_
  intro R hR
  refine hs.lenK (bcd (fun h => ?_) (fun h => hs.lenK (bcd (fun h2 => ?_) (fun h2 => hj.lenK (bcd (fun h3 => ?_) (fun h3 => hR σ ?_))))))
  · rw [List.length_map] at h; exact bad fun hb => by omega
  · rw [List.length_map] at h2; exact bad fun hb => by omega
  · rw [List.length_map] at h3; exact bad fun hb => by omega
  rw [List.length_map] at h h2 h3
  refine hs.lenK ⟨fun n s => s = σ ∧ Rng secs (fun _ => ∀ (k : Nat) x, (k : Int) < n → secs[k]? = some x → secOk secs js k x) n, fun n _ => secs.length - n.toNat, ⟨rfl, .start fun k x hk => by omega⟩, ?_⟩
  rintro n τ ⟨rfl, hr⟩
  refine bcd (fun hlt => ?_) (fun hge => ?_)
  · obtain ⟨i, x, rfl, hx, hil, hF, nx⟩ := hr.step (by simp) hls hlt
    refine hs.load (map_get hx) c_Section rfl ⟨x.Kind, x.OC, x.Line, rfl, ?_⟩
    intro R1 hR1
    have nbad : ¬ secOk secs js i x → _ := fun hn => bad fun hb => hn (hb.2.1 i x hx)
    have hstep : secOk secs js i x → _ := fun hok => nx (fun _ => ∀ (k : Nat) x, (k : Int) < w64 ((i : Int) + 1) → secs[k]? = some x → secOk secs js k x) fun k y hk hy => by
      rw [w64_succ (by omega)] at hk
      by_cases hki : k = i
      · subst hki; rw [hx] at hy; injection hy with hy; subst hy; exact hok
      · exact hF k y (by omega) hy
    refine (ref05_Ends_ok _).use ⟨_, rfl, bce (fun h1 => nbad fun ho => ho.1 h1) (fun h1 => bcd (fun h4 => nbad fun ho => by have := ho.2.1; omega) (fun h4 => bcd (fun h5 => nbad fun ho => by have := ho.2.1; omega)
      (fun h5 => bcd (fun h6 => nbad fun ho => by have := ho.2.2.1; omega) (fun h6 => bcd (fun h7 => nbad fun ho => by have := ho.2.2.1; omega) (fun h7 => ⟨rfl, hR1 _ ?_⟩)))))⟩
    refine bce (fun h8 => ?_) (fun h8 => bcn (fun h9 => nbad fun ho => h9 (ho.2.2.2 h8).1) (fun h9 => (ref05_count_ok _ _ hj).use ⟨_, rfl, bcd (fun h10 => nbad fun ho => by have := (ho.2.2.2 h8).2.1; omega) (fun h10 => ?_)⟩))
    · exact andl rfl (hstep ⟨h1, by omega, by omega, fun hl => absurd h8 hl⟩)
    · refine ⟨fun m s => s = τ ∧ ∃ k : Nat, m = k ∧ k ≤ i ∧ ∀ k' y, k' < k → secs[k']? = some y → y.Line ≠ x.Line, fun m _ => i - m.toNat, ⟨rfl, 0, rfl, by omega, fun k' y hk => by omega⟩, ?_⟩
      rintro m _ ⟨rfl, k, rfl, hki, hk⟩
      refine bcd (fun hlt2 => ?_) (fun hge2 => ?_)
      · obtain ⟨y, hy⟩ := get_of_lt (l := secs) (j := k) (by omega)
        refine hs.load (map_get hy) c_Section rfl ⟨y.Line, rfl, bce (fun h11 => nbad fun ho => (ho.2.2.2 h8).2.2 k y (by omega) hy h11) (fun h11 => ⟨rfl, ?_⟩)⟩
        rw [w64_succ (by omega)]
        exact ⟨⟨rfl, k + 1, rfl, by omega, fun k' z hk' hz => by
          by_cases hkk : k' = k
          · subst hkk; rw [hy] at hz; injection hz with hz; subst hz; exact h11
          · exact hk k' z (by omega) hz⟩, by show i - (((k + 1 : Nat) : Int)).toNat < i - ((k : Int)).toNat; omega⟩
      · refine andl rfl (hstep ⟨h1, by omega, by omega, fun _ => ⟨h9, by omega, fun k' y hk' hy => hk k' y (by omega) hy⟩⟩)
  · have hall : ∀ (k : Nat) x, secs[k]? = some x → secOk secs js k x := fun k x hk => by
      obtain ⟨i, hi, hi2, hF⟩ := hr
      rw [List.length_map] at hge
      have := (List.getElem?_eq_some_iff.1 hk).1
      exact hF k x (by omega) hk
    clear hr
    refine hj.lenK ⟨fun n s => s = τ ∧ Rng js (fun r => (∀ j ∈ r, jtOk secs js j) → ∀ j ∈ js, jtOk secs js j) n, fun n _ => js.length - n.toNat, ⟨rfl, .start fun h => h⟩, ?_⟩
    rintro m _ ⟨rfl, hr⟩
    refine bcd (fun hlt => ?_) (fun hge2 => ?_)
    · obtain ⟨i, x, rfl, hx, hil, hF, nx⟩ := hr.step (by simp) hlj hlt
      have nbad : ¬ jtOk secs js x → _ := fun hn => bad fun hb => hn (hb.2.2 x (List.mem_of_getElem? hx))
      intro R1 hR1
      refine hj.load (map_get hx) c_Joint rfl ⟨x.A, x.AEnd, x.B, x.BEnd, rfl, ?_⟩
      intro R2 hR2
      refine bcd (fun g1 => nbad fun ho => by have := ho.1; omega) (fun g1 => hs.lenK (bcd (fun g2 => nbad fun ho => by have := ho.1; rw [List.length_map] at g2; omega) (fun g2 => bcd (fun g3 => nbad fun ho => by have := ho.2.1; omega)
        (fun g3 => hs.lenK (bcd (fun g4 => nbad fun ho => by have := ho.2.1; rw [List.length_map] at g4; omega) (fun g4 => bce (fun g5 => nbad fun ho => ho.2.2.1 g5) (fun g5 => ⟨rfl, hR2 _ ?_⟩)))))))
      rw [List.length_map] at g2 g4
      obtain ⟨ya, hya⟩ := get_of_lt (l := secs) (j := x.A.toNat) (by omega)
      obtain ⟨yb, hyb⟩ := get_of_lt (l := secs) (j := x.B.toNat) (by omega)
      have ka : kindAt secs x.A = ya.Kind := by simp [kindAt, hya]
      have kb : kindAt secs x.B = yb.Kind := by simp [kindAt, hyb]
      refine bcd (fun g6 => nbad fun ho => by have := ho.2.2.2.1; omega) (fun g6 => hs.load (map_get hya) c_Section (by omega) ⟨ya.Kind, rfl, (ref05_Ends_ok _).use ⟨_, rfl, bcd (fun g7 => nbad fun ho => by have := ho.2.2.2.1; rw [ka] at this; omega) (fun g7 => ?_)⟩⟩)
      refine bcd (fun g8 => nbad fun ho => by have := ho.2.2.2.2.1; omega) (fun g8 => hs.load (map_get hyb) c_Section (by omega) ⟨yb.Kind, rfl, (ref05_Ends_ok _).use ⟨_, rfl, bcd (fun g9 => nbad fun ho => by have := ho.2.2.2.2.1; rw [kb] at this; omega) (fun g9 => ?_)⟩⟩)
      refine (ref05_count_ok _ _ hj).use ⟨_, rfl, bcd (fun g10 => nbad fun ho => by have := ho.2.2.2.2.2.1; omega) (fun g10 => (ref05_count_ok _ _ hj).use ⟨_, rfl, bcd (fun g11 => nbad fun ho => by have := ho.2.2.2.2.2.2; omega) (fun g11 => hR1 _ ?_)⟩)⟩
      refine andl rfl (nx _ fun h => hF fun j hj => ?_)
      rcases List.mem_cons.1 hj with rfl | hj
      · exact ⟨by omega, by omega, g5, by rw [ka]; omega, by rw [kb]; omega, by omega, by omega⟩
      · exact h j hj
    · have hF := hr.done (by simp) hge2
      refine ⟨?_, rfl⟩
      rw [if_pos ((topoOk_iff _ _).2 ⟨by omega, hall, hF (by simp)⟩)]
end Go.Proofs.YtpanpagcgckeoaaGreat
end
section
namespace Go.Fw
structure Rt where
  Entry : Int
  Exit : Int
  Path : List St
  Flank : List Nd
  Overlap : List Int
  Shunt : Bool
structure Cf where
  Secs : List Sec
  Jts : List Jt
  Sigs : List Sg
  Xs : List Int
  Rts : List Rt
  Age : Int
  Brake : Int
  Hold : Int
  Budget : Int
def FnIs {α : Type} (P : Program) (σ : Store) (f : D) (arg : α → A) (l : List α) (p : α → Bool) : Prop :=
  ∃ f1 a b as0' bs, f = .fn f1 a b ∧ capAs a = some as0' ∧ capAs b = some bs ∧ ∀ x ∈ l, DCalls P f1 (as0' ++ [arg x] ++ bs) σ fun r s => r = .a (bA (p x)) ∧ s = σ
def fidx {α : Type} (p : α → Bool) : List α → Nat → Int
  | [], _ => -1
  | x :: r, j => if p x = true then j else fidx p r (j + 1)
theorem fidx_any {α : Type} (p : α → Bool) (l : List α) : decide (fidx p l 0 ≥ 0) = l.any p := by
  have key : ∀ (l : List α) (j : Nat), decide (fidx p l j ≥ 0) = l.any p := by
    intro l
    induction l with
    | nil => intro j; simp [fidx]
    | cons x r ih =>
      intro j
      rw [fidx, List.any_cons]
      by_cases hp : p x = true
      · rw [if_pos hp, hp]; simp
      · rw [if_neg hp, ih]; simp [hp]
  exact key l 0
def geti {α : Type} (l : List α) (i : Int) : Option α := if i < 0 then none else l[i.toNat]?
theorem geti_some {α : Type} {l : List α} {i : Int} {x : α} (h : geti l i = some x) : 0 ≤ i ∧ i < l.length ∧ l[i.toNat]? = some x := by
  unfold geti at h
  split at h
  · cases h
  · have := (List.getElem?_eq_some_iff.1 h).1
    exact ⟨by omega, by omega, h⟩
theorem geti_neg {α : Type} {l : List α} {i : Int} (h : i < 0) : geti l i = none := if_pos h
theorem geti_ge {α : Type} {l : List α} {i : Int} (h : (l.length : Int) ≤ i) : geti l i = none := by
  unfold geti; rw [if_neg (by omega), List.getElem?_eq_none_iff]; omega
def secRV : Option Sec → RV
  | none => .tup [.agg [iD 0, iD 0, iD 0], bA false]
  | some s => .tup [.agg s.enc, bA true]
def sgRV : Option Sg → RV
  | none => .tup [.agg [iD 0, iD 0], bA false]
  | some s => .tup [.agg s.enc, bA true]
def Cf.approach (c : Cf) (r : Rt) : Int := ((geti c.Sigs r.Entry).map Sg.Sec).getD (-1)
def Cf.Approach (c : Cf) (i : Int) : Int := ((geti c.Rts i).map c.approach).getD (-1)
def hasSec (path : List St) (s : Int) : Bool := path.any fun x => x.Sec == s
def RtAt (P : Program) (tS tN tI : TypeId) (σ : Store) (cs : List D) (r : Rt) : Prop :=
  ∃ d1 d2 d3, cs = [iD r.Entry, iD r.Exit, d1, d2, d3, .bool r.Shunt] ∧ At P σ tS d1 (r.Path.map St.enc) ∧ At P σ tN d2 (r.Flank.map Nd.enc) ∧ At P σ tI d3 (r.Overlap.map encI)
def RtsAt (P : Program) (tR tS tN tI : TypeId) (σ : Store) (d : D) (l : List Rt) : Prop :=
  ∃ rows, At P σ tR d rows ∧ rows.length = l.length ∧ ∀ (i : Nat) row r, rows[i]? = some row → l[i]? = some r → RtAt P tS tN tI σ row r
def flankStep (c : Cf) (approach : Int) (path : List St) (s : St) (out : List Nd) (e : Int) : List Nd :=
  if e = s.In ∨ e = s.Out then out else
  match nxt c.Jts s.Sec e with
  | none => out
  | some (q, f) => match geti c.Secs q with
    | none => out
    | some y => if y.Kind = 1 ∧ (1 ≤ f ∧ f ≤ 2) ∧ q ≠ approach ∧ hasSec path q = false ∧ (out.any fun n => n.Sec == q) = false then out ++ [⟨q, 3 - f⟩] else out
def flankEnds (c : Cf) (approach : Int) (path : List St) (s : St) : Nat → Int → List Nd → List Nd
  | 0, _, out => out
  | n + 1, e, out => flankEnds c approach path s n (e + 1) (flankStep c approach path s out e)
def flankRun (c : Cf) (approach : Int) (path : List St) : List St → List Nd → List Nd
  | [], out => out
  | s :: r, out => flankRun c approach path r (match geti c.Secs s.Sec with
    | none => out
    | some x => flankEnds c approach path s (nends x.Kind).toNat 0 out)
def Cf.flank (c : Cf) (approach : Int) (path : List St) : List Nd := flankRun c approach path path []
theorem flankStep_len (c : Cf) (a : Int) (p : List St) (s : St) (out : List Nd) (e : Int) : out.length ≤ (flankStep c a p s out e).length ∧ (flankStep c a p s out e).length ≤ out.length + 1 := by
  unfold flankStep
  split
  · omega
  · split
    · omega
    · split
      · omega
      · split <;> simp
theorem flankEnds_len (c : Cf) (a : Int) (p : List St) (s : St) : ∀ (n : Nat) (e : Int) (out : List Nd), out.length ≤ (flankEnds c a p s n e out).length ∧ (flankEnds c a p s n e out).length ≤ out.length + n
  | 0, e, out => by simp [flankEnds]
  | n + 1, e, out => by
    have h1 := flankStep_len c a p s out e
    have h2 := flankEnds_len c a p s n (e + 1) (flankStep c a p s out e)
    rw [flankEnds]; omega
theorem flankRun_len (c : Cf) (a : Int) (p : List St) : ∀ (l : List St) (out : List Nd), out.length ≤ (flankRun c a p l out).length ∧ (flankRun c a p l out).length ≤ out.length + 4 * l.length
  | [], out => by simp [flankRun]
  | s :: r, out => by
    rw [flankRun]
    cases hg : geti c.Secs s.Sec with
    | none => have := flankRun_len c a p r out; simp only [List.length_cons]; omega
    | some x =>
      have h1 := flankEnds_len c a p s (nends x.Kind).toNat 0 out
      have h2 := flankRun_len c a p r (flankEnds c a p s (nends x.Kind).toNat 0 out)
      have h3 := nends_le x.Kind
      simp only [List.length_cons]
      omega
def Cf.overlap (c : Cf) (r : Rt) : List Int :=
  if r.Shunt = true then [] else
  match geti c.Sigs r.Exit with
  | none => []
  | some x => match nxt c.Jts x.Sec x.End_ with
    | none => []
    | some (q, _) => match geti c.Secs q with
      | none => []
      | some y => if y.Line = 0 ∧ hasSec r.Path q = false ∧ q ≠ c.approach r then [q] else []
def sgrun (js : List Jt) : List Sg → List Sg → Bool
  | [], _ => true
  | x :: r, seen => if (nxt js x.Sec x.End_).isSome = true ∧ x ∉ seen then sgrun js r (x :: seen) else false
def xrun (secs : List Sec) : List Int → List Int → Bool
  | [], _ => true
  | x :: r, seen => match geti secs x with
    | none => false
    | some s => if s.Line = 0 ∧ x ∉ seen then xrun secs r (x :: seen) else false
def Cf.sigsOk (c : Cf) : Bool := sgrun c.Jts c.Sigs [] && decide (c.Sigs.length ≤ 12)
def Cf.xsOk (c : Cf) : Bool := xrun c.Secs c.Xs [] && decide (c.Xs.length ≤ 4)
end Go.Fw
end
section
set_option linter.unusedVariables false
set_option linter.unusedSimpArgs false
namespace Go.Proofs.YtpanpagcgckeoaaGreat
open Go.Fw Go.Proofs Go.RowKit
variable {σ : Store}
theorem IndexFunc_Step_ok {d f : D} {l : List St} {p : St → Bool} (h : At Tryz.prog σ t_Step d (l.map St.enc)) (hf : FnIs Tryz.prog σ f (fun x : St => .agg x.enc) l p) :
    Pure Tryz.prog n_slices_IndexFunc_Step [.one d, .one f] σ (.a (iA (fidx p l 0))) := by
  have hl := h.size
  rw [List.length_map] at hl
  obtain ⟨f1, a, b, as0', bs, rfl, ha, hb, hf⟩ := hf
  refine W_slices_IndexFunc_Step d _ σ _ (h.lenK ⟨fun n s => s = σ ∧ Rng l (fun r => ∀ j : Nat, n = j → fidx p r j = fidx p l 0) n, fun n _ => l.length - n.toNat, ⟨rfl, .start fun j hj => by cases j with | zero => rfl | succ j => omega⟩, ?_⟩)
  rintro n τ ⟨rfl, hr⟩
  refine bcd (fun hlt => ?_) (fun hge => ?_)
  · obtain ⟨j, x, rfl, hx, hj, hF, nx⟩ := hr.step (by simp) hl hlt
    refine h.load (map_get hx) c_Step rfl ⟨x.Sec, x.In, x.Out, rfl, f1, a, b, as0', bs, rfl, ha, hb, ?_⟩
    have hF := hF j rfl
    rw [fidx] at hF
    refine (hf x (List.mem_of_getElem? hx)).mono ?_
    rintro r s ⟨rfl, rfl⟩
    refine ⟨p x, rfl, bc (fun hp => ?_) (fun hp => ?_)⟩
    · rw [if_pos hp] at hF; exact ⟨by rw [← hF], rfl⟩
    · refine andl rfl (nx _ fun j' hj' => ?_)
      rw [w64_succ (by omega)] at hj'
      have : j' = j + 1 := by omega
      subst this
      rw [if_neg (by rw [hp]; simp)] at hF
      exact hF
  · refine ⟨?_, rfl⟩
    obtain ⟨j, hj, hj2, hF⟩ := hr
    have hF := hF j hj
    rw [List.length_map] at hge
    rw [drop_end (by omega)] at hF
    rw [← hF]; rfl
theorem ContainsFunc_Step_ok {d f : D} {l : List St} {p : St → Bool} (h : At Tryz.prog σ t_Step d (l.map St.enc)) (hf : FnIs Tryz.prog σ f (fun x : St => .agg x.enc) l p) :
    Pure Tryz.prog n_slices_ContainsFunc_Step [.one d, .one f] σ (.a (bA (l.any p))) :=
  W_slices_ContainsFunc_Step d f σ _ ((IndexFunc_Step_ok h hf).use ⟨_, rfl, by rw [fidx_any]; exact ⟨rfl, rfl⟩⟩)
theorem IndexFunc_Need_ok {d f : D} {l : List Nd} {p : Nd → Bool} (h : At Tryz.prog σ t_Need d (l.map Nd.enc)) (hf : FnIs Tryz.prog σ f (fun x : Nd => .agg x.enc) l p) :
    Pure Tryz.prog n_slices_IndexFunc_Need [.one d, .one f] σ (.a (iA (fidx p l 0))) := by
  have hl := h.size
  rw [List.length_map] at hl
  obtain ⟨f1, a, b, as0', bs, rfl, ha, hb, hf⟩ := hf
  refine W_slices_IndexFunc_Need d _ σ _ (h.lenK ⟨fun n s => s = σ ∧ Rng l (fun r => ∀ j : Nat, n = j → fidx p r j = fidx p l 0) n, fun n _ => l.length - n.toNat, ⟨rfl, .start fun j hj => by cases j with | zero => rfl | succ j => omega⟩, ?_⟩)
  rintro n τ ⟨rfl, hr⟩
  refine bcd (fun hlt => ?_) (fun hge => ?_)
  · obtain ⟨j, x, rfl, hx, hj, hF, nx⟩ := hr.step (by simp) hl hlt
    refine h.load (map_get hx) c_Need rfl ⟨x.Sec, x.Pos, rfl, f1, a, b, as0', bs, rfl, ha, hb, ?_⟩
    have hF := hF j rfl
    rw [fidx] at hF
    refine (hf x (List.mem_of_getElem? hx)).mono ?_
    rintro r s ⟨rfl, rfl⟩
    refine ⟨p x, rfl, bc (fun hp => ?_) (fun hp => ?_)⟩
    · rw [if_pos hp] at hF; exact ⟨by rw [← hF], rfl⟩
    · refine andl rfl (nx _ fun j' hj' => ?_)
      rw [w64_succ (by omega)] at hj'
      have : j' = j + 1 := by omega
      subst this
      rw [if_neg (by rw [hp]; simp)] at hF
      exact hF
  · refine ⟨?_, rfl⟩
    obtain ⟨j, hj, hj2, hF⟩ := hr
    have hF := hF j hj
    rw [List.length_map] at hge
    rw [drop_end (by omega)] at hF
    rw [← hF]; rfl
theorem ContainsFunc_Need_ok {d f : D} {l : List Nd} {p : Nd → Bool} (h : At Tryz.prog σ t_Need d (l.map Nd.enc)) (hf : FnIs Tryz.prog σ f (fun x : Nd => .agg x.enc) l p) :
    Pure Tryz.prog n_slices_ContainsFunc_Need [.one d, .one f] σ (.a (bA (l.any p))) :=
  W_slices_ContainsFunc_Need d f σ _ ((IndexFunc_Need_ok h hf).use ⟨_, rfl, by rw [fidx_any]; exact ⟨rfl, rfl⟩⟩)
theorem Index_Signal_ok {d : D} {l : List Sg} (v : Sg) (h : At Tryz.prog σ t_Signal d (l.map Sg.enc)) : Pure Tryz.prog n_slices_Index_Signal [.one d, .agg v.enc] σ (.a (iA (fidx (fun x => decide (v = x)) l 0))) := by
  have hl := h.size
  rw [List.length_map] at hl
  refine W_slices_Index_Signal d v.Sec v.End_ σ _ (h.lenK ⟨fun n s => s = σ ∧ Rng l (fun r => ∀ j : Nat, n = j → fidx (fun x => decide (v = x)) r j = fidx (fun x => decide (v = x)) l 0) n, fun n _ => l.length - n.toNat, ⟨rfl, .start fun j hj => by cases j with | zero => rfl | succ j => omega⟩, ?_⟩)
  rintro n τ ⟨rfl, hr⟩
  refine bcd (fun hlt => ?_) (fun hge => ?_)
  · obtain ⟨j, x, rfl, hx, hj, hF, nx⟩ := hr.step (by simp) hl hlt
    refine h.load (map_get hx) c_Signal rfl ⟨x.Sec, x.End_, rfl, ?_⟩
    have hF := hF j rfl
    rw [fidx] at hF
    have hd : ((v.Sec == x.Sec) && (v.End_ == x.End_)) = decide (v = x) := by
      rw [Bool.eq_iff_iff]; cases v; cases x; simp
    rw [hd]
    refine bc (fun hp => ?_) (fun hp => ?_)
    · rw [if_pos hp] at hF; exact ⟨by rw [← hF], rfl⟩
    · refine andl rfl (nx _ fun j' hj' => ?_)
      rw [w64_succ (by omega)] at hj'
      have : j' = j + 1 := by omega
      subst this
      rw [if_neg (by rw [hp]; simp)] at hF
      exact hF
  · refine ⟨?_, rfl⟩
    obtain ⟨j, hj, hj2, hF⟩ := hr
    have hF := hF j hj
    rw [List.length_map] at hge
    rw [drop_end (by omega)] at hF
    rw [← hF]; rfl
theorem Contains_Signal_ok {d : D} {l : List Sg} (v : Sg) (h : At Tryz.prog σ t_Signal d (l.map Sg.enc)) : Pure Tryz.prog n_slices_Contains_Signal [.one d, .agg v.enc] σ (.a (bA (l.any fun x => decide (v = x)))) :=
  W_slices_Contains_Signal d v.Sec v.End_ σ _ ((Index_Signal_ok v h).use ⟨_, rfl, by rw [fidx_any]; exact ⟨rfl, rfl⟩⟩)
theorem Equal_Need_ok {d1 d2 : D} {l1 l2 : List Nd} (h1 : At Tryz.prog σ t_Need d1 (l1.map Nd.enc)) (h2 : At Tryz.prog σ t_Need d2 (l2.map Nd.enc)) : Pure Tryz.prog n_slices_Equal_Need [.one d1, .one d2] σ (.a (bA (decide (l1 = l2)))) := by
  have hl1 := h1.size
  have hl2 := h2.size
  rw [List.length_map] at hl1 hl2
  refine W_slices_Equal_Need d1 d2 σ _ (h1.lenK (h2.lenK (bcn (fun hne => ?_) (fun heq => h1.lenK ?_))))
  · rw [List.length_map, List.length_map] at hne
    exact ⟨by rw [decide_eq_false (fun e => hne (by rw [e]))], rfl⟩
  rw [List.length_map, List.length_map] at heq
  refine ⟨fun n s => s = σ ∧ Rng l1 (fun r => ∀ j : Nat, n = j → (r = l2.drop j ↔ l1 = l2)) n, fun n _ => l1.length - n.toNat, ⟨rfl, .start fun j hj => by cases j with | zero => simp | succ j => omega⟩, ?_⟩
  rintro n τ ⟨rfl, hr⟩
  refine bcd (fun hlt => ?_) (fun hge => ?_)
  · obtain ⟨j, x, rfl, hx, hj, hF, nx⟩ := hr.step (by simp) hl1 hlt
    obtain ⟨y, hy⟩ := get_of_lt (l := l2) (j := j) (by omega)
    refine h1.load (map_get hx) c_Need rfl ⟨x.Sec, x.Pos, rfl, h2.load (map_get hy) c_Need rfl ⟨y.Sec, y.Pos, rfl, ?_⟩⟩
    have hF := hF j rfl
    rw [drop_get hy, List.cons.injEq] at hF
    have hd : ((x.Sec == y.Sec) && (x.Pos == y.Pos)) = decide (x = y) := by
      rw [Bool.eq_iff_iff]; cases x; cases y; simp
    rw [hd]
    refine bcnot (fun hp => ?_) (fun hp => ?_)
    · exact ⟨by rw [decide_eq_false (fun e => of_decide_eq_false hp (hF.2 e).1)], rfl⟩
    · refine andl rfl (nx _ fun j' hj' => ?_)
      rw [w64_succ (by omega)] at hj'
      have : j' = j + 1 := by omega
      subst this
      rw [← hF]; exact ⟨fun h => ⟨of_decide_eq_true hp, h⟩, fun h => h.2⟩
  · obtain ⟨j, hj, hj2, hF⟩ := hr
    rw [List.length_map] at hge
    have hF := hF j hj
    rw [drop_end (by omega), drop_end (by omega)] at hF
    exact ⟨by rw [decide_eq_true (hF.1 rfl)], rfl⟩
theorem Equal_int_ok {d1 d2 : D} {l1 l2 : List Int} (h1 : At Tryz.prog σ t_int d1 (l1.map Go.Fw.encI)) (h2 : At Tryz.prog σ t_int d2 (l2.map Go.Fw.encI)) : Pure Tryz.prog n_slices_Equal_int [.one d1, .one d2] σ (.a (bA (decide (l1 = l2)))) := by
  have hl1 := h1.size
  have hl2 := h2.size
  rw [List.length_map] at hl1 hl2
  refine W_slices_Equal_int d1 d2 σ _ (h1.lenK (h2.lenK (bcn (fun hne => ?_) (fun heq => h1.lenK ?_))))
  · rw [List.length_map, List.length_map] at hne
    exact ⟨by rw [decide_eq_false (fun e => hne (by rw [e]))], rfl⟩
  rw [List.length_map, List.length_map] at heq
  refine ⟨fun n s => s = σ ∧ Rng l1 (fun r => ∀ j : Nat, n = j → (r = l2.drop j ↔ l1 = l2)) n, fun n _ => l1.length - n.toNat, ⟨rfl, .start fun j hj => by cases j with | zero => simp | succ j => omega⟩, ?_⟩
  rintro n τ ⟨rfl, hr⟩
  refine bcd (fun hlt => ?_) (fun hge => ?_)
  · obtain ⟨j, x, rfl, hx, hj, hF, nx⟩ := hr.step (by simp) hl1 hlt
    obtain ⟨y, hy⟩ := get_of_lt (l := l2) (j := j) (by omega)
    refine h1.load (map_get hx) c_int rfl ⟨x, rfl, h2.load (map_get hy) c_int rfl ⟨y, rfl, ?_⟩⟩
    have hF := hF j rfl
    rw [drop_get hy, List.cons.injEq] at hF
    refine bcn (fun hp => ?_) (fun hp => ?_)
    · exact ⟨by rw [decide_eq_false (fun e => hp (hF.2 e).1)], rfl⟩
    · refine andl rfl (nx _ fun j' hj' => ?_)
      rw [w64_succ (by omega)] at hj'
      have : j' = j + 1 := by omega
      subst this
      rw [← hF]; exact ⟨fun h => ⟨hp, h⟩, fun h => h.2⟩
  · obtain ⟨j, hj, hj2, hF⟩ := hr
    rw [List.length_map] at hge
    have hF := hF j hj
    rw [drop_end (by omega), drop_end (by omega)] at hF
    exact ⟨by rw [decide_eq_true (hF.1 rfl)], rfl⟩
end Go.Proofs.YtpanpagcgckeoaaGreat
end
section
set_option linter.unusedVariables false
set_option linter.unusedSimpArgs false
namespace Go.Proofs.YtpanpagcgckeoaaGreat
open Go.Fw Go.Proofs Go.RowKit
variable {σ : Store}
structure CfAt (σ : Store) (c0 c1 c2 c3 c4 : D) (c : Cf) : Prop where
  secs : At Tryz.prog σ t_Section c0 (c.Secs.map Sec.enc)
  jts : At Tryz.prog σ t_Joint c1 (c.Jts.map Jt.enc)
  sigs : At Tryz.prog σ t_Signal c2 (c.Sigs.map Sg.enc)
  xs : At Tryz.prog σ t_int c3 (c.Xs.map Go.Fw.encI)
  rts : RtsAt Tryz.prog t_Route t_Step t_Need t_int σ c4 c.Rts
abbrev cfA (c0 c1 c2 c3 c4 : D) (c : Cf) : A := .agg [c0, c1, c2, c3, c4, iD c.Age, iD c.Brake, iD c.Hold, iD c.Budget]
abbrev rtA (d1 d2 d3 : D) (r : Rt) : A := .agg [iD r.Entry, iD r.Exit, d1, d2, d3, .bool r.Shunt]
section
variable {c0 c1 c2 c3 c4 : D} {c : Cf} (h : CfAt σ c0 c1 c2 c3 c4 c)
include h
theorem plan_section_ok (s : Int) : Pure Tryz.prog n_conf_plan_section [cfA c0 c1 c2 c3 c4 c, iA s] σ (secRV (geti c.Secs s)) := by
  refine W_conf_plan_section _ _ _ _ _ _ _ _ _ s σ _ (bcd (fun h1 => ⟨by rw [geti_neg h1]; rfl, rfl⟩) (fun h1 => h.secs.lenK (bcd (fun h2 => ⟨by rw [List.length_map] at h2; rw [geti_ge h2]; rfl, rfl⟩) (fun h2 => ?_))))
  rw [List.length_map] at h2
  obtain ⟨x, hx⟩ := get_of_lt (l := c.Secs) (j := s.toNat) (by omega)
  refine h.secs.load (map_get hx) c_Section (by omega) ⟨x.Kind, x.OC, x.Line, rfl, ?_, rfl⟩
  have : geti c.Secs s = some x := by unfold geti; rw [if_neg h1, hx]
  rw [this]; rfl
theorem plan_signal_ok (s : Int) : Pure Tryz.prog n_conf_plan_signal [cfA c0 c1 c2 c3 c4 c, iA s] σ (sgRV (geti c.Sigs s)) := by
  refine W_conf_plan_signal _ _ _ _ _ _ _ _ _ s σ _ (bcd (fun h1 => ⟨by rw [geti_neg h1]; rfl, rfl⟩) (fun h1 => h.sigs.lenK (bcd (fun h2 => ⟨by rw [List.length_map] at h2; rw [geti_ge h2]; rfl, rfl⟩) (fun h2 => ?_))))
  rw [List.length_map] at h2
  obtain ⟨x, hx⟩ := get_of_lt (l := c.Sigs) (j := s.toNat) (by omega)
  refine h.sigs.load (map_get hx) c_Signal (by omega) ⟨x.Sec, x.End_, rfl, ?_, rfl⟩
  have : geti c.Sigs s = some x := by unfold geti; rw [if_neg h1, hx]
  rw [this]; rfl
theorem plan_approach_ok (r : Rt) (d1 d2 d3 : D) : Pure Tryz.prog n_conf_plan_approach [cfA c0 c1 c2 c3 c4 c, rtA d1 d2 d3 r] σ (.a (iA (c.approach r))) := by
  refine W_conf_plan_approach _ _ _ _ _ _ _ _ _ _ _ d1 d2 d3 _ σ _ ((plan_signal_ok h r.Entry).use ?_)
  cases hg : geti c.Sigs r.Entry with
  | none => exact ⟨0, 0, false, rfl, by simp [Cf.approach, hg], rfl⟩
  | some x => exact ⟨x.Sec, x.End_, true, rfl, by simp [Cf.approach, hg], rfl⟩
theorem rts_get {i : Nat} {r : Rt} (hr : c.Rts[i]? = some r) : ∃ rows, At Tryz.prog σ t_Route c4 rows ∧ rows.length = c.Rts.length ∧ ∃ d1 d2 d3, rows[i]? = some [iD r.Entry, iD r.Exit, d1, d2, d3, .bool r.Shunt] ∧ At Tryz.prog σ t_Step d1 (r.Path.map St.enc) ∧ At Tryz.prog σ t_Need d2 (r.Flank.map Nd.enc) ∧ At Tryz.prog σ t_int d3 (r.Overlap.map Go.Fw.encI) := by
  obtain ⟨rows, h1, h2, h3⟩ := h.rts
  have hlt := (List.getElem?_eq_some_iff.1 hr).1
  obtain ⟨row, hrow⟩ := get_of_lt (l := rows) (j := i) (by omega)
  obtain ⟨d1, d2, d3, rfl, q1, q2, q3⟩ := h3 i row r hrow hr
  exact ⟨rows, h1, h2, d1, d2, d3, hrow, q1, q2, q3⟩
theorem rts_len : ∃ rows, At Tryz.prog σ t_Route c4 rows ∧ rows.length = c.Rts.length := by
  obtain ⟨rows, h1, h2, h3⟩ := h.rts
  exact ⟨rows, h1, h2⟩
theorem conf_Approach_ok (i : Int) : Pure Tryz.prog n_conf_Approach [cfA c0 c1 c2 c3 c4 c, iA i] σ (.a (iA (c.Approach i))) := by
  obtain ⟨rows, hr, hl⟩ := rts_len h
  refine W_conf_Approach _ _ _ _ _ _ _ _ _ i σ _ (bcd (fun h1 => ⟨by rw [Cf.Approach, geti_neg h1]; rfl, rfl⟩) (fun h1 => hr.lenK (bcd (fun h2 => ⟨by rw [hl] at h2; rw [Cf.Approach, geti_ge h2]; rfl, rfl⟩) (fun h2 => ?_))))
  rw [hl] at h2
  obtain ⟨x, hx⟩ := get_of_lt (l := c.Rts) (j := i.toNat) (by omega)
  obtain ⟨rows', hr', _, d1, d2, d3, hrow, _⟩ := rts_get h hx
  refine hr'.load hrow c_Route (by omega) ⟨_, _, d1, d2, d3, _, rfl, (plan_approach_ok h x d1 d2 d3).use ⟨_, rfl, ?_, rfl⟩⟩
  have : geti c.Rts i = some x := by unfold geti; rw [if_neg h1, hx]
  rw [Cf.Approach, this]; rfl
end
theorem cap_fn {α : Type} {f1 : FuncId} {id : Nat} {t : TypeId} {n : Int} {arg : α → A} {l : List α} {p : α → Bool} (hs : σ id = .live t [[iD n]])
    (hf : ∀ x ∈ l, DCalls Tryz.prog f1 [arg x, .one (.el (.osl id 0 1) 0 0)] σ fun r s => r = .a (bA (p x)) ∧ s = σ) : FnIs Tryz.prog σ (.fn f1 [] [(false, [.el (.osl id 0 1) 0 0])]) arg l p :=
  ⟨f1, _, _, [], [.one (.el (.osl id 0 1) 0 0)], rfl, rfl, rfl, hf⟩
theorem box_row {id : Nat} {t : TypeId} {row : List D} (hs : σ id = .live t [row]) : Row σ (.osl id 0 1) 0 row := ⟨by omega, t, [row], hs, rfl⟩
theorem conf_has_ok {d : D} {path : List St} (s : Int) (h : At Tryz.prog σ t_Step d (path.map St.enc)) : Pure Tryz.prog n_conf_has [.one d, iA s] σ (.a (bA (hasSec path s))) := by
  refine .of (W_conf_has d s σ _ (newObj_intro fun id σ1 hid _ he hs => ?_)) (flat_b _)
  refine (ContainsFunc_Step_ok (p := fun x => x.Sec == s) (h.ext he) (cap_fn hs fun x _ => ?_)).use ⟨_, rfl, rfl, he⟩
  exact W_conf_has_1 x.Sec x.In x.Out _ σ1 _ ⟨_, _, _, rfl, _, box_row hs, s, rfl, rfl, rfl⟩
theorem hasNeed_ok {d : D} {l : List Nd} {id : Nat} {q : Int} (h : At Tryz.prog σ t_Need d (l.map Nd.enc)) (hs : σ id = .live t_int [[iD q]]) :
    Pure Tryz.prog n_slices_ContainsFunc_Need [.one d, .one (.fn n_conf_plan_flank_1 [] [(false, [.el (.osl id 0 1) 0 0])])] σ (.a (bA (l.any fun n => n.Sec == q))) :=
  ContainsFunc_Need_ok (p := fun x => x.Sec == q) h (cap_fn hs fun x _ => W_conf_plan_flank_1 x.Sec x.Pos _ σ _ ⟨_, _, _, rfl, _, box_row hs, q, rfl, rfl, rfl⟩)
end Go.Proofs.YtpanpagcgckeoaaGreat
end
section
namespace Go.Fw
theorem opt2_ex (o : Option (Int × Int)) {K : Int → Int → Bool → Prop} (h : K (o.getD (0, 0)).1 (o.getD (0, 0)).2 o.isSome) : ∃ n m : Int, ∃ b : Bool, opt2 o = .tup [iA n, iA m, bA b] ∧ K n m b := by
  cases o with
  | none => exact ⟨0, 0, false, rfl, h⟩
  | some p => exact ⟨p.1, p.2, true, rfl, h⟩
theorem opt1_ex (o : Option Int) {K : Int → Bool → Prop} (h : K (o.getD 0) o.isSome) : ∃ n : Int, ∃ b : Bool, opt1 o = .tup [iA n, bA b] ∧ K n b := by
  cases o with
  | none => exact ⟨0, false, rfl, h⟩
  | some p => exact ⟨p, true, rfl, h⟩
theorem sec_ex (o : Option Sec) {K : Int → Int → Int → Bool → Prop} (h : K (o.getD ⟨0, 0, 0⟩).Kind (o.getD ⟨0, 0, 0⟩).OC (o.getD ⟨0, 0, 0⟩).Line o.isSome) : ∃ n m k : Int, ∃ b : Bool, secRV o = .tup [.agg [iD n, iD m, iD k], bA b] ∧ K n m k b := by
  cases o with
  | none => exact ⟨0, 0, 0, false, rfl, h⟩
  | some p => exact ⟨p.Kind, p.OC, p.Line, true, rfl, h⟩
theorem sg_ex (o : Option Sg) {K : Int → Int → Bool → Prop} (h : K (o.getD ⟨0, 0⟩).Sec (o.getD ⟨0, 0⟩).End_ o.isSome) : ∃ n m : Int, ∃ b : Bool, sgRV o = .tup [.agg [iD n, iD m], bA b] ∧ K n m b := by
  cases o with
  | none => exact ⟨0, 0, false, rfl, h⟩
  | some p => exact ⟨p.Sec, p.End_, true, rfl, h⟩
def pstep (c : Cf) (r : Rt) (ex : Option Sg) (a : Sg) (s : St) (last : Bool) (seen : List Int) : Bool :=
  match nxt c.Jts a.Sec a.End_ with
  | none => false
  | some (q, i) => decide (q = s.Sec) && decide (i = s.In) && (wpos (wayL ((geti c.Secs q).getD ⟨0, 0, 0⟩).Kind) s.In s.Out).isSome && decide (q ∉ seen) &&
      (!(c.Sigs.any fun x => decide (⟨s.Sec, s.Out⟩ = x)) || (last && decide (ex = some ⟨s.Sec, s.Out⟩))) && !(r.Shunt && decide (((geti c.Secs q).getD ⟨0, 0, 0⟩).Line ≠ 0))
def prunA (c : Cf) (r : Rt) (ex : Option Sg) : List St → Sg → List Int → Bool
  | [], a, _ => match ex with
    | some x => decide (a = x)
    | none => !(nxt c.Jts a.Sec a.End_).isSome
  | s :: rest, a, seen => pstep c r ex a s rest.isEmpty seen && prunA c r ex rest ⟨s.Sec, s.Out⟩ (s.Sec :: seen)
def Cf.path (c : Cf) (r : Rt) : Bool :=
  match geti c.Sigs r.Entry with
  | none => false
  | some a => (decide (r.Exit = -1) || (geti c.Sigs r.Exit).isSome) && decide (1 ≤ r.Path.length ∧ r.Path.length ≤ 8) && prunA c r (geti c.Sigs r.Exit) r.Path a [a.Sec]
def Cf.route (c : Cf) (r : Rt) : Int :=
  if c.path r = false then 9 else if r.Flank ≠ c.flank (c.approach r) r.Path then 10 else if r.Overlap ≠ c.overlap r then 11 else 0
def Cf.routes (c : Cf) : List Rt → Int
  | [] => 0
  | r :: l => if c.route r ≠ 0 then c.route r else c.routes l
def Cf.timing (c : Cf) : Bool :=
  decide (1 ≤ c.Age ∧ c.Age ≤ 8) && decide (0 ≤ c.Brake ∧ c.Brake ≤ 8) && decide (c.Age + c.Brake + 1 ≤ c.Hold ∧ c.Hold ≤ 40) && decide (1 ≤ c.Budget ∧ c.Budget ≤ 1000000)
def Cf.check (c : Cf) : Int :=
  if topoOk c.Secs c.Jts = false then 6 else if c.sigsOk = false then 7 else if c.xsOk = false then 8 else if c.Rts.length > 12 then 9
  else if c.routes c.Rts ≠ 0 then c.routes c.Rts else if c.timing = true then 0 else 12
theorem Rows.det {P : Program} {s s' : Store} {el : TypeId} {d : D} {rs rs' : List (List D)} (h : Rows P s el d rs) (h' : Rows P s' el d rs') (hd : ∀ id i len, d ≠ .osl id i len) : rs = rs' := by
  cases d <;> simp only [Rows] at h h' <;> try exact h.elim
  · rw [h, h']
  · rw [h, h']
  · rw [h.1, h'.1]
  · exact absurd rfl (hd _ _ _)
theorem froz_plain {P : Program} {el : TypeId} {d : D} (h : ∀ s, ∃ rs, Rows P s el d rs) : ∀ id i len, d ≠ .osl id i len := by
  rintro id i len rfl
  obtain ⟨rs, t, rows, h1, _⟩ := h fun _ => .free
  cases h1
theorem rts_froz {P : Program} {tR tS tN tI : TypeId} {d : D} {l : List Rt} (h : ∀ s, RtsAt P tR tS tN tI s d l) :
    ∃ rows, (∀ s, At P s tR d rows) ∧ rows.length = l.length ∧ ∀ (i : Nat) row r, rows[i]? = some row → l[i]? = some r →
      ∃ d1 d2 d3, row = [iD r.Entry, iD r.Exit, d1, d2, d3, .bool r.Shunt] ∧ (∀ s, At P s tS d1 (r.Path.map St.enc)) ∧ (∀ s, At P s tN d2 (r.Flank.map Nd.enc)) ∧ (∀ s, At P s tI d3 (r.Overlap.map encI)) := by
  have hp := froz_plain (P := P) (el := tR) (d := d) fun s => by
    obtain ⟨rows, h1, _⟩ := h s
    exact ⟨rows, h1.rows⟩
  obtain ⟨rows, h1, h2, h3⟩ := h fun _ => .free
  have hall : ∀ s, At P s tR d rows ∧ ∀ (i : Nat) row r, rows[i]? = some row → l[i]? = some r → RtAt P tS tN tI s row r := fun s => by
    obtain ⟨rows', q1, q2, q3⟩ := h s
    have e := q1.rows.det h1.rows hp
    subst e
    exact ⟨q1, q3⟩
  refine ⟨rows, fun s => (hall s).1, h2, fun i row r hi hr => ?_⟩
  obtain ⟨d1, d2, d3, rfl, _⟩ := h3 i row r hi hr
  refine ⟨d1, d2, d3, rfl, fun s => ?_, fun s => ?_, fun s => ?_⟩ <;>
  · obtain ⟨e1, e2, e3, he, q1, q2, q3⟩ := (hall s).2 i _ r hi hr
    injection he with _ he; injection he with _ he; injection he with a1 he; injection he with a2 he; injection he with a3 he
    subst a1 a2 a3
    assumption
end Go.Fw
end
section
set_option linter.unusedVariables false
set_option linter.unusedSimpArgs false
namespace Go.Proofs.YtpanpagcgckeoaaGreat
open Go.Fw Go.Proofs Go.RowKit
variable {σ : Store}
abbrev encSg (p : Sg) : A := .agg [iD p.Sec, iD p.End_]
theorem keys_sg : Keys Tryz.prog t_Signal encSg := by
  refine ⟨fun x => ?_, fun x y => ?_⟩
  · have : ∀ a b : Int, keyOk Tryz.prog t_Signal (.agg [iD a, iD b]) = true := fun a b => by kernel_rfl
    exact this _ _
  · cases x; cases y; simp [eqA, eqCells, aCells, eqCell]
theorem conf_between_ok (n lo hi : Int) : Pure Tryz.prog n_conf_between [iA n, iA lo, iA hi] σ (.a (bA (decide (lo ≤ n ∧ n ≤ hi)))) := by
  refine W_conf_between n lo hi σ _ (bcd (fun h => ⟨?_, rfl⟩) (fun h => ⟨?_, rfl⟩)) <;> simp [h]
section
variable {c0 c1 c2 c3 c4 : D} {c : Cf} (h : ∀ s, CfAt s c0 c1 c2 c3 c4 c)
include h
theorem plan_signals_ok : Pure Tryz.prog n_conf_plan_signals [cfA c0 c1 c2 c3 c4 c] σ (.a (bA c.sigsOk)) := by
  have hl := (h σ).sigs.size
  rw [List.length_map] at hl
  refine .of (W_conf_plan_signals _ _ _ _ _ _ _ _ _ σ _ ?_) (flat_b _)
  refine newObj_intro fun id σ1 hid _ he hs => (h σ1).sigs.lenK ⟨fun n s => ∃ seen f, MapAt Tryz.prog t_Signal encSg s id f ∧ (∀ z, f z = if z ∈ seen then some (iA 1) else none) ∧ Ext σ s ∧ Rng c.Sigs (fun r => sgrun c.Jts r seen = sgrun c.Jts c.Sigs []) n,
    fun n _ => c.Sigs.length - n.toNat, ⟨[], _, .new hs, fun z => by simp, he, .start rfl⟩, ?_⟩
  rintro n s ⟨seen, f, hm, hf, hes, hr⟩
  refine bcd (fun hlt => ?_) (fun hge => ?_)
  · obtain ⟨j, x, rfl, hx, hj, hF, nx⟩ := hr.step (by simp) hl hlt
    refine (h s).sigs.load (map_get hx) c_Signal rfl ⟨x.Sec, x.End_, rfl, (topo_Next_ok x.Sec x.End_ (h s).jts).use (opt2_ex _ ?_)⟩
    rw [sgrun] at hF
    have key : ∀ k : Int, f x = (if x ∈ seen then some (iA 1) else none) → ((f x).getD (iA 0) = iA (if x ∈ seen then 1 else 0)) := fun k e => by
      rw [e]; split <;> rfl
    refine hm.lookI keys_sg x (key 0 (hf x)) (hm.bump keys_sg x fun s' f' hm' hf' hfx hs' hne => ?_)
    have hes' : Ext σ s' := fun i hi => by
      rw [hs' i (fun e => hi (by rw [e]; exact hid))]; exact hes i hi
    refine bcnot (fun hb => ?_) (fun hb => ?_)
    · rw [if_neg (by rw [hb]; simp)] at hF
      exact ⟨by simp [Cf.sigsOk, ← hF], hes'⟩
    · refine hm'.lookI keys_sg x (by rw [hfx]; rfl) (bcd (fun h2 => ?_) (fun h2 => ?_))
      · have hin : x ∈ seen := by
          by_cases hin : x ∈ seen
          · exact hin
          · rw [if_neg hin] at h2; exact absurd h2 (by decide)
        rw [if_neg (by simp [hin])] at hF
        exact ⟨by simp [Cf.sigsOk, ← hF], hes'⟩
      · have hin : x ∉ seen := fun hin => h2 (by rw [if_pos hin]; decide)
        rw [if_pos ⟨hb, hin⟩] at hF
        have hn := nx (fun r => sgrun c.Jts r (x :: seen) = sgrun c.Jts c.Sigs []) hF
        refine ⟨⟨x :: seen, f', hm', fun z => ?_, hes', hn.1⟩, hn.2⟩
        by_cases hz : z = x
        · subst hz; rw [hfx, if_neg hin]; simp; rfl
        · rw [hf' z hz, hf]; simp [hz]
  · have hF := hr.done (by simp) hge
    rw [sgrun] at hF
    refine (h s).sigs.lenK ⟨?_, hes⟩
    rw [Cf.sigsOk, ← hF, List.length_map, Bool.true_and]
    congr 4; simp; omega
theorem plan_crossings_ok : Pure Tryz.prog n_conf_plan_crossings [cfA c0 c1 c2 c3 c4 c] σ (.a (bA c.xsOk)) := by
  have hl := (h σ).xs.size
  rw [List.length_map] at hl
  refine .of (W_conf_plan_crossings _ _ _ _ _ _ _ _ _ σ _ ?_) (flat_b _)
  refine newObj_intro fun id σ1 hid _ he hs => (h σ1).xs.lenK ⟨fun n s => ∃ seen f, MapAt Tryz.prog t_int iA s id f ∧ (∀ z, f z = if z ∈ seen then some (iA 1) else none) ∧ Ext σ s ∧ Rng c.Xs (fun r => xrun c.Secs r seen = xrun c.Secs c.Xs []) n,
    fun n _ => c.Xs.length - n.toNat, ⟨[], _, .new hs, fun z => by simp, he, .start rfl⟩, ?_⟩
  rintro n s ⟨seen, f, hm, hf, hes, hr⟩
  refine bcd (fun hlt => ?_) (fun hge => ?_)
  · obtain ⟨j, x, rfl, hx, hj, hF, nx⟩ := hr.step (by simp) hl hlt
    refine (h s).xs.load (map_get hx) c_int rfl ⟨x, rfl, (plan_section_ok (h s) x).use (sec_ex _ ?_)⟩
    rw [xrun] at hF
    have key : (f x).getD (iA 0) = iA (if x ∈ seen then 1 else 0) := by
      rw [hf]; split <;> rfl
    refine hm.lookI keysI x key (hm.put keysI x fun s' f' hm' hf' hfx hs' hne => ?_)
    have hes' : Ext σ s' := fun i hi => by
      rw [hs' i (fun e => hi (by rw [e]; exact hid))]; exact hes i hi
    refine bcnot (fun hb => ?_) (fun hb => ?_)
    · cases hg : geti c.Secs x with
      | some y => rw [hg] at hb; cases hb
      | none =>
        rw [hg] at hF
        exact ⟨by simp [Cf.xsOk, ← hF], hes'⟩
    · obtain ⟨y, hg⟩ := Option.isSome_iff_exists.1 hb
      rw [hg] at hF
      simp only [hg, Option.getD_some] at hF ⊢
      refine bcn (fun h3 => ?_) (fun h3 => ?_)
      · rw [if_neg (by simp [h3])] at hF
        exact ⟨by simp [Cf.xsOk, ← hF], hes'⟩
      refine hm'.lookI keysI x (by rw [hfx]; rfl) (bcd (fun h2 => ?_) (fun h2 => ?_))
      · have hin : x ∈ seen := by
          by_cases hin : x ∈ seen
          · exact hin
          · rw [if_neg hin] at h2; exact absurd h2 (by decide)
        rw [if_neg (by simp [hin])] at hF
        exact ⟨by simp [Cf.xsOk, ← hF], hes'⟩
      · have hin : x ∉ seen := fun hin => h2 (by rw [if_pos hin]; decide)
        rw [if_pos ⟨h3, hin⟩] at hF
        have hn := nx (fun r => xrun c.Secs r (x :: seen) = xrun c.Secs c.Xs []) hF
        refine ⟨⟨x :: seen, f', hm', fun z => ?_, hes', hn.1⟩, hn.2⟩
        by_cases hz : z = x
        · subst hz; rw [hfx, if_neg hin]; simp; rfl
        · rw [hf' z hz, hf]; simp [hz]
  · have hF := hr.done (by simp) hge
    rw [xrun] at hF
    refine (h s).xs.lenK ⟨?_, hes⟩
    rw [Cf.xsOk, ← hF, List.length_map, Bool.true_and]
    congr 4; simp; omega
end
end Go.Proofs.YtpanpagcgckeoaaGreat
end
section
set_option linter.unusedVariables false
set_option linter.unusedSimpArgs false
namespace Go.Proofs.YtpanpagcgckeoaaGreat
open Go.Fw Go.Proofs Go.RowKit
variable {σ : Store}
def SlPost (σ : Store) (t : TypeId) (rows : List (List D)) (r : RV) (σ' : Store) : Prop := σ' = σ ∧ ∃ d, r = .a (.one d) ∧ ∀ s, At Tryz.prog s t d rows
theorem own_fin {t : TypeId} {d : D} {rows : List (List D)} {s : Store} (h : Own Tryz.prog σ s t d rows) (hf : ∀ row ∈ rows, ∀ x ∈ row, Flat x) :
    ∃ r' σ', Ret Tryz.prog σ s (.a (.one d)) σ' r' ∧ SlPost σ t rows r' σ' := by
  obtain ⟨d', h1, h2⟩ := ret_slice h.at_ h.ext h.new hf
  exact ⟨.a (.one d'), σ, .pure h.ext h1, rfl, d', rfl, h2⟩
theorem flatNd (l : List Nd) : ∀ row ∈ l.map Nd.enc, ∀ x ∈ row, Flat x := by
  intro row hrow x hx
  obtain ⟨w, _, rfl⟩ := List.mem_map.1 hrow
  simp [Nd.enc] at hx
  rcases hx with rfl | rfl <;> exact .int _ _
theorem flatI (l : List Int) : ∀ row ∈ l.map Go.Fw.encI, ∀ x ∈ row, Flat x := by
  intro row hrow x hx
  obtain ⟨w, _, rfl⟩ := List.mem_map.1 hrow
  simp [Go.Fw.encI] at hx
  subst hx; exact .int _ _
theorem box_store {s : Store} {id : Nat} {t : TypeId} {x y : D} {K : Store → Prop} (hs : s id = .live t [[x]]) (hK : ∀ s', s' id = .live t [[y]] → (∀ i, i ≠ id → s' i = s i) → K s') : storeEl [y] s (.osl id 0 1) 0 0 K :=
  ⟨id, 0, 1, t, [[x]], [x], rfl, by omega, hs, rfl, by simp, hK _ (Store.set_same _ _ _) fun i hi => Store.set_ne _ _ hi⟩
section
variable {c0 c1 c2 c3 c4 : D} {c : Cf} (h : ∀ s, CfAt s c0 c1 c2 c3 c4 c)
include h
theorem plan_flank_ok (a : Int) {d : D} {path : List St} (hp : ∀ s, At Tryz.prog s t_Step d (path.map St.enc)) (hpl : path.length ≤ 2 ^ 20) :
    DCalls Tryz.prog n_conf_plan_flank [cfA c0 c1 c2 c3 c4 c, iA a, .one d] σ (SlPost σ t_Need ((c.flank a path).map Nd.enc)) := by
  have hl := (hp σ).size
  rw [List.length_map] at hl
  refine (W_conf_plan_flank _ _ _ _ _ _ _ _ _ a d σ _ ?_).ret (Q := fun r s => ∃ r' σ', Ret Tryz.prog σ s r σ' r' ∧ SlPost σ t_Need ((c.flank a path).map Nd.enc) r' σ') (fun r s h => h)
  refine (hp σ).lenK ⟨fun d n s => ∃ out : List Nd, Own Tryz.prog σ s t_Need d (out.map Nd.enc) ∧ out.length ≤ 4 * n.toNat ∧ Rng path (fun r => flankRun c a path r out = c.flank a path) n, fun _ n _ => path.length - n.toNat,
    ⟨[], .nil _ (.refl _), by simp, .start rfl⟩, ?_⟩
  rintro d1 n s ⟨out, ho, hol, hr⟩
  refine bcd (fun hlt => ?_) (fun hge => ?_)
  · obtain ⟨j, x, rfl, hx, hj, hF, nx⟩ := hr.step (by simp) hl hlt
    refine (hp s).load (map_get hx) c_Step rfl ⟨x.Sec, x.In, x.Out, rfl, (plan_section_ok (h s) x.Sec).use (sec_ex _ ?_)⟩
    rw [flankRun] at hF
    refine bcnot (fun hb => ?_) (fun hb => ?_)
    · cases hg : geti c.Secs x.Sec with
      | some y => rw [hg] at hb; cases hb
      | none =>
        rw [hg] at hF
        have hn := nx (fun r => flankRun c a path r out = c.flank a path) hF
        exact ⟨⟨out, ho, by rw [w64_succ (by omega)]; omega, hn.1⟩, hn.2⟩
    · obtain ⟨y, hg⟩ := Option.isSome_iff_exists.1 hb
      rw [hg] at hF
      simp only [hg, Option.getD_some] at hF ⊢
      refine (topo_Ends_ok _).use ⟨_, rfl, ?_⟩
      have hne := nends_le y.Kind
      refine ⟨fun d m s' => ∃ out' : List Nd, Own Tryz.prog σ s' t_Need d (out'.map Nd.enc) ∧ 0 ≤ m ∧ m ≤ nends y.Kind ∧ out'.length ≤ 4 * j + m.toNat ∧ flankEnds c a path x (nends y.Kind - m).toNat m out' = flankEnds c a path x (nends y.Kind).toNat 0 out,
        fun _ m _ => (nends y.Kind - m).toNat, ⟨out, ho, by omega, hne.1, by simp at hol ⊢; omega, by rw [Int.sub_zero]⟩, ?_⟩
      rintro d2 m s' ⟨out', ho', hm0, hm1, hol', hE⟩
      refine bcd (fun hlt' => ?_) (fun hge' => ?_)
      · have hw : w64 (m + 1) = m + 1 := w64_id (by omega) (by omega)
        have hk : (nends y.Kind - m).toNat = (nends y.Kind - (m + 1)).toNat + 1 := by omega
        rw [hk, flankEnds] at hE
        have leaf : ∀ (out2 : List Nd) (d3 : D) (s2 : Store), flankStep c a path x out' m = out2 → Own Tryz.prog σ s2 t_Need d3 (out2.map Nd.enc) →
            (∃ out' : List Nd, Own Tryz.prog σ s2 t_Need d3 (out'.map Nd.enc) ∧ 0 ≤ w64 (m + 1) ∧ w64 (m + 1) ≤ nends y.Kind ∧ out'.length ≤ 4 * j + (w64 (m + 1)).toNat ∧ flankEnds c a path x (nends y.Kind - w64 (m + 1)).toNat (w64 (m + 1)) out' = flankEnds c a path x (nends y.Kind).toNat 0 out) ∧
            (nends y.Kind - w64 (m + 1)).toNat < (nends y.Kind - m).toNat := by
          intro out2 d3 s2 h1 h2
          have hlen := (flankStep_len c a path x out' m).2
          rw [hw]
          refine ⟨⟨out2, h2, by omega, by omega, by rw [← h1]; omega, by rw [← h1]; exact hE⟩, by omega⟩
        intro R hR
        refine bce (fun h1 => ⟨trivial, leaf out' d2 s' (by rw [flankStep, if_pos (.inl h1)]) ho'⟩) (fun h1 => bce (fun h2 => ⟨trivial, leaf out' d2 s' (by rw [flankStep, if_pos (.inr h2)]) ho'⟩) (fun h2 => ⟨trivial, hR s' ?_⟩))
        have hst : flankStep c a path x out' m = match nxt c.Jts x.Sec m with
          | none => out'
          | some (q, f) => match geti c.Secs q with
            | none => out'
            | some y => if y.Kind = 1 ∧ (1 ≤ f ∧ f ≤ 2) ∧ q ≠ a ∧ hasSec path q = false ∧ (out'.any fun n => n.Sec == q) = false then out' ++ [⟨q, 3 - f⟩] else out' := by
          rw [flankStep, if_neg (by rintro (e | e); exact h1 e; exact h2 e)] <;> rfl
        refine (topo_Next_ok x.Sec m (h s').jts).use (opt2_ex _ ?_)
        generalize nxt c.Jts x.Sec m = o at hst
        refine newObj_intro fun id s2 hid _ he hs2 => box_store hs2 fun s3 hs3 hs3' => ?_
        have he3 : Ext s' s3 := fun i hi => by
          rw [hs3' i (fun e => hi (by rw [e]; exact hid))]; exact he i hi
        have ho3 := ho'.ext' he3
        refine ⟨_, box_row hs3, _, rfl, (plan_section_ok (h s3) _).use (sec_ex _ ?_)⟩
        intro R1 hR1
        refine bcnot (fun hb1 => ?_) (fun hb1 => ?_)
        · cases o with
          | some p => cases hb1
          | none => exact ⟨trivial, leaf out' d2 s3 hst ho3⟩
        obtain ⟨⟨q, f⟩, rfl⟩ := Option.isSome_iff_exists.1 hb1
        simp only [Option.getD_some] at hst hR1 hs3 ⊢
        refine bcnot (fun hb2 => ?_) (fun hb2 => ?_)
        · cases hg2 : geti c.Secs q with
          | some p => rw [hg2] at hb2; cases hb2
          | none => rw [hg2] at hst; exact ⟨trivial, leaf out' d2 s3 hst ho3⟩
        obtain ⟨y2, hg2⟩ := Option.isSome_iff_exists.1 hb2
        rw [hg2] at hst
        simp only [hg2, Option.getD_some] at hst ⊢
        have no : ¬ (y2.Kind = 1 ∧ (1 ≤ f ∧ f ≤ 2) ∧ q ≠ a ∧ hasSec path q = false ∧ (out'.any fun n => n.Sec == q) = false) → flankStep c a path x out' m = out' := fun hn => by rw [hst, if_neg hn]
        refine bcn (fun h3 => ⟨trivial, leaf out' d2 s3 (no fun h => h3 h.1) ho3⟩) (fun h3 => ?_)
        refine bcd (fun h4 => ⟨trivial, leaf out' d2 s3 (no fun h => by omega) ho3⟩) (fun h4 => ?_)
        refine bcd (fun h5 => ⟨trivial, leaf out' d2 s3 (no fun h => by omega) ho3⟩) (fun h5 => ?_)
        refine ⟨_, box_row hs3, q, rfl, bce (fun h6 => ⟨trivial, leaf out' d2 s3 (no fun h => h.2.2.1 h6) ho3⟩) (fun h6 => ?_)⟩
        refine ⟨_, box_row hs3, q, rfl, (conf_has_ok q (hp s3)).use ⟨_, rfl, bc (fun h7 => ⟨trivial, leaf out' d2 s3 (no fun h => by rw [h.2.2.2.1] at h7; cases h7) ho3⟩) (fun h7 => ?_)⟩⟩
        refine (hasNeed_ok ho3.at_ hs3).use ⟨_, rfl, bc (fun h8 => ⟨trivial, leaf out' d2 s3 (no fun h => by rw [h.2.2.2.2] at h8; cases h8) ho3⟩) (fun h8 => ⟨trivial, hR1 s3 ?_⟩)⟩
        refine ⟨_, box_row hs3, q, rfl, newObj_intro fun id1 s4 hid1 _ he4 hs4 => ?_⟩
        have hw2 : w64 (3 - f) = 3 - f := w64_id (by omega) (by omega)
        have ho4 := ho3.ext' he4
        refine ho4.append (At.fresh hs4 (by simp) rfl) (by simp; omega) (by simp; omega) fun d4 s5 ho5 _ _ => ⟨trivial, leaf (out' ++ [⟨q, 3 - f⟩]) d4 s5 (by rw [hst, if_pos ⟨h3, ⟨by omega, by omega⟩, h6, h7, h8⟩]) ?_⟩
        rw [hw2] at ho5
        rw [List.map_append]
        exact ho5
      · have hz : (nends y.Kind - m).toNat = 0 := by omega
        rw [hz, flankEnds] at hE
        rw [← hE] at hF
        have hn := nx (fun r => flankRun c a path r out' = c.flank a path) hF
        exact ⟨⟨out', ho', by rw [w64_succ (by omega)]; omega, hn.1⟩, hn.2⟩
  · have hF := hr.done (by simp) hge
    rw [flankRun] at hF
    rw [← hF]
    exact own_fin ho (flatNd _)
theorem plan_overlap_ok (r : Rt) {d1 d2 d3 : D} (hp : ∀ s, At Tryz.prog s t_Step d1 (r.Path.map St.enc)) :
    DCalls Tryz.prog n_conf_plan_overlap [cfA c0 c1 c2 c3 c4 c, rtA d1 d2 d3 r] σ (SlPost σ t_int ((c.overlap r).map Go.Fw.encI)) := by
  refine (W_conf_plan_overlap _ _ _ _ _ _ _ _ _ _ _ d1 d2 d3 _ σ _ ?_).ret (Q := fun r' s => ∃ r'' σ', Ret Tryz.prog σ s r' σ' r'' ∧ SlPost σ t_int ((c.overlap r).map Go.Fw.encI) r'' σ') (fun r s h => h)
  refine (plan_signal_ok (h σ) _).use (sg_ex _ ?_)
  intro R hR
  have nil : c.overlap r = [] → ∃ r'' σ', Ret Tryz.prog σ σ (.a (.one .nils)) σ' r'' ∧ SlPost σ t_int ((c.overlap r).map Go.Fw.encI) r'' σ' := fun e => by
    rw [e]; exact own_fin (.nil _ (.refl _)) (flatI _)
  refine bc (fun h1 => nil (by rw [Cf.overlap, if_pos h1])) (fun h1 => bcnot (fun h2 => nil ?_) (fun h2 => ⟨rfl, hR σ ?_⟩))
  · rw [Cf.overlap, if_neg (by rw [h1]; simp)]
    cases hg : geti c.Sigs r.Exit with
    | none => rfl
    | some x => rw [hg] at h2; cases h2
  obtain ⟨x, hg⟩ := Option.isSome_iff_exists.1 h2
  simp only [hg, Option.getD_some] at hR ⊢
  have hov : c.overlap r = match nxt c.Jts x.Sec x.End_ with
    | none => []
    | some (q, _) => match geti c.Secs q with
      | none => []
      | some y => if y.Line = 0 ∧ hasSec r.Path q = false ∧ q ≠ c.approach r then [q] else [] := by
    rw [Cf.overlap, if_neg (by rw [h1]; simp), hg] <;> rfl
  refine (topo_Next_ok _ _ (h σ).jts).use (opt2_ex _ ((plan_section_ok (h σ) _).use (sec_ex _ ?_)))
  generalize nxt c.Jts x.Sec x.End_ = o at hov
  refine bcnot (fun hb1 => nil ?_) (fun hb1 => ?_)
  · cases o with
    | none => exact hov
    | some p => cases hb1
  obtain ⟨⟨q, f⟩, rfl⟩ := Option.isSome_iff_exists.1 hb1
  simp only [Option.getD_some] at hov ⊢
  refine bcnot (fun hb2 => nil ?_) (fun hb2 => ?_)
  · cases hg2 : geti c.Secs q with
    | none => rw [hg2] at hov; exact hov
    | some p => rw [hg2] at hb2; cases hb2
  obtain ⟨y, hg2⟩ := Option.isSome_iff_exists.1 hb2
  simp only [hg2, Option.getD_some] at hov ⊢
  have no : ¬ (y.Line = 0 ∧ hasSec r.Path q = false ∧ q ≠ c.approach r) → c.overlap r = [] := fun hn => by rw [hov, if_neg hn]
  refine bcn (fun h3 => nil (no fun h => h3 h.1)) (fun h3 => (conf_has_ok q (hp σ)).use ⟨_, rfl, bc (fun h4 => nil (no fun h => by rw [h.2.1] at h4; cases h4)) (fun h4 => (plan_approach_ok (h σ) r d1 d2 d3).use ⟨_, rfl, bce (fun h5 => nil (no fun h => h.2.2 h5)) (fun h5 => ?_)⟩)⟩)
  refine newObj_intro fun id s2 hid _ he hs2 => ?_
  rw [hov, if_pos ⟨h3, h4, h5⟩]
  exact own_fin ⟨At.fresh hs2 (by simp) rfl, he, osl_new hid, fun h => h, by intro e; cases e⟩ (flatI _)
end
end Go.Proofs.YtpanpagcgckeoaaGreat
end
section
set_option linter.unusedVariables false
set_option linter.unusedSimpArgs false
namespace Go.Proofs.YtpanpagcgckeoaaGreat
open Go.Fw Go.Proofs Go.RowKit
variable {σ : Store}
section
variable {c0 c1 c2 c3 c4 : D} {c : Cf} (h : ∀ s, CfAt s c0 c1 c2 c3 c4 c)
include h
theorem plan_path_ok (r : Rt) {d1 d2 d3 : D} (hp : ∀ s, At Tryz.prog s t_Step d1 (r.Path.map St.enc)) :
    Pure Tryz.prog n_conf_plan_path [cfA c0 c1 c2 c3 c4 c, rtA d1 d2 d3 r] σ (.a (bA (c.path r))) := by
  have hl := (hp σ).size
  rw [List.length_map] at hl
  refine .of (W_conf_plan_path _ _ _ _ _ _ _ _ _ _ _ d1 d2 d3 _ σ _ ?_) (flat_b _)
  refine (plan_signal_ok (h σ) _).use (sg_ex _ ((plan_signal_ok (h σ) _).use (sg_ex _ ?_)))
  intro R hR
  refine bcnot (fun h1 => ?_) (fun h1 => ?_)
  · cases hg : geti c.Sigs r.Entry with
    | some x => rw [hg] at h1; cases h1
    | none => exact ⟨by rw [Cf.path, hg], .refl _⟩
  obtain ⟨a, hg⟩ := Option.isSome_iff_exists.1 h1
  have hpath : c.path r = ((decide (r.Exit = -1) || (geti c.Sigs r.Exit).isSome) && decide (1 ≤ r.Path.length ∧ r.Path.length ≤ 8) && prunA c r (geti c.Sigs r.Exit) r.Path a [a.Sec]) := by rw [Cf.path, hg]
  rw [hg, Option.getD_some] at hR
  generalize hex : geti c.Sigs r.Exit = ex at hpath hR
  have hlen : decide ((1 : Int) ≤ ((r.Path.map St.enc).length : Int) ∧ ((r.Path.map St.enc).length : Int) ≤ 8) = decide (1 ≤ r.Path.length ∧ r.Path.length ≤ 8) := by
    rw [List.length_map]; congr 1; apply propext; omega
  have hgo : decide (1 ≤ r.Path.length ∧ r.Path.length ≤ 8) = true → (decide (r.Exit = -1) || ex.isSome) = true → R σ := by
    intro hlen2 hexok
    rw [hlen2, hexok] at hpath
    simp only [Bool.true_and] at hpath
    refine hR σ (newObj_intro fun id s1 hid _ he1 hs1 => (MapAt.new hs1).put keysI a.Sec fun s2 f2 hm2 hf2 hfx2 hs2 hne2 => ?_)
    have he2 : Ext σ s2 := fun i hi => by
      rw [hs2 i (fun e => hi (by rw [e]; exact hid))]; exact he1 i hi
    refine (hp s2).lenK ⟨fun m e n s => ∃ seen f, MapAt Tryz.prog t_int iA s id f ∧ (∀ z, f z = if z ∈ seen then some (iA 1) else none) ∧ Ext σ s ∧ Rng r.Path (fun q => prunA c r ex q ⟨m, e⟩ seen = c.path r) n, fun _ _ n _ => r.Path.length - n.toNat,
      ⟨[a.Sec], f2, hm2, fun z => ?_, he2, .start hpath.symm⟩, ?_⟩
    · by_cases hz : z = a.Sec
      · subst hz; rw [hfx2]; simp
      · rw [hf2 z hz]; simp [hz]
    rintro m e n s ⟨seen, f, hm, hf, hes, hr⟩
    refine bcd (fun hlt => ?_) (fun hge => ?_)
    · obtain ⟨j, x, rfl, hx, hj, hF, nx⟩ := hr.step (by simp) hl hlt
      intro R1 hR1
      refine (hp s).load (map_get hx) c_Step rfl ⟨x.Sec, x.In, x.Out, rfl, (topo_Next_ok m e (h s).jts).use (opt2_ex _ ((plan_section_ok (h s) _).use (sec_ex _ ((topo_Pos_ok _ _ _).use (opt1_ex _ ?_)))))⟩
      rw [prunA] at hF
      have bad : pstep c r ex ⟨m, e⟩ x (r.Path.drop (j + 1)).isEmpty seen = false → ∀ s', Ext σ s' → (RV.a (.one (.bool false)) = .a (bA (c.path r)) ∧ Ext σ s') := fun hb s' he' => by
        rw [hb] at hF
        exact ⟨by rw [← hF]; rfl, he'⟩
      have good : pstep c r ex ⟨m, e⟩ x (r.Path.drop (j + 1)).isEmpty seen = true → ∀ s' f', MapAt Tryz.prog t_int iA s' id f' → (∀ z, f' z = if z ∈ x.Sec :: seen then some (iA 1) else none) → Ext σ s' → R1 x.Sec x.Out s' := fun hb s' f' hm' hf' he' => by
        rw [hb, Bool.true_and] at hF
        have hn := nx (fun q => prunA c r ex q ⟨x.Sec, x.Out⟩ (x.Sec :: seen) = c.path r) hF
        exact hR1 _ _ _ ⟨rfl, ⟨x.Sec :: seen, f', hm', hf', he', hn.1⟩, hn.2⟩
      have hst : pstep c r ex ⟨m, e⟩ x (r.Path.drop (j + 1)).isEmpty seen = match nxt c.Jts m e with
        | none => false
        | some (q, i) => decide (q = x.Sec) && decide (i = x.In) && (wpos (wayL ((geti c.Secs q).getD ⟨0, 0, 0⟩).Kind) x.In x.Out).isSome && decide (q ∉ seen) &&
          (!(c.Sigs.any fun y => decide (⟨x.Sec, x.Out⟩ = y)) || ((r.Path.drop (j + 1)).isEmpty && decide (ex = some ⟨x.Sec, x.Out⟩))) && !(r.Shunt && decide (((geti c.Secs q).getD ⟨0, 0, 0⟩).Line ≠ 0)) := rfl
      generalize nxt c.Jts m e = o at hst
      have key : (f (o.getD (0, 0)).1).getD (iA 0) = iA (if (o.getD (0, 0)).1 ∈ seen then 1 else 0) := by
        rw [hf]; split <;> rfl
      refine hm.lookI keysI _ key (hm.put keysI _ fun s' f' hm' hf' hfx hs' hne => ?_)
      have hes' : Ext σ s' := fun i hi => by
        rw [hs' i (fun e => hi (by rw [e]; exact hid))]; exact hes i hi
      refine (Contains_Signal_ok ⟨x.Sec, x.Out⟩ (h s').sigs).use ⟨_, rfl, ?_⟩
      intro R2 hR2
      have main : R2 ((r.Path.drop (j + 1)).isEmpty && decide (ex = some ⟨x.Sec, x.Out⟩)) s' := by
        refine hR2 _ _ (bcnot (fun k1 => bad ?_ s' hes') (fun k1 => ?_))
        · cases o with
          | none => exact hst
          | some p => cases k1
        obtain ⟨⟨q, i⟩, rfl⟩ := Option.isSome_iff_exists.1 k1
        simp only [Option.getD_some] at hst key hfx hf' ⊢
        refine bcn (fun k2 => bad (by rw [hst]; simp [k2]) s' hes') (fun k2 => ?_)
        refine bcn (fun k3 => bad (by rw [hst]; simp [k3]) s' hes') (fun k3 => ?_)
        refine bcnot (fun k4 => bad (by rw [hst, k4]; simp) s' hes') (fun k4 => ?_)
        refine hm'.lookI keysI q (by rw [hfx]; rfl) (bcd (fun k5 => ?_) (fun k5 => ?_))
        · have hin : q ∈ seen := by
            by_cases hin : q ∈ seen
            · exact hin
            · rw [if_neg hin] at k5; exact absurd k5 (by decide)
          exact bad (by rw [hst]; simp [hin]) s' hes'
        have hin : q ∉ seen := fun hin => k5 (by rw [if_pos hin]; decide)
        have hfin : pstep c r ex ⟨m, e⟩ x (r.Path.drop (j + 1)).isEmpty seen = true → R1 x.Sec x.Out s' := fun hb => good hb s' f' hm' (fun z => by
          by_cases hz : z = q
          · subst hz; rw [hfx, if_neg hin, k2]; simp; rfl
          · rw [hf' z hz, hf]; simp [k2 ▸ hz]) hes'
        have hpre : (decide (q = x.Sec) && decide (i = x.In) && (wpos (wayL ((geti c.Secs q).getD ⟨0, 0, 0⟩).Kind) x.In x.Out).isSome && decide (q ∉ seen)) = true := by
          rw [k4]; simp [k2, k3]; rw [← k2]; exact hin
        rw [hpre, Bool.true_and] at hst
        refine bc (fun k6 => bcnot (fun k7 => bad ?_ s' hes') (fun k7 => ?_)) (fun k6 => ?_)
        · rw [hst, k6, k7]; rfl
        · rw [k6, k7] at hst
          refine bc (fun k8 => bcn (fun k9 => bad ?_ s' hes') (fun k9 => ⟨trivial, hfin ?_⟩)) (fun k8 => ⟨trivial, hfin ?_⟩)
          · rw [hst, k8]; simp [k9]
          · rw [hst]; simp [k9]
          · rw [hst, k8]; rfl
        · rw [k6] at hst
          refine bc (fun k8 => bcn (fun k9 => bad ?_ s' hes') (fun k9 => ⟨trivial, hfin ?_⟩)) (fun k8 => ⟨trivial, hfin ?_⟩)
          · rw [hst, k8]; simp [k9]
          · rw [hst]; simp [k9]
          · rw [hst, k8]; rfl
      refine (hp s').lenK ?_
      have hw : w64 (((r.Path.map St.enc).length : Int) - 1) = (r.Path.length : Int) - 1 := by rw [List.length_map, w64_id (by omega) (by omega)]
      rw [hw]
      refine bce (fun q1 => bc (fun q2 => ⟨rfl, ?_⟩) (fun q2 => ⟨rfl, ?_⟩)) (fun q1 => ⟨rfl, ?_⟩)
      · have hemp : (r.Path.drop (j + 1)).isEmpty = true := by rw [drop_end (by omega)]; rfl
        obtain ⟨y, rfl⟩ := Option.isSome_iff_exists.1 q2
        rw [hemp, Bool.true_and] at main
        have hd : decide (some y = some (⟨x.Sec, x.Out⟩ : Sg)) = (x.Sec == y.Sec && x.Out == y.End_) := by
          cases y with
          | mk y1 y2 =>
            rw [Bool.eq_iff_iff]; simp
            exact ⟨fun ⟨a, b⟩ => ⟨a.symm, b.symm⟩, fun ⟨a, b⟩ => ⟨a.symm, b.symm⟩⟩
        rw [hd] at main
        exact main
      · have hd : ex = none := by cases ex; rfl; cases q2
        rw [hd] at main
        simpa using main
      · have hemp : (r.Path.drop (j + 1)).isEmpty = false := by
          cases hd : r.Path.drop (j + 1) with
          | nil => rw [List.drop_eq_nil_iff] at hd; omega
          | cons y l => rfl
        rw [hemp, Bool.false_and] at main
        exact main
    · have hF : (match (generalizing := false) ex with | some x => decide ((⟨m, e⟩ : Sg) = x) | none => !(nxt c.Jts m e).isSome) = c.path r := hr.done (by simp) hge
      refine bc (fun q2 => ?_) (fun q2 => ?_)
      · obtain ⟨y, rfl⟩ := Option.isSome_iff_exists.1 q2
        refine ⟨?_, hes⟩
        rw [← hF]
        cases y with
        | mk y1 y2 =>
          congr 4; rw [Bool.eq_iff_iff]; simp
      · have hd : ex = none := by cases ex; rfl; cases q2
        subst hd
        refine (topo_Next_ok m e (h s).jts).use (opt2_ex _ ⟨?_, hes⟩)
        rw [← hF]
  refine bcnot (fun h2 => bcn (fun h3 => ⟨?_, .refl _⟩) (fun h3 => (hp σ).lenK ((conf_between_ok _ _ _).use ⟨_, rfl, bcnot (fun h4 => ⟨?_, .refl _⟩) (fun h4 => ⟨rfl, hgo ?_ ?_⟩)⟩))) (fun h2 => (hp σ).lenK ((conf_between_ok _ _ _).use ⟨_, rfl, bcnot (fun h4 => ⟨?_, .refl _⟩) (fun h4 => ⟨rfl, hgo ?_ ?_⟩)⟩))
  · rw [hpath, h2]; simp [h3]
  · rw [hlen] at h4; rw [hpath, h4]; simp
  · rw [← hlen]; exact h4
  · simp [h3]
  · rw [hlen] at h4; rw [hpath, h4]; simp
  · rw [← hlen]; exact h4
  · simp [h2]
theorem plan_route_ok (r : Rt) {d1 d2 d3 : D} (hp : ∀ s, At Tryz.prog s t_Step d1 (r.Path.map St.enc)) (hf : ∀ s, At Tryz.prog s t_Need d2 (r.Flank.map Nd.enc)) (ho : ∀ s, At Tryz.prog s t_int d3 (r.Overlap.map Go.Fw.encI)) :
    Pure Tryz.prog n_conf_plan_route [cfA c0 c1 c2 c3 c4 c, rtA d1 d2 d3 r] σ (.a (iA (c.route r))) := by
  refine W_conf_plan_route _ _ _ _ _ _ _ _ _ _ _ d1 d2 d3 _ σ _ ((plan_path_ok h r hp).use ⟨_, rfl, bcnot (fun h1 => ⟨by rw [Cf.route, if_pos h1], rfl⟩) (fun h1 => ?_)⟩)
  have hpl : r.Path.length ≤ 8 := by
    unfold Cf.path at h1
    split at h1
    · cases h1
    · simp at h1; exact h1.1.2.2
  refine (plan_approach_ok (h σ) r d1 d2 d3).use ⟨_, rfl, (plan_flank_ok h _ hp (by omega)).mono ?_⟩
  rintro r1 s1 ⟨rfl, d, rfl, hd⟩
  refine ⟨d, rfl, (Equal_Need_ok (hf _) (hd _)).use ⟨_, rfl, bcnot (fun h2 => ⟨?_, rfl⟩) (fun h2 => (plan_overlap_ok h r hp).mono ?_)⟩⟩
  · rw [Cf.route, if_neg (by rw [h1]; simp), if_pos (of_decide_eq_false h2)]
  rintro r2 s2 ⟨rfl, d', rfl, hd'⟩
  have e2 := of_decide_eq_true h2
  refine ⟨d', rfl, (Equal_int_ok (ho _) (hd' _)).use ⟨_, rfl, bcnot (fun h3 => ⟨?_, rfl⟩) (fun h3 => ⟨?_, rfl⟩)⟩⟩
  · rw [Cf.route, if_neg (by rw [h1]; simp), if_neg (fun hn => hn e2), if_pos (of_decide_eq_false h3)]
  · rw [Cf.route, if_neg (by rw [h1]; simp), if_neg (fun hn => hn e2), if_neg (fun hn => hn (of_decide_eq_true h3))]
theorem conf_Check_ok : Pure Tryz.prog n_conf_Check [cfA c0 c1 c2 c3 c4 c] σ (.a (iA c.check)) := by
  refine W_conf_Check _ _ _ _ _ _ _ _ _ σ _ ((topo_Check_ok (fun s => (h s).secs) (fun s => (h s).jts)).use ⟨_, rfl, ?_⟩)
  have e6 : (if topoOk c.Secs c.Jts = true then (0 : Int) else 6) ≠ 0 ↔ topoOk c.Secs c.Jts = false := by
    cases topoOk c.Secs c.Jts <;> simp
  refine bcn (fun k1 => ⟨by rw [Cf.check, if_pos (e6.1 k1)], rfl⟩) (fun k1 => (plan_signals_ok h).use ⟨_, rfl, bcnot (fun k2 => ⟨?_, rfl⟩) (fun k2 => (plan_crossings_ok h).use ⟨_, rfl, bcnot (fun k3 => ⟨?_, rfl⟩) (fun k3 => ?_)⟩)⟩)
  all_goals have k1' : ¬ topoOk c.Secs c.Jts = false := fun e => e6.2 e k1
  · rw [Cf.check, if_neg k1', if_pos k2]
  · rw [Cf.check, if_neg k1', if_neg (by rw [k2]; simp), if_pos k3]
  have hck : c.check = if c.Rts.length > 12 then 9 else if c.routes c.Rts ≠ 0 then c.routes c.Rts else if c.timing = true then 0 else 12 := by
    rw [Cf.check, if_neg k1', if_neg (by rw [k2]; simp), if_neg (by rw [k3]; simp)]
  obtain ⟨rows, hat, hlen, hrow⟩ := rts_froz fun s => (h s).rts
  have hl := (hat σ).size
  refine (hat σ).lenK (bcd (fun k4 => ⟨by rw [hck, if_pos (by omega)], rfl⟩) (fun k4 => (hat σ).lenK ?_))
  rw [if_neg (by omega)] at hck
  refine ⟨fun n s => s = σ ∧ Rng c.Rts (fun l => c.routes l = c.routes c.Rts) n, fun n _ => c.Rts.length - n.toNat, ⟨rfl, .start rfl⟩, ?_⟩
  rintro n τ ⟨rfl, hr⟩
  refine bcd (fun hlt => ?_) (fun hge => ?_)
  · obtain ⟨j, x, rfl, hx, hj, hF, nx⟩ := hr.step hlen (by omega) hlt
    obtain ⟨row, hrw⟩ := get_of_lt (l := rows) (j := j) (by omega)
    obtain ⟨d1, d2, d3, rfl, q1, q2, q3⟩ := hrow j row x hrw hx
    refine (hat τ).load hrw c_Route rfl ⟨_, _, d1, d2, d3, _, rfl, (plan_route_ok h x q1 q2 q3).use ⟨_, rfl, ?_⟩⟩
    rw [Cf.routes] at hF
    refine bcn (fun k5 => ⟨?_, rfl⟩) (fun k5 => ?_)
    · rw [if_pos k5] at hF
      rw [hck, ← hF, if_pos k5]
    · rw [if_neg (by simp [k5])] at hF
      exact ⟨rfl, andl rfl (nx _ hF)⟩
  · have hF : 0 = c.routes c.Rts := hr.done hlen hge
    rw [← hF, if_neg (by simp)] at hck
    have hpos : c.timing = (decide (1 ≤ c.Age ∧ c.Age ≤ 8) && decide (0 ≤ c.Brake ∧ c.Brake ≤ 8) && decide (c.Age + c.Brake + 1 ≤ c.Hold ∧ c.Hold ≤ 40) && decide (1 ≤ c.Budget ∧ c.Budget ≤ 1000000)) := rfl
    refine (conf_between_ok _ _ _).use ⟨_, rfl, bcnot (fun k5 => ⟨?_, rfl⟩) (fun k5 => (conf_between_ok _ _ _).use ⟨_, rfl, bcnot (fun k6 => ⟨?_, rfl⟩) (fun k6 => (conf_between_ok _ _ _).use ⟨_, rfl, ?_⟩)⟩)⟩
    · rw [hck, hpos, k5]; simp
    · rw [hck, hpos, k6]; simp
    have a5 := of_decide_eq_true k5
    have a6 := of_decide_eq_true k6
    rw [w64_id (n := c.Age + c.Brake) (by omega) (by omega), w64_id (n := c.Age + c.Brake + 1) (by omega) (by omega)]
    refine bcnot (fun k7 => ⟨?_, rfl⟩) (fun k7 => (conf_between_ok _ _ _).use ⟨_, rfl, bcnot (fun k8 => ⟨?_, rfl⟩) (fun k8 => ⟨?_, rfl⟩)⟩)
    · rw [hck, hpos, k7]; simp
    · rw [hck, hpos, k8]; simp
    · rw [hck, hpos, k5, k6, k7, k8]; rfl
end
end Go.Proofs.YtpanpagcgckeoaaGreat
end
section
set_option linter.unusedVariables false
set_option linter.unusedSimpArgs false
namespace Go.Fw
variable {P : Program} {σ : Store}
theorem u64_id {n : Int} (h1 : 0 ≤ n) (h2 : n ≤ 18446744073709551615) : IntKind.wrap .u64 n = n := by
  simp only [IntKind.wrap, IntKind.signed, IntKind.bits]; simp; omega
theorem and_mask {x : Int} (h1 : 0 ≤ x) (h2 : x < 2 ^ 32) : ((BitVec.toNat ((BitVec.ofInt 64 x) &&& (BitVec.ofInt 64 4294967295)) : Nat) : Int) = x := by
  rw [BitVec.toNat_and, BitVec.toNat_ofInt, BitVec.toNat_ofInt]
  have e1 : (x % ((2 ^ 64 : Nat) : Int)).toNat = x.toNat := by
    rw [Int.emod_eq_of_lt h1 (by omega)]
  have e2 : ((4294967295 : Int) % ((2 ^ 64 : Nat) : Int)).toNat = 2 ^ 32 - 1 := by decide
  rw [e1, e2, Nat.and_two_pow_sub_one_eq_mod, Nat.mod_eq_of_lt (by omega)]
  omega
theorem fdiv_small {x : Int} (h1 : 0 ≤ x) (h2 : x < 2 ^ 32) : Int.fdiv x (2 ^ 32) = 0 := by
  rw [Int.fdiv_eq_ediv_of_nonneg _ (by omega)]; omega
theorem set_set (i : Nat) (a b : SO) : (σ.set i a).set i b = σ.set i b := by
  funext j
  by_cases h : j = i
  · subst h; rw [Store.set_same, Store.set_same]
  · rw [Store.set_ne _ _ h, Store.set_ne _ _ h, Store.set_ne _ _ h]
def RepPost (t : TypeId) (n : Nat) (row : List D) (s : Store) (r : RV) (s' : Store) : Prop :=
  ∃ id, s id = .free ∧ r = .a (.one (.osl id 0 n)) ∧ s' = s.set id (.live t (List.replicate n row))
theorem rep_rows {row z : List D} {m k n : Nat} (h1 : k ≤ m) (h2 : m + k ≤ n) :
    (List.replicate m row ++ List.replicate (n - m) z).take m ++ (List.replicate m row).take k ++ (List.replicate m row ++ List.replicate (n - m) z).drop (m + k) = List.replicate (m + k) row ++ List.replicate (n - (m + k)) z := by
  rw [List.take_left' (by simp), List.take_replicate, Nat.min_eq_left h1, List.replicate_append_replicate, List.drop_append, List.drop_eq_nil_iff.2 (by simp), List.nil_append, List.drop_replicate]
  congr 2; simp; omega
theorem rep_ok {f : FuncId} {t : TypeId} {es bytes : Nat} {z row : List D} {x : D} {n : Nat} {Q : RV → Store → Prop}
    (hmul : ∀ s (a b : Int), 0 ≤ a → 0 ≤ b → a * b < 2 ^ 32 → a < 2 ^ 32 → b < 2 ^ 32 → Pure P f [.one (.int .u64 a), .one (.int .u64 b)] s (.tup [.one (.int .u64 0), .one (.int .u64 (a * b))]))
    (hes : P.cellsOf t = es) (hx : At P σ t x [row]) (hn : n ≤ 2 ^ 20) (hb : bytes ≤ 2 ^ 20) (hQ : ∀ r s, RepPost t n row σ r s → Q r s) :
    ∀ R : Store → Prop, (∀ σ' : Store, (∃ len : Nat, (Len x len) ∧ DCalls P f [.one (.int .u64 (IntKind.wrap .u64 (len : Int))), .one (.int .u64 (IntKind.wrap .u64 (n : Int)))] σ' (fun (r : RV) => fun (σ'1 : Store) => ∃ n : Int, ∃ n1 : Int, (r = (.tup [.one (.int .u64 n), .one (.int .u64 n1)] : RV)) ∧ ∀ R1 : Store → Prop, (∀ σ'2 : Store, (((0 : Int) ≤ (w64 n1)) ∧ ((w64 n1) ≤ (w64 n1)) ∧ (((bytes : Int) * (w64 n1)) ≤ (2 ^ 48)) ∧ Fw.newObj σ'2 (.live t (List.replicate (Int.toNat (w64 n1)) z)) (fun (id : Nat) => fun (σ'3 : Store) => copyTo P σ'3 t (.osl id 0 (Int.toNat (w64 n1))) x (fun (n2 : Int) => fun (σ'4 : Store) => ∃ I : Int → Store → Prop, ∃ μ : Int → Store → Nat, (I n2 σ'4) ∧ ∀ n3 : Int, ∀ σ'5 : Store, (I n3 σ'5) → ∃ len1 : Nat, (Len (.osl id 0 (Int.toNat (w64 n1))) len1) ∧ bcase (decide (n3 < (len1 : Int))) (∃ len2 : Nat, (IdxN P σ'5 (.osl id 0 (Int.toNat (w64 n1))) es len2) ∧ ((0 : Int) ≤ n3) ∧ (n3 ≤ (len2 : Int)) ∧ ∃ len3 : Nat, (IdxN P σ'5 (.osl id 0 (Int.toNat (w64 n1))) es len3) ∧ ((0 : Int) ≤ 0) ∧ ((0 : Int) ≤ n3) ∧ (n3 ≤ (len3 : Int)) ∧ copyTo P σ'5 t (.osl id (0 + (Int.toNat n3)) (len2 - (Int.toNat n3))) (.osl id 0 ((Int.toNat n3) - 0)) (fun (n4 : Int) => fun (σ'6 : Store) => (I (w64 (n3 + n4)) σ'6) ∧ ((μ (w64 (n3 + n4)) σ'6) < (μ n3 σ'5)))) (Q (.a (.one (.osl id 0 (Int.toNat (w64 n1))))) σ'5)))) → R1 σ'2) → bcase (decide (n > 0)) False (bcase (decide (n1 > 9223372036854775807)) False (R1 σ'1)))) → R σ') → bcase (decide ((n : Int) < 0)) False (R σ) := by
  intro R hR
  refine bcd (fun h => absurd h (by omega)) (fun _ => hR σ (hx.lenK ?_))
  rw [u64_id (by simp) (by simp), u64_id (by omega) (by omega)]
  have hw : w64 (((1 : Nat) : Int) * n) = n := by rw [w64_id (by omega) (by omega)]; omega
  refine (hmul σ _ _ (by simp) (by omega) (by simp; omega) (by simp) (by omega)).use ⟨0, _, rfl, fun R1 hR1 => bcd (fun h => absurd h (by decide)) (fun _ => bcd (fun h => absurd h (by simp; omega)) (fun _ => hR1 σ ?_))⟩
  show 0 ≤ w64 (((1 : Nat) : Int) * n) ∧ _
  simp only [List.length_singleton, hw, Int.toNat_natCast]
  refine ⟨by omega, Int.le_refl _, ?_, fun id hid => ?_⟩
  · have : bytes * n ≤ 2 ^ 20 * 2 ^ 20 := Nat.mul_le_mul hb hn
    have h2 : ((bytes * n : Nat) : Int) ≤ 2 ^ 48 := by omega
    rw [Int.natCast_mul] at h2; exact h2
  have hidx : ∀ (s : Store) (rows : List (List D)), s id = .live t rows → rows.length = n → IdxN P s (.osl id 0 n) es n := fun s rows h1 h2 => .inl ⟨by omega, t, rows, h1, hes⟩
  have hxr : Rows P (σ.set id (.live t (List.replicate n z))) t x [row] := (hx.ext (Ext.new hid _)).rows
  have hdr : ∀ (s : Store) (rows : List (List D)) (i len : Nat), s id = .live t rows → i + len ≤ rows.length → Rows P s t (.osl id i len) ((rows.drop i).take len) := fun s rows i len h1 h2 => ⟨t, rows, h1, rfl, h2, rfl⟩
  refine ⟨_, _, hdr _ _ 0 n (Store.set_same _ _ _) (by simp), hxr, ?_⟩
  have hmin : min [row].length ((List.replicate n z).drop 0 |>.take n).length = min 1 n := by simp
  have hminI : min (([row].length : Nat) : Int) ((((List.replicate n z).drop 0 |>.take n).length : Nat) : Int) = ((min 1 n : Nat) : Int) := by rw [← hmin]; omega
  rw [hmin, hminI]
  have hloop : ∀ (m : Nat) (s : Store), m ≤ n → (0 < n → 0 < m) → s = σ.set id (.live t (List.replicate m row ++ List.replicate (n - m) z)) → ∃ I : Int → Store → Prop, ∃ μ : Int → Store → Nat, (I m s) ∧ ∀ n3 : Int, ∀ σ'5 : Store, (I n3 σ'5) → ∃ len1 : Nat, (Len (.osl id 0 n) len1) ∧ bcase (decide (n3 < (len1 : Int))) (∃ len2 : Nat, (IdxN P σ'5 (.osl id 0 n) es len2) ∧ ((0 : Int) ≤ n3) ∧ (n3 ≤ (len2 : Int)) ∧ ∃ len3 : Nat, (IdxN P σ'5 (.osl id 0 n) es len3) ∧ ((0 : Int) ≤ 0) ∧ ((0 : Int) ≤ n3) ∧ (n3 ≤ (len3 : Int)) ∧ copyTo P σ'5 t (.osl id (0 + (Int.toNat n3)) (len2 - (Int.toNat n3))) (.osl id 0 ((Int.toNat n3) - 0)) (fun (n4 : Int) => fun (σ'6 : Store) => (I (w64 (n3 + n4)) σ'6) ∧ ((μ (w64 (n3 + n4)) σ'6) < (μ n3 σ'5)))) (Q (.a (.one (.osl id 0 n))) σ'5) := by
    intro m0 s0 hm0 hm0' hs0
    refine ⟨fun n3 s => ∃ m : Nat, n3 = m ∧ m ≤ n ∧ (0 < n → 0 < m) ∧ s = σ.set id (.live t (List.replicate m row ++ List.replicate (n - m) z)), fun n3 _ => n - n3.toNat, ⟨m0, rfl, hm0, hm0', hs0⟩, ?_⟩
    rintro _ s ⟨m, rfl, hm, hm', rfl⟩
    refine ⟨n, rfl, bcd (fun hlt => ?_) (fun hge => ?_)⟩
    · have hl : (List.replicate m row ++ List.replicate (n - m) z).length = n := by simp; omega
      refine ⟨n, hidx _ _ (Store.set_same _ _ _) hl, by omega, by omega, n, hidx _ _ (Store.set_same _ _ _) hl, by omega, by omega, by omega, ?_⟩
      rw [Int.toNat_natCast, Nat.zero_add, Nat.sub_zero]
      refine ⟨_, _, hdr _ _ m (n - m) (Store.set_same _ _ _) (by rw [hl]; omega), hdr _ _ 0 m (Store.set_same _ _ _) (by rw [hl]; omega), .inr ⟨id, m, n - m, t, _, rfl, Store.set_same _ _ _, ?_⟩⟩
      have e1 : ((List.replicate m row ++ List.replicate (n - m) z).drop 0).take m = List.replicate m row := by
        rw [List.drop_zero, List.take_left' (by simp)]
      have e2 : min (((List.replicate m row ++ List.replicate (n - m) z).drop 0).take m).length (((List.replicate m row ++ List.replicate (n - m) z).drop m).take (n - m)).length = min m (n - m) := by
        rw [e1, List.length_take, List.length_drop, hl]; simp
      have e3 : min (((((List.replicate m row ++ List.replicate (n - m) z).drop 0).take m).length : Nat) : Int) (((((List.replicate m row ++ List.replicate (n - m) z).drop m).take (n - m)).length : Nat) : Int) = ((min m (n - m) : Nat) : Int) := by
        rw [← e2]; omega
      rw [e3, e2, e1, rep_rows (by omega) (by omega), set_set]
      have hk : 0 < min m (n - m) := by have := hm' (by omega); omega
      have hw2 : w64 ((m : Int) + ((min m (n - m) : Nat) : Int)) = ((m + min m (n - m) : Nat) : Int) := by rw [w64_id (by omega) (by omega)]; omega
      show (∃ m' : Nat, w64 ((m : Int) + ((min m (n - m) : Nat) : Int)) = m' ∧ _) ∧ _
      rw [hw2]
      refine ⟨⟨m + min m (n - m), rfl, by omega, fun _ => by omega, rfl⟩, ?_⟩
      show n - ((m + min m (n - m) : Nat) : Int).toNat < n - ((m : Nat) : Int).toNat
      omega
    · have e : m = n := by omega
      subst e
      refine hQ _ _ ⟨id, hid, rfl, ?_⟩
      rw [Nat.sub_self, List.replicate_zero, List.append_nil]
  by_cases h0 : n = 0
  · subst h0
    exact .inl ⟨rfl, hloop 0 _ (by omega) (by omega) rfl⟩
  · refine .inr ⟨id, 0, n, t, _, rfl, Store.set_same _ _ _, ?_⟩
    have e1 : min 1 n = 1 := by omega
    rw [e1, set_set]
    refine hloop 1 _ (by omega) (by omega) ?_
    congr 2
    rw [List.drop_replicate]; simp
end Go.Fw
end
