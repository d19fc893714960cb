/-
  Proofs that the statement of this claim leans on: part 4.
-/
import Derived.Test.YtcbmibgfmlpobaaGreatP3
section
set_option maxRecDepth 100000
set_option linter.unusedVariables false
namespace Go.Proofs.YtcbmibgfmlpobaaGreat
open Go.Fw Go.Proofs
def an_locks_Request : Ann := { esc := [6, 7], cbs := [4, 5], draws := [], loops := [], joins := [] }
def V_locks_Request (c0 : D) (c1 : D) (c2 : D) (c3 : D) (c4 : D) (c5 : Int) (c6 : Int) (c7 : Int) (c8 : Int) (k0 : D) (k1 : D) (k2 : D) (k3 : D) (k4 : D) (k5 : D) (k6 : Bool) (now : Int) (r : Int) (σ : Store) (Qp : RV → Store → Prop) : Prop :=
  Fw.newObj σ (.live t_int [[.int .i64 now]]) (fun (id : Nat) => fun (σ' : Store) => Fw.newObj σ' (.live t_int [[.int .i64 r]]) (fun (id1 : Nat) => fun (σ'1 : Store) => ∃ row : List D, (Row σ'1 (.osl id 0 1) 0 row) ∧ ∃ n : Int, ((List.take 1 row) = ([.int .i64 n] : List D)) ∧ DCalls Tryz.prog n_locks_change [.agg [c0, c1, c2, c3, c4, .int .i64 c5, .int .i64 c6, .int .i64 c7, .int .i64 c8], .agg [k0, k1, k2, k3, k4, k5, .bool k6], .one (.int .i64 n), .one (.fn n_locks_Request_1 [] [(false, [.el (.osl id 0 1) 0 0]), (false, [.el (.osl id1 0 1) 0 0])])] σ'1 (fun (r1 : RV) => fun (σ'2 : Store) => ∃ d : D, ∃ d1 : D, ∃ d2 : D, ∃ d3 : D, ∃ d4 : D, ∃ d5 : D, ∃ b : Bool, ∃ n1 : Int, (r1 = (.tup [.agg [d, d1, d2, d3, d4, d5, .bool b], .one (.int .i64 n1)] : RV)) ∧ Qp (.tup [.agg [d, d1, d2, d3, d4, d5, .bool b], .one (.int .i64 n1)]) σ'2)))
theorem W_locks_Request (c0 : D) (c1 : D) (c2 : D) (c3 : D) (c4 : D) (c5 : Int) (c6 : Int) (c7 : Int) (c8 : Int) (k0 : D) (k1 : D) (k2 : D) (k3 : D) (k4 : D) (k5 : D) (k6 : Bool) (now : Int) (r : Int) (σ : Store) (Qp : RV → Store → Prop) (h : V_locks_Request c0 c1 c2 c3 c4 c5 c6 c7 c8 k0 k1 k2 k3 k4 k5 k6 now r σ Qp) : DCalls Tryz.prog n_locks_Request [.agg [c0, c1, c2, c3, c4, .int .i64 c5, .int .i64 c6, .int .i64 c7, .int .i64 c8], .agg [k0, k1, k2, k3, k4, k5, .bool k6], .one (.int .i64 now), .one (.int .i64 r)] σ Qp :=
  dcalls_of_body mixed (by kernel_rfl) Tryz.func7 an_locks_Request ((show V_locks_Request c0 c1 c2 c3 c4 c5 c6 c7 c8 k0 k1 k2 k3 k4 k5 k6 now r σ Qp = dbody Tryz.prog Tryz.f7 an_locks_Request [.agg [c0, c1, c2, c3, c4, .int .i64 c5, .int .i64 c6, .int .i64 c7, .int .i64 c8], .agg [k0, k1, k2, k3, k4, k5, .bool k6], .one (.int .i64 now), .one (.int .i64 r)] σ Qp by kernel_rfl) ▸ h)
def an_law15_seen : Ann := { esc := [], cbs := [], draws := [(2, { ord := [0, 1, 4, 5, 2, 3, 6, 7, 8], nb := [0, 1], av := [], dir := [] })], loops := [], joins := [] }
def V_law15_seen (occ : Int) (stamp : Int) (σ : Store) (Qp : RV → Store → Prop) : Prop :=
  Fw.newObj σ (.live t_Look [[.int .i64 occ, .int .i64 stamp, .bool true], [.int .i64 occ, .int .i64 stamp, .bool true]]) (fun (id : Nat) => fun (σ' : Store) => ((0 : Int) ≤ 2) ∧ ((2 : Int) ≤ 2) ∧ (((24 : Int) * 2) ≤ (2 ^ 48)) ∧ Fw.newObj σ' (.live t_Look [[.int .i64 0, .int .i64 0, .bool false], [.int .i64 0, .int .i64 0, .bool false]]) (fun (id1 : Nat) => fun (σ'1 : Store) => Fw.newObj σ'1 (.live t_Look [[.int .i64 1, .int .i64 stamp, .bool true]]) (fun (id2 : Nat) => fun (σ'2 : Store) => Qp (.a (.agg [.osl id 0 2, .osl id1 0 2, .nils, .osl id2 0 1])) σ'2)))
theorem W_law15_seen (occ : Int) (stamp : Int) (σ : Store) (Qp : RV → Store → Prop) (h : V_law15_seen occ stamp σ Qp) : DCalls Tryz.prog n_law15_seen [.one (.int .i64 occ), .one (.int .i64 stamp)] σ Qp :=
  dcalls_of_body mixed (by kernel_rfl) Tryz.func11 an_law15_seen ((show V_law15_seen occ stamp σ Qp = dbody Tryz.prog Tryz.f11 an_law15_seen [.one (.int .i64 occ), .one (.int .i64 stamp)] σ Qp by kernel_rfl) ▸ h)
def an_locks_desk_request : Ann := { esc := [], cbs := [], draws := [(24, { ord := [0, 1, 2, 3, 4, 5, 6, 7, 8, 9, 10, 11, 12, 13, 14, 15, 16, 17, 18, 19, 20, 21], nb := [6], av := [], dir := [], sp := [19] }), (29, { ord := [0, 1, 2, 3, 4, 5, 6, 7, 8, 9, 10, 11, 12, 13, 14, 15, 16, 17], nb := [], av := [], dir := [], sp := [15] })], loops := [(16, { mods := [(66, SlotSh.one (Sh.int IntKind.i64))], keep := [0, 1, 2, 7, 64, 65] }), (22, { mods := [(90, SlotSh.one (Sh.int IntKind.i64))], keep := [0, 1, 2, 88, 89] }), (27, { mods := [(123, SlotSh.one (Sh.int IntKind.i64))], keep := [0, 1, 121, 122] })], joins := [(15, { mods := [], keep := [0, 1, 2, 7, 9] })] }
def V_locks_desk_request (d : D) (now : Int) (r : Int) (σ : Store) (Qp : RV → Store → Prop) : Prop :=
  DCalls Tryz.prog n_locks_desk_state [.one d, .one (.int .i64 r)] σ (fun (r1 : RV) => fun (σ' : Store) => ∃ d1 : D, ∃ n : Int, (r1 = (.tup [.one d1, .one (.int .i64 n)] : RV)) ∧ bcase (n != 0) (Qp (.a (.one (.int .i64 n))) σ') ((NotNil d1) ∧ ∃ s : D, ∃ i : Nat, ∃ off : Nat, (d1 = (.el s i off : D)) ∧ ∃ row : List D, (Row σ' s i row) ∧ ∃ n1 : Int, ((List.take 1 (List.drop (off + 0) row)) = ([.int .i64 n1] : List D)) ∧ bcase (n1 != 0) (Qp (.a (.one (.int .i64 28))) σ') ((NotNil d) ∧ ∃ s1 : D, ∃ i1 : Nat, ∃ off1 : Nat, (d = (.el s1 i1 off1 : D)) ∧ ∃ row1 : List D, (Row σ' s1 i1 row1) ∧ ∃ d2 : D, ∃ d3 : D, ∃ d4 : D, ∃ d5 : D, ∃ d6 : D, ∃ n2 : Int, ∃ n3 : Int, ∃ n4 : Int, ∃ n5 : Int, ((List.take 9 (List.drop (off1 + 0) row1)) = ([d2, d3, d4, d5, d6, .int .i64 n2, .int .i64 n3, .int .i64 n4, .int .i64 n5] : List D)) ∧ DCalls Tryz.prog n_conf_Locks [.agg [d2, d3, d4, d5, d6, .int .i64 n2, .int .i64 n3, .int .i64 n4, .int .i64 n5], .one (.int .i64 r)] σ' (fun (r2 : RV) => fun (σ'1 : Store) => ∃ d7 : D, (r2 = (.a (.one d7) : RV)) ∧ DCalls Tryz.prog n_locks_desk_may [.one d, .one (.int .i64 r), .one d7] σ'1 (fun (r3 : RV) => fun (σ'2 : Store) => ∃ n6 : Int, (r3 = (.a (.one (.int .i64 n6)) : RV)) ∧ bcase (n6 != 0) (Qp (.a (.one (.int .i64 n6))) σ'2) (∀ R : Store → Prop, (∀ σ'3 : Store, (∃ len : Nat, (Len d7 len) ∧ ∃ I : Int → Store → Prop, ∃ μ : Int → Store → Nat, (I 0 σ'3) ∧ ∀ n7 : Int, ∀ σ'4 : Store, (I n7 σ'4) → bcase (decide (n7 < (len : Int))) (∃ len1 : Nat, (Idx Tryz.prog σ'4 d7 1 len1) ∧ ((0 : Int) ≤ n7) ∧ (n7 < (len1 : Int)) ∧ ∃ row2 : List D, (Row σ'4 d7 (Int.toNat n7) row2) ∧ ∃ n8 : Int, ((List.take 1 row2) = ([.int .i64 n8] : List D)) ∧ (NotNil d) ∧ ∃ s2 : D, ∃ i2 : Nat, ∃ off2 : Nat, (d = (.el s2 i2 off2 : D)) ∧ ∃ row3 : List D, (Row σ'4 s2 i2 row3) ∧ ∃ d8 : D, ((List.take 1 (List.drop ((off2 + 9) + 0) row3)) = ([d8] : List D)) ∧ ∃ len2 : Nat, (Idx Tryz.prog σ'4 d8 1 len2) ∧ ((0 : Int) ≤ n8) ∧ (n8 < (len2 : Int)) ∧ storeEl [.int .i64 (w64 (r + 1))] σ'4 d8 (Int.toNat n8) 0 (fun (σ'5 : Store) => (I (w64 (n7 + 1)) σ'5) ∧ ((μ (w64 (n7 + 1)) σ'5) < (μ n7 σ'4)))) ((NotNil d1) ∧ ∃ s2 : D, ∃ i2 : Nat, ∃ off2 : Nat, (d1 = (.el s2 i2 off2 : D)) ∧ storeEl [.int .i64 1, .int .i64 0, .int .i64 0, .int .i64 0] σ'4 s2 i2 off2 (fun (σ'5 : Store) => (NotNil d) ∧ ∃ s3 : D, ∃ i3 : Nat, ∃ off3 : Nat, (d = (.el s3 i3 off3 : D)) ∧ ∃ row2 : List D, (Row σ'5 s3 i3 row2) ∧ ∃ d8 : D, ∃ d9 : D, ∃ d10 : D, ∃ d11 : D, ∃ d12 : D, ∃ n8 : Int, ∃ n9 : Int, ∃ n10 : Int, ∃ n11 : Int, ((List.take 9 (List.drop (off3 + 0) row2)) = ([d8, d9, d10, d11, d12, .int .i64 n8, .int .i64 n9, .int .i64 n10, .int .i64 n11] : List D)) ∧ DCalls Tryz.prog n_mover_Needs [.agg [d8, d9, d10, d11, d12, .int .i64 n8, .int .i64 n9, .int .i64 n10, .int .i64 n11], .one (.int .i64 r)] σ'5 (fun (r4 : RV) => fun (σ'6 : Store) => ∃ d13 : D, (r4 = (.a (.one d13) : RV)) ∧ ∃ len1 : Nat, (Len d13 len1) ∧ ∃ I1 : Int → Store → Prop, ∃ μ1 : Int → Store → Nat, (I1 0 σ'6) ∧ ∀ n12 : Int, ∀ σ'7 : Store, (I1 n12 σ'7) → bcase (decide (n12 < (len1 : Int))) (∃ len2 : Nat, (Idx Tryz.prog σ'7 d13 2 len2) ∧ ((0 : Int) ≤ n12) ∧ (n12 < (len2 : Int)) ∧ ∃ row3 : List D, (Row σ'7 d13 (Int.toNat n12) row3) ∧ ∃ n13 : Int, ∃ n14 : Int, ((List.take 2 row3) = ([.int .i64 n13, .int .i64 n14] : List D)) ∧ ∃ pre : List A → Store → Prop, ∃ post : List A → Store → RV → Store → Prop, (SpecOk Tryz.prog n_mover_Command pre post) ∧ (NotNil d) ∧ ∃ s4 : D, ∃ i4 : Nat, ∃ off4 : Nat, (d = (.el s4 i4 off4 : D)) ∧ ∃ row4 : List D, (Row σ'7 s4 i4 row4) ∧ ∃ d14 : D, ((List.take 1 (List.drop ((off4 + 9) + 2) row4)) = ([d14] : List D)) ∧ (NotNil d) ∧ ∃ s5 : D, ∃ i5 : Nat, ∃ off5 : Nat, (d = (.el s5 i5 off5 : D)) ∧ ∃ row5 : List D, (Row σ'7 s5 i5 row5) ∧ ∃ d15 : D, ((List.take 1 (List.drop ((off5 + 9) + 2) row5)) = ([d15] : List D)) ∧ ∃ len3 : Nat, (Idx Tryz.prog σ'7 d15 2 len3) ∧ ((0 : Int) ≤ n13) ∧ (n13 < (len3 : Int)) ∧ ∃ row6 : List D, (Row σ'7 d15 (Int.toNat n13) row6) ∧ ∃ n15 : Int, ∃ n16 : Int, ((List.take 2 row6) = ([.int .i64 n15, .int .i64 n16] : List D)) ∧ (pre [.agg [.int .i64 n15, .int .i64 n16], .one (.int .i64 now), .one (.int .i64 n14)] σ'7) ∧ ∀ r5 : RV, ∀ s6 : Store, (post [.agg [.int .i64 n15, .int .i64 n16], .one (.int .i64 now), .one (.int .i64 n14)] σ'7 r5 s6) → ∃ n17 : Int, ∃ n18 : Int, (r5 = (.a (.agg [.int .i64 n17, .int .i64 n18]) : RV)) ∧ ∃ len4 : Nat, (Idx Tryz.prog s6 d14 2 len4) ∧ ((0 : Int) ≤ n13) ∧ (n13 < (len4 : Int)) ∧ storeEl [.int .i64 n17, .int .i64 n18] s6 d14 (Int.toNat n13) 0 (fun (σ'8 : Store) => (I1 (w64 (n12 + 1)) σ'8) ∧ ((μ1 (w64 (n12 + 1)) σ'8) < (μ1 n12 σ'7)))) ((NotNil d) ∧ ∃ s4 : D, ∃ i4 : Nat, ∃ off4 : Nat, (d = (.el s4 i4 off4 : D)) ∧ ∃ row3 : List D, (Row σ'7 s4 i4 row3) ∧ ∃ d14 : D, ∃ d15 : D, ∃ d16 : D, ∃ d17 : D, ∃ d18 : D, ∃ n13 : Int, ∃ n14 : Int, ∃ n15 : Int, ∃ n16 : Int, ((List.take 9 (List.drop (off4 + 0) row3)) = ([d14, d15, d16, d17, d18, .int .i64 n13, .int .i64 n14, .int .i64 n15, .int .i64 n16] : List D)) ∧ DCalls Tryz.prog n_mover_Crossings [.agg [d14, d15, d16, d17, d18, .int .i64 n13, .int .i64 n14, .int .i64 n15, .int .i64 n16], .one (.int .i64 r)] σ'7 (fun (r5 : RV) => fun (σ'8 : Store) => ∃ d19 : D, (r5 = (.a (.one d19) : RV)) ∧ ∃ len2 : Nat, (Len d19 len2) ∧ ∃ I2 : Int → Store → Prop, ∃ μ2 : Int → Store → Nat, (I2 0 σ'8) ∧ ∀ n17 : Int, ∀ σ'9 : Store, (I2 n17 σ'9) → bcase (decide (n17 < (len2 : Int))) (∃ len3 : Nat, (Idx Tryz.prog σ'9 d19 1 len3) ∧ ((0 : Int) ≤ n17) ∧ (n17 < (len3 : Int)) ∧ ∃ row4 : List D, (Row σ'9 d19 (Int.toNat n17) row4) ∧ ∃ n18 : Int, ((List.take 1 row4) = ([.int .i64 n18] : List D)) ∧ ∃ pre : List A → Store → Prop, ∃ post : List A → Store → RV → Store → Prop, (SpecOk Tryz.prog n_mover_Command pre post) ∧ (NotNil d) ∧ ∃ s5 : D, ∃ i5 : Nat, ∃ off5 : Nat, (d = (.el s5 i5 off5 : D)) ∧ ∃ row5 : List D, (Row σ'9 s5 i5 row5) ∧ ∃ d20 : D, ((List.take 1 (List.drop ((off5 + 9) + 3) row5)) = ([d20] : List D)) ∧ (NotNil d) ∧ ∃ s6 : D, ∃ i6 : Nat, ∃ off6 : Nat, (d = (.el s6 i6 off6 : D)) ∧ ∃ row6 : List D, (Row σ'9 s6 i6 row6) ∧ ∃ d21 : D, ((List.take 1 (List.drop ((off6 + 9) + 3) row6)) = ([d21] : List D)) ∧ ∃ len4 : Nat, (Idx Tryz.prog σ'9 d21 2 len4) ∧ ((0 : Int) ≤ n18) ∧ (n18 < (len4 : Int)) ∧ ∃ row7 : List D, (Row σ'9 d21 (Int.toNat n18) row7) ∧ ∃ n19 : Int, ∃ n20 : Int, ((List.take 2 row7) = ([.int .i64 n19, .int .i64 n20] : List D)) ∧ (pre [.agg [.int .i64 n19, .int .i64 n20], .one (.int .i64 now), .one (.int .i64 1)] σ'9) ∧ ∀ r6 : RV, ∀ s7 : Store, (post [.agg [.int .i64 n19, .int .i64 n20], .one (.int .i64 now), .one (.int .i64 1)] σ'9 r6 s7) → ∃ n21 : Int, ∃ n22 : Int, (r6 = (.a (.agg [.int .i64 n21, .int .i64 n22]) : RV)) ∧ ∃ len5 : Nat, (Idx Tryz.prog s7 d20 2 len5) ∧ ((0 : Int) ≤ n18) ∧ (n18 < (len5 : Int)) ∧ storeEl [.int .i64 n21, .int .i64 n22] s7 d20 (Int.toNat n18) 0 (fun (σ'10 : Store) => (I2 (w64 (n17 + 1)) σ'10) ∧ ((μ2 (w64 (n17 + 1)) σ'10) < (μ2 n17 σ'9)))) ((NotNil d) ∧ ∃ s5 : D, ∃ i5 : Nat, ∃ off5 : Nat, (d = (.el s5 i5 off5 : D)) ∧ storeEl [.bool true] σ'9 s5 i5 ((off5 + 9) + 6) (fun (σ'10 : Store) => Qp (.a (.one (.int .i64 0))) σ'10)))))))) → R σ'3) → DCalls Tryz.prog n_locks_desk_line [.one d, .one (.int .i64 r)] σ'2 (fun (r4 : RV) => fun (σ'3 : Store) => ∃ d8 : D, (r4 = (.a (.one d8) : RV)) ∧ ∃ b : Bool, (IsNil .pt d8 b) ∧ bcase (b != true) ((NotNil d8) ∧ ∃ s2 : D, ∃ i2 : Nat, ∃ off2 : Nat, (d8 = (.el s2 i2 off2 : D)) ∧ ∃ row2 : List D, (Row σ'3 s2 i2 row2) ∧ ∃ n7 : Int, ((List.take 1 (List.drop (off2 + 0) row2)) = ([.int .i64 n7] : List D)) ∧ bcase (decide (n7 ≥ 4294967295)) (Qp (.a (.one (.int .i64 5))) σ'3) ((NotNil d8) ∧ ∃ s3 : D, ∃ i3 : Nat, ∃ off3 : Nat, (d8 = (.el s3 i3 off3 : D)) ∧ ∃ row3 : List D, (Row σ'3 s3 i3 row3) ∧ ∃ n8 : Int, ((List.take 1 (List.drop (off3 + 0) row3)) = ([.int .i64 n8] : List D)) ∧ (NotNil d8) ∧ ∃ s4 : D, ∃ i4 : Nat, ∃ off4 : Nat, (d8 = (.el s4 i4 off4 : D)) ∧ storeEl [.int .i64 (w64 (n8 + 1))] σ'3 s4 i4 (off4 + 0) (fun (σ'4 : Store) => R σ'4))) (R σ'3))))))))
theorem W_locks_desk_request (d : D) (now : Int) (r : Int) (σ : Store) (Qp : RV → Store → Prop) (h : V_locks_desk_request d now r σ Qp) : DCalls Tryz.prog n_locks_desk_request [.one d, .one (.int .i64 now), .one (.int .i64 r)] σ Qp :=
  dcalls_of_body mixed (by kernel_rfl) Tryz.func15 an_locks_desk_request ((show V_locks_desk_request d now r σ Qp = dbody Tryz.prog Tryz.f15 an_locks_desk_request [.one d, .one (.int .i64 now), .one (.int .i64 r)] σ Qp by kernel_rfl) ▸ h)
def an_block_desk_line : Ann := { esc := [], cbs := [], draws := [], loops := [], joins := [(6, { mods := [], keep := [0, 1, 6] })] }
def V_block_desk_line (d : D) (l : D) (s : Int) (σ : Store) (Qp : RV → Store → Prop) : Prop :=
  (NotNil l) ∧ ∃ s1 : D, ∃ i : Nat, ∃ off : Nat, (l = (.el s1 i off : D)) ∧ ∃ row : List D, (Row σ s1 i row) ∧ ∃ n : Int, ((List.take 1 (List.drop (off + 2) row)) = ([.int .i64 n] : List D)) ∧ ∀ R : Store → Prop, (∀ σ' : Store, ((NotNil d) ∧ ∃ s2 : D, ∃ i1 : Nat, ∃ off1 : Nat, (d = (.el s2 i1 off1 : D)) ∧ ∃ row1 : List D, (Row σ' s2 i1 row1) ∧ ∃ b : Bool, ((List.take 1 (List.drop (off1 + 21) row1)) = ([.bool b] : List D)) ∧ bcase (!b) ((NotNil l) ∧ ∃ s3 : D, ∃ i2 : Nat, ∃ off2 : Nat, (l = (.el s3 i2 off2 : D)) ∧ storeEl [.int .i64 n] σ' s3 i2 (off2 + 3) (fun (σ'1 : Store) => Qp (.tup []) σ'1)) (Qp (.tup []) σ')) → R σ') → (NotNil d) ∧ ∃ s2 : D, ∃ i1 : Nat, ∃ off1 : Nat, (d = (.el s2 i1 off1 : D)) ∧ ∃ row1 : List D, (Row σ s2 i1 row1) ∧ ∃ d1 : D, ((List.take 1 (List.drop ((off1 + 0) + 0) row1)) = ([d1] : List D)) ∧ ∃ len : Nat, (Idx Tryz.prog σ d1 1 len) ∧ ((0 : Int) ≤ s) ∧ (s < (len : Int)) ∧ ∃ row2 : List D, (Row σ d1 (Int.toNat s) row2) ∧ ∃ n1 : Int, ((List.take 1 row2) = ([.int .i64 n1] : List D)) ∧ bcase (n1 == (-2)) (DCalls Tryz.prog n_block_desk_back [.one d, .one l, .one (.int .i64 s)] σ (fun (r : RV) => fun (σ' : Store) => (r = (.tup [] : RV)) ∧ R σ')) ((NotNil d) ∧ ∃ s3 : D, ∃ i2 : Nat, ∃ off2 : Nat, (d = (.el s3 i2 off2 : D)) ∧ ∃ row3 : List D, (Row σ s3 i2 row3) ∧ ∃ d2 : D, ((List.take 1 (List.drop ((off2 + 0) + 0) row3)) = ([d2] : List D)) ∧ ∃ len1 : Nat, (Idx Tryz.prog σ d2 1 len1) ∧ ((0 : Int) ≤ s) ∧ (s < (len1 : Int)) ∧ ∃ row4 : List D, (Row σ d2 (Int.toNat s) row4) ∧ ∃ n2 : Int, ((List.take 1 row4) = ([.int .i64 n2] : List D)) ∧ bcase (n2 == 0) (DCalls Tryz.prog n_block_desk_may [.one d, .one l, .one (.int .i64 s)] σ (fun (r : RV) => fun (σ' : Store) => ∃ b : Bool, (r = (.a (.one (.bool b)) : RV)) ∧ bcase b (DCalls Tryz.prog n_block_desk_own [.one d, .one (.int .i64 s), .one (.int .i64 (-2))] σ' (fun (r1 : RV) => fun (σ'1 : Store) => (r1 = (.tup [] : RV)) ∧ (NotNil l) ∧ ∃ s4 : D, ∃ i3 : Nat, ∃ off3 : Nat, (l = (.el s4 i3 off3 : D)) ∧ ∃ row5 : List D, (Row σ'1 s4 i3 row5) ∧ ∃ n3 : Int, ((List.take 1 (List.drop ((off3 + 4) + 0) row5)) = ([.int .i64 n3] : List D)) ∧ (NotNil l) ∧ ∃ s5 : D, ∃ i4 : Nat, ∃ off4 : Nat, (l = (.el s5 i4 off4 : D)) ∧ storeEl [.int .i64 n3] σ'1 s5 i4 (off4 + 2) (fun (σ'2 : Store) => (NotNil l) ∧ ∃ s6 : D, ∃ i5 : Nat, ∃ off5 : Nat, (l = (.el s6 i5 off5 : D)) ∧ storeEl [.int .i64 0] σ'2 s6 i5 (off5 + 7) (fun (σ'3 : Store) => R σ'3)))) (R σ'))) (R σ))
theorem W_block_desk_line (d : D) (l : D) (s : Int) (σ : Store) (Qp : RV → Store → Prop) (h : V_block_desk_line d l s σ Qp) : DCalls Tryz.prog n_block_desk_line [.one d, .one l, .one (.int .i64 s)] σ Qp :=
  dcalls_of_body mixed (by kernel_rfl) Tryz.func19 an_block_desk_line ((show V_block_desk_line d l s σ Qp = dbody Tryz.prog Tryz.f19 an_block_desk_line [.one d, .one l, .one (.int .i64 s)] σ Qp by kernel_rfl) ▸ h)
def an_locks_times : Ann := { esc := [], cbs := [], draws := [], loops := [(2, { mods := [(9, SlotSh.one (Sh.int IntKind.i64))], keep := [0, 7, 8] })], joins := [] }
def V_locks_times (beyond : Int) (list : D) (σ : Store) (Qp : RV → Store → Prop) : Prop :=
  ∃ len : Nat, (Len list len) ∧ ∃ I : Int → Store → Prop, ∃ μ : Int → Store → Nat, (I 0 σ) ∧ ∀ n : Int, ∀ σ' : Store, (I n σ') → bcase (decide (n < (len : Int))) (∃ len1 : Nat, (Idx Tryz.prog σ' list 1 len1) ∧ ((0 : Int) ≤ n) ∧ (n < (len1 : Int)) ∧ ∃ row : List D, (Row σ' list (Int.toNat n) row) ∧ ∃ n1 : Int, ((List.take 1 row) = ([.int .i64 n1] : List D)) ∧ DCalls Tryz.prog n_locks_between [.one (.int .i64 n1), .one (.int .i64 0), .one (.int .i64 (w64 (4294967295 + beyond)))] σ' (fun (r : RV) => fun (σ'1 : Store) => ∃ b : Bool, (r = (.a (.one (.bool b)) : RV)) ∧ bcase (!b) (Qp (.a (.one (.bool false))) σ'1) ((I (w64 (n + 1)) σ'1) ∧ ((μ (w64 (n + 1)) σ'1) < (μ n σ'))))) (Qp (.a (.one (.bool true))) σ')
theorem W_locks_times (beyond : Int) (list : D) (σ : Store) (Qp : RV → Store → Prop) (h : V_locks_times beyond list σ Qp) : DCalls Tryz.prog n_locks_times [.one (.int .i64 beyond), .one list] σ Qp :=
  dcalls_of_body mixed (by kernel_rfl) Tryz.func23 an_locks_times ((show V_locks_times beyond list σ Qp = dbody Tryz.prog Tryz.f23 an_locks_times [.one (.int .i64 beyond), .one list] σ Qp by kernel_rfl) ▸ h)
def an_locks_desk_line : Ann := { esc := [], cbs := [], draws := [(4, { ord := [0, 1, 2, 3, 4, 5, 6, 7, 8, 9, 10], nb := [], av := [], dir := [] })], loops := [(2, { mods := [(18, SlotSh.one (Sh.int IntKind.i64))], keep := [0, 16, 17] })], joins := [] }
def V_locks_desk_line (d : D) (r : Int) (σ : Store) (Qp : RV → Store → Prop) : Prop :=
  (NotNil d) ∧ ∃ s : D, ∃ i : Nat, ∃ off : Nat, (d = (.el s i off : D)) ∧ ∃ row : List D, (Row σ s i row) ∧ ∃ d1 : D, ((List.take 1 (List.drop ((off + 0) + 4) row)) = ([d1] : List D)) ∧ ∃ len : Nat, (Idx Tryz.prog σ d1 6 len) ∧ ((0 : Int) ≤ r) ∧ (r < (len : Int)) ∧ ∃ row1 : List D, (Row σ d1 (Int.toNat r) row1) ∧ ∃ d2 : D, ((List.take 1 (List.drop 2 row1)) = ([d2] : List D)) ∧ ∃ len1 : Nat, (Len d2 len1) ∧ ∃ I : Int → Store → Prop, ∃ μ : Int → Store → Nat, (I 0 σ) ∧ ∀ n : Int, ∀ σ' : Store, (I n σ') → bcase (decide (n < (len1 : Int))) (∃ len2 : Nat, (Idx Tryz.prog σ' d2 3 len2) ∧ ((0 : Int) ≤ n) ∧ (n < (len2 : Int)) ∧ ∃ row2 : List D, (Row σ' d2 (Int.toNat n) row2) ∧ ∃ n1 : Int, ∃ n2 : Int, ∃ n3 : Int, ((List.take 3 row2) = ([.int .i64 n1, .int .i64 n2, .int .i64 n3] : List D)) ∧ (NotNil d) ∧ ∃ s1 : D, ∃ i1 : Nat, ∃ off1 : Nat, (d = (.el s1 i1 off1 : D)) ∧ ∃ row3 : List D, (Row σ' s1 i1 row3) ∧ ∃ d3 : D, ((List.take 1 (List.drop ((off1 + 0) + 0) row3)) = ([d3] : List D)) ∧ ∃ len3 : Nat, (Idx Tryz.prog σ' d3 3 len3) ∧ ((0 : Int) ≤ n1) ∧ (n1 < (len3 : Int)) ∧ ∃ row4 : List D, (Row σ' d3 (Int.toNat n1) row4) ∧ ∃ n4 : Int, ((List.take 1 (List.drop 2 row4)) = ([.int .i64 n4] : List D)) ∧ bcase (decide (n4 > 0)) ((NotNil d) ∧ ∃ s2 : D, ∃ i2 : Nat, ∃ off2 : Nat, (d = (.el s2 i2 off2 : D)) ∧ ∃ row5 : List D, (Row σ' s2 i2 row5) ∧ ∃ d4 : D, ((List.take 1 (List.drop ((off2 + 9) + 4) row5)) = ([d4] : List D)) ∧ ∃ len4 : Nat, (Idx Tryz.prog σ' d4 8 len4) ∧ ((0 : Int) ≤ n4) ∧ (n4 < (len4 : Int)) ∧ Qp (.a (.one (.el d4 (Int.toNat n4) 0))) σ') ((I (w64 (n + 1)) σ') ∧ ((μ (w64 (n + 1)) σ') < (μ n σ')))) (Qp (.a (.one .nilp)) σ')
theorem W_locks_desk_line (d : D) (r : Int) (σ : Store) (Qp : RV → Store → Prop) (h : V_locks_desk_line d r σ Qp) : DCalls Tryz.prog n_locks_desk_line [.one d, .one (.int .i64 r)] σ Qp :=
  dcalls_of_body mixed (by kernel_rfl) Tryz.func27 an_locks_desk_line ((show V_locks_desk_line d r σ Qp = dbody Tryz.prog Tryz.f27 an_locks_desk_line [.one d, .one (.int .i64 r)] σ Qp by kernel_rfl) ▸ h)
def an_conf_Check : Ann := { esc := [], cbs := [1], draws := [], loops := [(11, { mods := [(33, SlotSh.one (Sh.int IntKind.i64))], keep := [1, 3, 31, 32] })], joins := [] }
def V_conf_Check (c0 : D) (c1 : D) (c2 : D) (c3 : D) (c4 : D) (c5 : Int) (c6 : Int) (c7 : Int) (c8 : Int) (σ : Store) (Qp : RV → Store → Prop) : Prop :=
  DCalls Tryz.prog n_topo_Check [.one c0, .one c1] σ (fun (r : RV) => fun (σ' : Store) => ∃ n : Int, (r = (.a (.one (.int .i64 n)) : RV)) ∧ bcase (n != 0) (Qp (.a (.one (.int .i64 6))) σ') (DCalls Tryz.prog n_conf_plan_signals [.agg [c0, c1, c2, c3, c4, .int .i64 c5, .int .i64 c6, .int .i64 c7, .int .i64 c8]] σ' (fun (r1 : RV) => fun (σ'1 : Store) => ∃ b : Bool, (r1 = (.a (.one (.bool b)) : RV)) ∧ bcase (!b) (Qp (.a (.one (.int .i64 7))) σ'1) (DCalls Tryz.prog n_conf_plan_crossings [.agg [c0, c1, c2, c3, c4, .int .i64 c5, .int .i64 c6, .int .i64 c7, .int .i64 c8]] σ'1 (fun (r2 : RV) => fun (σ'2 : Store) => ∃ b1 : Bool, (r2 = (.a (.one (.bool b1)) : RV)) ∧ bcase (!b1) (Qp (.a (.one (.int .i64 8))) σ'2) (∃ len : Nat, (Len c4 len) ∧ bcase (decide ((len : Int) > 12)) (Qp (.a (.one (.int .i64 9))) σ'2) (∃ len1 : Nat, (Len c4 len1) ∧ ∃ I : Int → Store → Prop, ∃ μ : Int → Store → Nat, (I 0 σ'2) ∧ ∀ n1 : Int, ∀ σ'3 : Store, (I n1 σ'3) → bcase (decide (n1 < (len1 : Int))) (∃ len2 : Nat, (Idx Tryz.prog σ'3 c4 6 len2) ∧ ((0 : Int) ≤ n1) ∧ (n1 < (len2 : Int)) ∧ ∃ row : List D, (Row σ'3 c4 (Int.toNat n1) row) ∧ ∃ n2 : Int, ∃ n3 : Int, ∃ d : D, ∃ d1 : D, ∃ d2 : D, ∃ b2 : Bool, ((List.take 6 row) = ([.int .i64 n2, .int .i64 n3, d, d1, d2, .bool b2] : List D)) ∧ DCalls Tryz.prog n_conf_plan_route [.agg [c0, c1, c2, c3, c4, .int .i64 c5, .int .i64 c6, .int .i64 c7, .int .i64 c8], .agg [.int .i64 n2, .int .i64 n3, d, d1, d2, .bool b2]] σ'3 (fun (r3 : RV) => fun (σ'4 : Store) => ∃ n4 : Int, (r3 = (.a (.one (.int .i64 n4)) : RV)) ∧ bcase (n4 != 0) (Qp (.a (.one (.int .i64 n4))) σ'4) ((([[c0, c1, c2, c3, c4, .int .i64 c5, .int .i64 c6, .int .i64 c7, .int .i64 c8]] : List (List D)) = ([[c0, c1, c2, c3, c4, .int .i64 c5, .int .i64 c6, .int .i64 c7, .int .i64 c8]] : List (List D))) ∧ (I (w64 (n1 + 1)) σ'4) ∧ ((μ (w64 (n1 + 1)) σ'4) < (μ n1 σ'3))))) (DCalls Tryz.prog n_conf_between [.one (.int .i64 c5), .one (.int .i64 1), .one (.int .i64 8)] σ'3 (fun (r3 : RV) => fun (σ'4 : Store) => ∃ b2 : Bool, (r3 = (.a (.one (.bool b2)) : RV)) ∧ bcase (!b2) (Qp (.a (.one (.int .i64 12))) σ'4) (DCalls Tryz.prog n_conf_between [.one (.int .i64 c6), .one (.int .i64 0), .one (.int .i64 8)] σ'4 (fun (r4 : RV) => fun (σ'5 : Store) => ∃ b3 : Bool, (r4 = (.a (.one (.bool b3)) : RV)) ∧ bcase (!b3) (Qp (.a (.one (.int .i64 12))) σ'5) (DCalls Tryz.prog n_conf_between [.one (.int .i64 c7), .one (.int .i64 (w64 ((w64 (c5 + c6)) + 1))), .one (.int .i64 40)] σ'5 (fun (r5 : RV) => fun (σ'6 : Store) => ∃ b4 : Bool, (r5 = (.a (.one (.bool b4)) : RV)) ∧ bcase (!b4) (Qp (.a (.one (.int .i64 12))) σ'6) (DCalls Tryz.prog n_conf_between [.one (.int .i64 c8), .one (.int .i64 1), .one (.int .i64 1000000)] σ'6 (fun (r6 : RV) => fun (σ'7 : Store) => ∃ b5 : Bool, (r6 = (.a (.one (.bool b5)) : RV)) ∧ bcase (!b5) (Qp (.a (.one (.int .i64 12))) σ'7) (Qp (.a (.one (.int .i64 0))) σ'7))))))))))))))))
theorem W_conf_Check (c0 : D) (c1 : D) (c2 : D) (c3 : D) (c4 : D) (c5 : Int) (c6 : Int) (c7 : Int) (c8 : Int) (σ : Store) (Qp : RV → Store → Prop) (h : V_conf_Check c0 c1 c2 c3 c4 c5 c6 c7 c8 σ Qp) : DCalls Tryz.prog n_conf_Check [.agg [c0, c1, c2, c3, c4, .int .i64 c5, .int .i64 c6, .int .i64 c7, .int .i64 c8]] σ Qp :=
  dcalls_of_body mixed (by kernel_rfl) Tryz.func31 an_conf_Check ((show V_conf_Check c0 c1 c2 c3 c4 c5 c6 c7 c8 σ Qp = dbody Tryz.prog Tryz.f31 an_conf_Check [.agg [c0, c1, c2, c3, c4, .int .i64 c5, .int .i64 c6, .int .i64 c7, .int .i64 c8]] σ Qp by kernel_rfl) ▸ h)
def an_slices_Clone_LineState : Ann := { esc := [], cbs := [], draws := [], loops := [], joins := [] }
def V_slices_Clone_LineState (s : D) (σ : Store) (Qp : RV → Store → Prop) : Prop :=
  ∃ b : Bool, (IsNil .sl s b) ∧ bcase (b != false) (Qp (.a (.one .nils)) σ) (Fw.newObj σ (.live t_LineState []) (fun (id : Nat) => fun (σ' : Store) => appendTo Tryz.prog σ' t_LineState 64 (.osl id 0 0) s (fun (d : D) => fun (σ'1 : Store) => Qp (.a (.one d)) σ'1)))
theorem W_slices_Clone_LineState (s : D) (σ : Store) (Qp : RV → Store → Prop) (h : V_slices_Clone_LineState s σ Qp) : DCalls Tryz.prog n_slices_Clone_LineState [.one s] σ Qp :=
  dcalls_of_body mixed (by kernel_rfl) Tryz.func35 an_slices_Clone_LineState ((show V_slices_Clone_LineState s σ Qp = dbody Tryz.prog Tryz.f35 an_slices_Clone_LineState [.one s] σ Qp by kernel_rfl) ▸ h)
def an_block_section_1 : Ann := { esc := [], cbs := [2], draws := [], loops := [], joins := [] }
def V_block_section_1 (s0 : Int) (s1 : Int) (s2 : Int) (a1 : D) (σ : Store) (Qp : RV → Store → Prop) : Prop :=
  ∃ s : D, ∃ i : Nat, ∃ off : Nat, (a1 = (.el s i off : D)) ∧ ∃ row : List D, (Row σ s i row) ∧ ∃ n : Int, ((List.take 1 (List.drop off row)) = ([.int .i64 n] : List D)) ∧ Qp (.a (.one (.bool (s2 == n)))) σ
theorem W_block_section_1 (s0 : Int) (s1 : Int) (s2 : Int) (a1 : D) (σ : Store) (Qp : RV → Store → Prop) (h : V_block_section_1 s0 s1 s2 a1 σ Qp) : DCalls Tryz.prog n_block_section_1 [.agg [.int .i64 s0, .int .i64 s1, .int .i64 s2], .one a1] σ Qp :=
  dcalls_of_body mixed (by kernel_rfl) Tryz.func39 an_block_section_1 ((show V_block_section_1 s0 s1 s2 a1 σ Qp = dbody Tryz.prog Tryz.f39 an_block_section_1 [.agg [.int .i64 s0, .int .i64 s1, .int .i64 s2], .one a1] σ Qp by kernel_rfl) ▸ h)
def an_math_bits_Mul : Ann := { esc := [], cbs := [], draws := [], loops := [], joins := [] }
def V_math_bits_Mul (x : Int) (y : Int) (σ : Store) (Qp : RV → Store → Prop) : Prop :=
  DCalls Tryz.prog n_math_bits_Mul64 [.one (.int .u64 x), .one (.int .u64 y)] σ (fun (r : RV) => fun (σ' : Store) => ∃ n : Int, ∃ n1 : Int, (r = (.tup [.one (.int .u64 n), .one (.int .u64 n1)] : RV)) ∧ Qp (.tup [.one (.int .u64 n), .one (.int .u64 n1)]) σ')
theorem W_math_bits_Mul (x : Int) (y : Int) (σ : Store) (Qp : RV → Store → Prop) (h : V_math_bits_Mul x y σ Qp) : DCalls Tryz.prog n_math_bits_Mul [.one (.int .u64 x), .one (.int .u64 y)] σ Qp :=
  dcalls_of_body mixed (by kernel_rfl) Tryz.func43 an_math_bits_Mul ((show V_math_bits_Mul x y σ Qp = dbody Tryz.prog Tryz.f43 an_math_bits_Mul [.one (.int .u64 x), .one (.int .u64 y)] σ Qp by kernel_rfl) ▸ h)
def an_slices_Contains_int : Ann := { esc := [], cbs := [], draws := [], loops := [], joins := [] }
def V_slices_Contains_int (s : D) (v : Int) (σ : Store) (Qp : RV → Store → Prop) : Prop :=
  DCalls Tryz.prog n_slices_Index_int [.one s, .one (.int .i64 v)] σ (fun (r : RV) => fun (σ' : Store) => ∃ n : Int, (r = (.a (.one (.int .i64 n)) : RV)) ∧ Qp (.a (.one (.bool (decide (n ≥ 0))))) σ')
theorem W_slices_Contains_int (s : D) (v : Int) (σ : Store) (Qp : RV → Store → Prop) (h : V_slices_Contains_int s v σ Qp) : DCalls Tryz.prog n_slices_Contains_int [.one s, .one (.int .i64 v)] σ Qp :=
  dcalls_of_body mixed (by kernel_rfl) Tryz.func48 an_slices_Contains_int ((show V_slices_Contains_int s v σ Qp = dbody Tryz.prog Tryz.f48 an_slices_Contains_int [.one s, .one (.int .i64 v)] σ Qp by kernel_rfl) ▸ h)
def an_topo_Pos : Ann := { esc := [], cbs := [], draws := [], loops := [(2, { mods := [(15, SlotSh.one (Sh.int IntKind.i64))], keep := [1, 2, 13, 14] })], joins := [] }
def V_topo_Pos (kind : Int) (in_ : Int) (out_ : Int) (σ : Store) (Qp : RV → Store → Prop) : Prop :=
  DCalls Tryz.prog n_topo_ways [.one (.int .i64 kind)] σ (fun (r : RV) => fun (σ' : Store) => ∃ d : D, (r = (.a (.one d) : RV)) ∧ ∃ len : Nat, (Len d len) ∧ ∃ I : Int → Store → Prop, ∃ μ : Int → Store → Nat, (I 0 σ') ∧ ∀ n : Int, ∀ σ'1 : Store, (I n σ'1) → bcase (decide (n < (len : Int))) (∃ len1 : Nat, (Idx Tryz.prog σ'1 d 3 len1) ∧ ((0 : Int) ≤ n) ∧ (n < (len1 : Int)) ∧ ∃ row : List D, (Row σ'1 d (Int.toNat n) row) ∧ ∃ n1 : Int, ∃ n2 : Int, ∃ n3 : Int, ((List.take 3 row) = ([.int .i64 n1, .int .i64 n2, .int .i64 n3] : List D)) ∧ DCalls Tryz.prog n_topo_way_other [.agg [.int .i64 n1, .int .i64 n2, .int .i64 n3], .one (.int .i64 in_)] σ'1 (fun (r1 : RV) => fun (σ'2 : Store) => ∃ n4 : Int, ∃ b : Bool, (r1 = (.tup [.one (.int .i64 n4), .one (.bool b)] : RV)) ∧ bcase b (bcase (n4 == out_) (Qp (.tup [.one (.int .i64 n3), .one (.bool true)]) σ'2) ((I (w64 (n + 1)) σ'2) ∧ ((μ (w64 (n + 1)) σ'2) < (μ n σ'1)))) ((I (w64 (n + 1)) σ'2) ∧ ((μ (w64 (n + 1)) σ'2) < (μ n σ'1))))) (Qp (.tup [.one (.int .i64 0), .one (.bool false)]) σ'1))
theorem W_topo_Pos (kind : Int) (in_ : Int) (out_ : Int) (σ : Store) (Qp : RV → Store → Prop) (h : V_topo_Pos kind in_ out_ σ Qp) : DCalls Tryz.prog n_topo_Pos [.one (.int .i64 kind), .one (.int .i64 in_), .one (.int .i64 out_)] σ Qp :=
  dcalls_of_body mixed (by kernel_rfl) Tryz.func52 an_topo_Pos ((show V_topo_Pos kind in_ out_ σ Qp = dbody Tryz.prog Tryz.f52 an_topo_Pos [.one (.int .i64 kind), .one (.int .i64 in_), .one (.int .i64 out_)] σ Qp by kernel_rfl) ▸ h)
def an_conf_plan_signals : Ann := { esc := [], cbs := [1], draws := [(6, { ord := [0, 1, 2, 3, 4, 5, 6], nb := [], av := [], dir := [] })], loops := [(3, { mods := [(14, SlotSh.one (Sh.int IntKind.i64))], keep := [1, 3, 12, 13] })], joins := [] }
def V_conf_plan_signals (p0 : D) (p1 : D) (p2 : D) (p3 : D) (p4 : D) (p5 : Int) (p6 : Int) (p7 : Int) (p8 : Int) (σ : Store) (Qp : RV → Store → Prop) : Prop :=
  Fw.newObj σ (.mp 0 []) (fun (id : Nat) => fun (σ' : Store) => ∃ len : Nat, (Len p2 len) ∧ ∃ I : Int → Store → Prop, ∃ μ : Int → Store → Nat, (I 0 σ') ∧ ∀ n : Int, ∀ σ'1 : Store, (I n σ'1) → bcase (decide (n < (len : Int))) (∃ len1 : Nat, (Idx Tryz.prog σ'1 p2 2 len1) ∧ ((0 : Int) ≤ n) ∧ (n < (len1 : Int)) ∧ ∃ row : List D, (Row σ'1 p2 (Int.toNat n) row) ∧ ∃ n1 : Int, ∃ n2 : Int, ((List.take 2 row) = ([.int .i64 n1, .int .i64 n2] : List D)) ∧ DCalls Tryz.prog n_topo_Next [.one p1, .one (.int .i64 n1), .one (.int .i64 n2)] σ'1 (fun (r : RV) => fun (σ'2 : Store) => ∃ n3 : Int, ∃ n4 : Int, ∃ b : Bool, (r = (.tup [.one (.int .i64 n3), .one (.int .i64 n4), .one (.bool b)] : RV)) ∧ ∃ r1 : Option A, (MLook Tryz.prog t_Signal σ'2 (.omap id) (.agg [.int .i64 n1, .int .i64 n2]) r1) ∧ ∃ n5 : Int, ((Option.getD r1 (.one (.int .i64 0))) = (.one (.int .i64 n5) : A)) ∧ MEntry Tryz.prog t_Signal σ'2 (.omap id) (.agg [.int .i64 n1, .int .i64 n2]) (.one (.int .i64 0)) (fun (v : A) => fun (n6 : Int) => fun (σ'3 : Store) => MStamp σ'3 (.omap id) n6 (.one (.int .i64 (w64 (n5 + 1)))) (fun (σ'4 : Store) => bcase (!b) (Qp (.a (.one (.bool false))) σ'4) (∃ r2 : Option A, (MLook Tryz.prog t_Signal σ'4 (.omap id) (.agg [.int .i64 n1, .int .i64 n2]) r2) ∧ ∃ n7 : Int, ((Option.getD r2 (.one (.int .i64 0))) = (.one (.int .i64 n7) : A)) ∧ bcase (decide (n7 > 1)) (Qp (.a (.one (.bool false))) σ'4) ((I (w64 (n + 1)) σ'4) ∧ ((μ (w64 (n + 1)) σ'4) < (μ n σ'1)))))))) (∃ len1 : Nat, (Len p2 len1) ∧ Qp (.a (.one (.bool (decide ((len1 : Int) ≤ 12))))) σ'1))
theorem W_conf_plan_signals (p0 : D) (p1 : D) (p2 : D) (p3 : D) (p4 : D) (p5 : Int) (p6 : Int) (p7 : Int) (p8 : Int) (σ : Store) (Qp : RV → Store → Prop) (h : V_conf_plan_signals p0 p1 p2 p3 p4 p5 p6 p7 p8 σ Qp) : DCalls Tryz.prog n_conf_plan_signals [.agg [p0, p1, p2, p3, p4, .int .i64 p5, .int .i64 p6, .int .i64 p7, .int .i64 p8]] σ Qp :=
  dcalls_of_body mixed (by kernel_rfl) Tryz.func56 an_conf_plan_signals ((show V_conf_plan_signals p0 p1 p2 p3 p4 p5 p6 p7 p8 σ Qp = dbody Tryz.prog Tryz.f56 an_conf_plan_signals [.agg [p0, p1, p2, p3, p4, .int .i64 p5, .int .i64 p6, .int .i64 p7, .int .i64 p8]] σ Qp by kernel_rfl) ▸ h)
def an_slices_Grow_Mover : Ann := { esc := [], cbs := [], draws := [], loops := [], joins := [] }
def V_slices_Grow_Mover (n : Int) (σ : Store) (Qp : RV → Store → Prop) : Prop :=
  bcase (decide (n < 0)) False (∃ len : Nat, (Len .nils len) ∧ bcase (decide ((w64 (n - (w64 (0 - (len : Int))))) > 0)) (∃ len1 : Nat, (IdxN Tryz.prog σ .nils 2 len1) ∧ ((0 : Int) ≤ 0) ∧ ((0 : Int) ≤ 0) ∧ ((0 : Int) ≤ (len1 : Int)) ∧ ((0 : Int) ≤ (w64 (n - (w64 (0 - (len : Int)))))) ∧ (((16 : Int) * (w64 (n - (w64 (0 - (len : Int)))))) ≤ (2 ^ 47)) ∧ bcase (decide ((w64 (n - (w64 (0 - (len : Int)))) : Int) = 0)) (∃ len2 : Nat, (Len .nils len2) ∧ ∃ len3 : Nat, (IdxN Tryz.prog σ .nils 2 len3) ∧ ((0 : Int) ≤ 0) ∧ ((0 : Int) ≤ (len2 : Int)) ∧ ((len2 : Int) ≤ (len3 : Int)) ∧ Qp (.a (.one .nils)) σ) (Fw.newObj σ (.live t_Mover (List.replicate (Int.toNat (w64 (n - (w64 (0 - (len : Int)))))) [.int .i64 0, .int .i64 0])) (fun (id : Nat) => fun (σ' : Store) => ∃ len2 : Nat, (Len .nils len2) ∧ ∃ len3 : Nat, (IdxN Tryz.prog σ' (.osl id 0 (Int.toNat (w64 (n - (w64 (0 - (len : Int))))))) 2 len3) ∧ ((0 : Int) ≤ 0) ∧ ((0 : Int) ≤ (len2 : Int)) ∧ ((len2 : Int) ≤ (len3 : Int)) ∧ Qp (.a (.one (.osl id 0 ((Int.toNat (len2 : Int)) - 0)))) σ'))) (Qp (.a (.one .nils)) σ))
theorem W_slices_Grow_Mover (n : Int) (σ : Store) (Qp : RV → Store → Prop) (h : V_slices_Grow_Mover n σ Qp) : DCalls Tryz.prog n_slices_Grow_Mover [.one .nils, .one (.int .i64 n)] σ Qp :=
  dcalls_of_body mixed (by kernel_rfl) Tryz.func60 an_slices_Grow_Mover ((show V_slices_Grow_Mover n σ Qp = dbody Tryz.prog Tryz.f60 an_slices_Grow_Mover [.one .nils, .one (.int .i64 n)] σ Qp by kernel_rfl) ▸ h)
def an_topo_ways : Ann := { esc := [], cbs := [], draws := [], loops := [], joins := [] }
def V_topo_ways (kind : Int) (σ : Store) (Qp : RV → Store → Prop) : Prop :=
  bcase (kind == 0) (Fw.newObj σ (.live t_topo_way [[.int .i64 0, .int .i64 1, .int .i64 0]]) (fun (id : Nat) => fun (σ' : Store) => Qp (.a (.one (.osl id 0 1))) σ')) (bcase (kind == 1) (Fw.newObj σ (.live t_topo_way [[.int .i64 0, .int .i64 1, .int .i64 1], [.int .i64 0, .int .i64 2, .int .i64 2]]) (fun (id : Nat) => fun (σ' : Store) => Qp (.a (.one (.osl id 0 2))) σ')) (bcase (kind == 2) (Fw.newObj σ (.live t_topo_way [[.int .i64 0, .int .i64 1, .int .i64 0], [.int .i64 2, .int .i64 3, .int .i64 0]]) (fun (id : Nat) => fun (σ' : Store) => Qp (.a (.one (.osl id 0 2))) σ')) (Qp (.a (.one .nils)) σ)))
theorem W_topo_ways (kind : Int) (σ : Store) (Qp : RV → Store → Prop) (h : V_topo_ways kind σ Qp) : DCalls Tryz.prog n_topo_ways [.one (.int .i64 kind)] σ Qp :=
  dcalls_of_body mixed (by kernel_rfl) Tryz.func67 an_topo_ways ((show V_topo_ways kind σ Qp = dbody Tryz.prog Tryz.f67 an_topo_ways [.one (.int .i64 kind)] σ Qp by kernel_rfl) ▸ h)
def an_topo_Ends : Ann := { esc := [], cbs := [], draws := [], loops := [(3, { mods := [(3, SlotSh.one (Sh.int IntKind.i64)), (9, SlotSh.one (Sh.int IntKind.i64))], keep := [7, 8] })], joins := [] }
def V_topo_Ends (kind : Int) (σ : Store) (Qp : RV → Store → Prop) : Prop :=
  DCalls Tryz.prog n_topo_ways [.one (.int .i64 kind)] σ (fun (r : RV) => fun (σ' : Store) => ∃ d : D, (r = (.a (.one d) : RV)) ∧ ∃ len : Nat, (Len d len) ∧ ∃ I : Int → Int → Store → Prop, ∃ μ : Int → Int → Store → Nat, (I 0 0 σ') ∧ ∀ n : Int, ∀ n1 : Int, ∀ σ'1 : Store, (I n n1 σ'1) → bcase (decide (n1 < (len : Int))) (∃ len1 : Nat, (Idx Tryz.prog σ'1 d 3 len1) ∧ ((0 : Int) ≤ n1) ∧ (n1 < (len1 : Int)) ∧ ∃ row : List D, (Row σ'1 d (Int.toNat n1) row) ∧ ∃ n2 : Int, ∃ n3 : Int, ∃ n4 : Int, ((List.take 3 row) = ([.int .i64 n2, .int .i64 n3, .int .i64 n4] : List D)) ∧ ((0 : Int) ≤ 0) ∧ ((0 : Int) < (2 : Int)) ∧ ((0 : Int) ≤ 1) ∧ ((1 : Int) < (2 : Int)) ∧ (I (ite ((w64 (n3 + 1)) > (ite ((w64 (n2 + 1)) > n) (w64 (n2 + 1)) n)) (w64 (n3 + 1)) (ite ((w64 (n2 + 1)) > n) (w64 (n2 + 1)) n)) (w64 (n1 + 1)) σ'1) ∧ ((μ (ite ((w64 (n3 + 1)) > (ite ((w64 (n2 + 1)) > n) (w64 (n2 + 1)) n)) (w64 (n3 + 1)) (ite ((w64 (n2 + 1)) > n) (w64 (n2 + 1)) n)) (w64 (n1 + 1)) σ'1) < (μ n n1 σ'1))) (Qp (.a (.one (.int .i64 n))) σ'1))
theorem W_topo_Ends (kind : Int) (σ : Store) (Qp : RV → Store → Prop) (h : V_topo_Ends kind σ Qp) : DCalls Tryz.prog n_topo_Ends [.one (.int .i64 kind)] σ Qp :=
  dcalls_of_body mixed (by kernel_rfl) Tryz.func71 an_topo_Ends ((show V_topo_Ends kind σ Qp = dbody Tryz.prog Tryz.f71 an_topo_Ends [.one (.int .i64 kind)] σ Qp by kernel_rfl) ▸ h)
def an_slices_Equal_Need : Ann := { esc := [], cbs := [], draws := [(6, { ord := [0, 1, 2, 3, 4, 5, 6, 7, 8], nb := [], av := [], dir := [] })], loops := [(4, { mods := [(13, SlotSh.one (Sh.int IntKind.i64))], keep := [0, 1, 12] })], joins := [] }
def V_slices_Equal_Need (s1 : D) (s2 : D) (σ : Store) (Qp : RV → Store → Prop) : Prop :=
  ∃ len : Nat, (Len s1 len) ∧ ∃ len1 : Nat, (Len s2 len1) ∧ bcase ((len : Int) != (len1 : Int)) (Qp (.a (.one (.bool false))) σ) (∃ len2 : Nat, (Len s1 len2) ∧ ∃ I : Int → Store → Prop, ∃ μ : Int → Store → Nat, (I 0 σ) ∧ ∀ n : Int, ∀ σ' : Store, (I n σ') → bcase (decide (n < (len2 : Int))) (∃ len3 : Nat, (Idx Tryz.prog σ' s1 2 len3) ∧ ((0 : Int) ≤ n) ∧ (n < (len3 : Int)) ∧ ∃ row : List D, (Row σ' s1 (Int.toNat n) row) ∧ ∃ n1 : Int, ∃ n2 : Int, ((List.take 2 row) = ([.int .i64 n1, .int .i64 n2] : List D)) ∧ ∃ len4 : Nat, (Idx Tryz.prog σ' s2 2 len4) ∧ ((0 : Int) ≤ n) ∧ (n < (len4 : Int)) ∧ ∃ row1 : List D, (Row σ' s2 (Int.toNat n) row1) ∧ ∃ n3 : Int, ∃ n4 : Int, ((List.take 2 row1) = ([.int .i64 n3, .int .i64 n4] : List D)) ∧ bcase (!((n1 == n3) && (n2 == n4))) (Qp (.a (.one (.bool false))) σ') ((I (w64 (n + 1)) σ') ∧ ((μ (w64 (n + 1)) σ') < (μ n σ')))) (Qp (.a (.one (.bool true))) σ'))
theorem W_slices_Equal_Need (s1 : D) (s2 : D) (σ : Store) (Qp : RV → Store → Prop) (h : V_slices_Equal_Need s1 s2 σ Qp) : DCalls Tryz.prog n_slices_Equal_Need [.one s1, .one s2] σ Qp :=
  dcalls_of_body mixed (by kernel_rfl) Tryz.func75 an_slices_Equal_Need ((show V_slices_Equal_Need s1 s2 σ Qp = dbody Tryz.prog Tryz.f75 an_slices_Equal_Need [.one s1, .one s2] σ Qp by kernel_rfl) ▸ h)
def an_conf_plan_signal : Ann := { esc := [], cbs := [2], draws := [], loops := [], joins := [] }
def V_conf_plan_signal (p0 : D) (p1 : D) (p2 : D) (p3 : D) (p4 : D) (p5 : Int) (p6 : Int) (p7 : Int) (p8 : Int) (x : Int) (σ : Store) (Qp : RV → Store → Prop) : Prop :=
  bcase (decide (x < 0)) (Qp (.tup [.agg [.int .i64 0, .int .i64 0], .one (.bool false)]) σ) (∃ len : Nat, (Len p2 len) ∧ bcase (decide (x ≥ (len : Int))) (Qp (.tup [.agg [.int .i64 0, .int .i64 0], .one (.bool false)]) σ) (∃ len1 : Nat, (Idx Tryz.prog σ p2 2 len1) ∧ ((0 : Int) ≤ x) ∧ (x < (len1 : Int)) ∧ ∃ row : List D, (Row σ p2 (Int.toNat x) row) ∧ ∃ n : Int, ∃ n1 : Int, ((List.take 2 row) = ([.int .i64 n, .int .i64 n1] : List D)) ∧ Qp (.tup [.agg [.int .i64 n, .int .i64 n1], .one (.bool true)]) σ))
theorem W_conf_plan_signal (p0 : D) (p1 : D) (p2 : D) (p3 : D) (p4 : D) (p5 : Int) (p6 : Int) (p7 : Int) (p8 : Int) (x : Int) (σ : Store) (Qp : RV → Store → Prop) (h : V_conf_plan_signal p0 p1 p2 p3 p4 p5 p6 p7 p8 x σ Qp) : DCalls Tryz.prog n_conf_plan_signal [.agg [p0, p1, p2, p3, p4, .int .i64 p5, .int .i64 p6, .int .i64 p7, .int .i64 p8], .one (.int .i64 x)] σ Qp :=
  dcalls_of_body mixed (by kernel_rfl) Tryz.func90 an_conf_plan_signal ((show V_conf_plan_signal p0 p1 p2 p3 p4 p5 p6 p7 p8 x σ Qp = dbody Tryz.prog Tryz.f90 an_conf_plan_signal [.agg [p0, p1, p2, p3, p4, .int .i64 p5, .int .i64 p6, .int .i64 p7, .int .i64 p8], .one (.int .i64 x)] σ Qp by kernel_rfl) ▸ h)
def an_conf_plan_flank_1 : Ann := { esc := [], cbs := [2], draws := [], loops := [], joins := [] }
def V_conf_plan_flank_1 (n0 : Int) (n1 : Int) (a1 : D) (σ : Store) (Qp : RV → Store → Prop) : Prop :=
  ∃ s : D, ∃ i : Nat, ∃ off : Nat, (a1 = (.el s i off : D)) ∧ ∃ row : List D, (Row σ s i row) ∧ ∃ n : Int, ((List.take 1 (List.drop off row)) = ([.int .i64 n] : List D)) ∧ Qp (.a (.one (.bool (n0 == n)))) σ
theorem W_conf_plan_flank_1 (n0 : Int) (n1 : Int) (a1 : D) (σ : Store) (Qp : RV → Store → Prop) (h : V_conf_plan_flank_1 n0 n1 a1 σ Qp) : DCalls Tryz.prog n_conf_plan_flank_1 [.agg [.int .i64 n0, .int .i64 n1], .one a1] σ Qp :=
  dcalls_of_body mixed (by kernel_rfl) Tryz.func94 an_conf_plan_flank_1 ((show V_conf_plan_flank_1 n0 n1 a1 σ Qp = dbody Tryz.prog Tryz.f94 an_conf_plan_flank_1 [.agg [.int .i64 n0, .int .i64 n1], .one a1] σ Qp by kernel_rfl) ▸ h)
end Go.Proofs.YtcbmibgfmlpobaaGreat
end
section
set_option maxRecDepth 20000
set_option linter.unusedVariables false
set_option linter.unusedSimpArgs false
namespace Go.Proofs.YtcbmibgfmlpobaaGreat
open Go.Fw Go.Proofs Go.RowKit
variable {σ : Store}
theorem flatW (l : List (Int × Int × Int)) : ∀ row ∈ l.map encW, ∀ x ∈ row, Flat x := by
  intro row hrow x hx
  obtain ⟨w, _, rfl⟩ := List.mem_map.1 hrow
  simp [encW] at hx
  rcases hx with rfl | rfl | rfl <;> exact .int _ _
def WaysPost (σ : Store) (t : TypeId) (k : Int) (r : RV) (σ' : Store) : Prop := σ' = σ ∧ ∃ d, r = .a (.one d) ∧ ∀ s, At Tryz.prog s t d ((wayL k).map encW)
theorem ways_fin {t : TypeId} (hc : Tryz.prog.cellsOf t = 3) {k : Int} {rows : List (List D)} {n : Nat} {id : Nat} {σ' : Store} (hn : n = rows.length) (hl : rows.length < 100) (hid : σ id = .free) (he : Ext σ σ') (hs : σ' id = .live t rows) (hr : rows = (wayL k).map encW) :
    ∃ r' σ'', Ret Tryz.prog σ σ' (.a (.one (.osl id 0 n))) σ'' r' ∧ WaysPost σ t k r' σ'' := by
  have hat : At Tryz.prog σ' t (.osl id 0 n) rows := At.fresh hs (by omega) hn
  obtain ⟨d', h1, h2⟩ := ret_slice hat he (osl_new hid) (by rw [hr]; exact flatW _)
  exact ⟨.a (.one d'), σ, .pure he h1, rfl, d', rfl, fun s => hr ▸ h2 s⟩
theorem topo_ways_ok (k : Int) : DCalls Tryz.prog n_topo_ways [iA k] σ (WaysPost σ t_topo_way k) := by
  refine (W_topo_ways k σ _ ?_).ret (Q := fun r s => ∃ r' σ', Ret Tryz.prog σ s r σ' r' ∧ WaysPost σ t_topo_way k r' σ') (fun r s h => h)
  refine bce (fun h0 => newObj_intro fun id σ' hid _ he hs => ?_) (fun h0 => bce (fun h1 => newObj_intro fun id σ' hid _ he hs => ?_) (fun h1 => bce (fun h2 => newObj_intro fun id σ' hid _ he hs => ?_) (fun h2 => ?_)))
  · exact ways_fin c_topo_way rfl (by simp) hid he hs (by subst h0; rfl)
  · exact ways_fin c_topo_way rfl (by simp) hid he hs (by subst h1; rfl)
  · exact ways_fin c_topo_way rfl (by simp) hid he hs (by subst h2; rfl)
  · exact ⟨.a (.one .nils), σ, .pure (.refl _) .nils, rfl, .nils, rfl, fun s => by simp [wayL, h0, h1, h2]; exact .nil⟩
theorem wayL_len (k : Int) : (wayL k).length < 2 ^ 60 := by unfold wayL; split <;> (try split) <;> (try split) <;> simp
theorem topo_Ends_ok (k : Int) : Pure Tryz.prog n_topo_Ends [iA k] σ (.a (iA (nends k))) := by
  refine W_topo_Ends k σ _ ((topo_ways_ok k).mono ?_)
  rintro r σ' ⟨rfl, d, rfl, hd⟩
  refine ⟨d, rfl, (hd σ').lenK ⟨fun n m s => s = σ' ∧ Rng (wayL k) (fun r => r.foldl endStep n = nends k) m, fun n m _ => (wayL k).length - m.toNat, ⟨rfl, .start (ends_eq k)⟩, ?_⟩⟩
  rintro n m _ ⟨rfl, hr⟩
  refine bcd (fun hlt => ?_) (fun hge => ?_)
  · obtain ⟨j, x, rfl, hx, hj, hF, nx⟩ := hr.step (by simp) (wayL_len k) hlt
    refine (hd _).load (map_get hx) c_topo_way rfl ⟨x.1, x.2.1, x.2.2, rfl, by omega, by omega, by omega, by omega, andl rfl (nx (fun r => r.foldl endStep (endStep n x) = nends k) hF)⟩
  · have := hr.done (by simp) hge
    exact ⟨by rw [← this]; rfl, rfl⟩
theorem topo_between_ok (n lo hi : Int) : Pure Tryz.prog n_topo_between [iA n, iA lo, iA hi] σ (.a (bA (decide (lo ≤ n ∧ n ≤ hi)))) := by
  refine W_topo_between n lo hi σ _ (bcd (fun h => ⟨?_, rfl⟩) (fun h => ⟨?_, rfl⟩))
  · simp [h]
  · simp [h]
theorem topo_Next_ok {d : D} {js : List Jt} (s e : Int) (h : At Tryz.prog σ t_Joint d (js.map Jt.enc)) : Pure Tryz.prog n_topo_Next [.one d, iA s, iA e] σ (opt2 (nxt js s e)) := by
  have hl := h.size
  rw [List.length_map] at hl
  refine W_topo_Next d s e σ _ (h.lenK ⟨fun n σ' => σ' = σ ∧ Rng js (fun r => nxt r s e = nxt js s e) n, fun n _ => js.length - n.toNat, ⟨rfl, .start rfl⟩, ?_⟩)
  rintro n σ' ⟨rfl, hr⟩
  refine bcd (fun hlt => ?_) (fun hge => ?_)
  · obtain ⟨j, x, rfl, hx, hj, hF, nx⟩ := hr.step (by simp) hl hlt
    refine h.load (map_get hx) c_Joint rfl ⟨x.A, x.AEnd, x.B, x.BEnd, rfl, ?_⟩
    rw [nxt] at hF
    repeat' (first | refine bce (fun _ => ?_) (fun _ => ?_))
    all_goals first
      | exact ⟨by rw [← hF]; simp [*, opt2], rfl⟩
      | exact andl rfl (nx (fun r => nxt r s e = nxt js s e) (by simpa [*] using hF))
  · exact ⟨by rw [← hr.done (by simp) hge]; rfl, rfl⟩
theorem slices_Index_int_ok {d : D} {l : List Int} (v : Int) (h : At Tryz.prog σ t_int d (l.map Go.Fw.encI)) : Pure Tryz.prog n_slices_Index_int [.one d, iA v] σ (.a (iA (idxOf l v 0))) := by
  have hl := h.size
  rw [List.length_map] at hl
  refine W_slices_Index_int d v σ _ (h.lenK ⟨fun n σ' => σ' = σ ∧ Rng l (fun r => (∀ j : Nat, n = j → idxOf r v j = idxOf l v 0)) n, fun n _ => l.length - n.toNat, ⟨rfl, .start fun j hj => by cases j with | zero => rfl | succ j => omega⟩, ?_⟩)
  rintro n σ' ⟨rfl, hr⟩
  refine bcd (fun hlt => ?_) (fun hge => ?_)
  · obtain ⟨j, x, rfl, hx, hj, hF, nx⟩ := hr.step (by simp) hl hlt
    refine h.load (map_get hx) c_int rfl ⟨x, rfl, ?_⟩
    have hF := hF j rfl
    rw [idxOf] at hF
    refine bce (fun _ => ?_) (fun _ => ?_)
    · exact ⟨by rw [← hF]; simp [*], rfl⟩
    · refine andl rfl (nx _ fun j' hj' => ?_)
      rw [w64_succ (by omega)] at hj'
      obtain rfl : j' = j + 1 := by omega
      rw [if_neg (fun e => by simp_all)] at hF
      exact hF
  · refine ⟨?_, rfl⟩
    obtain ⟨j, hj, hj2, hF⟩ := hr
    have hF := hF j hj
    rw [drop_end (by simp at hge; omega)] at hF
    rw [← hF]; rfl
theorem alloc_cell {W : World} {cs : Array Value} {t : TypeId} {j : Nat} {v : Value} (h : cs[j]? = some v) : (W.alloc (.cells cs t)).cell? ⟨W.heap.size, j, none⟩ = some v := by
  unfold World.cell?
  rw [(MapKept.heap_alloc W _).1]
  exact h
theorem index2_calls (a b p e : Int) (W : World) : Calls Tryz.prog n_slices_Index_int #[.slice (some ⟨W.heap.size, 0, none⟩) 2 2, .int .i64 e] (W.alloc (.cells #[.int .i64 a, .int .i64 b, .int .i64 p] t_topo_way)) fun r W' =>
    r = .returned (.int .i64 (idxOf [a, b] e 0)) ∧ Below (W.heap.size + 1) (W.alloc (.cells #[.int .i64 a, .int .i64 b, .int .i64 p] t_topo_way)) W' := by
  have hsz : (W.alloc (.cells #[.int .i64 a, .int .i64 b, .int .i64 p] t_topo_way)).heap.size = W.heap.size + 1 := Array.size_push _
  have hA : At Tryz.prog noS t_int (.sl 1 [[iD a], [iD b]]) ([a, b].map Go.Fw.encI) := ⟨⟨rfl, .inr c_int.symm⟩, by simp, fun es rows e => by injection e with e1 _; rw [← e1, c_int]⟩
  have hcell : ∀ j v, #[Value.int .i64 a, .int .i64 b, .int .i64 p][j]? = some v → (W.alloc (.cells #[.int .i64 a, .int .i64 b, .int .i64 p] t_topo_way)).cell? ⟨W.heap.size, j, none⟩ = some v := fun j v h => alloc_cell h
  have hV : V (allK (W.alloc (.cells #[.int .i64 a, .int .i64 b, .int .i64 p] t_topo_way))) noB (W.alloc (.cells #[.int .i64 a, .int .i64 b, .int .i64 p] t_topo_way)) (.slice (some ⟨W.heap.size, 0, none⟩) 2 2) (.sl 1 [[iD a], [iD b]]) := by
    have key : ∀ (i : Nat) row (j : Nat) d, ([[iD a], [iD b]] : List (List D))[i]? = some row → row[j]? = some d → (i = 0 ∧ j = 0 ∧ row = [iD a] ∧ d = iD a) ∨ (i = 1 ∧ j = 0 ∧ row = [iD b] ∧ d = iD b) := by
      intro i row j d h1 h2
      rcases i with _ | _ | i
      · simp at h1; subst h1
        rcases j with _ | j
        · simp at h2; exact .inl ⟨rfl, rfl, rfl, h2.symm⟩
        · simp at h2
      · simp at h1; subst h1
        rcases j with _ | j
        · simp at h2; exact .inr ⟨rfl, rfl, rfl, h2.symm⟩
        · simp at h2
      · simp at h1
    refine V.sl ⟨W.heap.size, 0, none⟩ 2 2 1 _ (fun i j => if i = 0 then .int .i64 a else .int .i64 b) (fun _ => ⟨by show W.heap.size < _; rw [hsz]; omega, rfl⟩) rfl (by omega) (fun i row h => ?_) (fun i row j d h hj => ?_) (fun i row j d h hj => ?_)
    · rcases i with _ | _ | i
      · simp at h; subst h; rfl
      · simp at h; subst h; rfl
      · simp at h
    · rcases key i row j d h hj with ⟨rfl, rfl, rfl, rfl⟩ | ⟨rfl, rfl, rfl, rfl⟩
      · exact hcell 0 _ rfl
      · exact hcell 1 _ rfl
    · rcases key i row j d h hj with ⟨rfl, rfl, rfl, rfl⟩ | ⟨rfl, rfl, rfl, rfl⟩
      · exact V.int _ _
      · exact V.int _ _
  have hc := (slices_Index_int_ok e hA).2 (allK _) noB (W.alloc (.cells #[.int .i64 a, .int .i64 b, .int .i64 p] t_topo_way)) #[.slice (some ⟨W.heap.size, 0, none⟩) 2 2, .int .i64 e] srel0 rfl (by
    intro i v x hv hx
    rcases i with _ | _ | i
    · simp at hv hx
      subst hv hx
      exact hV
    · simp at hv hx
      subst hv hx
      exact V.int _ _
    · simp at hv)
  refine hc.mono fun r W' ⟨v, rr, σ', k', β', q1, ⟨q2, _⟩, q3, _, _, q6⟩ => ?_
  subst q2
  have hv := V.inv_int q3
  subst hv
  exact ⟨q1, q6.os, q6.tape, q6.output, q6.size, fun b hb => q6.block b (by rw [hsz]; exact hb) (fun i bi hi => by cases hi)⟩
theorem way_other_calls (a b p e : Int) (W : World) : Calls Tryz.prog n_topo_way_other #[.agg #[.int .i64 a, .int .i64 b, .int .i64 p], .int .i64 e] W fun r W' =>
    r = .returned (if e = a then .tuple #[.int .i64 b, .bool true] else if e = b then .tuple #[.int .i64 a, .bool true] else .tuple #[.int .i64 0, .bool false]) ∧ Below W.heap.size W W' := by
  have hI := index2_calls a b p e W
  have fin : ∀ W', Below (W.heap.size + 1) (W.alloc (.cells #[.int .i64 a, .int .i64 b, .int .i64 p] t_topo_way)) W' → Below W.heap.size W W' := fun W' hb =>
    ((Below.refl _ _).alloc (Nat.le_refl _) _).trans (hb.mono (by omega))
  have cells : ∀ W', Below (W.heap.size + 1) (W.alloc (.cells #[.int .i64 a, .int .i64 b, .int .i64 p] t_topo_way)) W' →
      W'.cell? ⟨W.heap.size, 0, none⟩ = some (.int .i64 a) ∧ W'.cell? ⟨W.heap.size, 1, none⟩ = some (.int .i64 b) := fun W' hb => by
    exact ⟨(hb.cell (p := ⟨W.heap.size, 0, none⟩) (Nat.lt_succ_self _)).trans (alloc_cell rfl), (hb.cell (p := ⟨W.heap.size, 1, none⟩) (Nat.lt_succ_self _)).trans (alloc_cell rfl)⟩
  by_cases h0 : e = a
  · subst h0
    rw [show idxOf [e, b] e 0 = 0 by simp [idxOf]] at hI
    rw [if_pos rfl]
    go_enter Tryz.func68, Tryz.ntmps68
    go_wp2_with fail
    refine hI.mono ?_
    rintro r W' ⟨rfl, hb⟩
    obtain ⟨c0, c1⟩ := cells W' hb
    have hf := fin W' hb
    clear cells fin hI hb
    go_wp2
    go_ret2
    exact ⟨rfl, hf⟩
  · by_cases h1 : e = b
    · subst h1
      rw [show idxOf [a, e] e 0 = 1 by simp [idxOf, h0]] at hI
      rw [if_neg h0, if_pos rfl]
      go_enter Tryz.func68, Tryz.ntmps68
      go_wp2_with fail
      refine hI.mono ?_
      rintro r W' ⟨rfl, hb⟩
      obtain ⟨c0, c1⟩ := cells W' hb
      have hf := fin W' hb
      clear cells fin hI hb
      go_wp2
      go_ret2
      exact ⟨rfl, hf⟩
    · rw [show idxOf [a, b] e 0 = -1 by simp [idxOf, h0, h1]] at hI
      rw [if_neg h0, if_neg h1]
      go_enter Tryz.func68, Tryz.ntmps68
      go_wp2_with fail
      refine hI.mono ?_
      rintro r W' ⟨rfl, hb⟩
      have hf := fin W' hb
      clear cells fin hI hb
      go_wp2
      go_ret2
      exact ⟨rfl, hf⟩
theorem way_other_ok (a b p e : Int) : Pure Tryz.prog n_topo_way_other [.agg [iD a, iD b, iD p], iA e] σ (opt1 (if e = a then some b else if e = b then some a else none)) := by
  refine ⟨by kernel_rfl, fun k β W vs hS hsz hv => ?_⟩
  have hvs : vs = #[.agg #[.int .i64 a, .int .i64 b, .int .i64 p], .int .i64 e] := by
    have h0 := hv 0 (vs.getD 0 undef) _ (by simp at hsz; simp [hsz]) rfl
    have h1 := hv 1 (vs.getD 1 undef) _ (by simp at hsz; simp [hsz]) rfl
    obtain ⟨us, e0, hu⟩ := h0
    have e1 := V.inv_int h1
    have hus : us = #[.int .i64 a, .int .i64 b, .int .i64 p] := by
      apply Array.ext'
      exact vsOfD_eq hu rfl
    apply Array.ext
    · simpa using hsz
    · intro i h1 h2
      simp at hsz
      match i, h1 with
      | 0, _ => simp [hsz] at e0; simp [e0, hus]
      | 1, _ => simp [hsz] at e1; simp [e1]
      | i + 2, h => omega
  subst hvs
  refine (way_other_calls a b p e W).mono fun r W' ⟨h1, h2⟩ => ?_
  have hg : Grow W W' := ⟨h2.os, h2.tape, h2.output, h2.size, h2.block⟩
  have tup : ∀ (x : Int) (c : Bool), VR k β W' (.tuple #[.int .i64 x, .bool c]) (.tup [iA x, bA c]) := fun x c => tup2 (v := iA x) (V.int _ _)
  refine ⟨_, _, σ, k, β, h1, ⟨rfl, rfl⟩, ?_, hS.grow hg, Ghost.refl _ _ _ _, hg.frm _ _⟩
  by_cases h0 : e = a
  · simp only [h0, if_true]; exact tup _ _
  · by_cases h1 : e = b
    · simp only [h0, h1, if_false, if_true]; split <;> exact tup _ _
    · simp only [h0, h1, if_false]; exact tup _ _
theorem topo_Pos_ok (k i o : Int) : Pure Tryz.prog n_topo_Pos [iA k, iA i, iA o] σ (opt1 (wpos (wayL k) i o)) := by
  refine W_topo_Pos k i o σ _ ((topo_ways_ok k).mono ?_)
  rintro r σ' ⟨rfl, d, rfl, hd⟩
  refine ⟨d, rfl, (hd σ').lenK ⟨fun m s => s = σ' ∧ Rng (wayL k) (fun r => wpos r i o = wpos (wayL k) i o) m, fun m _ => (wayL k).length - m.toNat, ⟨rfl, .start rfl⟩, ?_⟩⟩
  rintro m _ ⟨rfl, hr⟩
  refine bcd (fun hlt => ?_) (fun hge => ?_)
  · obtain ⟨j, x, rfl, hx, hj, hF, nx⟩ := hr.step (by simp) (wayL_len k) hlt
    refine (hd _).load (map_get hx) c_topo_way rfl ⟨x.1, x.2.1, x.2.2, rfl, (way_other_ok _ _ _ _).use ?_⟩
    have hne : x.1 ≠ x.2.1 := by
      have hm := List.mem_of_getElem? hx
      unfold wayL at hm
      split at hm
      · simp at hm; subst hm; decide
      · split at hm
        · simp at hm; rcases hm with rfl | rfl <;> decide
        · split at hm
          · simp at hm; rcases hm with rfl | rfl <;> decide
          · cases hm
    rw [wpos] at hF
    by_cases h0 : i = x.1
    · subst h0
      refine ⟨x.2.1, true, by simp [opt1], ?_⟩
      refine bce (fun h1 => ?_) (fun h1 => ?_)
      · exact ⟨by rw [← hF]; simp [*, opt1], rfl⟩
      · exact andl rfl (nx (fun r => wpos r x.1 o = wpos (wayL k) x.1 o) (by rw [if_neg (by rintro (⟨_, h⟩ | ⟨h, _⟩); exact h1 h; exact hne h.symm)] at hF; exact hF))
    · by_cases h1 : i = x.2.1
      · subst h1
        refine ⟨x.1, true, by simp [opt1, h0], ?_⟩
        refine bce (fun h1 => ?_) (fun h1 => ?_)
        · exact ⟨by rw [← hF]; simp [*, opt1], rfl⟩
        · exact andl rfl (nx (fun r => wpos r x.2.1 o = wpos (wayL k) x.2.1 o) (by rw [if_neg (by rintro (⟨h, _⟩ | ⟨_, h⟩); exact hne h; exact h1 h)] at hF; exact hF))
      · refine ⟨0, false, by simp [opt1, h0, h1], ?_⟩
        exact andl rfl (nx (fun r => wpos r i o = wpos (wayL k) i o) (by rw [if_neg (by rintro (⟨h, _⟩ | ⟨h, _⟩); exact h0 h.symm; exact h1 h.symm)] at hF; exact hF))
  · have := hr.done (by simp) hge
    exact ⟨by rw [← this]; rfl, rfl⟩
end Go.Proofs.YtcbmibgfmlpobaaGreat
end
section
namespace Go.Fw
def allSpots (js : List Jt) : List (Int × Int) := js.flatMap Jt.spots
theorem prun_iff (secs : List Sec) : ∀ (l tk tk' : List (Int × Int)), prun secs l tk = some tk' ↔ (∀ p ∈ l, spotOk secs p = true) ∧ l.Nodup ∧ (∀ p ∈ l, p ∉ tk) ∧ tk' = l.reverse ++ tk
  | [], tk, tk' => by simp [prun]; exact eq_comm
  | p :: r, tk, tk' => by
    rw [prun]
    by_cases h : spotOk secs p = true ∧ p ∉ tk
    · rw [if_pos h, prun_iff secs r (p :: tk) tk']
      simp only [List.mem_cons, forall_eq_or_imp, List.nodup_cons, List.reverse_cons, List.append_assoc, List.singleton_append]
      constructor
      · rintro ⟨h1, h2, h3, h4⟩
        exact ⟨⟨h.1, h1⟩, ⟨fun hp => (h3 p hp) (.inl rfl), h2⟩, ⟨h.2, fun q hq hqt => h3 q hq (.inr hqt)⟩, h4⟩
      · rintro ⟨⟨_, h1⟩, ⟨h2, h3⟩, ⟨_, h4⟩, h5⟩
        exact ⟨h1, h3, fun q hq hqt => hqt.elim (fun e => h2 (e ▸ hq)) (h4 q hq), h5⟩
    · rw [if_neg h]
      simp only [List.mem_cons, forall_eq_or_imp]
      constructor
      · intro h'; cases h'
      · rintro ⟨⟨h1, _⟩, _, ⟨h2, _⟩, _⟩; exact absurd ⟨h1, h2⟩ h
theorem jrun_iff (secs : List Sec) : ∀ (js : List Jt) (tk tk' : List (Int × Int)), jrun secs js tk = some tk' ↔
    (∀ p ∈ allSpots js, spotOk secs p = true) ∧ (allSpots js).Nodup ∧ (∀ p ∈ allSpots js, p ∉ tk) ∧ (∀ j ∈ js, j.A ≠ j.B) ∧ tk' = (allSpots js).reverse ++ tk
  | [], tk, tk' => by simp [jrun, allSpots]; exact eq_comm
  | j :: r, tk, tk' => by
    rw [jrun]
    have hall : allSpots (j :: r) = j.spots ++ allSpots r := by simp [allSpots]
    rw [hall]
    cases hp : prun secs j.spots tk with
    | none =>
      have hno : ¬ ∃ t, prun secs j.spots tk = some t := by rw [hp]; rintro ⟨t, h⟩; cases h
      constructor
      · intro h; cases h
      · rintro ⟨h1, h2, h3, _, _⟩
        exact absurd ⟨_, (prun_iff secs j.spots tk _).2 ⟨fun p hp => h1 p (List.mem_append_left _ hp), (List.nodup_append.1 h2).1, fun p hp => h3 p (List.mem_append_left _ hp), rfl⟩⟩ hno
    | some t =>
      obtain ⟨a1, a2, a3, a4⟩ := (prun_iff secs j.spots tk t).1 hp
      by_cases hAB : j.A = j.B
      · simp only [hAB, if_true]
        constructor
        · intro h; cases h
        · rintro ⟨_, _, _, h4, _⟩; exact absurd hAB (h4 j (by simp))
      · simp only [hAB, if_false]
        rw [jrun_iff secs r t tk', a4]
        constructor
        · rintro ⟨h1, h2, h3, h4, h5⟩
          refine ⟨fun p hp => (List.mem_append.1 hp).elim (a1 p) (h1 p), List.nodup_append.2 ⟨a2, h2, fun a ha b hb e => ?_⟩, fun p hp => (List.mem_append.1 hp).elim (a3 p) (fun hp ht => h3 p hp (by simp [ht])), fun x hx => ?_, by rw [h5]; simp⟩
          · subst e; exact h3 a hb (by simp [ha])
          · rcases List.mem_cons.1 hx with rfl | hx
            · exact hAB
            · exact h4 x hx
        · rintro ⟨h1, h2, h3, h4, h5⟩
          obtain ⟨b1, b2, b3⟩ := List.nodup_append.1 h2
          refine ⟨fun p hp => h1 p (List.mem_append_right _ hp), b2, fun p hp ht => ?_, fun x hx => h4 x (List.mem_cons_of_mem _ hx), by rw [h5]; simp⟩
          rcases List.mem_append.1 ht with ht | ht
          · exact b3 p (by simpa using ht) p hp rfl
          · exact h3 p (List.mem_append_right _ hp) ht
theorem cnt_count (s e : Int) : ∀ js : List Jt, cnt js s e = ((allSpots js).count (s, e) : Int)
  | [] => by simp [cnt, allSpots]
  | j :: r => by
    have hall : allSpots (j :: r) = (j.A, j.AEnd) :: (j.B, j.BEnd) :: allSpots r := by simp [allSpots, Jt.spots]
    rw [hall, cnt, cnt_count s e r, List.count_cons, List.count_cons]
    simp only [beq_iff_eq, Prod.mk.injEq]
    split <;> split <;> omega
theorem srun_iff (tk : List (Int × Int)) : ∀ (secs : List Sec) (i : Int) (ls : List Int), srun tk secs i ls = true ↔
    ∀ (k : Nat) s, secs[k]? = some s → nends s.Kind ≠ 0 ∧ (0 ≤ s.OC ∧ s.OC ≤ 3) ∧ (0 ≤ s.Line ∧ s.Line ≤ 3) ∧ (s.Line ≠ 0 → s.Kind = 0 ∧ (i + k, 1) ∉ tk ∧ s.Line ∉ ls ∧ ∀ k' s', k' < k → secs[k']? = some s' → s'.Line ≠ s.Line)
  | [], i, ls => by simp [srun]
  | x :: r, i, ls => by
    rw [srun]
    by_cases hc : nends x.Kind = 0 ∨ ¬ (0 ≤ x.OC ∧ x.OC ≤ 3) ∨ ¬ (0 ≤ x.Line ∧ x.Line ≤ 3) ∨ x.Line ≠ 0 ∧ (x.Kind ≠ 0 ∨ (i, 1) ∈ tk ∨ x.Line ∈ ls)
    · rw [if_pos hc]
      constructor
      · intro h; cases h
      · intro h
        obtain ⟨h1, h2, h3, h4⟩ := h 0 x rfl
        rcases hc with hc | hc | hc | ⟨hc, hd⟩
        · exact absurd hc h1
        · exact absurd h2 hc
        · exact absurd h3 hc
        · obtain ⟨g1, g2, g3, _⟩ := h4 hc
          rcases hd with hd | hd | hd
          · exact absurd g1 hd
          · exact absurd hd (by simpa using g2)
          · exact absurd hd g3
    · rw [if_neg hc, srun_iff tk r (i + 1) (x.Line :: ls)]
      have hx : nends x.Kind ≠ 0 ∧ (0 ≤ x.OC ∧ x.OC ≤ 3) ∧ (0 ≤ x.Line ∧ x.Line ≤ 3) ∧ (x.Line ≠ 0 → x.Kind = 0 ∧ (i, 1) ∉ tk ∧ x.Line ∉ ls) := by
        refine ⟨fun h => hc (.inl h), Classical.not_not.1 fun h => hc (.inr (.inl h)), Classical.not_not.1 fun h => hc (.inr (.inr (.inl h))), fun hl => ⟨Classical.not_not.1 fun h => hc (.inr (.inr (.inr ⟨hl, .inl h⟩))), fun h => hc (.inr (.inr (.inr ⟨hl, .inr (.inl h)⟩))), fun h => hc (.inr (.inr (.inr ⟨hl, .inr (.inr h)⟩)))⟩⟩
      constructor
      · intro h k s hk
        cases k with
        | zero =>
          simp at hk; subst hk
          exact ⟨hx.1, hx.2.1, hx.2.2.1, fun hl => by
            obtain ⟨a, b, c⟩ := hx.2.2.2 hl
            exact ⟨a, by simpa using b, c, fun k' s' hk' => by omega⟩⟩
        | succ k =>
          obtain ⟨h1, h2, h3, h4⟩ := h k s (by simpa using hk)
          refine ⟨h1, h2, h3, fun hl => ?_⟩
          obtain ⟨a, b, c, d⟩ := h4 hl
          refine ⟨a, by rw [show i + ((k + 1 : Nat) : Int) = i + 1 + k by omega]; exact b, fun hm => c (by simp [hm]), fun k' s' hk' hs' => ?_⟩
          cases k' with
          | zero => simp at hs'; subst hs'; exact fun e => c (by simp [e])
          | succ k' => exact d k' s' (by omega) (by simpa using hs')
      · intro h k s hk
        obtain ⟨h1, h2, h3, h4⟩ := h (k + 1) s (by simpa using hk)
        refine ⟨h1, h2, h3, fun hl => ?_⟩
        obtain ⟨a, b, c, d⟩ := h4 hl
        refine ⟨a, by rw [show i + 1 + (k : Int) = i + ((k + 1 : Nat) : Int) by omega]; exact b, fun hm => ?_, fun k' s' hk' hs' => d (k' + 1) s' (by omega) (by simpa using hs')⟩
        rcases List.mem_cons.1 hm with hm | hm
        · exact d 0 x (by omega) rfl hm.symm
        · exact c hm
def secOk (secs : List Sec) (js : List Jt) (k : Nat) (s : Sec) : Prop :=
  nends s.Kind ≠ 0 ∧ (0 ≤ s.OC ∧ s.OC ≤ 3) ∧ (0 ≤ s.Line ∧ s.Line ≤ 3) ∧ (s.Line ≠ 0 → s.Kind = 0 ∧ cnt js k 1 ≤ 0 ∧ ∀ k' s', k' < k → secs[k']? = some s' → s'.Line ≠ s.Line)
def jtOk (secs : List Sec) (js : List Jt) (j : Jt) : Prop :=
  (0 ≤ j.A ∧ j.A < secs.length) ∧ (0 ≤ j.B ∧ j.B < secs.length) ∧ j.A ≠ j.B ∧ (0 ≤ j.AEnd ∧ j.AEnd < nends (kindAt secs j.A)) ∧ (0 ≤ j.BEnd ∧ j.BEnd < nends (kindAt secs j.B)) ∧ cnt js j.A j.AEnd ≤ 1 ∧ cnt js j.B j.BEnd ≤ 1
theorem spotOk_iff (secs : List Sec) (p : Int × Int) : spotOk secs p = true ↔ (0 ≤ p.1 ∧ p.1 < secs.length) ∧ (0 ≤ p.2 ∧ p.2 < nends (kindAt secs p.1)) := by
  simp only [spotOk, Bool.and_eq_true, decide_eq_true_eq]; omega
theorem mem_spots {js : List Jt} {p : Int × Int} : p ∈ allSpots js ↔ ∃ j ∈ js, p = (j.A, j.AEnd) ∨ p = (j.B, j.BEnd) := by
  simp [allSpots, Jt.spots]
theorem topoOk_iff (secs : List Sec) (js : List Jt) : topoOk secs js = true ↔
    (1 ≤ secs.length ∧ secs.length ≤ 16 ∧ js.length ≤ 24) ∧ (∀ (k : Nat) s, secs[k]? = some s → secOk secs js k s) ∧ ∀ j ∈ js, jtOk secs js j := by
  simp only [topoOk, Bool.and_eq_true, decide_eq_true_eq]
  refine and_congr_right fun _ => ?_
  have hnd : (allSpots js).Nodup ↔ ∀ j ∈ js, cnt js j.A j.AEnd ≤ 1 ∧ cnt js j.B j.BEnd ≤ 1 := by
    rw [List.nodup_iff_count]
    constructor
    · intro h j _
      rw [cnt_count, cnt_count]
      have h1 := h (j.A, j.AEnd)
      have h2 := h (j.B, j.BEnd)
      omega
    · intro h p
      by_cases hp : p ∈ allSpots js
      · obtain ⟨j, hj, rfl | rfl⟩ := mem_spots.1 hp
        · have := (h j hj).1; rw [cnt_count] at this; omega
        · have := (h j hj).2; rw [cnt_count] at this; omega
      · rw [List.count_eq_zero_of_not_mem hp]; omega
  have hsp : (∀ p ∈ allSpots js, spotOk secs p = true) ↔ ∀ j ∈ js, ((0 ≤ j.A ∧ j.A < secs.length) ∧ (0 ≤ j.AEnd ∧ j.AEnd < nends (kindAt secs j.A))) ∧ ((0 ≤ j.B ∧ j.B < secs.length) ∧ (0 ≤ j.BEnd ∧ j.BEnd < nends (kindAt secs j.B))) := by
    constructor
    · intro h j hj
      exact ⟨(spotOk_iff _ _).1 (h (j.A, j.AEnd) (mem_spots.2 ⟨j, hj, .inl rfl⟩)), (spotOk_iff _ _).1 (h (j.B, j.BEnd) (mem_spots.2 ⟨j, hj, .inr rfl⟩))⟩
    · intro h p hp
      obtain ⟨j, hj, rfl | rfl⟩ := mem_spots.1 hp
      · exact (spotOk_iff _ _).2 (h j hj).1
      · exact (spotOk_iff _ _).2 (h j hj).2
  have hcz : ∀ k : Nat, cnt js k 1 ≤ 0 ↔ ((k : Int), (1 : Int)) ∉ (allSpots js).reverse ++ [] := fun k => by
    rw [cnt_count, List.append_nil, List.mem_reverse, ← List.count_eq_zero]; omega
  constructor
  · intro h
    cases hj : jrun secs js [] with
    | none => rw [hj] at h; cases h
    | some tk =>
      rw [hj] at h
      obtain ⟨h1, h2, _, h4, rfl⟩ := (jrun_iff secs js [] tk).1 hj
      have h5 := (srun_iff _ secs 0 []).1 h
      refine ⟨fun k s hk => ?_, fun j hj => ?_⟩
      · obtain ⟨a, b, c, d⟩ := h5 k s hk
        refine ⟨a, b, c, fun hl => ?_⟩
        obtain ⟨d1, d2, _, d4⟩ := d hl
        exact ⟨d1, (hcz k).2 (by simpa using d2), d4⟩
      · obtain ⟨⟨a1, a2⟩, b1, b2⟩ := hsp.1 h1 j hj
        exact ⟨a1, b1, h4 j hj, a2, b2, hnd.1 h2 j hj⟩
  · rintro ⟨h1, h2⟩
    have hj : jrun secs js [] = some ((allSpots js).reverse ++ []) := (jrun_iff secs js [] _).2 ⟨hsp.2 fun j hj => by obtain ⟨a, b, c, d, e, f⟩ := h2 j hj; exact ⟨⟨a, d⟩, b, e⟩, hnd.2 fun j hj => (h2 j hj).2.2.2.2.2, by simp, fun j hj => (h2 j hj).2.2.1, rfl⟩
    rw [hj]
    refine (srun_iff _ secs 0 []).2 fun k s hk => ?_
    obtain ⟨a, b, c, d⟩ := h1 k s hk
    refine ⟨a, b, c, fun hl => ?_⟩
    obtain ⟨d1, d2, d3⟩ := d hl
    exact ⟨d1, by simpa using (hcz k).1 d2, by simp, d3⟩
end Go.Fw
end
section
set_option linter.unusedVariables false
set_option linter.unusedSimpArgs false
namespace Go.Proofs.YtcbmibgfmlpobaaGreat
open Go.Fw Go.Proofs Go.RowKit
variable {σ : Store}
abbrev encP (p : Int × Int) : A := .agg [iD p.1, iD p.2]
theorem keys_spot : Keys Tryz.prog t_topo_spot encP := keys_int2 fun a b => by kernel_rfl
theorem keysI : Keys Tryz.prog t_int iA := ⟨fun x => by kernel_rfl, fun x y => by simp [eqA, eqCells, aCells, eqCell]⟩
theorem topo_Check_ok {d1 d2 : D} {secs : List Sec} {js : List Jt} (hs : ∀ s, At Tryz.prog s t_Section d1 (secs.map Sec.enc)) (hj : ∀ s, At Tryz.prog s t_Joint d2 (js.map Jt.enc)) :
    Pure Tryz.prog n_topo_Check [.one d1, .one d2] σ (.a (iA (if topoOk secs js = true then 0 else 6))) := by
  have hls := (hs σ).size
  have hlj := (hj σ).size
  rw [List.length_map] at hls hlj
  refine .of (W_topo_Check d1 d2 σ _ ?_) (flat_i _)
  intro R hR
  refine (hs σ).lenK ((topo_between_ok _ _ _).use ⟨_, rfl, bcnot (fun h => ?_) (fun h => (hj σ).lenK (bcd (fun h2 => ?_) (fun h2 => hR σ ?_)))⟩)
  · simp at h
    exact ⟨by rw [if_neg]; simp [topoOk]; omega, .refl _⟩
  · simp at h2
    exact ⟨by rw [if_neg]; simp [topoOk]; omega, .refl _⟩
  simp at h h2
  have hsize : decide (1 ≤ secs.length ∧ secs.length ≤ 16 ∧ js.length ≤ 24) = true := by simp; omega
  refine newObj_intro fun id σ1 hid _ he hs1 => (hj σ1).lenK ⟨fun n s => ∃ tk f, MapAt Tryz.prog t_topo_spot encP s id f ∧ (∀ z, f z = if z ∈ tk then some (iA 1) else none) ∧ Ext σ s ∧ Rng js (fun r => jrun secs r tk = jrun secs js []) n,
    fun n _ => js.length - n.toNat, ⟨[], _, .new hs1, fun z => by simp, he, .start rfl⟩, ?_⟩
  rintro n s ⟨tk, f, hm, hf, hes, hr⟩
  refine bcd (fun hlt => ?_) (fun hge => ?_)
  · obtain ⟨j, x, rfl, hx, hjl, hF, nx⟩ := hr.step (by simp) hlj hlt
    refine (hj s).load (map_get hx) c_Joint rfl ⟨x.A, x.AEnd, x.B, x.BEnd, rfl, ?_⟩
    refine newObj_intro fun id1 s1 hid1 _ he1 hs2 => ?_
    have hne : id ≠ id1 := fun e => by
      obtain ⟨c, es, h1, _⟩ := hm
      rw [e, hid1] at h1; cases h1
    have hbad : prun secs x.spots tk = none ∨ x.A = x.B → (if topoOk secs js = true then (0 : Int) else 6) = 6 := by
      intro hb
      have : jrun secs js [] = none := by
        rw [← hF, jrun]
        rcases hb with hb | hb
        · rw [hb]
        · cases prun secs x.spots tk with
          | none => rfl
          | some tk' => simp [hb]
      rw [if_neg]; simp [topoOk, this]
    have hloc : ∀ s', s' id1 = .live t_topo_spot [[iD x.A, iD x.AEnd], [iD x.B, iD x.BEnd]] → At Tryz.prog s' t_topo_spot (.osl id1 0 2) (x.spots.map fun p => [iD p.1, iD p.2]) := fun s' h => At.fresh h (by simp) rfl
    refine (hloc s1 hs2).lenK ⟨fun m s' => ∃ tk' f', MapAt Tryz.prog t_topo_spot encP s' id f' ∧ (∀ z, f' z = if z ∈ tk' then some (iA 1) else none) ∧ Ext σ s' ∧ s' id1 = .live t_topo_spot [[iD x.A, iD x.AEnd], [iD x.B, iD x.BEnd]] ∧
      Rng x.spots (fun q => prun secs q tk' = prun secs x.spots tk) m, fun m _ => x.spots.length - m.toNat, ⟨tk, f, hm.same (he1 id (fun e => hne (by
        obtain ⟨c, es, h1, _⟩ := hm
        rw [e] at h1; cases h1))), hf, hes.trans he1, hs2, .start rfl⟩, ?_⟩
    rintro m s' ⟨tk', f', hm', hf', hes', hs2', hr'⟩
    refine bcd (fun hlt' => ?_) (fun hge' => ?_)
    · obtain ⟨i, p, rfl, hp, hil, hG, nx'⟩ := hr'.step (by simp) (by simp [Jt.spots]) hlt'
      refine (hloc s' hs2').load (map_get hp) c_topo_spot rfl ⟨p.1, p.2, rfl, (hs s').lenK ?_⟩
      rw [prun] at hG
      have hw1 : w64 (((secs.map Sec.enc).length : Int) - 1) = (secs.length : Int) - 1 := by rw [List.length_map, w64_id (by omega) (by omega)]
      refine (topo_between_ok _ _ _).use ⟨_, rfl, ?_⟩
      rw [hw1]
      refine bcnot (fun h3 => ?_) (fun h3 => ?_)
      · exact ⟨by rw [hbad (.inl ?_)]; rw [← hG, if_neg]; simp only [spotOk, h3]; simp, hes'⟩
      · have h3' := of_decide_eq_true h3
        obtain ⟨y, hy⟩ := get_of_lt (l := secs) (j := p.1.toNat) (by omega)
        refine (hs s').load (map_get hy) c_Section (by omega) ⟨y.Kind, rfl, (topo_Ends_ok _).use ⟨_, rfl, (topo_between_ok _ _ _).use ⟨_, rfl, ?_⟩⟩⟩
        have hk : kindAt secs p.1 = y.Kind := by simp [kindAt, hy]
        have hn := nends_le y.Kind
        rw [w64_id (n := nends y.Kind - 1) (by omega) (by omega)]
        refine bcnot (fun h4 => ?_) (fun h4 => ?_)
        · exact ⟨by rw [hbad (.inl ?_)]; rw [← hG, if_neg]; simp only [spotOk, hk, h4]; simp, hes'⟩
        · have hok : spotOk secs p = true := by simp only [spotOk, hk, h3, h4]; rfl
          by_cases hin : p ∈ tk'
          · refine hm'.lookI keys_spot p (n := 1) (by rw [hf', if_pos hin]; rfl) (bcd (fun _ => ?_) (fun h => absurd (by decide) h))
            exact ⟨by rw [hbad (.inl ?_)]; rw [← hG, if_neg]; simp [hin], hes'⟩
          · refine hm'.lookI keys_spot p (n := 0) (by rw [hf', if_neg hin]; rfl) (bcd (fun h => absurd h (by decide)) (fun _ => ?_))
            refine hm'.lookI keys_spot p (n := 0) (by rw [hf', if_neg hin]; rfl) ?_
            rw [if_pos ⟨hok, hin⟩] at hG
            refine hm'.bump keys_spot p fun s3 f3 hm3 hf3 hf3' hs3 hs3' => ⟨rfl, ?_⟩
            have hn2 := nx' (fun q => prun secs q (p :: tk') = prun secs x.spots tk) hG
            refine ⟨⟨p :: tk', f3, hm3, fun z => ?_, fun i hi => ?_, ?_, hn2.1⟩, hn2.2⟩
            · by_cases hz : z = p
              · subst hz; rw [hf3']; simp; rfl
              · rw [hf3 z hz, hf']; simp [hz]
            · rw [hs3 i (fun e => ?_)]
              · exact hes' i hi
              · subst e; rw [hid] at hi; exact hi rfl
            · rw [hs3 _ (Ne.symm hne)]; exact hs2'
    · have hG := hr'.done (by simp) hge'
      rw [prun] at hG
      refine bce (fun h5 => ⟨by rw [hbad (.inr h5)], hes'⟩) (fun h5 => ?_)
      rw [jrun, ← hG] at hF
      simp only [if_neg h5] at hF
      have hn2 := nx (fun r => jrun secs r tk' = jrun secs js []) hF
      exact ⟨⟨tk', f', hm', hf', hes', hn2.1⟩, hn2.2⟩
  · have hF := hr.done (by simp) hge
    rw [jrun] at hF
    have htop : topoOk secs js = srun tk secs 0 [] := by simp only [topoOk, hsize, ← hF, Bool.true_and]
    rw [htop]
    clear htop hr hF hR
    refine newObj_intro fun id1 s1 hid1 _ he1 hs2 => ?_
    have hne : id ≠ id1 := fun e => by
      obtain ⟨c, es, h1, _⟩ := hm
      rw [e, hid1] at h1; cases h1
    refine (hs s1).lenK ⟨fun n s' => ∃ ls f2, MapAt Tryz.prog t_int iA s' id1 f2 ∧ (∀ z, z ∉ ls → f2 z = none) ∧ (∀ z, z ∈ ls → ∃ c : Int, 1 ≤ c ∧ c ≤ n ∧ f2 z = some (iA c)) ∧ MapAt Tryz.prog t_topo_spot encP s' id f ∧ Ext σ s' ∧
      Rng secs (fun r => srun tk r n ls = srun tk secs 0 []) n, fun n _ => secs.length - n.toNat, ⟨[], _, .new hs2, fun z _ => rfl, fun z hz => (by cases hz), hm.same (he1 id (fun e => by
        obtain ⟨c, es, h1, _⟩ := hm
        rw [e] at h1; cases h1)), hes.trans he1, .start rfl⟩, ?_⟩
    rintro n s' ⟨ls, f2, hm2, hf2, hf2', hm', hes', hr⟩
    refine bcd (fun hlt => ?_) (fun hge => ?_)
    · obtain ⟨j, x, rfl, hx, hjl, hF, nx⟩ := hr.step (by simp) hls hlt
      refine (hs s').load (map_get hx) c_Section rfl ⟨x.Kind, x.OC, x.Line, rfl, ?_⟩
      intro R1 hR1
      rw [srun] at hF
      have hbad : ∀ hc : (nends x.Kind = 0 ∨ ¬ (0 ≤ x.OC ∧ x.OC ≤ 3) ∨ ¬ (0 ≤ x.Line ∧ x.Line ≤ 3) ∨ x.Line ≠ 0 ∧ (x.Kind ≠ 0 ∨ ((j : Int), 1) ∈ tk ∨ x.Line ∈ ls)), (if srun tk secs 0 [] = true then (0 : Int) else 6) = 6 := by
        intro hc
        rw [if_pos hc] at hF
        rw [← hF]; rfl
      refine (topo_Ends_ok _).use ⟨_, rfl, bce (fun h1 => ⟨by rw [hbad (.inl h1)], hes'⟩) (fun h1 => (topo_between_ok _ _ _).use ⟨_, rfl, bcnot (fun h2 => ⟨by rw [hbad (.inr (.inl (of_decide_eq_false h2)))], hes'⟩) (fun h2 => (topo_between_ok _ _ _).use ⟨_, rfl, bcnot (fun h3 => ⟨by rw [hbad (.inr (.inr (.inl (of_decide_eq_false h3))))], hes'⟩) (fun h3 => ⟨rfl, hR1 s' ?_⟩)⟩)⟩)⟩
      have put : ∀ hc : ¬ (x.Line ≠ 0 ∧ (x.Kind ≠ 0 ∨ ((j : Int), 1) ∈ tk ∨ x.Line ∈ ls)), ∃ c : Int, (f2 x.Line).getD (iA 0) = iA c ∧ 0 ≤ c ∧ c ≤ j ∧ (x.Line ∉ ls → c = 0) ∧ ∀ (c' : Int), c' = c → MPut Tryz.prog t_int s' (.omap id1) (iA x.Line) (iA (w64 (c' + 1))) fun s6 =>
          (∃ ls f2, MapAt Tryz.prog t_int iA s6 id1 f2 ∧ (∀ z, z ∉ ls → f2 z = none) ∧ (∀ z, z ∈ ls → ∃ c : Int, 1 ≤ c ∧ c ≤ w64 ((j : Int) + 1) ∧ f2 z = some (iA c)) ∧ MapAt Tryz.prog t_topo_spot encP s6 id f ∧ Ext σ s6 ∧
            Rng secs (fun r => srun tk r (w64 ((j : Int) + 1)) ls = srun tk secs 0 []) (w64 ((j : Int) + 1))) ∧ secs.length - (w64 ((j : Int) + 1)).toNat < secs.length - (j : Int).toNat := by
        intro hc
        have hgo : ¬ (nends x.Kind = 0 ∨ ¬ (0 ≤ x.OC ∧ x.OC ≤ 3) ∨ ¬ (0 ≤ x.Line ∧ x.Line ≤ 3) ∨ x.Line ≠ 0 ∧ (x.Kind ≠ 0 ∨ ((j : Int), 1) ∈ tk ∨ x.Line ∈ ls)) := by
          rintro (h | h | h | h)
          · exact h1 h
          · exact h (of_decide_eq_true h2)
          · exact h (of_decide_eq_true h3)
          · exact hc h
        rw [if_neg hgo] at hF
        have hcount : ∃ c : Int, (f2 x.Line).getD (iA 0) = iA c ∧ 0 ≤ c ∧ c ≤ j ∧ (x.Line ∉ ls → c = 0) := by
          by_cases hin : x.Line ∈ ls
          · obtain ⟨c, c1, c2, c3⟩ := hf2' _ hin
            exact ⟨c, by rw [c3]; rfl, by omega, c2, fun h => absurd hin h⟩
          · exact ⟨0, by rw [hf2 _ hin]; rfl, by omega, by omega, fun _ => rfl⟩
        obtain ⟨c, k1, k2, k3, k4⟩ := hcount
        refine ⟨c, k1, k2, k3, k4, fun c' hc' => ?_⟩
        subst hc'
        refine hm2.put keysI x.Line fun s6 f6 g1 g2 g3 g4 g5 => ?_
        have hn2 := nx (fun r => srun tk r (w64 ((j : Int) + 1)) (x.Line :: ls) = srun tk secs 0 []) (by rw [w64_succ (by omega)]; simpa using hF)
        have hw : w64 ((j : Int) + 1) = (j : Int) + 1 := w64_id (by omega) (by omega)
        refine ⟨⟨x.Line :: ls, f6, g1, fun z hz => ?_, fun z hz => ?_, hm'.same (g4 _ hne), fun i hi => ?_, hn2.1⟩, hn2.2⟩
        · simp only [List.mem_cons, not_or] at hz
          rw [g2 z hz.1]; exact hf2 z hz.2
        · by_cases hzx : z = x.Line
          · subst hzx
            exact ⟨c' + 1, by omega, by omega, by rw [g3, w64_id (by omega) (by omega)]⟩
          · rw [g2 z hzx]
            obtain ⟨c2, q1, q2, q3⟩ := hf2' z ((List.mem_cons.1 hz).resolve_left hzx)
            exact ⟨c2, q1, by omega, q3⟩
        · rw [g4 i (fun e => ?_)]
          · exact hes' i hi
          · subst e
            have := hes _ hi
            rw [hid1] at this; exact hi this.symm
      refine bcn (fun h4 => bcn (fun h5 => ⟨by rw [hbad (.inr (.inr (.inr ⟨h4, .inl h5⟩)))], hes'⟩) (fun h5 => ?_)) (fun h4 => ?_)
      · by_cases hin : ((j : Int), (1 : Int)) ∈ tk
        · refine hm'.lookI keys_spot ((j : Int), (1 : Int)) (n := 1) (by rw [hf, if_pos hin]; rfl) (bcd (fun _ => ⟨by rw [hbad (.inr (.inr (.inr ⟨h4, .inr (.inl hin)⟩)))], hes'⟩) (fun h => absurd (by decide) h))
        · refine hm'.lookI keys_spot ((j : Int), (1 : Int)) (n := 0) (by rw [hf, if_neg hin]; rfl) (bcd (fun h => absurd h (by decide)) (fun _ => ?_))
          by_cases hin2 : x.Line ∈ ls
          · obtain ⟨c, c1, c2, c3⟩ := hf2' _ hin2
            exact hm2.lookI keysI x.Line (n := c) (by rw [c3]; rfl) (bcd (fun _ => ⟨by rw [hbad (.inr (.inr (.inr ⟨h4, .inr (.inr hin2)⟩)))], hes'⟩) (fun h => absurd (show c > 0 by omega) h))
          · obtain ⟨c, k1, k2, k3, k4, k5⟩ := put (by rintro ⟨_, h | h | h⟩; exact h h5; exact hin h; exact hin2 h)
            have := k4 hin2
            refine hm2.lookI keysI x.Line k1 (bcd (fun h => absurd h (by omega)) (fun _ => hm2.lookI keysI x.Line k1 (k5 c rfl)))
      · obtain ⟨c, k1, k2, k3, k4, k5⟩ := put (fun h => h.1 h4)
        exact hm2.lookI keysI x.Line k1 (k5 c rfl)
    · have hF := hr.done (by simp) hge
      rw [srun] at hF
      exact ⟨by rw [← hF]; rfl, hes'⟩
end Go.Proofs.YtcbmibgfmlpobaaGreat
end
section
namespace Go.Fw
structure Rt where
  Entry : Int
  Exit : Int
  Path : List St
  Flank : List Nd
  Overlap : List Int
  Shunt : Bool
structure Cf where
  Secs : List Sec
  Jts : List Jt
  Sigs : List Sg
  Xs : List Int
  Rts : List Rt
  Age : Int
  Brake : Int
  Hold : Int
  Budget : Int
def FnIs {α : Type} (P : Program) (σ : Store) (f : D) (arg : α → A) (l : List α) (p : α → Bool) : Prop :=
  ∃ f1 a b as0' bs, f = .fn f1 a b ∧ capAs a = some as0' ∧ capAs b = some bs ∧ ∀ x ∈ l, DCalls P f1 (as0' ++ [arg x] ++ bs) σ fun r s => r = .a (bA (p x)) ∧ s = σ
def fidx {α : Type} (p : α → Bool) : List α → Nat → Int
  | [], _ => -1
  | x :: r, j => if p x = true then j else fidx p r (j + 1)
theorem fidx_any {α : Type} (p : α → Bool) (l : List α) : decide (fidx p l 0 ≥ 0) = l.any p := by
  have key : ∀ (l : List α) (j : Nat), decide (fidx p l j ≥ 0) = l.any p := by
    intro l
    induction l with
    | nil => intro j; simp [fidx]
    | cons x r ih =>
      intro j
      rw [fidx, List.any_cons]
      by_cases hp : p x = true
      · rw [if_pos hp, hp]; simp
      · rw [if_neg hp, ih]; simp [hp]
  exact key l 0
def geti {α : Type} (l : List α) (i : Int) : Option α := if i < 0 then none else l[i.toNat]?
theorem geti_some {α : Type} {l : List α} {i : Int} {x : α} (h : geti l i = some x) : 0 ≤ i ∧ i < l.length ∧ l[i.toNat]? = some x := by
  unfold geti at h
  split at h
  · cases h
  · have := (List.getElem?_eq_some_iff.1 h).1
    exact ⟨by omega, by omega, h⟩
theorem geti_neg {α : Type} {l : List α} {i : Int} (h : i < 0) : geti l i = none := if_pos h
theorem geti_ge {α : Type} {l : List α} {i : Int} (h : (l.length : Int) ≤ i) : geti l i = none := by
  unfold geti; rw [if_neg (by omega), List.getElem?_eq_none_iff]; omega
def secRV : Option Sec → RV
  | none => .tup [.agg [iD 0, iD 0, iD 0], bA false]
  | some s => .tup [.agg s.enc, bA true]
def sgRV : Option Sg → RV
  | none => .tup [.agg [iD 0, iD 0], bA false]
  | some s => .tup [.agg s.enc, bA true]
def Cf.approach (c : Cf) (r : Rt) : Int := ((geti c.Sigs r.Entry).map Sg.Sec).getD (-1)
def Cf.Approach (c : Cf) (i : Int) : Int := ((geti c.Rts i).map c.approach).getD (-1)
def hasSec (path : List St) (s : Int) : Bool := path.any fun x => x.Sec == s
def RtAt (P : Program) (tS tN tI : TypeId) (σ : Store) (cs : List D) (r : Rt) : Prop :=
  ∃ d1 d2 d3, cs = [iD r.Entry, iD r.Exit, d1, d2, d3, .bool r.Shunt] ∧ At P σ tS d1 (r.Path.map St.enc) ∧ At P σ tN d2 (r.Flank.map Nd.enc) ∧ At P σ tI d3 (r.Overlap.map encI)
def RtsAt (P : Program) (tR tS tN tI : TypeId) (σ : Store) (d : D) (l : List Rt) : Prop :=
  ∃ rows, At P σ tR d rows ∧ rows.length = l.length ∧ ∀ (i : Nat) row r, rows[i]? = some row → l[i]? = some r → RtAt P tS tN tI σ row r
def flankStep (c : Cf) (approach : Int) (path : List St) (s : St) (out : List Nd) (e : Int) : List Nd :=
  if e = s.In ∨ e = s.Out then out else
  match nxt c.Jts s.Sec e with
  | none => out
  | some (q, f) => match geti c.Secs q with
    | none => out
    | some y => if y.Kind = 1 ∧ (1 ≤ f ∧ f ≤ 2) ∧ q ≠ approach ∧ hasSec path q = false ∧ (out.any fun n => n.Sec == q) = false then out ++ [⟨q, 3 - f⟩] else out
def flankEnds (c : Cf) (approach : Int) (path : List St) (s : St) : Nat → Int → List Nd → List Nd
  | 0, _, out => out
  | n + 1, e, out => flankEnds c approach path s n (e + 1) (flankStep c approach path s out e)
def flankRun (c : Cf) (approach : Int) (path : List St) : List St → List Nd → List Nd
  | [], out => out
  | s :: r, out => flankRun c approach path r (match geti c.Secs s.Sec with
    | none => out
    | some x => flankEnds c approach path s (nends x.Kind).toNat 0 out)
def Cf.flank (c : Cf) (approach : Int) (path : List St) : List Nd := flankRun c approach path path []
theorem flankStep_len (c : Cf) (a : Int) (p : List St) (s : St) (out : List Nd) (e : Int) : out.length ≤ (flankStep c a p s out e).length ∧ (flankStep c a p s out e).length ≤ out.length + 1 := by
  unfold flankStep
  split
  · omega
  · split
    · omega
    · split
      · omega
      · split <;> simp
theorem flankEnds_len (c : Cf) (a : Int) (p : List St) (s : St) : ∀ (n : Nat) (e : Int) (out : List Nd), out.length ≤ (flankEnds c a p s n e out).length ∧ (flankEnds c a p s n e out).length ≤ out.length + n
  | 0, e, out => by simp [flankEnds]
  | n + 1, e, out => by
    have h1 := flankStep_len c a p s out e
    have h2 := flankEnds_len c a p s n (e + 1) (flankStep c a p s out e)
    rw [flankEnds]; omega
theorem flankRun_len (c : Cf) (a : Int) (p : List St) : ∀ (l : List St) (out : List Nd), out.length ≤ (flankRun c a p l out).length ∧ (flankRun c a p l out).length ≤ out.length + 4 * l.length
  | [], out => by simp [flankRun]
  | s :: r, out => by
    rw [flankRun]
    cases hg : geti c.Secs s.Sec with
    | none => have := flankRun_len c a p r out; simp only [List.length_cons]; omega
    | some x =>
      have h1 := flankEnds_len c a p s (nends x.Kind).toNat 0 out
      have h2 := flankRun_len c a p r (flankEnds c a p s (nends x.Kind).toNat 0 out)
      have h3 := nends_le x.Kind
      simp only [List.length_cons]
      omega
def Cf.overlap (c : Cf) (r : Rt) : List Int :=
  if r.Shunt = true then [] else
  match geti c.Sigs r.Exit with
  | none => []
  | some x => match nxt c.Jts x.Sec x.End_ with
    | none => []
    | some (q, _) => match geti c.Secs q with
      | none => []
      | some y => if y.Line = 0 ∧ hasSec r.Path q = false ∧ q ≠ c.approach r then [q] else []
def sgrun (js : List Jt) : List Sg → List Sg → Bool
  | [], _ => true
  | x :: r, seen => if (nxt js x.Sec x.End_).isSome = true ∧ x ∉ seen then sgrun js r (x :: seen) else false
def xrun (secs : List Sec) : List Int → List Int → Bool
  | [], _ => true
  | x :: r, seen => match geti secs x with
    | none => false
    | some s => if s.Line = 0 ∧ x ∉ seen then xrun secs r (x :: seen) else false
def Cf.sigsOk (c : Cf) : Bool := sgrun c.Jts c.Sigs [] && decide (c.Sigs.length ≤ 12)
def Cf.xsOk (c : Cf) : Bool := xrun c.Secs c.Xs [] && decide (c.Xs.length ≤ 4)
end Go.Fw
end
section
set_option linter.unusedVariables false
set_option linter.unusedSimpArgs false
namespace Go.Proofs.YtcbmibgfmlpobaaGreat
open Go.Fw Go.Proofs Go.RowKit
variable {σ : Store}
theorem IndexFunc_Step_ok {d f : D} {l : List St} {p : St → Bool} (h : At Tryz.prog σ t_Step d (l.map St.enc)) (hf : FnIs Tryz.prog σ f (fun x : St => .agg x.enc) l p) :
    Pure Tryz.prog n_slices_IndexFunc_Step [.one d, .one f] σ (.a (iA (fidx p l 0))) := by
  have hl := h.size
  rw [List.length_map] at hl
  obtain ⟨f1, a, b, as0', bs, rfl, ha, hb, hf⟩ := hf
  refine W_slices_IndexFunc_Step d _ σ _ (h.lenK ⟨fun n s => s = σ ∧ Rng l (fun r => ∀ j : Nat, n = j → fidx p r j = fidx p l 0) n, fun n _ => l.length - n.toNat, ⟨rfl, .start fun j hj => by cases j with | zero => rfl | succ j => omega⟩, ?_⟩)
  rintro n τ ⟨rfl, hr⟩
  refine bcd (fun hlt => ?_) (fun hge => ?_)
  · obtain ⟨j, x, rfl, hx, hj, hF, nx⟩ := hr.step (by simp) hl hlt
    refine h.load (map_get hx) c_Step rfl ⟨x.Sec, x.In, x.Out, rfl, f1, a, b, as0', bs, rfl, ha, hb, ?_⟩
    have hF := hF j rfl
    rw [fidx] at hF
    refine (hf x (List.mem_of_getElem? hx)).mono ?_
    rintro r s ⟨rfl, rfl⟩
    refine ⟨p x, rfl, bc (fun hp => ?_) (fun hp => ?_)⟩
    · rw [if_pos hp] at hF; exact ⟨by rw [← hF], rfl⟩
    · refine andl rfl (nx _ fun j' hj' => ?_)
      rw [w64_succ (by omega)] at hj'
      have : j' = j + 1 := by omega
      subst this
      rw [if_neg (by rw [hp]; simp)] at hF
      exact hF
  · refine ⟨?_, rfl⟩
    obtain ⟨j, hj, hj2, hF⟩ := hr
    have hF := hF j hj
    rw [List.length_map] at hge
    rw [drop_end (by omega)] at hF
    rw [← hF]; rfl
theorem ContainsFunc_Step_ok {d f : D} {l : List St} {p : St → Bool} (h : At Tryz.prog σ t_Step d (l.map St.enc)) (hf : FnIs Tryz.prog σ f (fun x : St => .agg x.enc) l p) :
    Pure Tryz.prog n_slices_ContainsFunc_Step [.one d, .one f] σ (.a (bA (l.any p))) :=
  W_slices_ContainsFunc_Step d f σ _ ((IndexFunc_Step_ok h hf).use ⟨_, rfl, by rw [fidx_any]; exact ⟨rfl, rfl⟩⟩)
theorem IndexFunc_Need_ok {d f : D} {l : List Nd} {p : Nd → Bool} (h : At Tryz.prog σ t_Need d (l.map Nd.enc)) (hf : FnIs Tryz.prog σ f (fun x : Nd => .agg x.enc) l p) :
    Pure Tryz.prog n_slices_IndexFunc_Need [.one d, .one f] σ (.a (iA (fidx p l 0))) := by
  have hl := h.size
  rw [List.length_map] at hl
  obtain ⟨f1, a, b, as0', bs, rfl, ha, hb, hf⟩ := hf
  refine W_slices_IndexFunc_Need d _ σ _ (h.lenK ⟨fun n s => s = σ ∧ Rng l (fun r => ∀ j : Nat, n = j → fidx p r j = fidx p l 0) n, fun n _ => l.length - n.toNat, ⟨rfl, .start fun j hj => by cases j with | zero => rfl | succ j => omega⟩, ?_⟩)
  rintro n τ ⟨rfl, hr⟩
  refine bcd (fun hlt => ?_) (fun hge => ?_)
  · obtain ⟨j, x, rfl, hx, hj, hF, nx⟩ := hr.step (by simp) hl hlt
    refine h.load (map_get hx) c_Need rfl ⟨x.Sec, x.Pos, rfl, f1, a, b, as0', bs, rfl, ha, hb, ?_⟩
    have hF := hF j rfl
    rw [fidx] at hF
    refine (hf x (List.mem_of_getElem? hx)).mono ?_
    rintro r s ⟨rfl, rfl⟩
    refine ⟨p x, rfl, bc (fun hp => ?_) (fun hp => ?_)⟩
    · rw [if_pos hp] at hF; exact ⟨by rw [← hF], rfl⟩
    · refine andl rfl (nx _ fun j' hj' => ?_)
      rw [w64_succ (by omega)] at hj'
      have : j' = j + 1 := by omega
      subst this
      rw [if_neg (by rw [hp]; simp)] at hF
      exact hF
  · refine ⟨?_, rfl⟩
    obtain ⟨j, hj, hj2, hF⟩ := hr
    have hF := hF j hj
    rw [List.length_map] at hge
    rw [drop_end (by omega)] at hF
    rw [← hF]; rfl
theorem ContainsFunc_Need_ok {d f : D} {l : List Nd} {p : Nd → Bool} (h : At Tryz.prog σ t_Need d (l.map Nd.enc)) (hf : FnIs Tryz.prog σ f (fun x : Nd => .agg x.enc) l p) :
    Pure Tryz.prog n_slices_ContainsFunc_Need [.one d, .one f] σ (.a (bA (l.any p))) :=
  W_slices_ContainsFunc_Need d f σ _ ((IndexFunc_Need_ok h hf).use ⟨_, rfl, by rw [fidx_any]; exact ⟨rfl, rfl⟩⟩)
theorem IndexFunc_Section_ok {d f : D} {l : List Sec} {p : Sec → Bool} (h : At Tryz.prog σ t_Section d (l.map Sec.enc)) (hf : FnIs Tryz.prog σ f (fun x : Sec => .agg x.enc) l p) :
    Pure Tryz.prog n_slices_IndexFunc_Section [.one d, .one f] σ (.a (iA (fidx p l 0))) := by
  have hl := h.size
  rw [List.length_map] at hl
  obtain ⟨f1, a, b, as0', bs, rfl, ha, hb, hf⟩ := hf
  refine W_slices_IndexFunc_Section d _ σ _ (h.lenK ⟨fun n s => s = σ ∧ Rng l (fun r => ∀ j : Nat, n = j → fidx p r j = fidx p l 0) n, fun n _ => l.length - n.toNat, ⟨rfl, .start fun j hj => by cases j with | zero => rfl | succ j => omega⟩, ?_⟩)
  rintro n τ ⟨rfl, hr⟩
  refine bcd (fun hlt => ?_) (fun hge => ?_)
  · obtain ⟨j, x, rfl, hx, hj, hF, nx⟩ := hr.step (by simp) hl hlt
    refine h.load (map_get hx) c_Section rfl ⟨x.Kind, x.OC, x.Line, rfl, f1, a, b, as0', bs, rfl, ha, hb, ?_⟩
    have hF := hF j rfl
    rw [fidx] at hF
    refine (hf x (List.mem_of_getElem? hx)).mono ?_
    rintro r s ⟨rfl, rfl⟩
    refine ⟨p x, rfl, bc (fun hp => ?_) (fun hp => ?_)⟩
    · rw [if_pos hp] at hF; exact ⟨by rw [← hF], rfl⟩
    · refine andl rfl (nx _ fun j' hj' => ?_)
      rw [w64_succ (by omega)] at hj'
      have : j' = j + 1 := by omega
      subst this
      rw [if_neg (by rw [hp]; simp)] at hF
      exact hF
  · refine ⟨?_, rfl⟩
    obtain ⟨j, hj, hj2, hF⟩ := hr
    have hF := hF j hj
    rw [List.length_map] at hge
    rw [drop_end (by omega)] at hF
    rw [← hF]; rfl
theorem Index_Signal_ok {d : D} {l : List Sg} (v : Sg) (h : At Tryz.prog σ t_Signal d (l.map Sg.enc)) : Pure Tryz.prog n_slices_Index_Signal [.one d, .agg v.enc] σ (.a (iA (fidx (fun x => decide (v = x)) l 0))) := by
  have hl := h.size
  rw [List.length_map] at hl
  refine W_slices_Index_Signal d v.Sec v.End_ σ _ (h.lenK ⟨fun n s => s = σ ∧ Rng l (fun r => ∀ j : Nat, n = j → fidx (fun x => decide (v = x)) r j = fidx (fun x => decide (v = x)) l 0) n, fun n _ => l.length - n.toNat, ⟨rfl, .start fun j hj => by cases j with | zero => rfl | succ j => omega⟩, ?_⟩)
  rintro n τ ⟨rfl, hr⟩
  refine bcd (fun hlt => ?_) (fun hge => ?_)
  · obtain ⟨j, x, rfl, hx, hj, hF, nx⟩ := hr.step (by simp) hl hlt
    refine h.load (map_get hx) c_Signal rfl ⟨x.Sec, x.End_, rfl, ?_⟩
    have hF := hF j rfl
    rw [fidx] at hF
    have hd : ((v.Sec == x.Sec) && (v.End_ == x.End_)) = decide (v = x) := by
      rw [Bool.eq_iff_iff]; cases v; cases x; simp
    rw [hd]
    refine bc (fun hp => ?_) (fun hp => ?_)
    · rw [if_pos hp] at hF; exact ⟨by rw [← hF], rfl⟩
    · refine andl rfl (nx _ fun j' hj' => ?_)
      rw [w64_succ (by omega)] at hj'
      have : j' = j + 1 := by omega
      subst this
      rw [if_neg (by rw [hp]; simp)] at hF
      exact hF
  · refine ⟨?_, rfl⟩
    obtain ⟨j, hj, hj2, hF⟩ := hr
    have hF := hF j hj
    rw [List.length_map] at hge
    rw [drop_end (by omega)] at hF
    rw [← hF]; rfl
theorem Contains_Signal_ok {d : D} {l : List Sg} (v : Sg) (h : At Tryz.prog σ t_Signal d (l.map Sg.enc)) : Pure Tryz.prog n_slices_Contains_Signal [.one d, .agg v.enc] σ (.a (bA (l.any fun x => decide (v = x)))) :=
  W_slices_Contains_Signal d v.Sec v.End_ σ _ ((Index_Signal_ok v h).use ⟨_, rfl, by rw [fidx_any]; exact ⟨rfl, rfl⟩⟩)
theorem Equal_Need_ok {d1 d2 : D} {l1 l2 : List Nd} (h1 : At Tryz.prog σ t_Need d1 (l1.map Nd.enc)) (h2 : At Tryz.prog σ t_Need d2 (l2.map Nd.enc)) : Pure Tryz.prog n_slices_Equal_Need [.one d1, .one d2] σ (.a (bA (decide (l1 = l2)))) := by
  have hl1 := h1.size
  have hl2 := h2.size
  rw [List.length_map] at hl1 hl2
  refine W_slices_Equal_Need d1 d2 σ _ (h1.lenK (h2.lenK (bcn (fun hne => ?_) (fun heq => h1.lenK ?_))))
  · rw [List.length_map, List.length_map] at hne
    exact ⟨by rw [decide_eq_false (fun e => hne (by rw [e]))], rfl⟩
  rw [List.length_map, List.length_map] at heq
  refine ⟨fun n s => s = σ ∧ Rng l1 (fun r => ∀ j : Nat, n = j → (r = l2.drop j ↔ l1 = l2)) n, fun n _ => l1.length - n.toNat, ⟨rfl, .start fun j hj => by cases j with | zero => simp | succ j => omega⟩, ?_⟩
  rintro n τ ⟨rfl, hr⟩
  refine bcd (fun hlt => ?_) (fun hge => ?_)
  · obtain ⟨j, x, rfl, hx, hj, hF, nx⟩ := hr.step (by simp) hl1 hlt
    obtain ⟨y, hy⟩ := get_of_lt (l := l2) (j := j) (by omega)
    refine h1.load (map_get hx) c_Need rfl ⟨x.Sec, x.Pos, rfl, h2.load (map_get hy) c_Need rfl ⟨y.Sec, y.Pos, rfl, ?_⟩⟩
    have hF := hF j rfl
    rw [drop_get hy, List.cons.injEq] at hF
    have hd : ((x.Sec == y.Sec) && (x.Pos == y.Pos)) = decide (x = y) := by
      rw [Bool.eq_iff_iff]; cases x; cases y; simp
    rw [hd]
    refine bcnot (fun hp => ?_) (fun hp => ?_)
    · exact ⟨by rw [decide_eq_false (fun e => of_decide_eq_false hp (hF.2 e).1)], rfl⟩
    · refine andl rfl (nx _ fun j' hj' => ?_)
      rw [w64_succ (by omega)] at hj'
      have : j' = j + 1 := by omega
      subst this
      rw [← hF]; exact ⟨fun h => ⟨of_decide_eq_true hp, h⟩, fun h => h.2⟩
  · obtain ⟨j, hj, hj2, hF⟩ := hr
    rw [List.length_map] at hge
    have hF := hF j hj
    rw [drop_end (by omega), drop_end (by omega)] at hF
    exact ⟨by rw [decide_eq_true (hF.1 rfl)], rfl⟩
theorem Equal_int_ok {d1 d2 : D} {l1 l2 : List Int} (h1 : At Tryz.prog σ t_int d1 (l1.map Go.Fw.encI)) (h2 : At Tryz.prog σ t_int d2 (l2.map Go.Fw.encI)) : Pure Tryz.prog n_slices_Equal_int [.one d1, .one d2] σ (.a (bA (decide (l1 = l2)))) := by
  have hl1 := h1.size
  have hl2 := h2.size
  rw [List.length_map] at hl1 hl2
  refine W_slices_Equal_int d1 d2 σ _ (h1.lenK (h2.lenK (bcn (fun hne => ?_) (fun heq => h1.lenK ?_))))
  · rw [List.length_map, List.length_map] at hne
    exact ⟨by rw [decide_eq_false (fun e => hne (by rw [e]))], rfl⟩
  rw [List.length_map, List.length_map] at heq
  refine ⟨fun n s => s = σ ∧ Rng l1 (fun r => ∀ j : Nat, n = j → (r = l2.drop j ↔ l1 = l2)) n, fun n _ => l1.length - n.toNat, ⟨rfl, .start fun j hj => by cases j with | zero => simp | succ j => omega⟩, ?_⟩
  rintro n τ ⟨rfl, hr⟩
  refine bcd (fun hlt => ?_) (fun hge => ?_)
  · obtain ⟨j, x, rfl, hx, hj, hF, nx⟩ := hr.step (by simp) hl1 hlt
    obtain ⟨y, hy⟩ := get_of_lt (l := l2) (j := j) (by omega)
    refine h1.load (map_get hx) c_int rfl ⟨x, rfl, h2.load (map_get hy) c_int rfl ⟨y, rfl, ?_⟩⟩
    have hF := hF j rfl
    rw [drop_get hy, List.cons.injEq] at hF
    refine bcn (fun hp => ?_) (fun hp => ?_)
    · exact ⟨by rw [decide_eq_false (fun e => hp (hF.2 e).1)], rfl⟩
    · refine andl rfl (nx _ fun j' hj' => ?_)
      rw [w64_succ (by omega)] at hj'
      have : j' = j + 1 := by omega
      subst this
      rw [← hF]; exact ⟨fun h => ⟨hp, h⟩, fun h => h.2⟩
  · obtain ⟨j, hj, hj2, hF⟩ := hr
    rw [List.length_map] at hge
    have hF := hF j hj
    rw [drop_end (by omega), drop_end (by omega)] at hF
    exact ⟨by rw [decide_eq_true (hF.1 rfl)], rfl⟩
end Go.Proofs.YtcbmibgfmlpobaaGreat
end
section
set_option linter.unusedVariables false
set_option linter.unusedSimpArgs false
namespace Go.Proofs.YtcbmibgfmlpobaaGreat
open Go.Fw Go.Proofs Go.RowKit
variable {σ : Store}
structure CfAt (σ : Store) (c0 c1 c2 c3 c4 : D) (c : Cf) : Prop where
  secs : At Tryz.prog σ t_Section c0 (c.Secs.map Sec.enc)
  jts : At Tryz.prog σ t_Joint c1 (c.Jts.map Jt.enc)
  sigs : At Tryz.prog σ t_Signal c2 (c.Sigs.map Sg.enc)
  xs : At Tryz.prog σ t_int c3 (c.Xs.map Go.Fw.encI)
  rts : RtsAt Tryz.prog t_Route t_Step t_Need t_int σ c4 c.Rts
abbrev cfA (c0 c1 c2 c3 c4 : D) (c : Cf) : A := .agg [c0, c1, c2, c3, c4, iD c.Age, iD c.Brake, iD c.Hold, iD c.Budget]
abbrev rtA (d1 d2 d3 : D) (r : Rt) : A := .agg [iD r.Entry, iD r.Exit, d1, d2, d3, .bool r.Shunt]
section
variable {c0 c1 c2 c3 c4 : D} {c : Cf} (h : CfAt σ c0 c1 c2 c3 c4 c)
include h
theorem plan_section_ok (s : Int) : Pure Tryz.prog n_conf_plan_section [cfA c0 c1 c2 c3 c4 c, iA s] σ (secRV (geti c.Secs s)) := by
  refine W_conf_plan_section _ _ _ _ _ _ _ _ _ s σ _ (bcd (fun h1 => ⟨by rw [geti_neg h1]; rfl, rfl⟩) (fun h1 => h.secs.lenK (bcd (fun h2 => ⟨by rw [List.length_map] at h2; rw [geti_ge h2]; rfl, rfl⟩) (fun h2 => ?_))))
  rw [List.length_map] at h2
  obtain ⟨x, hx⟩ := get_of_lt (l := c.Secs) (j := s.toNat) (by omega)
  refine h.secs.load (map_get hx) c_Section (by omega) ⟨x.Kind, x.OC, x.Line, rfl, ?_, rfl⟩
  have : geti c.Secs s = some x := by unfold geti; rw [if_neg h1, hx]
  rw [this]; rfl
theorem plan_signal_ok (s : Int) : Pure Tryz.prog n_conf_plan_signal [cfA c0 c1 c2 c3 c4 c, iA s] σ (sgRV (geti c.Sigs s)) := by
  refine W_conf_plan_signal _ _ _ _ _ _ _ _ _ s σ _ (bcd (fun h1 => ⟨by rw [geti_neg h1]; rfl, rfl⟩) (fun h1 => h.sigs.lenK (bcd (fun h2 => ⟨by rw [List.length_map] at h2; rw [geti_ge h2]; rfl, rfl⟩) (fun h2 => ?_))))
  rw [List.length_map] at h2
  obtain ⟨x, hx⟩ := get_of_lt (l := c.Sigs) (j := s.toNat) (by omega)
  refine h.sigs.load (map_get hx) c_Signal (by omega) ⟨x.Sec, x.End_, rfl, ?_, rfl⟩
  have : geti c.Sigs s = some x := by unfold geti; rw [if_neg h1, hx]
  rw [this]; rfl
theorem plan_approach_ok (r : Rt) (d1 d2 d3 : D) : Pure Tryz.prog n_conf_plan_approach [cfA c0 c1 c2 c3 c4 c, rtA d1 d2 d3 r] σ (.a (iA (c.approach r))) := by
  refine W_conf_plan_approach _ _ _ _ _ _ _ _ _ _ _ d1 d2 d3 _ σ _ ((plan_signal_ok h r.Entry).use ?_)
  cases hg : geti c.Sigs r.Entry with
  | none => exact ⟨0, 0, false, rfl, by simp [Cf.approach, hg], rfl⟩
  | some x => exact ⟨x.Sec, x.End_, true, rfl, by simp [Cf.approach, hg], rfl⟩
theorem rts_get {i : Nat} {r : Rt} (hr : c.Rts[i]? = some r) : ∃ rows, At Tryz.prog σ t_Route c4 rows ∧ rows.length = c.Rts.length ∧ ∃ d1 d2 d3, rows[i]? = some [iD r.Entry, iD r.Exit, d1, d2, d3, .bool r.Shunt] ∧ At Tryz.prog σ t_Step d1 (r.Path.map St.enc) ∧ At Tryz.prog σ t_Need d2 (r.Flank.map Nd.enc) ∧ At Tryz.prog σ t_int d3 (r.Overlap.map Go.Fw.encI) := by
  obtain ⟨rows, h1, h2, h3⟩ := h.rts
  have hlt := (List.getElem?_eq_some_iff.1 hr).1
  obtain ⟨row, hrow⟩ := get_of_lt (l := rows) (j := i) (by omega)
  obtain ⟨d1, d2, d3, rfl, q1, q2, q3⟩ := h3 i row r hrow hr
  exact ⟨rows, h1, h2, d1, d2, d3, hrow, q1, q2, q3⟩
theorem rts_len : ∃ rows, At Tryz.prog σ t_Route c4 rows ∧ rows.length = c.Rts.length := by
  obtain ⟨rows, h1, h2, h3⟩ := h.rts
  exact ⟨rows, h1, h2⟩
theorem conf_Approach_ok (i : Int) : Pure Tryz.prog n_conf_Approach [cfA c0 c1 c2 c3 c4 c, iA i] σ (.a (iA (c.Approach i))) := by
  obtain ⟨rows, hr, hl⟩ := rts_len h
  refine W_conf_Approach _ _ _ _ _ _ _ _ _ i σ _ (bcd (fun h1 => ⟨by rw [Cf.Approach, geti_neg h1]; rfl, rfl⟩) (fun h1 => hr.lenK (bcd (fun h2 => ⟨by rw [hl] at h2; rw [Cf.Approach, geti_ge h2]; rfl, rfl⟩) (fun h2 => ?_))))
  rw [hl] at h2
  obtain ⟨x, hx⟩ := get_of_lt (l := c.Rts) (j := i.toNat) (by omega)
  obtain ⟨rows', hr', _, d1, d2, d3, hrow, _⟩ := rts_get h hx
  refine hr'.load hrow c_Route (by omega) ⟨_, _, d1, d2, d3, _, rfl, (plan_approach_ok h x d1 d2 d3).use ⟨_, rfl, ?_, rfl⟩⟩
  have : geti c.Rts i = some x := by unfold geti; rw [if_neg h1, hx]
  rw [Cf.Approach, this]; rfl
end
theorem cap_fn {α : Type} {f1 : FuncId} {id : Nat} {t : TypeId} {n : Int} {arg : α → A} {l : List α} {p : α → Bool} (hs : σ id = .live t [[iD n]])
    (hf : ∀ x ∈ l, DCalls Tryz.prog f1 [arg x, .one (.el (.osl id 0 1) 0 0)] σ fun r s => r = .a (bA (p x)) ∧ s = σ) : FnIs Tryz.prog σ (.fn f1 [] [(false, [.el (.osl id 0 1) 0 0])]) arg l p :=
  ⟨f1, _, _, [], [.one (.el (.osl id 0 1) 0 0)], rfl, rfl, rfl, hf⟩
theorem box_row {id : Nat} {t : TypeId} {row : List D} (hs : σ id = .live t [row]) : Row σ (.osl id 0 1) 0 row := ⟨by omega, t, [row], hs, rfl⟩
theorem conf_has_ok {d : D} {path : List St} (s : Int) (h : At Tryz.prog σ t_Step d (path.map St.enc)) : Pure Tryz.prog n_conf_has [.one d, iA s] σ (.a (bA (hasSec path s))) := by
  refine .of (W_conf_has d s σ _ (newObj_intro fun id σ1 hid _ he hs => ?_)) (flat_b _)
  refine (ContainsFunc_Step_ok (p := fun x => x.Sec == s) (h.ext he) (cap_fn hs fun x _ => ?_)).use ⟨_, rfl, rfl, he⟩
  exact W_conf_has_1 x.Sec x.In x.Out _ σ1 _ ⟨_, _, _, rfl, _, box_row hs, s, rfl, rfl, rfl⟩
theorem hasNeed_ok {d : D} {l : List Nd} {id : Nat} {q : Int} (h : At Tryz.prog σ t_Need d (l.map Nd.enc)) (hs : σ id = .live t_int [[iD q]]) :
    Pure Tryz.prog n_slices_ContainsFunc_Need [.one d, .one (.fn n_conf_plan_flank_1 [] [(false, [.el (.osl id 0 1) 0 0])])] σ (.a (bA (l.any fun n => n.Sec == q))) :=
  ContainsFunc_Need_ok (p := fun x => x.Sec == q) h (cap_fn hs fun x _ => W_conf_plan_flank_1 x.Sec x.Pos _ σ _ ⟨_, _, _, rfl, _, box_row hs, q, rfl, rfl, rfl⟩)
end Go.Proofs.YtcbmibgfmlpobaaGreat
end
section
namespace Go.Fw
theorem opt2_ex (o : Option (Int × Int)) {K : Int → Int → Bool → Prop} (h : K (o.getD (0, 0)).1 (o.getD (0, 0)).2 o.isSome) : ∃ n m : Int, ∃ b : Bool, opt2 o = .tup [iA n, iA m, bA b] ∧ K n m b := by
  cases o with
  | none => exact ⟨0, 0, false, rfl, h⟩
  | some p => exact ⟨p.1, p.2, true, rfl, h⟩
theorem opt1_ex (o : Option Int) {K : Int → Bool → Prop} (h : K (o.getD 0) o.isSome) : ∃ n : Int, ∃ b : Bool, opt1 o = .tup [iA n, bA b] ∧ K n b := by
  cases o with
  | none => exact ⟨0, false, rfl, h⟩
  | some p => exact ⟨p, true, rfl, h⟩
theorem sec_ex (o : Option Sec) {K : Int → Int → Int → Bool → Prop} (h : K (o.getD ⟨0, 0, 0⟩).Kind (o.getD ⟨0, 0, 0⟩).OC (o.getD ⟨0, 0, 0⟩).Line o.isSome) : ∃ n m k : Int, ∃ b : Bool, secRV o = .tup [.agg [iD n, iD m, iD k], bA b] ∧ K n m k b := by
  cases o with
  | none => exact ⟨0, 0, 0, false, rfl, h⟩
  | some p => exact ⟨p.Kind, p.OC, p.Line, true, rfl, h⟩
theorem sg_ex (o : Option Sg) {K : Int → Int → Bool → Prop} (h : K (o.getD ⟨0, 0⟩).Sec (o.getD ⟨0, 0⟩).End_ o.isSome) : ∃ n m : Int, ∃ b : Bool, sgRV o = .tup [.agg [iD n, iD m], bA b] ∧ K n m b := by
  cases o with
  | none => exact ⟨0, 0, false, rfl, h⟩
  | some p => exact ⟨p.Sec, p.End_, true, rfl, h⟩
def pstep (c : Cf) (r : Rt) (ex : Option Sg) (a : Sg) (s : St) (last : Bool) (seen : List Int) : Bool :=
  match nxt c.Jts a.Sec a.End_ with
  | none => false
  | some (q, i) => decide (q = s.Sec) && decide (i = s.In) && (wpos (wayL ((geti c.Secs q).getD ⟨0, 0, 0⟩).Kind) s.In s.Out).isSome && decide (q ∉ seen) &&
      (!(c.Sigs.any fun x => decide (⟨s.Sec, s.Out⟩ = x)) || (last && decide (ex = some ⟨s.Sec, s.Out⟩))) && !(r.Shunt && decide (((geti c.Secs q).getD ⟨0, 0, 0⟩).Line ≠ 0))
def prunA (c : Cf) (r : Rt) (ex : Option Sg) : List St → Sg → List Int → Bool
  | [], a, _ => match ex with
    | some x => decide (a = x)
    | none => !(nxt c.Jts a.Sec a.End_).isSome
  | s :: rest, a, seen => pstep c r ex a s rest.isEmpty seen && prunA c r ex rest ⟨s.Sec, s.Out⟩ (s.Sec :: seen)
def Cf.path (c : Cf) (r : Rt) : Bool :=
  match geti c.Sigs r.Entry with
  | none => false
  | some a => (decide (r.Exit = -1) || (geti c.Sigs r.Exit).isSome) && decide (1 ≤ r.Path.length ∧ r.Path.length ≤ 8) && prunA c r (geti c.Sigs r.Exit) r.Path a [a.Sec]
def Cf.route (c : Cf) (r : Rt) : Int :=
  if c.path r = false then 9 else if r.Flank ≠ c.flank (c.approach r) r.Path then 10 else if r.Overlap ≠ c.overlap r then 11 else 0
def Cf.routes (c : Cf) : List Rt → Int
  | [] => 0
  | r :: l => if c.route r ≠ 0 then c.route r else c.routes l
def Cf.timing (c : Cf) : Bool :=
  decide (1 ≤ c.Age ∧ c.Age ≤ 8) && decide (0 ≤ c.Brake ∧ c.Brake ≤ 8) && decide (c.Age + c.Brake + 1 ≤ c.Hold ∧ c.Hold ≤ 40) && decide (1 ≤ c.Budget ∧ c.Budget ≤ 1000000)
def Cf.check (c : Cf) : Int :=
  if topoOk c.Secs c.Jts = false then 6 else if c.sigsOk = false then 7 else if c.xsOk = false then 8 else if c.Rts.length > 12 then 9
  else if c.routes c.Rts ≠ 0 then c.routes c.Rts else if c.timing = true then 0 else 12
theorem Rows.det {P : Program} {s s' : Store} {el : TypeId} {d : D} {rs rs' : List (List D)} (h : Rows P s el d rs) (h' : Rows P s' el d rs') (hd : ∀ id i len, d ≠ .osl id i len) : rs = rs' := by
  cases d <;> simp only [Rows] at h h' <;> try exact h.elim
  · rw [h, h']
  · rw [h, h']
  · rw [h.1, h'.1]
  · exact absurd rfl (hd _ _ _)
theorem froz_plain {P : Program} {el : TypeId} {d : D} (h : ∀ s, ∃ rs, Rows P s el d rs) : ∀ id i len, d ≠ .osl id i len := by
  rintro id i len rfl
  obtain ⟨rs, t, rows, h1, _⟩ := h fun _ => .free
  cases h1
theorem rts_froz {P : Program} {tR tS tN tI : TypeId} {d : D} {l : List Rt} (h : ∀ s, RtsAt P tR tS tN tI s d l) :
    ∃ rows, (∀ s, At P s tR d rows) ∧ rows.length = l.length ∧ ∀ (i : Nat) row r, rows[i]? = some row → l[i]? = some r →
      ∃ d1 d2 d3, row = [iD r.Entry, iD r.Exit, d1, d2, d3, .bool r.Shunt] ∧ (∀ s, At P s tS d1 (r.Path.map St.enc)) ∧ (∀ s, At P s tN d2 (r.Flank.map Nd.enc)) ∧ (∀ s, At P s tI d3 (r.Overlap.map encI)) := by
  have hp := froz_plain (P := P) (el := tR) (d := d) fun s => by
    obtain ⟨rows, h1, _⟩ := h s
    exact ⟨rows, h1.rows⟩
  obtain ⟨rows, h1, h2, h3⟩ := h fun _ => .free
  have hall : ∀ s, At P s tR d rows ∧ ∀ (i : Nat) row r, rows[i]? = some row → l[i]? = some r → RtAt P tS tN tI s row r := fun s => by
    obtain ⟨rows', q1, q2, q3⟩ := h s
    have e := q1.rows.det h1.rows hp
    subst e
    exact ⟨q1, q3⟩
  refine ⟨rows, fun s => (hall s).1, h2, fun i row r hi hr => ?_⟩
  obtain ⟨d1, d2, d3, rfl, _⟩ := h3 i row r hi hr
  refine ⟨d1, d2, d3, rfl, fun s => ?_, fun s => ?_, fun s => ?_⟩ <;>
  · obtain ⟨e1, e2, e3, he, q1, q2, q3⟩ := (hall s).2 i _ r hi hr
    injection he with _ he; injection he with _ he; injection he with a1 he; injection he with a2 he; injection he with a3 he
    subst a1 a2 a3
    assumption
end Go.Fw
end
section
set_option linter.unusedVariables false
set_option linter.unusedSimpArgs false
namespace Go.Proofs.YtcbmibgfmlpobaaGreat
open Go.Fw Go.Proofs Go.RowKit
variable {σ : Store}
abbrev encSg (p : Sg) : A := .agg [iD p.Sec, iD p.End_]
theorem keys_sg : Keys Tryz.prog t_Signal encSg := by
  refine ⟨fun x => ?_, fun x y => ?_⟩
  · have : ∀ a b : Int, keyOk Tryz.prog t_Signal (.agg [iD a, iD b]) = true := fun a b => by kernel_rfl
    exact this _ _
  · cases x; cases y; simp [eqA, eqCells, aCells, eqCell]
theorem conf_between_ok (n lo hi : Int) : Pure Tryz.prog n_conf_between [iA n, iA lo, iA hi] σ (.a (bA (decide (lo ≤ n ∧ n ≤ hi)))) := by
  refine W_conf_between n lo hi σ _ (bcd (fun h => ⟨?_, rfl⟩) (fun h => ⟨?_, rfl⟩)) <;> simp [h]
section
variable {c0 c1 c2 c3 c4 : D} {c : Cf} (h : ∀ s, CfAt s c0 c1 c2 c3 c4 c)
include h
theorem plan_signals_ok : Pure Tryz.prog n_conf_plan_signals [cfA c0 c1 c2 c3 c4 c] σ (.a (bA c.sigsOk)) := by
  have hl := (h σ).sigs.size
  rw [List.length_map] at hl
  refine .of (W_conf_plan_signals _ _ _ _ _ _ _ _ _ σ _ ?_) (flat_b _)
  refine newObj_intro fun id σ1 hid _ he hs => (h σ1).sigs.lenK ⟨fun n s => ∃ seen f, MapAt Tryz.prog t_Signal encSg s id f ∧ (∀ z, f z = if z ∈ seen then some (iA 1) else none) ∧ Ext σ s ∧ Rng c.Sigs (fun r => sgrun c.Jts r seen = sgrun c.Jts c.Sigs []) n,
    fun n _ => c.Sigs.length - n.toNat, ⟨[], _, .new hs, fun z => by simp, he, .start rfl⟩, ?_⟩
  rintro n s ⟨seen, f, hm, hf, hes, hr⟩
  refine bcd (fun hlt => ?_) (fun hge => ?_)
  · obtain ⟨j, x, rfl, hx, hj, hF, nx⟩ := hr.step (by simp) hl hlt
    refine (h s).sigs.load (map_get hx) c_Signal rfl ⟨x.Sec, x.End_, rfl, (topo_Next_ok x.Sec x.End_ (h s).jts).use (opt2_ex _ ?_)⟩
    rw [sgrun] at hF
    have key : ∀ k : Int, f x = (if x ∈ seen then some (iA 1) else none) → ((f x).getD (iA 0) = iA (if x ∈ seen then 1 else 0)) := fun k e => by
      rw [e]; split <;> rfl
    refine hm.lookI keys_sg x (key 0 (hf x)) (hm.bump keys_sg x fun s' f' hm' hf' hfx hs' hne => ?_)
    have hes' : Ext σ s' := fun i hi => by
      rw [hs' i (fun e => hi (by rw [e]; exact hid))]; exact hes i hi
    refine bcnot (fun hb => ?_) (fun hb => ?_)
    · rw [if_neg (by rw [hb]; simp)] at hF
      exact ⟨by simp [Cf.sigsOk, ← hF], hes'⟩
    · refine hm'.lookI keys_sg x (by rw [hfx]; rfl) (bcd (fun h2 => ?_) (fun h2 => ?_))
      · have hin : x ∈ seen := by
          by_cases hin : x ∈ seen
          · exact hin
          · rw [if_neg hin] at h2; exact absurd h2 (by decide)
        rw [if_neg (by simp [hin])] at hF
        exact ⟨by simp [Cf.sigsOk, ← hF], hes'⟩
      · have hin : x ∉ seen := fun hin => h2 (by rw [if_pos hin]; decide)
        rw [if_pos ⟨hb, hin⟩] at hF
        have hn := nx (fun r => sgrun c.Jts r (x :: seen) = sgrun c.Jts c.Sigs []) hF
        refine ⟨⟨x :: seen, f', hm', fun z => ?_, hes', hn.1⟩, hn.2⟩
        by_cases hz : z = x
        · subst hz; rw [hfx, if_neg hin]; simp; rfl
        · rw [hf' z hz, hf]; simp [hz]
  · have hF := hr.done (by simp) hge
    rw [sgrun] at hF
    refine (h s).sigs.lenK ⟨?_, hes⟩
    rw [Cf.sigsOk, ← hF, List.length_map, Bool.true_and]
    congr 4; simp; omega
theorem plan_crossings_ok : Pure Tryz.prog n_conf_plan_crossings [cfA c0 c1 c2 c3 c4 c] σ (.a (bA c.xsOk)) := by
  have hl := (h σ).xs.size
  rw [List.length_map] at hl
  refine .of (W_conf_plan_crossings _ _ _ _ _ _ _ _ _ σ _ ?_) (flat_b _)
  refine newObj_intro fun id σ1 hid _ he hs => (h σ1).xs.lenK ⟨fun n s => ∃ seen f, MapAt Tryz.prog t_int iA s id f ∧ (∀ z, f z = if z ∈ seen then some (iA 1) else none) ∧ Ext σ s ∧ Rng c.Xs (fun r => xrun c.Secs r seen = xrun c.Secs c.Xs []) n,
    fun n _ => c.Xs.length - n.toNat, ⟨[], _, .new hs, fun z => by simp, he, .start rfl⟩, ?_⟩
  rintro n s ⟨seen, f, hm, hf, hes, hr⟩
  refine bcd (fun hlt => ?_) (fun hge => ?_)
  · obtain ⟨j, x, rfl, hx, hj, hF, nx⟩ := hr.step (by simp) hl hlt
    refine (h s).xs.load (map_get hx) c_int rfl ⟨x, rfl, (plan_section_ok (h s) x).use (sec_ex _ ?_)⟩
    rw [xrun] at hF
    have key : (f x).getD (iA 0) = iA (if x ∈ seen then 1 else 0) := by
      rw [hf]; split <;> rfl
    refine hm.lookI keysI x key (hm.put keysI x fun s' f' hm' hf' hfx hs' hne => ?_)
    have hes' : Ext σ s' := fun i hi => by
      rw [hs' i (fun e => hi (by rw [e]; exact hid))]; exact hes i hi
    refine bcnot (fun hb => ?_) (fun hb => ?_)
    · cases hg : geti c.Secs x with
      | some y => rw [hg] at hb; cases hb
      | none =>
        rw [hg] at hF
        exact ⟨by simp [Cf.xsOk, ← hF], hes'⟩
    · obtain ⟨y, hg⟩ := Option.isSome_iff_exists.1 hb
      rw [hg] at hF
      simp only [hg, Option.getD_some] at hF ⊢
      refine bcn (fun h3 => ?_) (fun h3 => ?_)
      · rw [if_neg (by simp [h3])] at hF
        exact ⟨by simp [Cf.xsOk, ← hF], hes'⟩
      refine hm'.lookI keysI x (by rw [hfx]; rfl) (bcd (fun h2 => ?_) (fun h2 => ?_))
      · have hin : x ∈ seen := by
          by_cases hin : x ∈ seen
          · exact hin
          · rw [if_neg hin] at h2; exact absurd h2 (by decide)
        rw [if_neg (by simp [hin])] at hF
        exact ⟨by simp [Cf.xsOk, ← hF], hes'⟩
      · have hin : x ∉ seen := fun hin => h2 (by rw [if_pos hin]; decide)
        rw [if_pos ⟨h3, hin⟩] at hF
        have hn := nx (fun r => xrun c.Secs r (x :: seen) = xrun c.Secs c.Xs []) hF
        refine ⟨⟨x :: seen, f', hm', fun z => ?_, hes', hn.1⟩, hn.2⟩
        by_cases hz : z = x
        · subst hz; rw [hfx, if_neg hin]; simp; rfl
        · rw [hf' z hz, hf]; simp [hz]
  · have hF := hr.done (by simp) hge
    rw [xrun] at hF
    refine (h s).xs.lenK ⟨?_, hes⟩
    rw [Cf.xsOk, ← hF, List.length_map, Bool.true_and]
    congr 4; simp; omega
end
end Go.Proofs.YtcbmibgfmlpobaaGreat
end
section
set_option linter.unusedVariables false
set_option linter.unusedSimpArgs false
namespace Go.Proofs.YtcbmibgfmlpobaaGreat
open Go.Fw Go.Proofs Go.RowKit
variable {σ : Store}
def SlPost (σ : Store) (t : TypeId) (rows : List (List D)) (r : RV) (σ' : Store) : Prop := σ' = σ ∧ ∃ d, r = .a (.one d) ∧ ∀ s, At Tryz.prog s t d rows
theorem own_fin {t : TypeId} {d : D} {rows : List (List D)} {s : Store} (h : Own Tryz.prog σ s t d rows) (hf : ∀ row ∈ rows, ∀ x ∈ row, Flat x) :
    ∃ r' σ', Ret Tryz.prog σ s (.a (.one d)) σ' r' ∧ SlPost σ t rows r' σ' := by
  obtain ⟨d', h1, h2⟩ := ret_slice h.at_ h.ext h.new hf
  exact ⟨.a (.one d'), σ, .pure h.ext h1, rfl, d', rfl, h2⟩
theorem flatNd (l : List Nd) : ∀ row ∈ l.map Nd.enc, ∀ x ∈ row, Flat x := by
  intro row hrow x hx
  obtain ⟨w, _, rfl⟩ := List.mem_map.1 hrow
  simp [Nd.enc] at hx
  rcases hx with rfl | rfl <;> exact .int _ _
theorem flatI (l : List Int) : ∀ row ∈ l.map Go.Fw.encI, ∀ x ∈ row, Flat x := by
  intro row hrow x hx
  obtain ⟨w, _, rfl⟩ := List.mem_map.1 hrow
  simp [Go.Fw.encI] at hx
  subst hx; exact .int _ _
theorem box_store {s : Store} {id : Nat} {t : TypeId} {x y : D} {K : Store → Prop} (hs : s id = .live t [[x]]) (hK : ∀ s', s' id = .live t [[y]] → (∀ i, i ≠ id → s' i = s i) → K s') : storeEl [y] s (.osl id 0 1) 0 0 K :=
  ⟨id, 0, 1, t, [[x]], [x], rfl, by omega, hs, rfl, by simp, hK _ (Store.set_same _ _ _) fun i hi => Store.set_ne _ _ hi⟩
section
variable {c0 c1 c2 c3 c4 : D} {c : Cf} (h : ∀ s, CfAt s c0 c1 c2 c3 c4 c)
include h
theorem plan_flank_ok (a : Int) {d : D} {path : List St} (hp : ∀ s, At Tryz.prog s t_Step d (path.map St.enc)) (hpl : path.length ≤ 2 ^ 20) :
    DCalls Tryz.prog n_conf_plan_flank [cfA c0 c1 c2 c3 c4 c, iA a, .one d] σ (SlPost σ t_Need ((c.flank a path).map Nd.enc)) := by
  have hl := (hp σ).size
  rw [List.length_map] at hl
  refine (W_conf_plan_flank _ _ _ _ _ _ _ _ _ a d σ _ ?_).ret (Q := fun r s => ∃ r' σ', Ret Tryz.prog σ s r σ' r' ∧ SlPost σ t_Need ((c.flank a path).map Nd.enc) r' σ') (fun r s h => h)
  refine (hp σ).lenK ⟨fun d n s => ∃ out : List Nd, Own Tryz.prog σ s t_Need d (out.map Nd.enc) ∧ out.length ≤ 4 * n.toNat ∧ Rng path (fun r => flankRun c a path r out = c.flank a path) n, fun _ n _ => path.length - n.toNat,
    ⟨[], .nil _ (.refl _), by simp, .start rfl⟩, ?_⟩
  rintro d1 n s ⟨out, ho, hol, hr⟩
  refine bcd (fun hlt => ?_) (fun hge => ?_)
  · obtain ⟨j, x, rfl, hx, hj, hF, nx⟩ := hr.step (by simp) hl hlt
    refine (hp s).load (map_get hx) c_Step rfl ⟨x.Sec, x.In, x.Out, rfl, (plan_section_ok (h s) x.Sec).use (sec_ex _ ?_)⟩
    rw [flankRun] at hF
    refine bcnot (fun hb => ?_) (fun hb => ?_)
    · cases hg : geti c.Secs x.Sec with
      | some y => rw [hg] at hb; cases hb
      | none =>
        rw [hg] at hF
        have hn := nx (fun r => flankRun c a path r out = c.flank a path) hF
        exact ⟨⟨out, ho, by rw [w64_succ (by omega)]; omega, hn.1⟩, hn.2⟩
    · obtain ⟨y, hg⟩ := Option.isSome_iff_exists.1 hb
      rw [hg] at hF
      simp only [hg, Option.getD_some] at hF ⊢
      refine (topo_Ends_ok _).use ⟨_, rfl, ?_⟩
      have hne := nends_le y.Kind
      refine ⟨fun d m s' => ∃ out' : List Nd, Own Tryz.prog σ s' t_Need d (out'.map Nd.enc) ∧ 0 ≤ m ∧ m ≤ nends y.Kind ∧ out'.length ≤ 4 * j + m.toNat ∧ flankEnds c a path x (nends y.Kind - m).toNat m out' = flankEnds c a path x (nends y.Kind).toNat 0 out,
        fun _ m _ => (nends y.Kind - m).toNat, ⟨out, ho, by omega, hne.1, by simp at hol ⊢; omega, by rw [Int.sub_zero]⟩, ?_⟩
      rintro d2 m s' ⟨out', ho', hm0, hm1, hol', hE⟩
      refine bcd (fun hlt' => ?_) (fun hge' => ?_)
      · have hw : w64 (m + 1) = m + 1 := w64_id (by omega) (by omega)
        have hk : (nends y.Kind - m).toNat = (nends y.Kind - (m + 1)).toNat + 1 := by omega
        rw [hk, flankEnds] at hE
        have leaf : ∀ (out2 : List Nd) (d3 : D) (s2 : Store), flankStep c a path x out' m = out2 → Own Tryz.prog σ s2 t_Need d3 (out2.map Nd.enc) →
            (∃ out' : List Nd, Own Tryz.prog σ s2 t_Need d3 (out'.map Nd.enc) ∧ 0 ≤ w64 (m + 1) ∧ w64 (m + 1) ≤ nends y.Kind ∧ out'.length ≤ 4 * j + (w64 (m + 1)).toNat ∧ flankEnds c a path x (nends y.Kind - w64 (m + 1)).toNat (w64 (m + 1)) out' = flankEnds c a path x (nends y.Kind).toNat 0 out) ∧
            (nends y.Kind - w64 (m + 1)).toNat < (nends y.Kind - m).toNat := by
          intro out2 d3 s2 h1 h2
          have hlen := (flankStep_len c a path x out' m).2
          rw [hw]
          refine ⟨⟨out2, h2, by omega, by omega, by rw [← h1]; omega, by rw [← h1]; exact hE⟩, by omega⟩
        intro R hR
        refine bce (fun h1 => ⟨trivial, leaf out' d2 s' (by rw [flankStep, if_pos (.inl h1)]) ho'⟩) (fun h1 => bce (fun h2 => ⟨trivial, leaf out' d2 s' (by rw [flankStep, if_pos (.inr h2)]) ho'⟩) (fun h2 => ⟨trivial, hR s' ?_⟩))
        have hst : flankStep c a path x out' m = match nxt c.Jts x.Sec m with
          | none => out'
          | some (q, f) => match geti c.Secs q with
            | none => out'
            | some y => if y.Kind = 1 ∧ (1 ≤ f ∧ f ≤ 2) ∧ q ≠ a ∧ hasSec path q = false ∧ (out'.any fun n => n.Sec == q) = false then out' ++ [⟨q, 3 - f⟩] else out' := by
          rw [flankStep, if_neg (by rintro (e | e); exact h1 e; exact h2 e)] <;> rfl
        refine (topo_Next_ok x.Sec m (h s').jts).use (opt2_ex _ ?_)
        generalize nxt c.Jts x.Sec m = o at hst
        refine newObj_intro fun id s2 hid _ he hs2 => box_store hs2 fun s3 hs3 hs3' => ?_
        have he3 : Ext s' s3 := fun i hi => by
          rw [hs3' i (fun e => hi (by rw [e]; exact hid))]; exact he i hi
        have ho3 := ho'.ext' he3
        refine ⟨_, box_row hs3, _, rfl, (plan_section_ok (h s3) _).use (sec_ex _ ?_)⟩
        intro R1 hR1
        refine bcnot (fun hb1 => ?_) (fun hb1 => ?_)
        · cases o with
          | some p => cases hb1
          | none => exact ⟨trivial, leaf out' d2 s3 hst ho3⟩
        obtain ⟨⟨q, f⟩, rfl⟩ := Option.isSome_iff_exists.1 hb1
        simp only [Option.getD_some] at hst hR1 hs3 ⊢
        refine bcnot (fun hb2 => ?_) (fun hb2 => ?_)
        · cases hg2 : geti c.Secs q with
          | some p => rw [hg2] at hb2; cases hb2
          | none => rw [hg2] at hst; exact ⟨trivial, leaf out' d2 s3 hst ho3⟩
        obtain ⟨y2, hg2⟩ := Option.isSome_iff_exists.1 hb2
        rw [hg2] at hst
        simp only [hg2, Option.getD_some] at hst ⊢
        have no : ¬ (y2.Kind = 1 ∧ (1 ≤ f ∧ f ≤ 2) ∧ q ≠ a ∧ hasSec path q = false ∧ (out'.any fun n => n.Sec == q) = false) → flankStep c a path x out' m = out' := fun hn => by rw [hst, if_neg hn]
        refine bcn (fun h3 => ⟨trivial, leaf out' d2 s3 (no fun h => h3 h.1) ho3⟩) (fun h3 => ?_)
        refine bcd (fun h4 => ⟨trivial, leaf out' d2 s3 (no fun h => by omega) ho3⟩) (fun h4 => ?_)
        refine bcd (fun h5 => ⟨trivial, leaf out' d2 s3 (no fun h => by omega) ho3⟩) (fun h5 => ?_)
        refine ⟨_, box_row hs3, q, rfl, bce (fun h6 => ⟨trivial, leaf out' d2 s3 (no fun h => h.2.2.1 h6) ho3⟩) (fun h6 => ?_)⟩
        refine ⟨_, box_row hs3, q, rfl, (conf_has_ok q (hp s3)).use ⟨_, rfl, bc (fun h7 => ⟨trivial, leaf out' d2 s3 (no fun h => by rw [h.2.2.2.1] at h7; cases h7) ho3⟩) (fun h7 => ?_)⟩⟩
        refine (hasNeed_ok ho3.at_ hs3).use ⟨_, rfl, bc (fun h8 => ⟨trivial, leaf out' d2 s3 (no fun h => by rw [h.2.2.2.2] at h8; cases h8) ho3⟩) (fun h8 => ⟨trivial, hR1 s3 ?_⟩)⟩
        refine ⟨_, box_row hs3, q, rfl, newObj_intro fun id1 s4 hid1 _ he4 hs4 => ?_⟩
        have hw2 : w64 (3 - f) = 3 - f := w64_id (by omega) (by omega)
        have ho4 := ho3.ext' he4
        refine ho4.append (At.fresh hs4 (by simp) rfl) (by simp; omega) (by simp; omega) fun d4 s5 ho5 _ _ => ⟨trivial, leaf (out' ++ [⟨q, 3 - f⟩]) d4 s5 (by rw [hst, if_pos ⟨h3, ⟨by omega, by omega⟩, h6, h7, h8⟩]) ?_⟩
        rw [hw2] at ho5
        rw [List.map_append]
        exact ho5
      · have hz : (nends y.Kind - m).toNat = 0 := by omega
        rw [hz, flankEnds] at hE
        rw [← hE] at hF
        have hn := nx (fun r => flankRun c a path r out' = c.flank a path) hF
        exact ⟨⟨out', ho', by rw [w64_succ (by omega)]; omega, hn.1⟩, hn.2⟩
  · have hF := hr.done (by simp) hge
    rw [flankRun] at hF
    rw [← hF]
    exact own_fin ho (flatNd _)
theorem plan_overlap_ok (r : Rt) {d1 d2 d3 : D} (hp : ∀ s, At Tryz.prog s t_Step d1 (r.Path.map St.enc)) :
    DCalls Tryz.prog n_conf_plan_overlap [cfA c0 c1 c2 c3 c4 c, rtA d1 d2 d3 r] σ (SlPost σ t_int ((c.overlap r).map Go.Fw.encI)) := by
  refine (W_conf_plan_overlap _ _ _ _ _ _ _ _ _ _ _ d1 d2 d3 _ σ _ ?_).ret (Q := fun r' s => ∃ r'' σ', Ret Tryz.prog σ s r' σ' r'' ∧ SlPost σ t_int ((c.overlap r).map Go.Fw.encI) r'' σ') (fun r s h => h)
  refine (plan_signal_ok (h σ) _).use (sg_ex _ ?_)
  intro R hR
  have nil : c.overlap r = [] → ∃ r'' σ', Ret Tryz.prog σ σ (.a (.one .nils)) σ' r'' ∧ SlPost σ t_int ((c.overlap r).map Go.Fw.encI) r'' σ' := fun e => by
    rw [e]; exact own_fin (.nil _ (.refl _)) (flatI _)
  refine bc (fun h1 => nil (by rw [Cf.overlap, if_pos h1])) (fun h1 => bcnot (fun h2 => nil ?_) (fun h2 => ⟨rfl, hR σ ?_⟩))
  · rw [Cf.overlap, if_neg (by rw [h1]; simp)]
    cases hg : geti c.Sigs r.Exit with
    | none => rfl
    | some x => rw [hg] at h2; cases h2
  obtain ⟨x, hg⟩ := Option.isSome_iff_exists.1 h2
  simp only [hg, Option.getD_some] at hR ⊢
  have hov : c.overlap r = match nxt c.Jts x.Sec x.End_ with
    | none => []
    | some (q, _) => match geti c.Secs q with
      | none => []
      | some y => if y.Line = 0 ∧ hasSec r.Path q = false ∧ q ≠ c.approach r then [q] else [] := by
    rw [Cf.overlap, if_neg (by rw [h1]; simp), hg] <;> rfl
  refine (topo_Next_ok _ _ (h σ).jts).use (opt2_ex _ ((plan_section_ok (h σ) _).use (sec_ex _ ?_)))
  generalize nxt c.Jts x.Sec x.End_ = o at hov
  refine bcnot (fun hb1 => nil ?_) (fun hb1 => ?_)
  · cases o with
    | none => exact hov
    | some p => cases hb1
  obtain ⟨⟨q, f⟩, rfl⟩ := Option.isSome_iff_exists.1 hb1
  simp only [Option.getD_some] at hov ⊢
  refine bcnot (fun hb2 => nil ?_) (fun hb2 => ?_)
  · cases hg2 : geti c.Secs q with
    | none => rw [hg2] at hov; exact hov
    | some p => rw [hg2] at hb2; cases hb2
  obtain ⟨y, hg2⟩ := Option.isSome_iff_exists.1 hb2
  simp only [hg2, Option.getD_some] at hov ⊢
  have no : ¬ (y.Line = 0 ∧ hasSec r.Path q = false ∧ q ≠ c.approach r) → c.overlap r = [] := fun hn => by rw [hov, if_neg hn]
  refine bcn (fun h3 => nil (no fun h => h3 h.1)) (fun h3 => (conf_has_ok q (hp σ)).use ⟨_, rfl, bc (fun h4 => nil (no fun h => by rw [h.2.1] at h4; cases h4)) (fun h4 => (plan_approach_ok (h σ) r d1 d2 d3).use ⟨_, rfl, bce (fun h5 => nil (no fun h => h.2.2 h5)) (fun h5 => ?_)⟩)⟩)
  refine newObj_intro fun id s2 hid _ he hs2 => ?_
  rw [hov, if_pos ⟨h3, h4, h5⟩]
  exact own_fin ⟨At.fresh hs2 (by simp) rfl, he, osl_new hid, fun h => h, by intro e; cases e⟩ (flatI _)
end
end Go.Proofs.YtcbmibgfmlpobaaGreat
end
section
set_option linter.unusedVariables false
set_option linter.unusedSimpArgs false
namespace Go.Proofs.YtcbmibgfmlpobaaGreat
open Go.Fw Go.Proofs Go.RowKit
variable {σ : Store}
section
variable {c0 c1 c2 c3 c4 : D} {c : Cf} (h : ∀ s, CfAt s c0 c1 c2 c3 c4 c)
include h
theorem plan_path_ok (r : Rt) {d1 d2 d3 : D} (hp : ∀ s, At Tryz.prog s t_Step d1 (r.Path.map St.enc)) :
    Pure Tryz.prog n_conf_plan_path [cfA c0 c1 c2 c3 c4 c, rtA d1 d2 d3 r] σ (.a (bA (c.path r))) := by
  have hl := (hp σ).size
  rw [List.length_map] at hl
  refine .of (W_conf_plan_path _ _ _ _ _ _ _ _ _ _ _ d1 d2 d3 _ σ _ ?_) (flat_b _)
  refine (plan_signal_ok (h σ) _).use (sg_ex _ ((plan_signal_ok (h σ) _).use (sg_ex _ ?_)))
  intro R hR
  refine bcnot (fun h1 => ?_) (fun h1 => ?_)
  · cases hg : geti c.Sigs r.Entry with
    | some x => rw [hg] at h1; cases h1
    | none => exact ⟨by rw [Cf.path, hg], .refl _⟩
  obtain ⟨a, hg⟩ := Option.isSome_iff_exists.1 h1
  have hpath : c.path r = ((decide (r.Exit = -1) || (geti c.Sigs r.Exit).isSome) && decide (1 ≤ r.Path.length ∧ r.Path.length ≤ 8) && prunA c r (geti c.Sigs r.Exit) r.Path a [a.Sec]) := by rw [Cf.path, hg]
  rw [hg, Option.getD_some] at hR
  generalize hex : geti c.Sigs r.Exit = ex at hpath hR
  have hlen : decide ((1 : Int) ≤ ((r.Path.map St.enc).length : Int) ∧ ((r.Path.map St.enc).length : Int) ≤ 8) = decide (1 ≤ r.Path.length ∧ r.Path.length ≤ 8) := by
    rw [List.length_map]; congr 1; apply propext; omega
  have hgo : decide (1 ≤ r.Path.length ∧ r.Path.length ≤ 8) = true → (decide (r.Exit = -1) || ex.isSome) = true → R σ := by
    intro hlen2 hexok
    rw [hlen2, hexok] at hpath
    simp only [Bool.true_and] at hpath
    refine hR σ (newObj_intro fun id s1 hid _ he1 hs1 => (MapAt.new hs1).put keysI a.Sec fun s2 f2 hm2 hf2 hfx2 hs2 hne2 => ?_)
    have he2 : Ext σ s2 := fun i hi => by
      rw [hs2 i (fun e => hi (by rw [e]; exact hid))]; exact he1 i hi
    refine (hp s2).lenK ⟨fun m e n s => ∃ seen f, MapAt Tryz.prog t_int iA s id f ∧ (∀ z, f z = if z ∈ seen then some (iA 1) else none) ∧ Ext σ s ∧ Rng r.Path (fun q => prunA c r ex q ⟨m, e⟩ seen = c.path r) n, fun _ _ n _ => r.Path.length - n.toNat,
      ⟨[a.Sec], f2, hm2, fun z => ?_, he2, .start hpath.symm⟩, ?_⟩
    · by_cases hz : z = a.Sec
      · subst hz; rw [hfx2]; simp
      · rw [hf2 z hz]; simp [hz]
    rintro m e n s ⟨seen, f, hm, hf, hes, hr⟩
    refine bcd (fun hlt => ?_) (fun hge => ?_)
    · obtain ⟨j, x, rfl, hx, hj, hF, nx⟩ := hr.step (by simp) hl hlt
      intro R1 hR1
      refine (hp s).load (map_get hx) c_Step rfl ⟨x.Sec, x.In, x.Out, rfl, (topo_Next_ok m e (h s).jts).use (opt2_ex _ ((plan_section_ok (h s) _).use (sec_ex _ ((topo_Pos_ok _ _ _).use (opt1_ex _ ?_)))))⟩
      rw [prunA] at hF
      have bad : pstep c r ex ⟨m, e⟩ x (r.Path.drop (j + 1)).isEmpty seen = false → ∀ s', Ext σ s' → (RV.a (.one (.bool false)) = .a (bA (c.path r)) ∧ Ext σ s') := fun hb s' he' => by
        rw [hb] at hF
        exact ⟨by rw [← hF]; rfl, he'⟩
      have good : pstep c r ex ⟨m, e⟩ x (r.Path.drop (j + 1)).isEmpty seen = true → ∀ s' f', MapAt Tryz.prog t_int iA s' id f' → (∀ z, f' z = if z ∈ x.Sec :: seen then some (iA 1) else none) → Ext σ s' → R1 x.Sec x.Out s' := fun hb s' f' hm' hf' he' => by
        rw [hb, Bool.true_and] at hF
        have hn := nx (fun q => prunA c r ex q ⟨x.Sec, x.Out⟩ (x.Sec :: seen) = c.path r) hF
        exact hR1 _ _ _ ⟨rfl, ⟨x.Sec :: seen, f', hm', hf', he', hn.1⟩, hn.2⟩
      have hst : pstep c r ex ⟨m, e⟩ x (r.Path.drop (j + 1)).isEmpty seen = match nxt c.Jts m e with
        | none => false
        | some (q, i) => decide (q = x.Sec) && decide (i = x.In) && (wpos (wayL ((geti c.Secs q).getD ⟨0, 0, 0⟩).Kind) x.In x.Out).isSome && decide (q ∉ seen) &&
          (!(c.Sigs.any fun y => decide (⟨x.Sec, x.Out⟩ = y)) || ((r.Path.drop (j + 1)).isEmpty && decide (ex = some ⟨x.Sec, x.Out⟩))) && !(r.Shunt && decide (((geti c.Secs q).getD ⟨0, 0, 0⟩).Line ≠ 0)) := rfl
      generalize nxt c.Jts m e = o at hst
      have key : (f (o.getD (0, 0)).1).getD (iA 0) = iA (if (o.getD (0, 0)).1 ∈ seen then 1 else 0) := by
        rw [hf]; split <;> rfl
      refine hm.lookI keysI _ key (hm.put keysI _ fun s' f' hm' hf' hfx hs' hne => ?_)
      have hes' : Ext σ s' := fun i hi => by
        rw [hs' i (fun e => hi (by rw [e]; exact hid))]; exact hes i hi
      refine (Contains_Signal_ok ⟨x.Sec, x.Out⟩ (h s').sigs).use ⟨_, rfl, ?_⟩
      intro R2 hR2
      have main : R2 ((r.Path.drop (j + 1)).isEmpty && decide (ex = some ⟨x.Sec, x.Out⟩)) s' := by
        refine hR2 _ _ (bcnot (fun k1 => bad ?_ s' hes') (fun k1 => ?_))
        · cases o with
          | none => exact hst
          | some p => cases k1
        obtain ⟨⟨q, i⟩, rfl⟩ := Option.isSome_iff_exists.1 k1
        simp only [Option.getD_some] at hst key hfx hf' ⊢
        refine bcn (fun k2 => bad (by rw [hst]; simp [k2]) s' hes') (fun k2 => ?_)
        refine bcn (fun k3 => bad (by rw [hst]; simp [k3]) s' hes') (fun k3 => ?_)
        refine bcnot (fun k4 => bad (by rw [hst, k4]; simp) s' hes') (fun k4 => ?_)
        refine hm'.lookI keysI q (by rw [hfx]; rfl) (bcd (fun k5 => ?_) (fun k5 => ?_))
        · have hin : q ∈ seen := by
            by_cases hin : q ∈ seen
            · exact hin
            · rw [if_neg hin] at k5; exact absurd k5 (by decide)
          exact bad (by rw [hst]; simp [hin]) s' hes'
        have hin : q ∉ seen := fun hin => k5 (by rw [if_pos hin]; decide)
        have hfin : pstep c r ex ⟨m, e⟩ x (r.Path.drop (j + 1)).isEmpty seen = true → R1 x.Sec x.Out s' := fun hb => good hb s' f' hm' (fun z => by
          by_cases hz : z = q
          · subst hz; rw [hfx, if_neg hin, k2]; simp; rfl
          · rw [hf' z hz, hf]; simp [k2 ▸ hz]) hes'
        have hpre : (decide (q = x.Sec) && decide (i = x.In) && (wpos (wayL ((geti c.Secs q).getD ⟨0, 0, 0⟩).Kind) x.In x.Out).isSome && decide (q ∉ seen)) = true := by
          rw [k4]; simp [k2, k3]; rw [← k2]; exact hin
        rw [hpre, Bool.true_and] at hst
        refine bc (fun k6 => bcnot (fun k7 => bad ?_ s' hes') (fun k7 => ?_)) (fun k6 => ?_)
        · rw [hst, k6, k7]; rfl
        · rw [k6, k7] at hst
          refine bc (fun k8 => bcn (fun k9 => bad ?_ s' hes') (fun k9 => ⟨trivial, hfin ?_⟩)) (fun k8 => ⟨trivial, hfin ?_⟩)
          · rw [hst, k8]; simp [k9]
          · rw [hst]; simp [k9]
          · rw [hst, k8]; rfl
        · rw [k6] at hst
          refine bc (fun k8 => bcn (fun k9 => bad ?_ s' hes') (fun k9 => ⟨trivial, hfin ?_⟩)) (fun k8 => ⟨trivial, hfin ?_⟩)
          · rw [hst, k8]; simp [k9]
          · rw [hst]; simp [k9]
          · rw [hst, k8]; rfl
      refine (hp s').lenK ?_
      have hw : w64 (((r.Path.map St.enc).length : Int) - 1) = (r.Path.length : Int) - 1 := by rw [List.length_map, w64_id (by omega) (by omega)]
      rw [hw]
      refine bce (fun q1 => bc (fun q2 => ⟨rfl, ?_⟩) (fun q2 => ⟨rfl, ?_⟩)) (fun q1 => ⟨rfl, ?_⟩)
      · have hemp : (r.Path.drop (j + 1)).isEmpty = true := by rw [drop_end (by omega)]; rfl
        obtain ⟨y, rfl⟩ := Option.isSome_iff_exists.1 q2
        rw [hemp, Bool.true_and] at main
        have hd : decide (some y = some (⟨x.Sec, x.Out⟩ : Sg)) = (x.Sec == y.Sec && x.Out == y.End_) := by
          cases y with
          | mk y1 y2 =>
            rw [Bool.eq_iff_iff]; simp
            exact ⟨fun ⟨a, b⟩ => ⟨a.symm, b.symm⟩, fun ⟨a, b⟩ => ⟨a.symm, b.symm⟩⟩
        rw [hd] at main
        exact main
      · have hd : ex = none := by cases ex; rfl; cases q2
        rw [hd] at main
        simpa using main
      · have hemp : (r.Path.drop (j + 1)).isEmpty = false := by
          cases hd : r.Path.drop (j + 1) with
          | nil => rw [List.drop_eq_nil_iff] at hd; omega
          | cons y l => rfl
        rw [hemp, Bool.false_and] at main
        exact main
    · have hF : (match (generalizing := false) ex with | some x => decide ((⟨m, e⟩ : Sg) = x) | none => !(nxt c.Jts m e).isSome) = c.path r := hr.done (by simp) hge
      refine bc (fun q2 => ?_) (fun q2 => ?_)
      · obtain ⟨y, rfl⟩ := Option.isSome_iff_exists.1 q2
        refine ⟨?_, hes⟩
        rw [← hF]
        cases y with
        | mk y1 y2 =>
          congr 4; rw [Bool.eq_iff_iff]; simp
      · have hd : ex = none := by cases ex; rfl; cases q2
        subst hd
        refine (topo_Next_ok m e (h s).jts).use (opt2_ex _ ⟨?_, hes⟩)
        rw [← hF]
  refine bcnot (fun h2 => bcn (fun h3 => ⟨?_, .refl _⟩) (fun h3 => (hp σ).lenK ((conf_between_ok _ _ _).use ⟨_, rfl, bcnot (fun h4 => ⟨?_, .refl _⟩) (fun h4 => ⟨rfl, hgo ?_ ?_⟩)⟩))) (fun h2 => (hp σ).lenK ((conf_between_ok _ _ _).use ⟨_, rfl, bcnot (fun h4 => ⟨?_, .refl _⟩) (fun h4 => ⟨rfl, hgo ?_ ?_⟩)⟩))
  · rw [hpath, h2]; simp [h3]
  · rw [hlen] at h4; rw [hpath, h4]; simp
  · rw [← hlen]; exact h4
  · simp [h3]
  · rw [hlen] at h4; rw [hpath, h4]; simp
  · rw [← hlen]; exact h4
  · simp [h2]
theorem plan_route_ok (r : Rt) {d1 d2 d3 : D} (hp : ∀ s, At Tryz.prog s t_Step d1 (r.Path.map St.enc)) (hf : ∀ s, At Tryz.prog s t_Need d2 (r.Flank.map Nd.enc)) (ho : ∀ s, At Tryz.prog s t_int d3 (r.Overlap.map Go.Fw.encI)) :
    Pure Tryz.prog n_conf_plan_route [cfA c0 c1 c2 c3 c4 c, rtA d1 d2 d3 r] σ (.a (iA (c.route r))) := by
  refine W_conf_plan_route _ _ _ _ _ _ _ _ _ _ _ d1 d2 d3 _ σ _ ((plan_path_ok h r hp).use ⟨_, rfl, bcnot (fun h1 => ⟨by rw [Cf.route, if_pos h1], rfl⟩) (fun h1 => ?_)⟩)
  have hpl : r.Path.length ≤ 8 := by
    unfold Cf.path at h1
    split at h1
    · cases h1
    · simp at h1; exact h1.1.2.2
  refine (plan_approach_ok (h σ) r d1 d2 d3).use ⟨_, rfl, (plan_flank_ok h _ hp (by omega)).mono ?_⟩
  rintro r1 s1 ⟨rfl, d, rfl, hd⟩
  refine ⟨d, rfl, (Equal_Need_ok (hf _) (hd _)).use ⟨_, rfl, bcnot (fun h2 => ⟨?_, rfl⟩) (fun h2 => (plan_overlap_ok h r hp).mono ?_)⟩⟩
  · rw [Cf.route, if_neg (by rw [h1]; simp), if_pos (of_decide_eq_false h2)]
  rintro r2 s2 ⟨rfl, d', rfl, hd'⟩
  have e2 := of_decide_eq_true h2
  refine ⟨d', rfl, (Equal_int_ok (ho _) (hd' _)).use ⟨_, rfl, bcnot (fun h3 => ⟨?_, rfl⟩) (fun h3 => ⟨?_, rfl⟩)⟩⟩
  · rw [Cf.route, if_neg (by rw [h1]; simp), if_neg (fun hn => hn e2), if_pos (of_decide_eq_false h3)]
  · rw [Cf.route, if_neg (by rw [h1]; simp), if_neg (fun hn => hn e2), if_neg (fun hn => hn (of_decide_eq_true h3))]
theorem conf_Check_ok : Pure Tryz.prog n_conf_Check [cfA c0 c1 c2 c3 c4 c] σ (.a (iA c.check)) := by
  refine W_conf_Check _ _ _ _ _ _ _ _ _ σ _ ((topo_Check_ok (fun s => (h s).secs) (fun s => (h s).jts)).use ⟨_, rfl, ?_⟩)
  have e6 : (if topoOk c.Secs c.Jts = true then (0 : Int) else 6) ≠ 0 ↔ topoOk c.Secs c.Jts = false := by
    cases topoOk c.Secs c.Jts <;> simp
  refine bcn (fun k1 => ⟨by rw [Cf.check, if_pos (e6.1 k1)], rfl⟩) (fun k1 => (plan_signals_ok h).use ⟨_, rfl, bcnot (fun k2 => ⟨?_, rfl⟩) (fun k2 => (plan_crossings_ok h).use ⟨_, rfl, bcnot (fun k3 => ⟨?_, rfl⟩) (fun k3 => ?_)⟩)⟩)
  all_goals have k1' : ¬ topoOk c.Secs c.Jts = false := fun e => e6.2 e k1
  · rw [Cf.check, if_neg k1', if_pos k2]
  · rw [Cf.check, if_neg k1', if_neg (by rw [k2]; simp), if_pos k3]
  have hck : c.check = if c.Rts.length > 12 then 9 else if c.routes c.Rts ≠ 0 then c.routes c.Rts else if c.timing = true then 0 else 12 := by
    rw [Cf.check, if_neg k1', if_neg (by rw [k2]; simp), if_neg (by rw [k3]; simp)]
  obtain ⟨rows, hat, hlen, hrow⟩ := rts_froz fun s => (h s).rts
  have hl := (hat σ).size
  refine (hat σ).lenK (bcd (fun k4 => ⟨by rw [hck, if_pos (by omega)], rfl⟩) (fun k4 => (hat σ).lenK ?_))
  rw [if_neg (by omega)] at hck
  refine ⟨fun n s => s = σ ∧ Rng c.Rts (fun l => c.routes l = c.routes c.Rts) n, fun n _ => c.Rts.length - n.toNat, ⟨rfl, .start rfl⟩, ?_⟩
  rintro n τ ⟨rfl, hr⟩
  refine bcd (fun hlt => ?_) (fun hge => ?_)
  · obtain ⟨j, x, rfl, hx, hj, hF, nx⟩ := hr.step hlen (by omega) hlt
    obtain ⟨row, hrw⟩ := get_of_lt (l := rows) (j := j) (by omega)
    obtain ⟨d1, d2, d3, rfl, q1, q2, q3⟩ := hrow j row x hrw hx
    refine (hat τ).load hrw c_Route rfl ⟨_, _, d1, d2, d3, _, rfl, (plan_route_ok h x q1 q2 q3).use ⟨_, rfl, ?_⟩⟩
    rw [Cf.routes] at hF
    refine bcn (fun k5 => ⟨?_, rfl⟩) (fun k5 => ?_)
    · rw [if_pos k5] at hF
      rw [hck, ← hF, if_pos k5]
    · rw [if_neg (by simp [k5])] at hF
      exact ⟨rfl, andl rfl (nx _ hF)⟩
  · have hF : 0 = c.routes c.Rts := hr.done hlen hge
    rw [← hF, if_neg (by simp)] at hck
    have hpos : c.timing = (decide (1 ≤ c.Age ∧ c.Age ≤ 8) && decide (0 ≤ c.Brake ∧ c.Brake ≤ 8) && decide (c.Age + c.Brake + 1 ≤ c.Hold ∧ c.Hold ≤ 40) && decide (1 ≤ c.Budget ∧ c.Budget ≤ 1000000)) := rfl
    refine (conf_between_ok _ _ _).use ⟨_, rfl, bcnot (fun k5 => ⟨?_, rfl⟩) (fun k5 => (conf_between_ok _ _ _).use ⟨_, rfl, bcnot (fun k6 => ⟨?_, rfl⟩) (fun k6 => (conf_between_ok _ _ _).use ⟨_, rfl, ?_⟩)⟩)⟩
    · rw [hck, hpos, k5]; simp
    · rw [hck, hpos, k6]; simp
    have a5 := of_decide_eq_true k5
    have a6 := of_decide_eq_true k6
    rw [w64_id (n := c.Age + c.Brake) (by omega) (by omega), w64_id (n := c.Age + c.Brake + 1) (by omega) (by omega)]
    refine bcnot (fun k7 => ⟨?_, rfl⟩) (fun k7 => (conf_between_ok _ _ _).use ⟨_, rfl, bcnot (fun k8 => ⟨?_, rfl⟩) (fun k8 => ⟨?_, rfl⟩)⟩)
    · rw [hck, hpos, k7]; simp
    · rw [hck, hpos, k8]; simp
    · rw [hck, hpos, k5, k6, k7, k8]; rfl
end
end Go.Proofs.YtcbmibgfmlpobaaGreat
end
section
set_option linter.unusedVariables false
set_option linter.unusedSimpArgs false
namespace Go.Fw
variable {P : Program} {σ : Store}
theorem u64_id {n : Int} (h1 : 0 ≤ n) (h2 : n ≤ 18446744073709551615) : IntKind.wrap .u64 n = n := by
  simp only [IntKind.wrap, IntKind.signed, IntKind.bits]; simp; omega
theorem and_mask {x : Int} (h1 : 0 ≤ x) (h2 : x < 2 ^ 32) : ((BitVec.toNat ((BitVec.ofInt 64 x) &&& (BitVec.ofInt 64 4294967295)) : Nat) : Int) = x := by
  rw [BitVec.toNat_and, BitVec.toNat_ofInt, BitVec.toNat_ofInt]
  have e1 : (x % ((2 ^ 64 : Nat) : Int)).toNat = x.toNat := by
    rw [Int.emod_eq_of_lt h1 (by omega)]
  have e2 : ((4294967295 : Int) % ((2 ^ 64 : Nat) : Int)).toNat = 2 ^ 32 - 1 := by decide
  rw [e1, e2, Nat.and_two_pow_sub_one_eq_mod, Nat.mod_eq_of_lt (by omega)]
  omega
theorem fdiv_small {x : Int} (h1 : 0 ≤ x) (h2 : x < 2 ^ 32) : Int.fdiv x (2 ^ 32) = 0 := by
  rw [Int.fdiv_eq_ediv_of_nonneg _ (by omega)]; omega
theorem set_set (i : Nat) (a b : SO) : (σ.set i a).set i b = σ.set i b := by
  funext j
  by_cases h : j = i
  · subst h; rw [Store.set_same, Store.set_same]
  · rw [Store.set_ne _ _ h, Store.set_ne _ _ h, Store.set_ne _ _ h]
def RepPost (t : TypeId) (n : Nat) (row : List D) (s : Store) (r : RV) (s' : Store) : Prop :=
  ∃ id, s id = .free ∧ r = .a (.one (.osl id 0 n)) ∧ s' = s.set id (.live t (List.replicate n row))
theorem rep_rows {row z : List D} {m k n : Nat} (h1 : k ≤ m) (h2 : m + k ≤ n) :
    (List.replicate m row ++ List.replicate (n - m) z).take m ++ (List.replicate m row).take k ++ (List.replicate m row ++ List.replicate (n - m) z).drop (m + k) = List.replicate (m + k) row ++ List.replicate (n - (m + k)) z := by
  rw [List.take_left' (by simp), List.take_replicate, Nat.min_eq_left h1, List.replicate_append_replicate, List.drop_append, List.drop_eq_nil_iff.2 (by simp), List.nil_append, List.drop_replicate]
  congr 2; simp; omega
theorem rep_ok {f : FuncId} {t : TypeId} {es bytes : Nat} {z row : List D} {x : D} {n : Nat} {Q : RV → Store → Prop}
    (hmul : ∀ s (a b : Int), 0 ≤ a → 0 ≤ b → a * b < 2 ^ 32 → a < 2 ^ 32 → b < 2 ^ 32 → Pure P f [.one (.int .u64 a), .one (.int .u64 b)] s (.tup [.one (.int .u64 0), .one (.int .u64 (a * b))]))
    (hes : P.cellsOf t = es) (hx : At P σ t x [row]) (hn : n ≤ 2 ^ 20) (hb : bytes ≤ 2 ^ 20) (hQ : ∀ r s, RepPost t n row σ r s → Q r s) :
    ∀ R : Store → Prop, (∀ σ' : Store, (∃ len : Nat, (Len x len) ∧ DCalls P f [.one (.int .u64 (IntKind.wrap .u64 (len : Int))), .one (.int .u64 (IntKind.wrap .u64 (n : Int)))] σ' (fun (r : RV) => fun (σ'1 : Store) => ∃ n : Int, ∃ n1 : Int, (r = (.tup [.one (.int .u64 n), .one (.int .u64 n1)] : RV)) ∧ ∀ R1 : Store → Prop, (∀ σ'2 : Store, (((0 : Int) ≤ (w64 n1)) ∧ ((w64 n1) ≤ (w64 n1)) ∧ (((bytes : Int) * (w64 n1)) ≤ (2 ^ 48)) ∧ Fw.newObj σ'2 (.live t (List.replicate (Int.toNat (w64 n1)) z)) (fun (id : Nat) => fun (σ'3 : Store) => copyTo P σ'3 t (.osl id 0 (Int.toNat (w64 n1))) x (fun (n2 : Int) => fun (σ'4 : Store) => ∃ I : Int → Store → Prop, ∃ μ : Int → Store → Nat, (I n2 σ'4) ∧ ∀ n3 : Int, ∀ σ'5 : Store, (I n3 σ'5) → ∃ len1 : Nat, (Len (.osl id 0 (Int.toNat (w64 n1))) len1) ∧ bcase (decide (n3 < (len1 : Int))) (∃ len2 : Nat, (IdxN P σ'5 (.osl id 0 (Int.toNat (w64 n1))) es len2) ∧ ((0 : Int) ≤ n3) ∧ (n3 ≤ (len2 : Int)) ∧ ∃ len3 : Nat, (IdxN P σ'5 (.osl id 0 (Int.toNat (w64 n1))) es len3) ∧ ((0 : Int) ≤ 0) ∧ ((0 : Int) ≤ n3) ∧ (n3 ≤ (len3 : Int)) ∧ copyTo P σ'5 t (.osl id (0 + (Int.toNat n3)) (len2 - (Int.toNat n3))) (.osl id 0 ((Int.toNat n3) - 0)) (fun (n4 : Int) => fun (σ'6 : Store) => (I (w64 (n3 + n4)) σ'6) ∧ ((μ (w64 (n3 + n4)) σ'6) < (μ n3 σ'5)))) (Q (.a (.one (.osl id 0 (Int.toNat (w64 n1))))) σ'5)))) → R1 σ'2) → bcase (decide (n > 0)) False (bcase (decide (n1 > 9223372036854775807)) False (R1 σ'1)))) → R σ') → bcase (decide ((n : Int) < 0)) False (R σ) := by
  intro R hR
  refine bcd (fun h => absurd h (by omega)) (fun _ => hR σ (hx.lenK ?_))
  rw [u64_id (by simp) (by simp), u64_id (by omega) (by omega)]
  have hw : w64 (((1 : Nat) : Int) * n) = n := by rw [w64_id (by omega) (by omega)]; omega
  refine (hmul σ _ _ (by simp) (by omega) (by simp; omega) (by simp) (by omega)).use ⟨0, _, rfl, fun R1 hR1 => bcd (fun h => absurd h (by decide)) (fun _ => bcd (fun h => absurd h (by simp; omega)) (fun _ => hR1 σ ?_))⟩
  show 0 ≤ w64 (((1 : Nat) : Int) * n) ∧ _
  simp only [List.length_singleton, hw, Int.toNat_natCast]
  refine ⟨by omega, Int.le_refl _, ?_, fun id hid => ?_⟩
  · have : bytes * n ≤ 2 ^ 20 * 2 ^ 20 := Nat.mul_le_mul hb hn
    have h2 : ((bytes * n : Nat) : Int) ≤ 2 ^ 48 := by omega
    rw [Int.natCast_mul] at h2; exact h2
  have hidx : ∀ (s : Store) (rows : List (List D)), s id = .live t rows → rows.length = n → IdxN P s (.osl id 0 n) es n := fun s rows h1 h2 => .inl ⟨by omega, t, rows, h1, hes⟩
  have hxr : Rows P (σ.set id (.live t (List.replicate n z))) t x [row] := (hx.ext (Ext.new hid _)).rows
  have hdr : ∀ (s : Store) (rows : List (List D)) (i len : Nat), s id = .live t rows → i + len ≤ rows.length → Rows P s t (.osl id i len) ((rows.drop i).take len) := fun s rows i len h1 h2 => ⟨t, rows, h1, rfl, h2, rfl⟩
  refine ⟨_, _, hdr _ _ 0 n (Store.set_same _ _ _) (by simp), hxr, ?_⟩
  have hmin : min [row].length ((List.replicate n z).drop 0 |>.take n).length = min 1 n := by simp
  have hminI : min (([row].length : Nat) : Int) ((((List.replicate n z).drop 0 |>.take n).length : Nat) : Int) = ((min 1 n : Nat) : Int) := by rw [← hmin]; omega
  rw [hmin, hminI]
  have hloop : ∀ (m : Nat) (s : Store), m ≤ n → (0 < n → 0 < m) → s = σ.set id (.live t (List.replicate m row ++ List.replicate (n - m) z)) → ∃ I : Int → Store → Prop, ∃ μ : Int → Store → Nat, (I m s) ∧ ∀ n3 : Int, ∀ σ'5 : Store, (I n3 σ'5) → ∃ len1 : Nat, (Len (.osl id 0 n) len1) ∧ bcase (decide (n3 < (len1 : Int))) (∃ len2 : Nat, (IdxN P σ'5 (.osl id 0 n) es len2) ∧ ((0 : Int) ≤ n3) ∧ (n3 ≤ (len2 : Int)) ∧ ∃ len3 : Nat, (IdxN P σ'5 (.osl id 0 n) es len3) ∧ ((0 : Int) ≤ 0) ∧ ((0 : Int) ≤ n3) ∧ (n3 ≤ (len3 : Int)) ∧ copyTo P σ'5 t (.osl id (0 + (Int.toNat n3)) (len2 - (Int.toNat n3))) (.osl id 0 ((Int.toNat n3) - 0)) (fun (n4 : Int) => fun (σ'6 : Store) => (I (w64 (n3 + n4)) σ'6) ∧ ((μ (w64 (n3 + n4)) σ'6) < (μ n3 σ'5)))) (Q (.a (.one (.osl id 0 n))) σ'5) := by
    intro m0 s0 hm0 hm0' hs0
    refine ⟨fun n3 s => ∃ m : Nat, n3 = m ∧ m ≤ n ∧ (0 < n → 0 < m) ∧ s = σ.set id (.live t (List.replicate m row ++ List.replicate (n - m) z)), fun n3 _ => n - n3.toNat, ⟨m0, rfl, hm0, hm0', hs0⟩, ?_⟩
    rintro _ s ⟨m, rfl, hm, hm', rfl⟩
    refine ⟨n, rfl, bcd (fun hlt => ?_) (fun hge => ?_)⟩
    · have hl : (List.replicate m row ++ List.replicate (n - m) z).length = n := by simp; omega
      refine ⟨n, hidx _ _ (Store.set_same _ _ _) hl, by omega, by omega, n, hidx _ _ (Store.set_same _ _ _) hl, by omega, by omega, by omega, ?_⟩
      rw [Int.toNat_natCast, Nat.zero_add, Nat.sub_zero]
      refine ⟨_, _, hdr _ _ m (n - m) (Store.set_same _ _ _) (by rw [hl]; omega), hdr _ _ 0 m (Store.set_same _ _ _) (by rw [hl]; omega), .inr ⟨id, m, n - m, t, _, rfl, Store.set_same _ _ _, ?_⟩⟩
      have e1 : ((List.replicate m row ++ List.replicate (n - m) z).drop 0).take m = List.replicate m row := by
        rw [List.drop_zero, List.take_left' (by simp)]
      have e2 : min (((List.replicate m row ++ List.replicate (n - m) z).drop 0).take m).length (((List.replicate m row ++ List.replicate (n - m) z).drop m).take (n - m)).length = min m (n - m) := by
        rw [e1, List.length_take, List.length_drop, hl]; simp
      have e3 : min (((((List.replicate m row ++ List.replicate (n - m) z).drop 0).take m).length : Nat) : Int) (((((List.replicate m row ++ List.replicate (n - m) z).drop m).take (n - m)).length : Nat) : Int) = ((min m (n - m) : Nat) : Int) := by
        rw [← e2]; omega
      rw [e3, e2, e1, rep_rows (by omega) (by omega), set_set]
      have hk : 0 < min m (n - m) := by have := hm' (by omega); omega
      have hw2 : w64 ((m : Int) + ((min m (n - m) : Nat) : Int)) = ((m + min m (n - m) : Nat) : Int) := by rw [w64_id (by omega) (by omega)]; omega
      show (∃ m' : Nat, w64 ((m : Int) + ((min m (n - m) : Nat) : Int)) = m' ∧ _) ∧ _
      rw [hw2]
      refine ⟨⟨m + min m (n - m), rfl, by omega, fun _ => by omega, rfl⟩, ?_⟩
      show n - ((m + min m (n - m) : Nat) : Int).toNat < n - ((m : Nat) : Int).toNat
      omega
    · have e : m = n := by omega
      subst e
      refine hQ _ _ ⟨id, hid, rfl, ?_⟩
      rw [Nat.sub_self, List.replicate_zero, List.append_nil]
  by_cases h0 : n = 0
  · subst h0
    exact .inl ⟨rfl, hloop 0 _ (by omega) (by omega) rfl⟩
  · refine .inr ⟨id, 0, n, t, _, rfl, Store.set_same _ _ _, ?_⟩
    have e1 : min 1 n = 1 := by omega
    rw [e1, set_set]
    refine hloop 1 _ (by omega) (by omega) ?_
    congr 2
    rw [List.drop_replicate]; simp
end Go.Fw
end
section
set_option linter.unusedVariables false
set_option linter.unusedSimpArgs false
namespace Go.Proofs.YtcbmibgfmlpobaaGreat
open Go.Fw Go.Proofs Go.RowKit
variable {σ : Store}
theorem Mul64_ok (x y : Int) (hx0 : 0 ≤ x) (hy0 : 0 ≤ y) (hxy : x * y < 2 ^ 32) (hx : x < 2 ^ 32) (hy : y < 2 ^ 32) : Pure Tryz.prog n_math_bits_Mul64 [.one (.int .u64 x), .one (.int .u64 y)] σ (.tup [.one (.int .u64 0), .one (.int .u64 (x * y))]) := by
  have h0 : 0 ≤ x * y := Int.mul_nonneg hx0 hy0
  refine W_math_bits_Mul64 x y σ _ ?_
  unfold V_math_bits_Mul64
  have z0 : IntKind.wrap .u64 0 = 0 := u64_id (by omega) (by omega)
  have m0 := and_mask (x := 0) (by omega) (by omega)
  have f0 := fdiv_small (x := 0) (by omega) (by omega)
  rw [and_mask hx0 hx, and_mask hy0 hy, fdiv_small hx0 hx, fdiv_small hy0 hy, u64_id (n := x) hx0 (by omega), u64_id (n := y) hy0 (by omega), u64_id (n := x * y) h0 (by omega), fdiv_small h0 hxy]
  simp only [Int.zero_mul, Int.mul_zero, Int.add_zero, Int.zero_add, z0, m0, f0]
  exact ⟨trivial, trivial⟩
theorem Mul_ok (s : Store) (x y : Int) (hx0 : 0 ≤ x) (hy0 : 0 ≤ y) (hxy : x * y < 2 ^ 32) (hx : x < 2 ^ 32) (hy : y < 2 ^ 32) : Pure Tryz.prog n_math_bits_Mul [.one (.int .u64 x), .one (.int .u64 y)] s (.tup [.one (.int .u64 0), .one (.int .u64 (x * y))]) :=
  W_math_bits_Mul x y s _ ((Mul64_ok x y hx0 hy0 hxy hx hy).use ⟨_, _, rfl, rfl, rfl⟩)
theorem Repeat_int_ok {x : D} {row : List D} {n : Nat} (hx : At Tryz.prog σ t_int x [row]) (hn : n ≤ 2 ^ 20) : DCalls Tryz.prog n_slices_Repeat_int [.one x, iA n] σ (RepPost t_int n row σ) :=
  W_slices_Repeat_int x n σ _ (rep_ok (bytes := 8) Mul_ok c_int hx hn (by omega) fun _ _ h => h)
theorem Repeat_Mover_ok {x : D} {row : List D} {n : Nat} (hx : At Tryz.prog σ t_Mover x [row]) (hn : n ≤ 2 ^ 20) : DCalls Tryz.prog n_slices_Repeat_Mover [.one x, iA n] σ (RepPost t_Mover n row σ) :=
  W_slices_Repeat_Mover x n σ _ (rep_ok (bytes := 16) Mul_ok c_Mover hx hn (by omega) fun _ _ h => h)
theorem Start_ok (now : Int) : Pure Tryz.prog n_mover_Start [iA now] σ (.a (.agg [iD 0, iD now])) := W_mover_Start now σ _ ⟨rfl, rfl⟩
theorem Grow_Mover_ok {n : Nat} (hn : n ≤ 2 ^ 40) : DCalls Tryz.prog n_slices_Grow_Mover [.one .nils, iA n] σ fun r s => ∃ d, r = .a (.one d) ∧ Own Tryz.prog σ s t_Mover d [] := by
  refine W_slices_Grow_Mover n σ _ (bcd (fun h => absurd h (by omega)) (fun _ => ⟨0, rfl, ?_⟩))
  have hw : w64 ((n : Int) - w64 (0 - ((0 : Nat) : Int))) = n := by
    have : w64 (0 - ((0 : Nat) : Int)) = 0 := by decide
    rw [this, w64_id (by omega) (by omega)]; omega
  rw [hw]
  refine bcd (fun h => ⟨0, .inr ⟨rfl, .inl rfl⟩, by omega, by omega, by omega, by omega, by omega, bcd (fun h0 => absurd h0 (by omega)) (fun _ => newObj_intro fun id s hid _ he hs => ?_)⟩) (fun h => ⟨_, rfl, .nil _ (.refl _)⟩)
  refine ⟨0, rfl, n, .inl ⟨by simp, _, _, hs, c_Mover⟩, by omega, by omega, by omega, _, rfl, ?_⟩
  exact ⟨⟨⟨_, _, hs, rfl, by simp, by simp⟩, by simp, fun es rows e => by cases e⟩, he, osl_new hid, fun h => h, by intro e; cases e⟩
theorem Concat_Mover_ok {d a b : D} {ra rb : List (List D)} (hd : At Tryz.prog σ t_sl_Mover d [[a], [b]]) (ha : At Tryz.prog σ t_Mover a ra) (hb : At Tryz.prog σ t_Mover b rb) (hla : ra.length ≤ 2 ^ 20) (hlb : rb.length ≤ 2 ^ 20) :
    DCalls Tryz.prog n_slices_Concat_Mover [.one d] σ fun r s => ∃ d, r = .a (.one d) ∧ Own Tryz.prog σ s t_Mover d (ra ++ rb) := by
  let L : List (D × List (List D)) := [(a, ra), (b, rb)]
  have hL : ∀ p ∈ L, At Tryz.prog σ t_Mover p.1 p.2 := fun p hp => by
    rcases List.mem_cons.1 hp with rfl | hp
    · exact ha
    · rcases List.mem_cons.1 hp with rfl | hp
      · exact hb
      · cases hp
  have hdL : At Tryz.prog σ t_sl_Mover d (L.map fun p => [p.1]) := hd
  have hl : L.length < 2 ^ 60 := by show 2 < 2 ^ 60; omega
  refine W_slices_Concat_Mover d σ _ (hdL.lenK ⟨fun m n s => s = σ ∧ 0 ≤ m ∧ Rng L (fun r => m + ((r.map fun p => p.2.length).sum : Nat) = ((ra.length + rb.length : Nat) : Int)) n, fun _ n _ => L.length - n.toNat, ⟨rfl, by omega, .start (by simp [L])⟩, ?_⟩)
  rintro m n s ⟨rfl, hm, hr⟩
  refine bcd (fun hlt => ?_) (fun hge => ?_)
  · obtain ⟨j, x, rfl, hx, hj, hF, nx⟩ := hr.step (by simp) hl hlt
    refine hdL.load (map_get hx) c_sl_Mover rfl ⟨x.1, rfl, (hL x (List.mem_of_getElem? hx)).lenK ?_⟩
    simp only [List.map_cons, List.sum_cons] at hF
    have hw : w64 (m + (x.2.length : Int)) = m + x.2.length := w64_id (by omega) (by omega)
    rw [hw]
    refine bcd (fun h => absurd h (by omega)) (fun _ => ?_)
    have hn := nx (fun r => m + x.2.length + ((r.map fun p => p.2.length).sum : Nat) = ((ra.length + rb.length : Nat) : Int)) (by omega)
    exact ⟨⟨rfl, by omega, hn.1⟩, hn.2⟩
  · have hF := hr.done (by simp) hge
    simp only [List.map_nil, List.sum_nil] at hF
    have hmn : m = ((ra.length + rb.length : Nat) : Int) := by omega
    subst hmn
    refine (Grow_Mover_ok (by omega)).mono ?_
    rintro r s1 ⟨d1, rfl, ho⟩
    refine ⟨d1, rfl, hdL.lenK ⟨fun d2 n s2 => ∃ out, Own Tryz.prog s s2 t_Mover d2 out ∧ Rng L (fun q => out ++ (q.map fun p => p.2).flatten = ra ++ rb) n, fun _ n _ => L.length - n.toNat, ⟨[], ho, .start (by simp [L])⟩, ?_⟩⟩
    rintro d2 n s2 ⟨out, ho2, hr2⟩
    refine bcd (fun hlt => ?_) (fun hge => ?_)
    · obtain ⟨j, x, rfl, hx, hj, hF2, nx⟩ := hr2.step (by simp) hl hlt
      refine (hdL.ext ho2.ext).load (map_get hx) c_sl_Mover rfl ⟨x.1, rfl, ?_⟩
      have hxa := (hL x (List.mem_of_getElem? hx)).ext ho2.ext
      simp only [List.map_cons, List.flatten_cons] at hF2
      have hlen := congrArg List.length hF2
      simp only [List.length_append] at hlen
      refine ho2.append hxa (by omega) (by omega) fun d3 s3 ho3 _ _ => ?_
      have hn := nx (fun q => out ++ x.2 ++ (q.map fun p => p.2).flatten = ra ++ rb) (by rw [List.append_assoc]; exact hF2)
      exact ⟨⟨_, ho3, hn.1⟩, hn.2⟩
    · have hF2 := hr2.done (by simp) hge
      simp only [List.map_nil, List.flatten_nil, List.append_nil] at hF2
      exact ⟨_, rfl, hF2 ▸ ho2⟩
theorem locks_between_ok (n lo hi : Int) : Pure Tryz.prog n_locks_between [iA n, iA lo, iA hi] σ (.a (bA (decide (lo ≤ n ∧ n ≤ hi)))) := by
  refine W_locks_between n lo hi σ _ (bcd (fun h => ⟨?_, rfl⟩) (fun h => ⟨?_, rfl⟩)) <;> simp [h]
theorem locks_times_ok {d : D} {l : List Int} (b : Int) (hb : 0 ≤ b ∧ b ≤ 1) (h : At Tryz.prog σ t_int d (l.map Go.Fw.encI)) : Pure Tryz.prog n_locks_times [iA b, .one d] σ (.a (bA (l.all fun n => decide (0 ≤ n ∧ n ≤ 4294967295 + b)))) := by
  have hl := h.size
  rw [List.length_map] at hl
  refine W_locks_times b d σ _ (h.lenK ⟨fun n s => s = σ ∧ Rng l (fun r => (r.all fun n => decide (0 ≤ n ∧ n ≤ 4294967295 + b)) = l.all fun n => decide (0 ≤ n ∧ n ≤ 4294967295 + b)) n, fun n _ => l.length - n.toNat, ⟨rfl, .start rfl⟩, ?_⟩)
  rintro n τ ⟨rfl, hr⟩
  refine bcd (fun hlt => ?_) (fun hge => ?_)
  · obtain ⟨j, x, rfl, hx, hj, hF, nx⟩ := hr.step (by simp) hl hlt
    rw [List.all_cons] at hF
    have hw : w64 (4294967295 + b) = 4294967295 + b := w64_id (by omega) (by omega)
    refine h.load (map_get hx) c_int rfl ⟨x, rfl, (locks_between_ok _ _ _).use ⟨_, rfl, ?_⟩⟩
    rw [hw]
    refine bcnot (fun h1 => ?_) (fun h1 => ?_)
    · rw [h1] at hF; exact ⟨by rw [← hF]; rfl, rfl⟩
    · rw [h1, Bool.true_and] at hF; exact andl rfl (nx _ hF)
  · have hF := hr.done (by simp) hge
    exact ⟨by rw [← hF]; rfl, rfl⟩
end Go.Proofs.YtcbmibgfmlpobaaGreat
end
section
namespace Go.Fw
structure Rs where
  State : Int
  Since : Int
  Next : Int
  Mark : Int
  deriving DecidableEq
structure Mv where
  Cmd : Int
  Other : Int
  deriving DecidableEq
structure Ls where
  Ask : Int
  Done : Int
  Grant : Int
  Told : Int
  PAsk : Int
  PDone : Int
  PGrant : Int
  Since : Int
  deriving DecidableEq
structure Co where
  Own : List Int
  Routes : List Rs
  Points : List Mv
  Xs : List Mv
  Lines : List Ls
  Resets : List Int
  Dirty : Bool
  deriving DecidableEq
def Rs.enc (r : Rs) : List D := [iD r.State, iD r.Since, iD r.Next, iD r.Mark]
def Mv.enc (r : Mv) : List D := [iD r.Cmd, iD r.Other]
def Ls.enc (r : Ls) : List D := [iD r.Ask, iD r.Done, iD r.Grant, iD r.Told, iD r.PAsk, iD r.PDone, iD r.PGrant, iD r.Since]
def tm (b n : Int) : Bool := decide (0 ≤ n ∧ n ≤ 4294967295 + b)
def Rs.fits (p : Rs × Rt) : Bool := decide (0 ≤ p.1.State ∧ p.1.State ≤ 5) && decide (0 ≤ p.1.Next ∧ p.1.Next ≤ p.2.Path.length) && (tm 0 p.1.Since && tm 0 p.1.Mark)
def Mv.fits (m : Mv) : Bool := decide (0 ≤ m.Cmd ∧ m.Cmd ≤ 2) && decide (-1 ≤ m.Other ∧ m.Other ≤ 4294967295)
def Ls.fits (l : Ls) : Bool := (tm 0 l.Ask && (tm 0 l.Done && (tm 0 l.Grant && (tm 0 l.Told && (tm 0 l.PAsk && (tm 0 l.PDone && tm 0 l.PGrant)))))) && tm 1 l.Since
def Co.lens (c : Cf) (k : Co) : Bool := decide (k.Own.length = c.Secs.length ∧ k.Points.length = c.Secs.length ∧ k.Resets.length = c.Secs.length ∧ k.Routes.length = c.Rts.length ∧ k.Xs.length = c.Xs.length ∧ k.Lines.length = 4)
def Co.parts (c : Cf) (k : Co) : Bool :=
  (k.Own.all fun o => decide (-2 ≤ o ∧ o ≤ c.Rts.length)) && ((k.Routes.zip c.Rts).all Rs.fits && ((k.Points ++ k.Xs).all Mv.fits && (k.Lines.all Ls.fits && k.Resets.all (tm 1))))
def Co.fits (c : Cf) (k : Co) : Bool := decide (c.check = 0) && (k.lens c && k.parts c)
theorem check_small {c : Cf} (h : c.check = 0) : topoOk c.Secs c.Jts = true ∧ c.Secs.length ≤ 16 ∧ c.Rts.length ≤ 12 ∧ c.Xs.length ≤ 4 ∧ c.Sigs.length ≤ 12 ∧ c.Jts.length ≤ 24 := by
  unfold Cf.check at h
  split at h
  · cases h
  split at h
  · cases h
  split at h
  · cases h
  split at h
  · cases h
  rename_i h1 h2 h3 h4
  simp only [Bool.not_eq_false] at h1 h2 h3
  simp only [Cf.sigsOk, Cf.xsOk, Bool.and_eq_true, decide_eq_true_eq, topoOk] at h1 h2 h3
  exact ⟨by simp only [topoOk, Bool.and_eq_true, decide_eq_true_eq]; exact h1, h1.1.2.1, by omega, h3.2, h2.2, h1.1.2.2⟩
end Go.Fw
end
section
set_option linter.unusedVariables false
set_option linter.unusedSimpArgs false
namespace Go.Proofs.YtcbmibgfmlpobaaGreat
open Go.Fw Go.Proofs Go.RowKit
variable {σ : Store}
theorem clone_ok {t : TypeId} {bytes : Nat} {d : D} {rows : List (List D)} {Q : RV → Store → Prop} (h : At Tryz.prog σ t d rows) (hz : d ≠ .zsl) (hb : bytes * rows.length ≤ 140737488355328)
    (hQ : ∀ d' s, Own Tryz.prog σ s t d' rows → Q (.a (.one d')) s) :
    ∃ b : Bool, (IsNil .sl d b) ∧ bcase (b != false) (Q (.a (.one .nils)) σ) (Fw.newObj σ (.live t []) (fun (id : Nat) => fun (σ' : Store) => appendTo Tryz.prog σ' t bytes (.osl id 0 0) d (fun (d : D) => fun (σ'1 : Store) => Q (.a (.one d)) σ'1))) := by
  have new : ∀ b : Bool, b = false → bcase (b != false) (Q (.a (.one .nils)) σ) (Fw.newObj σ (.live t []) (fun (id : Nat) => fun (σ' : Store) => appendTo Tryz.prog σ' t bytes (.osl id 0 0) d (fun (d : D) => fun (σ'1 : Store) => Q (.a (.one d)) σ'1))) := by
    rintro b rfl
    rw [show (false != false) = false from by decide]
    refine (newObj_intro (K := fun id σ' => appendTo Tryz.prog σ' t bytes (.osl id 0 0) d fun d σ'1 => Q (.a (.one d)) σ'1) ?_ : Fw.newObj σ (.live t []) _)
    refine fun id s hid _ he hs => ?_
    have ho : Own Tryz.prog σ s t (.osl id 0 0) [] := ⟨At.fresh hs (by simp) rfl, he, osl_new hid, fun h => h, by intro e; cases e⟩
    exact ho.append (h.ext he) (by simpa using hb) (by have := h.size; simpa using this) fun d' s' ho' _ _ => hQ _ _ (by simpa using ho')
  have hr := h.rows
  cases d <;> simp only [Go.Fw.Rows] at hr <;> try exact hr.elim
  · subst hr; exact ⟨true, rfl, hQ _ _ (.nil _ (.refl _))⟩
  · exact absurd rfl hz
  · exact ⟨false, rfl, new _ rfl⟩
  · exact ⟨false, rfl, new _ rfl⟩
theorem Clone_int_ok {d : D} {rows : List (List D)} (h : At Tryz.prog σ t_int d rows) (hz : d ≠ .zsl) (hb : 8 * rows.length ≤ 140737488355328) : DCalls Tryz.prog n_slices_Clone_int [.one d] σ fun r s => ∃ d', r = .a (.one d') ∧ Own Tryz.prog σ s t_int d' rows :=
  W_slices_Clone_int d σ _ (clone_ok (Q := fun r s => ∃ d', r = .a (.one d') ∧ Own Tryz.prog σ s _ d' rows) h hz hb fun d' s ho => ⟨d', rfl, ho⟩)
theorem Clone_RouteState_ok {d : D} {rows : List (List D)} (h : At Tryz.prog σ t_RouteState d rows) (hz : d ≠ .zsl) (hb : 32 * rows.length ≤ 140737488355328) : DCalls Tryz.prog n_slices_Clone_RouteState [.one d] σ fun r s => ∃ d', r = .a (.one d') ∧ Own Tryz.prog σ s t_RouteState d' rows :=
  W_slices_Clone_RouteState d σ _ (clone_ok (Q := fun r s => ∃ d', r = .a (.one d') ∧ Own Tryz.prog σ s _ d' rows) h hz hb fun d' s ho => ⟨d', rfl, ho⟩)
theorem Clone_Mover_ok {d : D} {rows : List (List D)} (h : At Tryz.prog σ t_Mover d rows) (hz : d ≠ .zsl) (hb : 16 * rows.length ≤ 140737488355328) : DCalls Tryz.prog n_slices_Clone_Mover [.one d] σ fun r s => ∃ d', r = .a (.one d') ∧ Own Tryz.prog σ s t_Mover d' rows :=
  W_slices_Clone_Mover d σ _ (clone_ok (Q := fun r s => ∃ d', r = .a (.one d') ∧ Own Tryz.prog σ s _ d' rows) h hz hb fun d' s ho => ⟨d', rfl, ho⟩)
theorem Clone_LineState_ok {d : D} {rows : List (List D)} (h : At Tryz.prog σ t_LineState d rows) (hz : d ≠ .zsl) (hb : 64 * rows.length ≤ 140737488355328) : DCalls Tryz.prog n_slices_Clone_LineState [.one d] σ fun r s => ∃ d', r = .a (.one d') ∧ Own Tryz.prog σ s t_LineState d' rows :=
  W_slices_Clone_LineState d σ _ (clone_ok (Q := fun r s => ∃ d', r = .a (.one d') ∧ Own Tryz.prog σ s _ d' rows) h hz hb fun d' s ho => ⟨d', rfl, ho⟩)
structure CoAt (σ : Store) (k0 k1 k2 k3 k4 k5 : D) (k : Co) : Prop where
  own : At Tryz.prog σ t_int k0 (k.Own.map Go.Fw.encI)
  routes : At Tryz.prog σ t_RouteState k1 (k.Routes.map Rs.enc)
  points : At Tryz.prog σ t_Mover k2 (k.Points.map Mv.enc)
  xs : At Tryz.prog σ t_Mover k3 (k.Xs.map Mv.enc)
  lines : At Tryz.prog σ t_LineState k4 (k.Lines.map Ls.enc)
  resets : At Tryz.prog σ t_int k5 (k.Resets.map Go.Fw.encI)
theorem CoAt.ext {σ' : Store} {k0 k1 k2 k3 k4 k5 : D} {k : Co} (h : CoAt σ k0 k1 k2 k3 k4 k5 k) (he : Ext σ σ') : CoAt σ' k0 k1 k2 k3 k4 k5 k :=
  ⟨h.own.ext he, h.routes.ext he, h.points.ext he, h.xs.ext he, h.lines.ext he, h.resets.ext he⟩
abbrev coA (k0 k1 k2 k3 k4 k5 : D) (b : Bool) : A := .agg [k0, k1, k2, k3, k4, k5, .bool b]
theorem locks_Fits_ok {c0 c1 c2 c3 c4 : D} {c : Cf} (h : ∀ s, CfAt s c0 c1 c2 c3 c4 c) {k0 k1 k2 k3 k4 k5 : D} {k : Co} (hk : CoAt σ k0 k1 k2 k3 k4 k5 k) :
    Pure Tryz.prog n_locks_Fits [cfA c0 c1 c2 c3 c4 c, coA k0 k1 k2 k3 k4 k5 k.Dirty] σ (.a (bA (k.fits c))) := by
  have ls := (h σ).secs.size
  have lx := (h σ).xs.size
  have l0 := hk.own.size
  have l1 := hk.routes.size
  have l2 := hk.points.size
  have l3 := hk.xs.size
  have l4 := hk.lines.size
  have l5 := hk.resets.size
  simp only [List.length_map] at ls lx l0 l1 l2 l3 l4 l5
  refine .of (W_locks_Fits _ _ _ _ _ _ _ _ _ k0 k1 k2 k3 k4 k5 k.Dirty σ _ ((h σ).secs.lenK fun R hR => (conf_Check_ok h).use ⟨_, rfl, ?_⟩)) (flat_b _)
  obtain ⟨rows, hat, hlen, hrow⟩ := rts_froz fun s => (h s).rts
  have hl := (hat σ).size
  have bad : k.lens c = false → ∀ s, Ext σ s → (RV.a (.one (.bool false)) = .a (bA (k.fits c)) ∧ Ext σ s) := fun hb s he => ⟨by simp [Co.fits, hb], he⟩
  have nl : ∀ p : Prop, ¬ (k.Own.length = c.Secs.length ∧ k.Points.length = c.Secs.length ∧ k.Resets.length = c.Secs.length ∧ k.Routes.length = c.Rts.length ∧ k.Xs.length = c.Xs.length ∧ k.Lines.length = 4) → k.lens c = false := fun p hn => by
    rw [Co.lens, decide_eq_false hn]
  refine bcn (fun hc => ⟨by simp [Co.fits, hc], .refl _⟩) (fun hc => ?_)
  simp only [List.length_map]
  refine hk.own.lenK (bcn (fun e => bad (nl True fun g => by simp only [List.length_map] at e; omega) _ (.refl _)) (fun e0 => ?_))
  refine hk.points.lenK (bcn (fun e => bad (nl True fun g => by simp only [List.length_map] at e; omega) _ (.refl _)) (fun e1 => ?_))
  refine hk.resets.lenK (bcn (fun e => bad (nl True fun g => by simp only [List.length_map] at e; omega) _ (.refl _)) (fun e2 => ?_))
  refine hk.routes.lenK ((hat σ).lenK (bcn (fun e => bad (nl True fun g => by simp only [List.length_map] at e; omega) _ (.refl _)) (fun e3 => ?_)))
  refine hk.xs.lenK ((h σ).xs.lenK (bcn (fun e => bad (nl True fun g => by simp only [List.length_map] at e; omega) _ (.refl _)) (fun e4 => ?_)))
  refine hk.lines.lenK (bcn (fun e => bad (nl True fun g => by simp only [List.length_map] at e; omega) _ (.refl _)) (fun e5 => hR σ ?_))
  simp only [List.length_map] at e0 e1 e2 e3 e4 e5
  have hL : k.lens c = true := decide_eq_true ⟨by omega, by omega, by omega, by omega, by omega, by omega⟩
  have hfit : k.fits c = k.parts c := by simp [Co.fits, hc, hL]
  rw [hfit]
  obtain ⟨_, s1, s2, s3, _, _⟩ := check_small hc
  clear bad nl hfit hL hR
  unfold Co.parts
  -- owners
  refine hk.own.lenK ⟨fun n s => s = σ ∧ Rng k.Own (fun r => (r.all fun o => decide (-2 ≤ o ∧ o ≤ (c.Rts.length : Int))) = k.Own.all fun o => decide (-2 ≤ o ∧ o ≤ (c.Rts.length : Int))) n, fun n _ => k.Own.length - n.toNat, ⟨rfl, .start rfl⟩, ?_⟩
  rintro n τ ⟨rfl, hr⟩
  refine bcd (fun hlt => ?_) (fun hge => ?_)
  · obtain ⟨j, x, rfl, hx, hj, hF, nx⟩ := hr.step (by simp) l0 hlt
    rw [List.all_cons] at hF
    refine hk.own.load (map_get hx) c_int rfl ⟨x, rfl, (hat τ).lenK ((locks_between_ok _ _ _).use ⟨_, rfl, ?_⟩)⟩
    rw [hlen]
    refine bcnot (fun h1 => ?_) (fun h1 => ?_)
    · rw [h1] at hF; exact ⟨by rw [← hF]; rfl, .refl _⟩
    · rw [h1, Bool.true_and] at hF; exact andl rfl (nx _ hF)
  have hF0 := hr.done (by simp) hge
  rw [← hF0]
  show (∃ len2 : Nat, _)
  simp only [List.all_nil, Bool.true_and]
  clear hF0 hr hge
  -- routes
  have lz : (k.Routes.zip c.Rts).length = k.Routes.length := by rw [List.length_zip]; omega
  refine hk.routes.lenK ⟨fun n s => Ext τ s ∧ Rng (k.Routes.zip c.Rts) (fun r => r.all Rs.fits = (k.Routes.zip c.Rts).all Rs.fits) n, fun n _ => (k.Routes.zip c.Rts).length - n.toNat, ⟨.refl _, .start rfl⟩, ?_⟩
  rintro n s ⟨he, hr⟩
  refine bcd (fun hlt => ?_) (fun hge => ?_)
  · obtain ⟨j, x, rfl, hx, hj, hF, nx⟩ := hr.step (by rw [List.length_map, lz]) (by omega) hlt
    obtain ⟨g1, g2⟩ := List.getElem?_zip_eq_some.1 hx
    rw [List.all_cons] at hF
    refine (hk.ext he).routes.load (map_get g1) c_RouteState rfl ⟨x.1.State, x.1.Since, x.1.Next, x.1.Mark, rfl, (locks_between_ok _ _ _).use ⟨_, rfl, ?_⟩⟩
    have bad : Rs.fits x = false → ∀ s', Ext τ s' → (RV.a (.one (.bool false)) = .a (bA ((k.Routes.zip c.Rts).all Rs.fits && ((k.Points ++ k.Xs).all Mv.fits && (k.Lines.all Ls.fits && k.Resets.all (tm 1))))) ∧ Ext τ s') := fun hb s' he' => by
      rw [hb, Bool.false_and] at hF
      exact ⟨by rw [← hF]; rfl, he'⟩
    refine bcnot (fun h1 => bad (by unfold Rs.fits; rw [h1]; rfl) _ he) (fun h1 => ?_)
    obtain ⟨row, hrw⟩ := get_of_lt (l := rows) (j := j) (by rw [lz] at hj; omega)
    obtain ⟨d1, d2, d3, rfl, q1, q2, q3⟩ := hrow j row x.2 hrw g2
    refine (hat s).load hrw c_Route rfl ⟨d1, rfl, (q1 s).lenK ((locks_between_ok _ _ _).use ⟨_, rfl, ?_⟩)⟩
    rw [List.length_map]
    refine bcnot (fun h2 => bad (by unfold Rs.fits; rw [h1, h2]; rfl) _ he) (fun h2 => ?_)
    refine newObj_intro fun id s2 hid _ he2 hs2 => ?_
    refine (locks_times_ok (l := [x.1.Since, x.1.Mark]) 0 (by omega) (At.fresh hs2 (by simp) rfl)).use ⟨_, rfl, ?_⟩
    have e3 : ([x.1.Since, x.1.Mark].all fun n => decide (0 ≤ n ∧ n ≤ 4294967295 + (0 : Int))) = (tm 0 x.1.Since && tm 0 x.1.Mark) := by simp [tm]
    rw [e3]
    refine bcnot (fun h3 => bad (by unfold Rs.fits; rw [h1, h2, h3]; rfl) _ (he.trans he2)) (fun h3 => ?_)
    have hx : Rs.fits x = true := by unfold Rs.fits; rw [h1, h2, h3]; rfl
    rw [hx, Bool.true_and] at hF
    have hn := nx (fun r => r.all Rs.fits = (k.Routes.zip c.Rts).all Rs.fits) hF
    exact ⟨⟨he.trans he2, hn.1⟩, hn.2⟩
  have hF0 := hr.done (by rw [List.length_map, lz]) hge
  rw [← hF0]
  simp only [List.all_nil, Bool.true_and]
  clear hF0 hr hge
  -- movers
  refine newObj_intro fun id s2 hid _ he2 hs2 => ?_
  have het := he.trans he2
  have hkt := hk.ext het
  refine (Concat_Mover_ok (a := k2) (b := k3) (At.fresh hs2 (by simp) rfl) hkt.points hkt.xs (by rw [List.length_map]; omega) (by rw [List.length_map]; omega)).mono ?_
  rintro r s3 ⟨d, rfl, ho⟩
  rw [← List.map_append] at ho
  have he3 := het.trans ho.ext
  have lm : (k.Points ++ k.Xs).length < 2 ^ 60 := by rw [List.length_append]; omega
  refine ⟨d, rfl, ho.at_.lenK ⟨fun n s => s = s3 ∧ Rng (k.Points ++ k.Xs) (fun r => r.all Mv.fits = (k.Points ++ k.Xs).all Mv.fits) n, fun n _ => (k.Points ++ k.Xs).length - n.toNat, ⟨rfl, .start rfl⟩, ?_⟩⟩
  rintro n s4 ⟨rfl, hr⟩
  refine bcd (fun hlt => ?_) (fun hge => ?_)
  · obtain ⟨j, x, rfl, hx, hj, hF, nx⟩ := hr.step (by simp) lm hlt
    rw [List.all_cons] at hF
    refine ho.at_.load (map_get hx) c_Mover rfl ⟨x.Cmd, x.Other, rfl, (locks_between_ok _ _ _).use ⟨_, rfl, bcnot (fun h1 => ?_) (fun h1 => (locks_between_ok _ _ _).use ⟨_, rfl, bcnot (fun h2 => ?_) (fun h2 => ?_)⟩)⟩⟩
    · have : x.fits = false := by unfold Mv.fits; rw [h1]; rfl
      rw [this, Bool.false_and] at hF; exact ⟨by rw [← hF]; rfl, he3⟩
    · have : x.fits = false := by unfold Mv.fits; rw [h1, h2]; rfl
      rw [this, Bool.false_and] at hF; exact ⟨by rw [← hF]; rfl, he3⟩
    · have : x.fits = true := by unfold Mv.fits; rw [h1, h2]; rfl
      rw [this, Bool.true_and] at hF; exact andl rfl (nx _ hF)
  have hF0 := hr.done (by simp) hge
  rw [← hF0]
  simp only [List.all_nil, Bool.true_and]
  clear hF0 hr hge
  -- lines
  refine hk.lines.lenK ⟨fun n s => Ext τ s ∧ Rng k.Lines (fun r => r.all Ls.fits = k.Lines.all Ls.fits) n, fun n _ => k.Lines.length - n.toNat, ⟨he3, .start rfl⟩, ?_⟩
  rintro n s5 ⟨he5, hr⟩
  refine bcd (fun hlt => ?_) (fun hge => ?_)
  · obtain ⟨j, x, rfl, hx, hj, hF, nx⟩ := hr.step (by simp) l4 hlt
    rw [List.all_cons] at hF
    refine (hk.ext he5).lines.load (map_get hx) c_LineState rfl ⟨x.Ask, x.Done, x.Grant, x.Told, x.PAsk, x.PDone, x.PGrant, x.Since, rfl, newObj_intro fun id1 s6 hid1 _ he6 hs6 => ?_⟩
    have bad : Ls.fits x = false → ∀ s', Ext τ s' → (RV.a (.one (.bool false)) = .a (bA (k.Lines.all Ls.fits && k.Resets.all (tm 1))) ∧ Ext τ s') := fun hb s' he' => by
      rw [hb, Bool.false_and] at hF
      exact ⟨by rw [← hF]; rfl, he'⟩
    refine (locks_times_ok (l := [x.Ask, x.Done, x.Grant, x.Told, x.PAsk, x.PDone, x.PGrant]) 0 (by omega) (At.fresh hs6 (by simp) rfl)).use ⟨_, rfl, ?_⟩
    have e3 : ([x.Ask, x.Done, x.Grant, x.Told, x.PAsk, x.PDone, x.PGrant].all fun n => decide (0 ≤ n ∧ n ≤ 4294967295 + (0 : Int))) = (tm 0 x.Ask && (tm 0 x.Done && (tm 0 x.Grant && (tm 0 x.Told && (tm 0 x.PAsk && (tm 0 x.PDone && tm 0 x.PGrant)))))) := by simp [tm]
    rw [e3]
    refine bcnot (fun h1 => bad (by unfold Ls.fits; rw [h1]; rfl) _ (he5.trans he6)) (fun h1 => newObj_intro fun id2 s7 hid2 _ he7 hs7 => ?_)
    refine (locks_times_ok (l := [x.Since]) 1 (by omega) (At.fresh hs7 (by simp) rfl)).use ⟨_, rfl, ?_⟩
    have e4 : ([x.Since].all fun n => decide (0 ≤ n ∧ n ≤ 4294967295 + (1 : Int))) = tm 1 x.Since := by simp [tm]
    rw [e4]
    refine bcnot (fun h2 => bad (by unfold Ls.fits; rw [h1, h2]; rfl) _ ((he5.trans he6).trans he7)) (fun h2 => ?_)
    have hx : x.fits = true := by unfold Ls.fits; rw [h1, h2]; rfl
    rw [hx, Bool.true_and] at hF
    have hn := nx (fun r => r.all Ls.fits = k.Lines.all Ls.fits) hF
    exact ⟨⟨(he5.trans he6).trans he7, hn.1⟩, hn.2⟩
  have hF0 := hr.done (by simp) hge
  rw [← hF0]
  simp only [List.all_nil, Bool.true_and]
  exact (locks_times_ok 1 (by omega) (hk.ext he5).resets).use ⟨_, rfl, rfl, he5⟩
end Go.Proofs.YtcbmibgfmlpobaaGreat
end
section
set_option linter.unusedVariables false
set_option linter.unusedSimpArgs false
namespace Go.Fw
variable {P : Program} {σ : Store}
theorem rows_fun {s : Store} {el : TypeId} {d : D} {rs rs' : List (List D)} (h : Go.Fw.Rows P s el d rs) (h' : Go.Fw.Rows P s el d rs') : rs = rs' := by
  cases d <;> simp only [Go.Fw.Rows] at h h' <;> try exact h.elim
  · rw [h, h']
  · rw [h, h']
  · rw [h.1, h'.1]
  · obtain ⟨t, rows, a1, a2, a3, a4⟩ := h
    obtain ⟨t', rows', b1, b2, b3, b4⟩ := h'
    rw [a1] at b1
    injection b1 with e1 e2
    subst e1 e2
    rw [a4, b4]
def repPre (P : Program) (t : TypeId) (as0 : List A) (s : Store) : Prop := ∃ (d : D) (n : Nat) (row : List D), as0 = [.one d, iA n] ∧ At P s t d [row] ∧ n ≤ 2 ^ 20
def repPost (P : Program) (t : TypeId) (as0 : List A) (s : Store) (r : RV) (s' : Store) : Prop := ∃ (d : D) (n : Nat) (row : List D), as0 = [.one d, iA n] ∧ At P s t d [row] ∧ n ≤ 2 ^ 20 ∧ RepPost t n row s r s'
theorem Fin.set' {s : Store} (h : Fin s) (id : Nat) (so : SO) : Fin (s.set id so) := by
  obtain ⟨N, hN⟩ := h
  refine ⟨max N (id + 1), fun i hi => ?_⟩
  rw [Store.set_ne _ _ (by omega)]; exact hN i (by omega)
theorem rep_spec {f : FuncId} {t : TypeId} (h : ∀ (s : Store) (x : D) (row : List D) (n : Nat), At P s t x [row] → n ≤ 2 ^ 20 → DCalls P f [.one x, iA n] s (RepPost t n row s)) : SpecOk P f (repPre P t) (repPost P t) := by
  refine ⟨?_, ?_, ?_, ?_, ?_⟩
  · rintro as0 s ⟨d, n, row, rfl, h1, h2⟩
    exact (h s d row n h1 h2).mono fun r s' hr => ⟨d, n, row, rfl, h1, h2, hr⟩
  · rintro as0 s ⟨d, n, row, rfl, h1, h2⟩ ⟨N, hN⟩
    exact ⟨_, _, ⟨d, n, row, rfl, h1, h2, N, hN N (Nat.le_refl _), rfl, rfl⟩, Fin.set' ⟨N, hN⟩ _ _⟩
  · rintro as0 s r s' ⟨d, n, row, rfl, h1, h2, id, h3, rfl, rfl⟩ hf
    exact hf.set' _ _
  · rintro as0 s id so hid hso ⟨d, n, row, rfl, h1, h2⟩
    have he := Ext.new hid so
    refine ⟨⟨d, n, row, rfl, h1.ext he, h2⟩, ?_⟩
    rintro r s' ⟨d', n', row', e1, g1, g2, id', g3, rfl, rfl⟩
    injection e1 with e2 e3
    injection e2 with e2
    injection e3 with e3 _
    injection e3 with e3
    injection e3 with _ e3
    have e3 : n = n' := by omega
    subst e2 e3
    have e4 := rows_fun (h1.ext he).rows g1.rows
    injection e4 with e4 _
    subst e4
    have hne : id' ≠ id := fun e => by subst e; rw [Store.set_same] at g3; exact hso g3
    rw [Store.set_ne _ _ hne] at g3
    refine ⟨s.set id' (.live t (List.replicate n row)), ⟨d, n, row, rfl, h1, h2, id', g3, rfl, rfl⟩, ?_, set_comm (Ne.symm hne) _ _⟩
    rw [Store.set_ne _ _ (Ne.symm hne)]; exact hid
  · rintro as0 s r s' _ ⟨d, n, row, rfl, h1, h2, id, h3, rfl, rfl⟩ i hi
    exact Store.set_ne _ _ (fun e => hi (e ▸ h3))
def idOf : D → Option Nat
  | .osl id _ _ => some id
  | _ => none
def Apart (a b : D) : Prop := ∀ id, idOf a = some id → idOf b ≠ some id
theorem Apart.symm {a b : D} (h : Apart a b) : Apart b a := fun id h1 h2 => h id h2 h1
theorem Own.at_new {σ0 : Store} {el : TypeId} {id n : Nat} {rs : List (List D)} (hid : σ0 id = .free) (he : Ext σ0 σ) (h : σ id = .live el rs) (hsz : rs.length < 2 ^ 60) (hn : n = rs.length) : Own P σ0 σ el (.osl id 0 n) rs :=
  ⟨At.fresh h hsz hn, he, osl_new hid, fun h => h, by intro e; cases e⟩
theorem Own.apart {σ0 : Store} {el el' : TypeId} {d d' : D} {rs rs' : List (List D)} (h : Own P σ0 σ el d rs) (h' : At P σ0 el' d' rs') : Apart d' d := by
  intro id h1 h2
  cases d' with
  | osl i a n =>
    have e1 : i = id := by simpa [idOf] using h1
    subst e1
    cases d with
    | osl i' a' n' =>
      have e2 : i' = i := by simpa [idOf] using h2
      subst e2
      have := h.new _ _ _ rfl
      obtain ⟨t, rows, g1, _⟩ := h'.rows
      rw [this] at g1; cases g1
    | _ => simp [idOf] at h2
  | _ => simp [idOf] at h1
theorem Own.from {σ0 σ1 : Store} {el : TypeId} {d : D} {rs : List (List D)} (he : Ext σ0 σ1) (h : Own P σ1 σ el d rs) : Own P σ0 σ el d rs :=
  ⟨h.at_, he.trans h.ext, fun id i len e => by
    have h1 := h.new id i len e
    by_cases hf : σ0 id = .free
    · exact hf
    · have := he id hf; rw [h1] at this; exact this.symm, h.nsl, h.nz⟩
def newCo (c : Cf) (now : Int) : Co :=
  ⟨List.replicate c.Secs.length (-1), List.replicate c.Rts.length ⟨0, 0, 0, 0⟩, c.Secs.map fun s => ⟨0, if s.Kind = 1 then now else 0⟩, List.replicate c.Xs.length ⟨1, now⟩, List.replicate 4 ⟨0, 0, 0, 0, 0, 0, 0, 0⟩, List.replicate c.Secs.length 0, true⟩
end Go.Fw
end
section
set_option linter.unusedVariables false
set_option linter.unusedSimpArgs false
namespace Go.Proofs.YtcbmibgfmlpobaaGreat
open Go.Fw Go.Proofs Go.RowKit
variable {σ : Store}
def mvAt (now : Int) (s : Sec) : Mv := ⟨0, if s.Kind = 1 then now else 0⟩
theorem locks_movers_ok {c0 c1 c2 c3 c4 : D} {c : Cf} (h : ∀ s, CfAt s c0 c1 c2 c3 c4 c) (now : Int) (h1 : c.Secs.length ≤ 2 ^ 20) (h2 : c.Xs.length ≤ 2 ^ 20) :
    DCalls Tryz.prog n_locks_movers [cfA c0 c1 c2 c3 c4 c, iA now] σ fun r s => ∃ d1 d2, r = .tup [.one d1, .one d2] ∧ Own Tryz.prog σ s t_Mover d1 ((c.Secs.map (mvAt now)).map Mv.enc) ∧ Own Tryz.prog σ s t_Mover d2 ((List.replicate c.Xs.length (⟨1, now⟩ : Mv)).map Mv.enc) ∧ Apart d1 d2 := by
  refine W_locks_movers _ _ _ _ _ _ _ _ _ now σ _ ((h σ).secs.lenK ⟨by omega, by omega, by rw [List.length_map]; omega, newObj_intro fun id s1 hid _ he hs => (h s1).secs.lenK ?_⟩)
  rw [List.length_map, Int.toNat_natCast]
  refine ⟨fun n s => ∃ j : Nat, n = j ∧ j ≤ c.Secs.length ∧ Ext σ s ∧ s id = .live t_Mover (((c.Secs.take j).map (mvAt now)).map Mv.enc ++ List.replicate (c.Secs.length - j) [iD 0, iD 0]), fun n _ => c.Secs.length - n.toNat, ⟨0, rfl, by omega, he, by simpa using hs⟩, ?_⟩
  rintro _ s ⟨j, rfl, hj, hes, hl⟩
  refine bcd (fun hlt => ?_) (fun hge => ?_)
  · obtain ⟨x, hx⟩ := get_of_lt (l := c.Secs) (j := j) (by omega)
    refine (h s).secs.load (map_get hx) c_Section rfl ⟨x.Kind, x.OC, x.Line, rfl, ?_⟩
    have hw : w64 ((j : Int) + 1) = ((j + 1 : Nat) : Int) := w64_succ (by omega)
    have htake : c.Secs.take (j + 1) = c.Secs.take j ++ [x] := by rw [List.take_add_one, hx]; rfl
    have hlr : (((c.Secs.take j).map (mvAt now)).map Mv.enc ++ List.replicate (c.Secs.length - j) ([iD 0, iD 0] : List D)).length = c.Secs.length := by simp; omega
    have hsplit : List.replicate (c.Secs.length - j) ([iD 0, iD 0] : List D) = [iD 0, iD 0] :: List.replicate (c.Secs.length - (j + 1)) [iD 0, iD 0] := by
      rw [show c.Secs.length - j = (c.Secs.length - (j + 1)) + 1 by omega, List.replicate_succ]
    have hln : (((c.Secs.take j).map (mvAt now)).map Mv.enc).length = j := by rw [List.length_map, List.length_map, List.length_take]; omega
    have hmu : c.Secs.length - ((j + 1 : Nat) : Int).toNat < c.Secs.length - ((j : Nat) : Int).toNat := by omega
    refine bce (fun hk => (Start_ok now).use ⟨0, now, rfl, ?_⟩) (fun hk => ?_)
    · refine ⟨c.Secs.length, ⟨by omega, t_Mover, _, hl, c_Mover⟩, by omega, by omega, ?_⟩
      have hrowj : (((c.Secs.take j).map (mvAt now)).map Mv.enc ++ List.replicate (c.Secs.length - j) ([iD 0, iD 0] : List D))[0 + j]? = some [iD 0, iD 0] := by
        rw [Nat.zero_add, List.getElem?_append_right (by omega), hln, Nat.sub_self, hsplit]; rfl
      refine ⟨id, 0, c.Secs.length, t_Mover, _, [iD 0, iD 0], rfl, by omega, hl, hrowj, by simp, ?_⟩
      rw [hw]
      refine ⟨⟨j + 1, rfl, by omega, hes.set hid _, ?_⟩, hmu⟩
      rw [Store.set_same, htake, Int.toNat_natCast, Nat.zero_add, hsplit]
      congr 1
      rw [List.set_append_right _ _ (by omega), hln, Nat.sub_self, List.set_cons_zero]
      simp [mvAt, hk, Mv.enc, patch]
    · rw [hw]
      refine ⟨⟨j + 1, rfl, by omega, hes, ?_⟩, hmu⟩
      rw [hl, htake, hsplit]
      simp [mvAt, hk, Mv.enc]
  · have e : j = c.Secs.length := by omega
    subst e
    rw [List.take_length, Nat.sub_self, List.replicate_zero, List.append_nil] at hl
    refine newObj_intro fun id1 s2 hid1 _ he2 hs2 => (h s2).xs.lenK ?_
    rw [List.length_map]
    refine (Repeat_Mover_ok (At.fresh hs2 (by simp) rfl) h2).mono ?_
    rintro r s3 ⟨id3, hid3, rfl, rfl⟩
    have he3 : Ext s2 (s2.set id3 (.live t_Mover (List.replicate c.Xs.length [iD 1, iD now]))) := Ext.new hid3 _
    have hne : id ≠ id3 := fun e => by
      rw [← e] at hid3
      have := he2 id (by rw [hl]; intro e; cases e)
      rw [hid3, hl] at this; cases this
    have hf3 : σ id3 = .free := by
      by_cases hf : σ id3 = .free
      · exact hf
      · have := (hes.trans he2) id3 hf
        rw [hid3] at this; exact this.symm
    refine ⟨_, rfl, _, _, rfl, ?_, ?_, ?_⟩
    · refine Own.at_new hid ((hes.trans he2).trans he3) (rs := (c.Secs.map (mvAt now)).map Mv.enc) ?_ (by simp; omega) (by simp)
      rw [Store.set_ne _ _ hne, he2 id (by rw [hl]; intro e; cases e), hl]
    · refine Own.at_new hf3 ((hes.trans he2).trans he3) (rs := (List.replicate c.Xs.length (⟨1, now⟩ : Mv)).map Mv.enc) ?_ (by simp; omega) (by simp)
      rw [Store.set_same]
      simp [Mv.enc]
    · intro i e1 e2
      simp only [idOf, Option.some.injEq] at e1 e2
      exact hne (e1.trans e2.symm)
structure CoOwn (σ0 σ : Store) (k0 k1 k2 k3 k4 k5 : D) (k : Co) : Prop where
  own : Own Tryz.prog σ0 σ t_int k0 (k.Own.map Go.Fw.encI)
  routes : Own Tryz.prog σ0 σ t_RouteState k1 (k.Routes.map Rs.enc)
  points : Own Tryz.prog σ0 σ t_Mover k2 (k.Points.map Mv.enc)
  xs : Own Tryz.prog σ0 σ t_Mover k3 (k.Xs.map Mv.enc)
  lines : Own Tryz.prog σ0 σ t_LineState k4 (k.Lines.map Ls.enc)
  resets : Own Tryz.prog σ0 σ t_int k5 (k.Resets.map Go.Fw.encI)
  apart : [k0, k1, k2, k3, k4, k5].Pairwise Apart
theorem CoOwn.at {σ0 : Store} {k0 k1 k2 k3 k4 k5 : D} {k : Co} (h : CoOwn σ0 σ k0 k1 k2 k3 k4 k5 k) : CoAt σ k0 k1 k2 k3 k4 k5 k :=
  ⟨h.own.at_, h.routes.at_, h.points.at_, h.xs.at_, h.lines.at_, h.resets.at_⟩
theorem locks_New_ok {c0 c1 c2 c3 c4 : D} {c : Cf} (h : ∀ s, CfAt s c0 c1 c2 c3 c4 c) (now : Int) (h1 : c.Secs.length ≤ 2 ^ 20) (h2 : c.Xs.length ≤ 2 ^ 20) (h3 : c.Rts.length ≤ 2 ^ 20) :
    DCalls Tryz.prog n_locks_New [cfA c0 c1 c2 c3 c4 c, iA now] σ fun r s => ∃ k0 k1 k2 k3 k4 k5, r = .a (coA k0 k1 k2 k3 k4 k5 true) ∧ CoOwn σ s k0 k1 k2 k3 k4 k5 (newCo c now) := by
  obtain ⟨rows, hat, hlen⟩ := rts_len (h σ)
  refine W_locks_New _ _ _ _ _ _ _ _ _ now σ _ ⟨repPre Tryz.prog t_int, repPost Tryz.prog t_int, rep_spec fun s x row n q1 q2 => Repeat_int_ok q1 q2, (h σ).secs.lenK (hat.lenK ((h σ).secs.lenK (newObj_intro fun id s1 hid _ he1 hs1 => ?_)))⟩
  simp only [List.length_map, hlen]
  refine ⟨⟨_, _, [iD (-1)], rfl, At.fresh hs1 (by simp) rfl, h1⟩, ?_⟩
  rintro r s2 ⟨d, n, row, e1, g1, g2, id2, hid2, rfl, rfl⟩
  injection e1 with e2 e3
  injection e2 with e2
  injection e3 with e3 _
  injection e3 with e3
  injection e3 with _ e3
  have e3 : c.Secs.length = n := by omega
  subst e2 e3
  have e4 := rows_fun (At.fresh hs1 (by simp) rfl : At Tryz.prog s1 t_int (.osl id 0 1) _).rows g1.rows
  injection e4 with e4 _
  subst e4
  generalize hs2 : s1.set id2 (SO.live t_int (List.replicate c.Secs.length [D.int IntKind.i64 (-1)])) = s2
  have he2 : Ext s1 s2 := by rw [← hs2]; exact Ext.new hid2 _
  have hl2 : s2 id2 = .live t_int (List.replicate c.Secs.length [iD (-1)]) := by rw [← hs2]; exact Store.set_same _ _ _
  have o0 : Own Tryz.prog s1 s2 t_int (.osl id2 0 c.Secs.length) (List.replicate c.Secs.length [iD (-1)]) := .at_new hid2 he2 hl2 (by simp; omega) (by simp)
  refine ⟨_, rfl, by omega, by omega, by omega, newObj_intro fun id3 s3 hid3 _ he3 hs3 => ⟨by omega, by omega, by omega, newObj_intro fun id4 s4 hid4 _ he4 hs4 => ⟨by omega, by omega, by omega, newObj_intro fun id5 s5 hid5 _ he5 hs5 => ?_⟩⟩⟩
  simp only [Int.toNat_natCast] at hs3 hs5 ⊢
  have o1 : Own Tryz.prog s2 s3 t_RouteState (.osl id3 0 c.Rts.length) (List.replicate c.Rts.length [iD 0, iD 0, iD 0, iD 0]) := .at_new hid3 he3 hs3 (by simp; omega) (by simp)
  have o4 : Own Tryz.prog s3 s4 t_LineState (.osl id4 0 4) (List.replicate 4 [iD 0, iD 0, iD 0, iD 0, iD 0, iD 0, iD 0, iD 0]) := .at_new hid4 he4 hs4 (by simp) (by simp)
  have o5 : Own Tryz.prog s4 s5 t_int (.osl id5 0 c.Secs.length) (List.replicate c.Secs.length [iD 0]) := .at_new hid5 he5 hs5 (by simp; omega) (by simp)
  refine (locks_movers_ok h now h1 h2).mono ?_
  rintro r s6 ⟨d1, d2, rfl, o2, o3, hap⟩
  refine ⟨d1, d2, rfl, _, _, _, _, _, _, rfl, ?_⟩
  have a3 := o0.at_.ext he3
  have a4 := a3.ext he4
  have a5 := a4.ext he5
  have b4 := o1.at_.ext he4
  have b5 := b4.ext he5
  have c5 := o4.at_.ext he5
  have f1 := he1.trans he2
  have f2 := f1.trans he3
  have f3 := f2.trans he4
  have f4 := f3.trans he5
  refine ⟨?_, ?_, ?_, ?_, ?_, ?_, ?_⟩
  · have : List.map Go.Fw.encI (newCo c now).Own = List.replicate c.Secs.length [iD (-1)] := by simp [newCo, Go.Fw.encI]
    rw [this]; exact (((o0.ext' he3).ext' he4).ext' he5).ext' o2.ext |>.from he1
  · have : List.map Rs.enc (newCo c now).Routes = List.replicate c.Rts.length [iD 0, iD 0, iD 0, iD 0] := by simp [newCo, Rs.enc]
    rw [this]; exact ((o1.ext' he4).ext' he5).ext' o2.ext |>.from f1
  · exact o2.from f4
  · exact o3.from f4
  · have : List.map Ls.enc (newCo c now).Lines = List.replicate 4 [iD 0, iD 0, iD 0, iD 0, iD 0, iD 0, iD 0, iD 0] := by simp [newCo, Ls.enc]
    rw [this]; exact (o4.ext' he5).ext' o2.ext |>.from f2
  · have : List.map Go.Fw.encI (newCo c now).Resets = List.replicate c.Secs.length [iD 0] := by simp [newCo, Go.Fw.encI]
    rw [this]; exact (o5.ext' o2.ext).from f3
  · simp only [List.pairwise_cons, List.mem_cons, List.not_mem_nil, or_false, forall_eq_or_imp, forall_eq, List.Pairwise.nil, and_true, false_imp_iff, implies_true]
    exact ⟨⟨o1.apart o0.at_, o2.apart a5, o3.apart a5, o4.apart a3, o5.apart a4⟩, ⟨o2.apart b5, o3.apart b5, o4.apart o1.at_, o5.apart b4⟩, ⟨hap, (o2.apart c5).symm, (o2.apart o5.at_).symm⟩, ⟨(o3.apart c5).symm, (o3.apart o5.at_).symm⟩, o5.apart o4.at_⟩
end Go.Proofs.YtcbmibgfmlpobaaGreat
end
section
set_option linter.unusedVariables false
set_option linter.unusedSimpArgs false
namespace Go.Fw
variable {P : Program} {σ : Store}
theorem cell_store {s : Store} {id : Nat} {t : TypeId} {row xs : List D} {off : Nat} {K : Store → Prop} (hs : s id = .live t [row]) (ho : off + xs.length ≤ row.length)
    (hK : ∀ s', s' id = .live t [patch row off xs] → (∀ i, i ≠ id → s' i = s i) → K s') : storeEl xs s (.osl id 0 1) 0 off K :=
  ⟨id, 0, 1, t, [row], row, rfl, by omega, hs, rfl, ho, hK _ (Store.set_same _ _ _) fun i hi => Store.set_ne _ _ hi⟩
theorem At.store {el : TypeId} {d : D} {rs : List (List D)} {j off : Nat} {n : Nat} {row xs : List D} {K : Store → Prop} (h : At P σ el d rs) (hd : ¬ isSl d) (hr : rs[j]? = some row) (hn : n = j) (ho : off + xs.length ≤ row.length)
    (hK : ∀ s' id, idOf d = some id → At P s' el d (rs.set j (patch row off xs)) → (∀ i, i ≠ id → s' i = σ i) → s' id ≠ .free → K s') : storeEl xs σ d n off K := by
  subst hn
  have hrows := h.rows
  have hj := (List.getElem?_eq_some_iff.1 hr).1
  cases d <;> simp only [Go.Fw.Rows] at hrows <;> try exact hrows.elim
  · subst hrows; simp at hr
  · subst hrows; simp at hr
  · exact absurd trivial hd
  · obtain ⟨t, rows, h1, h2, h3, rfl⟩ := hrows
    rename_i id i0 len
    have hjl : n < len := by simp at hj; omega
    have hrow : rows[i0 + n]? = some row := by
      rw [List.getElem?_take, if_pos hjl, List.getElem?_drop] at hr; exact hr
    refine ⟨id, i0, len, t, rows, row, rfl, hjl, h1, hrow, ho, hK _ id rfl ⟨⟨t, _, Store.set_same _ _ _, h2, by simp; omega, ?_⟩, ?_, fun es rows e => by cases e⟩ (fun i hi => Store.set_ne _ _ hi) (by rw [Store.set_same]; intro e; cases e)⟩
    · rw [List.drop_set, if_neg (by omega), List.take_set]
      congr 1; omega
    · have := h.size; simpa using this
def Cf.lineSec (c : Cf) (line : Int) : Int := if line < 1 then -1 else fidx (fun s : Sec => s.Line == line) c.Secs 0
theorem fidx_bound {α : Type} (p : α → Bool) : ∀ (l : List α) (j : Nat), fidx p l j = -1 ∨ ((j : Int) ≤ fidx p l j ∧ fidx p l j < j + l.length)
  | [], j => .inl rfl
  | x :: r, j => by
    rw [fidx]
    split
    · right; simp; omega
    · rcases fidx_bound p r (j + 1) with h | h
      · exact .inl h
      · right; simp only [List.length_cons]; omega
theorem lineSec_bound (c : Cf) (line : Int) : c.lineSec line = -1 ∨ (0 ≤ c.lineSec line ∧ c.lineSec line < c.Secs.length) := by
  unfold Cf.lineSec
  split
  · exact .inl rfl
  · rcases fidx_bound (fun s : Sec => s.Line == line) c.Secs 0 with h | h
    · exact .inl h
    · right; omega
def Co.tell (k : Co) (line : Int) : Int × Int × Int :=
  match geti k.Lines line with
  | some l => if line < 1 then (0, 0, 0) else (l.Ask, l.Done, l.Told)
  | none => (0, 0, 0)
structure Lk where
  Value : Int
  Stamp : Int
  Valid : Bool
def Lk.enc (l : Lk) : List D := [iD l.Value, iD l.Stamp, .bool l.Valid]
end Go.Fw
end
section
set_option linter.unusedVariables false
set_option linter.unusedSimpArgs false
namespace Go.Proofs.YtcbmibgfmlpobaaGreat
open Go.Fw Go.Proofs Go.RowKit
variable {σ : Store}
section
variable {c0 c1 c2 c3 c4 : D} {c : Cf}
theorem block_section_ok (h : CfAt σ c0 c1 c2 c3 c4 c) (line : Int) : Pure Tryz.prog n_block_section [cfA c0 c1 c2 c3 c4 c, iA line] σ (.a (iA (c.lineSec line))) := by
  refine .of (W_block_section _ _ _ _ _ _ _ _ _ line σ _ (newObj_intro fun id σ1 hid _ he hs => ?_)) (flat_i _)
  refine ⟨_, box_row hs, line, rfl, bcd (fun h1 => ⟨by rw [Cf.lineSec, if_pos h1], he⟩) (fun h1 => ?_)⟩
  refine (IndexFunc_Section_ok (p := fun x => x.Line == line) (h.secs.ext he) (cap_fn hs fun x _ => ?_)).use ⟨_, rfl, by rw [Cf.lineSec, if_neg h1], he⟩
  exact W_block_section_1 x.Kind x.OC x.Line _ σ1 _ ⟨_, _, _, rfl, _, box_row hs, line, rfl, rfl, rfl⟩
end
theorem block_Tell_ok {k0 k1 k2 k3 k4 k5 : D} {k : Co} (h : CoAt σ k0 k1 k2 k3 k4 k5 k) (b : Bool) (line : Int) : Pure Tryz.prog n_block_Tell [coA k0 k1 k2 k3 k4 k5 b, iA line] σ (.a (.agg [iD (k.tell line).1, iD (k.tell line).2.1, iD (k.tell line).2.2])) := by
  have hl := h.lines.size
  rw [List.length_map] at hl
  refine W_block_Tell k0 k1 k2 k3 k4 k5 b line σ _ (bcd (fun h1 => ⟨?_, rfl⟩) (fun h1 => h.lines.lenK (bcd (fun h2 => ⟨?_, rfl⟩) (fun h2 => ?_))))
  · have : k.tell line = (0, 0, 0) := by unfold Co.tell; split; · rw [if_pos h1]
                                         · rfl
    rw [this]
  · rw [List.length_map] at h2
    have : k.tell line = (0, 0, 0) := by unfold Co.tell; rw [geti_ge (by omega)]
    rw [this]
  · rw [List.length_map] at h2
    obtain ⟨x, hx⟩ := get_of_lt (l := k.Lines) (j := line.toNat) (by omega)
    refine h.lines.load (map_get hx) c_LineState (by omega) ⟨x.Ask, x.Done, x.Grant, x.Told, x.PAsk, x.PDone, x.PGrant, x.Since, rfl, ?_, rfl⟩
    have : k.tell line = (x.Ask, x.Done, x.Told) := by
      unfold Co.tell geti
      rw [if_neg (by omega), hx]
      show (if line < 1 then _ else _) = _
      rw [if_neg h1]
    rw [this]
structure CoFit (k0 k1 k2 k3 k4 k5 : D) (k : Co) : Prop where
  n0 : k0 ≠ .zsl
  n1 : k1 ≠ .zsl
  n2 : k2 ≠ .zsl
  n3 : k3 ≠ .zsl
  n4 : k4 ≠ .zsl
  n5 : k5 ≠ .zsl
  b0 : 8 * k.Own.length ≤ 140737488355328
  b1 : 32 * k.Routes.length ≤ 140737488355328
  b2 : 16 * k.Points.length ≤ 140737488355328
  b3 : 16 * k.Xs.length ≤ 140737488355328
  b4 : 64 * k.Lines.length ≤ 140737488355328
  b5 : 8 * k.Resets.length ≤ 140737488355328
theorem own_other {σ0 s s' : Store} {el : TypeId} {d : D} {rs : List (List D)} {id : Nat} (h : Own Tryz.prog σ0 s el d rs) (hid : σ0 id = .free) (hd : idOf d ≠ some id) (hs : ∀ i, i ≠ id → s' i = s i) : Own Tryz.prog σ0 s' el d rs :=
  ⟨h.at_.same fun i a n e => hs i fun e2 => hd (by subst e; rw [← e2]; rfl), fun i hi => by
    have hne : i ≠ id := fun e => hi (by rw [e]; exact hid)
    rw [hs i hne]; exact h.ext i hi, h.new, h.nsl, h.nz⟩
abbrev deskRow (k0 k1 k2 k3 k4 k5 : D) (dirty : Bool) (c0 c1 c2 c3 c4 : D) (c : Cf) (v0 v1 v2 v3 : D) (now : Int) (was : Bool) : List D :=
  [k0, k1, k2, k3, k4, k5, .bool dirty, c0, c1, c2, c3, c4, iD c.Age, iD c.Brake, iD c.Hold, iD c.Budget, v0, v1, v2, v3, iD now, .bool was]
structure DeskAt (σ0 σ : Store) (id : Nat) (k0 k1 k2 k3 k4 k5 : D) (k : Co) (c0 c1 c2 c3 c4 : D) (c : Cf) (v0 v1 v2 v3 : D) (now : Int) (was : Bool) : Prop where
  new : σ0 id = .free
  row : σ id = .live t_block_desk [deskRow k0 k1 k2 k3 k4 k5 k.Dirty c0 c1 c2 c3 c4 c v0 v1 v2 v3 now was]
  co : CoOwn σ0 σ k0 k1 k2 k3 k4 k5 k
  ids : ∀ d ∈ [k0, k1, k2, k3, k4, k5], idOf d ≠ some id
  ext : Ext σ0 σ
theorem block_open_ok {c0 c1 c2 c3 c4 : D} {c : Cf} {k0 k1 k2 k3 k4 k5 : D} {k : Co} (h : CoAt σ k0 k1 k2 k3 k4 k5 k) (hf : CoFit k0 k1 k2 k3 k4 k5 k) (v0 v1 v2 v3 : D) (now : Int) :
    DCalls Tryz.prog n_block_open [cfA c0 c1 c2 c3 c4 c, coA k0 k1 k2 k3 k4 k5 k.Dirty, .agg [v0, v1, v2, v3], iA now] σ fun r s =>
      ∃ id d0 d1 d2 d3 d4 d5, r = .a (.one (.el (.osl id 0 1) 0 0)) ∧ DeskAt σ s id d0 d1 d2 d3 d4 d5 k c0 c1 c2 c3 c4 c v0 v1 v2 v3 now k.Dirty := by
  refine W_block_open _ _ _ _ _ _ _ _ _ k0 k1 k2 k3 k4 k5 k.Dirty v0 v1 v2 v3 now σ _ (newObj_intro fun id s1 hid _ he1 hs1 => ?_)
  have nid : ∀ {s0 s : Store} {el : TypeId} {d : D} {rs : List (List D)}, Own Tryz.prog s0 s el d rs → s0 id ≠ .free → idOf d ≠ some id := by
    intro s0 s el d rs ho hne he
    cases d with
    | osl i a n =>
      have : i = id := by simpa [idOf] using he
      subst this
      exact hne (ho.new _ _ _ rfl)
    | _ => simp [idOf] at he
  have h1 : s1 id ≠ .free := by rw [hs1]; intro e; cases e
  have kp : ∀ {s s' : Store}, Ext s s' → s id ≠ .free → s' id ≠ .free := fun he hn => by rw [he id hn]; exact hn
  refine (Clone_int_ok (h.own.ext he1) hf.n0 (by rw [List.length_map]; exact hf.b0)).mono ?_
  rintro r s2 ⟨d0, rfl, o0⟩
  have h2 := kp o0.ext h1
  have e2 := he1.trans o0.ext
  refine ⟨d0, rfl, (Clone_LineState_ok (h.lines.ext e2) hf.n4 (by rw [List.length_map]; exact hf.b4)).mono ?_⟩
  rintro r s3 ⟨d4, rfl, o4⟩
  have h3 := kp o4.ext h2
  have e3 := e2.trans o4.ext
  have i0 := nid o0 h1
  have i4 := nid o4 h2
  have r3 : s3 id = .live t_block_desk [deskRow k0 k1 k2 k3 k4 k5 k.Dirty c0 c1 c2 c3 c4 c v0 v1 v2 v3 now k.Dirty] := by
    rw [o4.ext id h2, o0.ext id h1, hs1]
  refine ⟨d4, rfl, cell_store r3 (by simp) fun s4 r4 f4 => cell_store r4 (by simp [patch]) fun s5 r5 f5 => ?_⟩
  have f45 : ∀ i, i ≠ id → s5 i = s3 i := fun i hi => (f5 i hi).trans (f4 i hi)
  have o0' := own_other ((o0.ext' o4.ext).from he1) hid i0 f45
  have o4' := own_other (o4.from e2) hid i4 f45
  have a40 : Apart d0 d4 := o4.apart o0.at_
  have h5 : s5 id ≠ .free := by rw [r5]; intro e; cases e
  have e5 : Ext σ s5 := o0'.ext
  refine (Clone_RouteState_ok (h.routes.ext e5) hf.n1 (by rw [List.length_map]; exact hf.b1)).mono ?_
  rintro r s6 ⟨d1, rfl, o1⟩
  have h6 := kp o1.ext h5
  have e6 := e5.trans o1.ext
  refine ⟨d1, rfl, (Clone_Mover_ok (h.points.ext e6) hf.n2 (by rw [List.length_map]; exact hf.b2)).mono ?_⟩
  rintro r s7 ⟨d2, rfl, o2⟩
  have h7 := kp o2.ext h6
  have e7 := e6.trans o2.ext
  refine ⟨d2, rfl, (Clone_Mover_ok (h.xs.ext e7) hf.n3 (by rw [List.length_map]; exact hf.b3)).mono ?_⟩
  rintro r s8 ⟨d3, rfl, o3⟩
  have h8 := kp o3.ext h7
  have e8 := e7.trans o3.ext
  refine ⟨d3, rfl, (Clone_int_ok (h.resets.ext e8) hf.n5 (by rw [List.length_map]; exact hf.b5)).mono ?_⟩
  rintro r s9 ⟨d5, rfl, o5⟩
  have r9 : s9 id = .live t_block_desk [patch (patch (deskRow k0 k1 k2 k3 k4 k5 k.Dirty c0 c1 c2 c3 c4 c v0 v1 v2 v3 now k.Dirty) 0 [d0]) 4 [d4]] := by
    rw [o5.ext id h8, o3.ext id h7, o2.ext id h6, o1.ext id h5, r5]
  refine ⟨d5, rfl, cell_store r9 (by simp [patch]) fun t1 q1 g1 => cell_store q1 (by simp [patch]) fun t2 q2 g2 => cell_store q2 (by simp [patch]) fun t3 q3 g3 => cell_store q3 (by simp [patch]) fun t4 q4 g4 => ?_⟩
  have g : ∀ i, i ≠ id → t4 i = s9 i := fun i hi => (g4 i hi).trans ((g3 i hi).trans ((g2 i hi).trans (g1 i hi)))
  have p0 := own_other ((((o0'.ext' o1.ext).ext' o2.ext).ext' o3.ext).ext' o5.ext) hid i0 g
  have p4 := own_other ((((o4'.ext' o1.ext).ext' o2.ext).ext' o3.ext).ext' o5.ext) hid i4 g
  have i1 := nid o1 h5
  have i2 := nid o2 h6
  have i3 := nid o3 h7
  have i5 := nid o5 h8
  have p1 := own_other ((((o1.from e5).ext' o2.ext).ext' o3.ext).ext' o5.ext) hid i1 g
  have p2 := own_other (((o2.from e6).ext' o3.ext).ext' o5.ext) hid i2 g
  have p3 := own_other ((o3.from e7).ext' o5.ext) hid i3 g
  have p5 := own_other (o5.from e8) hid i5 g
  refine ⟨id, d0, d1, d2, d3, d4, d5, rfl, hid, q4, ⟨p0, p1, p2, p3, p4, p5, ?_⟩, ?_, p0.ext⟩
  · have w6 := o0'.at_.ext o1.ext
    have w7 := w6.ext o2.ext
    have w8 := w7.ext o3.ext
    have u6 := o4'.at_.ext o1.ext
    have u7 := u6.ext o2.ext
    have u8 := u7.ext o3.ext
    have x7 := o1.at_.ext o2.ext
    have x8 := x7.ext o3.ext
    have y8 := o2.at_.ext o3.ext
    simp only [List.pairwise_cons, List.mem_cons, List.not_mem_nil, or_false, forall_eq_or_imp, forall_eq, List.Pairwise.nil, and_true, false_imp_iff, implies_true]
    exact ⟨⟨o1.apart o0'.at_, o2.apart w6, o3.apart w7, a40, o5.apart w8⟩, ⟨o2.apart o1.at_, o3.apart x7, (o1.apart o4'.at_).symm, o5.apart x8⟩, ⟨o3.apart o2.at_, (o2.apart u6).symm, o5.apart y8⟩, ⟨(o3.apart u7).symm, o5.apart o3.at_⟩, o5.apart u8⟩
  · intro d hd
    simp only [List.mem_cons, List.not_mem_nil, or_false] at hd
    rcases hd with rfl | rfl | rfl | rfl | rfl | rfl <;> assumption
end Go.Proofs.YtcbmibgfmlpobaaGreat
end
section
namespace Go.Fw
def zLs : Ls := ⟨0, 0, 0, 0, 0, 0, 0, 0⟩
def backStep (occ : List Lk) (now : Int) (k : Co) (l s : Nat) : Co :=
  let x := (k.Lines[l]?).getD zLs
  let look := (occ[s]?).getD ⟨0, 0, false⟩
  if x.PDone < x.Grant then { k with Lines := k.Lines.set l { x with Since := 0 } }
  else if x.Since = 0 then { k with Lines := k.Lines.set l { x with Since := w64 (now + 1) } }
  else if look.Valid = true ∧ look.Value = 0 ∧ x.Since ≤ look.Stamp then { k with Own := k.Own.set s 0, Dirty := true, Lines := k.Lines.set l { x with Since := 0 } }
  else k
def apprL (c : Cf) (s : Int) : List Rs → Nat → Bool
  | [], _ => false
  | r :: l, j => (decide (r.State ≠ 0) && decide (c.Approach j = s)) || apprL c s l (j + 1)
def mayOk (c : Cf) (k : Co) (x : Ls) (s : Int) : Bool :=
  !(apprL c s k.Routes 0) && (decide (x.PAsk > (if x.PDone > x.Grant then x.PDone else x.Grant)) && decide (x.Ask = x.Done))
def lineStep (c : Cf) (occ : List Lk) (now : Int) (was : Bool) (k : Co) (l s : Nat) : Co :=
  let x := (k.Lines[l]?).getD zLs
  let o := (k.Own[s]?).getD 0
  let k' := if o = -2 then backStep occ now k l s
    else if o = 0 ∧ mayOk c k x s = true then { k with Own := k.Own.set s (-2), Dirty := true, Lines := k.Lines.set l { x with Grant := x.PAsk, Since := 0 } }
    else k
  if was = true then k' else { k' with Lines := k'.Lines.set l { (k'.Lines[l]?).getD zLs with Told := x.Grant } }
theorem map_set {α β : Type} (f : α → β) (l : List α) (i : Nat) (x : α) : (l.map f).set i (f x) = (l.set i x).map f := by simp
end Go.Fw
end
section
set_option linter.unusedVariables false
set_option linter.unusedSimpArgs false
namespace Go.Proofs.YtcbmibgfmlpobaaGreat
open Go.Fw Go.Proofs Go.RowKit
variable {σ : Store}
section
variable {σ0 : Store} {id : Nat} {d0 d1 d2 d3 d4 d5 c0 c1 c2 c3 c4 v0 v1 v2 v3 : D} {k : Co} {c : Cf} {now : Int} {was : Bool}
theorem own_id {s : Store} {el : TypeId} {d : D} {rs : List (List D)} {i : Nat} (h : Own Tryz.prog σ0 s el d rs) (hi : idOf d = some i) : σ0 i = .free := by
  cases d with
  | osl j a n =>
    have : j = i := by simpa [idOf] using hi
    subst this
    exact h.new _ _ _ rfl
  | _ => simp [idOf] at hi
theorem pw {l : List D} (h : l.Pairwise Apart) {i j : Nat} {a b : D} (hi : l[i]? = some a) (hj : l[j]? = some b) (hne : i ≠ j) : Apart a b := by
  obtain ⟨h1, rfl⟩ := List.getElem?_eq_some_iff.1 hi
  obtain ⟨h2, rfl⟩ := List.getElem?_eq_some_iff.1 hj
  rw [List.pairwise_iff_getElem] at h
  rcases Nat.lt_or_gt_of_ne hne with g | g
  · exact h i j h1 h2 g
  · exact (h j i h2 h1 g).symm
theorem desk_own (h : DeskAt σ0 σ id d0 d1 d2 d3 d4 d5 k c0 c1 c2 c3 c4 c v0 v1 v2 v3 now was) {j n : Nat} {o w : Int} (hj : k.Own[j]? = some o) (hn : n = j) {K : Store → Prop}
    (hK : ∀ s', DeskAt σ0 s' id d0 d1 d2 d3 d4 d5 { k with Own := k.Own.set j w } c0 c1 c2 c3 c4 c v0 v1 v2 v3 now was → K s') : storeEl [iD w] σ d0 n 0 K := by
  refine h.co.own.at_.store h.co.own.nsl (map_get hj) hn (by simp [Go.Fw.encI]) fun s' i hi hat hs hne => hK s' ?_
  have hf := own_id h.co.own hi
  have ap : ∀ {m : Nat} {d : D}, [d0, d1, d2, d3, d4, d5][m]? = some d → m ≠ 0 → idOf d ≠ some i := fun hm hne0 => pw h.co.apart (i := 0) rfl hm (Ne.symm hne0) i hi
  have hii : i ≠ id := fun e => h.ids d0 (by simp) (by rw [hi, e])
  refine ⟨h.new, by rw [hs id (Ne.symm hii)]; exact h.row, ⟨⟨?_, ?_, h.co.own.new, h.co.own.nsl, h.co.own.nz⟩, own_other h.co.routes hf (ap (m := 1) rfl (by omega)) hs, own_other h.co.points hf (ap (m := 2) rfl (by omega)) hs, own_other h.co.xs hf (ap (m := 3) rfl (by omega)) hs, own_other h.co.lines hf (ap (m := 4) rfl (by omega)) hs, own_other h.co.resets hf (ap (m := 5) rfl (by omega)) hs, h.co.apart⟩, h.ids, ?_⟩
  · have e : (List.map Go.Fw.encI k.Own).set j (patch (Go.Fw.encI o) 0 [iD w]) = (k.Own.set j w).map Go.Fw.encI := map_set Go.Fw.encI k.Own j w
    rw [e] at hat; exact hat
  all_goals
    intro i' hi'
    have hne' : i' ≠ i := fun e => hi' (by rw [e]; exact hf)
    rw [hs i' hne']; exact h.ext i' hi'
theorem desk_line (h : DeskAt σ0 σ id d0 d1 d2 d3 d4 d5 k c0 c1 c2 c3 c4 c v0 v1 v2 v3 now was) {j n off : Nat} {x y : Ls} {ys : List D} (hj : k.Lines[j]? = some x) (hn : n = j) (ho : off + ys.length ≤ 8) (hp : patch x.enc off ys = y.enc) {K : Store → Prop}
    (hK : ∀ s', DeskAt σ0 s' id d0 d1 d2 d3 d4 d5 { k with Lines := k.Lines.set j y } c0 c1 c2 c3 c4 c v0 v1 v2 v3 now was → K s') : storeEl ys σ d4 n off K := by
  refine h.co.lines.at_.store h.co.lines.nsl (map_get hj) hn ho fun s' i hi hat hs hne => hK s' ?_
  have hf := own_id h.co.lines hi
  have ap : ∀ {m : Nat} {d : D}, [d0, d1, d2, d3, d4, d5][m]? = some d → m ≠ 4 → idOf d ≠ some i := fun hm hne0 => pw h.co.apart (i := 4) rfl hm (Ne.symm hne0) i hi
  have hii : i ≠ id := fun e => h.ids d4 (by simp) (by rw [hi, e])
  refine ⟨h.new, by rw [hs id (Ne.symm hii)]; exact h.row, ⟨own_other h.co.own hf (ap (m := 0) rfl (by omega)) hs, own_other h.co.routes hf (ap (m := 1) rfl (by omega)) hs, own_other h.co.points hf (ap (m := 2) rfl (by omega)) hs, own_other h.co.xs hf (ap (m := 3) rfl (by omega)) hs, ⟨?_, ?_, h.co.lines.new, h.co.lines.nsl, h.co.lines.nz⟩, own_other h.co.resets hf (ap (m := 5) rfl (by omega)) hs, h.co.apart⟩, h.ids, ?_⟩
  · rw [hp, map_set Ls.enc k.Lines j y] at hat; exact hat
  all_goals
    intro i' hi'
    have hne' : i' ≠ i := fun e => hi' (by rw [e]; exact hf)
    rw [hs i' hne']; exact h.ext i' hi'
theorem desk_dirty (h : DeskAt σ0 σ id d0 d1 d2 d3 d4 d5 k c0 c1 c2 c3 c4 c v0 v1 v2 v3 now was) {K : Store → Prop}
    (hK : ∀ s', DeskAt σ0 s' id d0 d1 d2 d3 d4 d5 { k with Dirty := true } c0 c1 c2 c3 c4 c v0 v1 v2 v3 now was → K s') : storeEl [.bool true] σ (.osl id 0 1) 0 6 K := by
  refine cell_store h.row (by simp) fun s' r' hs => hK s' ?_
  have nt : ∀ {d : D}, d ∈ [d0, d1, d2, d3, d4, d5] → idOf d ≠ some id := fun hd => h.ids _ hd
  refine ⟨h.new, r', ⟨own_other h.co.own h.new (nt (by simp)) hs, own_other h.co.routes h.new (nt (by simp)) hs, own_other h.co.points h.new (nt (by simp)) hs, own_other h.co.xs h.new (nt (by simp)) hs, own_other h.co.lines h.new (nt (by simp)) hs, own_other h.co.resets h.new (nt (by simp)) hs, h.co.apart⟩, h.ids, ?_⟩
  intro i' hi'
  have hne' : i' ≠ id := fun e => hi' (by rw [e]; exact h.new)
  rw [hs i' hne']; exact h.ext i' hi'
abbrev dp (id : Nat) : D := .el (.osl id 0 1) 0 0
theorem desk_own_ok (h : DeskAt σ0 σ id d0 d1 d2 d3 d4 d5 k c0 c1 c2 c3 c4 c v0 v1 v2 v3 now was) {j : Nat} {o w : Int} (hj : k.Own[j]? = some o) :
    DCalls Tryz.prog n_block_desk_own [.one (dp id), iA j, iA w] σ fun r s => r = .tup [] ∧ DeskAt σ0 s id d0 d1 d2 d3 d4 d5 { k with Own := k.Own.set j w, Dirty := true } c0 c1 c2 c3 c4 c v0 v1 v2 v3 now was := by
  have hlt := (List.getElem?_eq_some_iff.1 hj).1
  refine W_block_desk_own (dp id) j w σ _ ⟨trivial, _, _, _, rfl, _, box_row h.row, d0, rfl, h.co.own.at_.idxK c_int rfl (by rw [List.length_map]; omega) (desk_own h hj (by omega) fun s1 h1 => ⟨trivial, _, _, _, rfl, desk_dirty h1 fun s2 h2 => ⟨rfl, h2⟩⟩)⟩
end
end Go.Proofs.YtcbmibgfmlpobaaGreat
end
section
set_option linter.unusedVariables false
set_option linter.unusedSimpArgs false
namespace Go.Proofs.YtcbmibgfmlpobaaGreat
open Go.Fw Go.Proofs Go.RowKit
variable {σ : Store}
section
variable {σ0 : Store} {id : Nat} {d0 d1 d2 d3 d4 d5 c0 c1 c2 c3 c4 v0 v1 v2 v3 : D} {k : Co} {c : Cf} {now : Int} {was : Bool} {occ : List Lk}
theorem lines_set_set {l : List Ls} {j : Nat} (a b : Ls) : (l.set j a).set j b = l.set j b := List.set_set ..
theorem desk_back_ok (h : DeskAt σ0 σ id d0 d1 d2 d3 d4 d5 k c0 c1 c2 c3 c4 c v0 v1 v2 v3 now was) (hv : ∀ s, At Tryz.prog s t_Look v0 (occ.map Lk.enc)) {line s : Nat} {x : Ls} {o : Int} {lk : Lk}
    (hx : k.Lines[line]? = some x) (ho : k.Own[s]? = some o) (hl : occ[s]? = some lk) :
    DCalls Tryz.prog n_block_desk_back [.one (dp id), .one (.el d4 line 0), iA s] σ fun r s' => r = .tup [] ∧ DeskAt σ0 s' id d0 d1 d2 d3 d4 d5 (backStep occ now k line s) c0 c1 c2 c3 c4 c v0 v1 v2 v3 now was := by
  have lrow : Row σ d4 line x.enc := h.co.lines.at_.row (map_get hx)
  have hb : backStep occ now k line s = if x.PDone < x.Grant then { k with Lines := k.Lines.set line { x with Since := 0 } }
      else if x.Since = 0 then { k with Lines := k.Lines.set line { x with Since := w64 (now + 1) } }
      else if lk.Valid = true ∧ lk.Value = 0 ∧ x.Since ≤ lk.Stamp then { k with Own := k.Own.set s 0, Dirty := true, Lines := k.Lines.set line { x with Since := 0 } }
      else k := by
    unfold backStep; rw [hx, hl]; rfl
  refine W_block_desk_back (dp id) (.el d4 line 0) s σ _ ⟨trivial, _, _, _, rfl, _, box_row h.row, v0, rfl, (hv σ).load (map_get hl) c_Look rfl ⟨lk.Value, lk.Stamp, lk.Valid, rfl, trivial, _, _, _, rfl, _, lrow, x.PDone, rfl, trivial, _, _, _, rfl, _, lrow, x.Grant, rfl, ?_⟩⟩
  refine bcd (fun h1 => ⟨trivial, _, _, _, rfl, desk_line h hx rfl (by simp) (y := { x with Since := 0 }) rfl fun s' h' => ⟨rfl, by rw [hb, if_pos h1]; exact h'⟩⟩) (fun h1 => ⟨trivial, _, _, _, rfl, _, lrow, x.Since, rfl, ?_⟩)
  rw [if_neg h1] at hb
  refine bce (fun h2 => ⟨trivial, _, _, _, rfl, _, box_row h.row, now, rfl, trivial, _, _, _, rfl, desk_line h hx rfl (by simp) (y := { x with Since := w64 (now + 1) }) rfl fun s' h' => ⟨rfl, by rw [hb, if_pos h2]; exact h'⟩⟩) (fun h2 => ?_)
  rw [if_neg h2] at hb
  have no : ¬ (lk.Valid = true ∧ lk.Value = 0 ∧ x.Since ≤ lk.Stamp) → (RV.tup [] = .tup [] ∧ DeskAt σ0 σ id d0 d1 d2 d3 d4 d5 (backStep occ now k line s) c0 c1 c2 c3 c4 c v0 v1 v2 v3 now was) := fun hn => ⟨rfl, by rw [hb, if_neg hn]; exact h⟩
  refine bc (fun h3 => bce (fun h4 => ⟨trivial, _, _, _, rfl, _, lrow, x.Since, rfl, bcd (fun h5 => ?_) (fun h5 => no fun g => h5 g.2.2)⟩) (fun h4 => no fun g => h4 g.2.1)) (fun h3 => no fun g => by rw [g.1] at h3; cases h3)
  refine (desk_own_ok h (w := 0) ho).mono ?_
  rintro r s' ⟨rfl, h'⟩
  refine ⟨rfl, trivial, _, _, _, rfl, desk_line h' (x := x) hx rfl (by simp) (y := { x with Since := 0 }) rfl fun s'' h'' => ⟨rfl, ?_⟩⟩
  rw [hb, if_pos ⟨h3, h4, h5⟩]; exact h''
theorem desk_may_ok (h : DeskAt σ0 σ id d0 d1 d2 d3 d4 d5 k c0 c1 c2 c3 c4 c v0 v1 v2 v3 now was) (hc : ∀ s, CfAt s c0 c1 c2 c3 c4 c) {line : Nat} {x : Ls} (s : Int) (hx : k.Lines[line]? = some x) :
    Pure Tryz.prog n_block_desk_may [.one (dp id), .one (.el d4 line 0), iA s] σ (.a (bA (mayOk c k x s))) := by
  have lrow : Row σ d4 line x.enc := h.co.lines.at_.row (map_get hx)
  have hl := h.co.routes.at_.size
  rw [List.length_map] at hl
  refine W_block_desk_may (dp id) (.el d4 line 0) s σ _ ⟨trivial, _, _, _, rfl, _, box_row h.row, d1, rfl, h.co.routes.at_.lenK ⟨fun n τ => τ = σ ∧ Rng k.Routes (fun r => apprL c s r n.toNat = apprL c s k.Routes 0) n, fun n _ => k.Routes.length - n.toNat, ⟨rfl, .start rfl⟩, ?_⟩⟩
  rintro n τ ⟨rfl, hr⟩
  refine bcd (fun hlt => ?_) (fun hge => ?_)
  · obtain ⟨j, y, rfl, hy, hj, hF, nx⟩ := hr.step (by simp) hl hlt
    rw [apprL, Int.toNat_natCast] at hF
    have hw : w64 ((j : Int) + 1) = ((j + 1 : Nat) : Int) := w64_succ (by omega)
    have go : (decide (y.State ≠ 0) && decide (c.Approach j = s)) = false → (τ = τ ∧ Rng k.Routes (fun r => apprL c s r (w64 ((j : Int) + 1)).toNat = apprL c s k.Routes 0) (w64 ((j : Int) + 1))) ∧ k.Routes.length - (w64 ((j : Int) + 1)).toNat < k.Routes.length - (j : Int).toNat := by
      intro hn
      rw [hn, Bool.false_or] at hF
      refine andl rfl (nx (fun r => apprL c s r (w64 ((j : Int) + 1)).toNat = apprL c s k.Routes 0) ?_)
      rw [hw]; exact hF
    refine h.co.routes.at_.load (map_get hy) c_RouteState rfl ⟨y.State, y.Since, y.Next, y.Mark, rfl, bcn (fun h1 => ⟨trivial, _, _, _, rfl, _, box_row h.row, c0, c1, c2, c3, c4, c.Age, c.Brake, c.Hold, c.Budget, rfl, (conf_Approach_ok (hc τ) j).use ⟨_, rfl, bce (fun h2 => ⟨?_, rfl⟩) (fun h2 => go (by simp [h2]))⟩⟩) (fun h1 => go (by simp [h1]))⟩
    have e : (decide (y.State ≠ 0) && decide (c.Approach j = s)) = true := by simp [h1, h2]
    rw [e, Bool.true_or] at hF
    rw [mayOk, ← hF]; rfl
  · have hF : false = apprL c s k.Routes 0 := hr.done (by simp) hge
    refine ⟨trivial, _, _, _, rfl, _, lrow, x.PAsk, rfl, trivial, _, _, _, rfl, _, lrow, x.Grant, rfl, trivial, _, _, _, rfl, _, lrow, x.PDone, rfl, bc (fun h1 => ⟨trivial, _, _, _, rfl, _, lrow, x.Ask, rfl, trivial, _, _, _, rfl, _, lrow, x.Done, rfl, ?_, rfl⟩) (fun h1 => ⟨?_, rfl⟩)⟩
    · rw [mayOk, ← hF, h1]
      congr 4
    · rw [mayOk, ← hF, h1]; rfl
theorem backStep_keeps (occ : List Lk) (now : Int) (k : Co) (l s : Nat) {x : Ls} (hx : k.Lines[l]? = some x) : ∃ y, (backStep occ now k l s).Lines[l]? = some y := by
  have hlt := (List.getElem?_eq_some_iff.1 hx).1
  have key : ∀ y : Ls, (k.Lines.set l y)[l]? = some y := fun y => by rw [List.getElem?_set_self hlt]
  unfold backStep
  simp only
  split
  · exact ⟨_, key _⟩
  split
  · exact ⟨_, key _⟩
  split
  · exact ⟨_, key _⟩
  · exact ⟨x, hx⟩
theorem desk_line_ok (h : DeskAt σ0 σ id d0 d1 d2 d3 d4 d5 k c0 c1 c2 c3 c4 c v0 v1 v2 v3 now was) (hc : ∀ s, CfAt s c0 c1 c2 c3 c4 c) (hv : ∀ s, At Tryz.prog s t_Look v0 (occ.map Lk.enc)) {line s : Nat} {x : Ls} {o : Int} {lk : Lk}
    (hx : k.Lines[line]? = some x) (ho : k.Own[s]? = some o) (hl : occ[s]? = some lk) :
    DCalls Tryz.prog n_block_desk_line [.one (dp id), .one (.el d4 line 0), iA s] σ fun r s' => r = .tup [] ∧ DeskAt σ0 s' id d0 d1 d2 d3 d4 d5 (lineStep c occ now was k line s) c0 c1 c2 c3 c4 c v0 v1 v2 v3 now was := by
  have lrow : Row σ d4 line x.enc := h.co.lines.at_.row (map_get hx)
  refine W_block_desk_line (dp id) (.el d4 line 0) s σ _ ⟨trivial, _, _, _, rfl, _, lrow, x.Grant, rfl, fun R hR => ?_⟩
  have fin : ∀ (k' : Co) (y : Ls) (s' : Store), k'.Lines[line]? = some y → DeskAt σ0 s' id d0 d1 d2 d3 d4 d5 k' c0 c1 c2 c3 c4 c v0 v1 v2 v3 now was →
      (if o = -2 then backStep occ now k line s else if o = 0 ∧ mayOk c k x s = true then { k with Own := k.Own.set s (-2), Dirty := true, Lines := k.Lines.set line { x with Grant := x.PAsk, Since := 0 } } else k) = k' → R s' := by
    intro k' y s' hy h' he
    have hstep : lineStep c occ now was k line s = if was = true then k' else { k' with Lines := k'.Lines.set line { y with Told := x.Grant } } := by
      unfold lineStep
      rw [hx, ho]
      simp only [Option.getD_some]
      rw [he, hy]
      rfl
    refine hR s' ⟨trivial, _, _, _, rfl, _, box_row h'.row, was, rfl, bcnot (fun hw => ⟨trivial, _, _, _, rfl, desk_line h' hy rfl (by simp) (y := { y with Told := x.Grant }) rfl fun s'' h'' => ⟨rfl, ?_⟩⟩) (fun hw => ⟨rfl, ?_⟩)⟩
    · rw [hstep, if_neg (by rw [hw]; simp)]; exact h''
    · rw [hstep, if_pos hw]; exact h'
  have hlt := (List.getElem?_eq_some_iff.1 hx).1
  refine ⟨trivial, _, _, _, rfl, _, box_row h.row, d0, rfl, h.co.own.at_.load (map_get ho) c_int rfl ⟨o, rfl, bce (fun h1 => ?_) (fun h1 => ⟨trivial, _, _, _, rfl, _, box_row h.row, d0, rfl, h.co.own.at_.load (map_get ho) c_int rfl ⟨o, rfl, bce (fun h2 => ?_) (fun h2 => ?_)⟩⟩)⟩⟩
  · refine (desk_back_ok h hv hx ho hl).mono ?_
    rintro r s' ⟨rfl, h'⟩
    obtain ⟨y, hy⟩ := backStep_keeps occ now k line s hx
    exact ⟨rfl, fin _ y s' hy h' (by rw [if_pos h1])⟩
  · refine (desk_may_ok h hc s hx).use ⟨_, rfl, bc (fun h3 => ?_) (fun h3 => fin k x σ hx h (by rw [if_neg h1, if_neg (by rw [h3]; simp)]))⟩
    refine (desk_own_ok h (w := -2) ho).mono ?_
    rintro r s1 ⟨rfl, g1⟩
    have lrow1 : Row s1 d4 line x.enc := g1.co.lines.at_.row (map_get hx)
    refine ⟨rfl, trivial, _, _, _, rfl, _, lrow1, x.PAsk, rfl, trivial, _, _, _, rfl, desk_line g1 (x := x) hx rfl (by simp) (y := { x with Grant := x.PAsk }) rfl fun s2 g2 => ⟨trivial, _, _, _, rfl, ?_⟩⟩
    refine desk_line g2 (x := { x with Grant := x.PAsk }) (List.getElem?_set_self hlt) rfl (by simp) (y := { x with Grant := x.PAsk, Since := 0 }) rfl fun s3 g3 => ?_
    refine fin _ { x with Grant := x.PAsk, Since := 0 } s3 (by rw [lines_set_set]; exact List.getElem?_set_self hlt) g3 ?_
    rw [if_neg h1, if_pos ⟨h2, h3⟩, lines_set_set]
  · exact fin k x σ hx h (by rw [if_neg h1, if_neg (fun g => h2 g.1)])
end
end Go.Proofs.YtcbmibgfmlpobaaGreat
end
section
namespace Go.Fw
structure Vw where
  Occ : List Lk
  Pos : List Lk
  Shut : List Lk
  Lamp : List Lk
def Vw.fits (c : Cf) (v : Vw) : Bool := decide (v.Occ.length = c.Secs.length ∧ v.Pos.length = c.Secs.length ∧ v.Shut.length = c.Xs.length ∧ v.Lamp.length = c.Sigs.length)
def stepRun (c : Cf) (occ : List Lk) (now : Int) (was : Bool) : List Nat → Co → Co
  | [], k => k
  | l :: r, k => stepRun c occ now was r (if 0 ≤ c.lineSec l then lineStep c occ now was k l (c.lineSec l).toNat else k)
def Co.stepC (c : Cf) (k : Co) (v : Vw) (now : Int) : Co × Int :=
  if k.fits c = false ∨ v.fits c = false then (k, 21) else if now < 0 ∨ now > 4294967295 then (k, 32) else (stepRun c v.Occ now k.Dirty [1, 2, 3] k, 0)
def Co.hearC (c : Cf) (k : Co) (line a d g : Int) : Co × Int :=
  if k.fits c = false then (k, 21) else if c.lineSec line < 0 then (k, 20)
  else if a < 0 ∨ d < 0 ∨ g < 0 ∨ a > 4294967295 ∨ d > 4294967295 ∨ g > 4294967295 then (k, 32)
  else ({ k with Lines := k.Lines.set line.toNat { (k.Lines[line.toNat]?).getD zLs with PAsk := a, PDone := d, PGrant := g } }, 0)
theorem lineStep_len (c : Cf) (occ : List Lk) (now : Int) (was : Bool) (k : Co) (l s : Nat) : (lineStep c occ now was k l s).Own.length = k.Own.length ∧ (lineStep c occ now was k l s).Lines.length = k.Lines.length := by
  have hb : (backStep occ now k l s).Own.length = k.Own.length ∧ (backStep occ now k l s).Lines.length = k.Lines.length := by
    unfold backStep
    simp only
    split
    · simp
    split
    · simp
    split <;> simp
  unfold lineStep
  simp only
  split
  · split
    · exact hb
    split <;> simp
  · split
    · simpa using hb
    split <;> simp
theorem fidx_get {α : Type} (p : α → Bool) : ∀ (l : List α) (j : Nat), fidx p l j ≠ -1 → ∃ (i : Nat) (x : α), l[i]? = some x ∧ p x = true
  | [], j, h => absurd rfl h
  | x :: r, j, h => by
    rw [fidx] at h
    by_cases hp : p x = true
    · exact ⟨0, x, rfl, hp⟩
    · rw [if_neg hp] at h
      obtain ⟨i, y, h1, h2⟩ := fidx_get p r (j + 1) h
      exact ⟨i + 1, y, by simpa using h1, h2⟩
theorem topo_line {secs : List Sec} {js : List Jt} (h : topoOk secs js = true) {i : Nat} {s : Sec} (hs : secs[i]? = some s) : 0 ≤ s.Line ∧ s.Line ≤ 3 := by
  unfold topoOk at h
  rw [Bool.and_eq_true] at h
  have h2 := h.2
  split at h2
  · cases h2
  · exact ((srun_iff _ _ _ _).1 h2 i s hs).2.2.1
theorem fits_line {c : Cf} {k : Co} (h : k.fits c = true) {line : Int} (hl : ¬ c.lineSec line < 0) : 1 ≤ line ∧ line ≤ 3 := by
  simp only [Co.fits, Bool.and_eq_true, decide_eq_true_eq] at h
  have ht := (check_small h.1).1
  unfold Cf.lineSec at hl
  split at hl
  · omega
  · obtain ⟨i, x, h1, h2⟩ := fidx_get (fun s : Sec => s.Line == line) c.Secs 0 (by omega)
    have := topo_line ht h1
    have e : x.Line = line := by simpa using h2
    omega
end Go.Fw
end
section
set_option linter.unusedVariables false
set_option linter.unusedSimpArgs false
namespace Go.Proofs.YtcbmibgfmlpobaaGreat
open Go.Fw Go.Proofs Go.RowKit
variable {σ : Store}
structure VwAt (v0 v1 v2 v3 : D) (v : Vw) : Prop where
  occ : ∀ s, At Tryz.prog s t_Look v0 (v.Occ.map Lk.enc)
  pos : ∀ s, At Tryz.prog s t_Look v1 (v.Pos.map Lk.enc)
  shut : ∀ s, At Tryz.prog s t_Look v2 (v.Shut.map Lk.enc)
  lamp : ∀ s, At Tryz.prog s t_Look v3 (v.Lamp.map Lk.enc)
def CoPost (σ : Store) (p : Co × Int) (r : RV) (s : Store) : Prop :=
  ∃ d0 d1 d2 d3 d4 d5, r = .tup [coA d0 d1 d2 d3 d4 d5 p.1.Dirty, iA p.2] ∧ CoOwn σ s d0 d1 d2 d3 d4 d5 p.1
section
variable {c0 c1 c2 c3 c4 v0 v1 v2 v3 k0 k1 k2 k3 k4 k5 : D} {c : Cf} {k : Co} {v : Vw}
theorem open_err (h : CoAt σ k0 k1 k2 k3 k4 k5 k) (hf : CoFit k0 k1 k2 k3 k4 k5 k) (v0 v1 v2 v3 : D) (now : Int) (e : Int) {Q : RV → Store → Prop} (hQ : ∀ r s, CoPost σ (k, e) r s → Q r s) :
    DCalls Tryz.prog n_block_open [cfA c0 c1 c2 c3 c4 c, coA k0 k1 k2 k3 k4 k5 k.Dirty, .agg [v0, v1, v2, v3], iA now] σ fun r1 s1 => ∃ d : D, r1 = .a (.one d) ∧ NotNil d ∧ ∃ s : D, ∃ i off : Nat, d = .el s i off ∧ ∃ row : List D, Row s1 s i row ∧
      ∃ d1 d2 d3 d4 d5 d6 : D, ∃ b3 : Bool, List.take 7 (List.drop (off + 0) row) = [d1, d2, d3, d4, d5, d6, .bool b3] ∧ Q (.tup [.agg [d1, d2, d3, d4, d5, d6, .bool b3], .one (.int .i64 e)]) s1 := by
  refine (block_open_ok h hf v0 v1 v2 v3 now).mono ?_
  rintro r s ⟨id, d0, d1, d2, d3, d4, d5, rfl, hd⟩
  exact ⟨_, rfl, trivial, _, _, _, rfl, _, box_row hd.row, d0, d1, d2, d3, d4, d5, k.Dirty, rfl, hQ _ _ ⟨d0, d1, d2, d3, d4, d5, rfl, hd.co⟩⟩
theorem block_Step_ok (hc : ∀ s, CfAt s c0 c1 c2 c3 c4 c) (h : CoAt σ k0 k1 k2 k3 k4 k5 k) (hf : CoFit k0 k1 k2 k3 k4 k5 k) (hv : VwAt v0 v1 v2 v3 v) (now : Int) :
    DCalls Tryz.prog n_block_Step [cfA c0 c1 c2 c3 c4 c, coA k0 k1 k2 k3 k4 k5 k.Dirty, .agg [v0, v1, v2, v3], iA now] σ (CoPost σ (k.stepC c v now)) := by
  refine W_block_Step _ _ _ _ _ _ _ _ _ k0 k1 k2 k3 k4 k5 k.Dirty v0 v1 v2 v3 now σ _ ?_
  intro R hR R1 hR1
  have bad : (k.fits c = false ∨ v.fits c = false) → R1 true σ := fun hb => hR1 true σ (open_err h hf _ _ _ _ _ 21 fun r s hp => by
    have : k.stepC c v now = (k, 21) := by rw [Co.stepC, if_pos hb]
    rw [this]; exact hp)
  have vf : ∀ q : Prop, ¬ (v.Occ.length = c.Secs.length ∧ v.Pos.length = c.Secs.length ∧ v.Shut.length = c.Xs.length ∧ v.Lamp.length = c.Sigs.length) → v.fits c = false := fun q hn => decide_eq_false hn
  refine (locks_Fits_ok hc h).use ⟨_, rfl, bcnot (fun e => ⟨rfl, bad (.inl e)⟩) (fun e1 => ?_)⟩
  refine (hv.occ σ).lenK ((hc σ).secs.lenK (bcn (fun e => ⟨rfl, bad (.inr (vf True fun g => e (by simp only [List.length_map]; omega)))⟩) (fun e2 => ?_)))
  refine (hv.pos σ).lenK ((hc σ).secs.lenK (bcn (fun e => ⟨rfl, bad (.inr (vf True fun g => e (by simp only [List.length_map]; omega)))⟩) (fun e3 => ?_)))
  refine (hv.shut σ).lenK ((hc σ).xs.lenK (bcn (fun e => ⟨rfl, bad (.inr (vf True fun g => e (by simp only [List.length_map]; omega)))⟩) (fun e4 => ?_)))
  refine (hv.lamp σ).lenK ((hc σ).sigs.lenK ⟨rfl, ?_⟩)
  simp only [List.length_map] at e2 e3 e4 ⊢
  by_cases e5 : (v.Lamp.length : Int) = (c.Sigs.length : Int)
  rotate_left
  · have : ((v.Lamp.length : Int) != (c.Sigs.length : Int)) = true := by simpa using e5
    rw [this]; exact bad (.inr (vf True fun g => e5 (by omega)))
  have hb : ((v.Lamp.length : Int) != (c.Sigs.length : Int)) = false := by simpa using e5
  rw [hb]
  have hvf : v.fits c = true := decide_eq_true ⟨by omega, by omega, by omega, by omega⟩
  have hst : k.stepC c v now = if now < 0 ∨ now > 4294967295 then (k, 32) else (stepRun c v.Occ now k.Dirty [1, 2, 3] k, 0) := by
    rw [Co.stepC, if_neg (by rw [e1, hvf]; simp)]
  have hlen : k.lens c = true := by
    have := e1
    simp only [Co.fits, Bool.and_eq_true] at this
    exact this.2.1
  have hlen := of_decide_eq_true hlen
  refine hR1 false σ ?_
  show bcase (decide (now < 0)) _ _
  refine bcd (fun e => open_err h hf _ _ _ _ _ 32 fun r s hp => by rw [hst, if_pos (.inl e)]; exact hp) (fun e6 => bcd (fun e => open_err h hf _ _ _ _ _ 32 fun r s hp => by rw [hst, if_pos (.inr e)]; exact hp) (fun e7 => ?_))
  rw [if_neg (by omega)] at hst
  refine hR _ _ _ _ _ _ _ _ ((block_open_ok h hf v0 v1 v2 v3 now).mono ?_)
  rintro r s1 ⟨id, d0, d1, d2, d3, d4, d5, rfl, hd⟩
  refine ⟨_, rfl, fun n s => ∃ (j : Nat) (k' : Co), n = j ∧ 1 ≤ j ∧ j ≤ 4 ∧ k'.Own.length = c.Secs.length ∧ k'.Lines.length = 4 ∧ DeskAt σ s id d0 d1 d2 d3 d4 d5 k' c0 c1 c2 c3 c4 c v0 v1 v2 v3 now k.Dirty ∧
      stepRun c v.Occ now k.Dirty (List.range' j (4 - j)) k' = stepRun c v.Occ now k.Dirty [1, 2, 3] k, fun n _ => 4 - n.toNat, ⟨1, k, rfl, by omega, by omega, hlen.1, hlen.2.2.2.2.2, hd, rfl⟩, ?_⟩
  rintro _ s ⟨j, k', rfl, hj1, hj2, ho, hl, hd', hrun⟩
  refine bcd (fun hlt => (block_section_ok (hc s) j).use ⟨_, rfl, ?_⟩) (fun hge => ?_)
  · have hrj : List.range' j (4 - j) = j :: List.range' (j + 1) (4 - (j + 1)) := by
      rw [show 4 - j = (4 - (j + 1)) + 1 by omega, List.range'_succ]
    rw [hrj, stepRun] at hrun
    have hw : w64 ((j : Int) + 1) = ((j + 1 : Nat) : Int) := w64_succ (by omega)
    rw [hw]
    have hmu : 4 - ((j + 1 : Nat) : Int).toNat < 4 - ((j : Nat) : Int).toNat := by omega
    refine bcd (fun hs => ?_) (fun hs => ⟨rfl, ⟨j + 1, k', rfl, by omega, by omega, ho, hl, hd', by rw [if_neg (by omega)] at hrun; exact hrun⟩, hmu⟩)
    rw [if_pos (by omega)] at hrun
    have hsb := lineSec_bound c j
    obtain ⟨si, hsi⟩ : ∃ si : Nat, c.lineSec j = si := ⟨(c.lineSec j).toNat, by omega⟩
    rw [hsi] at hrun hsb ⊢
    rw [Int.toNat_natCast] at hrun
    obtain ⟨x, hx⟩ := get_of_lt (l := k'.Lines) (j := j) (by omega)
    obtain ⟨o, hok⟩ := get_of_lt (l := k'.Own) (j := si) (by omega)
    obtain ⟨lk, hlk⟩ := get_of_lt (l := v.Occ) (j := si) (by omega)
    refine ⟨trivial, _, _, _, rfl, _, box_row hd'.row, d4, rfl, hd'.co.lines.at_.idxK c_LineState rfl (by rw [List.length_map]; omega) ((desk_line_ok hd' hc hv.occ hx hok hlk).mono ?_)⟩
    rintro r s' ⟨rfl, hd''⟩
    have hll := lineStep_len c v.Occ now k.Dirty k' j si
    exact ⟨rfl, rfl, ⟨j + 1, _, rfl, by omega, by omega, by omega, by omega, hd'', hrun⟩, hmu⟩
  · have e : j = 4 := by omega
    subst e
    have hrun : k' = stepRun c v.Occ now k.Dirty [1, 2, 3] k := hrun
    refine ⟨trivial, _, _, _, rfl, _, box_row hd'.row, d0, d1, d2, d3, d4, d5, k'.Dirty, rfl, ?_⟩
    rw [hst, ← hrun]
    exact ⟨d0, d1, d2, d3, d4, d5, rfl, hd'.co⟩
theorem block_Hear_ok (hc : ∀ s, CfAt s c0 c1 c2 c3 c4 c) (h : CoAt σ k0 k1 k2 k3 k4 k5 k) (hf : CoFit k0 k1 k2 k3 k4 k5 k) (line a d g : Int) :
    DCalls Tryz.prog n_block_Hear [cfA c0 c1 c2 c3 c4 c, coA k0 k1 k2 k3 k4 k5 k.Dirty, iA line, .agg [iD a, iD d, iD g]] σ (CoPost σ (k.hearC c line a d g)) := by
  have oe : ∀ e : Int, k.hearC c line a d g = (k, e) → DCalls Tryz.prog n_block_open [cfA c0 c1 c2 c3 c4 c, coA k0 k1 k2 k3 k4 k5 k.Dirty, .agg [.nils, .nils, .nils, .nils], iA 0] σ fun r1 s1 => ∃ d' : D, r1 = .a (.one d') ∧ NotNil d' ∧ ∃ s : D, ∃ i off : Nat, d' = .el s i off ∧ ∃ row : List D, Row s1 s i row ∧
      ∃ d1 d2 d3 d4 d5 d6 : D, ∃ b3 : Bool, List.take 7 (List.drop (off + 0) row) = [d1, d2, d3, d4, d5, d6, .bool b3] ∧ CoPost σ (k.hearC c line a d g) (.tup [.agg [d1, d2, d3, d4, d5, d6, .bool b3], .one (.int .i64 e)]) s1 := fun e he =>
    open_err h hf _ _ _ _ _ e fun r s hp => by rw [he]; exact hp
  refine W_block_Hear _ _ _ _ _ _ _ _ _ k0 k1 k2 k3 k4 k5 k.Dirty line a d g σ _ ((locks_Fits_ok hc h).use ⟨_, rfl, bcnot (fun e => oe 21 (by rw [Co.hearC, if_pos e])) (fun e1 => (block_section_ok (hc σ) line).use ⟨_, rfl, ?_⟩)⟩)
  have h1 : k.hearC c line a d g = if c.lineSec line < 0 then (k, 20) else if a < 0 ∨ d < 0 ∨ g < 0 ∨ a > 4294967295 ∨ d > 4294967295 ∨ g > 4294967295 then (k, 32)
      else ({ k with Lines := k.Lines.set line.toNat { (k.Lines[line.toNat]?).getD zLs with PAsk := a, PDone := d, PGrant := g } }, 0) := by
    rw [Co.hearC, if_neg (by rw [e1]; simp)]
  refine bcd (fun e => oe 20 (by rw [h1, if_pos e])) (fun e2 => ?_)
  rw [if_neg e2] at h1
  refine bcd (fun e => oe 32 (by rw [h1, if_pos (by revert e; split <;> split <;> omega)])) (fun e3 => bcd (fun e => oe 32 (by rw [h1, if_pos (by revert e; split <;> split <;> omega)])) (fun e4 => ?_))
  rw [if_neg (by revert e3 e4; split <;> split <;> split <;> split <;> omega)] at h1
  have hlen : k.lens c = true := by
    have := e1
    simp only [Co.fits, Bool.and_eq_true] at this
    exact this.2.1
  have hlen := of_decide_eq_true hlen
  have hr : 1 ≤ line ∧ line ≤ 3 := fits_line e1 e2
  obtain ⟨x, hx⟩ := get_of_lt (l := k.Lines) (j := line.toNat) (by omega)
  refine (block_open_ok h hf _ _ _ _ _).mono ?_
  rintro r s1 ⟨id, d0, d1, d2, d3, d4, d5, rfl, hd⟩
  refine ⟨_, rfl, trivial, _, _, _, rfl, _, box_row hd.row, d4, rfl, hd.co.lines.at_.idxK (j := line.toNat) c_LineState (by omega) (by rw [List.length_map]; omega) (desk_line hd hx rfl (by simp) (y := { x with PAsk := a, PDone := d, PGrant := g }) rfl fun s' h' => ⟨trivial, _, _, _, rfl, _, box_row h'.row, d0, d1, d2, d3, d4, d5, k.Dirty, rfl, ?_⟩)⟩
  rw [h1, hx]
  exact ⟨d0, d1, d2, d3, d4, d5, rfl, h'.co⟩
end
end Go.Proofs.YtcbmibgfmlpobaaGreat
end
section
set_option linter.unusedVariables false
set_option linter.unusedSimpArgs false
namespace Go.Proofs.YtcbmibgfmlpobaaGreat
open Go.Fw Go.Proofs Go.RowKit
variable {σ : Store}
def endC : Cf := ⟨[⟨0, 0, 1⟩, ⟨0, 0, 0⟩], [⟨0, 0, 1, 1⟩], [⟨1, 1⟩], [], [⟨0, -1, [⟨0, 0, 1⟩], [], [], false⟩], 2, 1, 4, 1000⟩
theorem endC_check : endC.check = 0 := by decide +kernel
theorem fz_flat {P : Program} {σ : Store} {S : Nat → Prop} {id n : Nat} {t : TypeId} {rows : List (List D)} (hn : ¬ S id) (hs : σ id = .live t rows) (hl : n = rows.length) (hf : ∀ row ∈ rows, ∀ d ∈ row, Flat d) : Fz P σ S (.osl id 0 n) (.sl (P.cellsOf t) rows) :=
  .osl_flat hn hs (by omega) (by simp [hl]) hf
theorem at_sl {P : Program} {s : Store} {el : TypeId} {rows : List (List D)} (hsz : rows.length < 2 ^ 60) : At P s el (.sl (P.cellsOf el) rows) rows := ⟨⟨rfl, .inr rfl⟩, hsz, fun es rows e => by injection e with e1 e2; rw [← e1]⟩
theorem law15_seen_ok (occ stamp : Int) : DCalls Tryz.prog n_law15_seen [iA occ, iA stamp] σ fun r s => s = σ ∧ ∃ v0 v1 v2 v3, r = .a (.agg [v0, v1, v2, v3]) ∧
    VwAt v0 v1 v2 v3 ⟨[⟨occ, stamp, true⟩, ⟨occ, stamp, true⟩], [⟨0, 0, false⟩, ⟨0, 0, false⟩], [], [⟨1, stamp, true⟩]⟩ := by
  refine (W_law15_seen occ stamp σ (fun r s => ∃ i j k, r = .a (.agg [.osl i 0 2, .osl j 0 2, .nils, .osl k 0 1]) ∧ Ext σ s ∧ σ i = .free ∧ σ j = .free ∧ σ k = .free ∧
    s i = .live t_Look [[iD occ, iD stamp, .bool true], [iD occ, iD stamp, .bool true]] ∧ s j = .live t_Look [[iD 0, iD 0, .bool false], [iD 0, iD 0, .bool false]] ∧ s k = .live t_Look [[iD 1, iD stamp, .bool true]]) ?_).ret ?_
  · refine newObj_intro fun i s1 hi _ he1 h1 => ⟨by omega, by omega, by omega, newObj_intro fun j s2 hj _ he2 h2 => newObj_intro fun k s3 hk _ he3 h3 => ?_⟩
    have ne1 : s1 i ≠ .free := by rw [h1]; intro e; cases e
    have ne2 : s2 j ≠ .free := by rw [h2]; intro e; cases e
    have fr : ∀ {s : Store} {m : Nat}, Ext σ s → s m = .free → σ m = .free := fun {s m} he hm => by
      by_cases hf : σ m = .free
      · exact hf
      · have := he m hf; rw [hm] at this; exact this.symm
    exact ⟨i, j, k, rfl, (he1.trans he2).trans he3, hi, fr he1 hj, fr (he1.trans he2) hk, by rw [(he2.trans he3) i ne1, h1], by rw [he3 j ne2, h2], h3⟩
  · rintro r s ⟨i, j, k, rfl, he, hi, hj, hk, h1, h2, h3⟩
    have flat : ∀ l : List Lk, ∀ row ∈ l.map Lk.enc, ∀ d ∈ row, Flat d := by
      intro l row hrow d hd
      obtain ⟨w, _, rfl⟩ := List.mem_map.1 hrow
      simp only [Lk.enc, List.mem_cons, List.not_mem_nil, or_false] at hd
      rcases hd with rfl | rfl | rfl
      · exact .int _ _
      · exact .int _ _
      · exact .bool _
    refine ⟨.a (.agg [_, _, .nils, _]), σ, .pure he (.cons (fz_flat (fun g => g hi) h1 rfl (flat [⟨occ, stamp, true⟩, ⟨occ, stamp, true⟩])) (.cons (fz_flat (fun g => g hj) h2 rfl (flat [⟨0, 0, false⟩, ⟨0, 0, false⟩])) (.cons .nils (.cons (fz_flat (fun g => g hk) h3 rfl (flat [⟨1, stamp, true⟩])) .nil)))), rfl, _, _, _, _, rfl, ?_⟩
    exact ⟨fun s => at_sl (by simp), fun s => at_sl (by simp), fun s => .nil, fun s => at_sl (by simp)⟩
def CfPost (σ : Store) (c : Cf) (r : RV) (s : Store) : Prop := s = σ ∧ ∃ c0 c1 c2 c3 c4, r = .a (cfA c0 c1 c2 c3 c4 c) ∧ ∀ s, CfAt s c0 c1 c2 c3 c4 c
theorem law15_end_ok : DCalls Tryz.prog n_law15_end [] σ (CfPost σ endC) := by
  refine (W_law15_end σ (fun r s => ∃ i0 i1 i2 i3 i4, r = .a (.agg [.osl i0 0 2, .osl i1 0 1, .osl i2 0 1, .nils, .osl i4 0 1, iD 2, iD 1, iD 4, iD 1000]) ∧ Ext σ s ∧ σ i0 = .free ∧ σ i1 = .free ∧ σ i2 = .free ∧ σ i3 = .free ∧ σ i4 = .free ∧
    s i0 = .live t_Section [[iD 0, iD 0, iD 1], [iD 0, iD 0, iD 0]] ∧ s i1 = .live t_Joint [[iD 0, iD 0, iD 1, iD 1]] ∧ s i2 = .live t_Signal [[iD 1, iD 1]] ∧ s i3 = .live t_Step [[iD 0, iD 0, iD 1]] ∧ s i4 = .live t_Route [[iD 0, iD (-1), .osl i3 0 1, .nils, .nils, .bool false]]) ?_).ret ?_
  · refine newObj_intro fun i0 s1 q0 _ e1 h0 => newObj_intro fun i1 s2 q1 _ e2 h1 => newObj_intro fun i2 s3 q2 _ e3 h2 => newObj_intro fun i3 s4 q3 _ e4 h3 => newObj_intro fun i4 s5 q4 _ e5 h4 => ?_
    have ne : ∀ {s : Store} {m : Nat} {t rows}, s m = .live t rows → s m ≠ .free := fun h e => by rw [h] at e; cases e
    have fr : ∀ {s : Store} {m : Nat}, Ext σ s → s m = .free → σ m = .free := fun {s m} he hm => by
      by_cases hf : σ m = .free
      · exact hf
      · have := he m hf; rw [hm] at this; exact this.symm
    have f2 := e1.trans e2
    have f3 := f2.trans e3
    have f4 := f3.trans e4
    exact ⟨i0, i1, i2, i3, i4, rfl, f4.trans e5, q0, fr e1 q1, fr f2 q2, fr f3 q3, fr f4 q4, by rw [(((e2.trans e3).trans e4).trans e5) i0 (ne h0)]; exact h0, by rw [((e3.trans e4).trans e5) i1 (ne h1)]; exact h1, by rw [(e4.trans e5) i2 (ne h2)]; exact h2, by rw [e5 i3 (ne h3)]; exact h3, h4⟩
  · rintro r s ⟨i0, i1, i2, i3, i4, rfl, he, q0, q1, q2, q3, q4, h0, h1, h2, h3, h4⟩
    have fl : ∀ (l : List (List Int)), ∀ row ∈ l.map (·.map iD), ∀ d ∈ row, Flat d := by
      intro l row hrow d hd
      obtain ⟨w, _, rfl⟩ := List.mem_map.1 hrow
      obtain ⟨n, _, rfl⟩ := List.mem_map.1 hd
      exact .int _ _
    have fz3 : Fz Tryz.prog s (fun i => σ i ≠ .free) (.osl i3 0 1) (.sl (Tryz.prog.cellsOf t_Step) [[iD 0, iD 0, iD 1]]) := fz_flat (fun g => g q3) h3 rfl (fl [[0, 0, 1]])
    have fz4 : Fz Tryz.prog s (fun i => σ i ≠ .free) (.osl i4 0 1) (.sl (Tryz.prog.cellsOf t_Route) [[iD 0, iD (-1), .sl (Tryz.prog.cellsOf t_Step) [[iD 0, iD 0, iD 1]], .nils, .nils, .bool false]]) := by
      refine .osl i4 0 1 t_Route _ _ (fun g => g q4) h4 (by simp) rfl ?_ ?_
      · intro j row row' a b
        rw [Nat.zero_add] at a
        cases j with
        | zero => simp at a b; subst a b; rfl
        | succ j => simp at a
      · intro j row row' m d d' a b x y
        rw [Nat.zero_add] at a
        cases j with
        | succ j => simp at a
        | zero =>
          simp at a b; subst a b
          rcases m with _ | _ | _ | _ | _ | _ | m <;> simp at x y <;> subst x y
          · exact .int _ _
          · exact .int _ _
          · exact fz3
          · exact .nils
          · exact .nils
          · exact .bool _
    refine ⟨.a (cfA _ _ _ .nils _ endC), σ, .pure he (.cons (fz_flat (fun g => g q0) h0 rfl (fl [[0, 0, 1], [0, 0, 0]])) (.cons (fz_flat (fun g => g q1) h1 rfl (fl [[0, 0, 1, 1]])) (.cons (fz_flat (fun g => g q2) h2 rfl (fl [[1, 1]])) (.cons .nils (.cons fz4 (.cons (.int _ _) (.cons (.int _ _) (.cons (.int _ _) (.cons (.int _ _) .nil))))))))), rfl, _, _, _, _, _, rfl, fun s => ?_⟩
    refine ⟨at_sl (by simp), at_sl (by simp), at_sl (by simp), .nil, _, at_sl (by simp), rfl, ?_⟩
    intro i row r a b
    cases i with
    | zero =>
      simp [endC] at a b
      subst a b
      exact ⟨_, _, _, rfl, at_sl (by simp), .nil, .nil⟩
    | succ i => simp at a
end Go.Proofs.YtcbmibgfmlpobaaGreat
end
section
set_option linter.unusedVariables false
set_option linter.unusedSimpArgs false
namespace Go.Proofs.YtcbmibgfmlpobaaGreat
open Go.Fw Go.Proofs Go.RowKit
variable {σ : Store}
theorem own_frz {s : Store} {el : TypeId} {d : D} {rs : List (List D)} (h : Own Tryz.prog σ s el d rs) (hf : ∀ row ∈ rs, ∀ x ∈ row, Flat x) :
    ∃ d', Fz Tryz.prog s (fun i => σ i ≠ .free) d d' ∧ (∀ s'', At Tryz.prog s'' el d' rs) ∧ d' ≠ .zsl := by
  obtain ⟨d', h1, h2⟩ := ret_slice h.at_ h.ext h.new hf
  exact ⟨d', h1, h2, fun e => by subst e; cases h1; exact h.nz rfl⟩
theorem flat_ints {α : Type} (f : α → List D) (hf : ∀ a, ∀ d ∈ f a, Flat d) (l : List α) : ∀ row ∈ l.map f, ∀ d ∈ row, Flat d := by
  intro row hrow d hd
  obtain ⟨a, _, rfl⟩ := List.mem_map.1 hrow
  exact hf a d hd
structure CoFz (d0 d1 d2 d3 d4 d5 : D) (k : Co) : Prop where
  at_ : ∀ s, CoAt s d0 d1 d2 d3 d4 d5 k
  n0 : d0 ≠ .zsl
  n1 : d1 ≠ .zsl
  n2 : d2 ≠ .zsl
  n3 : d3 ≠ .zsl
  n4 : d4 ≠ .zsl
  n5 : d5 ≠ .zsl
theorem co_frz {s : Store} {d0 d1 d2 d3 d4 d5 : D} {k : Co} (h : CoOwn σ s d0 d1 d2 d3 d4 d5 k) : ∃ e0 e1 e2 e3 e4 e5, FzL Tryz.prog s (fun i => σ i ≠ .free) [d0, d1, d2, d3, d4, d5, .bool k.Dirty] [e0, e1, e2, e3, e4, e5, .bool k.Dirty] ∧ CoFz e0 e1 e2 e3 e4 e5 k := by
  have fI : ∀ n : Int, ∀ d ∈ Go.Fw.encI n, Flat d := fun n d hd => by simp [Go.Fw.encI] at hd; subst hd; exact .int _ _
  have fR : ∀ r : Rs, ∀ d ∈ r.enc, Flat d := fun r d hd => by simp [Rs.enc] at hd; rcases hd with rfl | rfl | rfl | rfl <;> exact .int _ _
  have fM : ∀ r : Mv, ∀ d ∈ r.enc, Flat d := fun r d hd => by simp [Mv.enc] at hd; rcases hd with rfl | rfl <;> exact .int _ _
  have fL : ∀ r : Ls, ∀ d ∈ r.enc, Flat d := fun r d hd => by simp [Ls.enc] at hd; rcases hd with rfl | rfl | rfl | rfl | rfl | rfl | rfl | rfl <;> exact .int _ _
  obtain ⟨e0, a0, b0, n0⟩ := own_frz h.own (flat_ints _ fI _)
  obtain ⟨e1, a1, b1, n1⟩ := own_frz h.routes (flat_ints _ fR _)
  obtain ⟨e2, a2, b2, n2⟩ := own_frz h.points (flat_ints _ fM _)
  obtain ⟨e3, a3, b3, n3⟩ := own_frz h.xs (flat_ints _ fM _)
  obtain ⟨e4, a4, b4, n4⟩ := own_frz h.lines (flat_ints _ fL _)
  obtain ⟨e5, a5, b5, n5⟩ := own_frz h.resets (flat_ints _ fI _)
  exact ⟨e0, e1, e2, e3, e4, e5, .cons a0 (.cons a1 (.cons a2 (.cons a3 (.cons a4 (.cons a5 (.cons (.bool _) .nil)))))), ⟨fun s => ⟨b0 s, b1 s, b2 s, b3 s, b4 s, b5 s⟩, n0, n1, n2, n3, n4, n5⟩⟩
def CoPostZ (σ : Store) (p : Co × Int) (r : RV) (s : Store) : Prop := s = σ ∧ ∃ d0 d1 d2 d3 d4 d5, r = .tup [coA d0 d1 d2 d3 d4 d5 p.1.Dirty, iA p.2] ∧ CoFz d0 d1 d2 d3 d4 d5 p.1
theorem post_frz {f : FuncId} {as0' : List A} {p : Co × Int} (h : DCalls Tryz.prog f as0' σ (CoPost σ p)) : DCalls Tryz.prog f as0' σ (CoPostZ σ p) := by
  refine h.ret ?_
  rintro r s ⟨d0, d1, d2, d3, d4, d5, rfl, hco⟩
  obtain ⟨e0, e1, e2, e3, e4, e5, hfz, hz⟩ := co_frz hco
  refine ⟨.tup [coA e0 e1 e2 e3 e4 e5 p.1.Dirty, iA p.2], σ, .pure hco.own.ext ⟨rfl, fun i x y h1 h2 => ?_⟩, rfl, _, _, _, _, _, _, rfl, hz⟩
  rcases i with _ | _ | i
  · simp at h1 h2; subst h1 h2; exact hfz
  · simp at h1 h2; subst h1 h2; exact .int _ _
  · simp at h1
end Go.Proofs.YtcbmibgfmlpobaaGreat
end
section
set_option linter.unusedVariables false
set_option linter.unusedSimpArgs false
namespace Go.Proofs.YtcbmibgfmlpobaaGreat
open Go.Fw Go.Proofs Go.RowKit
variable {σ : Store}
section
variable {σ0 : Store} {d0 d1 d2 d3 d4 d5 : D} {k : Co}
theorem ext_other {s s' : Store} {i : Nat} (he : Ext σ0 s) (hf : σ0 i = .free) (hs : ∀ j, j ≠ i → s' j = s j) : Ext σ0 s' := fun j hj => by
  rw [hs j (fun e => hj (by rw [e]; exact hf))]; exact he j hj
theorem CoOwn.setOwn (h : CoOwn σ0 σ d0 d1 d2 d3 d4 d5 k) {j n : Nat} {o w : Int} (hj : k.Own[j]? = some o) (hn : n = j) {K : Store → Prop}
    (hK : ∀ s', CoOwn σ0 s' d0 d1 d2 d3 d4 d5 { k with Own := k.Own.set j w } → K s') : storeEl [iD w] σ d0 n 0 K := by
  refine h.own.at_.store h.own.nsl (map_get hj) hn (by simp [Go.Fw.encI]) fun s' i hi hat hs hne => hK s' ?_
  have hf := own_id h.own hi
  have ap : ∀ {m : Nat} {d : D}, [d0, d1, d2, d3, d4, d5][m]? = some d → m ≠ 0 → idOf d ≠ some i := fun hm hne0 => pw h.apart (i := 0) rfl hm (Ne.symm hne0) i hi
  refine ⟨⟨?_, ext_other h.own.ext hf hs, h.own.new, h.own.nsl, h.own.nz⟩, own_other h.routes hf (ap (m := 1) rfl (by omega)) hs, own_other h.points hf (ap (m := 2) rfl (by omega)) hs, own_other h.xs hf (ap (m := 3) rfl (by omega)) hs, own_other h.lines hf (ap (m := 4) rfl (by omega)) hs, own_other h.resets hf (ap (m := 5) rfl (by omega)) hs, h.apart⟩
  have e : (List.map Go.Fw.encI k.Own).set j (patch (Go.Fw.encI o) 0 [iD w]) = (k.Own.set j w).map Go.Fw.encI := map_set Go.Fw.encI k.Own j w
  rw [e] at hat; exact hat
theorem set_all (l : List Int) (j : Nat) (w : Int) (hj : j < l.length) : (List.replicate j w ++ l.drop j).set j w = List.replicate (j + 1) w ++ l.drop (j + 1) := by
  rw [List.drop_eq_getElem_cons hj, List.set_append_right _ _ (by simp), List.length_replicate, Nat.sub_self, List.set_cons_zero, List.replicate_succ', List.append_assoc]
  rfl
end
end Go.Proofs.YtcbmibgfmlpobaaGreat
end
section
set_option linter.unusedVariables false
set_option linter.unusedSimpArgs false
namespace Go.Proofs.YtcbmibgfmlpobaaGreat
open Go.Fw Go.Proofs Go.RowKit
variable {σ : Store}
def freshC : Co := ⟨[0, 0], [⟨0, 0, 0, 0⟩], [⟨0, 0⟩, ⟨0, 0⟩], [], [zLs, zLs, zLs, zLs], [0, 0], false⟩
def CoZ (σ : Store) (k : Co) (r : RV) (s : Store) : Prop := s = σ ∧ ∃ d0 d1 d2 d3 d4 d5, r = .a (coA d0 d1 d2 d3 d4 d5 k.Dirty) ∧ CoFz d0 d1 d2 d3 d4 d5 k
theorem law15_fresh_ok : DCalls Tryz.prog n_law15_fresh [] σ (CoZ σ freshC) := by
  refine (W_law15_fresh σ (fun r s => ∃ d0 d1 d2 d3 d4 d5, r = .a (coA d0 d1 d2 d3 d4 d5 false) ∧ CoOwn σ s d0 d1 d2 d3 d4 d5 freshC) ?_).ret ?_
  · refine law15_end_ok.mono ?_
    rintro r s ⟨rfl, c0, c1, c2, c3, c4, rfl, hc⟩
    refine ⟨_, _, _, _, _, _, _, _, _, rfl, (locks_New_ok hc 0 (by decide) (by decide) (by decide)).mono ?_⟩
    rintro r s1 ⟨d0, d1, d2, d3, d4, d5, rfl, h⟩
    refine ⟨_, _, _, _, _, _, _, rfl, h.own.at_.lenK ⟨fun n s2 => ∃ j : Nat, n = j ∧ j ≤ 2 ∧ CoOwn s s2 d0 d1 d2 d3 d4 d5 { newCo endC 0 with Own := List.replicate j 0 ++ [-1, -1].drop j }, fun n _ => 2 - n.toNat, ⟨0, rfl, by omega, h⟩, ?_⟩⟩
    rintro _ s2 ⟨j, rfl, hj, h2⟩
    have hl : (List.map Go.Fw.encI (newCo endC 0).Own).length = 2 := rfl
    rw [hl]
    refine bcd (fun hlt => ?_) (fun hge => ?_)
    · have hlt : j < 2 := by omega
      refine h2.own.at_.idxK c_int rfl (by simp; omega) ?_
      have hw : w64 ((j : Int) + 1) = ((j + 1 : Nat) : Int) := w64_succ (by omega)
      obtain ⟨o, ho⟩ := get_of_lt (l := List.replicate j (0 : Int) ++ [-1, -1].drop j) (j := j) (by simp; omega)
      refine h2.setOwn ho (by omega) (w := 0) fun s3 h3 => ⟨rfl, ?_⟩
      rw [hw]
      refine ⟨⟨j + 1, rfl, by omega, ?_⟩, by show 2 - ((j + 1 : Nat) : Int).toNat < 2 - ((j : Nat) : Int).toNat; omega⟩
      rw [← set_all [-1, -1] j 0 hlt]; exact h3
    · have e : j = 2 := by omega
      subst e
      refine ⟨_, _, _, _, _, _, rfl, ?_⟩
      exact { own := h2.own, routes := h2.routes, points := h2.points, xs := h2.xs, lines := h2.lines, resets := h2.resets, apart := h2.apart }
  · rintro r s ⟨d0, d1, d2, d3, d4, d5, rfl, h⟩
    obtain ⟨e0, e1, e2, e3, e4, e5, hfz, hz⟩ := co_frz h
    exact ⟨.a (coA e0 e1 e2 e3 e4 e5 false), σ, .pure h.own.ext hfz, rfl, _, _, _, _, _, _, rfl, hz⟩
theorem CoFz.fit {d0 d1 d2 d3 d4 d5 : D} {k : Co} (h : CoFz d0 d1 d2 d3 d4 d5 k) (hs : k.Own.length ≤ 2 ^ 20 ∧ k.Routes.length ≤ 2 ^ 20 ∧ k.Points.length ≤ 2 ^ 20 ∧ k.Xs.length ≤ 2 ^ 20 ∧ k.Lines.length ≤ 2 ^ 20 ∧ k.Resets.length ≤ 2 ^ 20) : CoFit d0 d1 d2 d3 d4 d5 k :=
  ⟨h.n0, h.n1, h.n2, h.n3, h.n4, h.n5, by omega, by omega, by omega, by omega, by omega, by omega⟩
theorem lives_hear : freshC.hearC endC 1 1 0 0 = ({ freshC with Lines := [zLs, { zLs with PAsk := 1 }, zLs, zLs] }, 0) := by decide +kernel
def livesK : Co := { freshC with Own := [-2, 0], Lines := [zLs, { zLs with PAsk := 1, Grant := 1 }, zLs, zLs], Dirty := true }
theorem lives_step : Co.stepC endC ({ freshC with Lines := [zLs, { zLs with PAsk := 1 }, zLs, zLs] }, (0 : Int)).1 ⟨[⟨0, 9, true⟩, ⟨0, 9, true⟩], [⟨0, 0, false⟩, ⟨0, 0, false⟩], [], [⟨1, 9, true⟩]⟩ 9 = (livesK, 0) := by decide +kernel
theorem law15_lives_ok : Pure Tryz.prog n_law15_lives [] σ (.a (bA true)) := by
  refine W_law15_lives σ _ (law15_end_ok.mono ?_)
  rintro r s ⟨rfl, c0, c1, c2, c3, c4, rfl, hc⟩
  refine ⟨_, _, _, _, _, _, _, _, _, rfl, law15_fresh_ok.mono ?_⟩
  rintro r s ⟨rfl, k0, k1, k2, k3, k4, k5, rfl, hk⟩
  refine ⟨_, _, _, _, _, _, _, rfl, (post_frz (block_Hear_ok (c := endC) hc (hk.at_ s) (hk.fit (by decide)) 1 1 0 0)).mono ?_⟩
  rintro r s ⟨rfl, k0, k1, k2, k3, k4, k5, rfl, hk⟩
  refine ⟨_, _, _, _, _, _, _, _, rfl, (law15_seen_ok 0 9).mono ?_⟩
  rintro r s ⟨rfl, v0, v1, v2, v3, rfl, hv⟩
  refine ⟨_, _, _, _, rfl, (post_frz (block_Step_ok (c := endC) hc (hk.at_ s) (hk.fit (by decide +kernel)) hv 9)).mono ?_⟩
  rintro r s ⟨rfl, n0, n1, n2, n3, n4, n5, rfl, hn⟩
  rw [lives_hear] at hn ⊢
  rw [lives_step] at hn ⊢
  have h0 : List.map Go.Fw.encI ([-2, 0] : List Int) = [[iD (-2)], [iD 0]] := rfl
  refine ⟨_, _, _, _, _, _, _, _, rfl, bce (fun _ => bce (fun _ => (hn.at_ s).own.lenK (bce (fun _ => ?_) (fun e => absurd rfl e))) (fun e => absurd rfl e)) (fun e => absurd rfl e)⟩
  refine (hn.at_ s).own.load (j := 0) (row := Go.Fw.encI (-2)) rfl c_int rfl ⟨-2, rfl, bce (fun _ => ?_) (fun e => absurd rfl e)⟩
  refine (hn.at_ s).lines.load (j := 1) (row := Ls.enc { zLs with PAsk := 1, Grant := 1 }) rfl c_LineState rfl ⟨1, rfl, bce (fun _ => ?_) (fun e => absurd rfl e)⟩
  exact (block_Tell_ok (hn.at_ s) _ 1).use ⟨0, 0, 0, rfl, rfl, rfl⟩
end Go.Proofs.YtcbmibgfmlpobaaGreat
end
section
set_option linter.unusedVariables false
set_option linter.unusedSimpArgs false
namespace Go.Fw
variable {P : Program}
inductive Cs
  | int (k : IntKind)
  | bool
  | str
  | sl (e : TypeId)
def fieldsSh (g : TypeId → Option (List Cs)) : List Field → Option (List Cs)
  | [] => some []
  | f :: fs => match g f.type, fieldsSh g fs with
    | some a, some b => some (a ++ b)
    | _, _ => none
def cellsSh (P : Program) : Nat → TypeId → Option (List Cs)
  | 0, _ => none
  | m + 1, t => match P.underlying t with
    | some .bool => some [.bool]
    | some (.int k) => some [.int k]
    | some .string => some [.str]
    | some (.slice e) => some [.sl e]
    | some (.struct fs) => fieldsSh (cellsSh P m) fs.toList
    | some (.array k e) => (cellsSh P m e).map fun l => (List.replicate k l).flatten
    | _ => none
def CsOk (P : Program) : Cs → D → Prop
  | .int k, d => ∃ m, d = .int k m ∧ (Lit.int k m).wf = true
  | .bool, d => ∃ b, d = .bool b
  | .str, d => ∃ s, d = .str s ∧ s.size ≤ 140737488351232
  | .sl e, d => d = .nils ∨ ∃ rows, d = .sl (P.cellsOf e) rows ∧ rows.length * P.bytesOf e ≤ 140737488351232 ∧ ∀ row ∈ rows, ∃ n, tyD P n e row
def CsL (P : Program) : List Cs → List D → Prop
  | [], ds => ds = []
  | s :: ss, ds => ∃ d r, ds = d :: r ∧ CsOk P s d ∧ CsL P ss r
theorem CsL.append {a b : List Cs} {x y : List D} (h1 : CsL P a x) (h2 : CsL P b y) : CsL P (a ++ b) (x ++ y) := by
  induction a generalizing x with
  | nil => simp only [CsL] at h1; subst h1; exact h2
  | cons s a ih =>
    obtain ⟨d, r, rfl, q1, q2⟩ := h1
    exact ⟨d, r ++ y, rfl, q1, ih q2⟩
theorem fields_sh {g : TypeId → Option (List Cs)} {ty : TypeId → List D → Prop} (ih : ∀ t ds shs, ty t ds → g t = some shs → CsL P shs ds) : ∀ (fs : List Field) (ds : List D) (shs : List Cs), tyF P ty fs ds → fieldsSh g fs = some shs → CsL P shs ds
  | [], ds, shs, h1, h2 => by
    simp only [tyF] at h1; simp only [fieldsSh] at h2
    cases h2; subst h1; rfl
  | f :: fs, ds, shs, h1, h2 => by
    obtain ⟨a, b, rfl, _, q1, q2⟩ := h1
    rw [fieldsSh] at h2
    split at h2
    · rename_i x y e1 e2
      cases h2
      exact (ih _ _ _ q1 e1).append (fields_sh ih fs b y q2 e2)
    · cases h2
theorem rep_sh {ty : TypeId → List D → Prop} {e : TypeId} {l : List Cs} (ih : ∀ ds, ty e ds → CsL P l ds) : ∀ (k : Nat) (ds : List D), tyR P ty e k ds → CsL P (List.replicate k l).flatten ds
  | 0, ds, h => by simp only [tyR] at h; subst h; rfl
  | k + 1, ds, h => by
    obtain ⟨a, b, rfl, _, q1, q2⟩ := h
    rw [List.replicate_succ, List.flatten_cons]
    exact (ih a q1).append (rep_sh ih k b q2)
theorem ty_sh : ∀ (n m : Nat) (t : TypeId) (ds : List D) (shs : List Cs), tyD P n t ds → cellsSh P m t = some shs → CsL P shs ds
  | 0, _, _, _, _, h, _ => h.elim
  | _ + 1, 0, _, _, _, _, h => by cases h
  | n + 1, m + 1, t, ds, shs, h1, h2 => by
    unfold tyD at h1
    unfold cellsSh at h2
    split at h1
    · rename_i hu
      rw [hu] at h2; cases h2
      obtain ⟨b, rfl⟩ := h1
      exact ⟨_, _, rfl, ⟨b, rfl⟩, rfl⟩
    · rename_i k hu
      rw [hu] at h2; cases h2
      obtain ⟨b, rfl, hw⟩ := h1
      exact ⟨_, _, rfl, ⟨b, rfl, hw⟩, rfl⟩
    · rename_i hu
      rw [hu] at h2; cases h2
      obtain ⟨b, rfl, hw⟩ := h1
      exact ⟨_, _, rfl, ⟨b, rfl, hw⟩, rfl⟩
    · rename_i e hu
      rw [hu] at h2; cases h2
      rcases h1 with rfl | ⟨rows, rfl, q1, q2⟩
      · exact ⟨_, _, rfl, .inl rfl, rfl⟩
      · exact ⟨_, _, rfl, .inr ⟨rows, rfl, q1, fun row hr => ⟨n, q2 row hr⟩⟩, rfl⟩
    · rename_i fs hu
      rw [hu] at h2
      exact fields_sh (fun t ds shs a b => ty_sh n m t ds shs a b) fs.toList ds shs h1 h2
    · rename_i k e hu
      rw [hu] at h2
      simp only [Option.map_eq_some_iff] at h2
      obtain ⟨l, e1, rfl⟩ := h2
      exact rep_sh (fun ds a => ty_sh n m e ds l a e1) k ds h1
    · exact h1.elim
def I64 (n : Int) : Prop := -9223372036854775808 ≤ n ∧ n ≤ 9223372036854775807
theorem wf_i64 {n : Int} (h : (Lit.int .i64 n).wf = true) : I64 n := by
  simp only [Lit.wf, IntKind.min, IntKind.max, IntKind.signed, IntKind.bits, Bool.and_eq_true, decide_eq_true_eq, if_true] at h
  unfold I64
  omega
theorem I64.w {n : Int} (h : I64 n) : w64 n = n := w64_id h.1 h.2
theorem sh_rows {α : Type} {e : TypeId} {d : D} {bytes : Nat} (f : α → List D) (Q : α → Prop) (hf : ∀ row n, tyD P n e row → ∃ a, row = f a ∧ Q a) (hb : P.bytesOf e = bytes) (hb0 : 0 < bytes) (h : CsOk P (.sl e) d) :
    ∃ l : List α, (∀ s, At P s e d (l.map f)) ∧ (∀ a ∈ l, Q a) ∧ d ≠ .zsl ∧ bytes * l.length ≤ 140737488351232 := by
  rcases h with rfl | ⟨rows, rfl, q1, q2⟩
  · exact ⟨[], fun s => .nil, fun a ha => by simp at ha, (by intro e; cases e), by simp⟩
  · have key : ∀ rows : List (List D), (∀ row ∈ rows, ∃ n, tyD P n e row) → ∃ l : List α, l.map f = rows ∧ ∀ a ∈ l, Q a := by
      intro rows
      induction rows with
      | nil => intro _; exact ⟨[], rfl, fun a ha => by simp at ha⟩
      | cons r rs ih =>
        intro hr
        obtain ⟨l, e1, e2⟩ := ih fun row h => hr row (by simp [h])
        obtain ⟨n, hn⟩ := hr r (by simp)
        obtain ⟨a, rfl, ha⟩ := hf r n hn
        refine ⟨a :: l, by simp [e1], fun b hb => ?_⟩
        simp only [List.mem_cons] at hb
        rcases hb with rfl | hb
        · exact ha
        · exact e2 b hb
    obtain ⟨l, rfl, hl⟩ := key rows q2
    rw [hb, List.length_map] at q1
    have q3 : bytes * l.length ≤ 140737488351232 := by rw [Nat.mul_comm]; exact q1
    have h1 : 1 * l.length ≤ bytes * l.length := Nat.mul_le_mul_right _ hb0
    refine ⟨l, fun s => ⟨⟨rfl, .inr rfl⟩, by rw [List.length_map]; omega, fun es rows e => ?_⟩, hl, (by intro e; cases e), q3⟩
    injection e with e1 e2
    exact e1.symm
theorem tya_one {t : TypeId} {x : A} (h : TyA P t x) (hg : isAggT P t = some false) : ∃ d n, x = .one d ∧ tyD P n t [d] := by
  cases x with
  | one d => exact ⟨d, 30, rfl, h.2⟩
  | agg cs => have := h.1; rw [hg] at this; cases this
theorem tys_cons {t : TypeId} {ts : List TypeId} {as0 : List A} (h : TyAs P (t :: ts) as0) : ∃ a r, as0 = a :: r ∧ TyA P t a ∧ TyAs P ts r := h
theorem tys_nil {as0 : List A} (h : TyAs P [] as0) : as0 = [] := h
def csZero : Cs → Value
  | .int k => .int k 0
  | .bool => .bool false
  | .str => .string .empty
  | .sl _ => .slice none 0 0
def zeroArg (P : Program) (t : TypeId) : Value := match isAggT P t, cellsSh P 9 t with
  | some true, some l => .agg (l.map csZero).toArray
  | _, some [c] => csZero c
  | _, _ => .int .i64 0
end Go.Fw
namespace Go.Fw
theorem law_fn1 {H : Type} {s : List (DataW H) → Left H} {ds : List (DataW H)} (h : ds.length = 1) (hs : ∀ a, s [a] = { results := [.lit (.bool true)], args := [a] } := by intros; rfl) : s ds = { results := [.lit (.bool true)], args := ds } := by
  match ds, h with
  | [a], _ => exact hs a
end Go.Fw
namespace Go.Fw
def EqR {α : Type} (la lb : List α) (n : Int) : Prop := ∃ j : Nat, n = j ∧ j ≤ la.length ∧ la.take j = lb.take j
theorem EqR.start {α : Type} (la lb : List α) : EqR la lb 0 := ⟨0, rfl, by omega, by simp⟩
theorem EqR.step {α : Type} {la lb : List α} {n : Int} {m : Nat} (h : EqR la lb n) (hl : la.length = lb.length) (hm : m = la.length) (hs : la.length < 2 ^ 60) (hlt : n < (m : Int)) :
    ∃ (j : Nat) (x y : α), n = j ∧ la[j]? = some x ∧ lb[j]? = some y ∧ (x ≠ y → la ≠ lb) ∧ (x = y → EqR la lb (w64 (n + 1)) ∧ la.length - (w64 (n + 1)).toNat < la.length - n.toNat) := by
  obtain ⟨j, rfl, hj, hF⟩ := h
  have hj' : j < la.length := by omega
  obtain ⟨x, hx⟩ := get_of_lt hj'
  obtain ⟨y, hy⟩ := get_of_lt (l := lb) (j := j) (by omega)
  refine ⟨j, x, y, rfl, hx, hy, fun hne e => ?_, fun e => ?_⟩
  · subst e; rw [hx] at hy; cases hy; exact hne rfl
  · rw [w64_succ (by omega)]
    refine ⟨⟨j + 1, rfl, by omega, ?_⟩, by omega⟩
    rw [List.take_add_one, List.take_add_one, hF, hx, hy, e]
theorem EqR.done {α : Type} {la lb : List α} {n : Int} {m : Nat} (h : EqR la lb n) (hl : la.length = lb.length) (hm : m = la.length) (hge : ¬ n < (m : Int)) : la = lb := by
  obtain ⟨j, rfl, hj, hF⟩ := h
  have : j = la.length := by omega
  rw [List.take_of_length_le (by omega), List.take_of_length_le (by omega)] at hF
  exact hF
end Go.Fw
namespace Go.Fw
theorem tya_cell {P : Program} {t : TypeId} {x : A} {c : Cs} (h : TyA P t x) (hg : isAggT P t = some false) (hs : cellsSh P 5 t = some [c]) : ∃ d, x = .one d ∧ CsOk P c d := by
  obtain ⟨d, n, rfl, h1⟩ := tya_one h hg
  obtain ⟨d', r, e, h2, h3⟩ := ty_sh n 5 t _ _ h1 hs
  have : d = d' := by injection e
  exact ⟨d, rfl, this ▸ h2⟩
end Go.Fw
end
section
set_option linter.unusedVariables false
set_option linter.unusedSimpArgs false
namespace Go.Proofs.YtcbmibgfmlpobaaGreat
open Go.Fw Go.Proofs Go.RowKit
structure RtI (r : Rt) : Prop where
  entry : I64 r.Entry
  exit : I64 r.Exit
  path : ∀ s ∈ r.Path, I64 s.Sec ∧ I64 s.In ∧ I64 s.Out
  flank : ∀ s ∈ r.Flank, I64 s.Sec ∧ I64 s.Pos
  over : ∀ o ∈ r.Overlap, I64 o
  np : 24 * r.Path.length ≤ 140737488351232
  nf : 16 * r.Flank.length ≤ 140737488351232
  no : 8 * r.Overlap.length ≤ 140737488351232
structure CfI (c : Cf) : Prop where
  secs : ∀ s ∈ c.Secs, I64 s.Kind ∧ I64 s.OC ∧ I64 s.Line
  jts : ∀ s ∈ c.Jts, I64 s.A ∧ I64 s.AEnd ∧ I64 s.B ∧ I64 s.BEnd
  sigs : ∀ s ∈ c.Sigs, I64 s.Sec ∧ I64 s.End_
  xs : ∀ s ∈ c.Xs, I64 s
  rts : ∀ r ∈ c.Rts, RtI r
  age : I64 c.Age
  brake : I64 c.Brake
  hold : I64 c.Hold
  budget : I64 c.Budget
  nsecs : 24 * c.Secs.length ≤ 140737488351232
  njts : 32 * c.Jts.length ≤ 140737488351232
  nsigs : 16 * c.Sigs.length ≤ 140737488351232
  nxs : 8 * c.Xs.length ≤ 140737488351232
  nrts : 96 * c.Rts.length ≤ 140737488351232
structure LsI (l : Ls) : Prop where
  ask : I64 l.Ask
  done : I64 l.Done
  grant : I64 l.Grant
  told : I64 l.Told
  pask : I64 l.PAsk
  pdone : I64 l.PDone
  pgrant : I64 l.PGrant
  since : I64 l.Since
structure CoI (k : Co) : Prop where
  own : ∀ o ∈ k.Own, I64 o
  routes : ∀ s ∈ k.Routes, I64 s.State ∧ I64 s.Since ∧ I64 s.Next ∧ I64 s.Mark
  points : ∀ s ∈ k.Points, I64 s.Cmd ∧ I64 s.Other
  xs : ∀ s ∈ k.Xs, I64 s.Cmd ∧ I64 s.Other
  lines : ∀ s ∈ k.Lines, LsI s
  resets : ∀ o ∈ k.Resets, I64 o
structure VwI (v : Vw) : Prop where
  occ : ∀ l ∈ v.Occ, I64 l.Value ∧ I64 l.Stamp
  pos : ∀ l ∈ v.Pos, I64 l.Value ∧ I64 l.Stamp
  shut : ∀ l ∈ v.Shut, I64 l.Value ∧ I64 l.Stamp
  lamp : ∀ l ∈ v.Lamp, I64 l.Value ∧ I64 l.Stamp
end Go.Proofs.YtcbmibgfmlpobaaGreat
end
section
set_option linter.unusedVariables false
set_option linter.unusedSimpArgs false
namespace Go.Fw
section
variable {occ : List Lk} {now : Int} {was may : Bool} {x : Ls} {o : Int} {s : Nat} {lk : Lk}
end
structure SameBut (k k' : Co) (l s : Nat) : Prop where
  routes : k'.Routes = k.Routes
  lines : ∀ m, m ≠ l → k'.Lines[m]? = k.Lines[m]?
  own : ∀ t, t ≠ s → k'.Own[t]? = k.Own[t]?
end Go.Fw
end
section
set_option linter.unusedVariables false
set_option linter.unusedSimpArgs false
namespace Go.Proofs.YtcbmibgfmlpobaaGreat
open Go.Fw Go.Proofs Go.RowKit
variable {σ : Store}
def LawTrue (f : FuncId) (xs : List A) : Prop := DCalls Tryz.prog f xs noS fun r _ => r = .a (.one (.bool true))
end Go.Proofs.YtcbmibgfmlpobaaGreat
end
section
set_option linter.unusedVariables false
set_option linter.unusedSimpArgs false
namespace Go.Proofs.YtcbmibgfmlpobaaGreat
open Go.Fw Go.Proofs Go.RowKit
variable {σ : Store}
def endK (o : Int) (x : Ls) (b : Bool) : Co := ⟨[o, 0], [⟨0, 0, 0, 0⟩], [⟨0, 0⟩, ⟨0, 0⟩], [], [zLs, x, zLs, zLs], [0, 0], b⟩
def seenV (occ stamp : Int) : Vw := ⟨[⟨occ, stamp, true⟩, ⟨occ, stamp, true⟩], [⟨0, 0, false⟩, ⟨0, 0, false⟩], [], [⟨1, stamp, true⟩]⟩
theorem endC_lines : endC.lineSec 1 = 0 ∧ endC.lineSec 2 = -1 ∧ endC.lineSec 3 = -1 := by decide
def endStep (occ stamp now : Int) (o : Int) (x : Ls) (b : Bool) : Co :=
  let m := decide (x.PAsk > (if x.PDone > x.Grant then x.PDone else x.Grant)) && decide (x.Ask = x.Done)
  let k' : Co := if o = -2 then
      if x.PDone < x.Grant then endK o { x with Since := 0 } b
      else if x.Since = 0 then endK o { x with Since := w64 (now + 1) } b
      else if occ = 0 ∧ x.Since ≤ stamp then endK 0 { x with Since := 0 } true
      else endK o x b
    else if o = 0 ∧ m = true then endK (-2) { x with Grant := x.PAsk, Since := 0 } true
    else endK o x b
  if b = true then k' else { k' with Lines := k'.Lines.set 1 { (k'.Lines[1]?).getD zLs with Told := x.Grant } }
theorem ls_fits {x : Ls} (h1 : 0 ≤ x.Ask ∧ x.Ask ≤ 4294967295) (h2 : 0 ≤ x.Done ∧ x.Done ≤ 4294967295) (h3 : 0 ≤ x.Grant ∧ x.Grant ≤ 4294967295) (h4 : 0 ≤ x.Told ∧ x.Told ≤ 4294967295)
    (h5 : 0 ≤ x.PAsk ∧ x.PAsk ≤ 4294967295) (h6 : 0 ≤ x.PDone ∧ x.PDone ≤ 4294967295) (h7 : 0 ≤ x.PGrant ∧ x.PGrant ≤ 4294967295) (h8 : 0 ≤ x.Since ∧ x.Since ≤ 4294967296) : x.fits = true := by
  simp only [Ls.fits, tm, Bool.and_eq_true, decide_eq_true_eq]
  omega
end Go.Proofs.YtcbmibgfmlpobaaGreat
end
section
set_option linter.unusedVariables false
set_option linter.unusedSimpArgs false
namespace Go.Fw
theorem dec_lt {j n : Nat} (h : j < n) : n - ((j + 1 : Nat) : Int).toNat < n - ((j : Nat) : Int).toNat := by omega
def inL (l : List Int) (n : Int) : Bool := decide (n ∈ l)
theorem xrun_iff (secs : List Sec) : ∀ (l seen : List Int), xrun secs l seen = true ↔ (∀ x ∈ l, ∃ s, geti secs x = some s ∧ s.Line = 0) ∧ l.Nodup ∧ ∀ x ∈ l, x ∉ seen
  | [], seen => by simp [xrun]
  | x :: r, seen => by
    rw [xrun]
    cases hg : geti secs x with
    | none =>
      refine ⟨fun e => by simp at e, fun ⟨h1, _⟩ => ?_⟩
      obtain ⟨s, h, _⟩ := h1 x (by simp)
      rw [hg] at h; cases h
    | some s =>
      simp only
      by_cases h : s.Line = 0 ∧ x ∉ seen
      · rw [if_pos h, xrun_iff secs r (x :: seen)]
        constructor
        · rintro ⟨h1, h2, h3⟩
          refine ⟨fun y hy => ?_, ?_, fun y hy => ?_⟩
          · rcases List.mem_cons.1 hy with rfl | hy
            · exact ⟨s, hg, h.1⟩
            · exact h1 y hy
          · exact List.nodup_cons.2 ⟨fun hx => h3 x hx (by simp), h2⟩
          · rcases List.mem_cons.1 hy with rfl | hy
            · exact h.2
            · exact fun hs => h3 y hy (by simp [hs])
        · rintro ⟨h1, h2, h3⟩
          obtain ⟨h4, h5⟩ := List.nodup_cons.1 h2
          refine ⟨fun y hy => h1 y (by simp [hy]), h5, fun y hy hs => ?_⟩
          rcases List.mem_cons.1 hs with rfl | hs
          · exact h4 hy
          · exact h3 y (by simp [hy]) hs
      · rw [if_neg h]
        refine ⟨fun e => by simp at e, fun ⟨h1, h2, h3⟩ => ?_⟩
        obtain ⟨s', q1, q2⟩ := h1 x (by simp)
        rw [hg] at q1; cases q1
        exact absurd ⟨q2, h3 x (by simp)⟩ h
theorem nxt_mem {js : List Jt} {s e : Int} {p : Int × Int} (h : nxt js s e = some p) : ∃ j ∈ js, (j.B = p.1 ∧ j.BEnd = p.2) ∨ (j.A = p.1 ∧ j.AEnd = p.2) := by
  induction js with
  | nil => cases h
  | cons j r ih =>
    rw [nxt] at h
    split at h
    · cases h; exact ⟨j, by simp, .inl ⟨rfl, rfl⟩⟩
    split at h
    · cases h; exact ⟨j, by simp, .inr ⟨rfl, rfl⟩⟩
    · obtain ⟨k, h1, h2⟩ := ih h
      exact ⟨k, by simp [h1], h2⟩
theorem nxt_sec {c : Cf} (ht : topoOk c.Secs c.Jts = true) {s e q f : Int} (h : nxt c.Jts s e = some (q, f)) : ∃ y, geti c.Secs q = some y := by
  obtain ⟨j, hj, h1⟩ := nxt_mem h
  obtain ⟨_, _, h3⟩ := (topoOk_iff _ _).1 ht
  obtain ⟨a, b, _⟩ := h3 j hj
  have : 0 ≤ q ∧ q < c.Secs.length := by rcases h1 with ⟨e1, _⟩ | ⟨e1, _⟩ <;> simp only at e1 <;> omega
  obtain ⟨y, hy⟩ := get_of_lt (l := c.Secs) (j := q.toNat) (by omega)
  exact ⟨y, by unfold geti; rw [if_neg (by omega), hy]⟩
theorem geti_ex {α : Type} {l : List α} {i : Int} (h0 : ¬ i < 0) (h1 : ¬ i ≥ (l.length : Int)) : ∃ x, geti l i = some x := by
  obtain ⟨x, hx⟩ := get_of_lt (l := l) (j := i.toNat) (by omega)
  exact ⟨x, by unfold geti; rw [if_neg h0]; exact hx⟩
end Go.Fw
namespace Go.Fw
end Go.Fw
end
section
set_option linter.unusedVariables false
set_option linter.unusedSimpArgs false
namespace Go.Fw
def apprS (c : Cf) (l : List Int) : List Rs → Nat → Bool
  | [], _ => false
  | r :: rs, j => (decide (r.State ≠ 0) && inL l (c.Approach j)) || apprS c l rs (j + 1)
end Go.Fw
end
section
set_option linter.unusedVariables false
set_option linter.unusedSimpArgs false
namespace Go.Fw
structure StOk (c : Cf) (r : Rt) (s : St) : Prop where
  sec : ∃ y, geti c.Secs s.Sec = some y ∧ (wpos (wayL y.Kind) s.In s.Out).isSome = true ∧ (r.Shunt = true → y.Line = 0)
theorem prunA_facts {c : Cf} (ht : topoOk c.Secs c.Jts = true) (r : Rt) (ex : Option Sg) : ∀ (l : List St) (a : Sg) (seen : List Int), prunA c r ex l a seen = true →
    (∀ s ∈ l, StOk c r s ∧ s.Sec ∉ seen) ∧ (l.map St.Sec).Nodup
  | [], a, seen, _ => ⟨fun s hs => by simp at hs, by simp⟩
  | s :: rest, a, seen, h => by
    rw [prunA, Bool.and_eq_true] at h
    obtain ⟨h1, h2⟩ := h
    obtain ⟨q1, q2⟩ := prunA_facts ht r ex rest _ _ h2
    unfold pstep at h1
    cases hn : nxt c.Jts a.Sec a.End_ with
    | none => rw [hn] at h1; cases h1
    | some p =>
      obtain ⟨q, i⟩ := p
      rw [hn] at h1
      obtain ⟨y, hy⟩ := nxt_sec ht hn
      simp only [hy, Option.getD_some, Bool.and_eq_true, decide_eq_true_eq, Bool.not_eq_true'] at h1
      obtain ⟨⟨⟨⟨⟨rfl, e2⟩, e3⟩, e4⟩, e5⟩, e6⟩ := h1
      refine ⟨fun x hx => ?_, ?_⟩
      · rcases List.mem_cons.1 hx with rfl | hx
        · refine ⟨⟨y, hy, e3, fun hs => ?_⟩, e4⟩
          rw [hs, Bool.true_and, decide_eq_false_iff_not] at e6
          exact Decidable.not_not.1 e6
        · obtain ⟨w1, w2⟩ := q1 x hx
          exact ⟨w1, fun hm => w2 (List.mem_cons_of_mem _ hm)⟩
      · rw [List.map_cons, List.nodup_cons]
        refine ⟨fun hm => ?_, q2⟩
        obtain ⟨x, hx, e⟩ := List.mem_map.1 hm
        exact (q1 x hx).2 (by rw [e]; simp)
structure RtOk (c : Cf) (r : Rt) : Prop where
  entry : ∃ a, geti c.Sigs r.Entry = some a
  exit_ : r.Exit = -1 ∨ ∃ x, geti c.Sigs r.Exit = some x
  len : 1 ≤ r.Path.length ∧ r.Path.length ≤ 8
  step : ∀ s ∈ r.Path, StOk c r s ∧ s.Sec ≠ c.approach r
  dup : (r.Path.map St.Sec).Nodup
  flank : r.Flank = c.flank (c.approach r) r.Path
  over : r.Overlap = c.overlap r
theorem routes_zero {c : Cf} : ∀ {l : List Rt}, c.routes l = 0 → ∀ r ∈ l, c.route r = 0
  | [], _, r, hr => by simp at hr
  | x :: l, h, r, hr => by
    rw [Cf.routes] at h
    split at h
    · rename_i hne; exact absurd h hne
    · rename_i he
      rcases List.mem_cons.1 hr with rfl | hr
      · simpa using he
      · exact routes_zero h r hr
theorem check_parts {c : Cf} (h : c.check = 0) : topoOk c.Secs c.Jts = true ∧ c.sigsOk = true ∧ c.xsOk = true ∧ c.Rts.length ≤ 12 ∧ c.routes c.Rts = 0 ∧ c.timing = true := by
  unfold Cf.check at h
  split at h
  · cases h
  split at h
  · cases h
  split at h
  · cases h
  split at h
  · cases h
  split at h
  · rename_i hne; exact absurd h hne
  split at h
  · rename_i h1 h2 h3 h4 h5 h6
    exact ⟨by simpa using h1, by simpa using h2, by simpa using h3, by omega, by simpa using h5, h6⟩
  · cases h
theorem path_ok {c : Cf} (ht : topoOk c.Secs c.Jts = true) {r : Rt} (h : c.route r = 0) : RtOk c r := by
  unfold Cf.route at h
  split at h
  · cases h
  split at h
  · cases h
  split at h
  · cases h
  rename_i h1 h2 h3
  have h1 : c.path r = true := by simpa using h1
  unfold Cf.path at h1
  cases hg : geti c.Sigs r.Entry with
  | none => rw [hg] at h1; cases h1
  | some a =>
    rw [hg] at h1
    simp only [Bool.and_eq_true, Bool.or_eq_true, decide_eq_true_eq] at h1
    obtain ⟨⟨e1, e2⟩, e3⟩ := h1
    obtain ⟨q1, q2⟩ := prunA_facts ht r _ _ _ _ e3
    have ha : c.approach r = a.Sec := by rw [Cf.approach, hg]; rfl
    refine ⟨⟨a, hg⟩, e1.imp id Option.isSome_iff_exists.1, e2, fun s hs => ⟨(q1 s hs).1, fun e => (q1 s hs).2 (by rw [e, ha]; simp)⟩, q2, Decidable.not_not.1 h2, Decidable.not_not.1 h3⟩
theorem check_rt {c : Cf} (h : c.check = 0) {r : Rt} (hr : r ∈ c.Rts) : RtOk c r := by
  obtain ⟨h1, _, _, _, h5, _⟩ := check_parts h
  exact path_ok h1 (routes_zero h5 r hr)
structure NdOk (c : Cf) (a : Int) (path : List St) (n : Nd) : Prop where
  sec : ∃ y, geti c.Secs n.Sec = some y ∧ y.Kind = 1
  pos : 1 ≤ n.Pos ∧ n.Pos ≤ 2
  app : n.Sec ≠ a
  path : hasSec path n.Sec = false
def FlOk (c : Cf) (a : Int) (path : List St) (out : List Nd) : Prop := (∀ n ∈ out, NdOk c a path n) ∧ (out.map Nd.Sec).Nodup
theorem flankStep_ok {c : Cf} {a : Int} {p : List St} {s : St} {out : List Nd} {e : Int} (h : FlOk c a p out) : FlOk c a p (flankStep c a p s out e) := by
  unfold flankStep
  split
  · exact h
  · split
    · exact h
    · split
      · exact h
      · rename_i y hy
        split
        · rename_i hc
          obtain ⟨c1, c2, c3, c4, c5⟩ := hc
          refine ⟨fun n hn => ?_, ?_⟩
          · rcases List.mem_append.1 hn with hn | hn
            · exact h.1 n hn
            · rw [List.mem_singleton] at hn; subst hn
              exact ⟨⟨y, hy, c1⟩, by simp only; omega, c3, c4⟩
          · rw [List.map_append, List.nodup_append]
            refine ⟨h.2, by simp, fun x hx z hz => ?_⟩
            simp only [List.map_cons, List.map_nil, List.mem_singleton] at hz
            subst hz
            intro e
            obtain ⟨n, hn, e2⟩ := List.mem_map.1 hx
            rw [List.any_eq_false] at c5
            exact c5 n hn (by rw [e2, e]; simp)
        · exact h
theorem flankEnds_ok {c : Cf} {a : Int} {p : List St} {s : St} : ∀ (n : Nat) (e : Int) (out : List Nd), FlOk c a p out → FlOk c a p (flankEnds c a p s n e out)
  | 0, _, _, h => h
  | n + 1, e, out, h => by rw [flankEnds]; exact flankEnds_ok n _ _ (flankStep_ok h)
theorem flankRun_ok {c : Cf} {a : Int} {p : List St} : ∀ (l : List St) (out : List Nd), FlOk c a p out → FlOk c a p (flankRun c a p l out)
  | [], _, h => h
  | s :: r, out, h => by
    rw [flankRun]
    refine flankRun_ok r _ ?_
    split
    · exact h
    · exact flankEnds_ok _ _ _ h
theorem flank_ok (c : Cf) (a : Int) (p : List St) : FlOk c a p (c.flank a p) := flankRun_ok p [] ⟨fun n h => by simp at h, by simp⟩
theorem flank_len (c : Cf) (a : Int) (p : List St) : (c.flank a p).length ≤ 4 * p.length := by
  have := (flankRun_len c a p p []).2
  simpa [Cf.flank] using this
theorem over_ok {c : Cf} {r : Rt} {q : Int} (h : q ∈ c.overlap r) : (∃ y, geti c.Secs q = some y ∧ y.Line = 0) ∧ hasSec r.Path q = false ∧ q ≠ c.approach r := by
  unfold Cf.overlap at h
  split at h
  · simp at h
  split at h
  · simp at h
  split at h
  · simp at h
  split at h
  · simp at h
  rename_i y hy
  split at h
  · rename_i hc
    rw [List.mem_singleton] at h; subst h
    exact ⟨⟨y, hy, hc.1⟩, hc.2.1, hc.2.2⟩
  · simp at h
theorem over_len (c : Cf) (r : Rt) : (c.overlap r).length ≤ 1 := by
  unfold Cf.overlap
  split
  · simp
  split
  · simp
  split
  · simp
  split
  · simp
  split <;> simp
theorem RtOk.fl {c : Cf} {r : Rt} (h : RtOk c r) : FlOk c (c.approach r) r.Path r.Flank := by rw [h.flank]; exact flank_ok _ _ _
theorem RtOk.flen {c : Cf} {r : Rt} (h : RtOk c r) : r.Flank.length ≤ 32 := by
  rw [h.flank]; have := flank_len c (c.approach r) r.Path; have := h.len; omega
theorem RtOk.olen {c : Cf} {r : Rt} (h : RtOk c r) : r.Overlap.length ≤ 1 := by rw [h.over]; exact over_len _ _
theorem RtOk.ov {c : Cf} {r : Rt} (h : RtOk c r) {q : Int} (hq : q ∈ r.Overlap) : (∃ y, geti c.Secs q = some y ∧ y.Line = 0) ∧ hasSec r.Path q = false ∧ q ≠ c.approach r := by rw [h.over] at hq; exact over_ok hq
theorem check_xs {c : Cf} (h : c.check = 0) : (∀ x ∈ c.Xs, ∃ s, geti c.Secs x = some s ∧ s.Line = 0) ∧ c.Xs.Nodup ∧ c.Xs.length ≤ 4 := by
  obtain ⟨_, _, h3, _⟩ := check_parts h
  rw [Cf.xsOk, Bool.and_eq_true, xrun_iff] at h3
  exact ⟨h3.1.1, h3.1.2.1, of_decide_eq_true h3.2⟩
theorem geti_nat {α : Type} {l : List α} {j : Nat} : geti l (j : Int) = l[j]? := by unfold geti; rw [if_neg (by omega), Int.toNat_natCast]
end Go.Fw
namespace Go.Fw
end Go.Fw
end
