/-
  Proofs that the statement of this claim leans on: part 4.
-/
import Derived.Test.YtaklhjodjbgmgaaGreatP3
section
set_option maxRecDepth 100000
set_option linter.unusedVariables false
namespace Go.Proofs.YtaklhjodjbgmgaaGreat
open Go.Fw Go.Proofs
def an_yard_New : Ann := { esc := [39, 111], cbs := [], draws := [(6, { ord := [0, 1, 3, 4, 6, 7, 9, 10, 2, 12, 5, 8, 11, 13, 14, 15, 16, 17, 18, 19], nb := [4, 7, 10], av := [], dir := [] }), (13, { ord := [0, 1, 2, 3, 4, 5, 6, 8, 9, 7, 10, 11, 12, 13, 14, 15], nb := [9], av := [], dir := [], sp := [7] }), (21, { ord := [0, 1, 2, 3, 4, 5, 6, 7, 8, 9, 11, 12, 10, 13, 14, 15, 16, 17, 18, 19, 20], nb := [11], av := [], dir := [], sp := [10, 13] })], loops := [(9, { mods := [(42, SlotSh.one (Sh.int IntKind.i64))], keep := [2, 7, 40, 41] }), (19, { mods := [(93, SlotSh.one (Sh.int IntKind.i64))], keep := [2, 7] })], joins := [] }
def V_yard_New (c0 : D) (c1 : D) (c2 : D) (c3 : D) (c4 : D) (c5 : Int) (c6 : Int) (c7 : Int) (c8 : Int) (trains : D) (σ : Store) (Qp : RV → Store → Prop) : Prop :=
  DCalls Tryz.prog n_conf_Check [.agg [c0, c1, c2, c3, c4, .int .i64 c5, .int .i64 c6, .int .i64 c7, .int .i64 c8]] σ (fun (r : RV) => fun (σ' : Store) => ∃ n : Int, (r = (.a (.one (.int .i64 n)) : RV)) ∧ bcase (n != 0) (Qp (.tup [.one .nilp, .one (.int .i64 n)]) σ') (∃ len : Nat, (Len trains len) ∧ bcase (decide ((len : Int) > 4)) (Qp (.tup [.one .nilp, .one (.int .i64 5)]) σ') (DCalls Tryz.prog n_slices_Clone_Section [.one c0] σ' (fun (r1 : RV) => fun (σ'1 : Store) => ∃ d : D, (r1 = (.a (.one d) : RV)) ∧ DCalls Tryz.prog n_slices_Clone_Joint [.one c1] σ'1 (fun (r2 : RV) => fun (σ'2 : Store) => ∃ d1 : D, (r2 = (.a (.one d1) : RV)) ∧ DCalls Tryz.prog n_slices_Clone_Signal [.one c2] σ'2 (fun (r3 : RV) => fun (σ'3 : Store) => ∃ d2 : D, (r3 = (.a (.one d2) : RV)) ∧ DCalls Tryz.prog n_slices_Clone_int [.one c3] σ'3 (fun (r4 : RV) => fun (σ'4 : Store) => ∃ d3 : D, (r4 = (.a (.one d3) : RV)) ∧ Fw.newObj σ'4 (.mp 0 []) (fun (id : Nat) => fun (σ'5 : Store) => Fw.newObj σ'5 (.live t_yard_Yard [[.omap id, d, d1, d2, d3, c4, .int .i64 c5, .int .i64 c6, .int .i64 c7, .int .i64 c8, .nils, .nils, .nils, .nils, .nils, .int .i64 0]]) (fun (id1 : Nat) => fun (σ'6 : Store) => ∃ len1 : Nat, (Len trains len1) ∧ ∃ I : Int → Store → Prop, ∃ μ : Int → Store → Nat, (I 0 σ'6) ∧ ∀ n1 : Int, ∀ σ'7 : Store, (I n1 σ'7) → bcase (decide (n1 < (len1 : Int))) (∃ len2 : Nat, (Idx Tryz.prog σ'7 trains 2 len2) ∧ ((0 : Int) ≤ n1) ∧ (n1 < (len2 : Int)) ∧ ∃ row : List D, (Row σ'7 trains (Int.toNat n1) row) ∧ ∃ d4 : D, ∃ n2 : Int, ((List.take 2 row) = ([d4, .int .i64 n2] : List D)) ∧ DCalls Tryz.prog n_yard_Yard_fits [.one (.el (.osl id1 0 1) 0 0), .agg [d4, .int .i64 n2]] σ'7 (fun (r5 : RV) => fun (σ'8 : Store) => ∃ b : Bool, (r5 = (.a (.one (.bool b)) : RV)) ∧ bcase (!b) (Qp (.tup [.one .nilp, .one (.int .i64 30)]) σ'8) (∃ pre : List A → Store → Prop, ∃ post : List A → Store → RV → Store → Prop, (SpecOk Tryz.prog n_slices_Clone_int pre post) ∧ ∃ row1 : List D, (Row σ'8 (.osl id1 0 1) 0 row1) ∧ ∃ d5 : D, ((List.take 1 (List.drop 14 row1)) = ([d5] : List D)) ∧ (pre [.one d4] σ'8) ∧ ∀ r6 : RV, ∀ s : Store, (post [.one d4] σ'8 r6 s) → ∃ d6 : D, (r6 = (.a (.one d6) : RV)) ∧ Fw.newObj s (.live t_Train [[d6, .int .i64 n2]]) (fun (id2 : Nat) => fun (σ'9 : Store) => appendTo Tryz.prog σ'9 t_Train 32 d5 (.osl id2 0 1) (fun (d7 : D) => fun (σ'10 : Store) => storeEl [d7] σ'10 (.osl id1 0 1) 0 14 (fun (σ'11 : Store) => (([[d, d1, d2, d3, c4, .int .i64 c5, .int .i64 c6, .int .i64 c7, .int .i64 c8]] : List (List D)) = ([[d, d1, d2, d3, c4, .int .i64 c5, .int .i64 c6, .int .i64 c7, .int .i64 c8]] : List (List D))) ∧ (I (w64 (n1 + 1)) σ'11) ∧ ((μ (w64 (n1 + 1)) σ'11) < (μ n1 σ'7)))))))) (Fw.newObj σ'7 (.live t_yard_thing [[.int .i64 1, .int .i64 1, .int .i64 0]]) (fun (id2 : Nat) => fun (σ'8 : Store) => ∃ len2 : Nat, (Len d len2) ∧ DCalls Tryz.prog n_slices_Repeat_yard_thing [.one (.osl id2 0 1), .one (.int .i64 (len2 : Int))] σ'8 (fun (r5 : RV) => fun (σ'9 : Store) => ∃ d4 : D, (r5 = (.a (.one d4) : RV)) ∧ storeEl [d4] σ'9 (.osl id1 0 1) 0 10 (fun (σ'10 : Store) => Fw.newObj σ'10 (.live t_yard_thing [[.int .i64 1, .int .i64 1, .int .i64 0]]) (fun (id3 : Nat) => fun (σ'11 : Store) => ∃ len3 : Nat, (Len d3 len3) ∧ DCalls Tryz.prog n_slices_Repeat_yard_thing [.one (.osl id3 0 1), .one (.int .i64 (len3 : Int))] σ'11 (fun (r6 : RV) => fun (σ'12 : Store) => ∃ d5 : D, (r6 = (.a (.one d5) : RV)) ∧ storeEl [d5] σ'12 (.osl id1 0 1) 0 11 (fun (σ'13 : Store) => Fw.newObj σ'13 (.live t_yard_lamp [[.int .i64 0, .int .i64 (-1)]]) (fun (id4 : Nat) => fun (σ'14 : Store) => ∃ len4 : Nat, (Len d2 len4) ∧ DCalls Tryz.prog n_slices_Repeat_yard_lamp [.one (.osl id4 0 1), .one (.int .i64 (len4 : Int))] σ'14 (fun (r7 : RV) => fun (σ'15 : Store) => ∃ d6 : D, (r7 = (.a (.one d6) : RV)) ∧ storeEl [d6] σ'15 (.osl id1 0 1) 0 12 (fun (σ'16 : Store) => ∃ I1 : Int → Store → Prop, ∃ μ1 : Int → Store → Nat, (I1 0 σ'16) ∧ ∀ n2 : Int, ∀ σ'17 : Store, (I1 n2 σ'17) → bcase (decide (n2 < 4)) (∃ pre : List A → Store → Prop, ∃ post : List A → Store → RV → Store → Prop, (SpecOk Tryz.prog n_link_NewReceiver pre post) ∧ ∃ pre1 : List A → Store → Prop, ∃ post1 : List A → Store → RV → Store → Prop, (SpecOk Tryz.prog n_tele_Shape pre1 post1) ∧ ∃ row : List D, (Row σ'17 (.osl id1 0 1) 0 row) ∧ ∃ d7 : D, ((List.take 1 (List.drop 13 row)) = ([d7] : List D)) ∧ (pre [.one (.int .i64 (w64 (n2 + 50))), .one (.int .i64 c5)] σ'17) ∧ ∀ r8 : RV, ∀ s : Store, (post [.one (.int .i64 (w64 (n2 + 50))), .one (.int .i64 c5)] σ'17 r8 s) → ∃ d8 : D, (r8 = (.a (.one d8) : RV)) ∧ (pre1 [.agg [d, d1, d2, d3, c4, .int .i64 c5, .int .i64 c6, .int .i64 c7, .int .i64 c8], .one (.int .i64 n2)] s) ∧ ∀ r9 : RV, ∀ s1 : Store, (post1 [.agg [d, d1, d2, d3, c4, .int .i64 c5, .int .i64 c6, .int .i64 c7, .int .i64 c8], .one (.int .i64 n2)] s r9 s1) → ∃ d9 : D, ∃ d10 : D, ∃ d11 : D, ∃ d12 : D, (r9 = (.a (.agg [d9, d10, d11, d12]) : RV)) ∧ Fw.newObj s1 (.live t_yard_post [[d8, d9, d10, d11, d12, .int .i64 (-1)]]) (fun (id5 : Nat) => fun (σ'18 : Store) => Fw.newObj σ'18 (.live t_p_yard_post [[.el (.osl id5 0 1) 0 0]]) (fun (id6 : Nat) => fun (σ'19 : Store) => appendTo Tryz.prog σ'19 t_p_yard_post 8 d7 (.osl id6 0 1) (fun (d13 : D) => fun (σ'20 : Store) => storeEl [d13] σ'20 (.osl id1 0 1) 0 13 (fun (σ'21 : Store) => (([[d, d1, d2, d3, c4, .int .i64 c5, .int .i64 c6, .int .i64 c7, .int .i64 c8]] : List (List D)) = ([[d, d1, d2, d3, c4, .int .i64 c5, .int .i64 c6, .int .i64 c7, .int .i64 c8]] : List (List D))) ∧ (I1 (w64 (n2 + 1)) σ'21) ∧ ((μ1 (w64 (n2 + 1)) σ'21) < (μ1 n2 σ'17))))))) (Qp (.tup [.one (.el (.osl id1 0 1) 0 0), .one (.int .i64 0)]) σ'17))))))))))))))))))))
theorem W_yard_New (c0 : D) (c1 : D) (c2 : D) (c3 : D) (c4 : D) (c5 : Int) (c6 : Int) (c7 : Int) (c8 : Int) (trains : D) (σ : Store) (Qp : RV → Store → Prop) (h : V_yard_New c0 c1 c2 c3 c4 c5 c6 c7 c8 trains σ Qp) : DCalls Tryz.prog n_yard_New [.agg [c0, c1, c2, c3, c4, .int .i64 c5, .int .i64 c6, .int .i64 c7, .int .i64 c8], .one trains] σ Qp :=
  dcalls_of_body mixed (by kernel_rfl) Tryz.func9 an_yard_New ((show V_yard_New c0 c1 c2 c3 c4 c5 c6 c7 c8 trains σ Qp = dbody Tryz.prog Tryz.f9 an_yard_New [.agg [c0, c1, c2, c3, c4, .int .i64 c5, .int .i64 c6, .int .i64 c7, .int .i64 c8], .one trains] σ Qp by kernel_rfl) ▸ h)
def an_yard_Yard_Tick : Ann := { esc := [], cbs := [], draws := [(5, { ord := [0, 1, 2, 3, 4, 5, 6, 7, 8, 9, 10, 11], nb := [], av := [], dir := [], sp := [10] }), (10, { ord := [0, 1, 2, 3, 4, 5, 6, 7, 8, 9, 10, 11], nb := [], av := [], dir := [], sp := [10] })], loops := [(3, { mods := [(21, SlotSh.one (Sh.int IntKind.i64))], keep := [0, 20] }), (8, { mods := [(42, SlotSh.one (Sh.int IntKind.i64))], keep := [0, 41] })], joins := [] }
def V_yard_Yard_Tick (y : D) (now : Int) (σ : Store) (Qp : RV → Store → Prop) : Prop :=
  (NotNil y) ∧ ∃ s : D, ∃ i : Nat, ∃ off : Nat, (y = (.el s i off : D)) ∧ ∃ row : List D, (Row σ s i row) ∧ ∃ n : Int, ((List.take 1 (List.drop (off + 15) row)) = ([.int .i64 n] : List D)) ∧ bcase (decide (now ≤ n)) (Qp (.tup []) σ) ((NotNil y) ∧ ∃ s1 : D, ∃ i1 : Nat, ∃ off1 : Nat, (y = (.el s1 i1 off1 : D)) ∧ storeEl [.int .i64 now] σ s1 i1 (off1 + 15) (fun (σ' : Store) => (NotNil y) ∧ ∃ s2 : D, ∃ i2 : Nat, ∃ off2 : Nat, (y = (.el s2 i2 off2 : D)) ∧ ∃ row1 : List D, (Row σ' s2 i2 row1) ∧ ∃ d : D, ((List.take 1 (List.drop (off2 + 10) row1)) = ([d] : List D)) ∧ ∃ len : Nat, (Len d len) ∧ ∃ I : Int → Store → Prop, ∃ μ : Int → Store → Nat, (I 0 σ') ∧ ∀ n1 : Int, ∀ σ'1 : Store, (I n1 σ'1) → bcase (decide (n1 < (len : Int))) (∃ pre : List A → Store → Prop, ∃ post : List A → Store → RV → Store → Prop, (SpecOk Tryz.prog n_yard_faults_fault pre post) ∧ (NotNil y) ∧ ∃ s3 : D, ∃ i3 : Nat, ∃ off3 : Nat, (y = (.el s3 i3 off3 : D)) ∧ ∃ row2 : List D, (Row σ'1 s3 i3 row2) ∧ ∃ d1 : D, ((List.take 1 (List.drop (off3 + 10) row2)) = ([d1] : List D)) ∧ ∃ len1 : Nat, (Idx Tryz.prog σ'1 d1 3 len1) ∧ ((0 : Int) ≤ n1) ∧ (n1 < (len1 : Int)) ∧ (NotNil y) ∧ ∃ s4 : D, ∃ i4 : Nat, ∃ off4 : Nat, (y = (.el s4 i4 off4 : D)) ∧ (pre [.one (.el s4 i4 (off4 + 0)), .one (.int .i64 3), .one (.int .i64 n1)] σ'1) ∧ ∀ r : RV, ∀ s5 : Store, (post [.one (.el s4 i4 (off4 + 0)), .one (.int .i64 3), .one (.int .i64 n1)] σ'1 r s5) → ∃ b : Bool, (r = (.a (.one (.bool b)) : RV)) ∧ DCalls Tryz.prog n_yard_thing_tick [.one (.el d1 (Int.toNat n1) 0), .one (.bool b)] s5 (fun (r1 : RV) => fun (σ'2 : Store) => (r1 = (.tup [] : RV)) ∧ (I (w64 (n1 + 1)) σ'2) ∧ ((μ (w64 (n1 + 1)) σ'2) < (μ n1 σ'1)))) ((NotNil y) ∧ ∃ s3 : D, ∃ i3 : Nat, ∃ off3 : Nat, (y = (.el s3 i3 off3 : D)) ∧ ∃ row2 : List D, (Row σ'1 s3 i3 row2) ∧ ∃ d1 : D, ((List.take 1 (List.drop (off3 + 11) row2)) = ([d1] : List D)) ∧ ∃ len1 : Nat, (Len d1 len1) ∧ ∃ I1 : Int → Store → Prop, ∃ μ1 : Int → Store → Nat, (I1 0 σ'1) ∧ ∀ n2 : Int, ∀ σ'2 : Store, (I1 n2 σ'2) → bcase (decide (n2 < (len1 : Int))) (∃ pre : List A → Store → Prop, ∃ post : List A → Store → RV → Store → Prop, (SpecOk Tryz.prog n_yard_faults_fault pre post) ∧ (NotNil y) ∧ ∃ s4 : D, ∃ i4 : Nat, ∃ off4 : Nat, (y = (.el s4 i4 off4 : D)) ∧ ∃ row3 : List D, (Row σ'2 s4 i4 row3) ∧ ∃ d2 : D, ((List.take 1 (List.drop (off4 + 11) row3)) = ([d2] : List D)) ∧ ∃ len2 : Nat, (Idx Tryz.prog σ'2 d2 3 len2) ∧ ((0 : Int) ≤ n2) ∧ (n2 < (len2 : Int)) ∧ (NotNil y) ∧ ∃ s5 : D, ∃ i5 : Nat, ∃ off5 : Nat, (y = (.el s5 i5 off5 : D)) ∧ (pre [.one (.el s5 i5 (off5 + 0)), .one (.int .i64 6), .one (.int .i64 n2)] σ'2) ∧ ∀ r : RV, ∀ s6 : Store, (post [.one (.el s5 i5 (off5 + 0)), .one (.int .i64 6), .one (.int .i64 n2)] σ'2 r s6) → ∃ b : Bool, (r = (.a (.one (.bool b)) : RV)) ∧ DCalls Tryz.prog n_yard_thing_tick [.one (.el d2 (Int.toNat n2) 0), .one (.bool b)] s6 (fun (r1 : RV) => fun (σ'3 : Store) => (r1 = (.tup [] : RV)) ∧ (I1 (w64 (n2 + 1)) σ'3) ∧ ((μ1 (w64 (n2 + 1)) σ'3) < (μ1 n2 σ'2)))) (Qp (.tup []) σ'2))))
theorem W_yard_Yard_Tick (y : D) (now : Int) (σ : Store) (Qp : RV → Store → Prop) (h : V_yard_Yard_Tick y now σ Qp) : DCalls Tryz.prog n_yard_Yard_Tick [.one y, .one (.int .i64 now)] σ Qp :=
  dcalls_of_body mixed (by kernel_rfl) Tryz.func13 an_yard_Yard_Tick ((show V_yard_Yard_Tick y now σ Qp = dbody Tryz.prog Tryz.f13 an_yard_Yard_Tick [.one y, .one (.int .i64 now)] σ Qp by kernel_rfl) ▸ h)
def an_slices_Clone_Section : Ann := { esc := [], cbs := [], draws := [], loops := [], joins := [] }
def V_slices_Clone_Section (s : D) (σ : Store) (Qp : RV → Store → Prop) : Prop :=
  ∃ b : Bool, (IsNil .sl s b) ∧ bcase (b != false) (Qp (.a (.one .nils)) σ) (Fw.newObj σ (.live t_Section []) (fun (id : Nat) => fun (σ' : Store) => appendTo Tryz.prog σ' t_Section 24 (.osl id 0 0) s (fun (d : D) => fun (σ'1 : Store) => Qp (.a (.one d)) σ'1)))
theorem W_slices_Clone_Section (s : D) (σ : Store) (Qp : RV → Store → Prop) (h : V_slices_Clone_Section s σ Qp) : DCalls Tryz.prog n_slices_Clone_Section [.one s] σ Qp :=
  dcalls_of_body mixed (by kernel_rfl) Tryz.func29 an_slices_Clone_Section ((show V_slices_Clone_Section s σ Qp = dbody Tryz.prog Tryz.f29 an_slices_Clone_Section [.one s] σ Qp by kernel_rfl) ▸ h)
def an_yard_Yard_fits : Ann := { esc := [], cbs := [3], draws := [(1, { ord := [0, 1, 2, 3, 4, 5, 6, 7, 8, 9, 10, 11, 12, 13, 14, 15, 16, 17, 18, 19, 20, 21, 22, 23], nb := [], av := [], dir := [] })], loops := [], joins := [(3, { mods := [], keep := [0, 3] })] }
def V_yard_Yard_fits (y : D) (t0 : D) (t1 : Int) (σ : Store) (Qp : RV → Store → Prop) : Prop :=
  ∀ R : Store → Prop, (∀ σ' : Store, (∃ len : Nat, (Idx Tryz.prog σ' t0 1 len) ∧ ((0 : Int) ≤ 0) ∧ ((0 : Int) < (len : Int)) ∧ ∃ row : List D, (Row σ' t0 0 row) ∧ ∃ n : Int, ((List.take 1 row) = ([.int .i64 n] : List D)) ∧ (NotNil y) ∧ ∃ s : D, ∃ i : Nat, ∃ off : Nat, (y = (.el s i off : D)) ∧ ∃ row1 : List D, (Row σ' s i row1) ∧ ∃ d : D, ((List.take 1 (List.drop ((off + 1) + 0) row1)) = ([d] : List D)) ∧ ∃ len1 : Nat, (Idx Tryz.prog σ' d 3 len1) ∧ ((0 : Int) ≤ n) ∧ (n < (len1 : Int)) ∧ ∃ row2 : List D, (Row σ' d (Int.toNat n) row2) ∧ ∃ n1 : Int, ((List.take 1 row2) = ([.int .i64 n1] : List D)) ∧ bcase (n1 == 0) (bcase (t1 == 0) (DCalls Tryz.prog n_yard_Yard_there [.one y, .one (.int .i64 n)] σ' (fun (r : RV) => fun (σ'1 : Store) => ∃ n2 : Int, (r = (.a (.one (.int .i64 n2)) : RV)) ∧ bcase (n2 == 0) (DCalls Tryz.prog n_yard_Yard_stands [.one y, .one (.int .i64 n), .one (.int .i64 t1)] σ'1 (fun (r1 : RV) => fun (σ'2 : Store) => ∃ b : Bool, (r1 = (.a (.one (.bool b)) : RV)) ∧ Qp (.a (.one (.bool b))) σ'2)) (Qp (.a (.one (.bool false))) σ'1))) (bcase (t1 == 1) (DCalls Tryz.prog n_yard_Yard_there [.one y, .one (.int .i64 n)] σ' (fun (r : RV) => fun (σ'1 : Store) => ∃ n2 : Int, (r = (.a (.one (.int .i64 n2)) : RV)) ∧ bcase (n2 == 0) (DCalls Tryz.prog n_yard_Yard_stands [.one y, .one (.int .i64 n), .one (.int .i64 t1)] σ'1 (fun (r1 : RV) => fun (σ'2 : Store) => ∃ b : Bool, (r1 = (.a (.one (.bool b)) : RV)) ∧ Qp (.a (.one (.bool b))) σ'2)) (Qp (.a (.one (.bool false))) σ'1))) (Qp (.a (.one (.bool false))) σ'))) (Qp (.a (.one (.bool false))) σ')) → R σ') → ∃ len : Nat, (Len t0 len) ∧ bcase ((len : Int) != 1) (Qp (.a (.one (.bool false))) σ) (∃ len1 : Nat, (Idx Tryz.prog σ t0 1 len1) ∧ ((0 : Int) ≤ 0) ∧ ((0 : Int) < (len1 : Int)) ∧ ∃ row : List D, (Row σ t0 0 row) ∧ ∃ n : Int, ((List.take 1 row) = ([.int .i64 n] : List D)) ∧ bcase (decide (n < 0)) (Qp (.a (.one (.bool false))) σ) (∃ len2 : Nat, (Idx Tryz.prog σ t0 1 len2) ∧ ((0 : Int) ≤ 0) ∧ ((0 : Int) < (len2 : Int)) ∧ ∃ row1 : List D, (Row σ t0 0 row1) ∧ ∃ n1 : Int, ((List.take 1 row1) = ([.int .i64 n1] : List D)) ∧ (NotNil y) ∧ ∃ s : D, ∃ i : Nat, ∃ off : Nat, (y = (.el s i off : D)) ∧ ∃ row2 : List D, (Row σ s i row2) ∧ ∃ d : D, ((List.take 1 (List.drop ((off + 1) + 0) row2)) = ([d] : List D)) ∧ ∃ len3 : Nat, (Len d len3) ∧ bcase (decide (n1 ≥ (len3 : Int))) (Qp (.a (.one (.bool false))) σ) (R σ)))
theorem W_yard_Yard_fits (y : D) (t0 : D) (t1 : Int) (σ : Store) (Qp : RV → Store → Prop) (h : V_yard_Yard_fits y t0 t1 σ Qp) : DCalls Tryz.prog n_yard_Yard_fits [.one y, .agg [t0, .int .i64 t1]] σ Qp :=
  dcalls_of_body mixed (by kernel_rfl) Tryz.func33 an_yard_Yard_fits ((show V_yard_Yard_fits y t0 t1 σ Qp = dbody Tryz.prog Tryz.f33 an_yard_Yard_fits [.one y, .agg [t0, .int .i64 t1]] σ Qp by kernel_rfl) ▸ h)
def an_tele_Shape : Ann := { esc := [2, 3], cbs := [], draws := [], loops := [(4, { mods := [(6, SlotSh.bx [Sh.any, Sh.any, Sh.any, Sh.any]), (17, SlotSh.one (Sh.int IntKind.i64))], keep := [2, 4, 5, 15, 16] }), (12, { mods := [(6, SlotSh.bx [Sh.any, Sh.any, Sh.any, Sh.any]), (44, SlotSh.one (Sh.int IntKind.i64))], keep := [2, 4, 5, 42, 43] }), (18, { mods := [(6, SlotSh.bx [Sh.any, Sh.any, Sh.any, Sh.any]), (62, SlotSh.one (Sh.int IntKind.i64))], keep := [4, 5, 60, 61] })], joins := [] }
def V_tele_Shape (c0 : D) (c1 : D) (c2 : D) (c3 : D) (c4 : D) (c5 : Int) (c6 : Int) (c7 : Int) (c8 : Int) (oc : Int) (σ : Store) (Qp : RV → Store → Prop) : Prop :=
  Fw.newObj σ (.live t_Config [[c0, c1, c2, c3, c4, .int .i64 c5, .int .i64 c6, .int .i64 c7, .int .i64 c8]]) (fun (id : Nat) => fun (σ' : Store) => Fw.newObj σ' (.live t_int [[.int .i64 oc]]) (fun (id1 : Nat) => fun (σ'1 : Store) => ∃ row : List D, (Row σ'1 (.osl id 0 1) 0 row) ∧ ∃ d : D, ((List.take 1 row) = ([d] : List D)) ∧ ∃ len : Nat, (Len d len) ∧ ∃ I : D → D → D → D → Int → Store → Prop, ∃ μ : D → D → D → D → Int → Store → Nat, (I .nils .nils .nils .nils 0 σ'1) ∧ ∀ d1 : D, ∀ d2 : D, ∀ d3 : D, ∀ d4 : D, ∀ n : Int, ∀ σ'2 : Store, (I d1 d2 d3 d4 n σ'2) → bcase (decide (n < (len : Int))) (∃ len1 : Nat, (Idx Tryz.prog σ'2 d 3 len1) ∧ ((0 : Int) ≤ n) ∧ (n < (len1 : Int)) ∧ ∃ row1 : List D, (Row σ'2 d (Int.toNat n) row1) ∧ ∃ n1 : Int, ∃ n2 : Int, ∃ n3 : Int, ((List.take 3 row1) = ([.int .i64 n1, .int .i64 n2, .int .i64 n3] : List D)) ∧ ∃ f : FuncId, ∃ a : List (Bool × (List D)), ∃ b : List (Bool × (List D)), ∃ as0' : List A, ∃ bs : List A, ((.fn n_tele_Shape_1 [] [(false, [.el (.osl id 0 1) 0 0]), (false, [.el (.osl id1 0 1) 0 0])] : D) = (.fn f a b : D)) ∧ ((capAs a) = (Option.some as0')) ∧ ((capAs b) = (Option.some bs)) ∧ DCalls Tryz.prog f (HAppend.hAppend (HAppend.hAppend as0' [.one (.int .i64 n)]) bs) σ'2 (fun (r : RV) => fun (σ'3 : Store) => ∃ b1 : Bool, (r = (.a (.one (.bool b1)) : RV)) ∧ bcase b1 (Fw.newObj σ'3 (.live t_int [[.int .i64 n]]) (fun (id2 : Nat) => fun (σ'4 : Store) => appendTo Tryz.prog σ'4 t_int 8 d1 (.osl id2 0 1) (fun (d5 : D) => fun (σ'5 : Store) => bcase (n1 == 1) (Fw.newObj σ'5 (.live t_int [[.int .i64 n]]) (fun (id3 : Nat) => fun (σ'6 : Store) => appendTo Tryz.prog σ'6 t_int 8 d2 (.osl id3 0 1) (fun (d6 : D) => fun (σ'7 : Store) => (([[.nils, .nils, .nils, .nils]] : List (List D)) = ([[.nils, .nils, .nils, .nils]] : List (List D))) ∧ (I d5 d6 d3 d4 (w64 (n + 1)) σ'7) ∧ ((μ d5 d6 d3 d4 (w64 (n + 1)) σ'7) < (μ d1 d2 d3 d4 n σ'2))))) ((([[.nils, .nils, .nils, .nils]] : List (List D)) = ([[.nils, .nils, .nils, .nils]] : List (List D))) ∧ (I d5 d2 d3 d4 (w64 (n + 1)) σ'5) ∧ ((μ d5 d2 d3 d4 (w64 (n + 1)) σ'5) < (μ d1 d2 d3 d4 n σ'2)))))) ((([[.nils, .nils, .nils, .nils]] : List (List D)) = ([[.nils, .nils, .nils, .nils]] : List (List D))) ∧ (I d1 d2 d3 d4 (w64 (n + 1)) σ'3) ∧ ((μ d1 d2 d3 d4 (w64 (n + 1)) σ'3) < (μ d1 d2 d3 d4 n σ'2))))) (∃ row1 : List D, (Row σ'2 (.osl id 0 1) 0 row1) ∧ ∃ d5 : D, ((List.take 1 (List.drop 3 row1)) = ([d5] : List D)) ∧ ∃ len1 : Nat, (Len d5 len1) ∧ ∃ I1 : D → D → D → D → Int → Store → Prop, ∃ μ1 : D → D → D → D → Int → Store → Nat, (I1 d1 d2 d3 d4 0 σ'2) ∧ ∀ d6 : D, ∀ d7 : D, ∀ d8 : D, ∀ d9 : D, ∀ n1 : Int, ∀ σ'3 : Store, (I1 d6 d7 d8 d9 n1 σ'3) → bcase (decide (n1 < (len1 : Int))) (∃ len2 : Nat, (Idx Tryz.prog σ'3 d5 1 len2) ∧ ((0 : Int) ≤ n1) ∧ (n1 < (len2 : Int)) ∧ ∃ row2 : List D, (Row σ'3 d5 (Int.toNat n1) row2) ∧ ∃ n2 : Int, ((List.take 1 row2) = ([.int .i64 n2] : List D)) ∧ ∃ f : FuncId, ∃ a : List (Bool × (List D)), ∃ b : List (Bool × (List D)), ∃ as0' : List A, ∃ bs : List A, ((.fn n_tele_Shape_1 [] [(false, [.el (.osl id 0 1) 0 0]), (false, [.el (.osl id1 0 1) 0 0])] : D) = (.fn f a b : D)) ∧ ((capAs a) = (Option.some as0')) ∧ ((capAs b) = (Option.some bs)) ∧ DCalls Tryz.prog f (HAppend.hAppend (HAppend.hAppend as0' [.one (.int .i64 n2)]) bs) σ'3 (fun (r : RV) => fun (σ'4 : Store) => ∃ b1 : Bool, (r = (.a (.one (.bool b1)) : RV)) ∧ bcase b1 (Fw.newObj σ'4 (.live t_int [[.int .i64 n1]]) (fun (id2 : Nat) => fun (σ'5 : Store) => appendTo Tryz.prog σ'5 t_int 8 d8 (.osl id2 0 1) (fun (d10 : D) => fun (σ'6 : Store) => (([[.nils, .nils, .nils, .nils]] : List (List D)) = ([[.nils, .nils, .nils, .nils]] : List (List D))) ∧ (I1 d6 d7 d10 d9 (w64 (n1 + 1)) σ'6) ∧ ((μ1 d6 d7 d10 d9 (w64 (n1 + 1)) σ'6) < (μ1 d6 d7 d8 d9 n1 σ'3))))) ((([[.nils, .nils, .nils, .nils]] : List (List D)) = ([[.nils, .nils, .nils, .nils]] : List (List D))) ∧ (I1 d6 d7 d8 d9 (w64 (n1 + 1)) σ'4) ∧ ((μ1 d6 d7 d8 d9 (w64 (n1 + 1)) σ'4) < (μ1 d6 d7 d8 d9 n1 σ'3))))) (∃ row2 : List D, (Row σ'3 (.osl id 0 1) 0 row2) ∧ ∃ d10 : D, ((List.take 1 (List.drop 2 row2)) = ([d10] : List D)) ∧ ∃ len2 : Nat, (Len d10 len2) ∧ ∃ I2 : D → D → D → D → Int → Store → Prop, ∃ μ2 : D → D → D → D → Int → Store → Nat, (I2 d6 d7 d8 d9 0 σ'3) ∧ ∀ d11 : D, ∀ d12 : D, ∀ d13 : D, ∀ d14 : D, ∀ n2 : Int, ∀ σ'4 : Store, (I2 d11 d12 d13 d14 n2 σ'4) → bcase (decide (n2 < (len2 : Int))) (∃ len3 : Nat, (Idx Tryz.prog σ'4 d10 2 len3) ∧ ((0 : Int) ≤ n2) ∧ (n2 < (len3 : Int)) ∧ ∃ row3 : List D, (Row σ'4 d10 (Int.toNat n2) row3) ∧ ∃ n3 : Int, ∃ n4 : Int, ((List.take 2 row3) = ([.int .i64 n3, .int .i64 n4] : List D)) ∧ ∃ f : FuncId, ∃ a : List (Bool × (List D)), ∃ b : List (Bool × (List D)), ∃ as0' : List A, ∃ bs : List A, ((.fn n_tele_Shape_1 [] [(false, [.el (.osl id 0 1) 0 0]), (false, [.el (.osl id1 0 1) 0 0])] : D) = (.fn f a b : D)) ∧ ((capAs a) = (Option.some as0')) ∧ ((capAs b) = (Option.some bs)) ∧ DCalls Tryz.prog f (HAppend.hAppend (HAppend.hAppend as0' [.one (.int .i64 n3)]) bs) σ'4 (fun (r : RV) => fun (σ'5 : Store) => ∃ b1 : Bool, (r = (.a (.one (.bool b1)) : RV)) ∧ bcase b1 (Fw.newObj σ'5 (.live t_int [[.int .i64 n2]]) (fun (id2 : Nat) => fun (σ'6 : Store) => appendTo Tryz.prog σ'6 t_int 8 d14 (.osl id2 0 1) (fun (d15 : D) => fun (σ'7 : Store) => (([[.nils, .nils, .nils, .nils]] : List (List D)) = ([[.nils, .nils, .nils, .nils]] : List (List D))) ∧ (I2 d11 d12 d13 d15 (w64 (n2 + 1)) σ'7) ∧ ((μ2 d11 d12 d13 d15 (w64 (n2 + 1)) σ'7) < (μ2 d11 d12 d13 d14 n2 σ'4))))) ((([[.nils, .nils, .nils, .nils]] : List (List D)) = ([[.nils, .nils, .nils, .nils]] : List (List D))) ∧ (I2 d11 d12 d13 d14 (w64 (n2 + 1)) σ'5) ∧ ((μ2 d11 d12 d13 d14 (w64 (n2 + 1)) σ'5) < (μ2 d11 d12 d13 d14 n2 σ'4))))) (Qp (.a (.agg [d11, d12, d13, d14])) σ'4)))))
theorem W_tele_Shape (c0 : D) (c1 : D) (c2 : D) (c3 : D) (c4 : D) (c5 : Int) (c6 : Int) (c7 : Int) (c8 : Int) (oc : Int) (σ : Store) (Qp : RV → Store → Prop) (h : V_tele_Shape c0 c1 c2 c3 c4 c5 c6 c7 c8 oc σ Qp) : DCalls Tryz.prog n_tele_Shape [.agg [c0, c1, c2, c3, c4, .int .i64 c5, .int .i64 c6, .int .i64 c7, .int .i64 c8], .one (.int .i64 oc)] σ Qp :=
  dcalls_of_body mixed (by kernel_rfl) Tryz.func37 an_tele_Shape ((show V_tele_Shape c0 c1 c2 c3 c4 c5 c6 c7 c8 oc σ Qp = dbody Tryz.prog Tryz.f37 an_tele_Shape [.agg [c0, c1, c2, c3, c4, .int .i64 c5, .int .i64 c6, .int .i64 c7, .int .i64 c8], .one (.int .i64 oc)] σ Qp by kernel_rfl) ▸ h)
def an_ref01_New : Ann := { esc := [6], cbs := [], draws := [], loops := [], joins := [] }
def V_ref01_New (limit : Int) (σ : Store) (Qp : RV → Store → Prop) : Prop :=
  Fw.newObj σ (.live t_ref01_Writer [[.nils, .int .i64 (ite ((0 : Int) > limit) 0 limit), .int .i64 0]]) (fun (id : Nat) => fun (σ' : Store) => Qp (.a (.one (.el (.osl id 0 1) 0 0))) σ')
theorem W_ref01_New (limit : Int) (σ : Store) (Qp : RV → Store → Prop) (h : V_ref01_New limit σ Qp) : DCalls Tryz.prog n_ref01_New [.one (.int .i64 limit)] σ Qp :=
  dcalls_of_body mixed (by kernel_rfl) Tryz.func41 an_ref01_New ((show V_ref01_New limit σ Qp = dbody Tryz.prog Tryz.f41 an_ref01_New [.one (.int .i64 limit)] σ Qp by kernel_rfl) ▸ h)
def an_yard_thing_tick : Ann := { esc := [], cbs := [], draws := [], loops := [], joins := [] }
def V_yard_thing_tick (x : D) (stuck : Bool) (σ : Store) (Qp : RV → Store → Prop) : Prop :=
  DCalls Tryz.prog n_yard_thing_moves [.one x] σ (fun (r : RV) => fun (σ' : Store) => ∃ b : Bool, (r = (.a (.one (.bool b)) : RV)) ∧ bcase (!b) (Qp (.tup []) σ') (bcase stuck (Qp (.tup []) σ') ((NotNil x) ∧ ∃ s : D, ∃ i : Nat, ∃ off : Nat, (x = (.el s i off : D)) ∧ ∃ row : List D, (Row σ' s i row) ∧ ∃ n : Int, ((List.take 1 (List.drop (off + 2) row)) = ([.int .i64 n] : List D)) ∧ (NotNil x) ∧ ∃ s1 : D, ∃ i1 : Nat, ∃ off1 : Nat, (x = (.el s1 i1 off1 : D)) ∧ storeEl [.int .i64 (w64 (n - 1))] σ' s1 i1 (off1 + 2) (fun (σ'1 : Store) => DCalls Tryz.prog n_yard_thing_moves [.one x] σ'1 (fun (r1 : RV) => fun (σ'2 : Store) => ∃ b1 : Bool, (r1 = (.a (.one (.bool b1)) : RV)) ∧ bcase (!b1) ((NotNil x) ∧ ∃ s2 : D, ∃ i2 : Nat, ∃ off2 : Nat, (x = (.el s2 i2 off2 : D)) ∧ ∃ row1 : List D, (Row σ'2 s2 i2 row1) ∧ ∃ n1 : Int, ((List.take 1 (List.drop (off2 + 1) row1)) = ([.int .i64 n1] : List D)) ∧ (NotNil x) ∧ ∃ s3 : D, ∃ i3 : Nat, ∃ off3 : Nat, (x = (.el s3 i3 off3 : D)) ∧ storeEl [.int .i64 n1] σ'2 s3 i3 (off3 + 0) (fun (σ'3 : Store) => Qp (.tup []) σ'3)) (Qp (.tup []) σ'2))))))
theorem W_yard_thing_tick (x : D) (stuck : Bool) (σ : Store) (Qp : RV → Store → Prop) (h : V_yard_thing_tick x stuck σ Qp) : DCalls Tryz.prog n_yard_thing_tick [.one x, .one (.bool stuck)] σ Qp :=
  dcalls_of_body mixed (by kernel_rfl) Tryz.func45 an_yard_thing_tick ((show V_yard_thing_tick x stuck σ Qp = dbody Tryz.prog Tryz.f45 an_yard_thing_tick [.one x, .one (.bool stuck)] σ Qp by kernel_rfl) ▸ h)
def an_link_record_Last : Ann := { esc := [], cbs := [], draws := [], loops := [], joins := [] }
def V_link_record_Last (r : D) (σ : Store) (Qp : RV → Store → Prop) : Prop :=
  (NotNil r) ∧ ∃ s : D, ∃ i : Nat, ∃ off : Nat, (r = (.el s i off : D)) ∧ ∃ row : List D, (Row σ s i row) ∧ ∃ n : Int, ((List.take 1 (List.drop (off + 0) row)) = ([.int .i64 n] : List D)) ∧ Qp (.a (.one (.int .i64 n))) σ
theorem W_link_record_Last (r : D) (σ : Store) (Qp : RV → Store → Prop) (h : V_link_record_Last r σ Qp) : DCalls Tryz.prog n_link_record_Last [.one r] σ Qp :=
  dcalls_of_body mixed (by kernel_rfl) Tryz.func49 an_link_record_Last ((show V_link_record_Last r σ Qp = dbody Tryz.prog Tryz.f49 an_link_record_Last [.one r] σ Qp by kernel_rfl) ▸ h)
def an_yard_Yard_signal : Ann := { esc := [], cbs := [], draws := [], loops := [], joins := [] }
def V_yard_Yard_signal (y : D) (s : Int) (e_ : Int) (σ : Store) (Qp : RV → Store → Prop) : Prop :=
  (NotNil y) ∧ ∃ s1 : D, ∃ i : Nat, ∃ off : Nat, (y = (.el s1 i off : D)) ∧ ∃ row : List D, (Row σ s1 i row) ∧ ∃ d : D, ((List.take 1 (List.drop ((off + 1) + 2) row)) = ([d] : List D)) ∧ DCalls Tryz.prog n_slices_Index_Signal [.one d, .agg [.int .i64 s, .int .i64 e_]] σ (fun (r : RV) => fun (σ' : Store) => ∃ n : Int, (r = (.a (.one (.int .i64 n)) : RV)) ∧ Qp (.a (.one (.int .i64 n))) σ')
theorem W_yard_Yard_signal (y : D) (s : Int) (e_ : Int) (σ : Store) (Qp : RV → Store → Prop) (h : V_yard_Yard_signal y s e_ σ Qp) : DCalls Tryz.prog n_yard_Yard_signal [.one y, .one (.int .i64 s), .one (.int .i64 e_)] σ Qp :=
  dcalls_of_body mixed (by kernel_rfl) Tryz.func53 an_yard_Yard_signal ((show V_yard_Yard_signal y s e_ σ Qp = dbody Tryz.prog Tryz.f53 an_yard_Yard_signal [.one y, .one (.int .i64 s), .one (.int .i64 e_)] σ Qp by kernel_rfl) ▸ h)
def an_yard_Yard_Hits_1 : Ann := { esc := [], cbs := [], draws := [], loops := [], joins := [] }
def V_yard_Yard_Hits_1 (wrong : Bool) (kind : Int) (section_ : Int) (a3 : D) (σ : Store) (Qp : RV → Store → Prop) : Prop :=
  bcase wrong (∃ s : D, ∃ i : Nat, ∃ off : Nat, (a3 = (.el s i off : D)) ∧ ∃ row : List D, (Row σ s i row) ∧ ∃ d : D, ((List.take 1 (List.drop off row)) = ([d] : List D)) ∧ Fw.newObj σ (.live t_Hit [[.int .i64 kind, .int .i64 section_]]) (fun (id : Nat) => fun (σ' : Store) => appendTo Tryz.prog σ' t_Hit 16 d (.osl id 0 1) (fun (d1 : D) => fun (σ'1 : Store) => ∃ s1 : D, ∃ i1 : Nat, ∃ off1 : Nat, (a3 = (.el s1 i1 off1 : D)) ∧ storeEl [d1] σ'1 s1 i1 off1 (fun (σ'2 : Store) => Qp (.tup []) σ'2)))) (Qp (.tup []) σ)
theorem W_yard_Yard_Hits_1 (wrong : Bool) (kind : Int) (section_ : Int) (a3 : D) (σ : Store) (Qp : RV → Store → Prop) (h : V_yard_Yard_Hits_1 wrong kind section_ a3 σ Qp) : DCalls Tryz.prog n_yard_Yard_Hits_1 [.one (.bool wrong), .one (.int .i64 kind), .one (.int .i64 section_), .one a3] σ Qp :=
  dcalls_of_body mixed (by kernel_rfl) Tryz.func77 an_yard_Yard_Hits_1 ((show V_yard_Yard_Hits_1 wrong kind section_ a3 σ Qp = dbody Tryz.prog Tryz.f77 an_yard_Yard_Hits_1 [.one (.bool wrong), .one (.int .i64 kind), .one (.int .i64 section_), .one a3] σ Qp by kernel_rfl) ▸ h)
def an_conf_plan_route : Ann := { esc := [], cbs := [2, 3], draws := [(3, { ord := [0, 1, 2, 3, 4, 6, 7, 5, 8, 9, 10, 11], nb := [1, 2, 7], av := [], dir := [] }), (5, { ord := [0, 1, 2, 3, 4, 5, 6, 7], nb := [1], av := [], dir := [] })], loops := [], joins := [] }
def V_conf_plan_route (p0 : D) (p1 : D) (p2 : D) (p3 : D) (p4 : D) (p5 : Int) (p6 : Int) (p7 : Int) (p8 : Int) (r0 : Int) (r1 : Int) (r2 : D) (r3 : D) (r4 : D) (r5 : Bool) (σ : Store) (Qp : RV → Store → Prop) : Prop :=
  DCalls Tryz.prog n_conf_plan_path [.agg [p0, p1, p2, p3, p4, .int .i64 p5, .int .i64 p6, .int .i64 p7, .int .i64 p8], .agg [.int .i64 r0, .int .i64 r1, r2, r3, r4, .bool r5]] σ (fun (r : RV) => fun (σ' : Store) => ∃ b : Bool, (r = (.a (.one (.bool b)) : RV)) ∧ bcase (!b) (Qp (.a (.one (.int .i64 9))) σ') (DCalls Tryz.prog n_conf_plan_approach [.agg [p0, p1, p2, p3, p4, .int .i64 p5, .int .i64 p6, .int .i64 p7, .int .i64 p8], .agg [.int .i64 r0, .int .i64 r1, r2, r3, r4, .bool r5]] σ' (fun (r6 : RV) => fun (σ'1 : Store) => ∃ n : Int, (r6 = (.a (.one (.int .i64 n)) : RV)) ∧ DCalls Tryz.prog n_conf_plan_flank [.agg [p0, p1, p2, p3, p4, .int .i64 p5, .int .i64 p6, .int .i64 p7, .int .i64 p8], .one (.int .i64 n), .one r2] σ'1 (fun (r7 : RV) => fun (σ'2 : Store) => ∃ d : D, (r7 = (.a (.one d) : RV)) ∧ DCalls Tryz.prog n_slices_Equal_Need [.one r3, .one d] σ'2 (fun (r8 : RV) => fun (σ'3 : Store) => ∃ b1 : Bool, (r8 = (.a (.one (.bool b1)) : RV)) ∧ bcase (!b1) (Qp (.a (.one (.int .i64 10))) σ'3) (DCalls Tryz.prog n_conf_plan_overlap [.agg [p0, p1, p2, p3, p4, .int .i64 p5, .int .i64 p6, .int .i64 p7, .int .i64 p8], .agg [.int .i64 r0, .int .i64 r1, r2, r3, r4, .bool r5]] σ'3 (fun (r9 : RV) => fun (σ'4 : Store) => ∃ d1 : D, (r9 = (.a (.one d1) : RV)) ∧ DCalls Tryz.prog n_slices_Equal_int [.one r4, .one d1] σ'4 (fun (r10 : RV) => fun (σ'5 : Store) => ∃ b2 : Bool, (r10 = (.a (.one (.bool b2)) : RV)) ∧ bcase (!b2) (Qp (.a (.one (.int .i64 11))) σ'5) (Qp (.a (.one (.int .i64 0))) σ'5)))))))))
theorem W_conf_plan_route (p0 : D) (p1 : D) (p2 : D) (p3 : D) (p4 : D) (p5 : Int) (p6 : Int) (p7 : Int) (p8 : Int) (r0 : Int) (r1 : Int) (r2 : D) (r3 : D) (r4 : D) (r5 : Bool) (σ : Store) (Qp : RV → Store → Prop) (h : V_conf_plan_route p0 p1 p2 p3 p4 p5 p6 p7 p8 r0 r1 r2 r3 r4 r5 σ Qp) : DCalls Tryz.prog n_conf_plan_route [.agg [p0, p1, p2, p3, p4, .int .i64 p5, .int .i64 p6, .int .i64 p7, .int .i64 p8], .agg [.int .i64 r0, .int .i64 r1, r2, r3, r4, .bool r5]] σ Qp :=
  dcalls_of_body mixed (by kernel_rfl) Tryz.func81 an_conf_plan_route ((show V_conf_plan_route p0 p1 p2 p3 p4 p5 p6 p7 p8 r0 r1 r2 r3 r4 r5 σ Qp = dbody Tryz.prog Tryz.f81 an_conf_plan_route [.agg [p0, p1, p2, p3, p4, .int .i64 p5, .int .i64 p6, .int .i64 p7, .int .i64 p8], .agg [.int .i64 r0, .int .i64 r1, r2, r3, r4, .bool r5]] σ Qp by kernel_rfl) ▸ h)
def an_ref01_Writer_put : Ann := { esc := [], cbs := [], draws := [(3, { ord := [0, 1, 2, 3, 4, 5, 6, 7, 8, 9, 10, 11, 12], nb := [], av := [], dir := [] })], loops := [], joins := [] }
def V_ref01_Writer_put (w : D) (b : D) (right : Bool) (σ : Store) (Qp : RV → Store → Prop) : Prop :=
  (NotNil w) ∧ ∃ s : D, ∃ i : Nat, ∃ off : Nat, (w = (.el s i off : D)) ∧ ∃ row : List D, (Row σ s i row) ∧ ∃ n : Int, ((List.take 1 (List.drop (off + 2) row)) = ([.int .i64 n] : List D)) ∧ bcase (n != 0) (Qp (.tup []) σ) (bcase (!right) ((NotNil w) ∧ ∃ s1 : D, ∃ i1 : Nat, ∃ off1 : Nat, (w = (.el s1 i1 off1 : D)) ∧ storeEl [.int .i64 32] σ s1 i1 (off1 + 2) (fun (σ' : Store) => Qp (.tup []) σ')) (∃ len : Nat, (Len b len) ∧ (NotNil w) ∧ ∃ s1 : D, ∃ i1 : Nat, ∃ off1 : Nat, (w = (.el s1 i1 off1 : D)) ∧ ∃ row1 : List D, (Row σ s1 i1 row1) ∧ ∃ n1 : Int, ((List.take 1 (List.drop (off1 + 1) row1)) = ([.int .i64 n1] : List D)) ∧ (NotNil w) ∧ ∃ s2 : D, ∃ i2 : Nat, ∃ off2 : Nat, (w = (.el s2 i2 off2 : D)) ∧ ∃ row2 : List D, (Row σ s2 i2 row2) ∧ ∃ d : D, ((List.take 1 (List.drop (off2 + 0) row2)) = ([d] : List D)) ∧ ∃ len1 : Nat, (Len d len1) ∧ bcase (decide ((len : Int) > (w64 (n1 - (len1 : Int))))) ((NotNil w) ∧ ∃ s3 : D, ∃ i3 : Nat, ∃ off3 : Nat, (w = (.el s3 i3 off3 : D)) ∧ storeEl [.int .i64 2] σ s3 i3 (off3 + 2) (fun (σ' : Store) => Qp (.tup []) σ')) ((NotNil w) ∧ ∃ s3 : D, ∃ i3 : Nat, ∃ off3 : Nat, (w = (.el s3 i3 off3 : D)) ∧ ∃ row3 : List D, (Row σ s3 i3 row3) ∧ ∃ d1 : D, ((List.take 1 (List.drop (off3 + 0) row3)) = ([d1] : List D)) ∧ appendTo Tryz.prog σ t_uint8 1 d1 b (fun (d2 : D) => fun (σ' : Store) => (NotNil w) ∧ ∃ s4 : D, ∃ i4 : Nat, ∃ off4 : Nat, (w = (.el s4 i4 off4 : D)) ∧ storeEl [d2] σ' s4 i4 (off4 + 0) (fun (σ'1 : Store) => Qp (.tup []) σ'1)))))
theorem W_ref01_Writer_put (w : D) (b : D) (right : Bool) (σ : Store) (Qp : RV → Store → Prop) (h : V_ref01_Writer_put w b right σ Qp) : DCalls Tryz.prog n_ref01_Writer_put [.one w, .one b, .one (.bool right)] σ Qp :=
  dcalls_of_body mixed (by kernel_rfl) Tryz.func85 an_ref01_Writer_put ((show V_ref01_Writer_put w b right σ Qp = dbody Tryz.prog Tryz.f85 an_ref01_Writer_put [.one w, .one b, .one (.bool right)] σ Qp by kernel_rfl) ▸ h)
def an_link_record_note : Ann := { esc := [], cbs := [], draws := [(3, { ord := [0, 1, 2, 3, 4, 5, 6, 7, 8, 9, 10, 11, 12, 13, 14], nb := [], av := [], dir := [], sp := [10] })], loops := [], joins := [(2, { mods := [(1, SlotSh.one (Sh.int IntKind.i64))], keep := [0, 2] })] }
def V_link_record_note (r : D) (number : Int) (stamp : Int) (σ : Store) (Qp : RV → Store → Prop) : Prop :=
  ∀ R : Int → Store → Prop, (∀ n : Int, ∀ σ' : Store, ((NotNil r) ∧ ∃ s : D, ∃ i : Nat, ∃ off : Nat, (r = (.el s i off : D)) ∧ ∃ row : List D, (Row σ' s i row) ∧ ∃ n1 : Int, ((List.take 1 (List.drop (off + 0) row)) = ([.int .i64 n1] : List D)) ∧ bcase (decide (n1 ≥ 0)) (∃ pre : List A → Store → Prop, ∃ post : List A → Store → RV → Store → Prop, (SpecOk Tryz.prog n_seq_Lost pre post) ∧ (NotNil r) ∧ ∃ s1 : D, ∃ i1 : Nat, ∃ off1 : Nat, (r = (.el s1 i1 off1 : D)) ∧ ∃ row1 : List D, (Row σ' s1 i1 row1) ∧ ∃ n2 : Int, ((List.take 1 (List.drop (off1 + 1) row1)) = ([.int .i64 n2] : List D)) ∧ (NotNil r) ∧ ∃ s2 : D, ∃ i2 : Nat, ∃ off2 : Nat, (r = (.el s2 i2 off2 : D)) ∧ ∃ row2 : List D, (Row σ' s2 i2 row2) ∧ ∃ n3 : Int, ((List.take 1 (List.drop (off2 + 2) row2)) = ([.int .i64 n3] : List D)) ∧ Fw.newObj σ' (.live t_int [[.int .i64 n3], [.int .i64 n]]) (fun (id : Nat) => fun (σ'1 : Store) => (pre [.one (.osl id 0 2)] σ'1) ∧ ∀ r1 : RV, ∀ s3 : Store, (post [.one (.osl id 0 2)] σ'1 r1 s3) → ∃ n4 : Int, (r1 = (.a (.one (.int .i64 n4)) : RV)) ∧ (NotNil r) ∧ ∃ s4 : D, ∃ i3 : Nat, ∃ off3 : Nat, (r = (.el s4 i3 off3 : D)) ∧ storeEl [.int .i64 (w64 (n2 + n4))] s3 s4 i3 (off3 + 1) (fun (σ'2 : Store) => (NotNil r) ∧ ∃ s5 : D, ∃ i4 : Nat, ∃ off4 : Nat, (r = (.el s5 i4 off4 : D)) ∧ storeEl [.int .i64 stamp] σ'2 s5 i4 (off4 + 0) (fun (σ'3 : Store) => (NotNil r) ∧ ∃ s6 : D, ∃ i5 : Nat, ∃ off5 : Nat, (r = (.el s6 i5 off5 : D)) ∧ storeEl [.int .i64 n] σ'3 s6 i5 (off5 + 2) (fun (σ'4 : Store) => Qp (.tup []) σ'4))))) ((NotNil r) ∧ ∃ s1 : D, ∃ i1 : Nat, ∃ off1 : Nat, (r = (.el s1 i1 off1 : D)) ∧ storeEl [.int .i64 stamp] σ' s1 i1 (off1 + 0) (fun (σ'1 : Store) => (NotNil r) ∧ ∃ s2 : D, ∃ i2 : Nat, ∃ off2 : Nat, (r = (.el s2 i2 off2 : D)) ∧ storeEl [.int .i64 n] σ'1 s2 i2 (off2 + 2) (fun (σ'2 : Store) => Qp (.tup []) σ'2)))) → R n σ') → (NotNil r) ∧ ∃ s : D, ∃ i : Nat, ∃ off : Nat, (r = (.el s i off : D)) ∧ ∃ row : List D, (Row σ s i row) ∧ ∃ n : Int, ((List.take 1 (List.drop (off + 0) row)) = ([.int .i64 n] : List D)) ∧ bcase (decide (n ≥ 0)) ((NotNil r) ∧ ∃ s1 : D, ∃ i1 : Nat, ∃ off1 : Nat, (r = (.el s1 i1 off1 : D)) ∧ ∃ row1 : List D, (Row σ s1 i1 row1) ∧ ∃ n1 : Int, ((List.take 1 (List.drop (off1 + 2) row1)) = ([.int .i64 n1] : List D)) ∧ DCalls Tryz.prog n_seq_Newer [.one (.int .i64 n1), .one (.int .i64 number)] σ (fun (r1 : RV) => fun (σ' : Store) => ∃ b : Bool, (r1 = (.a (.one (.bool b)) : RV)) ∧ bcase (!b) ((NotNil r) ∧ ∃ s2 : D, ∃ i2 : Nat, ∃ off2 : Nat, (r = (.el s2 i2 off2 : D)) ∧ ∃ row2 : List D, (Row σ' s2 i2 row2) ∧ ∃ n2 : Int, ((List.take 1 (List.drop (off2 + 2) row2)) = ([.int .i64 n2] : List D)) ∧ R n2 σ') (R number σ'))) (R number σ)
theorem W_link_record_note (r : D) (number : Int) (stamp : Int) (σ : Store) (Qp : RV → Store → Prop) (h : V_link_record_note r number stamp σ Qp) : DCalls Tryz.prog n_link_record_note [.one r, .one (.int .i64 number), .one (.int .i64 stamp)] σ Qp :=
  dcalls_of_body mixed (by kernel_rfl) Tryz.func89 an_link_record_note ((show V_link_record_note r number stamp σ Qp = dbody Tryz.prog Tryz.f89 an_link_record_note [.one r, .one (.int .i64 number), .one (.int .i64 stamp)] σ Qp by kernel_rfl) ▸ h)
def an_conf_plan_path : Ann := { esc := [], cbs := [2, 3], draws := [], loops := [(7, { mods := [(5, SlotSh.bx [Sh.int IntKind.i64, Sh.int IntKind.i64]), (63, SlotSh.one (Sh.int IntKind.i64))], keep := [2, 3, 7, 8, 9, 61, 62] })], joins := [(5, { mods := [], keep := [2, 3, 5, 7, 8] }), (18, { mods := [(5, SlotSh.bx [Sh.int IntKind.i64, Sh.int IntKind.i64])], keep := [2, 3, 7, 8, 9, 61, 62, 63] }), (16, { mods := [(20, SlotSh.one (Sh.bool))], keep := [2, 3, 5, 7, 8, 9, 11, 12, 13, 14, 15, 18, 19, 61, 62, 63] })] }
def V_conf_plan_path (p0 : D) (p1 : D) (p2 : D) (p3 : D) (p4 : D) (p5 : Int) (p6 : Int) (p7 : Int) (p8 : Int) (r0 : Int) (r1 : Int) (r2 : D) (r3 : D) (r4 : D) (r5 : Bool) (σ : Store) (Qp : RV → Store → Prop) : Prop :=
  DCalls Tryz.prog n_conf_plan_signal [.agg [p0, p1, p2, p3, p4, .int .i64 p5, .int .i64 p6, .int .i64 p7, .int .i64 p8], .one (.int .i64 r0)] σ (fun (r : RV) => fun (σ' : Store) => ∃ n : Int, ∃ n1 : Int, ∃ b : Bool, (r = (.tup [.agg [.int .i64 n, .int .i64 n1], .one (.bool b)] : RV)) ∧ DCalls Tryz.prog n_conf_plan_signal [.agg [p0, p1, p2, p3, p4, .int .i64 p5, .int .i64 p6, .int .i64 p7, .int .i64 p8], .one (.int .i64 r1)] σ' (fun (r6 : RV) => fun (σ'1 : Store) => ∃ n2 : Int, ∃ n3 : Int, ∃ b1 : Bool, (r6 = (.tup [.agg [.int .i64 n2, .int .i64 n3], .one (.bool b1)] : RV)) ∧ ∀ R : Store → Prop, (∀ σ'2 : Store, (Fw.newObj σ'2 (.mp 0 []) (fun (id : Nat) => fun (σ'3 : Store) => MPut Tryz.prog t_int σ'3 (.omap id) (.one (.int .i64 n)) (.one (.int .i64 1)) (fun (σ'4 : Store) => ∃ len : Nat, (Len r2 len) ∧ ∃ I : Int → Int → Int → Store → Prop, ∃ μ : Int → Int → Int → Store → Nat, (I n n1 0 σ'4) ∧ ∀ n4 : Int, ∀ n5 : Int, ∀ n6 : Int, ∀ σ'5 : Store, (I n4 n5 n6 σ'5) → bcase (decide (n6 < (len : Int))) (∀ R1 : Int → Int → Store → Prop, (∀ n7 : Int, ∀ n8 : Int, ∀ σ'6 : Store, ((([[.int .i64 n2, .int .i64 n3]] : List (List D)) = ([[.int .i64 n2, .int .i64 n3]] : List (List D))) ∧ (I n7 n8 (w64 (n6 + 1)) σ'6) ∧ ((μ n7 n8 (w64 (n6 + 1)) σ'6) < (μ n4 n5 n6 σ'5))) → R1 n7 n8 σ'6) → ∃ len1 : Nat, (Idx Tryz.prog σ'5 r2 3 len1) ∧ ((0 : Int) ≤ n6) ∧ (n6 < (len1 : Int)) ∧ ∃ row : List D, (Row σ'5 r2 (Int.toNat n6) row) ∧ ∃ n7 : Int, ∃ n8 : Int, ∃ n9 : Int, ((List.take 3 row) = ([.int .i64 n7, .int .i64 n8, .int .i64 n9] : List D)) ∧ DCalls Tryz.prog n_topo_Next [.one p1, .one (.int .i64 n4), .one (.int .i64 n5)] σ'5 (fun (r7 : RV) => fun (σ'6 : Store) => ∃ n10 : Int, ∃ n11 : Int, ∃ b2 : Bool, (r7 = (.tup [.one (.int .i64 n10), .one (.int .i64 n11), .one (.bool b2)] : RV)) ∧ DCalls Tryz.prog n_conf_plan_section [.agg [p0, p1, p2, p3, p4, .int .i64 p5, .int .i64 p6, .int .i64 p7, .int .i64 p8], .one (.int .i64 n10)] σ'6 (fun (r8 : RV) => fun (σ'7 : Store) => ∃ n12 : Int, ∃ n13 : Int, ∃ n14 : Int, ∃ b3 : Bool, (r8 = (.tup [.agg [.int .i64 n12, .int .i64 n13, .int .i64 n14], .one (.bool b3)] : RV)) ∧ DCalls Tryz.prog n_topo_Pos [.one (.int .i64 n12), .one (.int .i64 n8), .one (.int .i64 n9)] σ'7 (fun (r9 : RV) => fun (σ'8 : Store) => ∃ n15 : Int, ∃ b4 : Bool, (r9 = (.tup [.one (.int .i64 n15), .one (.bool b4)] : RV)) ∧ ∃ r10 : Option A, (MLook Tryz.prog t_int σ'8 (.omap id) (.one (.int .i64 n10)) r10) ∧ ∃ n16 : Int, ((Option.getD r10 (.one (.int .i64 0))) = (.one (.int .i64 n16) : A)) ∧ MPut Tryz.prog t_int σ'8 (.omap id) (.one (.int .i64 n10)) (.one (.int .i64 (w64 (n16 + 1)))) (fun (σ'9 : Store) => DCalls Tryz.prog n_slices_Contains_Signal [.one p2, .agg [.int .i64 n7, .int .i64 n9]] σ'9 (fun (r11 : RV) => fun (σ'10 : Store) => ∃ b5 : Bool, (r11 = (.a (.one (.bool b5)) : RV)) ∧ ∀ R2 : Bool → Store → Prop, (∀ b6 : Bool, ∀ σ'11 : Store, (bcase (!b2) (Qp (.a (.one (.bool false))) σ'11) (bcase (n10 != n7) (Qp (.a (.one (.bool false))) σ'11) (bcase (n11 != n8) (Qp (.a (.one (.bool false))) σ'11) (bcase (!b4) (Qp (.a (.one (.bool false))) σ'11) (∃ r12 : Option A, (MLook Tryz.prog t_int σ'11 (.omap id) (.one (.int .i64 n10)) r12) ∧ ∃ n17 : Int, ((Option.getD r12 (.one (.int .i64 0))) = (.one (.int .i64 n17) : A)) ∧ bcase (decide (n17 > 1)) (Qp (.a (.one (.bool false))) σ'11) (bcase b5 (bcase (!b6) (Qp (.a (.one (.bool false))) σ'11) (bcase r5 (bcase (n14 != 0) (Qp (.a (.one (.bool false))) σ'11) ((([[.int .i64 n2, .int .i64 n3]] : List (List D)) = ([[.int .i64 n2, .int .i64 n3]] : List (List D))) ∧ R1 n7 n9 σ'11)) ((([[.int .i64 n2, .int .i64 n3]] : List (List D)) = ([[.int .i64 n2, .int .i64 n3]] : List (List D))) ∧ R1 n7 n9 σ'11))) (bcase r5 (bcase (n14 != 0) (Qp (.a (.one (.bool false))) σ'11) ((([[.int .i64 n2, .int .i64 n3]] : List (List D)) = ([[.int .i64 n2, .int .i64 n3]] : List (List D))) ∧ R1 n7 n9 σ'11)) ((([[.int .i64 n2, .int .i64 n3]] : List (List D)) = ([[.int .i64 n2, .int .i64 n3]] : List (List D))) ∧ R1 n7 n9 σ'11)))))))) → R2 b6 σ'11) → ∃ len2 : Nat, (Len r2 len2) ∧ bcase (n6 == (w64 ((len2 : Int) - 1))) (bcase b1 ((([[.int .i64 n7, .int .i64 n9], [.int .i64 n2, .int .i64 n3], [.int .i64 n7, .int .i64 n8, .int .i64 n9], [.int .i64 n12, .int .i64 n13, .int .i64 n14]] : List (List D)) = ([[.int .i64 n7, .int .i64 n9], [.int .i64 n2, .int .i64 n3], [.int .i64 n7, .int .i64 n8, .int .i64 n9], [.int .i64 n12, .int .i64 n13, .int .i64 n14]] : List (List D))) ∧ R2 ((n7 == n2) && (n9 == n3)) σ'10) ((([[.int .i64 n7, .int .i64 n9], [.int .i64 n2, .int .i64 n3], [.int .i64 n7, .int .i64 n8, .int .i64 n9], [.int .i64 n12, .int .i64 n13, .int .i64 n14]] : List (List D)) = ([[.int .i64 n7, .int .i64 n9], [.int .i64 n2, .int .i64 n3], [.int .i64 n7, .int .i64 n8, .int .i64 n9], [.int .i64 n12, .int .i64 n13, .int .i64 n14]] : List (List D))) ∧ R2 false σ'10)) ((([[.int .i64 n7, .int .i64 n9], [.int .i64 n2, .int .i64 n3], [.int .i64 n7, .int .i64 n8, .int .i64 n9], [.int .i64 n12, .int .i64 n13, .int .i64 n14]] : List (List D)) = ([[.int .i64 n7, .int .i64 n9], [.int .i64 n2, .int .i64 n3], [.int .i64 n7, .int .i64 n8, .int .i64 n9], [.int .i64 n12, .int .i64 n13, .int .i64 n14]] : List (List D))) ∧ R2 false σ'10))))))) (bcase b1 (Qp (.a (.one (.bool ((n4 == n2) && (n5 == n3))))) σ'5) (DCalls Tryz.prog n_topo_Next [.one p1, .one (.int .i64 n4), .one (.int .i64 n5)] σ'5 (fun (r7 : RV) => fun (σ'6 : Store) => ∃ n7 : Int, ∃ n8 : Int, ∃ b2 : Bool, (r7 = (.tup [.one (.int .i64 n7), .one (.int .i64 n8), .one (.bool b2)] : RV)) ∧ Qp (.a (.one (.bool (!b2)))) σ'6)))))) → R σ'2) → bcase (!b) (Qp (.a (.one (.bool false))) σ'1) (bcase (!b1) (bcase (r1 != (-1)) (Qp (.a (.one (.bool false))) σ'1) (∃ len : Nat, (Len r2 len) ∧ DCalls Tryz.prog n_conf_between [.one (.int .i64 (len : Int)), .one (.int .i64 1), .one (.int .i64 8)] σ'1 (fun (r7 : RV) => fun (σ'2 : Store) => ∃ b2 : Bool, (r7 = (.a (.one (.bool b2)) : RV)) ∧ bcase (!b2) (Qp (.a (.one (.bool false))) σ'2) ((([[.int .i64 n, .int .i64 n1], [.int .i64 n2, .int .i64 n3]] : List (List D)) = ([[.int .i64 n, .int .i64 n1], [.int .i64 n2, .int .i64 n3]] : List (List D))) ∧ R σ'2)))) (∃ len : Nat, (Len r2 len) ∧ DCalls Tryz.prog n_conf_between [.one (.int .i64 (len : Int)), .one (.int .i64 1), .one (.int .i64 8)] σ'1 (fun (r7 : RV) => fun (σ'2 : Store) => ∃ b2 : Bool, (r7 = (.a (.one (.bool b2)) : RV)) ∧ bcase (!b2) (Qp (.a (.one (.bool false))) σ'2) ((([[.int .i64 n, .int .i64 n1], [.int .i64 n2, .int .i64 n3]] : List (List D)) = ([[.int .i64 n, .int .i64 n1], [.int .i64 n2, .int .i64 n3]] : List (List D))) ∧ R σ'2))))))
theorem W_conf_plan_path (p0 : D) (p1 : D) (p2 : D) (p3 : D) (p4 : D) (p5 : Int) (p6 : Int) (p7 : Int) (p8 : Int) (r0 : Int) (r1 : Int) (r2 : D) (r3 : D) (r4 : D) (r5 : Bool) (σ : Store) (Qp : RV → Store → Prop) (h : V_conf_plan_path p0 p1 p2 p3 p4 p5 p6 p7 p8 r0 r1 r2 r3 r4 r5 σ Qp) : DCalls Tryz.prog n_conf_plan_path [.agg [p0, p1, p2, p3, p4, .int .i64 p5, .int .i64 p6, .int .i64 p7, .int .i64 p8], .agg [.int .i64 r0, .int .i64 r1, r2, r3, r4, .bool r5]] σ Qp :=
  dcalls_of_body mixed (by kernel_rfl) Tryz.func121 an_conf_plan_path ((show V_conf_plan_path p0 p1 p2 p3 p4 p5 p6 p7 p8 r0 r1 r2 r3 r4 r5 σ Qp = dbody Tryz.prog Tryz.f121 an_conf_plan_path [.agg [p0, p1, p2, p3, p4, .int .i64 p5, .int .i64 p6, .int .i64 p7, .int .i64 p8], .agg [.int .i64 r0, .int .i64 r1, r2, r3, r4, .bool r5]] σ Qp by kernel_rfl) ▸ h)
def an_slices_Equal_int : Ann := { esc := [], cbs := [], draws := [(6, { ord := [0, 1, 2, 3, 4, 5, 6, 7, 8], nb := [], av := [], dir := [] })], loops := [(4, { mods := [(13, SlotSh.one (Sh.int IntKind.i64))], keep := [0, 1, 12] })], joins := [] }
def V_slices_Equal_int (s1 : D) (s2 : D) (σ : Store) (Qp : RV → Store → Prop) : Prop :=
  ∃ len : Nat, (Len s1 len) ∧ ∃ len1 : Nat, (Len s2 len1) ∧ bcase ((len : Int) != (len1 : Int)) (Qp (.a (.one (.bool false))) σ) (∃ len2 : Nat, (Len s1 len2) ∧ ∃ I : Int → Store → Prop, ∃ μ : Int → Store → Nat, (I 0 σ) ∧ ∀ n : Int, ∀ σ' : Store, (I n σ') → bcase (decide (n < (len2 : Int))) (∃ len3 : Nat, (Idx Tryz.prog σ' s1 1 len3) ∧ ((0 : Int) ≤ n) ∧ (n < (len3 : Int)) ∧ ∃ row : List D, (Row σ' s1 (Int.toNat n) row) ∧ ∃ n1 : Int, ((List.take 1 row) = ([.int .i64 n1] : List D)) ∧ ∃ len4 : Nat, (Idx Tryz.prog σ' s2 1 len4) ∧ ((0 : Int) ≤ n) ∧ (n < (len4 : Int)) ∧ ∃ row1 : List D, (Row σ' s2 (Int.toNat n) row1) ∧ ∃ n2 : Int, ((List.take 1 row1) = ([.int .i64 n2] : List D)) ∧ bcase (n1 != n2) (Qp (.a (.one (.bool false))) σ') ((I (w64 (n + 1)) σ') ∧ ((μ (w64 (n + 1)) σ') < (μ n σ')))) (Qp (.a (.one (.bool true))) σ'))
theorem W_slices_Equal_int (s1 : D) (s2 : D) (σ : Store) (Qp : RV → Store → Prop) (h : V_slices_Equal_int s1 s2 σ Qp) : DCalls Tryz.prog n_slices_Equal_int [.one s1, .one s2] σ Qp :=
  dcalls_of_body mixed (by kernel_rfl) Tryz.func125 an_slices_Equal_int ((show V_slices_Equal_int s1 s2 σ Qp = dbody Tryz.prog Tryz.f125 an_slices_Equal_int [.one s1, .one s2] σ Qp by kernel_rfl) ▸ h)
def an_pack_Read : Ann := { esc := [5], cbs := [], draws := [], loops := [], joins := [] }
def V_pack_Read (text : ByteArray) (σ : Store) (Qp : RV → Store → Prop) : Prop :=
  Fw.newObj σ (.live t_pack_Reader [[.int .i64 0, .str text]]) (fun (id : Nat) => fun (σ' : Store) => Qp (.a (.one (.el (.osl id 0 1) 0 0))) σ')
theorem W_pack_Read (text : ByteArray) (σ : Store) (Qp : RV → Store → Prop) (h : V_pack_Read text σ Qp) : DCalls Tryz.prog n_pack_Read [.one (.str text)] σ Qp :=
  dcalls_of_body mixed (by kernel_rfl) Tryz.func130 an_pack_Read ((show V_pack_Read text σ Qp = dbody Tryz.prog Tryz.f130 an_pack_Read [.one (.str text)] σ Qp by kernel_rfl) ▸ h)
def an_seq_Newer : Ann := { esc := [], cbs := [], draws := [], loops := [], joins := [] }
def V_seq_Newer (a : Int) (b : Int) (σ : Store) (Qp : RV → Store → Prop) : Prop :=
  DCalls Tryz.prog n_seq_Gap [.one (.int .i64 a), .one (.int .i64 b)] σ (fun (r : RV) => fun (σ' : Store) => ∃ n : Int, (r = (.a (.one (.int .i64 n)) : RV)) ∧ Qp (.a (.one (.bool (decide (n > 0))))) σ')
theorem W_seq_Newer (a : Int) (b : Int) (σ : Store) (Qp : RV → Store → Prop) (h : V_seq_Newer a b σ Qp) : DCalls Tryz.prog n_seq_Newer [.one (.int .i64 a), .one (.int .i64 b)] σ Qp :=
  dcalls_of_body mixed (by kernel_rfl) Tryz.func134 an_seq_Newer ((show V_seq_Newer a b σ Qp = dbody Tryz.prog Tryz.f134 an_seq_Newer [.one (.int .i64 a), .one (.int .i64 b)] σ Qp by kernel_rfl) ▸ h)
def an_tele_right : Ann := { esc := [], cbs := [], draws := [(4, { ord := [0, 1, 2, 3, 4, 5, 6, 7], nb := [], av := [], dir := [] })], loops := [(2, { mods := [(9, SlotSh.one (Sh.int IntKind.i64))], keep := [7, 8] }), (7, { mods := [(26, SlotSh.one (Sh.int IntKind.i64))], keep := [4, 7, 8, 9, 24, 25] })], joins := [] }
def V_tele_right (fields : D) (σ : Store) (Qp : RV → Store → Prop) : Prop :=
  ∃ len : Nat, (Len fields len) ∧ ∃ I : Int → Store → Prop, ∃ μ : Int → Store → Nat, (I 0 σ) ∧ ∀ n : Int, ∀ σ' : Store, (I n σ') → bcase (decide (n < (len : Int))) (∃ len1 : Nat, (Idx Tryz.prog σ' fields 3 len1) ∧ ((0 : Int) ≤ n) ∧ (n < (len1 : Int)) ∧ ∃ row : List D, (Row σ' fields (Int.toNat n) row) ∧ ∃ d : D, ∃ n1 : Int, ∃ n2 : Int, ((List.take 3 row) = ([d, .int .i64 n1, .int .i64 n2] : List D)) ∧ (NotNil d) ∧ ∃ s : D, ∃ i : Nat, ∃ off : Nat, (d = (.el s i off : D)) ∧ ∃ row1 : List D, (Row σ' s i row1) ∧ ∃ d1 : D, ((List.take 1 (List.drop off row1)) = ([d1] : List D)) ∧ ∃ len2 : Nat, (Len d1 len2) ∧ bcase ((len2 : Int) != n1) (Qp (.a (.one (.bool false))) σ') ((NotNil d) ∧ ∃ s1 : D, ∃ i1 : Nat, ∃ off1 : Nat, (d = (.el s1 i1 off1 : D)) ∧ ∃ row2 : List D, (Row σ' s1 i1 row2) ∧ ∃ d2 : D, ((List.take 1 (List.drop off1 row2)) = ([d2] : List D)) ∧ ∃ len3 : Nat, (Len d2 len3) ∧ ∃ I1 : Int → Store → Prop, ∃ μ1 : Int → Store → Nat, (I1 0 σ') ∧ ∀ n3 : Int, ∀ σ'1 : Store, (I1 n3 σ'1) → bcase (decide (n3 < (len3 : Int))) (∃ len4 : Nat, (Idx Tryz.prog σ'1 d2 1 len4) ∧ ((0 : Int) ≤ n3) ∧ (n3 < (len4 : Int)) ∧ ∃ row3 : List D, (Row σ'1 d2 (Int.toNat n3) row3) ∧ ∃ n4 : Int, ((List.take 1 row3) = ([.int .i64 n4] : List D)) ∧ bcase (decide (n4 < 0)) (Qp (.a (.one (.bool false))) σ'1) (bcase (decide (n4 > n2)) (Qp (.a (.one (.bool false))) σ'1) ((([[d, .int .i64 n1, .int .i64 n2]] : List (List D)) = ([[d, .int .i64 n1, .int .i64 n2]] : List (List D))) ∧ (I1 (w64 (n3 + 1)) σ'1) ∧ ((μ1 (w64 (n3 + 1)) σ'1) < (μ1 n3 σ'1))))) ((I (w64 (n + 1)) σ'1) ∧ ((μ (w64 (n + 1)) σ'1) < (μ n σ'))))) (Qp (.a (.one (.bool true))) σ')
theorem W_tele_right (fields : D) (σ : Store) (Qp : RV → Store → Prop) (h : V_tele_right fields σ Qp) : DCalls Tryz.prog n_tele_right [.one fields] σ Qp :=
  dcalls_of_body mixed (by kernel_rfl) Tryz.func138 an_tele_right ((show V_tele_right fields σ Qp = dbody Tryz.prog Tryz.f138 an_tele_right [.one fields] σ Qp by kernel_rfl) ▸ h)
def an_topo_Pos : Ann := { esc := [], cbs := [], draws := [], loops := [(2, { mods := [(15, SlotSh.one (Sh.int IntKind.i64))], keep := [1, 2, 13, 14] })], joins := [] }
def V_topo_Pos (kind : Int) (in_ : Int) (out_ : Int) (σ : Store) (Qp : RV → Store → Prop) : Prop :=
  DCalls Tryz.prog n_topo_ways [.one (.int .i64 kind)] σ (fun (r : RV) => fun (σ' : Store) => ∃ d : D, (r = (.a (.one d) : RV)) ∧ ∃ len : Nat, (Len d len) ∧ ∃ I : Int → Store → Prop, ∃ μ : Int → Store → Nat, (I 0 σ') ∧ ∀ n : Int, ∀ σ'1 : Store, (I n σ'1) → bcase (decide (n < (len : Int))) (∃ len1 : Nat, (Idx Tryz.prog σ'1 d 3 len1) ∧ ((0 : Int) ≤ n) ∧ (n < (len1 : Int)) ∧ ∃ row : List D, (Row σ'1 d (Int.toNat n) row) ∧ ∃ n1 : Int, ∃ n2 : Int, ∃ n3 : Int, ((List.take 3 row) = ([.int .i64 n1, .int .i64 n2, .int .i64 n3] : List D)) ∧ DCalls Tryz.prog n_topo_way_other [.agg [.int .i64 n1, .int .i64 n2, .int .i64 n3], .one (.int .i64 in_)] σ'1 (fun (r1 : RV) => fun (σ'2 : Store) => ∃ n4 : Int, ∃ b : Bool, (r1 = (.tup [.one (.int .i64 n4), .one (.bool b)] : RV)) ∧ bcase b (bcase (n4 == out_) (Qp (.tup [.one (.int .i64 n3), .one (.bool true)]) σ'2) ((I (w64 (n + 1)) σ'2) ∧ ((μ (w64 (n + 1)) σ'2) < (μ n σ'1)))) ((I (w64 (n + 1)) σ'2) ∧ ((μ (w64 (n + 1)) σ'2) < (μ n σ'1))))) (Qp (.tup [.one (.int .i64 0), .one (.bool false)]) σ'1))
theorem W_topo_Pos (kind : Int) (in_ : Int) (out_ : Int) (σ : Store) (Qp : RV → Store → Prop) (h : V_topo_Pos kind in_ out_ σ Qp) : DCalls Tryz.prog n_topo_Pos [.one (.int .i64 kind), .one (.int .i64 in_), .one (.int .i64 out_)] σ Qp :=
  dcalls_of_body mixed (by kernel_rfl) Tryz.func154 an_topo_Pos ((show V_topo_Pos kind in_ out_ σ Qp = dbody Tryz.prog Tryz.f154 an_topo_Pos [.one (.int .i64 kind), .one (.int .i64 in_), .one (.int .i64 out_)] σ Qp by kernel_rfl) ▸ h)
def an_conf_plan_flank_1 : Ann := { esc := [], cbs := [2], draws := [], loops := [], joins := [] }
def V_conf_plan_flank_1 (n0 : Int) (n1 : Int) (a1 : D) (σ : Store) (Qp : RV → Store → Prop) : Prop :=
  ∃ s : D, ∃ i : Nat, ∃ off : Nat, (a1 = (.el s i off : D)) ∧ ∃ row : List D, (Row σ s i row) ∧ ∃ n : Int, ((List.take 1 (List.drop off row)) = ([.int .i64 n] : List D)) ∧ Qp (.a (.one (.bool (n0 == n)))) σ
theorem W_conf_plan_flank_1 (n0 : Int) (n1 : Int) (a1 : D) (σ : Store) (Qp : RV → Store → Prop) (h : V_conf_plan_flank_1 n0 n1 a1 σ Qp) : DCalls Tryz.prog n_conf_plan_flank_1 [.agg [.int .i64 n0, .int .i64 n1], .one a1] σ Qp :=
  dcalls_of_body mixed (by kernel_rfl) Tryz.func158 an_conf_plan_flank_1 ((show V_conf_plan_flank_1 n0 n1 a1 σ Qp = dbody Tryz.prog Tryz.f158 an_conf_plan_flank_1 [.agg [.int .i64 n0, .int .i64 n1], .one a1] σ Qp by kernel_rfl) ▸ h)
def an_seq_Gap : Ann := { esc := [], cbs := [], draws := [], loops := [], joins := [] }
def V_seq_Gap (a : Int) (b : Int) (σ : Store) (Qp : RV → Store → Prop) : Prop :=
  Qp (.a (.one (.int .i64 (w64 (IntKind.wrap .i16 (IntKind.wrap .u16 ((IntKind.wrap .u16 b) - (IntKind.wrap .u16 a)))))))) σ
theorem W_seq_Gap (a : Int) (b : Int) (σ : Store) (Qp : RV → Store → Prop) (h : V_seq_Gap a b σ Qp) : DCalls Tryz.prog n_seq_Gap [.one (.int .i64 a), .one (.int .i64 b)] σ Qp :=
  dcalls_of_body mixed (by kernel_rfl) Tryz.func162 an_seq_Gap ((show V_seq_Gap a b σ Qp = dbody Tryz.prog Tryz.f162 an_seq_Gap [.one (.int .i64 a), .one (.int .i64 b)] σ Qp by kernel_rfl) ▸ h)
def an_slices_Index_int : Ann := { esc := [], cbs := [], draws := [], loops := [(2, { mods := [(8, SlotSh.one (Sh.int IntKind.i64))], keep := [0, 1, 7] })], joins := [] }
def V_slices_Index_int (s : D) (v : Int) (σ : Store) (Qp : RV → Store → Prop) : Prop :=
  ∃ len : Nat, (Len s len) ∧ ∃ I : Int → Store → Prop, ∃ μ : Int → Store → Nat, (I 0 σ) ∧ ∀ n : Int, ∀ σ' : Store, (I n σ') → bcase (decide (n < (len : Int))) (∃ len1 : Nat, (Idx Tryz.prog σ' s 1 len1) ∧ ((0 : Int) ≤ n) ∧ (n < (len1 : Int)) ∧ ∃ row : List D, (Row σ' s (Int.toNat n) row) ∧ ∃ n1 : Int, ((List.take 1 row) = ([.int .i64 n1] : List D)) ∧ bcase (v == n1) (Qp (.a (.one (.int .i64 n))) σ') ((I (w64 (n + 1)) σ') ∧ ((μ (w64 (n + 1)) σ') < (μ n σ')))) (Qp (.a (.one (.int .i64 (-1)))) σ')
theorem W_slices_Index_int (s : D) (v : Int) (σ : Store) (Qp : RV → Store → Prop) (h : V_slices_Index_int s v σ Qp) : DCalls Tryz.prog n_slices_Index_int [.one s, .one (.int .i64 v)] σ Qp :=
  dcalls_of_body mixed (by kernel_rfl) Tryz.func166 an_slices_Index_int ((show V_slices_Index_int s v σ Qp = dbody Tryz.prog Tryz.f166 an_slices_Index_int [.one s, .one (.int .i64 v)] σ Qp by kernel_rfl) ▸ h)
def an_slices_ContainsFunc_Step : Ann := { esc := [], cbs := [], draws := [], loops := [], joins := [] }
def V_slices_ContainsFunc_Step (s : D) (f : D) (σ : Store) (Qp : RV → Store → Prop) : Prop :=
  DCalls Tryz.prog n_slices_IndexFunc_Step [.one s, .one f] σ (fun (r : RV) => fun (σ' : Store) => ∃ n : Int, (r = (.a (.one (.int .i64 n)) : RV)) ∧ Qp (.a (.one (.bool (decide (n ≥ 0))))) σ')
theorem W_slices_ContainsFunc_Step (s : D) (f : D) (σ : Store) (Qp : RV → Store → Prop) (h : V_slices_ContainsFunc_Step s f σ Qp) : DCalls Tryz.prog n_slices_ContainsFunc_Step [.one s, .one f] σ Qp :=
  dcalls_of_body mixed (by kernel_rfl) Tryz.func170 an_slices_ContainsFunc_Step ((show V_slices_ContainsFunc_Step s f σ Qp = dbody Tryz.prog Tryz.f170 an_slices_ContainsFunc_Step [.one s, .one f] σ Qp by kernel_rfl) ▸ h)
def an_pack_Reader_take : Ann := { esc := [], cbs := [], draws := [], loops := [], joins := [] }
def V_pack_Reader_take (r : D) (skip : Int) (n : Int) (σ : Store) (Qp : RV → Store → Prop) : Prop :=
  (NotNil r) ∧ ∃ s : D, ∃ i : Nat, ∃ off : Nat, (r = (.el s i off : D)) ∧ ∃ row : List D, (Row σ s i row) ∧ ∃ s1 : ByteArray, ((List.take 1 (List.drop (off + 1) row)) = ([.str s1] : List D)) ∧ bcase (decide (n > (w64 ((ByteArray.size s1 : Int) - skip)))) ((NotNil r) ∧ ∃ s2 : D, ∃ i1 : Nat, ∃ off1 : Nat, (r = (.el s2 i1 off1 : D)) ∧ DCalls Tryz.prog n_pack_trouble_note [.one (.el s2 i1 (off1 + 0)), .one (.int .i64 1)] σ (fun (r1 : RV) => fun (σ' : Store) => (r1 = (.tup [] : RV)) ∧ (NotNil r) ∧ ∃ s3 : D, ∃ i2 : Nat, ∃ off2 : Nat, (r = (.el s3 i2 off2 : D)) ∧ DCalls Tryz.prog n_pack_trouble_well [.one (.el s3 i2 (off2 + 0))] σ' (fun (r2 : RV) => fun (σ'1 : Store) => ∃ b : Bool, (r2 = (.a (.one (.bool b)) : RV)) ∧ bcase (!b) (Qp (.a (.one (.str (ByteArray.mk (List.toArray []))))) σ'1) ((NotNil r) ∧ ∃ s4 : D, ∃ i3 : Nat, ∃ off3 : Nat, (r = (.el s4 i3 off3 : D)) ∧ ∃ row1 : List D, (Row σ'1 s4 i3 row1) ∧ ∃ s5 : ByteArray, ((List.take 1 (List.drop (off3 + 1) row1)) = ([.str s5] : List D)) ∧ ((0 : Int) ≤ skip) ∧ (skip ≤ (w64 (skip + n))) ∧ ((w64 (skip + n)) ≤ (ByteArray.size s5 : Int)) ∧ (NotNil r) ∧ ∃ s6 : D, ∃ i4 : Nat, ∃ off4 : Nat, (r = (.el s6 i4 off4 : D)) ∧ ∃ row2 : List D, (Row σ'1 s6 i4 row2) ∧ ∃ s7 : ByteArray, ((List.take 1 (List.drop (off4 + 1) row2)) = ([.str s7] : List D)) ∧ ((0 : Int) ≤ (w64 (skip + n))) ∧ ((w64 (skip + n)) ≤ (ByteArray.size s7 : Int)) ∧ (NotNil r) ∧ ∃ s8 : D, ∃ i5 : Nat, ∃ off5 : Nat, (r = (.el s8 i5 off5 : D)) ∧ storeEl [.str (ByteArray.extract s7 (Int.toNat (w64 (skip + n))) (ByteArray.size s7))] σ'1 s8 i5 (off5 + 1) (fun (σ'2 : Store) => Qp (.a (.one (.str (ByteArray.extract s5 (Int.toNat skip) (Int.toNat (w64 (skip + n))))))) σ'2))))) ((NotNil r) ∧ ∃ s2 : D, ∃ i1 : Nat, ∃ off1 : Nat, (r = (.el s2 i1 off1 : D)) ∧ DCalls Tryz.prog n_pack_trouble_well [.one (.el s2 i1 (off1 + 0))] σ (fun (r1 : RV) => fun (σ' : Store) => ∃ b : Bool, (r1 = (.a (.one (.bool b)) : RV)) ∧ bcase (!b) (Qp (.a (.one (.str (ByteArray.mk (List.toArray []))))) σ') ((NotNil r) ∧ ∃ s3 : D, ∃ i2 : Nat, ∃ off2 : Nat, (r = (.el s3 i2 off2 : D)) ∧ ∃ row1 : List D, (Row σ' s3 i2 row1) ∧ ∃ s4 : ByteArray, ((List.take 1 (List.drop (off2 + 1) row1)) = ([.str s4] : List D)) ∧ ((0 : Int) ≤ skip) ∧ (skip ≤ (w64 (skip + n))) ∧ ((w64 (skip + n)) ≤ (ByteArray.size s4 : Int)) ∧ (NotNil r) ∧ ∃ s5 : D, ∃ i3 : Nat, ∃ off3 : Nat, (r = (.el s5 i3 off3 : D)) ∧ ∃ row2 : List D, (Row σ' s5 i3 row2) ∧ ∃ s6 : ByteArray, ((List.take 1 (List.drop (off3 + 1) row2)) = ([.str s6] : List D)) ∧ ((0 : Int) ≤ (w64 (skip + n))) ∧ ((w64 (skip + n)) ≤ (ByteArray.size s6 : Int)) ∧ (NotNil r) ∧ ∃ s7 : D, ∃ i4 : Nat, ∃ off4 : Nat, (r = (.el s7 i4 off4 : D)) ∧ storeEl [.str (ByteArray.extract s6 (Int.toNat (w64 (skip + n))) (ByteArray.size s6))] σ' s7 i4 (off4 + 1) (fun (σ'1 : Store) => Qp (.a (.one (.str (ByteArray.extract s4 (Int.toNat skip) (Int.toNat (w64 (skip + n))))))) σ'1))))
theorem W_pack_Reader_take (r : D) (skip : Int) (n : Int) (σ : Store) (Qp : RV → Store → Prop) (h : V_pack_Reader_take r skip n σ Qp) : DCalls Tryz.prog n_pack_Reader_take [.one r, .one (.int .i64 skip), .one (.int .i64 n)] σ Qp :=
  dcalls_of_body mixed (by kernel_rfl) Tryz.func174 an_pack_Reader_take ((show V_pack_Reader_take r skip n σ Qp = dbody Tryz.prog Tryz.f174 an_pack_Reader_take [.one r, .one (.int .i64 skip), .one (.int .i64 n)] σ Qp by kernel_rfl) ▸ h)
end Go.Proofs.YtaklhjodjbgmgaaGreat
end
section
set_option maxRecDepth 100000
set_option linter.unusedVariables false
namespace Go.Proofs.YtaklhjodjbgmgaaGreat
open Go.Fw Go.Proofs
def an_ref10_Shape : Ann := { esc := [], cbs := [2], draws := [], loops := [(3, { mods := [(5, SlotSh.bx [Sh.any, Sh.any, Sh.any, Sh.any]), (15, SlotSh.one (Sh.int IntKind.i64))], keep := [1, 2, 4, 13, 14] }), (11, { mods := [(5, SlotSh.bx [Sh.any, Sh.any, Sh.any, Sh.any]), (43, SlotSh.one (Sh.int IntKind.i64))], keep := [1, 2, 4, 41, 42] }), (17, { mods := [(5, SlotSh.bx [Sh.any, Sh.any, Sh.any, Sh.any]), (62, SlotSh.one (Sh.int IntKind.i64))], keep := [1, 2, 4, 60, 61] })], joins := [] }
def V_ref10_Shape (c0 : D) (c1 : D) (c2 : D) (c3 : D) (c4 : D) (c5 : Int) (c6 : Int) (c7 : Int) (c8 : Int) (oc : Int) (σ : Store) (Qp : RV → Store → Prop) : Prop :=
  ∃ len : Nat, (Len c0 len) ∧ ∃ I : D → D → D → D → Int → Store → Prop, ∃ μ : D → D → D → D → Int → Store → Nat, (I .nils .nils .nils .nils 0 σ) ∧ ∀ d : D, ∀ d1 : D, ∀ d2 : D, ∀ d3 : D, ∀ n : Int, ∀ σ' : Store, (I d d1 d2 d3 n σ') → bcase (decide (n < (len : Int))) (∃ len1 : Nat, (Idx Tryz.prog σ' c0 3 len1) ∧ ((0 : Int) ≤ n) ∧ (n < (len1 : Int)) ∧ ∃ row : List D, (Row σ' c0 (Int.toNat n) row) ∧ ∃ n1 : Int, ∃ n2 : Int, ∃ n3 : Int, ((List.take 3 row) = ([.int .i64 n1, .int .i64 n2, .int .i64 n3] : List D)) ∧ bcase (n2 != oc) ((([[.nils, .nils, .nils, .nils]] : List (List D)) = ([[.nils, .nils, .nils, .nils]] : List (List D))) ∧ (I d d1 d2 d3 (w64 (n + 1)) σ') ∧ ((μ d d1 d2 d3 (w64 (n + 1)) σ') < (μ d d1 d2 d3 n σ'))) (Fw.newObj σ' (.live t_int [[.int .i64 n]]) (fun (id : Nat) => fun (σ'1 : Store) => appendTo Tryz.prog σ'1 t_int 8 d (.osl id 0 1) (fun (d4 : D) => fun (σ'2 : Store) => bcase (n1 == 1) (Fw.newObj σ'2 (.live t_int [[.int .i64 n]]) (fun (id1 : Nat) => fun (σ'3 : Store) => appendTo Tryz.prog σ'3 t_int 8 d1 (.osl id1 0 1) (fun (d5 : D) => fun (σ'4 : Store) => (([[.nils, .nils, .nils, .nils]] : List (List D)) = ([[.nils, .nils, .nils, .nils]] : List (List D))) ∧ (I d4 d5 d2 d3 (w64 (n + 1)) σ'4) ∧ ((μ d4 d5 d2 d3 (w64 (n + 1)) σ'4) < (μ d d1 d2 d3 n σ'))))) ((([[.nils, .nils, .nils, .nils]] : List (List D)) = ([[.nils, .nils, .nils, .nils]] : List (List D))) ∧ (I d4 d1 d2 d3 (w64 (n + 1)) σ'2) ∧ ((μ d4 d1 d2 d3 (w64 (n + 1)) σ'2) < (μ d d1 d2 d3 n σ'))))))) (∃ len1 : Nat, (Len c3 len1) ∧ ∃ I1 : D → D → D → D → Int → Store → Prop, ∃ μ1 : D → D → D → D → Int → Store → Nat, (I1 d d1 d2 d3 0 σ') ∧ ∀ d4 : D, ∀ d5 : D, ∀ d6 : D, ∀ d7 : D, ∀ n1 : Int, ∀ σ'1 : Store, (I1 d4 d5 d6 d7 n1 σ'1) → bcase (decide (n1 < (len1 : Int))) (∃ len2 : Nat, (Idx Tryz.prog σ'1 c3 1 len2) ∧ ((0 : Int) ≤ n1) ∧ (n1 < (len2 : Int)) ∧ ∃ row : List D, (Row σ'1 c3 (Int.toNat n1) row) ∧ ∃ n2 : Int, ((List.take 1 row) = ([.int .i64 n2] : List D)) ∧ DCalls Tryz.prog n_ref10_of [.agg [c0, c1, c2, c3, c4, .int .i64 c5, .int .i64 c6, .int .i64 c7, .int .i64 c8], .one (.int .i64 n2), .one (.int .i64 oc)] σ'1 (fun (r : RV) => fun (σ'2 : Store) => ∃ b : Bool, (r = (.a (.one (.bool b)) : RV)) ∧ bcase b (Fw.newObj σ'2 (.live t_int [[.int .i64 n1]]) (fun (id : Nat) => fun (σ'3 : Store) => appendTo Tryz.prog σ'3 t_int 8 d6 (.osl id 0 1) (fun (d8 : D) => fun (σ'4 : Store) => (([[.nils, .nils, .nils, .nils]] : List (List D)) = ([[.nils, .nils, .nils, .nils]] : List (List D))) ∧ (I1 d4 d5 d8 d7 (w64 (n1 + 1)) σ'4) ∧ ((μ1 d4 d5 d8 d7 (w64 (n1 + 1)) σ'4) < (μ1 d4 d5 d6 d7 n1 σ'1))))) ((([[.nils, .nils, .nils, .nils]] : List (List D)) = ([[.nils, .nils, .nils, .nils]] : List (List D))) ∧ (I1 d4 d5 d6 d7 (w64 (n1 + 1)) σ'2) ∧ ((μ1 d4 d5 d6 d7 (w64 (n1 + 1)) σ'2) < (μ1 d4 d5 d6 d7 n1 σ'1))))) (∃ len2 : Nat, (Len c2 len2) ∧ ∃ I2 : D → D → D → D → Int → Store → Prop, ∃ μ2 : D → D → D → D → Int → Store → Nat, (I2 d4 d5 d6 d7 0 σ'1) ∧ ∀ d8 : D, ∀ d9 : D, ∀ d10 : D, ∀ d11 : D, ∀ n2 : Int, ∀ σ'2 : Store, (I2 d8 d9 d10 d11 n2 σ'2) → bcase (decide (n2 < (len2 : Int))) (∃ len3 : Nat, (Idx Tryz.prog σ'2 c2 2 len3) ∧ ((0 : Int) ≤ n2) ∧ (n2 < (len3 : Int)) ∧ ∃ row : List D, (Row σ'2 c2 (Int.toNat n2) row) ∧ ∃ n3 : Int, ∃ n4 : Int, ((List.take 2 row) = ([.int .i64 n3, .int .i64 n4] : List D)) ∧ DCalls Tryz.prog n_ref10_of [.agg [c0, c1, c2, c3, c4, .int .i64 c5, .int .i64 c6, .int .i64 c7, .int .i64 c8], .one (.int .i64 n3), .one (.int .i64 oc)] σ'2 (fun (r : RV) => fun (σ'3 : Store) => ∃ b : Bool, (r = (.a (.one (.bool b)) : RV)) ∧ bcase b (Fw.newObj σ'3 (.live t_int [[.int .i64 n2]]) (fun (id : Nat) => fun (σ'4 : Store) => appendTo Tryz.prog σ'4 t_int 8 d11 (.osl id 0 1) (fun (d12 : D) => fun (σ'5 : Store) => (([[.nils, .nils, .nils, .nils]] : List (List D)) = ([[.nils, .nils, .nils, .nils]] : List (List D))) ∧ (I2 d8 d9 d10 d12 (w64 (n2 + 1)) σ'5) ∧ ((μ2 d8 d9 d10 d12 (w64 (n2 + 1)) σ'5) < (μ2 d8 d9 d10 d11 n2 σ'2))))) ((([[.nils, .nils, .nils, .nils]] : List (List D)) = ([[.nils, .nils, .nils, .nils]] : List (List D))) ∧ (I2 d8 d9 d10 d11 (w64 (n2 + 1)) σ'3) ∧ ((μ2 d8 d9 d10 d11 (w64 (n2 + 1)) σ'3) < (μ2 d8 d9 d10 d11 n2 σ'2))))) (Qp (.a (.agg [d8, d9, d10, d11])) σ'2)))
theorem W_ref10_Shape (c0 : D) (c1 : D) (c2 : D) (c3 : D) (c4 : D) (c5 : Int) (c6 : Int) (c7 : Int) (c8 : Int) (oc : Int) (σ : Store) (Qp : RV → Store → Prop) (h : V_ref10_Shape c0 c1 c2 c3 c4 c5 c6 c7 c8 oc σ Qp) : DCalls Tryz.prog n_ref10_Shape [.agg [c0, c1, c2, c3, c4, .int .i64 c5, .int .i64 c6, .int .i64 c7, .int .i64 c8], .one (.int .i64 oc)] σ Qp :=
  dcalls_of_body mixed (by kernel_rfl) Tryz.func10 an_ref10_Shape ((show V_ref10_Shape c0 c1 c2 c3 c4 c5 c6 c7 c8 oc σ Qp = dbody Tryz.prog Tryz.f10 an_ref10_Shape [.agg [c0, c1, c2, c3, c4, .int .i64 c5, .int .i64 c6, .int .i64 c7, .int .i64 c8], .one (.int .i64 oc)] σ Qp by kernel_rfl) ▸ h)
def an_yard_Yard_Take : Ann := { esc := [], cbs := [], draws := [(4, { ord := [0, 1, 2, 3, 4, 5, 6, 7, 8, 9, 10, 11, 12, 13, 14], nb := [], av := [], dir := [] }), (15, { ord := [0, 1, 2, 3, 4, 5, 6, 7, 8, 9, 10, 11], nb := [], av := [], dir := [] }), (20, { ord := [0, 1, 2, 3, 4, 5, 6, 7, 8, 9, 10, 11], nb := [], av := [], dir := [] }), (25, { ord := [0, 1, 2, 3, 4, 5, 6, 7, 8, 9, 10, 11, 12], nb := [], av := [], dir := [] })], loops := [(12, { mods := [(79, SlotSh.one (Sh.int IntKind.i64))], keep := [0, 7, 10, 77, 78] }), (18, { mods := [(109, SlotSh.one (Sh.int IntKind.i64))], keep := [0, 7, 10, 107, 108] }), (23, { mods := [(133, SlotSh.one (Sh.int IntKind.i64))], keep := [0, 10, 131, 132] })], joins := [(3, { mods := [], keep := [0, 1, 2] })] }
def V_yard_Yard_Take (y : D) (oc : Int) (text : ByteArray) (σ : Store) (Qp : RV → Store → Prop) : Prop :=
  ∀ R : Store → Prop, (∀ σ' : Store, ((NotNil y) ∧ ∃ s : D, ∃ i : Nat, ∃ off : Nat, (y = (.el s i off : D)) ∧ ∃ row : List D, (Row σ' s i row) ∧ ∃ d : D, ((List.take 1 (List.drop (off + 13) row)) = ([d] : List D)) ∧ ∃ len : Nat, (Idx Tryz.prog σ' d 1 len) ∧ ((0 : Int) ≤ oc) ∧ (oc < (len : Int)) ∧ ∃ row1 : List D, (Row σ' d (Int.toNat oc) row1) ∧ ∃ d1 : D, ((List.take 1 row1) = ([d1] : List D)) ∧ (NotNil d1) ∧ ∃ s1 : D, ∃ i1 : Nat, ∃ off1 : Nat, (d1 = (.el s1 i1 off1 : D)) ∧ ∃ row2 : List D, (Row σ' s1 i1 row2) ∧ ∃ d2 : D, ((List.take 1 (List.drop (off1 + 0) row2)) = ([d2] : List D)) ∧ (NotNil y) ∧ ∃ s2 : D, ∃ i2 : Nat, ∃ off2 : Nat, (y = (.el s2 i2 off2 : D)) ∧ ∃ row3 : List D, (Row σ' s2 i2 row3) ∧ ∃ n : Int, ((List.take 1 (List.drop (off2 + 15) row3)) = ([.int .i64 n] : List D)) ∧ DCalls Tryz.prog n_link_Receiver_Take [.one d2, .one (.int .i64 n), .one (.str text)] σ' (fun (r : RV) => fun (σ'1 : Store) => ∃ s3 : ByteArray, ∃ n1 : Int, (r = (.tup [.one (.str s3), .one (.int .i64 n1)] : RV)) ∧ bcase (n1 != 0) (Qp (.a (.one (.int .i64 n1))) σ'1) ((NotNil d1) ∧ ∃ s4 : D, ∃ i3 : Nat, ∃ off3 : Nat, (d1 = (.el s4 i3 off3 : D)) ∧ ∃ row4 : List D, (Row σ'1 s4 i3 row4) ∧ ∃ d3 : D, ∃ d4 : D, ∃ d5 : D, ∃ d6 : D, ((List.take 4 (List.drop (off3 + 1) row4)) = ([d3, d4, d5, d6] : List D)) ∧ DCalls Tryz.prog n_tele_ReadOrders [.agg [d3, d4, d5, d6], .one (.str s3)] σ'1 (fun (r1 : RV) => fun (σ'2 : Store) => ∃ d7 : D, ∃ d8 : D, ∃ d9 : D, ∃ n2 : Int, (r1 = (.tup [.agg [d7, d8, d9], .one (.int .i64 n2)] : RV)) ∧ bcase (n2 != 0) (Qp (.a (.one (.int .i64 n2))) σ'2) ((NotNil d1) ∧ ∃ s5 : D, ∃ i4 : Nat, ∃ off4 : Nat, (d1 = (.el s5 i4 off4 : D)) ∧ ∃ row5 : List D, (Row σ'2 s5 i4 row5) ∧ ∃ d10 : D, ((List.take 1 (List.drop (off4 + 0) row5)) = ([d10] : List D)) ∧ (NotNil d10) ∧ ∃ s6 : D, ∃ i5 : Nat, ∃ off5 : Nat, (d10 = (.el s6 i5 off5 : D)) ∧ DCalls Tryz.prog n_link_record_Last [.one (.el s6 i5 (off5 + 0))] σ'2 (fun (r2 : RV) => fun (σ'3 : Store) => ∃ n3 : Int, (r2 = (.a (.one (.int .i64 n3)) : RV)) ∧ (NotNil d1) ∧ ∃ s7 : D, ∃ i6 : Nat, ∃ off6 : Nat, (d1 = (.el s7 i6 off6 : D)) ∧ storeEl [.int .i64 n3] σ'3 s7 i6 (off6 + 5) (fun (σ'4 : Store) => (NotNil d1) ∧ ∃ s8 : D, ∃ i7 : Nat, ∃ off7 : Nat, (d1 = (.el s8 i7 off7 : D)) ∧ ∃ row6 : List D, (Row σ'4 s8 i7 row6) ∧ ∃ d11 : D, ((List.take 1 (List.drop ((off7 + 1) + 1) row6)) = ([d11] : List D)) ∧ ∃ len1 : Nat, (Len d11 len1) ∧ ∃ I : Int → Store → Prop, ∃ μ : Int → Store → Nat, (I 0 σ'4) ∧ ∀ n4 : Int, ∀ σ'5 : Store, (I n4 σ'5) → bcase (decide (n4 < (len1 : Int))) (∃ len2 : Nat, (Idx Tryz.prog σ'5 d11 1 len2) ∧ ((0 : Int) ≤ n4) ∧ (n4 < (len2 : Int)) ∧ ∃ row7 : List D, (Row σ'5 d11 (Int.toNat n4) row7) ∧ ∃ n5 : Int, ((List.take 1 row7) = ([.int .i64 n5] : List D)) ∧ ∃ len3 : Nat, (Idx Tryz.prog σ'5 d7 1 len3) ∧ ((0 : Int) ≤ n4) ∧ (n4 < (len3 : Int)) ∧ ∃ row8 : List D, (Row σ'5 d7 (Int.toNat n4) row8) ∧ ∃ n6 : Int, ((List.take 1 row8) = ([.int .i64 n6] : List D)) ∧ bcase (n6 != 0) ((NotNil y) ∧ ∃ s9 : D, ∃ i8 : Nat, ∃ off8 : Nat, (y = (.el s9 i8 off8 : D)) ∧ ∃ row9 : List D, (Row σ'5 s9 i8 row9) ∧ ∃ d12 : D, ((List.take 1 (List.drop (off8 + 10) row9)) = ([d12] : List D)) ∧ ∃ len4 : Nat, (Idx Tryz.prog σ'5 d12 3 len4) ∧ ((0 : Int) ≤ n5) ∧ (n5 < (len4 : Int)) ∧ ∃ len5 : Nat, (Idx Tryz.prog σ'5 d7 1 len5) ∧ ((0 : Int) ≤ n4) ∧ (n4 < (len5 : Int)) ∧ ∃ row10 : List D, (Row σ'5 d7 (Int.toNat n4) row10) ∧ ∃ n7 : Int, ((List.take 1 row10) = ([.int .i64 n7] : List D)) ∧ DCalls Tryz.prog n_yard_thing_order [.one (.el d12 (Int.toNat n5) 0), .one (.int .i64 n7)] σ'5 (fun (r3 : RV) => fun (σ'6 : Store) => (r3 = (.tup [] : RV)) ∧ (([[d7, d8, d9]] : List (List D)) = ([[d7, d8, d9]] : List (List D))) ∧ (I (w64 (n4 + 1)) σ'6) ∧ ((μ (w64 (n4 + 1)) σ'6) < (μ n4 σ'5)))) ((([[d7, d8, d9]] : List (List D)) = ([[d7, d8, d9]] : List (List D))) ∧ (I (w64 (n4 + 1)) σ'5) ∧ ((μ (w64 (n4 + 1)) σ'5) < (μ n4 σ'5)))) ((NotNil d1) ∧ ∃ s9 : D, ∃ i8 : Nat, ∃ off8 : Nat, (d1 = (.el s9 i8 off8 : D)) ∧ ∃ row7 : List D, (Row σ'5 s9 i8 row7) ∧ ∃ d12 : D, ((List.take 1 (List.drop ((off8 + 1) + 2) row7)) = ([d12] : List D)) ∧ ∃ len2 : Nat, (Len d12 len2) ∧ ∃ I1 : Int → Store → Prop, ∃ μ1 : Int → Store → Nat, (I1 0 σ'5) ∧ ∀ n5 : Int, ∀ σ'6 : Store, (I1 n5 σ'6) → bcase (decide (n5 < (len2 : Int))) (∃ len3 : Nat, (Idx Tryz.prog σ'6 d12 1 len3) ∧ ((0 : Int) ≤ n5) ∧ (n5 < (len3 : Int)) ∧ ∃ row8 : List D, (Row σ'6 d12 (Int.toNat n5) row8) ∧ ∃ n6 : Int, ((List.take 1 row8) = ([.int .i64 n6] : List D)) ∧ (NotNil y) ∧ ∃ s10 : D, ∃ i9 : Nat, ∃ off9 : Nat, (y = (.el s10 i9 off9 : D)) ∧ ∃ row9 : List D, (Row σ'6 s10 i9 row9) ∧ ∃ d13 : D, ((List.take 1 (List.drop (off9 + 11) row9)) = ([d13] : List D)) ∧ ∃ len4 : Nat, (Idx Tryz.prog σ'6 d13 3 len4) ∧ ((0 : Int) ≤ n6) ∧ (n6 < (len4 : Int)) ∧ ∃ len5 : Nat, (Idx Tryz.prog σ'6 d9 1 len5) ∧ ((0 : Int) ≤ n5) ∧ (n5 < (len5 : Int)) ∧ ∃ row10 : List D, (Row σ'6 d9 (Int.toNat n5) row10) ∧ ∃ n7 : Int, ((List.take 1 row10) = ([.int .i64 n7] : List D)) ∧ DCalls Tryz.prog n_yard_thing_order [.one (.el d13 (Int.toNat n6) 0), .one (.int .i64 n7)] σ'6 (fun (r3 : RV) => fun (σ'7 : Store) => (r3 = (.tup [] : RV)) ∧ (([[d7, d8, d9]] : List (List D)) = ([[d7, d8, d9]] : List (List D))) ∧ (I1 (w64 (n5 + 1)) σ'7) ∧ ((μ1 (w64 (n5 + 1)) σ'7) < (μ1 n5 σ'6)))) ((NotNil d1) ∧ ∃ s10 : D, ∃ i9 : Nat, ∃ off9 : Nat, (d1 = (.el s10 i9 off9 : D)) ∧ ∃ row8 : List D, (Row σ'6 s10 i9 row8) ∧ ∃ d13 : D, ((List.take 1 (List.drop ((off9 + 1) + 3) row8)) = ([d13] : List D)) ∧ ∃ len3 : Nat, (Len d13 len3) ∧ ∃ I2 : Int → Store → Prop, ∃ μ2 : Int → Store → Nat, (I2 0 σ'6) ∧ ∀ n6 : Int, ∀ σ'7 : Store, (I2 n6 σ'7) → bcase (decide (n6 < (len3 : Int))) (∃ len4 : Nat, (Idx Tryz.prog σ'7 d13 1 len4) ∧ ((0 : Int) ≤ n6) ∧ (n6 < (len4 : Int)) ∧ ∃ row9 : List D, (Row σ'7 d13 (Int.toNat n6) row9) ∧ ∃ n7 : Int, ((List.take 1 row9) = ([.int .i64 n7] : List D)) ∧ (NotNil y) ∧ ∃ s11 : D, ∃ i10 : Nat, ∃ off10 : Nat, (y = (.el s11 i10 off10 : D)) ∧ ∃ row10 : List D, (Row σ'7 s11 i10 row10) ∧ ∃ d14 : D, ((List.take 1 (List.drop (off10 + 12) row10)) = ([d14] : List D)) ∧ ∃ len5 : Nat, (Idx Tryz.prog σ'7 d8 1 len5) ∧ ((0 : Int) ≤ n6) ∧ (n6 < (len5 : Int)) ∧ ∃ row11 : List D, (Row σ'7 d8 (Int.toNat n6) row11) ∧ ∃ n8 : Int, ((List.take 1 row11) = ([.int .i64 n8] : List D)) ∧ ∃ len6 : Nat, (Idx Tryz.prog σ'7 d14 2 len6) ∧ ((0 : Int) ≤ n7) ∧ (n7 < (len6 : Int)) ∧ storeEl [.int .i64 n8] σ'7 d14 (Int.toNat n7) 0 (fun (σ'8 : Store) => (([[d7, d8, d9]] : List (List D)) = ([[d7, d8, d9]] : List (List D))) ∧ (I2 (w64 (n6 + 1)) σ'8) ∧ ((μ2 (w64 (n6 + 1)) σ'8) < (μ2 n6 σ'7)))) (Qp (.a (.one (.int .i64 0))) σ'7)))))))))) → R σ') → bcase (decide (oc < 0)) (Qp (.a (.one (.int .i64 20))) σ) ((NotNil y) ∧ ∃ s : D, ∃ i : Nat, ∃ off : Nat, (y = (.el s i off : D)) ∧ ∃ row : List D, (Row σ s i row) ∧ ∃ d : D, ((List.take 1 (List.drop (off + 13) row)) = ([d] : List D)) ∧ ∃ len : Nat, (Len d len) ∧ bcase (decide (oc ≥ (len : Int))) (Qp (.a (.one (.int .i64 20))) σ) (R σ))
theorem W_yard_Yard_Take (y : D) (oc : Int) (text : ByteArray) (σ : Store) (Qp : RV → Store → Prop) (h : V_yard_Yard_Take y oc text σ Qp) : DCalls Tryz.prog n_yard_Yard_Take [.one y, .one (.int .i64 oc), .one (.str text)] σ Qp :=
  dcalls_of_body mixed (by kernel_rfl) Tryz.func14 an_yard_Yard_Take ((show V_yard_Yard_Take y oc text σ Qp = dbody Tryz.prog Tryz.f14 an_yard_Yard_Take [.one y, .one (.int .i64 oc), .one (.str text)] σ Qp by kernel_rfl) ▸ h)
def an_yard_Yard_Trains : Ann := { esc := [], cbs := [], draws := [(5, { ord := [0, 1, 2, 4, 5, 3, 6, 7, 8, 9], nb := [5], av := [], dir := [] })], loops := [(3, { mods := [(3, SlotSh.one (Sh.any)), (11, SlotSh.one (Sh.int IntKind.i64))], keep := [9, 10] })], joins := [] }
def V_yard_Yard_Trains (y : D) (σ : Store) (Qp : RV → Store → Prop) : Prop :=
  (NotNil y) ∧ ∃ s : D, ∃ i : Nat, ∃ off : Nat, (y = (.el s i off : D)) ∧ ∃ row : List D, (Row σ s i row) ∧ ∃ d : D, ((List.take 1 (List.drop (off + 14) row)) = ([d] : List D)) ∧ ∃ len : Nat, (Len d len) ∧ ∃ I : D → Int → Store → Prop, ∃ μ : D → Int → Store → Nat, (I .nils 0 σ) ∧ ∀ d1 : D, ∀ n : Int, ∀ σ' : Store, (I d1 n σ') → bcase (decide (n < (len : Int))) (∃ len1 : Nat, (Idx Tryz.prog σ' d 2 len1) ∧ ((0 : Int) ≤ n) ∧ (n < (len1 : Int)) ∧ ∃ row1 : List D, (Row σ' d (Int.toNat n) row1) ∧ ∃ d2 : D, ∃ n1 : Int, ((List.take 2 row1) = ([d2, .int .i64 n1] : List D)) ∧ DCalls Tryz.prog n_slices_Clone_int [.one d2] σ' (fun (r : RV) => fun (σ'1 : Store) => ∃ d3 : D, (r = (.a (.one d3) : RV)) ∧ Fw.newObj σ'1 (.live t_Train [[d3, .int .i64 n1]]) (fun (id : Nat) => fun (σ'2 : Store) => appendTo Tryz.prog σ'2 t_Train 32 d1 (.osl id 0 1) (fun (d4 : D) => fun (σ'3 : Store) => (I d4 (w64 (n + 1)) σ'3) ∧ ((μ d4 (w64 (n + 1)) σ'3) < (μ d1 n σ')))))) (Qp (.a (.one d1)) σ')
theorem W_yard_Yard_Trains (y : D) (σ : Store) (Qp : RV → Store → Prop) (h : V_yard_Yard_Trains y σ Qp) : DCalls Tryz.prog n_yard_Yard_Trains [.one y] σ Qp :=
  dcalls_of_body mixed (by kernel_rfl) Tryz.func18 an_yard_Yard_Trains ((show V_yard_Yard_Trains y σ Qp = dbody Tryz.prog Tryz.f18 an_yard_Yard_Trains [.one y] σ Qp by kernel_rfl) ▸ h)
def an_yard_Yard_Hits : Ann := { esc := [3], cbs := [], draws := [(21, { ord := [0, 1, 2, 3, 4, 5, 6, 7, 8], nb := [], av := [], dir := [] })], loops := [(4, { mods := [(19, SlotSh.one (Sh.int IntKind.i64))], keep := [0, 3, 4, 18] }), (9, { mods := [(36, SlotSh.one (Sh.int IntKind.i64))], keep := [0, 3, 4, 34, 35] }), (14, { mods := [(69, SlotSh.one (Sh.int IntKind.i64))], keep := [0, 3, 4, 67, 68] }), (19, { mods := [(93, SlotSh.one (Sh.int IntKind.i64))], keep := [3, 4, 91, 92] })], joins := [] }
def V_yard_Yard_Hits (y : D) (σ : Store) (Qp : RV → Store → Prop) : Prop :=
  Fw.newObj σ (.live t_sl_Hit [[.nils]]) (fun (id : Nat) => fun (σ' : Store) => (NotNil y) ∧ ∃ s : D, ∃ i : Nat, ∃ off : Nat, (y = (.el s i off : D)) ∧ ∃ row : List D, (Row σ' s i row) ∧ ∃ d : D, ((List.take 1 (List.drop ((off + 1) + 0) row)) = ([d] : List D)) ∧ ∃ len : Nat, (Len d len) ∧ ∃ I : Int → Store → Prop, ∃ μ : Int → Store → Nat, (I 0 σ') ∧ ∀ n : Int, ∀ σ'1 : Store, (I n σ'1) → bcase (decide (n < (len : Int))) (DCalls Tryz.prog n_yard_Yard_there [.one y, .one (.int .i64 n)] σ'1 (fun (r : RV) => fun (σ'2 : Store) => ∃ n1 : Int, (r = (.a (.one (.int .i64 n1)) : RV)) ∧ ∃ f : FuncId, ∃ a : List (Bool × (List D)), ∃ b : List (Bool × (List D)), ∃ as0' : List A, ∃ bs : List A, ((.fn n_yard_Yard_Hits_1 [] [(false, [.el (.osl id 0 1) 0 0])] : D) = (.fn f a b : D)) ∧ ((capAs a) = (Option.some as0')) ∧ ((capAs b) = (Option.some bs)) ∧ DCalls Tryz.prog f (HAppend.hAppend (HAppend.hAppend as0' [.one (.bool (decide (n1 > 1))), .one (.int .i64 1), .one (.int .i64 n)]) bs) σ'2 (fun (r1 : RV) => fun (σ'3 : Store) => (r1 = (.tup [] : RV)) ∧ (I (w64 (n + 1)) σ'3) ∧ ((μ (w64 (n + 1)) σ'3) < (μ n σ'1))))) ((NotNil y) ∧ ∃ s1 : D, ∃ i1 : Nat, ∃ off1 : Nat, (y = (.el s1 i1 off1 : D)) ∧ ∃ row1 : List D, (Row σ'1 s1 i1 row1) ∧ ∃ d1 : D, ((List.take 1 (List.drop ((off1 + 1) + 0) row1)) = ([d1] : List D)) ∧ ∃ len1 : Nat, (Len d1 len1) ∧ ∃ I1 : Int → Store → Prop, ∃ μ1 : Int → Store → Nat, (I1 0 σ'1) ∧ ∀ n1 : Int, ∀ σ'2 : Store, (I1 n1 σ'2) → bcase (decide (n1 < (len1 : Int))) (∃ len2 : Nat, (Idx Tryz.prog σ'2 d1 3 len2) ∧ ((0 : Int) ≤ n1) ∧ (n1 < (len2 : Int)) ∧ ∃ row2 : List D, (Row σ'2 d1 (Int.toNat n1) row2) ∧ ∃ n2 : Int, ∃ n3 : Int, ∃ n4 : Int, ((List.take 3 row2) = ([.int .i64 n2, .int .i64 n3, .int .i64 n4] : List D)) ∧ bcase (n2 == 1) (DCalls Tryz.prog n_yard_Yard_there [.one y, .one (.int .i64 n1)] σ'2 (fun (r : RV) => fun (σ'3 : Store) => ∃ n5 : Int, (r = (.a (.one (.int .i64 n5)) : RV)) ∧ bcase (decide (n5 > 0)) ((NotNil y) ∧ ∃ s2 : D, ∃ i2 : Nat, ∃ off2 : Nat, (y = (.el s2 i2 off2 : D)) ∧ ∃ row3 : List D, (Row σ'3 s2 i2 row3) ∧ ∃ d2 : D, ((List.take 1 (List.drop (off2 + 10) row3)) = ([d2] : List D)) ∧ ∃ len3 : Nat, (Idx Tryz.prog σ'3 d2 3 len3) ∧ ((0 : Int) ≤ n1) ∧ (n1 < (len3 : Int)) ∧ DCalls Tryz.prog n_yard_thing_moves [.one (.el d2 (Int.toNat n1) 0)] σ'3 (fun (r1 : RV) => fun (σ'4 : Store) => ∃ b : Bool, (r1 = (.a (.one (.bool b)) : RV)) ∧ ∃ f : FuncId, ∃ a : List (Bool × (List D)), ∃ b1 : List (Bool × (List D)), ∃ as0' : List A, ∃ bs : List A, ((.fn n_yard_Yard_Hits_1 [] [(false, [.el (.osl id 0 1) 0 0])] : D) = (.fn f a b1 : D)) ∧ ((capAs a) = (Option.some as0')) ∧ ((capAs b1) = (Option.some bs)) ∧ DCalls Tryz.prog f (HAppend.hAppend (HAppend.hAppend as0' [.one (.bool b), .one (.int .i64 2), .one (.int .i64 n1)]) bs) σ'4 (fun (r2 : RV) => fun (σ'5 : Store) => (r2 = (.tup [] : RV)) ∧ (I1 (w64 (n1 + 1)) σ'5) ∧ ((μ1 (w64 (n1 + 1)) σ'5) < (μ1 n1 σ'2))))) (∃ f : FuncId, ∃ a : List (Bool × (List D)), ∃ b : List (Bool × (List D)), ∃ as0' : List A, ∃ bs : List A, ((.fn n_yard_Yard_Hits_1 [] [(false, [.el (.osl id 0 1) 0 0])] : D) = (.fn f a b : D)) ∧ ((capAs a) = (Option.some as0')) ∧ ((capAs b) = (Option.some bs)) ∧ DCalls Tryz.prog f (HAppend.hAppend (HAppend.hAppend as0' [.one (.bool false), .one (.int .i64 2), .one (.int .i64 n1)]) bs) σ'3 (fun (r1 : RV) => fun (σ'4 : Store) => (r1 = (.tup [] : RV)) ∧ (I1 (w64 (n1 + 1)) σ'4) ∧ ((μ1 (w64 (n1 + 1)) σ'4) < (μ1 n1 σ'2)))))) (∃ f : FuncId, ∃ a : List (Bool × (List D)), ∃ b : List (Bool × (List D)), ∃ as0' : List A, ∃ bs : List A, ((.fn n_yard_Yard_Hits_1 [] [(false, [.el (.osl id 0 1) 0 0])] : D) = (.fn f a b : D)) ∧ ((capAs a) = (Option.some as0')) ∧ ((capAs b) = (Option.some bs)) ∧ DCalls Tryz.prog f (HAppend.hAppend (HAppend.hAppend as0' [.one (.bool false), .one (.int .i64 2), .one (.int .i64 n1)]) bs) σ'2 (fun (r : RV) => fun (σ'3 : Store) => (r = (.tup [] : RV)) ∧ (I1 (w64 (n1 + 1)) σ'3) ∧ ((μ1 (w64 (n1 + 1)) σ'3) < (μ1 n1 σ'2))))) ((NotNil y) ∧ ∃ s2 : D, ∃ i2 : Nat, ∃ off2 : Nat, (y = (.el s2 i2 off2 : D)) ∧ ∃ row2 : List D, (Row σ'2 s2 i2 row2) ∧ ∃ d2 : D, ((List.take 1 (List.drop ((off2 + 1) + 3) row2)) = ([d2] : List D)) ∧ ∃ len2 : Nat, (Len d2 len2) ∧ ∃ I2 : Int → Store → Prop, ∃ μ2 : Int → Store → Nat, (I2 0 σ'2) ∧ ∀ n2 : Int, ∀ σ'3 : Store, (I2 n2 σ'3) → bcase (decide (n2 < (len2 : Int))) (∃ len3 : Nat, (Idx Tryz.prog σ'3 d2 1 len3) ∧ ((0 : Int) ≤ n2) ∧ (n2 < (len3 : Int)) ∧ ∃ row3 : List D, (Row σ'3 d2 (Int.toNat n2) row3) ∧ ∃ n3 : Int, ((List.take 1 row3) = ([.int .i64 n3] : List D)) ∧ DCalls Tryz.prog n_yard_Yard_there [.one y, .one (.int .i64 n3)] σ'3 (fun (r : RV) => fun (σ'4 : Store) => ∃ n4 : Int, (r = (.a (.one (.int .i64 n4)) : RV)) ∧ bcase (decide (n4 > 0)) (DCalls Tryz.prog n_yard_Yard_shut [.one y, .one (.int .i64 n2)] σ'4 (fun (r1 : RV) => fun (σ'5 : Store) => ∃ b : Bool, (r1 = (.a (.one (.bool b)) : RV)) ∧ ∃ f : FuncId, ∃ a : List (Bool × (List D)), ∃ b1 : List (Bool × (List D)), ∃ as0' : List A, ∃ bs : List A, ((.fn n_yard_Yard_Hits_1 [] [(false, [.el (.osl id 0 1) 0 0])] : D) = (.fn f a b1 : D)) ∧ ((capAs a) = (Option.some as0')) ∧ ((capAs b1) = (Option.some bs)) ∧ DCalls Tryz.prog f (HAppend.hAppend (HAppend.hAppend as0' [.one (.bool (!b)), .one (.int .i64 3), .one (.int .i64 n3)]) bs) σ'5 (fun (r2 : RV) => fun (σ'6 : Store) => (r2 = (.tup [] : RV)) ∧ (I2 (w64 (n2 + 1)) σ'6) ∧ ((μ2 (w64 (n2 + 1)) σ'6) < (μ2 n2 σ'3))))) (∃ f : FuncId, ∃ a : List (Bool × (List D)), ∃ b : List (Bool × (List D)), ∃ as0' : List A, ∃ bs : List A, ((.fn n_yard_Yard_Hits_1 [] [(false, [.el (.osl id 0 1) 0 0])] : D) = (.fn f a b : D)) ∧ ((capAs a) = (Option.some as0')) ∧ ((capAs b) = (Option.some bs)) ∧ DCalls Tryz.prog f (HAppend.hAppend (HAppend.hAppend as0' [.one (.bool false), .one (.int .i64 3), .one (.int .i64 n3)]) bs) σ'4 (fun (r1 : RV) => fun (σ'5 : Store) => (r1 = (.tup [] : RV)) ∧ (I2 (w64 (n2 + 1)) σ'5) ∧ ((μ2 (w64 (n2 + 1)) σ'5) < (μ2 n2 σ'3)))))) ((NotNil y) ∧ ∃ s3 : D, ∃ i3 : Nat, ∃ off3 : Nat, (y = (.el s3 i3 off3 : D)) ∧ ∃ row3 : List D, (Row σ'3 s3 i3 row3) ∧ ∃ d3 : D, ((List.take 1 (List.drop (off3 + 14) row3)) = ([d3] : List D)) ∧ ∃ len3 : Nat, (Len d3 len3) ∧ ∃ I3 : Int → Store → Prop, ∃ μ3 : Int → Store → Nat, (I3 0 σ'3) ∧ ∀ n3 : Int, ∀ σ'4 : Store, (I3 n3 σ'4) → bcase (decide (n3 < (len3 : Int))) (∃ len4 : Nat, (Idx Tryz.prog σ'4 d3 2 len4) ∧ ((0 : Int) ≤ n3) ∧ (n3 < (len4 : Int)) ∧ ∃ row4 : List D, (Row σ'4 d3 (Int.toNat n3) row4) ∧ ∃ d4 : D, ∃ n4 : Int, ((List.take 2 row4) = ([d4, .int .i64 n4] : List D)) ∧ ∃ len5 : Nat, (Idx Tryz.prog σ'4 d4 1 len5) ∧ ((0 : Int) ≤ 0) ∧ ((0 : Int) < (len5 : Int)) ∧ ∃ row5 : List D, (Row σ'4 d4 0 row5) ∧ ∃ n5 : Int, ((List.take 1 row5) = ([.int .i64 n5] : List D)) ∧ ∃ f : FuncId, ∃ a : List (Bool × (List D)), ∃ b : List (Bool × (List D)), ∃ as0' : List A, ∃ bs : List A, ((.fn n_yard_Yard_Hits_1 [] [(false, [.el (.osl id 0 1) 0 0])] : D) = (.fn f a b : D)) ∧ ((capAs a) = (Option.some as0')) ∧ ((capAs b) = (Option.some bs)) ∧ DCalls Tryz.prog f (HAppend.hAppend (HAppend.hAppend as0' [.one (.bool (decide (n4 < 0))), .one (.int .i64 4), .one (.int .i64 n5)]) bs) σ'4 (fun (r : RV) => fun (σ'5 : Store) => (r = (.tup [] : RV)) ∧ (I3 (w64 (n3 + 1)) σ'5) ∧ ((μ3 (w64 (n3 + 1)) σ'5) < (μ3 n3 σ'4)))) (∃ row4 : List D, (Row σ'4 (.osl id 0 1) 0 row4) ∧ ∃ d4 : D, ((List.take 1 row4) = ([d4] : List D)) ∧ Qp (.a (.one d4)) σ'4)))))
theorem W_yard_Yard_Hits (y : D) (σ : Store) (Qp : RV → Store → Prop) (h : V_yard_Yard_Hits y σ Qp) : DCalls Tryz.prog n_yard_Yard_Hits [.one y] σ Qp :=
  dcalls_of_body mixed (by kernel_rfl) Tryz.func26 an_yard_Yard_Hits ((show V_yard_Yard_Hits y σ Qp = dbody Tryz.prog Tryz.f26 an_yard_Yard_Hits [.one y] σ Qp by kernel_rfl) ▸ h)
def an_slices_Clone_Joint : Ann := { esc := [], cbs := [], draws := [], loops := [], joins := [] }
def V_slices_Clone_Joint (s : D) (σ : Store) (Qp : RV → Store → Prop) : Prop :=
  ∃ b : Bool, (IsNil .sl s b) ∧ bcase (b != false) (Qp (.a (.one .nils)) σ) (Fw.newObj σ (.live t_Joint []) (fun (id : Nat) => fun (σ' : Store) => appendTo Tryz.prog σ' t_Joint 32 (.osl id 0 0) s (fun (d : D) => fun (σ'1 : Store) => Qp (.a (.one d)) σ'1)))
theorem W_slices_Clone_Joint (s : D) (σ : Store) (Qp : RV → Store → Prop) (h : V_slices_Clone_Joint s σ Qp) : DCalls Tryz.prog n_slices_Clone_Joint [.one s] σ Qp :=
  dcalls_of_body mixed (by kernel_rfl) Tryz.func30 an_slices_Clone_Joint ((show V_slices_Clone_Joint s σ Qp = dbody Tryz.prog Tryz.f30 an_slices_Clone_Joint [.one s] σ Qp by kernel_rfl) ▸ h)
def an_slices_Repeat_yard_thing : Ann := { esc := [], cbs := [], draws := [(9, { ord := [0, 1, 2, 3, 4, 5, 6, 7, 8, 9], nb := [], av := [], dir := [] })], loops := [(8, { mods := [(8, SlotSh.one (Sh.int IntKind.i64))], keep := [7] })], joins := [(3, { mods := [], keep := [0, 1] }), (6, { mods := [], keep := [0, 6] })] }
def V_slices_Repeat_yard_thing (x : D) (count : Int) (σ : Store) (Qp : RV → Store → Prop) : Prop :=
  ∀ R : Store → Prop, (∀ σ' : Store, (∃ len : Nat, (Len x len) ∧ DCalls Tryz.prog n_math_bits_Mul [.one (.int .u64 (IntKind.wrap .u64 (len : Int))), .one (.int .u64 (IntKind.wrap .u64 count))] σ' (fun (r : RV) => fun (σ'1 : Store) => ∃ n : Int, ∃ n1 : Int, (r = (.tup [.one (.int .u64 n), .one (.int .u64 n1)] : RV)) ∧ ∀ R1 : Store → Prop, (∀ σ'2 : Store, (((0 : Int) ≤ (w64 n1)) ∧ ((w64 n1) ≤ (w64 n1)) ∧ (((24 : Int) * (w64 n1)) ≤ (2 ^ 48)) ∧ Fw.newObj σ'2 (.live t_yard_thing (List.replicate (Int.toNat (w64 n1)) [.int .i64 0, .int .i64 0, .int .i64 0])) (fun (id : Nat) => fun (σ'3 : Store) => copyTo Tryz.prog σ'3 t_yard_thing (.osl id 0 (Int.toNat (w64 n1))) x (fun (n2 : Int) => fun (σ'4 : Store) => ∃ I : Int → Store → Prop, ∃ μ : Int → Store → Nat, (I n2 σ'4) ∧ ∀ n3 : Int, ∀ σ'5 : Store, (I n3 σ'5) → ∃ len1 : Nat, (Len (.osl id 0 (Int.toNat (w64 n1))) len1) ∧ bcase (decide (n3 < (len1 : Int))) (∃ len2 : Nat, (IdxN Tryz.prog σ'5 (.osl id 0 (Int.toNat (w64 n1))) 3 len2) ∧ ((0 : Int) ≤ n3) ∧ (n3 ≤ (len2 : Int)) ∧ ∃ len3 : Nat, (IdxN Tryz.prog σ'5 (.osl id 0 (Int.toNat (w64 n1))) 3 len3) ∧ ((0 : Int) ≤ 0) ∧ ((0 : Int) ≤ n3) ∧ (n3 ≤ (len3 : Int)) ∧ copyTo Tryz.prog σ'5 t_yard_thing (.osl id (0 + (Int.toNat n3)) (len2 - (Int.toNat n3))) (.osl id 0 ((Int.toNat n3) - 0)) (fun (n4 : Int) => fun (σ'6 : Store) => (I (w64 (n3 + n4)) σ'6) ∧ ((μ (w64 (n3 + n4)) σ'6) < (μ n3 σ'5)))) (Qp (.a (.one (.osl id 0 (Int.toNat (w64 n1))))) σ'5)))) → R1 σ'2) → bcase (decide (n > 0)) False (bcase (decide (n1 > 9223372036854775807)) False (R1 σ'1)))) → R σ') → bcase (decide (count < 0)) False (R σ)
theorem W_slices_Repeat_yard_thing (x : D) (count : Int) (σ : Store) (Qp : RV → Store → Prop) (h : V_slices_Repeat_yard_thing x count σ Qp) : DCalls Tryz.prog n_slices_Repeat_yard_thing [.one x, .one (.int .i64 count)] σ Qp :=
  dcalls_of_body mixed (by kernel_rfl) Tryz.func34 an_slices_Repeat_yard_thing ((show V_slices_Repeat_yard_thing x count σ Qp = dbody Tryz.prog Tryz.f34 an_slices_Repeat_yard_thing [.one x, .one (.int .i64 count)] σ Qp by kernel_rfl) ▸ h)
def an_ref10_of : Ann := { esc := [], cbs := [3], draws := [], loops := [], joins := [] }
def V_ref10_of (c0 : D) (c1 : D) (c2 : D) (c3 : D) (c4 : D) (c5 : Int) (c6 : Int) (c7 : Int) (c8 : Int) (section_ : Int) (oc : Int) (σ : Store) (Qp : RV → Store → Prop) : Prop :=
  bcase (decide (section_ ≥ 0)) (∃ len : Nat, (Len c0 len) ∧ bcase (decide (section_ < (len : Int))) (∃ len1 : Nat, (Idx Tryz.prog σ c0 3 len1) ∧ ((0 : Int) ≤ section_) ∧ (section_ < (len1 : Int)) ∧ ∃ row : List D, (Row σ c0 (Int.toNat section_) row) ∧ ∃ n : Int, ((List.take 1 (List.drop 1 row)) = ([.int .i64 n] : List D)) ∧ Qp (.a (.one (.bool (n == oc)))) σ) (Qp (.a (.one (.bool false))) σ)) (Qp (.a (.one (.bool false))) σ)
theorem W_ref10_of (c0 : D) (c1 : D) (c2 : D) (c3 : D) (c4 : D) (c5 : Int) (c6 : Int) (c7 : Int) (c8 : Int) (section_ : Int) (oc : Int) (σ : Store) (Qp : RV → Store → Prop) (h : V_ref10_of c0 c1 c2 c3 c4 c5 c6 c7 c8 section_ oc σ Qp) : DCalls Tryz.prog n_ref10_of [.agg [c0, c1, c2, c3, c4, .int .i64 c5, .int .i64 c6, .int .i64 c7, .int .i64 c8], .one (.int .i64 section_), .one (.int .i64 oc)] σ Qp :=
  dcalls_of_body mixed (by kernel_rfl) Tryz.func38 an_ref10_of ((show V_ref10_of c0 c1 c2 c3 c4 c5 c6 c7 c8 section_ oc σ Qp = dbody Tryz.prog Tryz.f38 an_ref10_of [.agg [c0, c1, c2, c3, c4, .int .i64 c5, .int .i64 c6, .int .i64 c7, .int .i64 c8], .one (.int .i64 section_), .one (.int .i64 oc)] σ Qp by kernel_rfl) ▸ h)
def an_ref01_Writer_Num : Ann := { esc := [], cbs := [], draws := [], loops := [(2, { mods := [(6, SlotSh.one (Sh.int IntKind.i64)), (7, SlotSh.one (Sh.int IntKind.i64))], keep := [0, 1, 2] }), (9, { mods := [(1, SlotSh.one (Sh.int IntKind.i64)), (9, SlotSh.one (Sh.int IntKind.i64))], keep := [0, 8] })], joins := [(7, { mods := [], keep := [0, 1, 2] })] }
def V_ref01_Writer_Num (w : D) (n : Int) (width : Int) (σ : Store) (Qp : RV → Store → Prop) : Prop :=
  ∃ I : Int → Int → Store → Prop, ∃ μ : Int → Int → Store → Nat, (I 1 0 σ) ∧ ∀ n1 : Int, ∀ n2 : Int, ∀ σ' : Store, (I n1 n2 σ') → bcase (decide (n2 < width)) ((I (w64 (n1 * 256)) (w64 (n2 + 1)) σ') ∧ ((μ (w64 (n1 * 256)) (w64 (n2 + 1)) σ') < (μ n1 n2 σ'))) (∀ R : Store → Prop, (∀ σ'1 : Store, (((0 : Int) ≤ width) ∧ (width ≤ width) ∧ (((1 : Int) * width) ≤ (2 ^ 48)) ∧ Fw.newObj σ'1 (.live t_uint8 (List.replicate (Int.toNat width) [.int .u8 0])) (fun (id : Nat) => fun (σ'2 : Store) => ∃ I1 : Int → Int → Store → Prop, ∃ μ1 : Int → Int → Store → Nat, (I1 n (w64 (width - 1)) σ'2) ∧ ∀ n3 : Int, ∀ n4 : Int, ∀ σ'3 : Store, (I1 n3 n4 σ'3) → bcase (decide (n4 ≥ 0)) (∃ len : Nat, (Idx Tryz.prog σ'3 (.osl id 0 (Int.toNat width)) 1 len) ∧ ((0 : Int) ≤ n4) ∧ (n4 < (len : Int)) ∧ storeEl [.int .u8 (IntKind.wrap .u8 (Int.tmod n3 256))] σ'3 (.osl id 0 (Int.toNat width)) (Int.toNat n4) 0 (fun (σ'4 : Store) => (I1 (w64 (Int.tdiv n3 256)) (w64 (n4 - 1)) σ'4) ∧ ((μ1 (w64 (Int.tdiv n3 256)) (w64 (n4 - 1)) σ'4) < (μ1 n3 n4 σ'3)))) (DCalls Tryz.prog n_ref01_Writer_put [.one w, .one (.osl id 0 (Int.toNat width)), .one (.bool true)] σ'3 (fun (r : RV) => fun (σ'4 : Store) => (r = (.tup [] : RV)) ∧ Qp (.tup []) σ'4)))) → R σ'1) → bcase (decide (n < 0)) (DCalls Tryz.prog n_ref01_Writer_put [.one w, .one .nils, .one (.bool false)] σ' (fun (r : RV) => fun (σ'1 : Store) => (r = (.tup [] : RV)) ∧ Qp (.tup []) σ'1)) (bcase (decide (n ≥ n1)) (DCalls Tryz.prog n_ref01_Writer_put [.one w, .one .nils, .one (.bool false)] σ' (fun (r : RV) => fun (σ'1 : Store) => (r = (.tup [] : RV)) ∧ Qp (.tup []) σ'1)) (R σ')))
theorem W_ref01_Writer_Num (w : D) (n : Int) (width : Int) (σ : Store) (Qp : RV → Store → Prop) (h : V_ref01_Writer_Num w n width σ Qp) : DCalls Tryz.prog n_ref01_Writer_Num [.one w, .one (.int .i64 n), .one (.int .i64 width)] σ Qp :=
  dcalls_of_body mixed (by kernel_rfl) Tryz.func42 an_ref01_Writer_Num ((show V_ref01_Writer_Num w n width σ Qp = dbody Tryz.prog Tryz.f42 an_ref01_Writer_Num [.one w, .one (.int .i64 n), .one (.int .i64 width)] σ Qp by kernel_rfl) ▸ h)
def an_yard_faults_fault : Ann := { esc := [], cbs := [], draws := [], loops := [], joins := [] }
def V_yard_faults_fault (f : D) (kind : Int) (n : Int) (σ : Store) (Qp : RV → Store → Prop) : Prop :=
  (NotNil f) ∧ ∃ s : D, ∃ i : Nat, ∃ off : Nat, (f = (.el s i off : D)) ∧ ∃ row : List D, (Row σ s i row) ∧ ∃ d : D, ((List.take 1 (List.drop (off + 0) row)) = ([d] : List D)) ∧ ∃ r : Option A, (MLook Tryz.prog t_Hit σ d (.agg [.int .i64 kind, .int .i64 n]) r) ∧ ∃ b : Bool, ((Option.getD r (.one (.bool false))) = (.one (.bool b) : A)) ∧ Qp (.a (.one (.bool b))) σ
theorem W_yard_faults_fault (f : D) (kind : Int) (n : Int) (σ : Store) (Qp : RV → Store → Prop) (h : V_yard_faults_fault f kind n σ Qp) : DCalls Tryz.prog n_yard_faults_fault [.one f, .one (.int .i64 kind), .one (.int .i64 n)] σ Qp :=
  dcalls_of_body mixed (by kernel_rfl) Tryz.func46 an_yard_faults_fault ((show V_yard_faults_fault f kind n σ Qp = dbody Tryz.prog Tryz.f46 an_yard_faults_fault [.one f, .one (.int .i64 kind), .one (.int .i64 n)] σ Qp by kernel_rfl) ▸ h)
def an_yard_thing_order : Ann := { esc := [], cbs := [], draws := [], loops := [], joins := [] }
def V_yard_thing_order (x : D) (to : Int) (σ : Store) (Qp : RV → Store → Prop) : Prop :=
  (NotNil x) ∧ ∃ s : D, ∃ i : Nat, ∃ off : Nat, (x = (.el s i off : D)) ∧ ∃ row : List D, (Row σ s i row) ∧ ∃ n : Int, ((List.take 1 (List.drop (off + 1) row)) = ([.int .i64 n] : List D)) ∧ bcase (to != n) ((NotNil x) ∧ ∃ s1 : D, ∃ i1 : Nat, ∃ off1 : Nat, (x = (.el s1 i1 off1 : D)) ∧ storeEl [.int .i64 to] σ s1 i1 (off1 + 1) (fun (σ' : Store) => (NotNil x) ∧ ∃ s2 : D, ∃ i2 : Nat, ∃ off2 : Nat, (x = (.el s2 i2 off2 : D)) ∧ storeEl [.int .i64 2] σ' s2 i2 (off2 + 2) (fun (σ'1 : Store) => Qp (.tup []) σ'1))) (Qp (.tup []) σ)
theorem W_yard_thing_order (x : D) (to : Int) (σ : Store) (Qp : RV → Store → Prop) (h : V_yard_thing_order x to σ Qp) : DCalls Tryz.prog n_yard_thing_order [.one x, .one (.int .i64 to)] σ Qp :=
  dcalls_of_body mixed (by kernel_rfl) Tryz.func50 an_yard_thing_order ((show V_yard_thing_order x to σ Qp = dbody Tryz.prog Tryz.f50 an_yard_thing_order [.one x, .one (.int .i64 to)] σ Qp by kernel_rfl) ▸ h)
def an_yard_Yard_there : Ann := { esc := [], cbs := [], draws := [], loops := [(3, { mods := [(5, SlotSh.one (Sh.int IntKind.i64)), (15, SlotSh.one (Sh.int IntKind.i64))], keep := [1, 13, 14] }), (6, { mods := [(5, SlotSh.one (Sh.int IntKind.i64)), (22, SlotSh.one (Sh.int IntKind.i64))], keep := [1, 13, 14, 15, 20, 21] })], joins := [] }
def V_yard_Yard_there (y : D) (s : Int) (σ : Store) (Qp : RV → Store → Prop) : Prop :=
  (NotNil y) ∧ ∃ s1 : D, ∃ i : Nat, ∃ off : Nat, (y = (.el s1 i off : D)) ∧ ∃ row : List D, (Row σ s1 i row) ∧ ∃ d : D, ((List.take 1 (List.drop (off + 14) row)) = ([d] : List D)) ∧ ∃ len : Nat, (Len d len) ∧ ∃ I : Int → Int → Store → Prop, ∃ μ : Int → Int → Store → Nat, (I 0 0 σ) ∧ ∀ n : Int, ∀ n1 : Int, ∀ σ' : Store, (I n n1 σ') → bcase (decide (n1 < (len : Int))) (∃ len1 : Nat, (Idx Tryz.prog σ' d 2 len1) ∧ ((0 : Int) ≤ n1) ∧ (n1 < (len1 : Int)) ∧ ∃ row1 : List D, (Row σ' d (Int.toNat n1) row1) ∧ ∃ d1 : D, ∃ n2 : Int, ((List.take 2 row1) = ([d1, .int .i64 n2] : List D)) ∧ ∃ len2 : Nat, (Len d1 len2) ∧ ∃ I1 : Int → Int → Store → Prop, ∃ μ1 : Int → Int → Store → Nat, (I1 n 0 σ') ∧ ∀ n3 : Int, ∀ n4 : Int, ∀ σ'1 : Store, (I1 n3 n4 σ'1) → bcase (decide (n4 < (len2 : Int))) (∃ len3 : Nat, (Idx Tryz.prog σ'1 d1 1 len3) ∧ ((0 : Int) ≤ n4) ∧ (n4 < (len3 : Int)) ∧ ∃ row2 : List D, (Row σ'1 d1 (Int.toNat n4) row2) ∧ ∃ n5 : Int, ((List.take 1 row2) = ([.int .i64 n5] : List D)) ∧ bcase (n5 == s) ((I1 (w64 (n3 + 1)) (w64 (n4 + 1)) σ'1) ∧ ((μ1 (w64 (n3 + 1)) (w64 (n4 + 1)) σ'1) < (μ1 n3 n4 σ'1))) ((I1 n3 (w64 (n4 + 1)) σ'1) ∧ ((μ1 n3 (w64 (n4 + 1)) σ'1) < (μ1 n3 n4 σ'1)))) ((I n3 (w64 (n1 + 1)) σ'1) ∧ ((μ n3 (w64 (n1 + 1)) σ'1) < (μ n n1 σ')))) (Qp (.a (.one (.int .i64 n))) σ')
theorem W_yard_Yard_there (y : D) (s : Int) (σ : Store) (Qp : RV → Store → Prop) (h : V_yard_Yard_there y s σ Qp) : DCalls Tryz.prog n_yard_Yard_there [.one y, .one (.int .i64 s)] σ Qp :=
  dcalls_of_body mixed (by kernel_rfl) Tryz.func74 an_yard_Yard_there ((show V_yard_Yard_there y s σ Qp = dbody Tryz.prog Tryz.f74 an_yard_Yard_there [.one y, .one (.int .i64 s)] σ Qp by kernel_rfl) ▸ h)
def an_topo_Check : Ann := { esc := [], cbs := [], draws := [(10, { ord := [0, 1, 2, 3, 4, 5, 6, 7, 8, 9, 10, 11, 12, 13, 14, 15, 16, 17, 18, 19, 20, 21, 22, 23, 24, 25, 26], nb := [9], av := [], dir := [] }), (12, { ord := [0, 1, 2, 3, 4, 5, 6], nb := [], av := [], dir := [] })], loops := [(5, { mods := [(25, SlotSh.one (Sh.int IntKind.i64))], keep := [0, 5, 23, 24] }), (8, { mods := [(41, SlotSh.one (Sh.int IntKind.i64))], keep := [0, 5, 7, 23, 24, 25, 39, 40] }), (19, { mods := [(88, SlotSh.one (Sh.int IntKind.i64))], keep := [5, 10, 86, 87] })], joins := [(3, { mods := [], keep := [0, 1] }), (23, { mods := [], keep := [5, 10, 11, 12, 86, 87, 88] })] }
def V_topo_Check (sections : D) (joints : D) (σ : Store) (Qp : RV → Store → Prop) : Prop :=
  ∀ R : Store → Prop, (∀ σ' : Store, (Fw.newObj σ' (.mp 0 []) (fun (id : Nat) => fun (σ'1 : Store) => ∃ len : Nat, (Len joints len) ∧ ∃ I : Int → Store → Prop, ∃ μ : Int → Store → Nat, (I 0 σ'1) ∧ ∀ n : Int, ∀ σ'2 : Store, (I n σ'2) → bcase (decide (n < (len : Int))) (∃ len1 : Nat, (Idx Tryz.prog σ'2 joints 4 len1) ∧ ((0 : Int) ≤ n) ∧ (n < (len1 : Int)) ∧ ∃ row : List D, (Row σ'2 joints (Int.toNat n) row) ∧ ∃ n1 : Int, ∃ n2 : Int, ∃ n3 : Int, ∃ n4 : Int, ((List.take 4 row) = ([.int .i64 n1, .int .i64 n2, .int .i64 n3, .int .i64 n4] : List D)) ∧ Fw.newObj σ'2 (.live t_topo_spot [[.int .i64 n1, .int .i64 n2], [.int .i64 n3, .int .i64 n4]]) (fun (id1 : Nat) => fun (σ'3 : Store) => ∃ len2 : Nat, (Len (.osl id1 0 2) len2) ∧ ∃ I1 : Int → Store → Prop, ∃ μ1 : Int → Store → Nat, (I1 0 σ'3) ∧ ∀ n5 : Int, ∀ σ'4 : Store, (I1 n5 σ'4) → bcase (decide (n5 < (len2 : Int))) (∃ len3 : Nat, (Idx Tryz.prog σ'4 (.osl id1 0 2) 2 len3) ∧ ((0 : Int) ≤ n5) ∧ (n5 < (len3 : Int)) ∧ ∃ row1 : List D, (Row σ'4 (.osl id1 0 2) (Int.toNat n5) row1) ∧ ∃ n6 : Int, ∃ n7 : Int, ((List.take 2 row1) = ([.int .i64 n6, .int .i64 n7] : List D)) ∧ ∃ len4 : Nat, (Len sections len4) ∧ DCalls Tryz.prog n_topo_between [.one (.int .i64 n6), .one (.int .i64 0), .one (.int .i64 (w64 ((len4 : Int) - 1)))] σ'4 (fun (r : RV) => fun (σ'5 : Store) => ∃ b : Bool, (r = (.a (.one (.bool b)) : RV)) ∧ bcase (!b) (Qp (.a (.one (.int .i64 6))) σ'5) (∃ len5 : Nat, (Idx Tryz.prog σ'5 sections 3 len5) ∧ ((0 : Int) ≤ n6) ∧ (n6 < (len5 : Int)) ∧ ∃ row2 : List D, (Row σ'5 sections (Int.toNat n6) row2) ∧ ∃ n8 : Int, ((List.take 1 row2) = ([.int .i64 n8] : List D)) ∧ DCalls Tryz.prog n_topo_Ends [.one (.int .i64 n8)] σ'5 (fun (r1 : RV) => fun (σ'6 : Store) => ∃ n9 : Int, (r1 = (.a (.one (.int .i64 n9)) : RV)) ∧ DCalls Tryz.prog n_topo_between [.one (.int .i64 n7), .one (.int .i64 0), .one (.int .i64 (w64 (n9 - 1)))] σ'6 (fun (r2 : RV) => fun (σ'7 : Store) => ∃ b1 : Bool, (r2 = (.a (.one (.bool b1)) : RV)) ∧ bcase (!b1) (Qp (.a (.one (.int .i64 6))) σ'7) (∃ r3 : Option A, (MLook Tryz.prog t_topo_spot σ'7 (.omap id) (.agg [.int .i64 n6, .int .i64 n7]) r3) ∧ ∃ n10 : Int, ((Option.getD r3 (.one (.int .i64 0))) = (.one (.int .i64 n10) : A)) ∧ bcase (decide (n10 > 0)) (Qp (.a (.one (.int .i64 6))) σ'7) (∃ r4 : Option A, (MLook Tryz.prog t_topo_spot σ'7 (.omap id) (.agg [.int .i64 n6, .int .i64 n7]) r4) ∧ ∃ n11 : Int, ((Option.getD r4 (.one (.int .i64 0))) = (.one (.int .i64 n11) : A)) ∧ MEntry Tryz.prog t_topo_spot σ'7 (.omap id) (.agg [.int .i64 n6, .int .i64 n7]) (.one (.int .i64 0)) (fun (v : A) => fun (n12 : Int) => fun (σ'8 : Store) => MStamp σ'8 (.omap id) n12 (.one (.int .i64 (w64 (n11 + 1)))) (fun (σ'9 : Store) => (([[.int .i64 n1, .int .i64 n2, .int .i64 n3, .int .i64 n4]] : List (List D)) = ([[.int .i64 n1, .int .i64 n2, .int .i64 n3, .int .i64 n4]] : List (List D))) ∧ (I1 (w64 (n5 + 1)) σ'9) ∧ ((μ1 (w64 (n5 + 1)) σ'9) < (μ1 n5 σ'4))))))))))) (bcase (n1 == n3) (Qp (.a (.one (.int .i64 6))) σ'4) ((I (w64 (n + 1)) σ'4) ∧ ((μ (w64 (n + 1)) σ'4) < (μ n σ'2)))))) (Fw.newObj σ'2 (.mp 0 []) (fun (id1 : Nat) => fun (σ'3 : Store) => ∃ len1 : Nat, (Len sections len1) ∧ ∃ I1 : Int → Store → Prop, ∃ μ1 : Int → Store → Nat, (I1 0 σ'3) ∧ ∀ n1 : Int, ∀ σ'4 : Store, (I1 n1 σ'4) → bcase (decide (n1 < (len1 : Int))) (∃ len2 : Nat, (Idx Tryz.prog σ'4 sections 3 len2) ∧ ((0 : Int) ≤ n1) ∧ (n1 < (len2 : Int)) ∧ ∃ row : List D, (Row σ'4 sections (Int.toNat n1) row) ∧ ∃ n2 : Int, ∃ n3 : Int, ∃ n4 : Int, ((List.take 3 row) = ([.int .i64 n2, .int .i64 n3, .int .i64 n4] : List D)) ∧ ∀ R1 : Store → Prop, (∀ σ'5 : Store, (bcase (n4 != 0) (bcase (n2 != 0) (Qp (.a (.one (.int .i64 6))) σ'5) (∃ r : Option A, (MLook Tryz.prog t_topo_spot σ'5 (.omap id) (.agg [.int .i64 n1, .int .i64 1]) r) ∧ ∃ n5 : Int, ((Option.getD r (.one (.int .i64 0))) = (.one (.int .i64 n5) : A)) ∧ bcase (decide (n5 > 0)) (Qp (.a (.one (.int .i64 6))) σ'5) (∃ r1 : Option A, (MLook Tryz.prog t_int σ'5 (.omap id1) (.one (.int .i64 n4)) r1) ∧ ∃ n6 : Int, ((Option.getD r1 (.one (.int .i64 0))) = (.one (.int .i64 n6) : A)) ∧ bcase (decide (n6 > 0)) (Qp (.a (.one (.int .i64 6))) σ'5) (∃ r2 : Option A, (MLook Tryz.prog t_int σ'5 (.omap id1) (.one (.int .i64 n4)) r2) ∧ ∃ n7 : Int, ((Option.getD r2 (.one (.int .i64 0))) = (.one (.int .i64 n7) : A)) ∧ MPut Tryz.prog t_int σ'5 (.omap id1) (.one (.int .i64 n4)) (.one (.int .i64 (w64 (n7 + 1)))) (fun (σ'6 : Store) => (I1 (w64 (n1 + 1)) σ'6) ∧ ((μ1 (w64 (n1 + 1)) σ'6) < (μ1 n1 σ'4))))))) (∃ r : Option A, (MLook Tryz.prog t_int σ'5 (.omap id1) (.one (.int .i64 n4)) r) ∧ ∃ n5 : Int, ((Option.getD r (.one (.int .i64 0))) = (.one (.int .i64 n5) : A)) ∧ MPut Tryz.prog t_int σ'5 (.omap id1) (.one (.int .i64 n4)) (.one (.int .i64 (w64 (n5 + 1)))) (fun (σ'6 : Store) => (I1 (w64 (n1 + 1)) σ'6) ∧ ((μ1 (w64 (n1 + 1)) σ'6) < (μ1 n1 σ'4))))) → R1 σ'5) → DCalls Tryz.prog n_topo_Ends [.one (.int .i64 n2)] σ'4 (fun (r : RV) => fun (σ'5 : Store) => ∃ n5 : Int, (r = (.a (.one (.int .i64 n5)) : RV)) ∧ bcase (n5 == 0) (Qp (.a (.one (.int .i64 6))) σ'5) (DCalls Tryz.prog n_topo_between [.one (.int .i64 n3), .one (.int .i64 0), .one (.int .i64 3)] σ'5 (fun (r1 : RV) => fun (σ'6 : Store) => ∃ b : Bool, (r1 = (.a (.one (.bool b)) : RV)) ∧ bcase (!b) (Qp (.a (.one (.int .i64 6))) σ'6) (DCalls Tryz.prog n_topo_between [.one (.int .i64 n4), .one (.int .i64 0), .one (.int .i64 3)] σ'6 (fun (r2 : RV) => fun (σ'7 : Store) => ∃ b1 : Bool, (r2 = (.a (.one (.bool b1)) : RV)) ∧ bcase (!b1) (Qp (.a (.one (.int .i64 6))) σ'7) ((([[.int .i64 n2, .int .i64 n3, .int .i64 n4]] : List (List D)) = ([[.int .i64 n2, .int .i64 n3, .int .i64 n4]] : List (List D))) ∧ R1 σ'7))))))) (Qp (.a (.one (.int .i64 0))) σ'4))))) → R σ') → ∃ len : Nat, (Len sections len) ∧ DCalls Tryz.prog n_topo_between [.one (.int .i64 (len : Int)), .one (.int .i64 1), .one (.int .i64 16)] σ (fun (r : RV) => fun (σ' : Store) => ∃ b : Bool, (r = (.a (.one (.bool b)) : RV)) ∧ bcase (!b) (Qp (.a (.one (.int .i64 6))) σ') (∃ len1 : Nat, (Len joints len1) ∧ bcase (decide ((len1 : Int) > 24)) (Qp (.a (.one (.int .i64 6))) σ') (R σ')))
theorem W_topo_Check (sections : D) (joints : D) (σ : Store) (Qp : RV → Store → Prop) (h : V_topo_Check sections joints σ Qp) : DCalls Tryz.prog n_topo_Check [.one sections, .one joints] σ Qp :=
  dcalls_of_body mixed (by kernel_rfl) Tryz.func78 an_topo_Check ((show V_topo_Check sections joints σ Qp = dbody Tryz.prog Tryz.f78 an_topo_Check [.one sections, .one joints] σ Qp by kernel_rfl) ▸ h)
def an_conf_between : Ann := { esc := [], cbs := [], draws := [], loops := [], joins := [] }
def V_conf_between (n : Int) (lo : Int) (hi : Int) (σ : Store) (Qp : RV → Store → Prop) : Prop :=
  bcase (decide (lo ≤ n)) (Qp (.a (.one (.bool (decide (n ≤ hi))))) σ) (Qp (.a (.one (.bool false))) σ)
theorem W_conf_between (n : Int) (lo : Int) (hi : Int) (σ : Store) (Qp : RV → Store → Prop) (h : V_conf_between n lo hi σ Qp) : DCalls Tryz.prog n_conf_between [.one (.int .i64 n), .one (.int .i64 lo), .one (.int .i64 hi)] σ Qp :=
  dcalls_of_body mixed (by kernel_rfl) Tryz.func82 an_conf_between ((show V_conf_between n lo hi σ Qp = dbody Tryz.prog Tryz.f82 an_conf_between [.one (.int .i64 n), .one (.int .i64 lo), .one (.int .i64 hi)] σ Qp by kernel_rfl) ▸ h)
def an_ref02_big : Ann := { esc := [], cbs := [], draws := [], loops := [(3, { mods := [(0, SlotSh.one (Sh.int IntKind.i64)), (6, SlotSh.one (Sh.int IntKind.i64))], keep := [5] })], joins := [] }
def V_ref02_big (n : Int) (width : Int) (σ : Store) (Qp : RV → Store → Prop) : Prop :=
  ((0 : Int) ≤ width) ∧ (width ≤ width) ∧ (((1 : Int) * width) ≤ (2 ^ 48)) ∧ Fw.newObj σ (.live t_uint8 (List.replicate (Int.toNat width) [.int .u8 0])) (fun (id : Nat) => fun (σ' : Store) => ∃ I : Int → Int → Store → Prop, ∃ μ : Int → Int → Store → Nat, (I n (w64 (width - 1)) σ') ∧ ∀ n1 : Int, ∀ n2 : Int, ∀ σ'1 : Store, (I n1 n2 σ'1) → bcase (decide (n2 ≥ 0)) (∃ len : Nat, (Idx Tryz.prog σ'1 (.osl id 0 (Int.toNat width)) 1 len) ∧ ((0 : Int) ≤ n2) ∧ (n2 < (len : Int)) ∧ storeEl [.int .u8 (IntKind.wrap .u8 (Int.tmod n1 256))] σ'1 (.osl id 0 (Int.toNat width)) (Int.toNat n2) 0 (fun (σ'2 : Store) => (I (w64 (Int.tdiv n1 256)) (w64 (n2 - 1)) σ'2) ∧ ((μ (w64 (Int.tdiv n1 256)) (w64 (n2 - 1)) σ'2) < (μ n1 n2 σ'1)))) (∃ b : ByteArray, (Fw.Rows Tryz.prog σ'1 t_uint8 (.osl id 0 (Int.toNat width)) (bytesD b)) ∧ Qp (.a (.one (.str b))) σ'1))
theorem W_ref02_big (n : Int) (width : Int) (σ : Store) (Qp : RV → Store → Prop) (h : V_ref02_big n width σ Qp) : DCalls Tryz.prog n_ref02_big [.one (.int .i64 n), .one (.int .i64 width)] σ Qp :=
  dcalls_of_body mixed (by kernel_rfl) Tryz.func86 an_ref02_big ((show V_ref02_big n width σ Qp = dbody Tryz.prog Tryz.f86 an_ref02_big [.one (.int .i64 n), .one (.int .i64 width)] σ Qp by kernel_rfl) ▸ h)
def an_tele_read : Ann := { esc := [], cbs := [], draws := [], loops := [(5, { mods := [(18, SlotSh.one (Sh.int IntKind.i64))], keep := [2, 7, 16, 17] }), (8, { mods := [(24, SlotSh.one (Sh.int IntKind.i64))], keep := [2, 7, 9, 16, 17, 18, 23] })], joins := [], splits := [(11, (DT.split 5 7 (DT.leaf { ord := [0, 1, 2, 3, 4, 5, 6, 7, 8, 9, 10, 11], nb := [1], av := [], dir := [] }) (DT.leaf { ord := [0, 1, 2, 3, 4, 6, 7, 5, 8, 9, 10, 11], nb := [1, 3], av := [], dir := [] })))] }
def V_tele_read (text : ByteArray) (kind : Int) (fields : D) (σ : Store) (Qp : RV → Store → Prop) : Prop :=
  DCalls Tryz.prog n_pack_Read [.one (.str text)] σ (fun (r : RV) => fun (σ' : Store) => ∃ d : D, (r = (.a (.one d) : RV)) ∧ DCalls Tryz.prog n_pack_Reader_Byte [.one d] σ' (fun (r1 : RV) => fun (σ'1 : Store) => ∃ n : Int, (r1 = (.a (.one (.int .i64 n)) : RV)) ∧ bcase (n != kind) (Qp (.a (.one (.int .i64 3))) σ'1) (∃ len : Nat, (Len fields len) ∧ ∃ I : Int → Store → Prop, ∃ μ : Int → Store → Nat, (I 0 σ'1) ∧ ∀ n1 : Int, ∀ σ'2 : Store, (I n1 σ'2) → bcase (decide (n1 < (len : Int))) (∃ len1 : Nat, (Idx Tryz.prog σ'2 fields 3 len1) ∧ ((0 : Int) ≤ n1) ∧ (n1 < (len1 : Int)) ∧ ∃ row : List D, (Row σ'2 fields (Int.toNat n1) row) ∧ ∃ d1 : D, ∃ n2 : Int, ∃ n3 : Int, ((List.take 3 row) = ([d1, .int .i64 n2, .int .i64 n3] : List D)) ∧ ∃ I1 : Int → Store → Prop, ∃ μ1 : Int → Store → Nat, (I1 0 σ'2) ∧ ∀ n4 : Int, ∀ σ'3 : Store, (I1 n4 σ'3) → bcase (decide (n4 < n2)) (DCalls Tryz.prog n_pack_Reader_Left [.one d] σ'3 (fun (r2 : RV) => fun (σ'4 : Store) => ∃ n5 : Int, (r2 = (.a (.one (.int .i64 n5)) : RV)) ∧ bcase (n5 == 0) (Qp (.a (.one (.int .i64 3))) σ'4) (((NotNil d1) ∧ ∃ s : D, ∃ i : Nat, ∃ off : Nat, (d1 = (.el s i off : D)) ∧ ∃ row1 : List D, (Row σ'4 s i row1) ∧ ∃ d2 : D, ((List.take 1 (List.drop off row1)) = ([d2] : List D)) ∧ DCalls Tryz.prog n_pack_Reader_Byte [.one d] σ'4 (fun (r3 : RV) => fun (σ'5 : Store) => ∃ n6 : Int, (r3 = (.a (.one (.int .i64 n6)) : RV)) ∧ Fw.newObj σ'5 (.live t_int [[.int .i64 n6]]) (fun (id : Nat) => fun (σ'6 : Store) => appendTo Tryz.prog σ'6 t_int 8 d2 (.osl id 0 1) (fun (d3 : D) => fun (σ'7 : Store) => (NotNil d1) ∧ ∃ s1 : D, ∃ i1 : Nat, ∃ off1 : Nat, (d1 = (.el s1 i1 off1 : D)) ∧ storeEl [d3] σ'7 s1 i1 off1 (fun (σ'8 : Store) => (([[d1, .int .i64 n2, .int .i64 n3]] : List (List D)) = ([[d1, .int .i64 n2, .int .i64 n3]] : List (List D))) ∧ (I1 (w64 (n4 + 1)) σ'8) ∧ ((μ1 (w64 (n4 + 1)) σ'8) < (μ1 n4 σ'3))))))) ∧ (NotNil d1) ∧ DCalls Tryz.prog n_pack_Reader_Byte [.one d] σ'4 (fun (r3 : RV) => fun (σ'5 : Store) => ∃ n6 : Int, (r3 = (.a (.one (.int .i64 n6)) : RV)) ∧ ∃ s : D, ∃ i : Nat, ∃ off : Nat, (d1 = (.el s i off : D)) ∧ ∃ row1 : List D, (Row σ'5 s i row1) ∧ ∃ d2 : D, ((List.take 1 (List.drop off row1)) = ([d2] : List D)) ∧ Fw.newObj σ'5 (.live t_int [[.int .i64 n6]]) (fun (id : Nat) => fun (σ'6 : Store) => appendTo Tryz.prog σ'6 t_int 8 d2 (.osl id 0 1) (fun (d3 : D) => fun (σ'7 : Store) => (NotNil d1) ∧ ∃ s1 : D, ∃ i1 : Nat, ∃ off1 : Nat, (d1 = (.el s1 i1 off1 : D)) ∧ storeEl [d3] σ'7 s1 i1 off1 (fun (σ'8 : Store) => (([[d1, .int .i64 n2, .int .i64 n3]] : List (List D)) = ([[d1, .int .i64 n2, .int .i64 n3]] : List (List D))) ∧ (I1 (w64 (n4 + 1)) σ'8) ∧ ((μ1 (w64 (n4 + 1)) σ'8) < (μ1 n4 σ'3))))))))) ((I (w64 (n1 + 1)) σ'3) ∧ ((μ (w64 (n1 + 1)) σ'3) < (μ n1 σ'2)))) (DCalls Tryz.prog n_pack_Reader_End [.one d] σ'2 (fun (r2 : RV) => fun (σ'3 : Store) => ∃ n2 : Int, (r2 = (.a (.one (.int .i64 n2)) : RV)) ∧ bcase (n2 != 0) (Qp (.a (.one (.int .i64 3))) σ'3) (DCalls Tryz.prog n_tele_right [.one fields] σ'3 (fun (r3 : RV) => fun (σ'4 : Store) => ∃ b : Bool, (r3 = (.a (.one (.bool b)) : RV)) ∧ bcase (!b) (Qp (.a (.one (.int .i64 3))) σ'4) (Qp (.a (.one (.int .i64 0))) σ'4))))))))
theorem W_tele_read (text : ByteArray) (kind : Int) (fields : D) (σ : Store) (Qp : RV → Store → Prop) (h : V_tele_read text kind fields σ Qp) : DCalls Tryz.prog n_tele_read [.one (.str text), .one (.int .i64 kind), .one fields] σ Qp :=
  dcalls_of_body mixed (by kernel_rfl) Tryz.func90 an_tele_read ((show V_tele_read text kind fields σ Qp = dbody Tryz.prog Tryz.f90 an_tele_read [.one (.str text), .one (.int .i64 kind), .one fields] σ Qp by kernel_rfl) ▸ h)
def an_topo_between : Ann := { esc := [], cbs := [], draws := [], loops := [], joins := [] }
def V_topo_between (n : Int) (lo : Int) (hi : Int) (σ : Store) (Qp : RV → Store → Prop) : Prop :=
  bcase (decide (lo ≤ n)) (Qp (.a (.one (.bool (decide (n ≤ hi))))) σ) (Qp (.a (.one (.bool false))) σ)
theorem W_topo_between (n : Int) (lo : Int) (hi : Int) (σ : Store) (Qp : RV → Store → Prop) (h : V_topo_between n lo hi σ Qp) : DCalls Tryz.prog n_topo_between [.one (.int .i64 n), .one (.int .i64 lo), .one (.int .i64 hi)] σ Qp :=
  dcalls_of_body mixed (by kernel_rfl) Tryz.func118 an_topo_between ((show V_topo_between n lo hi σ Qp = dbody Tryz.prog Tryz.f118 an_topo_between [.one (.int .i64 n), .one (.int .i64 lo), .one (.int .i64 hi)] σ Qp by kernel_rfl) ▸ h)
def an_slices_Equal_Need : Ann := { esc := [], cbs := [], draws := [(6, { ord := [0, 1, 2, 3, 4, 5, 6, 7, 8], nb := [], av := [], dir := [] })], loops := [(4, { mods := [(13, SlotSh.one (Sh.int IntKind.i64))], keep := [0, 1, 12] })], joins := [] }
def V_slices_Equal_Need (s1 : D) (s2 : D) (σ : Store) (Qp : RV → Store → Prop) : Prop :=
  ∃ len : Nat, (Len s1 len) ∧ ∃ len1 : Nat, (Len s2 len1) ∧ bcase ((len : Int) != (len1 : Int)) (Qp (.a (.one (.bool false))) σ) (∃ len2 : Nat, (Len s1 len2) ∧ ∃ I : Int → Store → Prop, ∃ μ : Int → Store → Nat, (I 0 σ) ∧ ∀ n : Int, ∀ σ' : Store, (I n σ') → bcase (decide (n < (len2 : Int))) (∃ len3 : Nat, (Idx Tryz.prog σ' s1 2 len3) ∧ ((0 : Int) ≤ n) ∧ (n < (len3 : Int)) ∧ ∃ row : List D, (Row σ' s1 (Int.toNat n) row) ∧ ∃ n1 : Int, ∃ n2 : Int, ((List.take 2 row) = ([.int .i64 n1, .int .i64 n2] : List D)) ∧ ∃ len4 : Nat, (Idx Tryz.prog σ' s2 2 len4) ∧ ((0 : Int) ≤ n) ∧ (n < (len4 : Int)) ∧ ∃ row1 : List D, (Row σ' s2 (Int.toNat n) row1) ∧ ∃ n3 : Int, ∃ n4 : Int, ((List.take 2 row1) = ([.int .i64 n3, .int .i64 n4] : List D)) ∧ bcase (!((n1 == n3) && (n2 == n4))) (Qp (.a (.one (.bool false))) σ') ((I (w64 (n + 1)) σ') ∧ ((μ (w64 (n + 1)) σ') < (μ n σ')))) (Qp (.a (.one (.bool true))) σ'))
theorem W_slices_Equal_Need (s1 : D) (s2 : D) (σ : Store) (Qp : RV → Store → Prop) (h : V_slices_Equal_Need s1 s2 σ Qp) : DCalls Tryz.prog n_slices_Equal_Need [.one s1, .one s2] σ Qp :=
  dcalls_of_body mixed (by kernel_rfl) Tryz.func122 an_slices_Equal_Need ((show V_slices_Equal_Need s1 s2 σ Qp = dbody Tryz.prog Tryz.f122 an_slices_Equal_Need [.one s1, .one s2] σ Qp by kernel_rfl) ▸ h)
def an_conf_plan_overlap : Ann := { esc := [], cbs := [2, 3], draws := [], loops := [], joins := [(4, { mods := [], keep := [2, 3, 5] })] }
def V_conf_plan_overlap (p0 : D) (p1 : D) (p2 : D) (p3 : D) (p4 : D) (p5 : Int) (p6 : Int) (p7 : Int) (p8 : Int) (r0 : Int) (r1 : Int) (r2 : D) (r3 : D) (r4 : D) (r5 : Bool) (σ : Store) (Qp : RV → Store → Prop) : Prop :=
  DCalls Tryz.prog n_conf_plan_signal [.agg [p0, p1, p2, p3, p4, .int .i64 p5, .int .i64 p6, .int .i64 p7, .int .i64 p8], .one (.int .i64 r1)] σ (fun (r : RV) => fun (σ' : Store) => ∃ n : Int, ∃ n1 : Int, ∃ b : Bool, (r = (.tup [.agg [.int .i64 n, .int .i64 n1], .one (.bool b)] : RV)) ∧ ∀ R : Store → Prop, (∀ σ'1 : Store, (DCalls Tryz.prog n_topo_Next [.one p1, .one (.int .i64 n), .one (.int .i64 n1)] σ'1 (fun (r6 : RV) => fun (σ'2 : Store) => ∃ n2 : Int, ∃ n3 : Int, ∃ b1 : Bool, (r6 = (.tup [.one (.int .i64 n2), .one (.int .i64 n3), .one (.bool b1)] : RV)) ∧ DCalls Tryz.prog n_conf_plan_section [.agg [p0, p1, p2, p3, p4, .int .i64 p5, .int .i64 p6, .int .i64 p7, .int .i64 p8], .one (.int .i64 n2)] σ'2 (fun (r7 : RV) => fun (σ'3 : Store) => ∃ n4 : Int, ∃ n5 : Int, ∃ n6 : Int, ∃ b2 : Bool, (r7 = (.tup [.agg [.int .i64 n4, .int .i64 n5, .int .i64 n6], .one (.bool b2)] : RV)) ∧ bcase (!b1) (Qp (.a (.one .nils)) σ'3) (bcase (!b2) (Qp (.a (.one .nils)) σ'3) (bcase (n6 != 0) (Qp (.a (.one .nils)) σ'3) (DCalls Tryz.prog n_conf_has [.one r2, .one (.int .i64 n2)] σ'3 (fun (r8 : RV) => fun (σ'4 : Store) => ∃ b3 : Bool, (r8 = (.a (.one (.bool b3)) : RV)) ∧ bcase b3 (Qp (.a (.one .nils)) σ'4) (DCalls Tryz.prog n_conf_plan_approach [.agg [p0, p1, p2, p3, p4, .int .i64 p5, .int .i64 p6, .int .i64 p7, .int .i64 p8], .agg [.int .i64 r0, .int .i64 r1, r2, r3, r4, .bool r5]] σ'4 (fun (r9 : RV) => fun (σ'5 : Store) => ∃ n7 : Int, (r9 = (.a (.one (.int .i64 n7)) : RV)) ∧ bcase (n2 == n7) (Qp (.a (.one .nils)) σ'5) (Fw.newObj σ'5 (.live t_int [[.int .i64 n2]]) (fun (id : Nat) => fun (σ'6 : Store) => Qp (.a (.one (.osl id 0 1))) σ'6))))))))))) → R σ'1) → bcase r5 (Qp (.a (.one .nils)) σ') (bcase (!b) (Qp (.a (.one .nils)) σ') ((([[.int .i64 n, .int .i64 n1]] : List (List D)) = ([[.int .i64 n, .int .i64 n1]] : List (List D))) ∧ R σ')))
theorem W_conf_plan_overlap (p0 : D) (p1 : D) (p2 : D) (p3 : D) (p4 : D) (p5 : Int) (p6 : Int) (p7 : Int) (p8 : Int) (r0 : Int) (r1 : Int) (r2 : D) (r3 : D) (r4 : D) (r5 : Bool) (σ : Store) (Qp : RV → Store → Prop) (h : V_conf_plan_overlap p0 p1 p2 p3 p4 p5 p6 p7 p8 r0 r1 r2 r3 r4 r5 σ Qp) : DCalls Tryz.prog n_conf_plan_overlap [.agg [p0, p1, p2, p3, p4, .int .i64 p5, .int .i64 p6, .int .i64 p7, .int .i64 p8], .agg [.int .i64 r0, .int .i64 r1, r2, r3, r4, .bool r5]] σ Qp :=
  dcalls_of_body mixed (by kernel_rfl) Tryz.func126 an_conf_plan_overlap ((show V_conf_plan_overlap p0 p1 p2 p3 p4 p5 p6 p7 p8 r0 r1 r2 r3 r4 r5 σ Qp = dbody Tryz.prog Tryz.f126 an_conf_plan_overlap [.agg [p0, p1, p2, p3, p4, .int .i64 p5, .int .i64 p6, .int .i64 p7, .int .i64 p8], .agg [.int .i64 r0, .int .i64 r1, r2, r3, r4, .bool r5]] σ Qp by kernel_rfl) ▸ h)
def an_pack_Reader_Byte : Ann := { esc := [], cbs := [], draws := [], loops := [], joins := [] }
def V_pack_Reader_Byte (r : D) (σ : Store) (Qp : RV → Store → Prop) : Prop :=
  DCalls Tryz.prog n_pack_Reader_fixed [.one r, .one (.int .i64 1)] σ (fun (r1 : RV) => fun (σ' : Store) => ∃ n : Int, (r1 = (.a (.one (.int .i64 n)) : RV)) ∧ Qp (.a (.one (.int .i64 n))) σ')
theorem W_pack_Reader_Byte (r : D) (σ : Store) (Qp : RV → Store → Prop) (h : V_pack_Reader_Byte r σ Qp) : DCalls Tryz.prog n_pack_Reader_Byte [.one r] σ Qp :=
  dcalls_of_body mixed (by kernel_rfl) Tryz.func131 an_pack_Reader_Byte ((show V_pack_Reader_Byte r σ Qp = dbody Tryz.prog Tryz.f131 an_pack_Reader_Byte [.one r] σ Qp by kernel_rfl) ▸ h)
def an_seq_Lost : Ann := { esc := [3], cbs := [], draws := [], loops := [(5, { mods := [(16, SlotSh.one (Sh.int IntKind.i64))], keep := [3, 14, 15] })], joins := [] }
def V_seq_Lost (list : D) (σ : Store) (Qp : RV → Store → Prop) : Prop :=
  ∃ len : Nat, (Len list len) ∧ bcase ((len : Int) == 0) (Qp (.a (.one (.int .i64 0))) σ) (∃ len1 : Nat, (Idx Tryz.prog σ list 1 len1) ∧ ((0 : Int) ≤ 0) ∧ ((0 : Int) < (len1 : Int)) ∧ ∃ row : List D, (Row σ list 0 row) ∧ ∃ n : Int, ((List.take 1 row) = ([.int .i64 n] : List D)) ∧ Fw.newObj σ (.live t_seq_run [[.int .i64 0, .int .i64 0]]) (fun (id : Nat) => fun (σ' : Store) => storeEl [.int .i64 n, .int .i64 0] σ' (.osl id 0 1) 0 0 (fun (σ'1 : Store) => ∃ len2 : Nat, (IdxN Tryz.prog σ'1 list 1 len2) ∧ ((0 : Int) ≤ 1) ∧ ((1 : Int) ≤ (len2 : Int)) ∧ ∃ len3 : Nat, (Len (dsub list 1 len2) len3) ∧ ∃ I : Int → Store → Prop, ∃ μ : Int → Store → Nat, (I 0 σ'1) ∧ ∀ n1 : Int, ∀ σ'2 : Store, (I n1 σ'2) → bcase (decide (n1 < (len3 : Int))) (∃ len4 : Nat, (Idx Tryz.prog σ'2 (dsub list 1 len2) 1 len4) ∧ ((0 : Int) ≤ n1) ∧ (n1 < (len4 : Int)) ∧ ∃ row1 : List D, (Row σ'2 (dsub list 1 len2) (Int.toNat n1) row1) ∧ ∃ n2 : Int, ((List.take 1 row1) = ([.int .i64 n2] : List D)) ∧ DCalls Tryz.prog n_seq_run_take [.one (.el (.osl id 0 1) 0 0), .one (.int .i64 n2)] σ'2 (fun (r : RV) => fun (σ'3 : Store) => (r = (.tup [] : RV)) ∧ (I (w64 (n1 + 1)) σ'3) ∧ ((μ (w64 (n1 + 1)) σ'3) < (μ n1 σ'2)))) (∃ row1 : List D, (Row σ'2 (.osl id 0 1) 0 row1) ∧ ∃ n2 : Int, ((List.take 1 (List.drop 1 row1)) = ([.int .i64 n2] : List D)) ∧ Qp (.a (.one (.int .i64 n2))) σ'2))))
theorem W_seq_Lost (list : D) (σ : Store) (Qp : RV → Store → Prop) (h : V_seq_Lost list σ Qp) : DCalls Tryz.prog n_seq_Lost [.one list] σ Qp :=
  dcalls_of_body mixed (by kernel_rfl) Tryz.func135 an_seq_Lost ((show V_seq_Lost list σ Qp = dbody Tryz.prog Tryz.f135 an_seq_Lost [.one list] σ Qp by kernel_rfl) ▸ h)
def an_slices_Contains_Signal : Ann := { esc := [], cbs := [3], draws := [], loops := [], joins := [] }
def V_slices_Contains_Signal (s : D) (v0 : Int) (v1 : Int) (σ : Store) (Qp : RV → Store → Prop) : Prop :=
  DCalls Tryz.prog n_slices_Index_Signal [.one s, .agg [.int .i64 v0, .int .i64 v1]] σ (fun (r : RV) => fun (σ' : Store) => ∃ n : Int, (r = (.a (.one (.int .i64 n)) : RV)) ∧ Qp (.a (.one (.bool (decide (n ≥ 0))))) σ')
theorem W_slices_Contains_Signal (s : D) (v0 : Int) (v1 : Int) (σ : Store) (Qp : RV → Store → Prop) (h : V_slices_Contains_Signal s v0 v1 σ Qp) : DCalls Tryz.prog n_slices_Contains_Signal [.one s, .agg [.int .i64 v0, .int .i64 v1]] σ Qp :=
  dcalls_of_body mixed (by kernel_rfl) Tryz.func155 an_slices_Contains_Signal ((show V_slices_Contains_Signal s v0 v1 σ Qp = dbody Tryz.prog Tryz.f155 an_slices_Contains_Signal [.one s, .agg [.int .i64 v0, .int .i64 v1]] σ Qp by kernel_rfl) ▸ h)
def an_seal_cut : Ann := { esc := [], cbs := [], draws := [], loops := [], joins := [] }
def V_seal_cut (text : ByteArray) (σ : Store) (Qp : RV → Store → Prop) : Prop :=
  bcase (decide ((ByteArray.size text : Int) < 6)) (Qp (.tup [.one (.int .i64 0), .one (.int .i64 1)]) σ) (DCalls Tryz.prog n_pack_Read [.one (.str text)] σ (fun (r : RV) => fun (σ' : Store) => ∃ d : D, (r = (.a (.one d) : RV)) ∧ DCalls Tryz.prog n_pack_Reader_Word [.one d] σ' (fun (r1 : RV) => fun (σ'1 : Store) => ∃ n : Int, (r1 = (.a (.one (.int .i64 n)) : RV)) ∧ bcase (decide (n > 1024)) (Qp (.tup [.one (.int .i64 0), .one (.int .i64 2)]) σ'1) (bcase (decide ((ByteArray.size text : Int) < (w64 (n + 6)))) (Qp (.tup [.one (.int .i64 0), .one (.int .i64 1)]) σ'1) (Qp (.tup [.one (.int .i64 (w64 (n + 6))), .one (.int .i64 0)]) σ'1)))))
theorem W_seal_cut (text : ByteArray) (σ : Store) (Qp : RV → Store → Prop) (h : V_seal_cut text σ Qp) : DCalls Tryz.prog n_seal_cut [.one (.str text)] σ Qp :=
  dcalls_of_body mixed (by kernel_rfl) Tryz.func159 an_seal_cut ((show V_seal_cut text σ Qp = dbody Tryz.prog Tryz.f159 an_seal_cut [.one (.str text)] σ Qp by kernel_rfl) ▸ h)
def an_seq_run_take : Ann := { esc := [], cbs := [], draws := [(1, { ord := [0, 1, 2, 3, 4, 5, 6, 7, 8, 9, 10, 11, 12, 13, 14], nb := [], av := [], dir := [], sp := [9] })], loops := [], joins := [] }
def V_seq_run_take (r : D) (n : Int) (σ : Store) (Qp : RV → Store → Prop) : Prop :=
  (NotNil r) ∧ ∃ s : D, ∃ i : Nat, ∃ off : Nat, (r = (.el s i off : D)) ∧ ∃ row : List D, (Row σ s i row) ∧ ∃ n1 : Int, ((List.take 1 (List.drop (off + 0) row)) = ([.int .i64 n1] : List D)) ∧ DCalls Tryz.prog n_seq_Newer [.one (.int .i64 n1), .one (.int .i64 n)] σ (fun (r1 : RV) => fun (σ' : Store) => ∃ b : Bool, (r1 = (.a (.one (.bool b)) : RV)) ∧ bcase b (∃ pre : List A → Store → Prop, ∃ post : List A → Store → RV → Store → Prop, (SpecOk Tryz.prog n_seq_Gap pre post) ∧ (NotNil r) ∧ ∃ s1 : D, ∃ i1 : Nat, ∃ off1 : Nat, (r = (.el s1 i1 off1 : D)) ∧ ∃ row1 : List D, (Row σ' s1 i1 row1) ∧ ∃ n2 : Int, ((List.take 1 (List.drop (off1 + 1) row1)) = ([.int .i64 n2] : List D)) ∧ (NotNil r) ∧ ∃ s2 : D, ∃ i2 : Nat, ∃ off2 : Nat, (r = (.el s2 i2 off2 : D)) ∧ ∃ row2 : List D, (Row σ' s2 i2 row2) ∧ ∃ n3 : Int, ((List.take 1 (List.drop (off2 + 0) row2)) = ([.int .i64 n3] : List D)) ∧ (pre [.one (.int .i64 n3), .one (.int .i64 n)] σ') ∧ ∀ r2 : RV, ∀ s3 : Store, (post [.one (.int .i64 n3), .one (.int .i64 n)] σ' r2 s3) → ∃ n4 : Int, (r2 = (.a (.one (.int .i64 n4)) : RV)) ∧ (NotNil r) ∧ ∃ s4 : D, ∃ i3 : Nat, ∃ off3 : Nat, (r = (.el s4 i3 off3 : D)) ∧ storeEl [.int .i64 (w64 (n2 + (w64 (n4 - 1))))] s3 s4 i3 (off3 + 1) (fun (σ'1 : Store) => (NotNil r) ∧ ∃ s5 : D, ∃ i4 : Nat, ∃ off4 : Nat, (r = (.el s5 i4 off4 : D)) ∧ storeEl [.int .i64 n] σ'1 s5 i4 (off4 + 0) (fun (σ'2 : Store) => Qp (.tup []) σ'2))) (Qp (.tup []) σ'))
theorem W_seq_run_take (r : D) (n : Int) (σ : Store) (Qp : RV → Store → Prop) (h : V_seq_run_take r n σ Qp) : DCalls Tryz.prog n_seq_run_take [.one r, .one (.int .i64 n)] σ Qp :=
  dcalls_of_body mixed (by kernel_rfl) Tryz.func163 an_seq_run_take ((show V_seq_run_take r n σ Qp = dbody Tryz.prog Tryz.f163 an_seq_run_take [.one r, .one (.int .i64 n)] σ Qp by kernel_rfl) ▸ h)
def an_conf_has_1 : Ann := { esc := [], cbs := [2], draws := [], loops := [], joins := [] }
def V_conf_has_1 (s0 : Int) (s1 : Int) (s2 : Int) (a1 : D) (σ : Store) (Qp : RV → Store → Prop) : Prop :=
  ∃ s : D, ∃ i : Nat, ∃ off : Nat, (a1 = (.el s i off : D)) ∧ ∃ row : List D, (Row σ s i row) ∧ ∃ n : Int, ((List.take 1 (List.drop off row)) = ([.int .i64 n] : List D)) ∧ Qp (.a (.one (.bool (s0 == n)))) σ
theorem W_conf_has_1 (s0 : Int) (s1 : Int) (s2 : Int) (a1 : D) (σ : Store) (Qp : RV → Store → Prop) (h : V_conf_has_1 s0 s1 s2 a1 σ Qp) : DCalls Tryz.prog n_conf_has_1 [.agg [.int .i64 s0, .int .i64 s1, .int .i64 s2], .one a1] σ Qp :=
  dcalls_of_body mixed (by kernel_rfl) Tryz.func171 an_conf_has_1 ((show V_conf_has_1 s0 s1 s2 a1 σ Qp = dbody Tryz.prog Tryz.f171 an_conf_has_1 [.agg [.int .i64 s0, .int .i64 s1, .int .i64 s2], .one a1] σ Qp by kernel_rfl) ▸ h)
end Go.Proofs.YtaklhjodjbgmgaaGreat
end
section
set_option maxRecDepth 20000
set_option linter.unusedVariables false
set_option linter.unusedSimpArgs false
namespace Go.Proofs.YtaklhjodjbgmgaaGreat
open Go.Fw Go.Proofs Go.RowKit
variable {σ : Store}
theorem flatW (l : List (Int × Int × Int)) : ∀ row ∈ l.map encW, ∀ x ∈ row, Flat x := by
  intro row hrow x hx
  obtain ⟨w, _, rfl⟩ := List.mem_map.1 hrow
  simp [encW] at hx
  rcases hx with rfl | rfl | rfl <;> exact .int _ _
def WaysPost (σ : Store) (t : TypeId) (k : Int) (r : RV) (σ' : Store) : Prop := σ' = σ ∧ ∃ d, r = .a (.one d) ∧ ∀ s, At Tryz.prog s t d ((wayL k).map encW)
theorem ways_fin {t : TypeId} (hc : Tryz.prog.cellsOf t = 3) {k : Int} {rows : List (List D)} {n : Nat} {id : Nat} {σ' : Store} (hn : n = rows.length) (hl : rows.length < 100) (hid : σ id = .free) (he : Ext σ σ') (hs : σ' id = .live t rows) (hr : rows = (wayL k).map encW) :
    ∃ r' σ'', Ret Tryz.prog σ σ' (.a (.one (.osl id 0 n))) σ'' r' ∧ WaysPost σ t k r' σ'' := by
  have hat : At Tryz.prog σ' t (.osl id 0 n) rows := At.fresh hs (by omega) hn
  obtain ⟨d', h1, h2⟩ := ret_slice hat he (osl_new hid) (by rw [hr]; exact flatW _)
  exact ⟨.a (.one d'), σ, .pure he h1, rfl, d', rfl, fun s => hr ▸ h2 s⟩
theorem topo_ways_ok (k : Int) : DCalls Tryz.prog n_topo_ways [iA k] σ (WaysPost σ t_topo_way k) := by
  refine (W_topo_ways k σ _ ?_).ret (Q := fun r s => ∃ r' σ', Ret Tryz.prog σ s r σ' r' ∧ WaysPost σ t_topo_way k r' σ') (fun r s h => h)
  refine bce (fun h0 => newObj_intro fun id σ' hid _ he hs => ?_) (fun h0 => bce (fun h1 => newObj_intro fun id σ' hid _ he hs => ?_) (fun h1 => bce (fun h2 => newObj_intro fun id σ' hid _ he hs => ?_) (fun h2 => ?_)))
  · exact ways_fin c_topo_way rfl (by simp) hid he hs (by subst h0; rfl)
  · exact ways_fin c_topo_way rfl (by simp) hid he hs (by subst h1; rfl)
  · exact ways_fin c_topo_way rfl (by simp) hid he hs (by subst h2; rfl)
  · exact ⟨.a (.one .nils), σ, .pure (.refl _) .nils, rfl, .nils, rfl, fun s => by simp [wayL, h0, h1, h2]; exact .nil⟩
theorem wayL_len (k : Int) : (wayL k).length < 2 ^ 60 := by unfold wayL; split <;> (try split) <;> (try split) <;> simp
theorem topo_Ends_ok (k : Int) : Pure Tryz.prog n_topo_Ends [iA k] σ (.a (iA (nends k))) := by
  refine W_topo_Ends k σ _ ((topo_ways_ok k).mono ?_)
  rintro r σ' ⟨rfl, d, rfl, hd⟩
  refine ⟨d, rfl, (hd σ').lenK ⟨fun n m s => s = σ' ∧ Rng (wayL k) (fun r => r.foldl endStep n = nends k) m, fun n m _ => (wayL k).length - m.toNat, ⟨rfl, .start (ends_eq k)⟩, ?_⟩⟩
  rintro n m _ ⟨rfl, hr⟩
  refine bcd (fun hlt => ?_) (fun hge => ?_)
  · obtain ⟨j, x, rfl, hx, hj, hF, nx⟩ := hr.step (by simp) (wayL_len k) hlt
    refine (hd _).load (map_get hx) c_topo_way rfl ⟨x.1, x.2.1, x.2.2, rfl, by omega, by omega, by omega, by omega, andl rfl (nx (fun r => r.foldl endStep (endStep n x) = nends k) hF)⟩
  · have := hr.done (by simp) hge
    exact ⟨by rw [← this]; rfl, rfl⟩
theorem topo_between_ok (n lo hi : Int) : Pure Tryz.prog n_topo_between [iA n, iA lo, iA hi] σ (.a (bA (decide (lo ≤ n ∧ n ≤ hi)))) := by
  refine W_topo_between n lo hi σ _ (bcd (fun h => ⟨?_, rfl⟩) (fun h => ⟨?_, rfl⟩))
  · simp [h]
  · simp [h]
theorem topo_Next_ok {d : D} {js : List Jt} (s e : Int) (h : At Tryz.prog σ t_Joint d (js.map Jt.enc)) : Pure Tryz.prog n_topo_Next [.one d, iA s, iA e] σ (opt2 (nxt js s e)) := by
  have hl := h.size
  rw [List.length_map] at hl
  refine W_topo_Next d s e σ _ (h.lenK ⟨fun n σ' => σ' = σ ∧ Rng js (fun r => nxt r s e = nxt js s e) n, fun n _ => js.length - n.toNat, ⟨rfl, .start rfl⟩, ?_⟩)
  rintro n σ' ⟨rfl, hr⟩
  refine bcd (fun hlt => ?_) (fun hge => ?_)
  · obtain ⟨j, x, rfl, hx, hj, hF, nx⟩ := hr.step (by simp) hl hlt
    refine h.load (map_get hx) c_Joint rfl ⟨x.A, x.AEnd, x.B, x.BEnd, rfl, ?_⟩
    rw [nxt] at hF
    repeat' (first | refine bce (fun _ => ?_) (fun _ => ?_))
    all_goals first
      | exact ⟨by rw [← hF]; simp [*, opt2], rfl⟩
      | exact andl rfl (nx (fun r => nxt r s e = nxt js s e) (by simpa [*] using hF))
  · exact ⟨by rw [← hr.done (by simp) hge]; rfl, rfl⟩
theorem slices_Index_int_ok {d : D} {l : List Int} (v : Int) (h : At Tryz.prog σ t_int d (l.map Go.Fw.encI)) : Pure Tryz.prog n_slices_Index_int [.one d, iA v] σ (.a (iA (idxOf l v 0))) := by
  have hl := h.size
  rw [List.length_map] at hl
  refine W_slices_Index_int d v σ _ (h.lenK ⟨fun n σ' => σ' = σ ∧ Rng l (fun r => (∀ j : Nat, n = j → idxOf r v j = idxOf l v 0)) n, fun n _ => l.length - n.toNat, ⟨rfl, .start fun j hj => by cases j with | zero => rfl | succ j => omega⟩, ?_⟩)
  rintro n σ' ⟨rfl, hr⟩
  refine bcd (fun hlt => ?_) (fun hge => ?_)
  · obtain ⟨j, x, rfl, hx, hj, hF, nx⟩ := hr.step (by simp) hl hlt
    refine h.load (map_get hx) c_int rfl ⟨x, rfl, ?_⟩
    have hF := hF j rfl
    rw [idxOf] at hF
    refine bce (fun _ => ?_) (fun _ => ?_)
    · exact ⟨by rw [← hF]; simp [*], rfl⟩
    · refine andl rfl (nx _ fun j' hj' => ?_)
      rw [w64_succ (by omega)] at hj'
      obtain rfl : j' = j + 1 := by omega
      rw [if_neg (fun e => by simp_all)] at hF
      exact hF
  · refine ⟨?_, rfl⟩
    obtain ⟨j, hj, hj2, hF⟩ := hr
    have hF := hF j hj
    rw [drop_end (by simp at hge; omega)] at hF
    rw [← hF]; rfl
theorem alloc_cell {W : World} {cs : Array Value} {t : TypeId} {j : Nat} {v : Value} (h : cs[j]? = some v) : (W.alloc (.cells cs t)).cell? ⟨W.heap.size, j, none⟩ = some v := by
  unfold World.cell?
  rw [(MapKept.heap_alloc W _).1]
  exact h
theorem index2_calls (a b p e : Int) (W : World) : Calls Tryz.prog n_slices_Index_int #[.slice (some ⟨W.heap.size, 0, none⟩) 2 2, .int .i64 e] (W.alloc (.cells #[.int .i64 a, .int .i64 b, .int .i64 p] t_topo_way)) fun r W' =>
    r = .returned (.int .i64 (idxOf [a, b] e 0)) ∧ Below (W.heap.size + 1) (W.alloc (.cells #[.int .i64 a, .int .i64 b, .int .i64 p] t_topo_way)) W' := by
  have hsz : (W.alloc (.cells #[.int .i64 a, .int .i64 b, .int .i64 p] t_topo_way)).heap.size = W.heap.size + 1 := Array.size_push _
  have hA : At Tryz.prog noS t_int (.sl 1 [[iD a], [iD b]]) ([a, b].map Go.Fw.encI) := ⟨⟨rfl, .inr c_int.symm⟩, by simp, fun es rows e => by injection e with e1 _; rw [← e1, c_int]⟩
  have hcell : ∀ j v, #[Value.int .i64 a, .int .i64 b, .int .i64 p][j]? = some v → (W.alloc (.cells #[.int .i64 a, .int .i64 b, .int .i64 p] t_topo_way)).cell? ⟨W.heap.size, j, none⟩ = some v := fun j v h => alloc_cell h
  have hV : V (allK (W.alloc (.cells #[.int .i64 a, .int .i64 b, .int .i64 p] t_topo_way))) noB (W.alloc (.cells #[.int .i64 a, .int .i64 b, .int .i64 p] t_topo_way)) (.slice (some ⟨W.heap.size, 0, none⟩) 2 2) (.sl 1 [[iD a], [iD b]]) := by
    have key : ∀ (i : Nat) row (j : Nat) d, ([[iD a], [iD b]] : List (List D))[i]? = some row → row[j]? = some d → (i = 0 ∧ j = 0 ∧ row = [iD a] ∧ d = iD a) ∨ (i = 1 ∧ j = 0 ∧ row = [iD b] ∧ d = iD b) := by
      intro i row j d h1 h2
      rcases i with _ | _ | i
      · simp at h1; subst h1
        rcases j with _ | j
        · simp at h2; exact .inl ⟨rfl, rfl, rfl, h2.symm⟩
        · simp at h2
      · simp at h1; subst h1
        rcases j with _ | j
        · simp at h2; exact .inr ⟨rfl, rfl, rfl, h2.symm⟩
        · simp at h2
      · simp at h1
    refine V.sl ⟨W.heap.size, 0, none⟩ 2 2 1 _ (fun i j => if i = 0 then .int .i64 a else .int .i64 b) (fun _ => ⟨by show W.heap.size < _; rw [hsz]; omega, rfl⟩) rfl (by omega) (fun i row h => ?_) (fun i row j d h hj => ?_) (fun i row j d h hj => ?_)
    · rcases i with _ | _ | i
      · simp at h; subst h; rfl
      · simp at h; subst h; rfl
      · simp at h
    · rcases key i row j d h hj with ⟨rfl, rfl, rfl, rfl⟩ | ⟨rfl, rfl, rfl, rfl⟩
      · exact hcell 0 _ rfl
      · exact hcell 1 _ rfl
    · rcases key i row j d h hj with ⟨rfl, rfl, rfl, rfl⟩ | ⟨rfl, rfl, rfl, rfl⟩
      · exact V.int _ _
      · exact V.int _ _
  have hc := (slices_Index_int_ok e hA).2 (allK _) noB (W.alloc (.cells #[.int .i64 a, .int .i64 b, .int .i64 p] t_topo_way)) #[.slice (some ⟨W.heap.size, 0, none⟩) 2 2, .int .i64 e] srel0 rfl (by
    intro i v x hv hx
    rcases i with _ | _ | i
    · simp at hv hx
      subst hv hx
      exact hV
    · simp at hv hx
      subst hv hx
      exact V.int _ _
    · simp at hv)
  refine hc.mono fun r W' ⟨v, rr, σ', k', β', q1, ⟨q2, _⟩, q3, _, _, q6⟩ => ?_
  subst q2
  have hv := V.inv_int q3
  subst hv
  exact ⟨q1, q6.os, q6.tape, q6.output, q6.size, fun b hb => q6.block b (by rw [hsz]; exact hb) (fun i bi hi => by cases hi)⟩
theorem way_other_calls (a b p e : Int) (W : World) : Calls Tryz.prog n_topo_way_other #[.agg #[.int .i64 a, .int .i64 b, .int .i64 p], .int .i64 e] W fun r W' =>
    r = .returned (if e = a then .tuple #[.int .i64 b, .bool true] else if e = b then .tuple #[.int .i64 a, .bool true] else .tuple #[.int .i64 0, .bool false]) ∧ Below W.heap.size W W' := by
  have hI := index2_calls a b p e W
  have fin : ∀ W', Below (W.heap.size + 1) (W.alloc (.cells #[.int .i64 a, .int .i64 b, .int .i64 p] t_topo_way)) W' → Below W.heap.size W W' := fun W' hb =>
    ((Below.refl _ _).alloc (Nat.le_refl _) _).trans (hb.mono (by omega))
  have cells : ∀ W', Below (W.heap.size + 1) (W.alloc (.cells #[.int .i64 a, .int .i64 b, .int .i64 p] t_topo_way)) W' →
      W'.cell? ⟨W.heap.size, 0, none⟩ = some (.int .i64 a) ∧ W'.cell? ⟨W.heap.size, 1, none⟩ = some (.int .i64 b) := fun W' hb => by
    exact ⟨(hb.cell (p := ⟨W.heap.size, 0, none⟩) (Nat.lt_succ_self _)).trans (alloc_cell rfl), (hb.cell (p := ⟨W.heap.size, 1, none⟩) (Nat.lt_succ_self _)).trans (alloc_cell rfl)⟩
  by_cases h0 : e = a
  · subst h0
    rw [show idxOf [e, b] e 0 = 0 by simp [idxOf]] at hI
    rw [if_pos rfl]
    go_enter Tryz.func141, Tryz.ntmps141
    go_wp2_with fail
    refine hI.mono ?_
    rintro r W' ⟨rfl, hb⟩
    obtain ⟨c0, c1⟩ := cells W' hb
    have hf := fin W' hb
    clear cells fin hI hb
    go_wp2
    go_ret2
    exact ⟨rfl, hf⟩
  · by_cases h1 : e = b
    · subst h1
      rw [show idxOf [a, e] e 0 = 1 by simp [idxOf, h0]] at hI
      rw [if_neg h0, if_pos rfl]
      go_enter Tryz.func141, Tryz.ntmps141
      go_wp2_with fail
      refine hI.mono ?_
      rintro r W' ⟨rfl, hb⟩
      obtain ⟨c0, c1⟩ := cells W' hb
      have hf := fin W' hb
      clear cells fin hI hb
      go_wp2
      go_ret2
      exact ⟨rfl, hf⟩
    · rw [show idxOf [a, b] e 0 = -1 by simp [idxOf, h0, h1]] at hI
      rw [if_neg h0, if_neg h1]
      go_enter Tryz.func141, Tryz.ntmps141
      go_wp2_with fail
      refine hI.mono ?_
      rintro r W' ⟨rfl, hb⟩
      have hf := fin W' hb
      clear cells fin hI hb
      go_wp2
      go_ret2
      exact ⟨rfl, hf⟩
theorem way_other_ok (a b p e : Int) : Pure Tryz.prog n_topo_way_other [.agg [iD a, iD b, iD p], iA e] σ (opt1 (if e = a then some b else if e = b then some a else none)) := by
  refine ⟨by kernel_rfl, fun k β W vs hS hsz hv => ?_⟩
  have hvs : vs = #[.agg #[.int .i64 a, .int .i64 b, .int .i64 p], .int .i64 e] := by
    have h0 := hv 0 (vs.getD 0 undef) _ (by simp at hsz; simp [hsz]) rfl
    have h1 := hv 1 (vs.getD 1 undef) _ (by simp at hsz; simp [hsz]) rfl
    obtain ⟨us, e0, hu⟩ := h0
    have e1 := V.inv_int h1
    have hus : us = #[.int .i64 a, .int .i64 b, .int .i64 p] := by
      apply Array.ext'
      exact vsOfD_eq hu rfl
    apply Array.ext
    · simpa using hsz
    · intro i h1 h2
      simp at hsz
      match i, h1 with
      | 0, _ => simp [hsz] at e0; simp [e0, hus]
      | 1, _ => simp [hsz] at e1; simp [e1]
      | i + 2, h => omega
  subst hvs
  refine (way_other_calls a b p e W).mono fun r W' ⟨h1, h2⟩ => ?_
  have hg : Grow W W' := ⟨h2.os, h2.tape, h2.output, h2.size, h2.block⟩
  have tup : ∀ (x : Int) (c : Bool), VR k β W' (.tuple #[.int .i64 x, .bool c]) (.tup [iA x, bA c]) := fun x c => tup2 (v := iA x) (V.int _ _)
  refine ⟨_, _, σ, k, β, h1, ⟨rfl, rfl⟩, ?_, hS.grow hg, Ghost.refl _ _ _ _, hg.frm _ _⟩
  by_cases h0 : e = a
  · simp only [h0, if_true]; exact tup _ _
  · by_cases h1 : e = b
    · simp only [h0, h1, if_false, if_true]; split <;> exact tup _ _
    · simp only [h0, h1, if_false]; exact tup _ _
theorem topo_Pos_ok (k i o : Int) : Pure Tryz.prog n_topo_Pos [iA k, iA i, iA o] σ (opt1 (wpos (wayL k) i o)) := by
  refine W_topo_Pos k i o σ _ ((topo_ways_ok k).mono ?_)
  rintro r σ' ⟨rfl, d, rfl, hd⟩
  refine ⟨d, rfl, (hd σ').lenK ⟨fun m s => s = σ' ∧ Rng (wayL k) (fun r => wpos r i o = wpos (wayL k) i o) m, fun m _ => (wayL k).length - m.toNat, ⟨rfl, .start rfl⟩, ?_⟩⟩
  rintro m _ ⟨rfl, hr⟩
  refine bcd (fun hlt => ?_) (fun hge => ?_)
  · obtain ⟨j, x, rfl, hx, hj, hF, nx⟩ := hr.step (by simp) (wayL_len k) hlt
    refine (hd _).load (map_get hx) c_topo_way rfl ⟨x.1, x.2.1, x.2.2, rfl, (way_other_ok _ _ _ _).use ?_⟩
    have hne : x.1 ≠ x.2.1 := by
      have hm := List.mem_of_getElem? hx
      unfold wayL at hm
      split at hm
      · simp at hm; subst hm; decide
      · split at hm
        · simp at hm; rcases hm with rfl | rfl <;> decide
        · split at hm
          · simp at hm; rcases hm with rfl | rfl <;> decide
          · cases hm
    rw [wpos] at hF
    by_cases h0 : i = x.1
    · subst h0
      refine ⟨x.2.1, true, by simp [opt1], ?_⟩
      refine bce (fun h1 => ?_) (fun h1 => ?_)
      · exact ⟨by rw [← hF]; simp [*, opt1], rfl⟩
      · exact andl rfl (nx (fun r => wpos r x.1 o = wpos (wayL k) x.1 o) (by rw [if_neg (by rintro (⟨_, h⟩ | ⟨h, _⟩); exact h1 h; exact hne h.symm)] at hF; exact hF))
    · by_cases h1 : i = x.2.1
      · subst h1
        refine ⟨x.1, true, by simp [opt1, h0], ?_⟩
        refine bce (fun h1 => ?_) (fun h1 => ?_)
        · exact ⟨by rw [← hF]; simp [*, opt1], rfl⟩
        · exact andl rfl (nx (fun r => wpos r x.2.1 o = wpos (wayL k) x.2.1 o) (by rw [if_neg (by rintro (⟨h, _⟩ | ⟨_, h⟩); exact hne h; exact h1 h)] at hF; exact hF))
      · refine ⟨0, false, by simp [opt1, h0, h1], ?_⟩
        exact andl rfl (nx (fun r => wpos r i o = wpos (wayL k) i o) (by rw [if_neg (by rintro (⟨h, _⟩ | ⟨h, _⟩); exact h0 h.symm; exact h1 h.symm)] at hF; exact hF))
  · have := hr.done (by simp) hge
    exact ⟨by rw [← this]; rfl, rfl⟩
end Go.Proofs.YtaklhjodjbgmgaaGreat
end
section
namespace Go.Fw
def allSpots (js : List Jt) : List (Int × Int) := js.flatMap Jt.spots
theorem prun_iff (secs : List Sec) : ∀ (l tk tk' : List (Int × Int)), prun secs l tk = some tk' ↔ (∀ p ∈ l, spotOk secs p = true) ∧ l.Nodup ∧ (∀ p ∈ l, p ∉ tk) ∧ tk' = l.reverse ++ tk
  | [], tk, tk' => by simp [prun]; exact eq_comm
  | p :: r, tk, tk' => by
    rw [prun]
    by_cases h : spotOk secs p = true ∧ p ∉ tk
    · rw [if_pos h, prun_iff secs r (p :: tk) tk']
      simp only [List.mem_cons, forall_eq_or_imp, List.nodup_cons, List.reverse_cons, List.append_assoc, List.singleton_append]
      constructor
      · rintro ⟨h1, h2, h3, h4⟩
        exact ⟨⟨h.1, h1⟩, ⟨fun hp => (h3 p hp) (.inl rfl), h2⟩, ⟨h.2, fun q hq hqt => h3 q hq (.inr hqt)⟩, h4⟩
      · rintro ⟨⟨_, h1⟩, ⟨h2, h3⟩, ⟨_, h4⟩, h5⟩
        exact ⟨h1, h3, fun q hq hqt => hqt.elim (fun e => h2 (e ▸ hq)) (h4 q hq), h5⟩
    · rw [if_neg h]
      simp only [List.mem_cons, forall_eq_or_imp]
      constructor
      · intro h'; cases h'
      · rintro ⟨⟨h1, _⟩, _, ⟨h2, _⟩, _⟩; exact absurd ⟨h1, h2⟩ h
theorem jrun_iff (secs : List Sec) : ∀ (js : List Jt) (tk tk' : List (Int × Int)), jrun secs js tk = some tk' ↔
    (∀ p ∈ allSpots js, spotOk secs p = true) ∧ (allSpots js).Nodup ∧ (∀ p ∈ allSpots js, p ∉ tk) ∧ (∀ j ∈ js, j.A ≠ j.B) ∧ tk' = (allSpots js).reverse ++ tk
  | [], tk, tk' => by simp [jrun, allSpots]; exact eq_comm
  | j :: r, tk, tk' => by
    rw [jrun]
    have hall : allSpots (j :: r) = j.spots ++ allSpots r := by simp [allSpots]
    rw [hall]
    cases hp : prun secs j.spots tk with
    | none =>
      have hno : ¬ ∃ t, prun secs j.spots tk = some t := by rw [hp]; rintro ⟨t, h⟩; cases h
      constructor
      · intro h; cases h
      · rintro ⟨h1, h2, h3, _, _⟩
        exact absurd ⟨_, (prun_iff secs j.spots tk _).2 ⟨fun p hp => h1 p (List.mem_append_left _ hp), (List.nodup_append.1 h2).1, fun p hp => h3 p (List.mem_append_left _ hp), rfl⟩⟩ hno
    | some t =>
      obtain ⟨a1, a2, a3, a4⟩ := (prun_iff secs j.spots tk t).1 hp
      by_cases hAB : j.A = j.B
      · simp only [hAB, if_true]
        constructor
        · intro h; cases h
        · rintro ⟨_, _, _, h4, _⟩; exact absurd hAB (h4 j (by simp))
      · simp only [hAB, if_false]
        rw [jrun_iff secs r t tk', a4]
        constructor
        · rintro ⟨h1, h2, h3, h4, h5⟩
          refine ⟨fun p hp => (List.mem_append.1 hp).elim (a1 p) (h1 p), List.nodup_append.2 ⟨a2, h2, fun a ha b hb e => ?_⟩, fun p hp => (List.mem_append.1 hp).elim (a3 p) (fun hp ht => h3 p hp (by simp [ht])), fun x hx => ?_, by rw [h5]; simp⟩
          · subst e; exact h3 a hb (by simp [ha])
          · rcases List.mem_cons.1 hx with rfl | hx
            · exact hAB
            · exact h4 x hx
        · rintro ⟨h1, h2, h3, h4, h5⟩
          obtain ⟨b1, b2, b3⟩ := List.nodup_append.1 h2
          refine ⟨fun p hp => h1 p (List.mem_append_right _ hp), b2, fun p hp ht => ?_, fun x hx => h4 x (List.mem_cons_of_mem _ hx), by rw [h5]; simp⟩
          rcases List.mem_append.1 ht with ht | ht
          · exact b3 p (by simpa using ht) p hp rfl
          · exact h3 p (List.mem_append_right _ hp) ht
theorem cnt_count (s e : Int) : ∀ js : List Jt, cnt js s e = ((allSpots js).count (s, e) : Int)
  | [] => by simp [cnt, allSpots]
  | j :: r => by
    have hall : allSpots (j :: r) = (j.A, j.AEnd) :: (j.B, j.BEnd) :: allSpots r := by simp [allSpots, Jt.spots]
    rw [hall, cnt, cnt_count s e r, List.count_cons, List.count_cons]
    simp only [beq_iff_eq, Prod.mk.injEq]
    split <;> split <;> omega
theorem srun_iff (tk : List (Int × Int)) : ∀ (secs : List Sec) (i : Int) (ls : List Int), srun tk secs i ls = true ↔
    ∀ (k : Nat) s, secs[k]? = some s → nends s.Kind ≠ 0 ∧ (0 ≤ s.OC ∧ s.OC ≤ 3) ∧ (0 ≤ s.Line ∧ s.Line ≤ 3) ∧ (s.Line ≠ 0 → s.Kind = 0 ∧ (i + k, 1) ∉ tk ∧ s.Line ∉ ls ∧ ∀ k' s', k' < k → secs[k']? = some s' → s'.Line ≠ s.Line)
  | [], i, ls => by simp [srun]
  | x :: r, i, ls => by
    rw [srun]
    by_cases hc : nends x.Kind = 0 ∨ ¬ (0 ≤ x.OC ∧ x.OC ≤ 3) ∨ ¬ (0 ≤ x.Line ∧ x.Line ≤ 3) ∨ x.Line ≠ 0 ∧ (x.Kind ≠ 0 ∨ (i, 1) ∈ tk ∨ x.Line ∈ ls)
    · rw [if_pos hc]
      constructor
      · intro h; cases h
      · intro h
        obtain ⟨h1, h2, h3, h4⟩ := h 0 x rfl
        rcases hc with hc | hc | hc | ⟨hc, hd⟩
        · exact absurd hc h1
        · exact absurd h2 hc
        · exact absurd h3 hc
        · obtain ⟨g1, g2, g3, _⟩ := h4 hc
          rcases hd with hd | hd | hd
          · exact absurd g1 hd
          · exact absurd hd (by simpa using g2)
          · exact absurd hd g3
    · rw [if_neg hc, srun_iff tk r (i + 1) (x.Line :: ls)]
      have hx : nends x.Kind ≠ 0 ∧ (0 ≤ x.OC ∧ x.OC ≤ 3) ∧ (0 ≤ x.Line ∧ x.Line ≤ 3) ∧ (x.Line ≠ 0 → x.Kind = 0 ∧ (i, 1) ∉ tk ∧ x.Line ∉ ls) := by
        refine ⟨fun h => hc (.inl h), Classical.not_not.1 fun h => hc (.inr (.inl h)), Classical.not_not.1 fun h => hc (.inr (.inr (.inl h))), fun hl => ⟨Classical.not_not.1 fun h => hc (.inr (.inr (.inr ⟨hl, .inl h⟩))), fun h => hc (.inr (.inr (.inr ⟨hl, .inr (.inl h)⟩))), fun h => hc (.inr (.inr (.inr ⟨hl, .inr (.inr h)⟩)))⟩⟩
      constructor
      · intro h k s hk
        cases k with
        | zero =>
          simp at hk; subst hk
          exact ⟨hx.1, hx.2.1, hx.2.2.1, fun hl => by
            obtain ⟨a, b, c⟩ := hx.2.2.2 hl
            exact ⟨a, by simpa using b, c, fun k' s' hk' => by omega⟩⟩
        | succ k =>
          obtain ⟨h1, h2, h3, h4⟩ := h k s (by simpa using hk)
          refine ⟨h1, h2, h3, fun hl => ?_⟩
          obtain ⟨a, b, c, d⟩ := h4 hl
          refine ⟨a, by rw [show i + ((k + 1 : Nat) : Int) = i + 1 + k by omega]; exact b, fun hm => c (by simp [hm]), fun k' s' hk' hs' => ?_⟩
          cases k' with
          | zero => simp at hs'; subst hs'; exact fun e => c (by simp [e])
          | succ k' => exact d k' s' (by omega) (by simpa using hs')
      · intro h k s hk
        obtain ⟨h1, h2, h3, h4⟩ := h (k + 1) s (by simpa using hk)
        refine ⟨h1, h2, h3, fun hl => ?_⟩
        obtain ⟨a, b, c, d⟩ := h4 hl
        refine ⟨a, by rw [show i + 1 + (k : Int) = i + ((k + 1 : Nat) : Int) by omega]; exact b, fun hm => ?_, fun k' s' hk' hs' => d (k' + 1) s' (by omega) (by simpa using hs')⟩
        rcases List.mem_cons.1 hm with hm | hm
        · exact d 0 x (by omega) rfl hm.symm
        · exact c hm
def secOk (secs : List Sec) (js : List Jt) (k : Nat) (s : Sec) : Prop :=
  nends s.Kind ≠ 0 ∧ (0 ≤ s.OC ∧ s.OC ≤ 3) ∧ (0 ≤ s.Line ∧ s.Line ≤ 3) ∧ (s.Line ≠ 0 → s.Kind = 0 ∧ cnt js k 1 ≤ 0 ∧ ∀ k' s', k' < k → secs[k']? = some s' → s'.Line ≠ s.Line)
def jtOk (secs : List Sec) (js : List Jt) (j : Jt) : Prop :=
  (0 ≤ j.A ∧ j.A < secs.length) ∧ (0 ≤ j.B ∧ j.B < secs.length) ∧ j.A ≠ j.B ∧ (0 ≤ j.AEnd ∧ j.AEnd < nends (kindAt secs j.A)) ∧ (0 ≤ j.BEnd ∧ j.BEnd < nends (kindAt secs j.B)) ∧ cnt js j.A j.AEnd ≤ 1 ∧ cnt js j.B j.BEnd ≤ 1
theorem spotOk_iff (secs : List Sec) (p : Int × Int) : spotOk secs p = true ↔ (0 ≤ p.1 ∧ p.1 < secs.length) ∧ (0 ≤ p.2 ∧ p.2 < nends (kindAt secs p.1)) := by
  simp only [spotOk, Bool.and_eq_true, decide_eq_true_eq]; omega
theorem mem_spots {js : List Jt} {p : Int × Int} : p ∈ allSpots js ↔ ∃ j ∈ js, p = (j.A, j.AEnd) ∨ p = (j.B, j.BEnd) := by
  simp [allSpots, Jt.spots]
theorem topoOk_iff (secs : List Sec) (js : List Jt) : topoOk secs js = true ↔
    (1 ≤ secs.length ∧ secs.length ≤ 16 ∧ js.length ≤ 24) ∧ (∀ (k : Nat) s, secs[k]? = some s → secOk secs js k s) ∧ ∀ j ∈ js, jtOk secs js j := by
  simp only [topoOk, Bool.and_eq_true, decide_eq_true_eq]
  refine and_congr_right fun _ => ?_
  have hnd : (allSpots js).Nodup ↔ ∀ j ∈ js, cnt js j.A j.AEnd ≤ 1 ∧ cnt js j.B j.BEnd ≤ 1 := by
    rw [List.nodup_iff_count]
    constructor
    · intro h j _
      rw [cnt_count, cnt_count]
      have h1 := h (j.A, j.AEnd)
      have h2 := h (j.B, j.BEnd)
      omega
    · intro h p
      by_cases hp : p ∈ allSpots js
      · obtain ⟨j, hj, rfl | rfl⟩ := mem_spots.1 hp
        · have := (h j hj).1; rw [cnt_count] at this; omega
        · have := (h j hj).2; rw [cnt_count] at this; omega
      · rw [List.count_eq_zero_of_not_mem hp]; omega
  have hsp : (∀ p ∈ allSpots js, spotOk secs p = true) ↔ ∀ j ∈ js, ((0 ≤ j.A ∧ j.A < secs.length) ∧ (0 ≤ j.AEnd ∧ j.AEnd < nends (kindAt secs j.A))) ∧ ((0 ≤ j.B ∧ j.B < secs.length) ∧ (0 ≤ j.BEnd ∧ j.BEnd < nends (kindAt secs j.B))) := by
    constructor
    · intro h j hj
      exact ⟨(spotOk_iff _ _).1 (h (j.A, j.AEnd) (mem_spots.2 ⟨j, hj, .inl rfl⟩)), (spotOk_iff _ _).1 (h (j.B, j.BEnd) (mem_spots.2 ⟨j, hj, .inr rfl⟩))⟩
    · intro h p hp
      obtain ⟨j, hj, rfl | rfl⟩ := mem_spots.1 hp
      · exact (spotOk_iff _ _).2 (h j hj).1
      · exact (spotOk_iff _ _).2 (h j hj).2
  have hcz : ∀ k : Nat, cnt js k 1 ≤ 0 ↔ ((k : Int), (1 : Int)) ∉ (allSpots js).reverse ++ [] := fun k => by
    rw [cnt_count, List.append_nil, List.mem_reverse, ← List.count_eq_zero]; omega
  constructor
  · intro h
    cases hj : jrun secs js [] with
    | none => rw [hj] at h; cases h
    | some tk =>
      rw [hj] at h
      obtain ⟨h1, h2, _, h4, rfl⟩ := (jrun_iff secs js [] tk).1 hj
      have h5 := (srun_iff _ secs 0 []).1 h
      refine ⟨fun k s hk => ?_, fun j hj => ?_⟩
      · obtain ⟨a, b, c, d⟩ := h5 k s hk
        refine ⟨a, b, c, fun hl => ?_⟩
        obtain ⟨d1, d2, _, d4⟩ := d hl
        exact ⟨d1, (hcz k).2 (by simpa using d2), d4⟩
      · obtain ⟨⟨a1, a2⟩, b1, b2⟩ := hsp.1 h1 j hj
        exact ⟨a1, b1, h4 j hj, a2, b2, hnd.1 h2 j hj⟩
  · rintro ⟨h1, h2⟩
    have hj : jrun secs js [] = some ((allSpots js).reverse ++ []) := (jrun_iff secs js [] _).2 ⟨hsp.2 fun j hj => by obtain ⟨a, b, c, d, e, f⟩ := h2 j hj; exact ⟨⟨a, d⟩, b, e⟩, hnd.2 fun j hj => (h2 j hj).2.2.2.2.2, by simp, fun j hj => (h2 j hj).2.2.1, rfl⟩
    rw [hj]
    refine (srun_iff _ secs 0 []).2 fun k s hk => ?_
    obtain ⟨a, b, c, d⟩ := h1 k s hk
    refine ⟨a, b, c, fun hl => ?_⟩
    obtain ⟨d1, d2, d3⟩ := d hl
    exact ⟨d1, by simpa using (hcz k).1 d2, by simp, d3⟩
end Go.Fw
end
section
set_option linter.unusedVariables false
set_option linter.unusedSimpArgs false
namespace Go.Proofs.YtaklhjodjbgmgaaGreat
open Go.Fw Go.Proofs Go.RowKit
variable {σ : Store}
abbrev encP (p : Int × Int) : A := .agg [iD p.1, iD p.2]
theorem keys_spot : Keys Tryz.prog t_topo_spot encP := keys_int2 fun a b => by kernel_rfl
theorem keysI : Keys Tryz.prog t_int iA := ⟨fun x => by kernel_rfl, fun x y => by simp [eqA, eqCells, aCells, eqCell]⟩
theorem topo_Check_ok {d1 d2 : D} {secs : List Sec} {js : List Jt} (hs : ∀ s, At Tryz.prog s t_Section d1 (secs.map Sec.enc)) (hj : ∀ s, At Tryz.prog s t_Joint d2 (js.map Jt.enc)) :
    Pure Tryz.prog n_topo_Check [.one d1, .one d2] σ (.a (iA (if topoOk secs js = true then 0 else 6))) := by
  have hls := (hs σ).size
  have hlj := (hj σ).size
  rw [List.length_map] at hls hlj
  refine .of (W_topo_Check d1 d2 σ _ ?_) (flat_i _)
  intro R hR
  refine (hs σ).lenK ((topo_between_ok _ _ _).use ⟨_, rfl, bcnot (fun h => ?_) (fun h => (hj σ).lenK (bcd (fun h2 => ?_) (fun h2 => hR σ ?_)))⟩)
  · simp at h
    exact ⟨by rw [if_neg]; simp [topoOk]; omega, .refl _⟩
  · simp at h2
    exact ⟨by rw [if_neg]; simp [topoOk]; omega, .refl _⟩
  simp at h h2
  have hsize : decide (1 ≤ secs.length ∧ secs.length ≤ 16 ∧ js.length ≤ 24) = true := by simp; omega
  refine newObj_intro fun id σ1 hid _ he hs1 => (hj σ1).lenK ⟨fun n s => ∃ tk f, MapAt Tryz.prog t_topo_spot encP s id f ∧ (∀ z, f z = if z ∈ tk then some (iA 1) else none) ∧ Ext σ s ∧ Rng js (fun r => jrun secs r tk = jrun secs js []) n,
    fun n _ => js.length - n.toNat, ⟨[], _, .new hs1, fun z => by simp, he, .start rfl⟩, ?_⟩
  rintro n s ⟨tk, f, hm, hf, hes, hr⟩
  refine bcd (fun hlt => ?_) (fun hge => ?_)
  · obtain ⟨j, x, rfl, hx, hjl, hF, nx⟩ := hr.step (by simp) hlj hlt
    refine (hj s).load (map_get hx) c_Joint rfl ⟨x.A, x.AEnd, x.B, x.BEnd, rfl, ?_⟩
    refine newObj_intro fun id1 s1 hid1 _ he1 hs2 => ?_
    have hne : id ≠ id1 := fun e => by
      obtain ⟨c, es, h1, _⟩ := hm
      rw [e, hid1] at h1; cases h1
    have hbad : prun secs x.spots tk = none ∨ x.A = x.B → (if topoOk secs js = true then (0 : Int) else 6) = 6 := by
      intro hb
      have : jrun secs js [] = none := by
        rw [← hF, jrun]
        rcases hb with hb | hb
        · rw [hb]
        · cases prun secs x.spots tk with
          | none => rfl
          | some tk' => simp [hb]
      rw [if_neg]; simp [topoOk, this]
    have hloc : ∀ s', s' id1 = .live t_topo_spot [[iD x.A, iD x.AEnd], [iD x.B, iD x.BEnd]] → At Tryz.prog s' t_topo_spot (.osl id1 0 2) (x.spots.map fun p => [iD p.1, iD p.2]) := fun s' h => At.fresh h (by simp) rfl
    refine (hloc s1 hs2).lenK ⟨fun m s' => ∃ tk' f', MapAt Tryz.prog t_topo_spot encP s' id f' ∧ (∀ z, f' z = if z ∈ tk' then some (iA 1) else none) ∧ Ext σ s' ∧ s' id1 = .live t_topo_spot [[iD x.A, iD x.AEnd], [iD x.B, iD x.BEnd]] ∧
      Rng x.spots (fun q => prun secs q tk' = prun secs x.spots tk) m, fun m _ => x.spots.length - m.toNat, ⟨tk, f, hm.same (he1 id (fun e => hne (by
        obtain ⟨c, es, h1, _⟩ := hm
        rw [e] at h1; cases h1))), hf, hes.trans he1, hs2, .start rfl⟩, ?_⟩
    rintro m s' ⟨tk', f', hm', hf', hes', hs2', hr'⟩
    refine bcd (fun hlt' => ?_) (fun hge' => ?_)
    · obtain ⟨i, p, rfl, hp, hil, hG, nx'⟩ := hr'.step (by simp) (by simp [Jt.spots]) hlt'
      refine (hloc s' hs2').load (map_get hp) c_topo_spot rfl ⟨p.1, p.2, rfl, (hs s').lenK ?_⟩
      rw [prun] at hG
      have hw1 : w64 (((secs.map Sec.enc).length : Int) - 1) = (secs.length : Int) - 1 := by rw [List.length_map, w64_id (by omega) (by omega)]
      refine (topo_between_ok _ _ _).use ⟨_, rfl, ?_⟩
      rw [hw1]
      refine bcnot (fun h3 => ?_) (fun h3 => ?_)
      · exact ⟨by rw [hbad (.inl ?_)]; rw [← hG, if_neg]; simp only [spotOk, h3]; simp, hes'⟩
      · have h3' := of_decide_eq_true h3
        obtain ⟨y, hy⟩ := get_of_lt (l := secs) (j := p.1.toNat) (by omega)
        refine (hs s').load (map_get hy) c_Section (by omega) ⟨y.Kind, rfl, (topo_Ends_ok _).use ⟨_, rfl, (topo_between_ok _ _ _).use ⟨_, rfl, ?_⟩⟩⟩
        have hk : kindAt secs p.1 = y.Kind := by simp [kindAt, hy]
        have hn := nends_le y.Kind
        rw [w64_id (n := nends y.Kind - 1) (by omega) (by omega)]
        refine bcnot (fun h4 => ?_) (fun h4 => ?_)
        · exact ⟨by rw [hbad (.inl ?_)]; rw [← hG, if_neg]; simp only [spotOk, hk, h4]; simp, hes'⟩
        · have hok : spotOk secs p = true := by simp only [spotOk, hk, h3, h4]; rfl
          by_cases hin : p ∈ tk'
          · refine hm'.lookI keys_spot p (n := 1) (by rw [hf', if_pos hin]; rfl) (bcd (fun _ => ?_) (fun h => absurd (by decide) h))
            exact ⟨by rw [hbad (.inl ?_)]; rw [← hG, if_neg]; simp [hin], hes'⟩
          · refine hm'.lookI keys_spot p (n := 0) (by rw [hf', if_neg hin]; rfl) (bcd (fun h => absurd h (by decide)) (fun _ => ?_))
            refine hm'.lookI keys_spot p (n := 0) (by rw [hf', if_neg hin]; rfl) ?_
            rw [if_pos ⟨hok, hin⟩] at hG
            refine hm'.bump keys_spot p fun s3 f3 hm3 hf3 hf3' hs3 hs3' => ⟨rfl, ?_⟩
            have hn2 := nx' (fun q => prun secs q (p :: tk') = prun secs x.spots tk) hG
            refine ⟨⟨p :: tk', f3, hm3, fun z => ?_, fun i hi => ?_, ?_, hn2.1⟩, hn2.2⟩
            · by_cases hz : z = p
              · subst hz; rw [hf3']; simp; rfl
              · rw [hf3 z hz, hf']; simp [hz]
            · rw [hs3 i (fun e => ?_)]
              · exact hes' i hi
              · subst e; rw [hid] at hi; exact hi rfl
            · rw [hs3 _ (Ne.symm hne)]; exact hs2'
    · have hG := hr'.done (by simp) hge'
      rw [prun] at hG
      refine bce (fun h5 => ⟨by rw [hbad (.inr h5)], hes'⟩) (fun h5 => ?_)
      rw [jrun, ← hG] at hF
      simp only [if_neg h5] at hF
      have hn2 := nx (fun r => jrun secs r tk' = jrun secs js []) hF
      exact ⟨⟨tk', f', hm', hf', hes', hn2.1⟩, hn2.2⟩
  · have hF := hr.done (by simp) hge
    rw [jrun] at hF
    have htop : topoOk secs js = srun tk secs 0 [] := by simp only [topoOk, hsize, ← hF, Bool.true_and]
    rw [htop]
    clear htop hr hF hR
    refine newObj_intro fun id1 s1 hid1 _ he1 hs2 => ?_
    have hne : id ≠ id1 := fun e => by
      obtain ⟨c, es, h1, _⟩ := hm
      rw [e, hid1] at h1; cases h1
    refine (hs s1).lenK ⟨fun n s' => ∃ ls f2, MapAt Tryz.prog t_int iA s' id1 f2 ∧ (∀ z, z ∉ ls → f2 z = none) ∧ (∀ z, z ∈ ls → ∃ c : Int, 1 ≤ c ∧ c ≤ n ∧ f2 z = some (iA c)) ∧ MapAt Tryz.prog t_topo_spot encP s' id f ∧ Ext σ s' ∧
      Rng secs (fun r => srun tk r n ls = srun tk secs 0 []) n, fun n _ => secs.length - n.toNat, ⟨[], _, .new hs2, fun z _ => rfl, fun z hz => (by cases hz), hm.same (he1 id (fun e => by
        obtain ⟨c, es, h1, _⟩ := hm
        rw [e] at h1; cases h1)), hes.trans he1, .start rfl⟩, ?_⟩
    rintro n s' ⟨ls, f2, hm2, hf2, hf2', hm', hes', hr⟩
    refine bcd (fun hlt => ?_) (fun hge => ?_)
    · obtain ⟨j, x, rfl, hx, hjl, hF, nx⟩ := hr.step (by simp) hls hlt
      refine (hs s').load (map_get hx) c_Section rfl ⟨x.Kind, x.OC, x.Line, rfl, ?_⟩
      intro R1 hR1
      rw [srun] at hF
      have hbad : ∀ hc : (nends x.Kind = 0 ∨ ¬ (0 ≤ x.OC ∧ x.OC ≤ 3) ∨ ¬ (0 ≤ x.Line ∧ x.Line ≤ 3) ∨ x.Line ≠ 0 ∧ (x.Kind ≠ 0 ∨ ((j : Int), 1) ∈ tk ∨ x.Line ∈ ls)), (if srun tk secs 0 [] = true then (0 : Int) else 6) = 6 := by
        intro hc
        rw [if_pos hc] at hF
        rw [← hF]; rfl
      refine (topo_Ends_ok _).use ⟨_, rfl, bce (fun h1 => ⟨by rw [hbad (.inl h1)], hes'⟩) (fun h1 => (topo_between_ok _ _ _).use ⟨_, rfl, bcnot (fun h2 => ⟨by rw [hbad (.inr (.inl (of_decide_eq_false h2)))], hes'⟩) (fun h2 => (topo_between_ok _ _ _).use ⟨_, rfl, bcnot (fun h3 => ⟨by rw [hbad (.inr (.inr (.inl (of_decide_eq_false h3))))], hes'⟩) (fun h3 => ⟨rfl, hR1 s' ?_⟩)⟩)⟩)⟩
      have put : ∀ hc : ¬ (x.Line ≠ 0 ∧ (x.Kind ≠ 0 ∨ ((j : Int), 1) ∈ tk ∨ x.Line ∈ ls)), ∃ c : Int, (f2 x.Line).getD (iA 0) = iA c ∧ 0 ≤ c ∧ c ≤ j ∧ (x.Line ∉ ls → c = 0) ∧ ∀ (c' : Int), c' = c → MPut Tryz.prog t_int s' (.omap id1) (iA x.Line) (iA (w64 (c' + 1))) fun s6 =>
          (∃ ls f2, MapAt Tryz.prog t_int iA s6 id1 f2 ∧ (∀ z, z ∉ ls → f2 z = none) ∧ (∀ z, z ∈ ls → ∃ c : Int, 1 ≤ c ∧ c ≤ w64 ((j : Int) + 1) ∧ f2 z = some (iA c)) ∧ MapAt Tryz.prog t_topo_spot encP s6 id f ∧ Ext σ s6 ∧
            Rng secs (fun r => srun tk r (w64 ((j : Int) + 1)) ls = srun tk secs 0 []) (w64 ((j : Int) + 1))) ∧ secs.length - (w64 ((j : Int) + 1)).toNat < secs.length - (j : Int).toNat := by
        intro hc
        have hgo : ¬ (nends x.Kind = 0 ∨ ¬ (0 ≤ x.OC ∧ x.OC ≤ 3) ∨ ¬ (0 ≤ x.Line ∧ x.Line ≤ 3) ∨ x.Line ≠ 0 ∧ (x.Kind ≠ 0 ∨ ((j : Int), 1) ∈ tk ∨ x.Line ∈ ls)) := by
          rintro (h | h | h | h)
          · exact h1 h
          · exact h (of_decide_eq_true h2)
          · exact h (of_decide_eq_true h3)
          · exact hc h
        rw [if_neg hgo] at hF
        have hcount : ∃ c : Int, (f2 x.Line).getD (iA 0) = iA c ∧ 0 ≤ c ∧ c ≤ j ∧ (x.Line ∉ ls → c = 0) := by
          by_cases hin : x.Line ∈ ls
          · obtain ⟨c, c1, c2, c3⟩ := hf2' _ hin
            exact ⟨c, by rw [c3]; rfl, by omega, c2, fun h => absurd hin h⟩
          · exact ⟨0, by rw [hf2 _ hin]; rfl, by omega, by omega, fun _ => rfl⟩
        obtain ⟨c, k1, k2, k3, k4⟩ := hcount
        refine ⟨c, k1, k2, k3, k4, fun c' hc' => ?_⟩
        subst hc'
        refine hm2.put keysI x.Line fun s6 f6 g1 g2 g3 g4 g5 => ?_
        have hn2 := nx (fun r => srun tk r (w64 ((j : Int) + 1)) (x.Line :: ls) = srun tk secs 0 []) (by rw [w64_succ (by omega)]; simpa using hF)
        have hw : w64 ((j : Int) + 1) = (j : Int) + 1 := w64_id (by omega) (by omega)
        refine ⟨⟨x.Line :: ls, f6, g1, fun z hz => ?_, fun z hz => ?_, hm'.same (g4 _ hne), fun i hi => ?_, hn2.1⟩, hn2.2⟩
        · simp only [List.mem_cons, not_or] at hz
          rw [g2 z hz.1]; exact hf2 z hz.2
        · by_cases hzx : z = x.Line
          · subst hzx
            exact ⟨c' + 1, by omega, by omega, by rw [g3, w64_id (by omega) (by omega)]⟩
          · rw [g2 z hzx]
            obtain ⟨c2, q1, q2, q3⟩ := hf2' z ((List.mem_cons.1 hz).resolve_left hzx)
            exact ⟨c2, q1, by omega, q3⟩
        · rw [g4 i (fun e => ?_)]
          · exact hes' i hi
          · subst e
            have := hes _ hi
            rw [hid1] at this; exact hi this.symm
      refine bcn (fun h4 => bcn (fun h5 => ⟨by rw [hbad (.inr (.inr (.inr ⟨h4, .inl h5⟩)))], hes'⟩) (fun h5 => ?_)) (fun h4 => ?_)
      · by_cases hin : ((j : Int), (1 : Int)) ∈ tk
        · refine hm'.lookI keys_spot ((j : Int), (1 : Int)) (n := 1) (by rw [hf, if_pos hin]; rfl) (bcd (fun _ => ⟨by rw [hbad (.inr (.inr (.inr ⟨h4, .inr (.inl hin)⟩)))], hes'⟩) (fun h => absurd (by decide) h))
        · refine hm'.lookI keys_spot ((j : Int), (1 : Int)) (n := 0) (by rw [hf, if_neg hin]; rfl) (bcd (fun h => absurd h (by decide)) (fun _ => ?_))
          by_cases hin2 : x.Line ∈ ls
          · obtain ⟨c, c1, c2, c3⟩ := hf2' _ hin2
            exact hm2.lookI keysI x.Line (n := c) (by rw [c3]; rfl) (bcd (fun _ => ⟨by rw [hbad (.inr (.inr (.inr ⟨h4, .inr (.inr hin2)⟩)))], hes'⟩) (fun h => absurd (show c > 0 by omega) h))
          · obtain ⟨c, k1, k2, k3, k4, k5⟩ := put (by rintro ⟨_, h | h | h⟩; exact h h5; exact hin h; exact hin2 h)
            have := k4 hin2
            refine hm2.lookI keysI x.Line k1 (bcd (fun h => absurd h (by omega)) (fun _ => hm2.lookI keysI x.Line k1 (k5 c rfl)))
      · obtain ⟨c, k1, k2, k3, k4, k5⟩ := put (fun h => h.1 h4)
        exact hm2.lookI keysI x.Line k1 (k5 c rfl)
    · have hF := hr.done (by simp) hge
      rw [srun] at hF
      exact ⟨by rw [← hF]; rfl, hes'⟩
end Go.Proofs.YtaklhjodjbgmgaaGreat
end
section
namespace Go.Fw
structure Rt where
  Entry : Int
  Exit : Int
  Path : List St
  Flank : List Nd
  Overlap : List Int
  Shunt : Bool
structure Cf where
  Secs : List Sec
  Jts : List Jt
  Sigs : List Sg
  Xs : List Int
  Rts : List Rt
  Age : Int
  Brake : Int
  Hold : Int
  Budget : Int
def FnIs {α : Type} (P : Program) (σ : Store) (f : D) (arg : α → A) (l : List α) (p : α → Bool) : Prop :=
  ∃ f1 a b as0' bs, f = .fn f1 a b ∧ capAs a = some as0' ∧ capAs b = some bs ∧ ∀ x ∈ l, DCalls P f1 (as0' ++ [arg x] ++ bs) σ fun r s => r = .a (bA (p x)) ∧ s = σ
def fidx {α : Type} (p : α → Bool) : List α → Nat → Int
  | [], _ => -1
  | x :: r, j => if p x = true then j else fidx p r (j + 1)
theorem fidx_any {α : Type} (p : α → Bool) (l : List α) : decide (fidx p l 0 ≥ 0) = l.any p := by
  have key : ∀ (l : List α) (j : Nat), decide (fidx p l j ≥ 0) = l.any p := by
    intro l
    induction l with
    | nil => intro j; simp [fidx]
    | cons x r ih =>
      intro j
      rw [fidx, List.any_cons]
      by_cases hp : p x = true
      · rw [if_pos hp, hp]; simp
      · rw [if_neg hp, ih]; simp [hp]
  exact key l 0
def geti {α : Type} (l : List α) (i : Int) : Option α := if i < 0 then none else l[i.toNat]?
theorem geti_some {α : Type} {l : List α} {i : Int} {x : α} (h : geti l i = some x) : 0 ≤ i ∧ i < l.length ∧ l[i.toNat]? = some x := by
  unfold geti at h
  split at h
  · cases h
  · have := (List.getElem?_eq_some_iff.1 h).1
    exact ⟨by omega, by omega, h⟩
theorem geti_neg {α : Type} {l : List α} {i : Int} (h : i < 0) : geti l i = none := if_pos h
theorem geti_ge {α : Type} {l : List α} {i : Int} (h : (l.length : Int) ≤ i) : geti l i = none := by
  unfold geti; rw [if_neg (by omega), List.getElem?_eq_none_iff]; omega
def secRV : Option Sec → RV
  | none => .tup [.agg [iD 0, iD 0, iD 0], bA false]
  | some s => .tup [.agg s.enc, bA true]
def sgRV : Option Sg → RV
  | none => .tup [.agg [iD 0, iD 0], bA false]
  | some s => .tup [.agg s.enc, bA true]
def Cf.approach (c : Cf) (r : Rt) : Int := ((geti c.Sigs r.Entry).map Sg.Sec).getD (-1)
def Cf.Approach (c : Cf) (i : Int) : Int := ((geti c.Rts i).map c.approach).getD (-1)
def hasSec (path : List St) (s : Int) : Bool := path.any fun x => x.Sec == s
def RtAt (P : Program) (tS tN tI : TypeId) (σ : Store) (cs : List D) (r : Rt) : Prop :=
  ∃ d1 d2 d3, cs = [iD r.Entry, iD r.Exit, d1, d2, d3, .bool r.Shunt] ∧ At P σ tS d1 (r.Path.map St.enc) ∧ At P σ tN d2 (r.Flank.map Nd.enc) ∧ At P σ tI d3 (r.Overlap.map encI)
def RtsAt (P : Program) (tR tS tN tI : TypeId) (σ : Store) (d : D) (l : List Rt) : Prop :=
  ∃ rows, At P σ tR d rows ∧ rows.length = l.length ∧ ∀ (i : Nat) row r, rows[i]? = some row → l[i]? = some r → RtAt P tS tN tI σ row r
def flankStep (c : Cf) (approach : Int) (path : List St) (s : St) (out : List Nd) (e : Int) : List Nd :=
  if e = s.In ∨ e = s.Out then out else
  match nxt c.Jts s.Sec e with
  | none => out
  | some (q, f) => match geti c.Secs q with
    | none => out
    | some y => if y.Kind = 1 ∧ (1 ≤ f ∧ f ≤ 2) ∧ q ≠ approach ∧ hasSec path q = false ∧ (out.any fun n => n.Sec == q) = false then out ++ [⟨q, 3 - f⟩] else out
def flankEnds (c : Cf) (approach : Int) (path : List St) (s : St) : Nat → Int → List Nd → List Nd
  | 0, _, out => out
  | n + 1, e, out => flankEnds c approach path s n (e + 1) (flankStep c approach path s out e)
def flankRun (c : Cf) (approach : Int) (path : List St) : List St → List Nd → List Nd
  | [], out => out
  | s :: r, out => flankRun c approach path r (match geti c.Secs s.Sec with
    | none => out
    | some x => flankEnds c approach path s (nends x.Kind).toNat 0 out)
def Cf.flank (c : Cf) (approach : Int) (path : List St) : List Nd := flankRun c approach path path []
theorem flankStep_len (c : Cf) (a : Int) (p : List St) (s : St) (out : List Nd) (e : Int) : out.length ≤ (flankStep c a p s out e).length ∧ (flankStep c a p s out e).length ≤ out.length + 1 := by
  unfold flankStep
  split
  · omega
  · split
    · omega
    · split
      · omega
      · split <;> simp
def Cf.overlap (c : Cf) (r : Rt) : List Int :=
  if r.Shunt = true then [] else
  match geti c.Sigs r.Exit with
  | none => []
  | some x => match nxt c.Jts x.Sec x.End_ with
    | none => []
    | some (q, _) => match geti c.Secs q with
      | none => []
      | some y => if y.Line = 0 ∧ hasSec r.Path q = false ∧ q ≠ c.approach r then [q] else []
def sgrun (js : List Jt) : List Sg → List Sg → Bool
  | [], _ => true
  | x :: r, seen => if (nxt js x.Sec x.End_).isSome = true ∧ x ∉ seen then sgrun js r (x :: seen) else false
def xrun (secs : List Sec) : List Int → List Int → Bool
  | [], _ => true
  | x :: r, seen => match geti secs x with
    | none => false
    | some s => if s.Line = 0 ∧ x ∉ seen then xrun secs r (x :: seen) else false
def Cf.sigsOk (c : Cf) : Bool := sgrun c.Jts c.Sigs [] && decide (c.Sigs.length ≤ 12)
def Cf.xsOk (c : Cf) : Bool := xrun c.Secs c.Xs [] && decide (c.Xs.length ≤ 4)
end Go.Fw
end
section
set_option linter.unusedVariables false
set_option linter.unusedSimpArgs false
namespace Go.Proofs.YtaklhjodjbgmgaaGreat
open Go.Fw Go.Proofs Go.RowKit
variable {σ : Store}
theorem IndexFunc_Step_ok {d f : D} {l : List St} {p : St → Bool} (h : At Tryz.prog σ t_Step d (l.map St.enc)) (hf : FnIs Tryz.prog σ f (fun x : St => .agg x.enc) l p) :
    Pure Tryz.prog n_slices_IndexFunc_Step [.one d, .one f] σ (.a (iA (fidx p l 0))) := by
  have hl := h.size
  rw [List.length_map] at hl
  obtain ⟨f1, a, b, as0', bs, rfl, ha, hb, hf⟩ := hf
  refine W_slices_IndexFunc_Step d _ σ _ (h.lenK ⟨fun n s => s = σ ∧ Rng l (fun r => ∀ j : Nat, n = j → fidx p r j = fidx p l 0) n, fun n _ => l.length - n.toNat, ⟨rfl, .start fun j hj => by cases j with | zero => rfl | succ j => omega⟩, ?_⟩)
  rintro n τ ⟨rfl, hr⟩
  refine bcd (fun hlt => ?_) (fun hge => ?_)
  · obtain ⟨j, x, rfl, hx, hj, hF, nx⟩ := hr.step (by simp) hl hlt
    refine h.load (map_get hx) c_Step rfl ⟨x.Sec, x.In, x.Out, rfl, f1, a, b, as0', bs, rfl, ha, hb, ?_⟩
    have hF := hF j rfl
    rw [fidx] at hF
    refine (hf x (List.mem_of_getElem? hx)).mono ?_
    rintro r s ⟨rfl, rfl⟩
    refine ⟨p x, rfl, bc (fun hp => ?_) (fun hp => ?_)⟩
    · rw [if_pos hp] at hF; exact ⟨by rw [← hF], rfl⟩
    · refine andl rfl (nx _ fun j' hj' => ?_)
      rw [w64_succ (by omega)] at hj'
      have : j' = j + 1 := by omega
      subst this
      rw [if_neg (by rw [hp]; simp)] at hF
      exact hF
  · refine ⟨?_, rfl⟩
    obtain ⟨j, hj, hj2, hF⟩ := hr
    have hF := hF j hj
    rw [List.length_map] at hge
    rw [drop_end (by omega)] at hF
    rw [← hF]; rfl
theorem ContainsFunc_Step_ok {d f : D} {l : List St} {p : St → Bool} (h : At Tryz.prog σ t_Step d (l.map St.enc)) (hf : FnIs Tryz.prog σ f (fun x : St => .agg x.enc) l p) :
    Pure Tryz.prog n_slices_ContainsFunc_Step [.one d, .one f] σ (.a (bA (l.any p))) :=
  W_slices_ContainsFunc_Step d f σ _ ((IndexFunc_Step_ok h hf).use ⟨_, rfl, by rw [fidx_any]; exact ⟨rfl, rfl⟩⟩)
theorem IndexFunc_Need_ok {d f : D} {l : List Nd} {p : Nd → Bool} (h : At Tryz.prog σ t_Need d (l.map Nd.enc)) (hf : FnIs Tryz.prog σ f (fun x : Nd => .agg x.enc) l p) :
    Pure Tryz.prog n_slices_IndexFunc_Need [.one d, .one f] σ (.a (iA (fidx p l 0))) := by
  have hl := h.size
  rw [List.length_map] at hl
  obtain ⟨f1, a, b, as0', bs, rfl, ha, hb, hf⟩ := hf
  refine W_slices_IndexFunc_Need d _ σ _ (h.lenK ⟨fun n s => s = σ ∧ Rng l (fun r => ∀ j : Nat, n = j → fidx p r j = fidx p l 0) n, fun n _ => l.length - n.toNat, ⟨rfl, .start fun j hj => by cases j with | zero => rfl | succ j => omega⟩, ?_⟩)
  rintro n τ ⟨rfl, hr⟩
  refine bcd (fun hlt => ?_) (fun hge => ?_)
  · obtain ⟨j, x, rfl, hx, hj, hF, nx⟩ := hr.step (by simp) hl hlt
    refine h.load (map_get hx) c_Need rfl ⟨x.Sec, x.Pos, rfl, f1, a, b, as0', bs, rfl, ha, hb, ?_⟩
    have hF := hF j rfl
    rw [fidx] at hF
    refine (hf x (List.mem_of_getElem? hx)).mono ?_
    rintro r s ⟨rfl, rfl⟩
    refine ⟨p x, rfl, bc (fun hp => ?_) (fun hp => ?_)⟩
    · rw [if_pos hp] at hF; exact ⟨by rw [← hF], rfl⟩
    · refine andl rfl (nx _ fun j' hj' => ?_)
      rw [w64_succ (by omega)] at hj'
      have : j' = j + 1 := by omega
      subst this
      rw [if_neg (by rw [hp]; simp)] at hF
      exact hF
  · refine ⟨?_, rfl⟩
    obtain ⟨j, hj, hj2, hF⟩ := hr
    have hF := hF j hj
    rw [List.length_map] at hge
    rw [drop_end (by omega)] at hF
    rw [← hF]; rfl
theorem ContainsFunc_Need_ok {d f : D} {l : List Nd} {p : Nd → Bool} (h : At Tryz.prog σ t_Need d (l.map Nd.enc)) (hf : FnIs Tryz.prog σ f (fun x : Nd => .agg x.enc) l p) :
    Pure Tryz.prog n_slices_ContainsFunc_Need [.one d, .one f] σ (.a (bA (l.any p))) :=
  W_slices_ContainsFunc_Need d f σ _ ((IndexFunc_Need_ok h hf).use ⟨_, rfl, by rw [fidx_any]; exact ⟨rfl, rfl⟩⟩)
theorem Index_Signal_ok {d : D} {l : List Sg} (v : Sg) (h : At Tryz.prog σ t_Signal d (l.map Sg.enc)) : Pure Tryz.prog n_slices_Index_Signal [.one d, .agg v.enc] σ (.a (iA (fidx (fun x => decide (v = x)) l 0))) := by
  have hl := h.size
  rw [List.length_map] at hl
  refine W_slices_Index_Signal d v.Sec v.End_ σ _ (h.lenK ⟨fun n s => s = σ ∧ Rng l (fun r => ∀ j : Nat, n = j → fidx (fun x => decide (v = x)) r j = fidx (fun x => decide (v = x)) l 0) n, fun n _ => l.length - n.toNat, ⟨rfl, .start fun j hj => by cases j with | zero => rfl | succ j => omega⟩, ?_⟩)
  rintro n τ ⟨rfl, hr⟩
  refine bcd (fun hlt => ?_) (fun hge => ?_)
  · obtain ⟨j, x, rfl, hx, hj, hF, nx⟩ := hr.step (by simp) hl hlt
    refine h.load (map_get hx) c_Signal rfl ⟨x.Sec, x.End_, rfl, ?_⟩
    have hF := hF j rfl
    rw [fidx] at hF
    have hd : ((v.Sec == x.Sec) && (v.End_ == x.End_)) = decide (v = x) := by
      rw [Bool.eq_iff_iff]; cases v; cases x; simp
    rw [hd]
    refine bc (fun hp => ?_) (fun hp => ?_)
    · rw [if_pos hp] at hF; exact ⟨by rw [← hF], rfl⟩
    · refine andl rfl (nx _ fun j' hj' => ?_)
      rw [w64_succ (by omega)] at hj'
      have : j' = j + 1 := by omega
      subst this
      rw [if_neg (by rw [hp]; simp)] at hF
      exact hF
  · refine ⟨?_, rfl⟩
    obtain ⟨j, hj, hj2, hF⟩ := hr
    have hF := hF j hj
    rw [List.length_map] at hge
    rw [drop_end (by omega)] at hF
    rw [← hF]; rfl
theorem Contains_Signal_ok {d : D} {l : List Sg} (v : Sg) (h : At Tryz.prog σ t_Signal d (l.map Sg.enc)) : Pure Tryz.prog n_slices_Contains_Signal [.one d, .agg v.enc] σ (.a (bA (l.any fun x => decide (v = x)))) :=
  W_slices_Contains_Signal d v.Sec v.End_ σ _ ((Index_Signal_ok v h).use ⟨_, rfl, by rw [fidx_any]; exact ⟨rfl, rfl⟩⟩)
theorem Equal_Need_ok {d1 d2 : D} {l1 l2 : List Nd} (h1 : At Tryz.prog σ t_Need d1 (l1.map Nd.enc)) (h2 : At Tryz.prog σ t_Need d2 (l2.map Nd.enc)) : Pure Tryz.prog n_slices_Equal_Need [.one d1, .one d2] σ (.a (bA (decide (l1 = l2)))) := by
  have hl1 := h1.size
  have hl2 := h2.size
  rw [List.length_map] at hl1 hl2
  refine W_slices_Equal_Need d1 d2 σ _ (h1.lenK (h2.lenK (bcn (fun hne => ?_) (fun heq => h1.lenK ?_))))
  · rw [List.length_map, List.length_map] at hne
    exact ⟨by rw [decide_eq_false (fun e => hne (by rw [e]))], rfl⟩
  rw [List.length_map, List.length_map] at heq
  refine ⟨fun n s => s = σ ∧ Rng l1 (fun r => ∀ j : Nat, n = j → (r = l2.drop j ↔ l1 = l2)) n, fun n _ => l1.length - n.toNat, ⟨rfl, .start fun j hj => by cases j with | zero => simp | succ j => omega⟩, ?_⟩
  rintro n τ ⟨rfl, hr⟩
  refine bcd (fun hlt => ?_) (fun hge => ?_)
  · obtain ⟨j, x, rfl, hx, hj, hF, nx⟩ := hr.step (by simp) hl1 hlt
    obtain ⟨y, hy⟩ := get_of_lt (l := l2) (j := j) (by omega)
    refine h1.load (map_get hx) c_Need rfl ⟨x.Sec, x.Pos, rfl, h2.load (map_get hy) c_Need rfl ⟨y.Sec, y.Pos, rfl, ?_⟩⟩
    have hF := hF j rfl
    rw [drop_get hy, List.cons.injEq] at hF
    have hd : ((x.Sec == y.Sec) && (x.Pos == y.Pos)) = decide (x = y) := by
      rw [Bool.eq_iff_iff]; cases x; cases y; simp
    rw [hd]
    refine bcnot (fun hp => ?_) (fun hp => ?_)
    · exact ⟨by rw [decide_eq_false (fun e => of_decide_eq_false hp (hF.2 e).1)], rfl⟩
    · refine andl rfl (nx _ fun j' hj' => ?_)
      rw [w64_succ (by omega)] at hj'
      have : j' = j + 1 := by omega
      subst this
      rw [← hF]; exact ⟨fun h => ⟨of_decide_eq_true hp, h⟩, fun h => h.2⟩
  · obtain ⟨j, hj, hj2, hF⟩ := hr
    rw [List.length_map] at hge
    have hF := hF j hj
    rw [drop_end (by omega), drop_end (by omega)] at hF
    exact ⟨by rw [decide_eq_true (hF.1 rfl)], rfl⟩
theorem Equal_int_ok {d1 d2 : D} {l1 l2 : List Int} (h1 : At Tryz.prog σ t_int d1 (l1.map Go.Fw.encI)) (h2 : At Tryz.prog σ t_int d2 (l2.map Go.Fw.encI)) : Pure Tryz.prog n_slices_Equal_int [.one d1, .one d2] σ (.a (bA (decide (l1 = l2)))) := by
  have hl1 := h1.size
  have hl2 := h2.size
  rw [List.length_map] at hl1 hl2
  refine W_slices_Equal_int d1 d2 σ _ (h1.lenK (h2.lenK (bcn (fun hne => ?_) (fun heq => h1.lenK ?_))))
  · rw [List.length_map, List.length_map] at hne
    exact ⟨by rw [decide_eq_false (fun e => hne (by rw [e]))], rfl⟩
  rw [List.length_map, List.length_map] at heq
  refine ⟨fun n s => s = σ ∧ Rng l1 (fun r => ∀ j : Nat, n = j → (r = l2.drop j ↔ l1 = l2)) n, fun n _ => l1.length - n.toNat, ⟨rfl, .start fun j hj => by cases j with | zero => simp | succ j => omega⟩, ?_⟩
  rintro n τ ⟨rfl, hr⟩
  refine bcd (fun hlt => ?_) (fun hge => ?_)
  · obtain ⟨j, x, rfl, hx, hj, hF, nx⟩ := hr.step (by simp) hl1 hlt
    obtain ⟨y, hy⟩ := get_of_lt (l := l2) (j := j) (by omega)
    refine h1.load (map_get hx) c_int rfl ⟨x, rfl, h2.load (map_get hy) c_int rfl ⟨y, rfl, ?_⟩⟩
    have hF := hF j rfl
    rw [drop_get hy, List.cons.injEq] at hF
    refine bcn (fun hp => ?_) (fun hp => ?_)
    · exact ⟨by rw [decide_eq_false (fun e => hp (hF.2 e).1)], rfl⟩
    · refine andl rfl (nx _ fun j' hj' => ?_)
      rw [w64_succ (by omega)] at hj'
      have : j' = j + 1 := by omega
      subst this
      rw [← hF]; exact ⟨fun h => ⟨hp, h⟩, fun h => h.2⟩
  · obtain ⟨j, hj, hj2, hF⟩ := hr
    rw [List.length_map] at hge
    have hF := hF j hj
    rw [drop_end (by omega), drop_end (by omega)] at hF
    exact ⟨by rw [decide_eq_true (hF.1 rfl)], rfl⟩
end Go.Proofs.YtaklhjodjbgmgaaGreat
end
section
set_option linter.unusedVariables false
set_option linter.unusedSimpArgs false
namespace Go.Proofs.YtaklhjodjbgmgaaGreat
open Go.Fw Go.Proofs Go.RowKit
variable {σ : Store}
structure CfAt (σ : Store) (c0 c1 c2 c3 c4 : D) (c : Cf) : Prop where
  secs : At Tryz.prog σ t_Section c0 (c.Secs.map Sec.enc)
  jts : At Tryz.prog σ t_Joint c1 (c.Jts.map Jt.enc)
  sigs : At Tryz.prog σ t_Signal c2 (c.Sigs.map Sg.enc)
  xs : At Tryz.prog σ t_int c3 (c.Xs.map Go.Fw.encI)
  rts : RtsAt Tryz.prog t_Route t_Step t_Need t_int σ c4 c.Rts
abbrev cfA (c0 c1 c2 c3 c4 : D) (c : Cf) : A := .agg [c0, c1, c2, c3, c4, iD c.Age, iD c.Brake, iD c.Hold, iD c.Budget]
abbrev rtA (d1 d2 d3 : D) (r : Rt) : A := .agg [iD r.Entry, iD r.Exit, d1, d2, d3, .bool r.Shunt]
section
variable {c0 c1 c2 c3 c4 : D} {c : Cf} (h : CfAt σ c0 c1 c2 c3 c4 c)
include h
theorem plan_section_ok (s : Int) : Pure Tryz.prog n_conf_plan_section [cfA c0 c1 c2 c3 c4 c, iA s] σ (secRV (geti c.Secs s)) := by
  refine W_conf_plan_section _ _ _ _ _ _ _ _ _ s σ _ (bcd (fun h1 => ⟨by rw [geti_neg h1]; rfl, rfl⟩) (fun h1 => h.secs.lenK (bcd (fun h2 => ⟨by rw [List.length_map] at h2; rw [geti_ge h2]; rfl, rfl⟩) (fun h2 => ?_))))
  rw [List.length_map] at h2
  obtain ⟨x, hx⟩ := get_of_lt (l := c.Secs) (j := s.toNat) (by omega)
  refine h.secs.load (map_get hx) c_Section (by omega) ⟨x.Kind, x.OC, x.Line, rfl, ?_, rfl⟩
  have : geti c.Secs s = some x := by unfold geti; rw [if_neg h1, hx]
  rw [this]; rfl
theorem plan_signal_ok (s : Int) : Pure Tryz.prog n_conf_plan_signal [cfA c0 c1 c2 c3 c4 c, iA s] σ (sgRV (geti c.Sigs s)) := by
  refine W_conf_plan_signal _ _ _ _ _ _ _ _ _ s σ _ (bcd (fun h1 => ⟨by rw [geti_neg h1]; rfl, rfl⟩) (fun h1 => h.sigs.lenK (bcd (fun h2 => ⟨by rw [List.length_map] at h2; rw [geti_ge h2]; rfl, rfl⟩) (fun h2 => ?_))))
  rw [List.length_map] at h2
  obtain ⟨x, hx⟩ := get_of_lt (l := c.Sigs) (j := s.toNat) (by omega)
  refine h.sigs.load (map_get hx) c_Signal (by omega) ⟨x.Sec, x.End_, rfl, ?_, rfl⟩
  have : geti c.Sigs s = some x := by unfold geti; rw [if_neg h1, hx]
  rw [this]; rfl
theorem plan_approach_ok (r : Rt) (d1 d2 d3 : D) : Pure Tryz.prog n_conf_plan_approach [cfA c0 c1 c2 c3 c4 c, rtA d1 d2 d3 r] σ (.a (iA (c.approach r))) := by
  refine W_conf_plan_approach _ _ _ _ _ _ _ _ _ _ _ d1 d2 d3 _ σ _ ((plan_signal_ok h r.Entry).use ?_)
  cases hg : geti c.Sigs r.Entry with
  | none => exact ⟨0, 0, false, rfl, by simp [Cf.approach, hg], rfl⟩
  | some x => exact ⟨x.Sec, x.End_, true, rfl, by simp [Cf.approach, hg], rfl⟩
end
theorem cap_fn {α : Type} {f1 : FuncId} {id : Nat} {t : TypeId} {n : Int} {arg : α → A} {l : List α} {p : α → Bool} (hs : σ id = .live t [[iD n]])
    (hf : ∀ x ∈ l, DCalls Tryz.prog f1 [arg x, .one (.el (.osl id 0 1) 0 0)] σ fun r s => r = .a (bA (p x)) ∧ s = σ) : FnIs Tryz.prog σ (.fn f1 [] [(false, [.el (.osl id 0 1) 0 0])]) arg l p :=
  ⟨f1, _, _, [], [.one (.el (.osl id 0 1) 0 0)], rfl, rfl, rfl, hf⟩
theorem box_row {id : Nat} {t : TypeId} {row : List D} (hs : σ id = .live t [row]) : Row σ (.osl id 0 1) 0 row := ⟨by omega, t, [row], hs, rfl⟩
theorem conf_has_ok {d : D} {path : List St} (s : Int) (h : At Tryz.prog σ t_Step d (path.map St.enc)) : Pure Tryz.prog n_conf_has [.one d, iA s] σ (.a (bA (hasSec path s))) := by
  refine .of (W_conf_has d s σ _ (newObj_intro fun id σ1 hid _ he hs => ?_)) (flat_b _)
  refine (ContainsFunc_Step_ok (p := fun x => x.Sec == s) (h.ext he) (cap_fn hs fun x _ => ?_)).use ⟨_, rfl, rfl, he⟩
  exact W_conf_has_1 x.Sec x.In x.Out _ σ1 _ ⟨_, _, _, rfl, _, box_row hs, s, rfl, rfl, rfl⟩
theorem hasNeed_ok {d : D} {l : List Nd} {id : Nat} {q : Int} (h : At Tryz.prog σ t_Need d (l.map Nd.enc)) (hs : σ id = .live t_int [[iD q]]) :
    Pure Tryz.prog n_slices_ContainsFunc_Need [.one d, .one (.fn n_conf_plan_flank_1 [] [(false, [.el (.osl id 0 1) 0 0])])] σ (.a (bA (l.any fun n => n.Sec == q))) :=
  ContainsFunc_Need_ok (p := fun x => x.Sec == q) h (cap_fn hs fun x _ => W_conf_plan_flank_1 x.Sec x.Pos _ σ _ ⟨_, _, _, rfl, _, box_row hs, q, rfl, rfl, rfl⟩)
end Go.Proofs.YtaklhjodjbgmgaaGreat
end
section
namespace Go.Fw
theorem opt2_ex (o : Option (Int × Int)) {K : Int → Int → Bool → Prop} (h : K (o.getD (0, 0)).1 (o.getD (0, 0)).2 o.isSome) : ∃ n m : Int, ∃ b : Bool, opt2 o = .tup [iA n, iA m, bA b] ∧ K n m b := by
  cases o with
  | none => exact ⟨0, 0, false, rfl, h⟩
  | some p => exact ⟨p.1, p.2, true, rfl, h⟩
theorem opt1_ex (o : Option Int) {K : Int → Bool → Prop} (h : K (o.getD 0) o.isSome) : ∃ n : Int, ∃ b : Bool, opt1 o = .tup [iA n, bA b] ∧ K n b := by
  cases o with
  | none => exact ⟨0, false, rfl, h⟩
  | some p => exact ⟨p, true, rfl, h⟩
theorem sec_ex (o : Option Sec) {K : Int → Int → Int → Bool → Prop} (h : K (o.getD ⟨0, 0, 0⟩).Kind (o.getD ⟨0, 0, 0⟩).OC (o.getD ⟨0, 0, 0⟩).Line o.isSome) : ∃ n m k : Int, ∃ b : Bool, secRV o = .tup [.agg [iD n, iD m, iD k], bA b] ∧ K n m k b := by
  cases o with
  | none => exact ⟨0, 0, 0, false, rfl, h⟩
  | some p => exact ⟨p.Kind, p.OC, p.Line, true, rfl, h⟩
theorem sg_ex (o : Option Sg) {K : Int → Int → Bool → Prop} (h : K (o.getD ⟨0, 0⟩).Sec (o.getD ⟨0, 0⟩).End_ o.isSome) : ∃ n m : Int, ∃ b : Bool, sgRV o = .tup [.agg [iD n, iD m], bA b] ∧ K n m b := by
  cases o with
  | none => exact ⟨0, 0, false, rfl, h⟩
  | some p => exact ⟨p.Sec, p.End_, true, rfl, h⟩
def pstep (c : Cf) (r : Rt) (ex : Option Sg) (a : Sg) (s : St) (last : Bool) (seen : List Int) : Bool :=
  match nxt c.Jts a.Sec a.End_ with
  | none => false
  | some (q, i) => decide (q = s.Sec) && decide (i = s.In) && (wpos (wayL ((geti c.Secs q).getD ⟨0, 0, 0⟩).Kind) s.In s.Out).isSome && decide (q ∉ seen) &&
      (!(c.Sigs.any fun x => decide (⟨s.Sec, s.Out⟩ = x)) || (last && decide (ex = some ⟨s.Sec, s.Out⟩))) && !(r.Shunt && decide (((geti c.Secs q).getD ⟨0, 0, 0⟩).Line ≠ 0))
def prunA (c : Cf) (r : Rt) (ex : Option Sg) : List St → Sg → List Int → Bool
  | [], a, _ => match ex with
    | some x => decide (a = x)
    | none => !(nxt c.Jts a.Sec a.End_).isSome
  | s :: rest, a, seen => pstep c r ex a s rest.isEmpty seen && prunA c r ex rest ⟨s.Sec, s.Out⟩ (s.Sec :: seen)
def Cf.path (c : Cf) (r : Rt) : Bool :=
  match geti c.Sigs r.Entry with
  | none => false
  | some a => (decide (r.Exit = -1) || (geti c.Sigs r.Exit).isSome) && decide (1 ≤ r.Path.length ∧ r.Path.length ≤ 8) && prunA c r (geti c.Sigs r.Exit) r.Path a [a.Sec]
def Cf.route (c : Cf) (r : Rt) : Int :=
  if c.path r = false then 9 else if r.Flank ≠ c.flank (c.approach r) r.Path then 10 else if r.Overlap ≠ c.overlap r then 11 else 0
def Cf.routes (c : Cf) : List Rt → Int
  | [] => 0
  | r :: l => if c.route r ≠ 0 then c.route r else c.routes l
def Cf.timing (c : Cf) : Bool :=
  decide (1 ≤ c.Age ∧ c.Age ≤ 8) && decide (0 ≤ c.Brake ∧ c.Brake ≤ 8) && decide (c.Age + c.Brake + 1 ≤ c.Hold ∧ c.Hold ≤ 40) && decide (1 ≤ c.Budget ∧ c.Budget ≤ 1000000)
def Cf.check (c : Cf) : Int :=
  if topoOk c.Secs c.Jts = false then 6 else if c.sigsOk = false then 7 else if c.xsOk = false then 8 else if c.Rts.length > 12 then 9
  else if c.routes c.Rts ≠ 0 then c.routes c.Rts else if c.timing = true then 0 else 12
theorem Rows.det {P : Program} {s s' : Store} {el : TypeId} {d : D} {rs rs' : List (List D)} (h : Rows P s el d rs) (h' : Rows P s' el d rs') (hd : ∀ id i len, d ≠ .osl id i len) : rs = rs' := by
  cases d <;> simp only [Rows] at h h' <;> try exact h.elim
  · rw [h, h']
  · rw [h, h']
  · rw [h.1, h'.1]
  · exact absurd rfl (hd _ _ _)
theorem froz_plain {P : Program} {el : TypeId} {d : D} (h : ∀ s, ∃ rs, Rows P s el d rs) : ∀ id i len, d ≠ .osl id i len := by
  rintro id i len rfl
  obtain ⟨rs, t, rows, h1, _⟩ := h fun _ => .free
  cases h1
theorem rts_froz {P : Program} {tR tS tN tI : TypeId} {d : D} {l : List Rt} (h : ∀ s, RtsAt P tR tS tN tI s d l) :
    ∃ rows, (∀ s, At P s tR d rows) ∧ rows.length = l.length ∧ ∀ (i : Nat) row r, rows[i]? = some row → l[i]? = some r →
      ∃ d1 d2 d3, row = [iD r.Entry, iD r.Exit, d1, d2, d3, .bool r.Shunt] ∧ (∀ s, At P s tS d1 (r.Path.map St.enc)) ∧ (∀ s, At P s tN d2 (r.Flank.map Nd.enc)) ∧ (∀ s, At P s tI d3 (r.Overlap.map encI)) := by
  have hp := froz_plain (P := P) (el := tR) (d := d) fun s => by
    obtain ⟨rows, h1, _⟩ := h s
    exact ⟨rows, h1.rows⟩
  obtain ⟨rows, h1, h2, h3⟩ := h fun _ => .free
  have hall : ∀ s, At P s tR d rows ∧ ∀ (i : Nat) row r, rows[i]? = some row → l[i]? = some r → RtAt P tS tN tI s row r := fun s => by
    obtain ⟨rows', q1, q2, q3⟩ := h s
    have e := q1.rows.det h1.rows hp
    subst e
    exact ⟨q1, q3⟩
  refine ⟨rows, fun s => (hall s).1, h2, fun i row r hi hr => ?_⟩
  obtain ⟨d1, d2, d3, rfl, _⟩ := h3 i row r hi hr
  refine ⟨d1, d2, d3, rfl, fun s => ?_, fun s => ?_, fun s => ?_⟩ <;>
  · obtain ⟨e1, e2, e3, he, q1, q2, q3⟩ := (hall s).2 i _ r hi hr
    injection he with _ he; injection he with _ he; injection he with a1 he; injection he with a2 he; injection he with a3 he
    subst a1 a2 a3
    assumption
end Go.Fw
end
section
set_option linter.unusedVariables false
set_option linter.unusedSimpArgs false
namespace Go.Proofs.YtaklhjodjbgmgaaGreat
open Go.Fw Go.Proofs Go.RowKit
variable {σ : Store}
abbrev encSg (p : Sg) : A := .agg [iD p.Sec, iD p.End_]
theorem keys_sg : Keys Tryz.prog t_Signal encSg := by
  refine ⟨fun x => ?_, fun x y => ?_⟩
  · have : ∀ a b : Int, keyOk Tryz.prog t_Signal (.agg [iD a, iD b]) = true := fun a b => by kernel_rfl
    exact this _ _
  · cases x; cases y; simp [eqA, eqCells, aCells, eqCell]
theorem conf_between_ok (n lo hi : Int) : Pure Tryz.prog n_conf_between [iA n, iA lo, iA hi] σ (.a (bA (decide (lo ≤ n ∧ n ≤ hi)))) := by
  refine W_conf_between n lo hi σ _ (bcd (fun h => ⟨?_, rfl⟩) (fun h => ⟨?_, rfl⟩)) <;> simp [h]
section
variable {c0 c1 c2 c3 c4 : D} {c : Cf} (h : ∀ s, CfAt s c0 c1 c2 c3 c4 c)
include h
theorem plan_signals_ok : Pure Tryz.prog n_conf_plan_signals [cfA c0 c1 c2 c3 c4 c] σ (.a (bA c.sigsOk)) := by
  have hl := (h σ).sigs.size
  rw [List.length_map] at hl
  refine .of (W_conf_plan_signals _ _ _ _ _ _ _ _ _ σ _ ?_) (flat_b _)
  refine newObj_intro fun id σ1 hid _ he hs => (h σ1).sigs.lenK ⟨fun n s => ∃ seen f, MapAt Tryz.prog t_Signal encSg s id f ∧ (∀ z, f z = if z ∈ seen then some (iA 1) else none) ∧ Ext σ s ∧ Rng c.Sigs (fun r => sgrun c.Jts r seen = sgrun c.Jts c.Sigs []) n,
    fun n _ => c.Sigs.length - n.toNat, ⟨[], _, .new hs, fun z => by simp, he, .start rfl⟩, ?_⟩
  rintro n s ⟨seen, f, hm, hf, hes, hr⟩
  refine bcd (fun hlt => ?_) (fun hge => ?_)
  · obtain ⟨j, x, rfl, hx, hj, hF, nx⟩ := hr.step (by simp) hl hlt
    refine (h s).sigs.load (map_get hx) c_Signal rfl ⟨x.Sec, x.End_, rfl, (topo_Next_ok x.Sec x.End_ (h s).jts).use (opt2_ex _ ?_)⟩
    rw [sgrun] at hF
    have key : ∀ k : Int, f x = (if x ∈ seen then some (iA 1) else none) → ((f x).getD (iA 0) = iA (if x ∈ seen then 1 else 0)) := fun k e => by
      rw [e]; split <;> rfl
    refine hm.lookI keys_sg x (key 0 (hf x)) (hm.bump keys_sg x fun s' f' hm' hf' hfx hs' hne => ?_)
    have hes' : Ext σ s' := fun i hi => by
      rw [hs' i (fun e => hi (by rw [e]; exact hid))]; exact hes i hi
    refine bcnot (fun hb => ?_) (fun hb => ?_)
    · rw [if_neg (by rw [hb]; simp)] at hF
      exact ⟨by simp [Cf.sigsOk, ← hF], hes'⟩
    · refine hm'.lookI keys_sg x (by rw [hfx]; rfl) (bcd (fun h2 => ?_) (fun h2 => ?_))
      · have hin : x ∈ seen := by
          by_cases hin : x ∈ seen
          · exact hin
          · rw [if_neg hin] at h2; exact absurd h2 (by decide)
        rw [if_neg (by simp [hin])] at hF
        exact ⟨by simp [Cf.sigsOk, ← hF], hes'⟩
      · have hin : x ∉ seen := fun hin => h2 (by rw [if_pos hin]; decide)
        rw [if_pos ⟨hb, hin⟩] at hF
        have hn := nx (fun r => sgrun c.Jts r (x :: seen) = sgrun c.Jts c.Sigs []) hF
        refine ⟨⟨x :: seen, f', hm', fun z => ?_, hes', hn.1⟩, hn.2⟩
        by_cases hz : z = x
        · subst hz; rw [hfx, if_neg hin]; simp; rfl
        · rw [hf' z hz, hf]; simp [hz]
  · have hF := hr.done (by simp) hge
    rw [sgrun] at hF
    refine (h s).sigs.lenK ⟨?_, hes⟩
    rw [Cf.sigsOk, ← hF, List.length_map, Bool.true_and]
    congr 4; simp; omega
theorem plan_crossings_ok : Pure Tryz.prog n_conf_plan_crossings [cfA c0 c1 c2 c3 c4 c] σ (.a (bA c.xsOk)) := by
  have hl := (h σ).xs.size
  rw [List.length_map] at hl
  refine .of (W_conf_plan_crossings _ _ _ _ _ _ _ _ _ σ _ ?_) (flat_b _)
  refine newObj_intro fun id σ1 hid _ he hs => (h σ1).xs.lenK ⟨fun n s => ∃ seen f, MapAt Tryz.prog t_int iA s id f ∧ (∀ z, f z = if z ∈ seen then some (iA 1) else none) ∧ Ext σ s ∧ Rng c.Xs (fun r => xrun c.Secs r seen = xrun c.Secs c.Xs []) n,
    fun n _ => c.Xs.length - n.toNat, ⟨[], _, .new hs, fun z => by simp, he, .start rfl⟩, ?_⟩
  rintro n s ⟨seen, f, hm, hf, hes, hr⟩
  refine bcd (fun hlt => ?_) (fun hge => ?_)
  · obtain ⟨j, x, rfl, hx, hj, hF, nx⟩ := hr.step (by simp) hl hlt
    refine (h s).xs.load (map_get hx) c_int rfl ⟨x, rfl, (plan_section_ok (h s) x).use (sec_ex _ ?_)⟩
    rw [xrun] at hF
    have key : (f x).getD (iA 0) = iA (if x ∈ seen then 1 else 0) := by
      rw [hf]; split <;> rfl
    refine hm.lookI keysI x key (hm.put keysI x fun s' f' hm' hf' hfx hs' hne => ?_)
    have hes' : Ext σ s' := fun i hi => by
      rw [hs' i (fun e => hi (by rw [e]; exact hid))]; exact hes i hi
    refine bcnot (fun hb => ?_) (fun hb => ?_)
    · cases hg : geti c.Secs x with
      | some y => rw [hg] at hb; cases hb
      | none =>
        rw [hg] at hF
        exact ⟨by simp [Cf.xsOk, ← hF], hes'⟩
    · obtain ⟨y, hg⟩ := Option.isSome_iff_exists.1 hb
      rw [hg] at hF
      simp only [hg, Option.getD_some] at hF ⊢
      refine bcn (fun h3 => ?_) (fun h3 => ?_)
      · rw [if_neg (by simp [h3])] at hF
        exact ⟨by simp [Cf.xsOk, ← hF], hes'⟩
      refine hm'.lookI keysI x (by rw [hfx]; rfl) (bcd (fun h2 => ?_) (fun h2 => ?_))
      · have hin : x ∈ seen := by
          by_cases hin : x ∈ seen
          · exact hin
          · rw [if_neg hin] at h2; exact absurd h2 (by decide)
        rw [if_neg (by simp [hin])] at hF
        exact ⟨by simp [Cf.xsOk, ← hF], hes'⟩
      · have hin : x ∉ seen := fun hin => h2 (by rw [if_pos hin]; decide)
        rw [if_pos ⟨h3, hin⟩] at hF
        have hn := nx (fun r => xrun c.Secs r (x :: seen) = xrun c.Secs c.Xs []) hF
        refine ⟨⟨x :: seen, f', hm', fun z => ?_, hes', hn.1⟩, hn.2⟩
        by_cases hz : z = x
        · subst hz; rw [hfx, if_neg hin]; simp; rfl
        · rw [hf' z hz, hf]; simp [hz]
  · have hF := hr.done (by simp) hge
    rw [xrun] at hF
    refine (h s).xs.lenK ⟨?_, hes⟩
    rw [Cf.xsOk, ← hF, List.length_map, Bool.true_and]
    congr 4; simp; omega
end
end Go.Proofs.YtaklhjodjbgmgaaGreat
end
section
set_option linter.unusedVariables false
set_option linter.unusedSimpArgs false
namespace Go.Proofs.YtaklhjodjbgmgaaGreat
open Go.Fw Go.Proofs Go.RowKit
variable {σ : Store}
def SlPost (σ : Store) (t : TypeId) (rows : List (List D)) (r : RV) (σ' : Store) : Prop := σ' = σ ∧ ∃ d, r = .a (.one d) ∧ ∀ s, At Tryz.prog s t d rows
theorem own_fin {t : TypeId} {d : D} {rows : List (List D)} {s : Store} (h : Own Tryz.prog σ s t d rows) (hf : ∀ row ∈ rows, ∀ x ∈ row, Flat x) :
    ∃ r' σ', Ret Tryz.prog σ s (.a (.one d)) σ' r' ∧ SlPost σ t rows r' σ' := by
  obtain ⟨d', h1, h2⟩ := ret_slice h.at_ h.ext h.new hf
  exact ⟨.a (.one d'), σ, .pure h.ext h1, rfl, d', rfl, h2⟩
theorem flatNd (l : List Nd) : ∀ row ∈ l.map Nd.enc, ∀ x ∈ row, Flat x := by
  intro row hrow x hx
  obtain ⟨w, _, rfl⟩ := List.mem_map.1 hrow
  simp [Nd.enc] at hx
  rcases hx with rfl | rfl <;> exact .int _ _
theorem flatI (l : List Int) : ∀ row ∈ l.map Go.Fw.encI, ∀ x ∈ row, Flat x := by
  intro row hrow x hx
  obtain ⟨w, _, rfl⟩ := List.mem_map.1 hrow
  simp [Go.Fw.encI] at hx
  subst hx; exact .int _ _
theorem box_store {s : Store} {id : Nat} {t : TypeId} {x y : D} {K : Store → Prop} (hs : s id = .live t [[x]]) (hK : ∀ s', s' id = .live t [[y]] → (∀ i, i ≠ id → s' i = s i) → K s') : storeEl [y] s (.osl id 0 1) 0 0 K :=
  ⟨id, 0, 1, t, [[x]], [x], rfl, by omega, hs, rfl, by simp, hK _ (Store.set_same _ _ _) fun i hi => Store.set_ne _ _ hi⟩
section
variable {c0 c1 c2 c3 c4 : D} {c : Cf} (h : ∀ s, CfAt s c0 c1 c2 c3 c4 c)
include h
theorem plan_flank_ok (a : Int) {d : D} {path : List St} (hp : ∀ s, At Tryz.prog s t_Step d (path.map St.enc)) (hpl : path.length ≤ 2 ^ 20) :
    DCalls Tryz.prog n_conf_plan_flank [cfA c0 c1 c2 c3 c4 c, iA a, .one d] σ (SlPost σ t_Need ((c.flank a path).map Nd.enc)) := by
  have hl := (hp σ).size
  rw [List.length_map] at hl
  refine (W_conf_plan_flank _ _ _ _ _ _ _ _ _ a d σ _ ?_).ret (Q := fun r s => ∃ r' σ', Ret Tryz.prog σ s r σ' r' ∧ SlPost σ t_Need ((c.flank a path).map Nd.enc) r' σ') (fun r s h => h)
  refine (hp σ).lenK ⟨fun d n s => ∃ out : List Nd, Own Tryz.prog σ s t_Need d (out.map Nd.enc) ∧ out.length ≤ 4 * n.toNat ∧ Rng path (fun r => flankRun c a path r out = c.flank a path) n, fun _ n _ => path.length - n.toNat,
    ⟨[], .nil _ (.refl _), by simp, .start rfl⟩, ?_⟩
  rintro d1 n s ⟨out, ho, hol, hr⟩
  refine bcd (fun hlt => ?_) (fun hge => ?_)
  · obtain ⟨j, x, rfl, hx, hj, hF, nx⟩ := hr.step (by simp) hl hlt
    refine (hp s).load (map_get hx) c_Step rfl ⟨x.Sec, x.In, x.Out, rfl, (plan_section_ok (h s) x.Sec).use (sec_ex _ ?_)⟩
    rw [flankRun] at hF
    refine bcnot (fun hb => ?_) (fun hb => ?_)
    · cases hg : geti c.Secs x.Sec with
      | some y => rw [hg] at hb; cases hb
      | none =>
        rw [hg] at hF
        have hn := nx (fun r => flankRun c a path r out = c.flank a path) hF
        exact ⟨⟨out, ho, by rw [w64_succ (by omega)]; omega, hn.1⟩, hn.2⟩
    · obtain ⟨y, hg⟩ := Option.isSome_iff_exists.1 hb
      rw [hg] at hF
      simp only [hg, Option.getD_some] at hF ⊢
      refine (topo_Ends_ok _).use ⟨_, rfl, ?_⟩
      have hne := nends_le y.Kind
      refine ⟨fun d m s' => ∃ out' : List Nd, Own Tryz.prog σ s' t_Need d (out'.map Nd.enc) ∧ 0 ≤ m ∧ m ≤ nends y.Kind ∧ out'.length ≤ 4 * j + m.toNat ∧ flankEnds c a path x (nends y.Kind - m).toNat m out' = flankEnds c a path x (nends y.Kind).toNat 0 out,
        fun _ m _ => (nends y.Kind - m).toNat, ⟨out, ho, by omega, hne.1, by simp at hol ⊢; omega, by rw [Int.sub_zero]⟩, ?_⟩
      rintro d2 m s' ⟨out', ho', hm0, hm1, hol', hE⟩
      refine bcd (fun hlt' => ?_) (fun hge' => ?_)
      · have hw : w64 (m + 1) = m + 1 := w64_id (by omega) (by omega)
        have hk : (nends y.Kind - m).toNat = (nends y.Kind - (m + 1)).toNat + 1 := by omega
        rw [hk, flankEnds] at hE
        have leaf : ∀ (out2 : List Nd) (d3 : D) (s2 : Store), flankStep c a path x out' m = out2 → Own Tryz.prog σ s2 t_Need d3 (out2.map Nd.enc) →
            (∃ out' : List Nd, Own Tryz.prog σ s2 t_Need d3 (out'.map Nd.enc) ∧ 0 ≤ w64 (m + 1) ∧ w64 (m + 1) ≤ nends y.Kind ∧ out'.length ≤ 4 * j + (w64 (m + 1)).toNat ∧ flankEnds c a path x (nends y.Kind - w64 (m + 1)).toNat (w64 (m + 1)) out' = flankEnds c a path x (nends y.Kind).toNat 0 out) ∧
            (nends y.Kind - w64 (m + 1)).toNat < (nends y.Kind - m).toNat := by
          intro out2 d3 s2 h1 h2
          have hlen := (flankStep_len c a path x out' m).2
          rw [hw]
          refine ⟨⟨out2, h2, by omega, by omega, by rw [← h1]; omega, by rw [← h1]; exact hE⟩, by omega⟩
        intro R hR
        refine bce (fun h1 => ⟨trivial, leaf out' d2 s' (by rw [flankStep, if_pos (.inl h1)]) ho'⟩) (fun h1 => bce (fun h2 => ⟨trivial, leaf out' d2 s' (by rw [flankStep, if_pos (.inr h2)]) ho'⟩) (fun h2 => ⟨trivial, hR s' ?_⟩))
        have hst : flankStep c a path x out' m = match nxt c.Jts x.Sec m with
          | none => out'
          | some (q, f) => match geti c.Secs q with
            | none => out'
            | some y => if y.Kind = 1 ∧ (1 ≤ f ∧ f ≤ 2) ∧ q ≠ a ∧ hasSec path q = false ∧ (out'.any fun n => n.Sec == q) = false then out' ++ [⟨q, 3 - f⟩] else out' := by
          rw [flankStep, if_neg (by rintro (e | e); exact h1 e; exact h2 e)] <;> rfl
        refine (topo_Next_ok x.Sec m (h s').jts).use (opt2_ex _ ?_)
        generalize nxt c.Jts x.Sec m = o at hst
        refine newObj_intro fun id s2 hid _ he hs2 => box_store hs2 fun s3 hs3 hs3' => ?_
        have he3 : Ext s' s3 := fun i hi => by
          rw [hs3' i (fun e => hi (by rw [e]; exact hid))]; exact he i hi
        have ho3 := ho'.ext' he3
        refine ⟨_, box_row hs3, _, rfl, (plan_section_ok (h s3) _).use (sec_ex _ ?_)⟩
        intro R1 hR1
        refine bcnot (fun hb1 => ?_) (fun hb1 => ?_)
        · cases o with
          | some p => cases hb1
          | none => exact ⟨trivial, leaf out' d2 s3 hst ho3⟩
        obtain ⟨⟨q, f⟩, rfl⟩ := Option.isSome_iff_exists.1 hb1
        simp only [Option.getD_some] at hst hR1 hs3 ⊢
        refine bcnot (fun hb2 => ?_) (fun hb2 => ?_)
        · cases hg2 : geti c.Secs q with
          | some p => rw [hg2] at hb2; cases hb2
          | none => rw [hg2] at hst; exact ⟨trivial, leaf out' d2 s3 hst ho3⟩
        obtain ⟨y2, hg2⟩ := Option.isSome_iff_exists.1 hb2
        rw [hg2] at hst
        simp only [hg2, Option.getD_some] at hst ⊢
        have no : ¬ (y2.Kind = 1 ∧ (1 ≤ f ∧ f ≤ 2) ∧ q ≠ a ∧ hasSec path q = false ∧ (out'.any fun n => n.Sec == q) = false) → flankStep c a path x out' m = out' := fun hn => by rw [hst, if_neg hn]
        refine bcn (fun h3 => ⟨trivial, leaf out' d2 s3 (no fun h => h3 h.1) ho3⟩) (fun h3 => ?_)
        refine bcd (fun h4 => ⟨trivial, leaf out' d2 s3 (no fun h => by omega) ho3⟩) (fun h4 => ?_)
        refine bcd (fun h5 => ⟨trivial, leaf out' d2 s3 (no fun h => by omega) ho3⟩) (fun h5 => ?_)
        refine ⟨_, box_row hs3, q, rfl, bce (fun h6 => ⟨trivial, leaf out' d2 s3 (no fun h => h.2.2.1 h6) ho3⟩) (fun h6 => ?_)⟩
        refine ⟨_, box_row hs3, q, rfl, (conf_has_ok q (hp s3)).use ⟨_, rfl, bc (fun h7 => ⟨trivial, leaf out' d2 s3 (no fun h => by rw [h.2.2.2.1] at h7; cases h7) ho3⟩) (fun h7 => ?_)⟩⟩
        refine (hasNeed_ok ho3.at_ hs3).use ⟨_, rfl, bc (fun h8 => ⟨trivial, leaf out' d2 s3 (no fun h => by rw [h.2.2.2.2] at h8; cases h8) ho3⟩) (fun h8 => ⟨trivial, hR1 s3 ?_⟩)⟩
        refine ⟨_, box_row hs3, q, rfl, newObj_intro fun id1 s4 hid1 _ he4 hs4 => ?_⟩
        have hw2 : w64 (3 - f) = 3 - f := w64_id (by omega) (by omega)
        have ho4 := ho3.ext' he4
        refine ho4.append (At.fresh hs4 (by simp) rfl) (by simp; omega) (by simp; omega) fun d4 s5 ho5 _ _ => ⟨trivial, leaf (out' ++ [⟨q, 3 - f⟩]) d4 s5 (by rw [hst, if_pos ⟨h3, ⟨by omega, by omega⟩, h6, h7, h8⟩]) ?_⟩
        rw [hw2] at ho5
        rw [List.map_append]
        exact ho5
      · have hz : (nends y.Kind - m).toNat = 0 := by omega
        rw [hz, flankEnds] at hE
        rw [← hE] at hF
        have hn := nx (fun r => flankRun c a path r out' = c.flank a path) hF
        exact ⟨⟨out', ho', by rw [w64_succ (by omega)]; omega, hn.1⟩, hn.2⟩
  · have hF := hr.done (by simp) hge
    rw [flankRun] at hF
    rw [← hF]
    exact own_fin ho (flatNd _)
theorem plan_overlap_ok (r : Rt) {d1 d2 d3 : D} (hp : ∀ s, At Tryz.prog s t_Step d1 (r.Path.map St.enc)) :
    DCalls Tryz.prog n_conf_plan_overlap [cfA c0 c1 c2 c3 c4 c, rtA d1 d2 d3 r] σ (SlPost σ t_int ((c.overlap r).map Go.Fw.encI)) := by
  refine (W_conf_plan_overlap _ _ _ _ _ _ _ _ _ _ _ d1 d2 d3 _ σ _ ?_).ret (Q := fun r' s => ∃ r'' σ', Ret Tryz.prog σ s r' σ' r'' ∧ SlPost σ t_int ((c.overlap r).map Go.Fw.encI) r'' σ') (fun r s h => h)
  refine (plan_signal_ok (h σ) _).use (sg_ex _ ?_)
  intro R hR
  have nil : c.overlap r = [] → ∃ r'' σ', Ret Tryz.prog σ σ (.a (.one .nils)) σ' r'' ∧ SlPost σ t_int ((c.overlap r).map Go.Fw.encI) r'' σ' := fun e => by
    rw [e]; exact own_fin (.nil _ (.refl _)) (flatI _)
  refine bc (fun h1 => nil (by rw [Cf.overlap, if_pos h1])) (fun h1 => bcnot (fun h2 => nil ?_) (fun h2 => ⟨rfl, hR σ ?_⟩))
  · rw [Cf.overlap, if_neg (by rw [h1]; simp)]
    cases hg : geti c.Sigs r.Exit with
    | none => rfl
    | some x => rw [hg] at h2; cases h2
  obtain ⟨x, hg⟩ := Option.isSome_iff_exists.1 h2
  simp only [hg, Option.getD_some] at hR ⊢
  have hov : c.overlap r = match nxt c.Jts x.Sec x.End_ with
    | none => []
    | some (q, _) => match geti c.Secs q with
      | none => []
      | some y => if y.Line = 0 ∧ hasSec r.Path q = false ∧ q ≠ c.approach r then [q] else [] := by
    rw [Cf.overlap, if_neg (by rw [h1]; simp), hg] <;> rfl
  refine (topo_Next_ok _ _ (h σ).jts).use (opt2_ex _ ((plan_section_ok (h σ) _).use (sec_ex _ ?_)))
  generalize nxt c.Jts x.Sec x.End_ = o at hov
  refine bcnot (fun hb1 => nil ?_) (fun hb1 => ?_)
  · cases o with
    | none => exact hov
    | some p => cases hb1
  obtain ⟨⟨q, f⟩, rfl⟩ := Option.isSome_iff_exists.1 hb1
  simp only [Option.getD_some] at hov ⊢
  refine bcnot (fun hb2 => nil ?_) (fun hb2 => ?_)
  · cases hg2 : geti c.Secs q with
    | none => rw [hg2] at hov; exact hov
    | some p => rw [hg2] at hb2; cases hb2
  obtain ⟨y, hg2⟩ := Option.isSome_iff_exists.1 hb2
  simp only [hg2, Option.getD_some] at hov ⊢
  have no : ¬ (y.Line = 0 ∧ hasSec r.Path q = false ∧ q ≠ c.approach r) → c.overlap r = [] := fun hn => by rw [hov, if_neg hn]
  refine bcn (fun h3 => nil (no fun h => h3 h.1)) (fun h3 => (conf_has_ok q (hp σ)).use ⟨_, rfl, bc (fun h4 => nil (no fun h => by rw [h.2.1] at h4; cases h4)) (fun h4 => (plan_approach_ok (h σ) r d1 d2 d3).use ⟨_, rfl, bce (fun h5 => nil (no fun h => h.2.2 h5)) (fun h5 => ?_)⟩)⟩)
  refine newObj_intro fun id s2 hid _ he hs2 => ?_
  rw [hov, if_pos ⟨h3, h4, h5⟩]
  exact own_fin ⟨At.fresh hs2 (by simp) rfl, he, osl_new hid, fun h => h, by intro e; cases e⟩ (flatI _)
end
end Go.Proofs.YtaklhjodjbgmgaaGreat
end
section
set_option linter.unusedVariables false
set_option linter.unusedSimpArgs false
namespace Go.Proofs.YtaklhjodjbgmgaaGreat
open Go.Fw Go.Proofs Go.RowKit
variable {σ : Store}
section
variable {c0 c1 c2 c3 c4 : D} {c : Cf} (h : ∀ s, CfAt s c0 c1 c2 c3 c4 c)
include h
theorem plan_path_ok (r : Rt) {d1 d2 d3 : D} (hp : ∀ s, At Tryz.prog s t_Step d1 (r.Path.map St.enc)) :
    Pure Tryz.prog n_conf_plan_path [cfA c0 c1 c2 c3 c4 c, rtA d1 d2 d3 r] σ (.a (bA (c.path r))) := by
  have hl := (hp σ).size
  rw [List.length_map] at hl
  refine .of (W_conf_plan_path _ _ _ _ _ _ _ _ _ _ _ d1 d2 d3 _ σ _ ?_) (flat_b _)
  refine (plan_signal_ok (h σ) _).use (sg_ex _ ((plan_signal_ok (h σ) _).use (sg_ex _ ?_)))
  intro R hR
  refine bcnot (fun h1 => ?_) (fun h1 => ?_)
  · cases hg : geti c.Sigs r.Entry with
    | some x => rw [hg] at h1; cases h1
    | none => exact ⟨by rw [Cf.path, hg], .refl _⟩
  obtain ⟨a, hg⟩ := Option.isSome_iff_exists.1 h1
  have hpath : c.path r = ((decide (r.Exit = -1) || (geti c.Sigs r.Exit).isSome) && decide (1 ≤ r.Path.length ∧ r.Path.length ≤ 8) && prunA c r (geti c.Sigs r.Exit) r.Path a [a.Sec]) := by rw [Cf.path, hg]
  rw [hg, Option.getD_some] at hR
  generalize hex : geti c.Sigs r.Exit = ex at hpath hR
  have hlen : decide ((1 : Int) ≤ ((r.Path.map St.enc).length : Int) ∧ ((r.Path.map St.enc).length : Int) ≤ 8) = decide (1 ≤ r.Path.length ∧ r.Path.length ≤ 8) := by
    rw [List.length_map]; congr 1; apply propext; omega
  have hgo : decide (1 ≤ r.Path.length ∧ r.Path.length ≤ 8) = true → (decide (r.Exit = -1) || ex.isSome) = true → R σ := by
    intro hlen2 hexok
    rw [hlen2, hexok] at hpath
    simp only [Bool.true_and] at hpath
    refine hR σ (newObj_intro fun id s1 hid _ he1 hs1 => (MapAt.new hs1).put keysI a.Sec fun s2 f2 hm2 hf2 hfx2 hs2 hne2 => ?_)
    have he2 : Ext σ s2 := fun i hi => by
      rw [hs2 i (fun e => hi (by rw [e]; exact hid))]; exact he1 i hi
    refine (hp s2).lenK ⟨fun m e n s => ∃ seen f, MapAt Tryz.prog t_int iA s id f ∧ (∀ z, f z = if z ∈ seen then some (iA 1) else none) ∧ Ext σ s ∧ Rng r.Path (fun q => prunA c r ex q ⟨m, e⟩ seen = c.path r) n, fun _ _ n _ => r.Path.length - n.toNat,
      ⟨[a.Sec], f2, hm2, fun z => ?_, he2, .start hpath.symm⟩, ?_⟩
    · by_cases hz : z = a.Sec
      · subst hz; rw [hfx2]; simp
      · rw [hf2 z hz]; simp [hz]
    rintro m e n s ⟨seen, f, hm, hf, hes, hr⟩
    refine bcd (fun hlt => ?_) (fun hge => ?_)
    · obtain ⟨j, x, rfl, hx, hj, hF, nx⟩ := hr.step (by simp) hl hlt
      intro R1 hR1
      refine (hp s).load (map_get hx) c_Step rfl ⟨x.Sec, x.In, x.Out, rfl, (topo_Next_ok m e (h s).jts).use (opt2_ex _ ((plan_section_ok (h s) _).use (sec_ex _ ((topo_Pos_ok _ _ _).use (opt1_ex _ ?_)))))⟩
      rw [prunA] at hF
      have bad : pstep c r ex ⟨m, e⟩ x (r.Path.drop (j + 1)).isEmpty seen = false → ∀ s', Ext σ s' → (RV.a (.one (.bool false)) = .a (bA (c.path r)) ∧ Ext σ s') := fun hb s' he' => by
        rw [hb] at hF
        exact ⟨by rw [← hF]; rfl, he'⟩
      have good : pstep c r ex ⟨m, e⟩ x (r.Path.drop (j + 1)).isEmpty seen = true → ∀ s' f', MapAt Tryz.prog t_int iA s' id f' → (∀ z, f' z = if z ∈ x.Sec :: seen then some (iA 1) else none) → Ext σ s' → R1 x.Sec x.Out s' := fun hb s' f' hm' hf' he' => by
        rw [hb, Bool.true_and] at hF
        have hn := nx (fun q => prunA c r ex q ⟨x.Sec, x.Out⟩ (x.Sec :: seen) = c.path r) hF
        exact hR1 _ _ _ ⟨rfl, ⟨x.Sec :: seen, f', hm', hf', he', hn.1⟩, hn.2⟩
      have hst : pstep c r ex ⟨m, e⟩ x (r.Path.drop (j + 1)).isEmpty seen = match nxt c.Jts m e with
        | none => false
        | some (q, i) => decide (q = x.Sec) && decide (i = x.In) && (wpos (wayL ((geti c.Secs q).getD ⟨0, 0, 0⟩).Kind) x.In x.Out).isSome && decide (q ∉ seen) &&
          (!(c.Sigs.any fun y => decide (⟨x.Sec, x.Out⟩ = y)) || ((r.Path.drop (j + 1)).isEmpty && decide (ex = some ⟨x.Sec, x.Out⟩))) && !(r.Shunt && decide (((geti c.Secs q).getD ⟨0, 0, 0⟩).Line ≠ 0)) := rfl
      generalize nxt c.Jts m e = o at hst
      have key : (f (o.getD (0, 0)).1).getD (iA 0) = iA (if (o.getD (0, 0)).1 ∈ seen then 1 else 0) := by
        rw [hf]; split <;> rfl
      refine hm.lookI keysI _ key (hm.put keysI _ fun s' f' hm' hf' hfx hs' hne => ?_)
      have hes' : Ext σ s' := fun i hi => by
        rw [hs' i (fun e => hi (by rw [e]; exact hid))]; exact hes i hi
      refine (Contains_Signal_ok ⟨x.Sec, x.Out⟩ (h s').sigs).use ⟨_, rfl, ?_⟩
      intro R2 hR2
      have main : R2 ((r.Path.drop (j + 1)).isEmpty && decide (ex = some ⟨x.Sec, x.Out⟩)) s' := by
        refine hR2 _ _ (bcnot (fun k1 => bad ?_ s' hes') (fun k1 => ?_))
        · cases o with
          | none => exact hst
          | some p => cases k1
        obtain ⟨⟨q, i⟩, rfl⟩ := Option.isSome_iff_exists.1 k1
        simp only [Option.getD_some] at hst key hfx hf' ⊢
        refine bcn (fun k2 => bad (by rw [hst]; simp [k2]) s' hes') (fun k2 => ?_)
        refine bcn (fun k3 => bad (by rw [hst]; simp [k3]) s' hes') (fun k3 => ?_)
        refine bcnot (fun k4 => bad (by rw [hst, k4]; simp) s' hes') (fun k4 => ?_)
        refine hm'.lookI keysI q (by rw [hfx]; rfl) (bcd (fun k5 => ?_) (fun k5 => ?_))
        · have hin : q ∈ seen := by
            by_cases hin : q ∈ seen
            · exact hin
            · rw [if_neg hin] at k5; exact absurd k5 (by decide)
          exact bad (by rw [hst]; simp [hin]) s' hes'
        have hin : q ∉ seen := fun hin => k5 (by rw [if_pos hin]; decide)
        have hfin : pstep c r ex ⟨m, e⟩ x (r.Path.drop (j + 1)).isEmpty seen = true → R1 x.Sec x.Out s' := fun hb => good hb s' f' hm' (fun z => by
          by_cases hz : z = q
          · subst hz; rw [hfx, if_neg hin, k2]; simp; rfl
          · rw [hf' z hz, hf]; simp [k2 ▸ hz]) hes'
        have hpre : (decide (q = x.Sec) && decide (i = x.In) && (wpos (wayL ((geti c.Secs q).getD ⟨0, 0, 0⟩).Kind) x.In x.Out).isSome && decide (q ∉ seen)) = true := by
          rw [k4]; simp [k2, k3]; rw [← k2]; exact hin
        rw [hpre, Bool.true_and] at hst
        refine bc (fun k6 => bcnot (fun k7 => bad ?_ s' hes') (fun k7 => ?_)) (fun k6 => ?_)
        · rw [hst, k6, k7]; rfl
        · rw [k6, k7] at hst
          refine bc (fun k8 => bcn (fun k9 => bad ?_ s' hes') (fun k9 => ⟨trivial, hfin ?_⟩)) (fun k8 => ⟨trivial, hfin ?_⟩)
          · rw [hst, k8]; simp [k9]
          · rw [hst]; simp [k9]
          · rw [hst, k8]; rfl
        · rw [k6] at hst
          refine bc (fun k8 => bcn (fun k9 => bad ?_ s' hes') (fun k9 => ⟨trivial, hfin ?_⟩)) (fun k8 => ⟨trivial, hfin ?_⟩)
          · rw [hst, k8]; simp [k9]
          · rw [hst]; simp [k9]
          · rw [hst, k8]; rfl
      refine (hp s').lenK ?_
      have hw : w64 (((r.Path.map St.enc).length : Int) - 1) = (r.Path.length : Int) - 1 := by rw [List.length_map, w64_id (by omega) (by omega)]
      rw [hw]
      refine bce (fun q1 => bc (fun q2 => ⟨rfl, ?_⟩) (fun q2 => ⟨rfl, ?_⟩)) (fun q1 => ⟨rfl, ?_⟩)
      · have hemp : (r.Path.drop (j + 1)).isEmpty = true := by rw [drop_end (by omega)]; rfl
        obtain ⟨y, rfl⟩ := Option.isSome_iff_exists.1 q2
        rw [hemp, Bool.true_and] at main
        have hd : decide (some y = some (⟨x.Sec, x.Out⟩ : Sg)) = (x.Sec == y.Sec && x.Out == y.End_) := by
          cases y with
          | mk y1 y2 =>
            rw [Bool.eq_iff_iff]; simp
            exact ⟨fun ⟨a, b⟩ => ⟨a.symm, b.symm⟩, fun ⟨a, b⟩ => ⟨a.symm, b.symm⟩⟩
        rw [hd] at main
        exact main
      · have hd : ex = none := by cases ex; rfl; cases q2
        rw [hd] at main
        simpa using main
      · have hemp : (r.Path.drop (j + 1)).isEmpty = false := by
          cases hd : r.Path.drop (j + 1) with
          | nil => rw [List.drop_eq_nil_iff] at hd; omega
          | cons y l => rfl
        rw [hemp, Bool.false_and] at main
        exact main
    · have hF : (match (generalizing := false) ex with | some x => decide ((⟨m, e⟩ : Sg) = x) | none => !(nxt c.Jts m e).isSome) = c.path r := hr.done (by simp) hge
      refine bc (fun q2 => ?_) (fun q2 => ?_)
      · obtain ⟨y, rfl⟩ := Option.isSome_iff_exists.1 q2
        refine ⟨?_, hes⟩
        rw [← hF]
        cases y with
        | mk y1 y2 =>
          congr 4; rw [Bool.eq_iff_iff]; simp
      · have hd : ex = none := by cases ex; rfl; cases q2
        subst hd
        refine (topo_Next_ok m e (h s).jts).use (opt2_ex _ ⟨?_, hes⟩)
        rw [← hF]
  refine bcnot (fun h2 => bcn (fun h3 => ⟨?_, .refl _⟩) (fun h3 => (hp σ).lenK ((conf_between_ok _ _ _).use ⟨_, rfl, bcnot (fun h4 => ⟨?_, .refl _⟩) (fun h4 => ⟨rfl, hgo ?_ ?_⟩)⟩))) (fun h2 => (hp σ).lenK ((conf_between_ok _ _ _).use ⟨_, rfl, bcnot (fun h4 => ⟨?_, .refl _⟩) (fun h4 => ⟨rfl, hgo ?_ ?_⟩)⟩))
  · rw [hpath, h2]; simp [h3]
  · rw [hlen] at h4; rw [hpath, h4]; simp
  · rw [← hlen]; exact h4
  · simp [h3]
  · rw [hlen] at h4; rw [hpath, h4]; simp
  · rw [← hlen]; exact h4
  · simp [h2]
theorem plan_route_ok (r : Rt) {d1 d2 d3 : D} (hp : ∀ s, At Tryz.prog s t_Step d1 (r.Path.map St.enc)) (hf : ∀ s, At Tryz.prog s t_Need d2 (r.Flank.map Nd.enc)) (ho : ∀ s, At Tryz.prog s t_int d3 (r.Overlap.map Go.Fw.encI)) :
    Pure Tryz.prog n_conf_plan_route [cfA c0 c1 c2 c3 c4 c, rtA d1 d2 d3 r] σ (.a (iA (c.route r))) := by
  refine W_conf_plan_route _ _ _ _ _ _ _ _ _ _ _ d1 d2 d3 _ σ _ ((plan_path_ok h r hp).use ⟨_, rfl, bcnot (fun h1 => ⟨by rw [Cf.route, if_pos h1], rfl⟩) (fun h1 => ?_)⟩)
  have hpl : r.Path.length ≤ 8 := by
    unfold Cf.path at h1
    split at h1
    · cases h1
    · simp at h1; exact h1.1.2.2
  refine (plan_approach_ok (h σ) r d1 d2 d3).use ⟨_, rfl, (plan_flank_ok h _ hp (by omega)).mono ?_⟩
  rintro r1 s1 ⟨rfl, d, rfl, hd⟩
  refine ⟨d, rfl, (Equal_Need_ok (hf _) (hd _)).use ⟨_, rfl, bcnot (fun h2 => ⟨?_, rfl⟩) (fun h2 => (plan_overlap_ok h r hp).mono ?_)⟩⟩
  · rw [Cf.route, if_neg (by rw [h1]; simp), if_pos (of_decide_eq_false h2)]
  rintro r2 s2 ⟨rfl, d', rfl, hd'⟩
  have e2 := of_decide_eq_true h2
  refine ⟨d', rfl, (Equal_int_ok (ho _) (hd' _)).use ⟨_, rfl, bcnot (fun h3 => ⟨?_, rfl⟩) (fun h3 => ⟨?_, rfl⟩)⟩⟩
  · rw [Cf.route, if_neg (by rw [h1]; simp), if_neg (fun hn => hn e2), if_pos (of_decide_eq_false h3)]
  · rw [Cf.route, if_neg (by rw [h1]; simp), if_neg (fun hn => hn e2), if_neg (fun hn => hn (of_decide_eq_true h3))]
theorem conf_Check_ok : Pure Tryz.prog n_conf_Check [cfA c0 c1 c2 c3 c4 c] σ (.a (iA c.check)) := by
  refine W_conf_Check _ _ _ _ _ _ _ _ _ σ _ ((topo_Check_ok (fun s => (h s).secs) (fun s => (h s).jts)).use ⟨_, rfl, ?_⟩)
  have e6 : (if topoOk c.Secs c.Jts = true then (0 : Int) else 6) ≠ 0 ↔ topoOk c.Secs c.Jts = false := by
    cases topoOk c.Secs c.Jts <;> simp
  refine bcn (fun k1 => ⟨by rw [Cf.check, if_pos (e6.1 k1)], rfl⟩) (fun k1 => (plan_signals_ok h).use ⟨_, rfl, bcnot (fun k2 => ⟨?_, rfl⟩) (fun k2 => (plan_crossings_ok h).use ⟨_, rfl, bcnot (fun k3 => ⟨?_, rfl⟩) (fun k3 => ?_)⟩)⟩)
  all_goals have k1' : ¬ topoOk c.Secs c.Jts = false := fun e => e6.2 e k1
  · rw [Cf.check, if_neg k1', if_pos k2]
  · rw [Cf.check, if_neg k1', if_neg (by rw [k2]; simp), if_pos k3]
  have hck : c.check = if c.Rts.length > 12 then 9 else if c.routes c.Rts ≠ 0 then c.routes c.Rts else if c.timing = true then 0 else 12 := by
    rw [Cf.check, if_neg k1', if_neg (by rw [k2]; simp), if_neg (by rw [k3]; simp)]
  obtain ⟨rows, hat, hlen, hrow⟩ := rts_froz fun s => (h s).rts
  have hl := (hat σ).size
  refine (hat σ).lenK (bcd (fun k4 => ⟨by rw [hck, if_pos (by omega)], rfl⟩) (fun k4 => (hat σ).lenK ?_))
  rw [if_neg (by omega)] at hck
  refine ⟨fun n s => s = σ ∧ Rng c.Rts (fun l => c.routes l = c.routes c.Rts) n, fun n _ => c.Rts.length - n.toNat, ⟨rfl, .start rfl⟩, ?_⟩
  rintro n τ ⟨rfl, hr⟩
  refine bcd (fun hlt => ?_) (fun hge => ?_)
  · obtain ⟨j, x, rfl, hx, hj, hF, nx⟩ := hr.step hlen (by omega) hlt
    obtain ⟨row, hrw⟩ := get_of_lt (l := rows) (j := j) (by omega)
    obtain ⟨d1, d2, d3, rfl, q1, q2, q3⟩ := hrow j row x hrw hx
    refine (hat τ).load hrw c_Route rfl ⟨_, _, d1, d2, d3, _, rfl, (plan_route_ok h x q1 q2 q3).use ⟨_, rfl, ?_⟩⟩
    rw [Cf.routes] at hF
    refine bcn (fun k5 => ⟨?_, rfl⟩) (fun k5 => ?_)
    · rw [if_pos k5] at hF
      rw [hck, ← hF, if_pos k5]
    · rw [if_neg (by simp [k5])] at hF
      exact ⟨rfl, andl rfl (nx _ hF)⟩
  · have hF : 0 = c.routes c.Rts := hr.done hlen hge
    rw [← hF, if_neg (by simp)] at hck
    have hpos : c.timing = (decide (1 ≤ c.Age ∧ c.Age ≤ 8) && decide (0 ≤ c.Brake ∧ c.Brake ≤ 8) && decide (c.Age + c.Brake + 1 ≤ c.Hold ∧ c.Hold ≤ 40) && decide (1 ≤ c.Budget ∧ c.Budget ≤ 1000000)) := rfl
    refine (conf_between_ok _ _ _).use ⟨_, rfl, bcnot (fun k5 => ⟨?_, rfl⟩) (fun k5 => (conf_between_ok _ _ _).use ⟨_, rfl, bcnot (fun k6 => ⟨?_, rfl⟩) (fun k6 => (conf_between_ok _ _ _).use ⟨_, rfl, ?_⟩)⟩)⟩
    · rw [hck, hpos, k5]; simp
    · rw [hck, hpos, k6]; simp
    have a5 := of_decide_eq_true k5
    have a6 := of_decide_eq_true k6
    rw [w64_id (n := c.Age + c.Brake) (by omega) (by omega), w64_id (n := c.Age + c.Brake + 1) (by omega) (by omega)]
    refine bcnot (fun k7 => ⟨?_, rfl⟩) (fun k7 => (conf_between_ok _ _ _).use ⟨_, rfl, bcnot (fun k8 => ⟨?_, rfl⟩) (fun k8 => ⟨?_, rfl⟩)⟩)
    · rw [hck, hpos, k7]; simp
    · rw [hck, hpos, k8]; simp
    · rw [hck, hpos, k5, k6, k7, k8]; rfl
end
end Go.Proofs.YtaklhjodjbgmgaaGreat
end
section
set_option linter.unusedVariables false
set_option linter.unusedSimpArgs false
namespace Go.Fw
variable {P : Program} {σ : Store}
theorem u64_id {n : Int} (h1 : 0 ≤ n) (h2 : n ≤ 18446744073709551615) : IntKind.wrap .u64 n = n := by
  simp only [IntKind.wrap, IntKind.signed, IntKind.bits]; simp; omega
theorem and_mask {x : Int} (h1 : 0 ≤ x) (h2 : x < 2 ^ 32) : ((BitVec.toNat ((BitVec.ofInt 64 x) &&& (BitVec.ofInt 64 4294967295)) : Nat) : Int) = x := by
  rw [BitVec.toNat_and, BitVec.toNat_ofInt, BitVec.toNat_ofInt]
  have e1 : (x % ((2 ^ 64 : Nat) : Int)).toNat = x.toNat := by
    rw [Int.emod_eq_of_lt h1 (by omega)]
  have e2 : ((4294967295 : Int) % ((2 ^ 64 : Nat) : Int)).toNat = 2 ^ 32 - 1 := by decide
  rw [e1, e2, Nat.and_two_pow_sub_one_eq_mod, Nat.mod_eq_of_lt (by omega)]
  omega
theorem fdiv_small {x : Int} (h1 : 0 ≤ x) (h2 : x < 2 ^ 32) : Int.fdiv x (2 ^ 32) = 0 := by
  rw [Int.fdiv_eq_ediv_of_nonneg _ (by omega)]; omega
theorem set_set (i : Nat) (a b : SO) : (σ.set i a).set i b = σ.set i b := by
  funext j
  by_cases h : j = i
  · subst h; rw [Store.set_same, Store.set_same]
  · rw [Store.set_ne _ _ h, Store.set_ne _ _ h, Store.set_ne _ _ h]
def RepPost (t : TypeId) (n : Nat) (row : List D) (s : Store) (r : RV) (s' : Store) : Prop :=
  ∃ id, s id = .free ∧ r = .a (.one (.osl id 0 n)) ∧ s' = s.set id (.live t (List.replicate n row))
theorem rep_rows {row z : List D} {m k n : Nat} (h1 : k ≤ m) (h2 : m + k ≤ n) :
    (List.replicate m row ++ List.replicate (n - m) z).take m ++ (List.replicate m row).take k ++ (List.replicate m row ++ List.replicate (n - m) z).drop (m + k) = List.replicate (m + k) row ++ List.replicate (n - (m + k)) z := by
  rw [List.take_left' (by simp), List.take_replicate, Nat.min_eq_left h1, List.replicate_append_replicate, List.drop_append, List.drop_eq_nil_iff.2 (by simp), List.nil_append, List.drop_replicate]
  congr 2; simp; omega
theorem rep_ok {f : FuncId} {t : TypeId} {es bytes : Nat} {z row : List D} {x : D} {n : Nat} {Q : RV → Store → Prop}
    (hmul : ∀ s (a b : Int), 0 ≤ a → 0 ≤ b → a * b < 2 ^ 32 → a < 2 ^ 32 → b < 2 ^ 32 → Pure P f [.one (.int .u64 a), .one (.int .u64 b)] s (.tup [.one (.int .u64 0), .one (.int .u64 (a * b))]))
    (hes : P.cellsOf t = es) (hx : At P σ t x [row]) (hn : n ≤ 2 ^ 20) (hb : bytes ≤ 2 ^ 20) (hQ : ∀ r s, RepPost t n row σ r s → Q r s) :
    ∀ R : Store → Prop, (∀ σ' : Store, (∃ len : Nat, (Len x len) ∧ DCalls P f [.one (.int .u64 (IntKind.wrap .u64 (len : Int))), .one (.int .u64 (IntKind.wrap .u64 (n : Int)))] σ' (fun (r : RV) => fun (σ'1 : Store) => ∃ n : Int, ∃ n1 : Int, (r = (.tup [.one (.int .u64 n), .one (.int .u64 n1)] : RV)) ∧ ∀ R1 : Store → Prop, (∀ σ'2 : Store, (((0 : Int) ≤ (w64 n1)) ∧ ((w64 n1) ≤ (w64 n1)) ∧ (((bytes : Int) * (w64 n1)) ≤ (2 ^ 48)) ∧ Fw.newObj σ'2 (.live t (List.replicate (Int.toNat (w64 n1)) z)) (fun (id : Nat) => fun (σ'3 : Store) => copyTo P σ'3 t (.osl id 0 (Int.toNat (w64 n1))) x (fun (n2 : Int) => fun (σ'4 : Store) => ∃ I : Int → Store → Prop, ∃ μ : Int → Store → Nat, (I n2 σ'4) ∧ ∀ n3 : Int, ∀ σ'5 : Store, (I n3 σ'5) → ∃ len1 : Nat, (Len (.osl id 0 (Int.toNat (w64 n1))) len1) ∧ bcase (decide (n3 < (len1 : Int))) (∃ len2 : Nat, (IdxN P σ'5 (.osl id 0 (Int.toNat (w64 n1))) es len2) ∧ ((0 : Int) ≤ n3) ∧ (n3 ≤ (len2 : Int)) ∧ ∃ len3 : Nat, (IdxN P σ'5 (.osl id 0 (Int.toNat (w64 n1))) es len3) ∧ ((0 : Int) ≤ 0) ∧ ((0 : Int) ≤ n3) ∧ (n3 ≤ (len3 : Int)) ∧ copyTo P σ'5 t (.osl id (0 + (Int.toNat n3)) (len2 - (Int.toNat n3))) (.osl id 0 ((Int.toNat n3) - 0)) (fun (n4 : Int) => fun (σ'6 : Store) => (I (w64 (n3 + n4)) σ'6) ∧ ((μ (w64 (n3 + n4)) σ'6) < (μ n3 σ'5)))) (Q (.a (.one (.osl id 0 (Int.toNat (w64 n1))))) σ'5)))) → R1 σ'2) → bcase (decide (n > 0)) False (bcase (decide (n1 > 9223372036854775807)) False (R1 σ'1)))) → R σ') → bcase (decide ((n : Int) < 0)) False (R σ) := by
  intro R hR
  refine bcd (fun h => absurd h (by omega)) (fun _ => hR σ (hx.lenK ?_))
  rw [u64_id (by simp) (by simp), u64_id (by omega) (by omega)]
  have hw : w64 (((1 : Nat) : Int) * n) = n := by rw [w64_id (by omega) (by omega)]; omega
  refine (hmul σ _ _ (by simp) (by omega) (by simp; omega) (by simp) (by omega)).use ⟨0, _, rfl, fun R1 hR1 => bcd (fun h => absurd h (by decide)) (fun _ => bcd (fun h => absurd h (by simp; omega)) (fun _ => hR1 σ ?_))⟩
  show 0 ≤ w64 (((1 : Nat) : Int) * n) ∧ _
  simp only [List.length_singleton, hw, Int.toNat_natCast]
  refine ⟨by omega, Int.le_refl _, ?_, fun id hid => ?_⟩
  · have : bytes * n ≤ 2 ^ 20 * 2 ^ 20 := Nat.mul_le_mul hb hn
    have h2 : ((bytes * n : Nat) : Int) ≤ 2 ^ 48 := by omega
    rw [Int.natCast_mul] at h2; exact h2
  have hidx : ∀ (s : Store) (rows : List (List D)), s id = .live t rows → rows.length = n → IdxN P s (.osl id 0 n) es n := fun s rows h1 h2 => .inl ⟨by omega, t, rows, h1, hes⟩
  have hxr : Rows P (σ.set id (.live t (List.replicate n z))) t x [row] := (hx.ext (Ext.new hid _)).rows
  have hdr : ∀ (s : Store) (rows : List (List D)) (i len : Nat), s id = .live t rows → i + len ≤ rows.length → Rows P s t (.osl id i len) ((rows.drop i).take len) := fun s rows i len h1 h2 => ⟨t, rows, h1, rfl, h2, rfl⟩
  refine ⟨_, _, hdr _ _ 0 n (Store.set_same _ _ _) (by simp), hxr, ?_⟩
  have hmin : min [row].length ((List.replicate n z).drop 0 |>.take n).length = min 1 n := by simp
  have hminI : min (([row].length : Nat) : Int) ((((List.replicate n z).drop 0 |>.take n).length : Nat) : Int) = ((min 1 n : Nat) : Int) := by rw [← hmin]; omega
  rw [hmin, hminI]
  have hloop : ∀ (m : Nat) (s : Store), m ≤ n → (0 < n → 0 < m) → s = σ.set id (.live t (List.replicate m row ++ List.replicate (n - m) z)) → ∃ I : Int → Store → Prop, ∃ μ : Int → Store → Nat, (I m s) ∧ ∀ n3 : Int, ∀ σ'5 : Store, (I n3 σ'5) → ∃ len1 : Nat, (Len (.osl id 0 n) len1) ∧ bcase (decide (n3 < (len1 : Int))) (∃ len2 : Nat, (IdxN P σ'5 (.osl id 0 n) es len2) ∧ ((0 : Int) ≤ n3) ∧ (n3 ≤ (len2 : Int)) ∧ ∃ len3 : Nat, (IdxN P σ'5 (.osl id 0 n) es len3) ∧ ((0 : Int) ≤ 0) ∧ ((0 : Int) ≤ n3) ∧ (n3 ≤ (len3 : Int)) ∧ copyTo P σ'5 t (.osl id (0 + (Int.toNat n3)) (len2 - (Int.toNat n3))) (.osl id 0 ((Int.toNat n3) - 0)) (fun (n4 : Int) => fun (σ'6 : Store) => (I (w64 (n3 + n4)) σ'6) ∧ ((μ (w64 (n3 + n4)) σ'6) < (μ n3 σ'5)))) (Q (.a (.one (.osl id 0 n))) σ'5) := by
    intro m0 s0 hm0 hm0' hs0
    refine ⟨fun n3 s => ∃ m : Nat, n3 = m ∧ m ≤ n ∧ (0 < n → 0 < m) ∧ s = σ.set id (.live t (List.replicate m row ++ List.replicate (n - m) z)), fun n3 _ => n - n3.toNat, ⟨m0, rfl, hm0, hm0', hs0⟩, ?_⟩
    rintro _ s ⟨m, rfl, hm, hm', rfl⟩
    refine ⟨n, rfl, bcd (fun hlt => ?_) (fun hge => ?_)⟩
    · have hl : (List.replicate m row ++ List.replicate (n - m) z).length = n := by simp; omega
      refine ⟨n, hidx _ _ (Store.set_same _ _ _) hl, by omega, by omega, n, hidx _ _ (Store.set_same _ _ _) hl, by omega, by omega, by omega, ?_⟩
      rw [Int.toNat_natCast, Nat.zero_add, Nat.sub_zero]
      refine ⟨_, _, hdr _ _ m (n - m) (Store.set_same _ _ _) (by rw [hl]; omega), hdr _ _ 0 m (Store.set_same _ _ _) (by rw [hl]; omega), .inr ⟨id, m, n - m, t, _, rfl, Store.set_same _ _ _, ?_⟩⟩
      have e1 : ((List.replicate m row ++ List.replicate (n - m) z).drop 0).take m = List.replicate m row := by
        rw [List.drop_zero, List.take_left' (by simp)]
      have e2 : min (((List.replicate m row ++ List.replicate (n - m) z).drop 0).take m).length (((List.replicate m row ++ List.replicate (n - m) z).drop m).take (n - m)).length = min m (n - m) := by
        rw [e1, List.length_take, List.length_drop, hl]; simp
      have e3 : min (((((List.replicate m row ++ List.replicate (n - m) z).drop 0).take m).length : Nat) : Int) (((((List.replicate m row ++ List.replicate (n - m) z).drop m).take (n - m)).length : Nat) : Int) = ((min m (n - m) : Nat) : Int) := by
        rw [← e2]; omega
      rw [e3, e2, e1, rep_rows (by omega) (by omega), set_set]
      have hk : 0 < min m (n - m) := by have := hm' (by omega); omega
      have hw2 : w64 ((m : Int) + ((min m (n - m) : Nat) : Int)) = ((m + min m (n - m) : Nat) : Int) := by rw [w64_id (by omega) (by omega)]; omega
      show (∃ m' : Nat, w64 ((m : Int) + ((min m (n - m) : Nat) : Int)) = m' ∧ _) ∧ _
      rw [hw2]
      refine ⟨⟨m + min m (n - m), rfl, by omega, fun _ => by omega, rfl⟩, ?_⟩
      show n - ((m + min m (n - m) : Nat) : Int).toNat < n - ((m : Nat) : Int).toNat
      omega
    · have e : m = n := by omega
      subst e
      refine hQ _ _ ⟨id, hid, rfl, ?_⟩
      rw [Nat.sub_self, List.replicate_zero, List.append_nil]
  by_cases h0 : n = 0
  · subst h0
    exact .inl ⟨rfl, hloop 0 _ (by omega) (by omega) rfl⟩
  · refine .inr ⟨id, 0, n, t, _, rfl, Store.set_same _ _ _, ?_⟩
    have e1 : min 1 n = 1 := by omega
    rw [e1, set_set]
    refine hloop 1 _ (by omega) (by omega) ?_
    congr 2
    rw [List.drop_replicate]; simp
end Go.Fw
end
section
set_option linter.unusedVariables false
set_option linter.unusedSimpArgs false
namespace Go.Proofs.YtaklhjodjbgmgaaGreat
open Go.Fw Go.Proofs Go.RowKit
variable {σ : Store}
theorem Mul64_ok (x y : Int) (hx0 : 0 ≤ x) (hy0 : 0 ≤ y) (hxy : x * y < 2 ^ 32) (hx : x < 2 ^ 32) (hy : y < 2 ^ 32) : Pure Tryz.prog n_math_bits_Mul64 [.one (.int .u64 x), .one (.int .u64 y)] σ (.tup [.one (.int .u64 0), .one (.int .u64 (x * y))]) := by
  have h0 : 0 ≤ x * y := Int.mul_nonneg hx0 hy0
  refine W_math_bits_Mul64 x y σ _ ?_
  unfold V_math_bits_Mul64
  have z0 : IntKind.wrap .u64 0 = 0 := u64_id (by omega) (by omega)
  have m0 := and_mask (x := 0) (by omega) (by omega)
  have f0 := fdiv_small (x := 0) (by omega) (by omega)
  rw [and_mask hx0 hx, and_mask hy0 hy, fdiv_small hx0 hx, fdiv_small hy0 hy, u64_id (n := x) hx0 (by omega), u64_id (n := y) hy0 (by omega), u64_id (n := x * y) h0 (by omega), fdiv_small h0 hxy]
  simp only [Int.zero_mul, Int.mul_zero, Int.add_zero, Int.zero_add, z0, m0, f0]
  exact ⟨trivial, trivial⟩
theorem Mul_ok (s : Store) (x y : Int) (hx0 : 0 ≤ x) (hy0 : 0 ≤ y) (hxy : x * y < 2 ^ 32) (hx : x < 2 ^ 32) (hy : y < 2 ^ 32) : Pure Tryz.prog n_math_bits_Mul [.one (.int .u64 x), .one (.int .u64 y)] s (.tup [.one (.int .u64 0), .one (.int .u64 (x * y))]) :=
  W_math_bits_Mul x y s _ ((Mul64_ok x y hx0 hy0 hxy hx hy).use ⟨_, _, rfl, rfl, rfl⟩)
end Go.Proofs.YtaklhjodjbgmgaaGreat
end
section
namespace Go.Fw
structure Rs where
  State : Int
  Since : Int
  Next : Int
  Mark : Int
  deriving DecidableEq
structure Mv where
  Cmd : Int
  Other : Int
  deriving DecidableEq
structure Ls where
  Ask : Int
  Done : Int
  Grant : Int
  Told : Int
  PAsk : Int
  PDone : Int
  PGrant : Int
  Since : Int
  deriving DecidableEq
structure Co where
  Own : List Int
  Routes : List Rs
  Points : List Mv
  Xs : List Mv
  Lines : List Ls
  Resets : List Int
  Dirty : Bool
  deriving DecidableEq
def Rs.enc (r : Rs) : List D := [iD r.State, iD r.Since, iD r.Next, iD r.Mark]
def Mv.enc (r : Mv) : List D := [iD r.Cmd, iD r.Other]
def Ls.enc (r : Ls) : List D := [iD r.Ask, iD r.Done, iD r.Grant, iD r.Told, iD r.PAsk, iD r.PDone, iD r.PGrant, iD r.Since]
def tm (b n : Int) : Bool := decide (0 ≤ n ∧ n ≤ 4294967295 + b)
def Rs.fits (p : Rs × Rt) : Bool := decide (0 ≤ p.1.State ∧ p.1.State ≤ 5) && decide (0 ≤ p.1.Next ∧ p.1.Next ≤ p.2.Path.length) && (tm 0 p.1.Since && tm 0 p.1.Mark)
def Mv.fits (m : Mv) : Bool := decide (0 ≤ m.Cmd ∧ m.Cmd ≤ 2) && decide (-1 ≤ m.Other ∧ m.Other ≤ 4294967295)
def Ls.fits (l : Ls) : Bool := (tm 0 l.Ask && (tm 0 l.Done && (tm 0 l.Grant && (tm 0 l.Told && (tm 0 l.PAsk && (tm 0 l.PDone && tm 0 l.PGrant)))))) && tm 1 l.Since
def Co.lens (c : Cf) (k : Co) : Bool := decide (k.Own.length = c.Secs.length ∧ k.Points.length = c.Secs.length ∧ k.Resets.length = c.Secs.length ∧ k.Routes.length = c.Rts.length ∧ k.Xs.length = c.Xs.length ∧ k.Lines.length = 4)
def Co.parts (c : Cf) (k : Co) : Bool :=
  (k.Own.all fun o => decide (-2 ≤ o ∧ o ≤ c.Rts.length)) && ((k.Routes.zip c.Rts).all Rs.fits && ((k.Points ++ k.Xs).all Mv.fits && (k.Lines.all Ls.fits && k.Resets.all (tm 1))))
def Co.fits (c : Cf) (k : Co) : Bool := decide (c.check = 0) && (k.lens c && k.parts c)
end Go.Fw
end
section
set_option linter.unusedVariables false
set_option linter.unusedSimpArgs false
namespace Go.Proofs.YtaklhjodjbgmgaaGreat
open Go.Fw Go.Proofs Go.RowKit
variable {σ : Store}
theorem clone_ok {t : TypeId} {bytes : Nat} {d : D} {rows : List (List D)} {Q : RV → Store → Prop} (h : At Tryz.prog σ t d rows) (hz : d ≠ .zsl) (hb : bytes * rows.length ≤ 140737488355328)
    (hQ : ∀ d' s, Own Tryz.prog σ s t d' rows → Q (.a (.one d')) s) :
    ∃ b : Bool, (IsNil .sl d b) ∧ bcase (b != false) (Q (.a (.one .nils)) σ) (Fw.newObj σ (.live t []) (fun (id : Nat) => fun (σ' : Store) => appendTo Tryz.prog σ' t bytes (.osl id 0 0) d (fun (d : D) => fun (σ'1 : Store) => Q (.a (.one d)) σ'1))) := by
  have new : ∀ b : Bool, b = false → bcase (b != false) (Q (.a (.one .nils)) σ) (Fw.newObj σ (.live t []) (fun (id : Nat) => fun (σ' : Store) => appendTo Tryz.prog σ' t bytes (.osl id 0 0) d (fun (d : D) => fun (σ'1 : Store) => Q (.a (.one d)) σ'1))) := by
    rintro b rfl
    rw [show (false != false) = false from by decide]
    refine (newObj_intro (K := fun id σ' => appendTo Tryz.prog σ' t bytes (.osl id 0 0) d fun d σ'1 => Q (.a (.one d)) σ'1) ?_ : Fw.newObj σ (.live t []) _)
    refine fun id s hid _ he hs => ?_
    have ho : Own Tryz.prog σ s t (.osl id 0 0) [] := ⟨At.fresh hs (by simp) rfl, he, osl_new hid, fun h => h, by intro e; cases e⟩
    exact ho.append (h.ext he) (by simpa using hb) (by have := h.size; simpa using this) fun d' s' ho' _ _ => hQ _ _ (by simpa using ho')
  have hr := h.rows
  cases d <;> simp only [Go.Fw.Rows] at hr <;> try exact hr.elim
  · subst hr; exact ⟨true, rfl, hQ _ _ (.nil _ (.refl _))⟩
  · exact absurd rfl hz
  · exact ⟨false, rfl, new _ rfl⟩
  · exact ⟨false, rfl, new _ rfl⟩
theorem Clone_int_ok {d : D} {rows : List (List D)} (h : At Tryz.prog σ t_int d rows) (hz : d ≠ .zsl) (hb : 8 * rows.length ≤ 140737488355328) : DCalls Tryz.prog n_slices_Clone_int [.one d] σ fun r s => ∃ d', r = .a (.one d') ∧ Own Tryz.prog σ s t_int d' rows :=
  W_slices_Clone_int d σ _ (clone_ok (Q := fun r s => ∃ d', r = .a (.one d') ∧ Own Tryz.prog σ s _ d' rows) h hz hb fun d' s ho => ⟨d', rfl, ho⟩)
end Go.Proofs.YtaklhjodjbgmgaaGreat
end
section
set_option linter.unusedVariables false
set_option linter.unusedSimpArgs false
namespace Go.Fw
variable {P : Program} {σ : Store}
theorem Fin.set' {s : Store} (h : Fin s) (id : Nat) (so : SO) : Fin (s.set id so) := by
  obtain ⟨N, hN⟩ := h
  refine ⟨max N (id + 1), fun i hi => ?_⟩
  rw [Store.set_ne _ _ (by omega)]; exact hN i (by omega)
def idOf : D → Option Nat
  | .osl id _ _ => some id
  | _ => none
def Apart (a b : D) : Prop := ∀ id, idOf a = some id → idOf b ≠ some id
theorem Apart.symm {a b : D} (h : Apart a b) : Apart b a := fun id h1 h2 => h id h2 h1
theorem Own.at_new {σ0 : Store} {el : TypeId} {id n : Nat} {rs : List (List D)} (hid : σ0 id = .free) (he : Ext σ0 σ) (h : σ id = .live el rs) (hsz : rs.length < 2 ^ 60) (hn : n = rs.length) : Own P σ0 σ el (.osl id 0 n) rs :=
  ⟨At.fresh h hsz hn, he, osl_new hid, fun h => h, by intro e; cases e⟩
theorem Own.apart {σ0 : Store} {el el' : TypeId} {d d' : D} {rs rs' : List (List D)} (h : Own P σ0 σ el d rs) (h' : At P σ0 el' d' rs') : Apart d' d := by
  intro id h1 h2
  cases d' with
  | osl i a n =>
    have e1 : i = id := by simpa [idOf] using h1
    subst e1
    cases d with
    | osl i' a' n' =>
      have e2 : i' = i := by simpa [idOf] using h2
      subst e2
      have := h.new _ _ _ rfl
      obtain ⟨t, rows, g1, _⟩ := h'.rows
      rw [this] at g1; cases g1
    | _ => simp [idOf] at h2
  | _ => simp [idOf] at h1
theorem Own.from {σ0 σ1 : Store} {el : TypeId} {d : D} {rs : List (List D)} (he : Ext σ0 σ1) (h : Own P σ1 σ el d rs) : Own P σ0 σ el d rs :=
  ⟨h.at_, he.trans h.ext, fun id i len e => by
    have h1 := h.new id i len e
    by_cases hf : σ0 id = .free
    · exact hf
    · have := he id hf; rw [h1] at this; exact this.symm, h.nsl, h.nz⟩
end Go.Fw
end
section
set_option linter.unusedVariables false
set_option linter.unusedSimpArgs false
namespace Go.Fw
variable {P : Program} {σ : Store}
theorem cell_store {s : Store} {id : Nat} {t : TypeId} {row xs : List D} {off : Nat} {K : Store → Prop} (hs : s id = .live t [row]) (ho : off + xs.length ≤ row.length)
    (hK : ∀ s', s' id = .live t [patch row off xs] → (∀ i, i ≠ id → s' i = s i) → K s') : storeEl xs s (.osl id 0 1) 0 off K :=
  ⟨id, 0, 1, t, [row], row, rfl, by omega, hs, rfl, ho, hK _ (Store.set_same _ _ _) fun i hi => Store.set_ne _ _ hi⟩
theorem At.store {el : TypeId} {d : D} {rs : List (List D)} {j off : Nat} {n : Nat} {row xs : List D} {K : Store → Prop} (h : At P σ el d rs) (hd : ¬ isSl d) (hr : rs[j]? = some row) (hn : n = j) (ho : off + xs.length ≤ row.length)
    (hK : ∀ s' id, idOf d = some id → At P s' el d (rs.set j (patch row off xs)) → (∀ i, i ≠ id → s' i = σ i) → s' id ≠ .free → K s') : storeEl xs σ d n off K := by
  subst hn
  have hrows := h.rows
  have hj := (List.getElem?_eq_some_iff.1 hr).1
  cases d <;> simp only [Go.Fw.Rows] at hrows <;> try exact hrows.elim
  · subst hrows; simp at hr
  · subst hrows; simp at hr
  · exact absurd trivial hd
  · obtain ⟨t, rows, h1, h2, h3, rfl⟩ := hrows
    rename_i id i0 len
    have hjl : n < len := by simp at hj; omega
    have hrow : rows[i0 + n]? = some row := by
      rw [List.getElem?_take, if_pos hjl, List.getElem?_drop] at hr; exact hr
    refine ⟨id, i0, len, t, rows, row, rfl, hjl, h1, hrow, ho, hK _ id rfl ⟨⟨t, _, Store.set_same _ _ _, h2, by simp; omega, ?_⟩, ?_, fun es rows e => by cases e⟩ (fun i hi => Store.set_ne _ _ hi) (by rw [Store.set_same]; intro e; cases e)⟩
    · rw [List.drop_set, if_neg (by omega), List.take_set]
      congr 1; omega
    · have := h.size; simpa using this
theorem fidx_bound {α : Type} (p : α → Bool) : ∀ (l : List α) (j : Nat), fidx p l j = -1 ∨ ((j : Int) ≤ fidx p l j ∧ fidx p l j < j + l.length)
  | [], j => .inl rfl
  | x :: r, j => by
    rw [fidx]
    split
    · right; simp; omega
    · rcases fidx_bound p r (j + 1) with h | h
      · exact .inl h
      · right; simp only [List.length_cons]; omega
structure Lk where
  Value : Int
  Stamp : Int
  Valid : Bool
def Lk.enc (l : Lk) : List D := [iD l.Value, iD l.Stamp, .bool l.Valid]
end Go.Fw
end
section
namespace Go.Fw
theorem map_set {α β : Type} (f : α → β) (l : List α) (i : Nat) (x : α) : (l.map f).set i (f x) = (l.set i x).map f := by simp
end Go.Fw
end
section
namespace Go.Fw
structure Vw where
  Occ : List Lk
  Pos : List Lk
  Shut : List Lk
  Lamp : List Lk
def Vw.fits (c : Cf) (v : Vw) : Bool := decide (v.Occ.length = c.Secs.length ∧ v.Pos.length = c.Secs.length ∧ v.Shut.length = c.Xs.length ∧ v.Lamp.length = c.Sigs.length)
end Go.Fw
end
section
set_option linter.unusedVariables false
set_option linter.unusedSimpArgs false
namespace Go.Fw
variable {P : Program}
inductive Cs
  | int (k : IntKind)
  | bool
  | str
  | sl (e : TypeId)
def fieldsSh (g : TypeId → Option (List Cs)) : List Field → Option (List Cs)
  | [] => some []
  | f :: fs => match g f.type, fieldsSh g fs with
    | some a, some b => some (a ++ b)
    | _, _ => none
def cellsSh (P : Program) : Nat → TypeId → Option (List Cs)
  | 0, _ => none
  | m + 1, t => match P.underlying t with
    | some .bool => some [.bool]
    | some (.int k) => some [.int k]
    | some .string => some [.str]
    | some (.slice e) => some [.sl e]
    | some (.struct fs) => fieldsSh (cellsSh P m) fs.toList
    | some (.array k e) => (cellsSh P m e).map fun l => (List.replicate k l).flatten
    | _ => none
def CsOk (P : Program) : Cs → D → Prop
  | .int k, d => ∃ m, d = .int k m ∧ (Lit.int k m).wf = true
  | .bool, d => ∃ b, d = .bool b
  | .str, d => ∃ s, d = .str s ∧ s.size ≤ 140737488351232
  | .sl e, d => d = .nils ∨ ∃ rows, d = .sl (P.cellsOf e) rows ∧ rows.length * P.bytesOf e ≤ 140737488351232 ∧ ∀ row ∈ rows, ∃ n, tyD P n e row
def CsL (P : Program) : List Cs → List D → Prop
  | [], ds => ds = []
  | s :: ss, ds => ∃ d r, ds = d :: r ∧ CsOk P s d ∧ CsL P ss r
theorem CsL.append {a b : List Cs} {x y : List D} (h1 : CsL P a x) (h2 : CsL P b y) : CsL P (a ++ b) (x ++ y) := by
  induction a generalizing x with
  | nil => simp only [CsL] at h1; subst h1; exact h2
  | cons s a ih =>
    obtain ⟨d, r, rfl, q1, q2⟩ := h1
    exact ⟨d, r ++ y, rfl, q1, ih q2⟩
theorem fields_sh {g : TypeId → Option (List Cs)} {ty : TypeId → List D → Prop} (ih : ∀ t ds shs, ty t ds → g t = some shs → CsL P shs ds) : ∀ (fs : List Field) (ds : List D) (shs : List Cs), tyF P ty fs ds → fieldsSh g fs = some shs → CsL P shs ds
  | [], ds, shs, h1, h2 => by
    simp only [tyF] at h1; simp only [fieldsSh] at h2
    cases h2; subst h1; rfl
  | f :: fs, ds, shs, h1, h2 => by
    obtain ⟨a, b, rfl, _, q1, q2⟩ := h1
    rw [fieldsSh] at h2
    split at h2
    · rename_i x y e1 e2
      cases h2
      exact (ih _ _ _ q1 e1).append (fields_sh ih fs b y q2 e2)
    · cases h2
theorem rep_sh {ty : TypeId → List D → Prop} {e : TypeId} {l : List Cs} (ih : ∀ ds, ty e ds → CsL P l ds) : ∀ (k : Nat) (ds : List D), tyR P ty e k ds → CsL P (List.replicate k l).flatten ds
  | 0, ds, h => by simp only [tyR] at h; subst h; rfl
  | k + 1, ds, h => by
    obtain ⟨a, b, rfl, _, q1, q2⟩ := h
    rw [List.replicate_succ, List.flatten_cons]
    exact (ih a q1).append (rep_sh ih k b q2)
theorem ty_sh : ∀ (n m : Nat) (t : TypeId) (ds : List D) (shs : List Cs), tyD P n t ds → cellsSh P m t = some shs → CsL P shs ds
  | 0, _, _, _, _, h, _ => h.elim
  | _ + 1, 0, _, _, _, _, h => by cases h
  | n + 1, m + 1, t, ds, shs, h1, h2 => by
    unfold tyD at h1
    unfold cellsSh at h2
    split at h1
    · rename_i hu
      rw [hu] at h2; cases h2
      obtain ⟨b, rfl⟩ := h1
      exact ⟨_, _, rfl, ⟨b, rfl⟩, rfl⟩
    · rename_i k hu
      rw [hu] at h2; cases h2
      obtain ⟨b, rfl, hw⟩ := h1
      exact ⟨_, _, rfl, ⟨b, rfl, hw⟩, rfl⟩
    · rename_i hu
      rw [hu] at h2; cases h2
      obtain ⟨b, rfl, hw⟩ := h1
      exact ⟨_, _, rfl, ⟨b, rfl, hw⟩, rfl⟩
    · rename_i e hu
      rw [hu] at h2; cases h2
      rcases h1 with rfl | ⟨rows, rfl, q1, q2⟩
      · exact ⟨_, _, rfl, .inl rfl, rfl⟩
      · exact ⟨_, _, rfl, .inr ⟨rows, rfl, q1, fun row hr => ⟨n, q2 row hr⟩⟩, rfl⟩
    · rename_i fs hu
      rw [hu] at h2
      exact fields_sh (fun t ds shs a b => ty_sh n m t ds shs a b) fs.toList ds shs h1 h2
    · rename_i k e hu
      rw [hu] at h2
      simp only [Option.map_eq_some_iff] at h2
      obtain ⟨l, e1, rfl⟩ := h2
      exact rep_sh (fun ds a => ty_sh n m e ds l a e1) k ds h1
    · exact h1.elim
def I64 (n : Int) : Prop := -9223372036854775808 ≤ n ∧ n ≤ 9223372036854775807
theorem wf_i64 {n : Int} (h : (Lit.int .i64 n).wf = true) : I64 n := by
  simp only [Lit.wf, IntKind.min, IntKind.max, IntKind.signed, IntKind.bits, Bool.and_eq_true, decide_eq_true_eq, if_true] at h
  unfold I64
  omega
theorem I64.w {n : Int} (h : I64 n) : w64 n = n := w64_id h.1 h.2
theorem sh_rel {α : Type} {e : TypeId} {d : D} {bytes : Nat} (R : List D → α → Prop) (hf : ∀ row n, tyD P n e row → ∃ a, R row a) (hb : P.bytesOf e = bytes) (hb0 : 0 < bytes) (h : CsOk P (.sl e) d) :
    ∃ (rows : List (List D)) (l : List α), (∀ s, At P s e d rows) ∧ rows.length = l.length ∧ (∀ (i : Nat) row a, rows[i]? = some row → l[i]? = some a → R row a) ∧ d ≠ .zsl ∧ bytes * l.length ≤ 140737488351232 := by
  rcases h with rfl | ⟨rows, rfl, q1, q2⟩
  · exact ⟨[], [], fun s => .nil, rfl, fun i row a h => by simp at h, (by intro e; cases e), by simp⟩
  · have key : ∀ rows : List (List D), (∀ row ∈ rows, ∃ n, tyD P n e row) → ∃ l : List α, rows.length = l.length ∧ ∀ (i : Nat) row a, rows[i]? = some row → l[i]? = some a → R row a := by
      intro rows
      induction rows with
      | nil => intro _; exact ⟨[], rfl, fun i row a h => by simp at h⟩
      | cons r rs ih =>
        intro hr
        obtain ⟨l, e1, e2⟩ := ih fun row h => hr row (by simp [h])
        obtain ⟨n, hn⟩ := hr r (by simp)
        obtain ⟨a, ha⟩ := hf r n hn
        refine ⟨a :: l, by simp [e1], fun i row b h1 h2 => ?_⟩
        cases i with
        | zero => simp at h1 h2; subst h1 h2; exact ha
        | succ i => exact e2 i row b (by simpa using h1) (by simpa using h2)
    obtain ⟨l, hl, hR⟩ := key rows q2
    rw [hb, hl] at q1
    have q3 : bytes * l.length ≤ 140737488351232 := by rw [Nat.mul_comm]; exact q1
    have h1 : 1 * l.length ≤ bytes * l.length := Nat.mul_le_mul_right _ hb0
    refine ⟨rows, l, fun s => ⟨⟨rfl, .inr rfl⟩, by omega, fun es rows e => ?_⟩, hl, hR, (by intro e; cases e), q3⟩
    injection e with e1 e2
    exact e1.symm
theorem sh_rows {α : Type} {e : TypeId} {d : D} {bytes : Nat} (f : α → List D) (Q : α → Prop) (hf : ∀ row n, tyD P n e row → ∃ a, row = f a ∧ Q a) (hb : P.bytesOf e = bytes) (hb0 : 0 < bytes) (h : CsOk P (.sl e) d) :
    ∃ l : List α, (∀ s, At P s e d (l.map f)) ∧ (∀ a ∈ l, Q a) ∧ d ≠ .zsl ∧ bytes * l.length ≤ 140737488351232 := by
  rcases h with rfl | ⟨rows, rfl, q1, q2⟩
  · exact ⟨[], fun s => .nil, fun a ha => by simp at ha, (by intro e; cases e), by simp⟩
  · have key : ∀ rows : List (List D), (∀ row ∈ rows, ∃ n, tyD P n e row) → ∃ l : List α, l.map f = rows ∧ ∀ a ∈ l, Q a := by
      intro rows
      induction rows with
      | nil => intro _; exact ⟨[], rfl, fun a ha => by simp at ha⟩
      | cons r rs ih =>
        intro hr
        obtain ⟨l, e1, e2⟩ := ih fun row h => hr row (by simp [h])
        obtain ⟨n, hn⟩ := hr r (by simp)
        obtain ⟨a, rfl, ha⟩ := hf r n hn
        refine ⟨a :: l, by simp [e1], fun b hb => ?_⟩
        simp only [List.mem_cons] at hb
        rcases hb with rfl | hb
        · exact ha
        · exact e2 b hb
    obtain ⟨l, rfl, hl⟩ := key rows q2
    rw [hb, List.length_map] at q1
    have q3 : bytes * l.length ≤ 140737488351232 := by rw [Nat.mul_comm]; exact q1
    have h1 : 1 * l.length ≤ bytes * l.length := Nat.mul_le_mul_right _ hb0
    refine ⟨l, fun s => ⟨⟨rfl, .inr rfl⟩, by rw [List.length_map]; omega, fun es rows e => ?_⟩, hl, (by intro e; cases e), q3⟩
    injection e with e1 e2
    exact e1.symm
theorem tya_one {t : TypeId} {x : A} (h : TyA P t x) (hg : isAggT P t = some false) : ∃ d n, x = .one d ∧ tyD P n t [d] := by
  cases x with
  | one d => exact ⟨d, 30, rfl, h.2⟩
  | agg cs => have := h.1; rw [hg] at this; cases this
theorem tya_agg {t : TypeId} {x : A} (h : TyA P t x) (hg : isAggT P t = some true) : ∃ cs n, x = .agg cs ∧ tyD P n t cs := by
  cases x with
  | one d => have := h.1; rw [hg] at this; cases this
  | agg cs => exact ⟨cs, 30, rfl, h.2⟩
theorem tys_cons {t : TypeId} {ts : List TypeId} {as0 : List A} (h : TyAs P (t :: ts) as0) : ∃ a r, as0 = a :: r ∧ TyA P t a ∧ TyAs P ts r := h
theorem tys_nil {as0 : List A} (h : TyAs P [] as0) : as0 = [] := h
def csZero : Cs → Value
  | .int k => .int k 0
  | .bool => .bool false
  | .str => .string .empty
  | .sl _ => .slice none 0 0
def zeroArg (P : Program) (t : TypeId) : Value := match isAggT P t, cellsSh P 9 t with
  | some true, some l => .agg (l.map csZero).toArray
  | _, some [c] => csZero c
  | _, _ => .int .i64 0
end Go.Fw
namespace Go.Fw
theorem law_fn3 {H : Type} {s : List (DataW H) → Left H} {ds : List (DataW H)} (h : ds.length = 3) (hs : ∀ a b c, s [a, b, c] = { results := [.lit (.bool true)], args := [a, b, c] } := by intros; rfl) : s ds = { results := [.lit (.bool true)], args := ds } := by
  match ds, h with
  | [a, b, c], _ => exact hs a b c
end Go.Fw
namespace Go.Fw
def EqR {α : Type} (la lb : List α) (n : Int) : Prop := ∃ j : Nat, n = j ∧ j ≤ la.length ∧ la.take j = lb.take j
theorem EqR.start {α : Type} (la lb : List α) : EqR la lb 0 := ⟨0, rfl, by omega, by simp⟩
theorem EqR.step {α : Type} {la lb : List α} {n : Int} {m : Nat} (h : EqR la lb n) (hl : la.length = lb.length) (hm : m = la.length) (hs : la.length < 2 ^ 60) (hlt : n < (m : Int)) :
    ∃ (j : Nat) (x y : α), n = j ∧ la[j]? = some x ∧ lb[j]? = some y ∧ (x ≠ y → la ≠ lb) ∧ (x = y → EqR la lb (w64 (n + 1)) ∧ la.length - (w64 (n + 1)).toNat < la.length - n.toNat) := by
  obtain ⟨j, rfl, hj, hF⟩ := h
  have hj' : j < la.length := by omega
  obtain ⟨x, hx⟩ := get_of_lt hj'
  obtain ⟨y, hy⟩ := get_of_lt (l := lb) (j := j) (by omega)
  refine ⟨j, x, y, rfl, hx, hy, fun hne e => ?_, fun e => ?_⟩
  · subst e; rw [hx] at hy; cases hy; exact hne rfl
  · rw [w64_succ (by omega)]
    refine ⟨⟨j + 1, rfl, by omega, ?_⟩, by omega⟩
    rw [List.take_add_one, List.take_add_one, hF, hx, hy, e]
theorem EqR.done {α : Type} {la lb : List α} {n : Int} {m : Nat} (h : EqR la lb n) (hl : la.length = lb.length) (hm : m = la.length) (hge : ¬ n < (m : Int)) : la = lb := by
  obtain ⟨j, rfl, hj, hF⟩ := h
  have : j = la.length := by omega
  rw [List.take_of_length_le (by omega), List.take_of_length_le (by omega)] at hF
  exact hF
end Go.Fw
namespace Go.Fw
theorem tya_cell {P : Program} {t : TypeId} {x : A} {c : Cs} (h : TyA P t x) (hg : isAggT P t = some false) (hs : cellsSh P 5 t = some [c]) : ∃ d, x = .one d ∧ CsOk P c d := by
  obtain ⟨d, n, rfl, h1⟩ := tya_one h hg
  obtain ⟨d', r, e, h2, h3⟩ := ty_sh n 5 t _ _ h1 hs
  have : d = d' := by injection e
  exact ⟨d, rfl, this ▸ h2⟩
theorem tya_int {P : Program} {t : TypeId} {x : A} (h : TyA P t x) (hg : isAggT P t = some false) (hs : cellsSh P 5 t = some [.int .i64]) : ∃ m, x = iA m ∧ I64 m := by
  obtain ⟨d, rfl, m, rfl, hm⟩ := tya_cell h hg hs
  exact ⟨m, rfl, wf_i64 hm⟩
end Go.Fw
end
section
set_option linter.unusedVariables false
set_option linter.unusedSimpArgs false
namespace Go.Proofs.YtaklhjodjbgmgaaGreat
open Go.Fw Go.Proofs Go.RowKit
theorem ty_i {row : List D} {n : Nat} (h : tyD Tryz.prog n t_int row) : ∃ m, row = Go.Fw.encI m ∧ I64 m := by
  obtain ⟨_, _, rfl, ⟨m, rfl, hm⟩, rfl⟩ := ty_sh n 2 _ _ [.int .i64] h (by kernel_rfl)
  exact ⟨m, rfl, wf_i64 hm⟩
theorem ty_i2 {t : TypeId} {row : List D} {n : Nat} (h : tyD Tryz.prog n t row) (hs : cellsSh Tryz.prog 5 t = some [.int .i64, .int .i64]) : ∃ a b, row = [iD a, iD b] ∧ I64 a ∧ I64 b := by
  obtain ⟨_, _, rfl, ⟨a, rfl, ha⟩, _, _, rfl, ⟨b, rfl, hb⟩, rfl⟩ := ty_sh n 5 _ _ _ h hs
  exact ⟨a, b, rfl, wf_i64 ha, wf_i64 hb⟩
theorem ty_i3 {t : TypeId} {row : List D} {n : Nat} (h : tyD Tryz.prog n t row) (hs : cellsSh Tryz.prog 5 t = some [.int .i64, .int .i64, .int .i64]) : ∃ a b c, row = [iD a, iD b, iD c] ∧ I64 a ∧ I64 b ∧ I64 c := by
  obtain ⟨_, _, rfl, ⟨a, rfl, ha⟩, _, _, rfl, ⟨b, rfl, hb⟩, _, _, rfl, ⟨c, rfl, hc⟩, rfl⟩ := ty_sh n 5 _ _ _ h hs
  exact ⟨a, b, c, rfl, wf_i64 ha, wf_i64 hb, wf_i64 hc⟩
theorem ty_i4 {t : TypeId} {row : List D} {n : Nat} (h : tyD Tryz.prog n t row) (hs : cellsSh Tryz.prog 5 t = some [.int .i64, .int .i64, .int .i64, .int .i64]) : ∃ a b c d, row = [iD a, iD b, iD c, iD d] ∧ I64 a ∧ I64 b ∧ I64 c ∧ I64 d := by
  obtain ⟨_, _, rfl, ⟨a, rfl, ha⟩, _, _, rfl, ⟨b, rfl, hb⟩, _, _, rfl, ⟨c, rfl, hc⟩, _, _, rfl, ⟨d, rfl, hd⟩, rfl⟩ := ty_sh n 5 _ _ _ h hs
  exact ⟨a, b, c, d, rfl, wf_i64 ha, wf_i64 hb, wf_i64 hc, wf_i64 hd⟩
theorem ty_Section {row : List D} {n : Nat} (h : tyD Tryz.prog n t_Section row) : ∃ s : Sec, row = s.enc ∧ I64 s.Kind ∧ I64 s.OC ∧ I64 s.Line := by
  obtain ⟨a, b, c, rfl, q⟩ := ty_i3 h (by kernel_rfl)
  exact ⟨⟨a, b, c⟩, rfl, q⟩
theorem ty_Joint {row : List D} {n : Nat} (h : tyD Tryz.prog n t_Joint row) : ∃ s : Jt, row = s.enc ∧ I64 s.A ∧ I64 s.AEnd ∧ I64 s.B ∧ I64 s.BEnd := by
  obtain ⟨a, b, c, d, rfl, q⟩ := ty_i4 h (by kernel_rfl)
  exact ⟨⟨a, b, c, d⟩, rfl, q⟩
theorem ty_Signal {row : List D} {n : Nat} (h : tyD Tryz.prog n t_Signal row) : ∃ s : Sg, row = s.enc ∧ I64 s.Sec ∧ I64 s.End_ := by
  obtain ⟨a, b, rfl, q⟩ := ty_i2 h (by kernel_rfl)
  exact ⟨⟨a, b⟩, rfl, q⟩
theorem ty_Step {row : List D} {n : Nat} (h : tyD Tryz.prog n t_Step row) : ∃ s : St, row = s.enc ∧ I64 s.Sec ∧ I64 s.In ∧ I64 s.Out := by
  obtain ⟨a, b, c, rfl, q⟩ := ty_i3 h (by kernel_rfl)
  exact ⟨⟨a, b, c⟩, rfl, q⟩
theorem ty_Need {row : List D} {n : Nat} (h : tyD Tryz.prog n t_Need row) : ∃ s : Nd, row = s.enc ∧ I64 s.Sec ∧ I64 s.Pos := by
  obtain ⟨a, b, rfl, q⟩ := ty_i2 h (by kernel_rfl)
  exact ⟨⟨a, b⟩, rfl, q⟩
structure RtI (r : Rt) : Prop where
  entry : I64 r.Entry
  exit : I64 r.Exit
  path : ∀ s ∈ r.Path, I64 s.Sec ∧ I64 s.In ∧ I64 s.Out
  flank : ∀ s ∈ r.Flank, I64 s.Sec ∧ I64 s.Pos
  over : ∀ o ∈ r.Overlap, I64 o
  np : 24 * r.Path.length ≤ 140737488351232
  nf : 16 * r.Flank.length ≤ 140737488351232
  no : 8 * r.Overlap.length ≤ 140737488351232
theorem ty_Route {row : List D} {n : Nat} (h : tyD Tryz.prog n t_Route row) : ∃ r : Rt, (∀ s, RtAt Tryz.prog t_Step t_Need t_int s row r) ∧ RtI r := by
  obtain ⟨_, _, rfl, ⟨a, rfl, ha⟩, _, _, rfl, ⟨b, rfl, hb⟩, d1, _, rfl, h1, d2, _, rfl, h2, d3, _, rfl, h3, _, _, rfl, ⟨sh, rfl⟩, rfl⟩ := ty_sh n 5 _ _ [.int .i64, .int .i64, .sl t_Step, .sl t_Need, .sl t_int, .bool] h (by kernel_rfl)
  obtain ⟨l1, a1, b1, _, e1⟩ := sh_rows (bytes := 24) St.enc _ (fun row n h => ty_Step h) (by kernel_rfl) (by omega) h1
  obtain ⟨l2, a2, b2, _, e2⟩ := sh_rows (bytes := 16) Nd.enc _ (fun row n h => ty_Need h) (by kernel_rfl) (by omega) h2
  obtain ⟨l3, a3, b3, _, e3⟩ := sh_rows (bytes := 8) Go.Fw.encI _ (fun row n h => ty_i h) (by kernel_rfl) (by omega) h3
  exact ⟨⟨a, b, l1, l2, l3, sh⟩, fun s => ⟨d1, d2, d3, rfl, a1 s, a2 s, a3 s⟩, wf_i64 ha, wf_i64 hb, b1, b2, b3, e1, e2, e3⟩
structure CfI (c : Cf) : Prop where
  secs : ∀ s ∈ c.Secs, I64 s.Kind ∧ I64 s.OC ∧ I64 s.Line
  jts : ∀ s ∈ c.Jts, I64 s.A ∧ I64 s.AEnd ∧ I64 s.B ∧ I64 s.BEnd
  sigs : ∀ s ∈ c.Sigs, I64 s.Sec ∧ I64 s.End_
  xs : ∀ s ∈ c.Xs, I64 s
  rts : ∀ r ∈ c.Rts, RtI r
  age : I64 c.Age
  brake : I64 c.Brake
  hold : I64 c.Hold
  budget : I64 c.Budget
  nsecs : 24 * c.Secs.length ≤ 140737488351232
  njts : 32 * c.Jts.length ≤ 140737488351232
  nsigs : 16 * c.Sigs.length ≤ 140737488351232
  nxs : 8 * c.Xs.length ≤ 140737488351232
  nrts : 96 * c.Rts.length ≤ 140737488351232
structure LsI (l : Ls) : Prop where
  ask : I64 l.Ask
  done : I64 l.Done
  grant : I64 l.Grant
  told : I64 l.Told
  pask : I64 l.PAsk
  pdone : I64 l.PDone
  pgrant : I64 l.PGrant
  since : I64 l.Since
structure CoI (k : Co) : Prop where
  own : ∀ o ∈ k.Own, I64 o
  routes : ∀ s ∈ k.Routes, I64 s.State ∧ I64 s.Since ∧ I64 s.Next ∧ I64 s.Mark
  points : ∀ s ∈ k.Points, I64 s.Cmd ∧ I64 s.Other
  xs : ∀ s ∈ k.Xs, I64 s.Cmd ∧ I64 s.Other
  lines : ∀ s ∈ k.Lines, LsI s
  resets : ∀ o ∈ k.Resets, I64 o
structure VwI (v : Vw) : Prop where
  occ : ∀ l ∈ v.Occ, I64 l.Value ∧ I64 l.Stamp
  pos : ∀ l ∈ v.Pos, I64 l.Value ∧ I64 l.Stamp
  shut : ∀ l ∈ v.Shut, I64 l.Value ∧ I64 l.Stamp
  lamp : ∀ l ∈ v.Lamp, I64 l.Value ∧ I64 l.Stamp
end Go.Proofs.YtaklhjodjbgmgaaGreat
end
section
set_option linter.unusedVariables false
set_option linter.unusedSimpArgs false
namespace Go.Fw
variable {P : Program} {σ σ' : Store}
theorem Own.stay {σ0 : Store} {el : TypeId} {e d : D} {qs : List (List D)} (g : Own P σ0 σ el e qs) (hs : ∀ i, σ i ≠ .free → idOf d ≠ some i → σ' i = σ i) (ha : Apart e d) (he : Ext σ0 σ') : Own P σ0 σ' el e qs :=
  ⟨g.at_.same fun i a n h => hs i (by
    have := g.at_.rows; subst h
    obtain ⟨t, rows, h1, _⟩ := this
    rw [h1]; intro e; cases e) (ha i (by subst h; rfl)), he, g.new, g.nsl, g.nz⟩
theorem Apart.nil (d : D) : Apart .nils d := fun i h => by cases h
end Go.Fw
namespace Go.Fw
variable {P : Program} {σ σ' : Store}
theorem at_lit {s : Store} {el : TypeId} {es : Nat} {rows : List (List D)} (hes : P.cellsOf el = es) (hsz : rows.length < 2 ^ 60) : At P s el (.sl es rows) rows :=
  ⟨⟨rfl, .inr hes.symm⟩, hsz, fun es rows e => by injection e with e1 e2; rw [← e1, hes]⟩
theorem own_id' {σ0 s : Store} {el : TypeId} {d : D} {rs : List (List D)} {i : Nat} (h : Own P σ0 s el d rs) (hi : idOf d = some i) : σ0 i = .free := by
  cases d with
  | osl id a n =>
    have : id = i := by simpa [idOf] using hi
    subst this
    exact h.new _ _ _ rfl
  | _ => simp [idOf] at hi
end Go.Fw
namespace Go.Fw
variable {P : Program} {σ σ' : Store}
theorem Own.put {σ0 : Store} {el : TypeId} {d : D} {rs : List (List D)} {j off n : Nat} {row xs : List D} {K : Store → Prop} (h : Own P σ0 σ el d rs) (hr : rs[j]? = some row) (hn : n = j) (ho : off + xs.length ≤ row.length)
    (hK : ∀ s', Own P σ0 s' el d (rs.set j (patch row off xs)) → (∀ i, idOf d ≠ some i → s' i = σ i) → K s') : storeEl xs σ d n off K :=
  h.at_.store h.nsl hr hn ho fun s' id hid hat hs hne => hK s' ⟨hat, fun i hi => by
    have hne' : i ≠ id := fun e => hi (by rw [e]; exact own_id' h hid)
    rw [hs i hne']; exact h.ext i hi, h.new, h.nsl, h.nz⟩ fun i hi => hs i fun e => hi (by rw [e]; exact hid)
end Go.Fw
namespace Go.Fw
variable {P : Program} {σ σ' : Store}
theorem Own.copy {σ0 : Store} {el : TypeId} {d x : D} {rd rs : List (List D)} {K : Int → Store → Prop} (h : Own P σ0 σ el d rd) (hx : At P σ el x rs)
    (hK : ∀ s', Own P σ0 s' el d (rs.take (min rs.length rd.length) ++ rd.drop (min rs.length rd.length)) → (∀ i, idOf d ≠ some i → s' i = σ i) → K (min (rs.length : Int) (rd.length : Int)) s') : copyTo P σ el d x K := by
  refine ⟨rd, rs, h.at_.rows, hx.rows, ?_⟩
  by_cases hm : min rs.length rd.length = 0
  · refine .inl ⟨hm, ?_⟩
    have := hK σ (by rw [hm]; simpa using h) (fun _ _ => rfl)
    rw [show min (rs.length : Int) (rd.length : Int) = 0 by omega] at this; exact this
  · refine .inr ?_
    have hrow := h.at_.rows
    have hnew := h.new
    have hsz := h.at_.size
    cases d with
    | osl id i0 len =>
      obtain ⟨t, rows, h1, h2, h3, rfl⟩ := hrow
      have hml : min rs.length ((rows.drop i0).take len).length ≤ len := by simp; omega
      have hmr : min rs.length ((rows.drop i0).take len).length ≤ rs.length := Nat.min_le_left _ _
      have hmx : min rs.length ((rows.drop i0).take len).length ≤ ((rows.drop i0).take len).length := Nat.min_le_right _ _
      generalize min rs.length ((rows.drop i0).take len).length = m at *
      have hl : (rows.take i0 ++ rs.take m ++ rows.drop (i0 + m)).length = rows.length := by simp; omega
      refine ⟨id, i0, len, t, rows, rfl, h1, ?_⟩
      refine hK (σ.set id (.live t (rows.take i0 ++ rs.take m ++ rows.drop (i0 + m)))) ⟨⟨⟨t, _, Store.set_same _ _ _, h2, by rw [hl]; exact h3, ?_⟩, by rw [List.length_append, List.length_take, List.length_drop]; omega, fun es rows e => by cases e⟩, fun i hi => ?_, h.new, h.nsl, h.nz⟩ fun i hi => Store.set_ne _ _ fun e => hi (by rw [e]; rfl)
      · have hA : (rs.take m).length = m := by rw [List.length_take]; omega
        generalize rs.take m = A at *
        rw [List.append_assoc, List.drop_left' (by rw [List.length_take]; omega), List.take_append, List.take_of_length_le (show A.length ≤ len by omega), hA, List.drop_take, List.drop_drop]
      · rw [Store.set_ne _ _ (fun e => hi (by rw [e]; exact h.new _ _ _ rfl))]; exact h.ext i hi
    | nils => have : rd = [] := hrow; subst this; simp at hm
    | zsl => exact absurd rfl h.nz
    | sl es rows => exact absurd trivial h.nsl
    | _ => exact hrow.elim
end Go.Fw
namespace Go.Fw
variable {P : Program} {σ σ' : Store}
theorem Own.sub {σ0 : Store} {el : TypeId} {d : D} {rs : List (List D)} {lo hi : Nat} (h : Own P σ0 σ el d rs) (h1 : lo ≤ hi) (h2 : hi ≤ rs.length) : Own P σ0 σ el (dsub d lo hi) ((rs.drop lo).take (hi - lo)) := by
  have hr := h.at_.rows
  have hn := h.new
  have hl := h.nsl
  have hz := h.nz
  refine ⟨h.at_.sub h1 h2, h.ext, ?_, ?_, ?_⟩ <;> cases d <;> simp only [dsub, Rows] at * <;> first | (intro id i n e; cases e; exact hn _ _ _ rfl) | (intro id i n e; cases e; done) | exact hl | (intro e; cases e; done) | exact hr.elim | exact hz
end Go.Fw
end
section
set_option linter.unusedVariables false
set_option linter.unusedSimpArgs false
namespace Go.Fw
theorem dec_lt {j n : Nat} (h : j < n) : n - ((j + 1 : Nat) : Int).toNat < n - ((j : Nat) : Int).toNat := by omega
def inL (l : List Int) (n : Int) : Bool := decide (n ∈ l)
theorem sgrun_iff (js : List Jt) : ∀ (l seen : List Sg), sgrun js l seen = true ↔ (∀ x ∈ l, (nxt js x.Sec x.End_).isSome = true) ∧ l.Nodup ∧ ∀ x ∈ l, x ∉ seen
  | [], seen => by simp [sgrun]
  | x :: r, seen => by
    rw [sgrun]
    by_cases h : (nxt js x.Sec x.End_).isSome = true ∧ x ∉ seen
    · rw [if_pos h, sgrun_iff js r (x :: seen)]
      constructor
      · rintro ⟨h1, h2, h3⟩
        refine ⟨fun y hy => ?_, ?_, fun y hy => ?_⟩
        · rcases List.mem_cons.1 hy with rfl | hy
          · exact h.1
          · exact h1 y hy
        · exact List.nodup_cons.2 ⟨fun hx => h3 x hx (by simp), h2⟩
        · rcases List.mem_cons.1 hy with rfl | hy
          · exact h.2
          · exact fun hs => h3 y hy (by simp [hs])
      · rintro ⟨h1, h2, h3⟩
        obtain ⟨h4, h5⟩ := List.nodup_cons.1 h2
        refine ⟨fun y hy => h1 y (by simp [hy]), h5, fun y hy hs => ?_⟩
        rcases List.mem_cons.1 hs with rfl | hs
        · exact h4 hy
        · exact h3 y (by simp [hy]) hs
    · rw [if_neg h]
      refine ⟨fun e => by simp at e, fun ⟨h1, h2, h3⟩ => absurd ⟨h1 x (by simp), h3 x (by simp)⟩ h⟩
theorem nxt_mem {js : List Jt} {s e : Int} {p : Int × Int} (h : nxt js s e = some p) : ∃ j ∈ js, (j.B = p.1 ∧ j.BEnd = p.2) ∨ (j.A = p.1 ∧ j.AEnd = p.2) := by
  induction js with
  | nil => cases h
  | cons j r ih =>
    rw [nxt] at h
    split at h
    · cases h; exact ⟨j, by simp, .inl ⟨rfl, rfl⟩⟩
    split at h
    · cases h; exact ⟨j, by simp, .inr ⟨rfl, rfl⟩⟩
    · obtain ⟨k, h1, h2⟩ := ih h
      exact ⟨k, by simp [h1], h2⟩
theorem nxt_sec {c : Cf} (ht : topoOk c.Secs c.Jts = true) {s e q f : Int} (h : nxt c.Jts s e = some (q, f)) : ∃ y, geti c.Secs q = some y := by
  obtain ⟨j, hj, h1⟩ := nxt_mem h
  obtain ⟨_, _, h3⟩ := (topoOk_iff _ _).1 ht
  obtain ⟨a, b, _⟩ := h3 j hj
  have : 0 ≤ q ∧ q < c.Secs.length := by rcases h1 with ⟨e1, _⟩ | ⟨e1, _⟩ <;> simp only at e1 <;> omega
  obtain ⟨y, hy⟩ := get_of_lt (l := c.Secs) (j := q.toNat) (by omega)
  exact ⟨y, by unfold geti; rw [if_neg (by omega), hy]⟩
theorem geti_ex {α : Type} {l : List α} {i : Int} (h0 : ¬ i < 0) (h1 : ¬ i ≥ (l.length : Int)) : ∃ x, geti l i = some x := by
  obtain ⟨x, hx⟩ := get_of_lt (l := l) (j := i.toNat) (by omega)
  exact ⟨x, by unfold geti; rw [if_neg h0]; exact hx⟩
end Go.Fw
namespace Go.Fw
end Go.Fw
end
section
set_option linter.unusedVariables false
set_option linter.unusedSimpArgs false
namespace Go.Fw
section
variable {occ : List Lk} {now : Int} {was may : Bool} {x : Ls} {o : Int} {s : Nat} {lk : Lk}
end
structure SameBut (k k' : Co) (l s : Nat) : Prop where
  routes : k'.Routes = k.Routes
  lines : ∀ m, m ≠ l → k'.Lines[m]? = k.Lines[m]?
  own : ∀ t, t ≠ s → k'.Own[t]? = k.Own[t]?
end Go.Fw
end
section
set_option linter.unusedVariables false
set_option linter.unusedSimpArgs false
namespace Go.Fw
def apprS (c : Cf) (l : List Int) : List Rs → Nat → Bool
  | [], _ => false
  | r :: rs, j => (decide (r.State ≠ 0) && inL l (c.Approach j)) || apprS c l rs (j + 1)
end Go.Fw
end
section
set_option linter.unusedVariables false
set_option linter.unusedSimpArgs false
namespace Go.Fw
structure StOk (c : Cf) (r : Rt) (s : St) : Prop where
  sec : ∃ y, geti c.Secs s.Sec = some y ∧ (wpos (wayL y.Kind) s.In s.Out).isSome = true ∧ (r.Shunt = true → y.Line = 0)
structure RtOk (c : Cf) (r : Rt) : Prop where
  entry : ∃ a, geti c.Sigs r.Entry = some a
  exit_ : r.Exit = -1 ∨ ∃ x, geti c.Sigs r.Exit = some x
  len : 1 ≤ r.Path.length ∧ r.Path.length ≤ 8
  step : ∀ s ∈ r.Path, StOk c r s ∧ s.Sec ≠ c.approach r
  dup : (r.Path.map St.Sec).Nodup
  flank : r.Flank = c.flank (c.approach r) r.Path
  over : r.Overlap = c.overlap r
theorem check_parts {c : Cf} (h : c.check = 0) : topoOk c.Secs c.Jts = true ∧ c.sigsOk = true ∧ c.xsOk = true ∧ c.Rts.length ≤ 12 ∧ c.routes c.Rts = 0 ∧ c.timing = true := by
  unfold Cf.check at h
  split at h
  · cases h
  split at h
  · cases h
  split at h
  · cases h
  split at h
  · cases h
  split at h
  · rename_i hne; exact absurd h hne
  split at h
  · rename_i h1 h2 h3 h4 h5 h6
    exact ⟨by simpa using h1, by simpa using h2, by simpa using h3, by omega, by simpa using h5, h6⟩
  · cases h
structure NdOk (c : Cf) (a : Int) (path : List St) (n : Nd) : Prop where
  sec : ∃ y, geti c.Secs n.Sec = some y ∧ y.Kind = 1
  pos : 1 ≤ n.Pos ∧ n.Pos ≤ 2
  app : n.Sec ≠ a
  path : hasSec path n.Sec = false
def FlOk (c : Cf) (a : Int) (path : List St) (out : List Nd) : Prop := (∀ n ∈ out, NdOk c a path n) ∧ (out.map Nd.Sec).Nodup
theorem flankStep_ok {c : Cf} {a : Int} {p : List St} {s : St} {out : List Nd} {e : Int} (h : FlOk c a p out) : FlOk c a p (flankStep c a p s out e) := by
  unfold flankStep
  split
  · exact h
  · split
    · exact h
    · split
      · exact h
      · rename_i y hy
        split
        · rename_i hc
          obtain ⟨c1, c2, c3, c4, c5⟩ := hc
          refine ⟨fun n hn => ?_, ?_⟩
          · rcases List.mem_append.1 hn with hn | hn
            · exact h.1 n hn
            · rw [List.mem_singleton] at hn; subst hn
              exact ⟨⟨y, hy, c1⟩, by simp only; omega, c3, c4⟩
          · rw [List.map_append, List.nodup_append]
            refine ⟨h.2, by simp, fun x hx z hz => ?_⟩
            simp only [List.map_cons, List.map_nil, List.mem_singleton] at hz
            subst hz
            intro e
            obtain ⟨n, hn, e2⟩ := List.mem_map.1 hx
            rw [List.any_eq_false] at c5
            exact c5 n hn (by rw [e2, e]; simp)
        · exact h
theorem flankEnds_ok {c : Cf} {a : Int} {p : List St} {s : St} : ∀ (n : Nat) (e : Int) (out : List Nd), FlOk c a p out → FlOk c a p (flankEnds c a p s n e out)
  | 0, _, _, h => h
  | n + 1, e, out, h => by rw [flankEnds]; exact flankEnds_ok n _ _ (flankStep_ok h)
theorem flankRun_ok {c : Cf} {a : Int} {p : List St} : ∀ (l : List St) (out : List Nd), FlOk c a p out → FlOk c a p (flankRun c a p l out)
  | [], _, h => h
  | s :: r, out, h => by
    rw [flankRun]
    refine flankRun_ok r _ ?_
    split
    · exact h
    · exact flankEnds_ok _ _ _ h
theorem flank_ok (c : Cf) (a : Int) (p : List St) : FlOk c a p (c.flank a p) := flankRun_ok p [] ⟨fun n h => by simp at h, by simp⟩
theorem RtOk.fl {c : Cf} {r : Rt} (h : RtOk c r) : FlOk c (c.approach r) r.Path r.Flank := by rw [h.flank]; exact flank_ok _ _ _
theorem geti_nat {α : Type} {l : List α} {j : Nat} : geti l (j : Int) = l[j]? := by unfold geti; rw [if_neg (by omega), Int.toNat_natCast]
end Go.Fw
namespace Go.Fw
theorem nxt_at {js : List Jt} {s e : Int} (h : (nxt js s e).isSome = true) : ∃ j ∈ js, j.A = s ∨ j.B = s := by
  induction js with
  | nil => cases h
  | cons j r ih =>
    rw [nxt] at h
    split at h
    · rename_i h1; exact ⟨j, by simp, .inl h1.1⟩
    split at h
    · rename_i h1; exact ⟨j, by simp, .inr h1.1⟩
    · obtain ⟨j', h1, h2⟩ := ih h
      exact ⟨j', by simp [h1], h2⟩
theorem sig_sec {c : Cf} (h : c.check = 0) {x : Sg} (hx : x ∈ c.Sigs) : ∃ y, geti c.Secs x.Sec = some y := by
  obtain ⟨ht, hs, _⟩ := check_parts h
  rw [Cf.sigsOk, Bool.and_eq_true, sgrun_iff] at hs
  obtain ⟨j, hj, hA⟩ := nxt_at (hs.1.1 x hx)
  obtain ⟨a, b, _⟩ := ((topoOk_iff _ _).1 ht).2.2 j hj
  exact geti_ex (by omega) (by omega)
end Go.Fw
end
section
set_option linter.unusedVariables false
set_option linter.unusedSimpArgs false
namespace Go.Fw
def zRt : Rt := ⟨0, 0, [], [], [], false⟩
def Cf.rt (c : Cf) (i : Int) : Rt := (geti c.Rts i).getD zRt
end Go.Fw
end
