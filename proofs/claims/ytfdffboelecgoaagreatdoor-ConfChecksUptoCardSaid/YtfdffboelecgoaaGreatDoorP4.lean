/-
  Proofs that the statement of this claim leans on: part 4.
-/
import Derived.Test.YtfdffboelecgoaaGreatDoorP3
set_option linter.unusedVariables false
set_option linter.unusedSimpArgs false
section
set_option maxRecDepth 100000
namespace Go.Proofs.YtfdffboelecgoaaGreatDoor
open Go.Fw Go.Proofs
def an_conf_Check : Ann := { esc := [], cbs := [1], draws := [], loops := [(11, { mods := [(33, SlotSh.one (Sh.int IntKind.i64))], keep := [1, 3, 31, 32] })], joins := [] }
def V_conf_Check (c0 : D) (c1 : D) (c2 : D) (c3 : D) (c4 : D) (c5 : Int) (c6 : Int) (c7 : Int) (c8 : Int) (σ : Store) (Qp : RV → Store → Prop) : Prop :=
 DCalls Tryz.prog n_topo_Check [.one c0, .one c1] σ (fun r Z => ∃ n : Int, (r = (.a (.one (.int .i64 n)) : RV)) ∧ bcase (n != 0) (Qp (.a (.one (.int .i64 6))) Z) (DCalls Tryz.prog n_conf_plan_signals [.agg [c0, c1, c2, c3, c4, .int .i64 c5, .int .i64 c6, .int .i64 c7, .int .i64 c8]] Z (fun r1 Z1 => ∃ b : Bool, (r1 = (.a (.one (.bool b)) : RV)) ∧ bcase (!b) (Qp (.a (.one (.int .i64 7))) Z1) (DCalls Tryz.prog n_conf_plan_crossings [.agg [c0, c1, c2, c3, c4, .int .i64 c5, .int .i64 c6, .int .i64 c7, .int .i64 c8]] Z1 (fun r2 Z2 => ∃ b1 : Bool, (r2 = (.a (.one (.bool b1)) : RV)) ∧ bcase (!b1) (Qp (.a (.one (.int .i64 8))) Z2) (∃ len : Nat, (Len c4 len) ∧ bcase (decide ((len : Int) > 12)) (Qp (.a (.one (.int .i64 9))) Z2) (∃ len1 : Nat, (Len c4 len1) ∧ ∃ I : Int → Store → Prop, ∃ μ : Int → Store → Nat, (I 0 Z2) ∧ ∀ n1 : Int, ∀ Z3, (I n1 Z3) → bcase (decide (n1 < (len1 : Int))) (∃ len2 : Nat, (Idx Tryz.prog Z3 c4 6 len2) ∧ ((0 : Int) ≤ n1) ∧ (n1 < (len2 : Int)) ∧ ∃ row : List D, (Row Z3 c4 (Int.toNat n1) row) ∧ ∃ n2 n3 : Int, ∃ d d1 d2 : D, ∃ b2 : Bool, ((List.take 6 row) = ([.int .i64 n2, .int .i64 n3, d, d1, d2, .bool b2] : List D)) ∧ DCalls Tryz.prog n_conf_plan_route [.agg [c0, c1, c2, c3, c4, .int .i64 c5, .int .i64 c6, .int .i64 c7, .int .i64 c8], .agg [.int .i64 n2, .int .i64 n3, d, d1, d2, .bool b2]] Z3 (fun r3 Z4 => ∃ n4 : Int, (r3 = (.a (.one (.int .i64 n4)) : RV)) ∧ bcase (n4 != 0) (Qp (.a (.one (.int .i64 n4))) Z4) ((([[c0, c1, c2, c3, c4, .int .i64 c5, .int .i64 c6, .int .i64 c7, .int .i64 c8]] : List (List D)) = ([[c0, c1, c2, c3, c4, .int .i64 c5, .int .i64 c6, .int .i64 c7, .int .i64 c8]] : List (List D))) ∧ (I (w64 (n1 + 1)) Z4) ∧ ((μ (w64 (n1 + 1)) Z4) < (μ n1 Z3))))) (DCalls Tryz.prog n_conf_between [.one (.int .i64 c5), .one (.int .i64 1), .one (.int .i64 8)] Z3 (fun r3 Z4 => ∃ b2 : Bool, (r3 = (.a (.one (.bool b2)) : RV)) ∧ bcase (!b2) (Qp (.a (.one (.int .i64 12))) Z4) (DCalls Tryz.prog n_conf_between [.one (.int .i64 c6), .one (.int .i64 0), .one (.int .i64 8)] Z4 (fun r4 Z5 => ∃ b3 : Bool, (r4 = (.a (.one (.bool b3)) : RV)) ∧ bcase (!b3) (Qp (.a (.one (.int .i64 12))) Z5) (DCalls Tryz.prog n_conf_between [.one (.int .i64 c7), .one (.int .i64 (w64 ((w64 (c5 + c6)) + 1))), .one (.int .i64 40)] Z5 (fun r5 Z6 => ∃ b4 : Bool, (r5 = (.a (.one (.bool b4)) : RV)) ∧ bcase (!b4) (Qp (.a (.one (.int .i64 12))) Z6) (DCalls Tryz.prog n_conf_between [.one (.int .i64 c8), .one (.int .i64 1), .one (.int .i64 1000000)] Z6 (fun r6 Z7 => ∃ b5 : Bool, (r6 = (.a (.one (.bool b5)) : RV)) ∧ bcase (!b5) (Qp (.a (.one (.int .i64 12))) Z7) (Qp (.a (.one (.int .i64 0))) Z7))))))))))))))))
theorem W_conf_Check (c0 : D) (c1 : D) (c2 : D) (c3 : D) (c4 : D) (c5 : Int) (c6 : Int) (c7 : Int) (c8 : Int) (σ : Store) (Qp : RV → Store → Prop) (h : V_conf_Check c0 c1 c2 c3 c4 c5 c6 c7 c8 σ Qp) : DCalls Tryz.prog n_conf_Check [.agg [c0, c1, c2, c3, c4, .int .i64 c5, .int .i64 c6, .int .i64 c7, .int .i64 c8]] σ Qp :=
 dcalls_of_body mixed (by kernel_rfl) Tryz.func12 an_conf_Check (Eq.mp (by kernel_rfl) h)
def an_conf_Approach : Ann := { esc := [], cbs := [2], draws := [(3, { ord := [0, 1, 2, 3, 4, 5, 6, 7, 8], nb := [], av := [], dir := [] })], loops := [], joins := [] }
def V_conf_Approach (c0 : D) (c1 : D) (c2 : D) (c3 : D) (c4 : D) (c5 : Int) (c6 : Int) (c7 : Int) (c8 : Int) (r : Int) (σ : Store) (Qp : RV → Store → Prop) : Prop :=
 bcase (decide (r < 0)) (Qp (.a (.one (.int .i64 (-1)))) σ) (∃ len : Nat, (Len c4 len) ∧ bcase (decide (r ≥ (len : Int))) (Qp (.a (.one (.int .i64 (-1)))) σ) (∃ len1 : Nat, (Idx Tryz.prog σ c4 6 len1) ∧ ((0 : Int) ≤ r) ∧ (r < (len1 : Int)) ∧ ∃ row : List D, (Row σ c4 (Int.toNat r) row) ∧ ∃ n n1 : Int, ∃ d d1 d2 : D, ∃ b : Bool, ((List.take 6 row) = ([.int .i64 n, .int .i64 n1, d, d1, d2, .bool b] : List D)) ∧ DCalls Tryz.prog n_conf_plan_approach [.agg [c0, c1, c2, c3, c4, .int .i64 c5, .int .i64 c6, .int .i64 c7, .int .i64 c8], .agg [.int .i64 n, .int .i64 n1, d, d1, d2, .bool b]] σ (fun r1 Z => ∃ n2 : Int, (r1 = (.a (.one (.int .i64 n2)) : RV)) ∧ Qp (.a (.one (.int .i64 n2))) Z)))
theorem W_conf_Approach (c0 : D) (c1 : D) (c2 : D) (c3 : D) (c4 : D) (c5 : Int) (c6 : Int) (c7 : Int) (c8 : Int) (r : Int) (σ : Store) (Qp : RV → Store → Prop) (h : V_conf_Approach c0 c1 c2 c3 c4 c5 c6 c7 c8 r σ Qp) : DCalls Tryz.prog n_conf_Approach [.agg [c0, c1, c2, c3, c4, .int .i64 c5, .int .i64 c6, .int .i64 c7, .int .i64 c8], .one (.int .i64 r)] σ Qp :=
 dcalls_of_body mixed (by kernel_rfl) Tryz.func21 an_conf_Approach (Eq.mp (by kernel_rfl) h)
def an_topo_Pos : Ann := { esc := [], cbs := [], draws := [], loops := [(2, { mods := [(15, SlotSh.one (Sh.int IntKind.i64))], keep := [1, 2, 13, 14] })], joins := [] }
def V_topo_Pos (kind : Int) (in_ : Int) (out_ : Int) (σ : Store) (Qp : RV → Store → Prop) : Prop :=
 DCalls Tryz.prog n_topo_ways [.one (.int .i64 kind)] σ (fun r Z => ∃ d : D, (r = (.a (.one d) : RV)) ∧ ∃ len : Nat, (Len d len) ∧ ∃ I : Int → Store → Prop, ∃ μ : Int → Store → Nat, (I 0 Z) ∧ ∀ n : Int, ∀ Z1, (I n Z1) → bcase (decide (n < (len : Int))) (∃ len1 : Nat, (Idx Tryz.prog Z1 d 3 len1) ∧ ((0 : Int) ≤ n) ∧ (n < (len1 : Int)) ∧ ∃ row : List D, (Row Z1 d (Int.toNat n) row) ∧ ∃ n1 n2 n3 : Int, ((List.take 3 row) = ([.int .i64 n1, .int .i64 n2, .int .i64 n3] : List D)) ∧ DCalls Tryz.prog n_topo_way_other [.agg [.int .i64 n1, .int .i64 n2, .int .i64 n3], .one (.int .i64 in_)] Z1 (fun r1 Z2 => ∃ n4 : Int, ∃ b : Bool, (r1 = (.tup [.one (.int .i64 n4), .one (.bool b)] : RV)) ∧ bcase b (bcase (n4 == out_) (Qp (.tup [.one (.int .i64 n3), .one (.bool true)]) Z2) ((I (w64 (n + 1)) Z2) ∧ ((μ (w64 (n + 1)) Z2) < (μ n Z1)))) ((I (w64 (n + 1)) Z2) ∧ ((μ (w64 (n + 1)) Z2) < (μ n Z1))))) (Qp (.tup [.one (.int .i64 0), .one (.bool false)]) Z1))
theorem W_topo_Pos (kind : Int) (in_ : Int) (out_ : Int) (σ : Store) (Qp : RV → Store → Prop) (h : V_topo_Pos kind in_ out_ σ Qp) : DCalls Tryz.prog n_topo_Pos [.one (.int .i64 kind), .one (.int .i64 in_), .one (.int .i64 out_)] σ Qp :=
 dcalls_of_body mixed (by kernel_rfl) Tryz.func33 an_topo_Pos (Eq.mp (by kernel_rfl) h)
def an_topo_Check : Ann := { esc := [], cbs := [], draws := [(10, { ord := [0, 1, 2, 3, 4, 5, 6, 7, 8, 9, 10, 11, 12, 13, 14, 15, 16, 17, 18, 19, 20, 21, 22, 23, 24, 25, 26], nb := [9], av := [], dir := [] }), (12, { ord := [0, 1, 2, 3, 4, 5, 6], nb := [], av := [], dir := [] })], loops := [(5, { mods := [(25, SlotSh.one (Sh.int IntKind.i64))], keep := [0, 5, 23, 24] }), (8, { mods := [(41, SlotSh.one (Sh.int IntKind.i64))], keep := [0, 5, 7, 23, 24, 25, 39, 40] }), (19, { mods := [(88, SlotSh.one (Sh.int IntKind.i64))], keep := [5, 10, 86, 87] })], joins := [(3, { mods := [], keep := [0, 1] }), (23, { mods := [], keep := [5, 10, 11, 12, 86, 87, 88] })] }
def V_topo_Check (sections : D) (joints : D) (σ : Store) (Qp : RV → Store → Prop) : Prop :=
 ∀ R : Store → Prop, (∀ Z, (Fw.newObj Z (.mp 0 []) (fun id Z1 => ∃ len : Nat, (Len joints len) ∧ ∃ I : Int → Store → Prop, ∃ μ : Int → Store → Nat, (I 0 Z1) ∧ ∀ n : Int, ∀ Z2, (I n Z2) → bcase (decide (n < (len : Int))) (∃ len1 : Nat, (Idx Tryz.prog Z2 joints 4 len1) ∧ ((0 : Int) ≤ n) ∧ (n < (len1 : Int)) ∧ ∃ row : List D, (Row Z2 joints (Int.toNat n) row) ∧ ∃ n1 n2 n3 n4 : Int, ((List.take 4 row) = ([.int .i64 n1, .int .i64 n2, .int .i64 n3, .int .i64 n4] : List D)) ∧ Fw.newObj Z2 (.live t_topo_spot [[.int .i64 n1, .int .i64 n2], [.int .i64 n3, .int .i64 n4]]) (fun id1 Z3 => ∃ len2 : Nat, (Len (.osl id1 0 2) len2) ∧ ∃ I1 : Int → Store → Prop, ∃ μ1 : Int → Store → Nat, (I1 0 Z3) ∧ ∀ n5 : Int, ∀ Z4, (I1 n5 Z4) → bcase (decide (n5 < (len2 : Int))) (∃ len3 : Nat, (Idx Tryz.prog Z4 (.osl id1 0 2) 2 len3) ∧ ((0 : Int) ≤ n5) ∧ (n5 < (len3 : Int)) ∧ ∃ row1 : List D, (Row Z4 (.osl id1 0 2) (Int.toNat n5) row1) ∧ ∃ n6 n7 : Int, ((List.take 2 row1) = ([.int .i64 n6, .int .i64 n7] : List D)) ∧ ∃ len4 : Nat, (Len sections len4) ∧ DCalls Tryz.prog n_topo_between [.one (.int .i64 n6), .one (.int .i64 0), .one (.int .i64 (w64 ((len4 : Int) - 1)))] Z4 (fun r Z5 => ∃ b : Bool, (r = (.a (.one (.bool b)) : RV)) ∧ bcase (!b) (Qp (.a (.one (.int .i64 6))) Z5) (∃ len5 : Nat, (Idx Tryz.prog Z5 sections 3 len5) ∧ ((0 : Int) ≤ n6) ∧ (n6 < (len5 : Int)) ∧ ∃ row2 : List D, (Row Z5 sections (Int.toNat n6) row2) ∧ ∃ n8 : Int, ((List.take 1 row2) = ([.int .i64 n8] : List D)) ∧ DCalls Tryz.prog n_topo_Ends [.one (.int .i64 n8)] Z5 (fun r1 Z6 => ∃ n9 : Int, (r1 = (.a (.one (.int .i64 n9)) : RV)) ∧ DCalls Tryz.prog n_topo_between [.one (.int .i64 n7), .one (.int .i64 0), .one (.int .i64 (w64 (n9 - 1)))] Z6 (fun r2 Z7 => ∃ b1 : Bool, (r2 = (.a (.one (.bool b1)) : RV)) ∧ bcase (!b1) (Qp (.a (.one (.int .i64 6))) Z7) (∃ r3 : Option A, (MLook Tryz.prog t_topo_spot Z7 (.omap id) (.agg [.int .i64 n6, .int .i64 n7]) r3) ∧ ∃ n10 : Int, ((Option.getD r3 (.one (.int .i64 0))) = (.one (.int .i64 n10) : A)) ∧ bcase (decide (n10 > 0)) (Qp (.a (.one (.int .i64 6))) Z7) (∃ r4 : Option A, (MLook Tryz.prog t_topo_spot Z7 (.omap id) (.agg [.int .i64 n6, .int .i64 n7]) r4) ∧ ∃ n11 : Int, ((Option.getD r4 (.one (.int .i64 0))) = (.one (.int .i64 n11) : A)) ∧ MEntry Tryz.prog t_topo_spot Z7 (.omap id) (.agg [.int .i64 n6, .int .i64 n7]) (.one (.int .i64 0)) (fun (v : A) => fun n12 Z8 => MStamp Z8 (.omap id) n12 (.one (.int .i64 (w64 (n11 + 1)))) (fun Z9 => (([[.int .i64 n1, .int .i64 n2, .int .i64 n3, .int .i64 n4]] : List (List D)) = ([[.int .i64 n1, .int .i64 n2, .int .i64 n3, .int .i64 n4]] : List (List D))) ∧ (I1 (w64 (n5 + 1)) Z9) ∧ ((μ1 (w64 (n5 + 1)) Z9) < (μ1 n5 Z4))))))))))) (bcase (n1 == n3) (Qp (.a (.one (.int .i64 6))) Z4) ((I (w64 (n + 1)) Z4) ∧ ((μ (w64 (n + 1)) Z4) < (μ n Z2)))))) (Fw.newObj Z2 (.mp 0 []) (fun id1 Z3 => ∃ len1 : Nat, (Len sections len1) ∧ ∃ I1 : Int → Store → Prop, ∃ μ1 : Int → Store → Nat, (I1 0 Z3) ∧ ∀ n1 : Int, ∀ Z4, (I1 n1 Z4) → bcase (decide (n1 < (len1 : Int))) (∃ len2 : Nat, (Idx Tryz.prog Z4 sections 3 len2) ∧ ((0 : Int) ≤ n1) ∧ (n1 < (len2 : Int)) ∧ ∃ row : List D, (Row Z4 sections (Int.toNat n1) row) ∧ ∃ n2 n3 n4 : Int, ((List.take 3 row) = ([.int .i64 n2, .int .i64 n3, .int .i64 n4] : List D)) ∧ ∀ R1 : Store → Prop, (∀ Z5, (bcase (n4 != 0) (bcase (n2 != 0) (Qp (.a (.one (.int .i64 6))) Z5) (∃ r : Option A, (MLook Tryz.prog t_topo_spot Z5 (.omap id) (.agg [.int .i64 n1, .int .i64 1]) r) ∧ ∃ n5 : Int, ((Option.getD r (.one (.int .i64 0))) = (.one (.int .i64 n5) : A)) ∧ bcase (decide (n5 > 0)) (Qp (.a (.one (.int .i64 6))) Z5) (∃ r1 : Option A, (MLook Tryz.prog t_int Z5 (.omap id1) (.one (.int .i64 n4)) r1) ∧ ∃ n6 : Int, ((Option.getD r1 (.one (.int .i64 0))) = (.one (.int .i64 n6) : A)) ∧ bcase (decide (n6 > 0)) (Qp (.a (.one (.int .i64 6))) Z5) (∃ r2 : Option A, (MLook Tryz.prog t_int Z5 (.omap id1) (.one (.int .i64 n4)) r2) ∧ ∃ n7 : Int, ((Option.getD r2 (.one (.int .i64 0))) = (.one (.int .i64 n7) : A)) ∧ MPut Tryz.prog t_int Z5 (.omap id1) (.one (.int .i64 n4)) (.one (.int .i64 (w64 (n7 + 1)))) (fun Z6 => (I1 (w64 (n1 + 1)) Z6) ∧ ((μ1 (w64 (n1 + 1)) Z6) < (μ1 n1 Z4))))))) (∃ r : Option A, (MLook Tryz.prog t_int Z5 (.omap id1) (.one (.int .i64 n4)) r) ∧ ∃ n5 : Int, ((Option.getD r (.one (.int .i64 0))) = (.one (.int .i64 n5) : A)) ∧ MPut Tryz.prog t_int Z5 (.omap id1) (.one (.int .i64 n4)) (.one (.int .i64 (w64 (n5 + 1)))) (fun Z6 => (I1 (w64 (n1 + 1)) Z6) ∧ ((μ1 (w64 (n1 + 1)) Z6) < (μ1 n1 Z4))))) → R1 Z5) → DCalls Tryz.prog n_topo_Ends [.one (.int .i64 n2)] Z4 (fun r Z5 => ∃ n5 : Int, (r = (.a (.one (.int .i64 n5)) : RV)) ∧ bcase (n5 == 0) (Qp (.a (.one (.int .i64 6))) Z5) (DCalls Tryz.prog n_topo_between [.one (.int .i64 n3), .one (.int .i64 0), .one (.int .i64 3)] Z5 (fun r1 Z6 => ∃ b : Bool, (r1 = (.a (.one (.bool b)) : RV)) ∧ bcase (!b) (Qp (.a (.one (.int .i64 6))) Z6) (DCalls Tryz.prog n_topo_between [.one (.int .i64 n4), .one (.int .i64 0), .one (.int .i64 3)] Z6 (fun r2 Z7 => ∃ b1 : Bool, (r2 = (.a (.one (.bool b1)) : RV)) ∧ bcase (!b1) (Qp (.a (.one (.int .i64 6))) Z7) ((([[.int .i64 n2, .int .i64 n3, .int .i64 n4]] : List (List D)) = ([[.int .i64 n2, .int .i64 n3, .int .i64 n4]] : List (List D))) ∧ R1 Z7))))))) (Qp (.a (.one (.int .i64 0))) Z4))))) → R Z) → ∃ len : Nat, (Len sections len) ∧ DCalls Tryz.prog n_topo_between [.one (.int .i64 (len : Int)), .one (.int .i64 1), .one (.int .i64 16)] σ (fun r Z => ∃ b : Bool, (r = (.a (.one (.bool b)) : RV)) ∧ bcase (!b) (Qp (.a (.one (.int .i64 6))) Z) (∃ len1 : Nat, (Len joints len1) ∧ bcase (decide ((len1 : Int) > 24)) (Qp (.a (.one (.int .i64 6))) Z) (R Z)))
theorem W_topo_Check (sections : D) (joints : D) (σ : Store) (Qp : RV → Store → Prop) (h : V_topo_Check sections joints σ Qp) : DCalls Tryz.prog n_topo_Check [.one sections, .one joints] σ Qp :=
 dcalls_of_body mixed (by kernel_rfl) Tryz.func37 an_topo_Check (Eq.mp (by kernel_rfl) h)
def an_conf_between : Ann := { esc := [], cbs := [], draws := [], loops := [], joins := [] }
def V_conf_between (n : Int) (lo : Int) (hi : Int) (σ : Store) (Qp : RV → Store → Prop) : Prop :=
 bcase (decide (lo ≤ n)) (Qp (.a (.one (.bool (decide (n ≤ hi))))) σ) (Qp (.a (.one (.bool false))) σ)
theorem W_conf_between (n : Int) (lo : Int) (hi : Int) (σ : Store) (Qp : RV → Store → Prop) (h : V_conf_between n lo hi σ Qp) : DCalls Tryz.prog n_conf_between [.one (.int .i64 n), .one (.int .i64 lo), .one (.int .i64 hi)] σ Qp :=
 dcalls_of_body mixed (by kernel_rfl) Tryz.func41 an_conf_between (Eq.mp (by kernel_rfl) h)
def an_ref06_path : Ann := { esc := [], cbs := [2, 3], draws := [(4, { ord := [0, 1, 2, 3, 4, 5], nb := [], av := [], dir := [] }), (12, { ord := [0, 1, 3, 4, 5, 6, 2, 7, 8, 9, 10, 11, 12], nb := [4, 6], av := [], dir := [] }), (19, { ord := [0, 1, 2, 3, 4, 5], nb := [], av := [], dir := [] })], loops := [(7, { mods := [(6, SlotSh.one (Sh.int IntKind.i64)), (7, SlotSh.one (Sh.int IntKind.i64)), (8, SlotSh.one (Sh.any)), (72, SlotSh.one (Sh.int IntKind.i64))], keep := [2, 3, 70, 71] })], joins := [(3, { mods := [], keep := [2, 3] }), (20, { mods := [(6, SlotSh.one (Sh.int IntKind.i64)), (7, SlotSh.one (Sh.int IntKind.i64)), (8, SlotSh.one (Sh.any))], keep := [2, 3, 70, 71, 72] }), (12, { mods := [], keep := [2, 3, 8, 9, 10, 11, 70, 71, 72] }), (16, { mods := [(16, SlotSh.one (Sh.int IntKind.i64))], keep := [2, 3, 8, 10, 11, 15, 70, 71, 72] }), (18, { mods := [], keep := [2, 3, 8, 10, 11, 70, 71, 72] })] }
def V_ref06_path (c0 : D) (c1 : D) (c2 : D) (c3 : D) (c4 : D) (c5 : Int) (c6 : Int) (c7 : Int) (c8 : Int) (r0 : Int) (r1 : Int) (r2 : D) (r3 : D) (r4 : D) (r5 : Bool) (σ : Store) (Qp : RV → Store → Prop) : Prop :=
 ∀ R : Store → Prop, (∀ Z, (∃ len : Nat, (Idx Tryz.prog Z c2 2 len) ∧ ((0 : Int) ≤ r0) ∧ (r0 < (len : Int)) ∧ ∃ row : List D, (Row Z c2 (Int.toNat r0) row) ∧ ∃ n n1 : Int, ((List.take 2 row) = ([.int .i64 n, .int .i64 n1] : List D)) ∧ Fw.newObj Z (.live t_int [[.int .i64 n]]) (fun id Z1 => ∃ len1 : Nat, (Len r2 len1) ∧ ∃ I : Int → Int → D → Int → Store → Prop, ∃ μ : Int → Int → D → Int → Store → Nat, (I n n1 (.osl id 0 1) 0 Z1) ∧ ∀ n2 n3 : Int, ∀ d : D, ∀ n4 : Int, ∀ Z2, (I n2 n3 d n4 Z2) → bcase (decide (n4 < (len1 : Int))) (∀ R1 : Int → Int → D → Store → Prop, (∀ n5 n6 : Int, ∀ d1 : D, ∀ Z3, ((I n5 n6 d1 (w64 (n4 + 1)) Z3) ∧ ((μ n5 n6 d1 (w64 (n4 + 1)) Z3) < (μ n2 n3 d n4 Z2))) → R1 n5 n6 d1 Z3) → ∃ len2 : Nat, (Idx Tryz.prog Z2 r2 3 len2) ∧ ((0 : Int) ≤ n4) ∧ (n4 < (len2 : Int)) ∧ ∃ row1 : List D, (Row Z2 r2 (Int.toNat n4) row1) ∧ ∃ n5 n6 n7 : Int, ((List.take 3 row1) = ([.int .i64 n5, .int .i64 n6, .int .i64 n7] : List D)) ∧ DCalls Tryz.prog n_ref05_Next [.one c1, .one (.int .i64 n2), .one (.int .i64 n3)] Z2 (fun r Z3 => ∃ n8 n9 : Int, ∃ b : Bool, (r = (.tup [.one (.int .i64 n8), .one (.int .i64 n9), .one (.bool b)] : RV)) ∧ ∀ R2 : Store → Prop, (∀ Z4, (DCalls Tryz.prog n_ref06_kind [.agg [c0, c1, c2, c3, c4, .int .i64 c5, .int .i64 c6, .int .i64 c7, .int .i64 c8], .one (.int .i64 n8)] Z4 (fun r6 Z5 => ∃ n10 : Int, (r6 = (.a (.one (.int .i64 n10)) : RV)) ∧ DCalls Tryz.prog n_ref05_Pos [.one (.int .i64 n10), .one (.int .i64 n6), .one (.int .i64 n7)] Z5 (fun r7 Z6 => ∃ n11 : Int, ∃ b1 : Bool, (r7 = (.tup [.one (.int .i64 n11), .one (.bool b1)] : RV)) ∧ ∀ R3 : Int → Store → Prop, (∀ n12 : Int, ∀ Z7, (∀ R4 : Store → Prop, (∀ Z8, (Fw.newObj Z8 (.live t_int [[.int .i64 n8]]) (fun id1 Z9 => appendTo Tryz.prog Z9 t_int 8 d (.osl id1 0 1) (fun d1 Z10 => R1 n5 n7 d1 Z10))) → R4 Z8) → bcase (!b1) (Qp (.a (.one (.bool false))) Z7) (DCalls Tryz.prog n_ref06_at [.agg [c0, c1, c2, c3, c4, .int .i64 c5, .int .i64 c6, .int .i64 c7, .int .i64 c8], .one (.int .i64 n5), .one (.int .i64 n7), .one (.int .i64 n12)] Z7 (fun r8 Z8 => ∃ b2 : Bool, (r8 = (.a (.one (.bool b2)) : RV)) ∧ bcase b2 (Qp (.a (.one (.bool false))) Z8) (bcase r5 (∃ len3 : Nat, (Idx Tryz.prog Z8 c0 3 len3) ∧ ((0 : Int) ≤ n8) ∧ (n8 < (len3 : Int)) ∧ ∃ row2 : List D, (Row Z8 c0 (Int.toNat n8) row2) ∧ ∃ n13 : Int, ((List.take 1 (List.drop 2 row2)) = ([.int .i64 n13] : List D)) ∧ bcase (n13 != 0) (Qp (.a (.one (.bool false))) Z8) ((([[.int .i64 n5, .int .i64 n6, .int .i64 n7]] : List (List D)) = ([[.int .i64 n5, .int .i64 n6, .int .i64 n7]] : List (List D))) ∧ R4 Z8)) ((([[.int .i64 n5, .int .i64 n6, .int .i64 n7]] : List (List D)) = ([[.int .i64 n5, .int .i64 n6, .int .i64 n7]] : List (List D))) ∧ R4 Z8))))) → R3 n12 Z7) → ∃ len3 : Nat, (Len r2 len3) ∧ bcase (n4 == (w64 ((len3 : Int) - 1))) ((([[.int .i64 n5, .int .i64 n6, .int .i64 n7]] : List (List D)) = ([[.int .i64 n5, .int .i64 n6, .int .i64 n7]] : List (List D))) ∧ R3 r1 Z6) ((([[.int .i64 n5, .int .i64 n6, .int .i64 n7]] : List (List D)) = ([[.int .i64 n5, .int .i64 n6, .int .i64 n7]] : List (List D))) ∧ R3 (-1) Z6)))) → R2 Z4) → bcase (!b) (Qp (.a (.one (.bool false))) Z3) (bcase (n8 != n5) (Qp (.a (.one (.bool false))) Z3) (bcase (n9 != n6) (Qp (.a (.one (.bool false))) Z3) (DCalls Tryz.prog n_ref06_in [.one d, .one (.int .i64 n8)] Z3 (fun r6 Z4 => ∃ b1 : Bool, (r6 = (.a (.one (.bool b1)) : RV)) ∧ bcase b1 (Qp (.a (.one (.bool false))) Z4) ((([[.int .i64 n5, .int .i64 n6, .int .i64 n7]] : List (List D)) = ([[.int .i64 n5, .int .i64 n6, .int .i64 n7]] : List (List D))) ∧ R2 Z4))))))) (bcase (decide (r1 ≥ 0)) (∃ len2 : Nat, (Idx Tryz.prog Z2 c2 2 len2) ∧ ((0 : Int) ≤ r1) ∧ (r1 < (len2 : Int)) ∧ ∃ row1 : List D, (Row Z2 c2 (Int.toNat r1) row1) ∧ ∃ n5 n6 : Int, ((List.take 2 row1) = ([.int .i64 n5, .int .i64 n6] : List D)) ∧ Qp (.a (.one (.bool ((n5 == n2) && (n6 == n3))))) Z2) (DCalls Tryz.prog n_ref05_Next [.one c1, .one (.int .i64 n2), .one (.int .i64 n3)] Z2 (fun r Z3 => ∃ n5 n6 : Int, ∃ b : Bool, (r = (.tup [.one (.int .i64 n5), .one (.int .i64 n6), .one (.bool b)] : RV)) ∧ Qp (.a (.one (.bool (!b)))) Z3))))) → R Z) → bcase (decide (r0 < 0)) (Qp (.a (.one (.bool false))) σ) (∃ len : Nat, (Len c2 len) ∧ bcase (decide (r0 ≥ (len : Int))) (Qp (.a (.one (.bool false))) σ) (bcase (decide (r1 < (-1))) (Qp (.a (.one (.bool false))) σ) (∃ len1 : Nat, (Len c2 len1) ∧ bcase (decide (r1 ≥ (len1 : Int))) (Qp (.a (.one (.bool false))) σ) (∃ len2 : Nat, (Len r2 len2) ∧ bcase (decide ((len2 : Int) < 1)) (Qp (.a (.one (.bool false))) σ) (∃ len3 : Nat, (Len r2 len3) ∧ bcase (decide ((len3 : Int) > 8)) (Qp (.a (.one (.bool false))) σ) (R σ))))))
theorem W_ref06_path (c0 : D) (c1 : D) (c2 : D) (c3 : D) (c4 : D) (c5 : Int) (c6 : Int) (c7 : Int) (c8 : Int) (r0 : Int) (r1 : Int) (r2 : D) (r3 : D) (r4 : D) (r5 : Bool) (σ : Store) (Qp : RV → Store → Prop) (h : V_ref06_path c0 c1 c2 c3 c4 c5 c6 c7 c8 r0 r1 r2 r3 r4 r5 σ Qp) : DCalls Tryz.prog n_ref06_path [.agg [c0, c1, c2, c3, c4, .int .i64 c5, .int .i64 c6, .int .i64 c7, .int .i64 c8], .agg [.int .i64 r0, .int .i64 r1, r2, r3, r4, .bool r5]] σ Qp :=
 dcalls_of_body mixed (by kernel_rfl) Tryz.func45 an_ref06_path (Eq.mp (by kernel_rfl) h)
def an_conf_words_line : Ann := { esc := [], cbs := [], draws := [], loops := [], joins := [(4, { mods := [], keep := [] }), (7, { mods := [], keep := [] }), (10, { mods := [], keep := [] }), (13, { mods := [], keep := [] }), (16, { mods := [], keep := [] })], splits := [(3, (DT.split 4 6 (DT.leaf { ord := [0, 1, 2, 3, 4, 5, 7, 9, 6, 8, 10, 11, 12, 13, 14, 15, 16], nb := [], av := [], dir := [] }) (DT.split 4 8 (DT.leaf { ord := [0, 1, 2, 3, 5, 7, 9, 6, 4, 8, 10, 11, 12, 13, 14, 15, 16], nb := [], av := [], dir := [] }) (DT.split 4 10 (DT.leaf { ord := [0, 1, 2, 3, 5, 7, 9, 6, 8, 4, 10, 11, 12, 13, 14, 15, 16], nb := [], av := [], dir := [] }) (DT.leaf { ord := [0, 1, 2, 3, 5, 7, 9, 6, 8, 10, 4, 11, 12, 13, 14, 15, 16], nb := [], av := [], dir := [] }))))), (6, (DT.split 4 6 (DT.leaf { ord := [0, 1, 2, 3, 4, 5, 7, 9, 11, 6, 8, 10, 12, 13, 14, 15, 16, 17, 18], nb := [], av := [], dir := [] }) (DT.split 4 8 (DT.leaf { ord := [0, 1, 2, 3, 5, 7, 9, 11, 6, 4, 8, 10, 12, 13, 14, 15, 16, 17, 18], nb := [], av := [], dir := [] }) (DT.split 4 10 (DT.leaf { ord := [0, 1, 2, 3, 5, 7, 9, 11, 6, 8, 4, 10, 12, 13, 14, 15, 16, 17, 18], nb := [], av := [], dir := [] }) (DT.split 4 12 (DT.leaf { ord := [0, 1, 2, 3, 5, 7, 9, 11, 6, 8, 10, 4, 12, 13, 14, 15, 16, 17, 18], nb := [], av := [], dir := [] }) (DT.leaf { ord := [0, 1, 2, 3, 5, 7, 9, 11, 6, 8, 10, 12, 4, 13, 14, 15, 16, 17, 18], nb := [], av := [], dir := [] })))))), (9, (DT.split 4 6 (DT.leaf { ord := [0, 1, 2, 3, 4, 5, 7, 6, 8, 9, 10, 11, 12, 13, 14], nb := [], av := [], dir := [] }) (DT.split 4 8 (DT.leaf { ord := [0, 1, 2, 3, 5, 7, 6, 4, 8, 9, 10, 11, 12, 13, 14], nb := [], av := [], dir := [] }) (DT.leaf { ord := [0, 1, 2, 3, 5, 7, 6, 8, 4, 9, 10, 11, 12, 13, 14], nb := [], av := [], dir := [] })))), (12, (DT.split 4 6 (DT.leaf { ord := [0, 1, 2, 3, 4, 5, 6, 7, 8, 9, 10, 11], nb := [], av := [], dir := [] }) (DT.leaf { ord := [0, 1, 2, 3, 5, 6, 4, 7, 8, 9, 10, 11], nb := [], av := [], dir := [] }))), (15, (DT.split 4 6 (DT.leaf { ord := [0, 1, 2, 3, 4, 5, 6, 7, 8, 9, 10, 11], nb := [], av := [], dir := [] }) (DT.leaf { ord := [0, 1, 2, 3, 5, 6, 4, 7, 8, 9, 10, 11], nb := [], av := [], dir := [] })))] }
def V_conf_words_line (w : D) (c : D) (σ : Store) (Qp : RV → Store → Prop) : Prop :=
 DCalls Tryz.prog n_conf_words_next [.one w] σ (fun r Z => ∃ s : ByteArray, (r = (.a (.one (.str s)) : RV)) ∧ bcase ((ByteArray.toList s) == (ByteArray.toList (ByteArray.mk (List.toArray [115, 101, 99, 116, 105, 111, 110])))) (∀ R : Store → Prop, (∀ Z1, (Qp (.a (.one (.int .i64 1))) Z1) → R Z1) → ((NotNil c) ∧ ∃ s1 : D, ∃ i off : Nat, (c = (.el s1 i off : D)) ∧ ∃ row : List D, (Row Z s1 i row) ∧ ∃ d : D, ((List.take 1 (List.drop (off + 0) row)) = ([d] : List D)) ∧ DCalls Tryz.prog n_conf_words_num [.one w] Z (fun r1 Z1 => ∃ n : Int, (r1 = (.a (.one (.int .i64 n)) : RV)) ∧ DCalls Tryz.prog n_conf_words_num [.one w] Z1 (fun r2 Z2 => ∃ n1 : Int, (r2 = (.a (.one (.int .i64 n1)) : RV)) ∧ DCalls Tryz.prog n_conf_words_num [.one w] Z2 (fun r3 Z3 => ∃ n2 : Int, (r3 = (.a (.one (.int .i64 n2)) : RV)) ∧ Fw.newObj Z3 (.live t_Section [[.int .i64 n, .int .i64 n1, .int .i64 n2]]) (fun id Z4 => appendTo Tryz.prog Z4 t_Section 24 d (.osl id 0 1) (fun d1 Z5 => (NotNil c) ∧ ∃ s2 : D, ∃ i1 off1 : Nat, (c = (.el s2 i1 off1 : D)) ∧ storeEl [d1] Z5 s2 i1 (off1 + 0) (fun Z6 => R Z6))))))) ∧ ((NotNil c) ∧ ∃ s1 : D, ∃ i off : Nat, (c = (.el s1 i off : D)) ∧ DCalls Tryz.prog n_conf_words_num [.one w] Z (fun r1 Z1 => ∃ n : Int, (r1 = (.a (.one (.int .i64 n)) : RV)) ∧ ∃ row : List D, (Row Z1 s1 i row) ∧ ∃ d : D, ((List.take 1 (List.drop (off + 0) row)) = ([d] : List D)) ∧ DCalls Tryz.prog n_conf_words_num [.one w] Z1 (fun r2 Z2 => ∃ n1 : Int, (r2 = (.a (.one (.int .i64 n1)) : RV)) ∧ DCalls Tryz.prog n_conf_words_num [.one w] Z2 (fun r3 Z3 => ∃ n2 : Int, (r3 = (.a (.one (.int .i64 n2)) : RV)) ∧ Fw.newObj Z3 (.live t_Section [[.int .i64 n, .int .i64 n1, .int .i64 n2]]) (fun id Z4 => appendTo Tryz.prog Z4 t_Section 24 d (.osl id 0 1) (fun d1 Z5 => (NotNil c) ∧ ∃ s2 : D, ∃ i1 off1 : Nat, (c = (.el s2 i1 off1 : D)) ∧ storeEl [d1] Z5 s2 i1 (off1 + 0) (fun Z6 => R Z6))))))) ∧ ((NotNil c) ∧ ∃ s1 : D, ∃ i off : Nat, (c = (.el s1 i off : D)) ∧ DCalls Tryz.prog n_conf_words_num [.one w] Z (fun r1 Z1 => ∃ n : Int, (r1 = (.a (.one (.int .i64 n)) : RV)) ∧ DCalls Tryz.prog n_conf_words_num [.one w] Z1 (fun r2 Z2 => ∃ n1 : Int, (r2 = (.a (.one (.int .i64 n1)) : RV)) ∧ ∃ row : List D, (Row Z2 s1 i row) ∧ ∃ d : D, ((List.take 1 (List.drop (off + 0) row)) = ([d] : List D)) ∧ DCalls Tryz.prog n_conf_words_num [.one w] Z2 (fun r3 Z3 => ∃ n2 : Int, (r3 = (.a (.one (.int .i64 n2)) : RV)) ∧ Fw.newObj Z3 (.live t_Section [[.int .i64 n, .int .i64 n1, .int .i64 n2]]) (fun id Z4 => appendTo Tryz.prog Z4 t_Section 24 d (.osl id 0 1) (fun d1 Z5 => (NotNil c) ∧ ∃ s2 : D, ∃ i1 off1 : Nat, (c = (.el s2 i1 off1 : D)) ∧ storeEl [d1] Z5 s2 i1 (off1 + 0) (fun Z6 => R Z6))))))) ∧ (NotNil c) ∧ ∃ s1 : D, ∃ i off : Nat, (c = (.el s1 i off : D)) ∧ DCalls Tryz.prog n_conf_words_num [.one w] Z (fun r1 Z1 => ∃ n : Int, (r1 = (.a (.one (.int .i64 n)) : RV)) ∧ DCalls Tryz.prog n_conf_words_num [.one w] Z1 (fun r2 Z2 => ∃ n1 : Int, (r2 = (.a (.one (.int .i64 n1)) : RV)) ∧ DCalls Tryz.prog n_conf_words_num [.one w] Z2 (fun r3 Z3 => ∃ n2 : Int, (r3 = (.a (.one (.int .i64 n2)) : RV)) ∧ ∃ row : List D, (Row Z3 s1 i row) ∧ ∃ d : D, ((List.take 1 (List.drop (off + 0) row)) = ([d] : List D)) ∧ Fw.newObj Z3 (.live t_Section [[.int .i64 n, .int .i64 n1, .int .i64 n2]]) (fun id Z4 => appendTo Tryz.prog Z4 t_Section 24 d (.osl id 0 1) (fun d1 Z5 => (NotNil c) ∧ ∃ s2 : D, ∃ i1 off1 : Nat, (c = (.el s2 i1 off1 : D)) ∧ storeEl [d1] Z5 s2 i1 (off1 + 0) (fun Z6 => R Z6))))))) (bcase ((ByteArray.toList s) == (ByteArray.toList (ByteArray.mk (List.toArray [106, 111, 105, 110, 116])))) (∀ R : Store → Prop, (∀ Z1, (Qp (.a (.one (.int .i64 2))) Z1) → R Z1) → ((NotNil c) ∧ ∃ s1 : D, ∃ i off : Nat, (c = (.el s1 i off : D)) ∧ ∃ row : List D, (Row Z s1 i row) ∧ ∃ d : D, ((List.take 1 (List.drop (off + 1) row)) = ([d] : List D)) ∧ DCalls Tryz.prog n_conf_words_num [.one w] Z (fun r1 Z1 => ∃ n : Int, (r1 = (.a (.one (.int .i64 n)) : RV)) ∧ DCalls Tryz.prog n_conf_words_num [.one w] Z1 (fun r2 Z2 => ∃ n1 : Int, (r2 = (.a (.one (.int .i64 n1)) : RV)) ∧ DCalls Tryz.prog n_conf_words_num [.one w] Z2 (fun r3 Z3 => ∃ n2 : Int, (r3 = (.a (.one (.int .i64 n2)) : RV)) ∧ DCalls Tryz.prog n_conf_words_num [.one w] Z3 (fun r4 Z4 => ∃ n3 : Int, (r4 = (.a (.one (.int .i64 n3)) : RV)) ∧ Fw.newObj Z4 (.live t_Joint [[.int .i64 n, .int .i64 n1, .int .i64 n2, .int .i64 n3]]) (fun id Z5 => appendTo Tryz.prog Z5 t_Joint 32 d (.osl id 0 1) (fun d1 Z6 => (NotNil c) ∧ ∃ s2 : D, ∃ i1 off1 : Nat, (c = (.el s2 i1 off1 : D)) ∧ storeEl [d1] Z6 s2 i1 (off1 + 1) (fun Z7 => R Z7)))))))) ∧ ((NotNil c) ∧ ∃ s1 : D, ∃ i off : Nat, (c = (.el s1 i off : D)) ∧ DCalls Tryz.prog n_conf_words_num [.one w] Z (fun r1 Z1 => ∃ n : Int, (r1 = (.a (.one (.int .i64 n)) : RV)) ∧ ∃ row : List D, (Row Z1 s1 i row) ∧ ∃ d : D, ((List.take 1 (List.drop (off + 1) row)) = ([d] : List D)) ∧ DCalls Tryz.prog n_conf_words_num [.one w] Z1 (fun r2 Z2 => ∃ n1 : Int, (r2 = (.a (.one (.int .i64 n1)) : RV)) ∧ DCalls Tryz.prog n_conf_words_num [.one w] Z2 (fun r3 Z3 => ∃ n2 : Int, (r3 = (.a (.one (.int .i64 n2)) : RV)) ∧ DCalls Tryz.prog n_conf_words_num [.one w] Z3 (fun r4 Z4 => ∃ n3 : Int, (r4 = (.a (.one (.int .i64 n3)) : RV)) ∧ Fw.newObj Z4 (.live t_Joint [[.int .i64 n, .int .i64 n1, .int .i64 n2, .int .i64 n3]]) (fun id Z5 => appendTo Tryz.prog Z5 t_Joint 32 d (.osl id 0 1) (fun d1 Z6 => (NotNil c) ∧ ∃ s2 : D, ∃ i1 off1 : Nat, (c = (.el s2 i1 off1 : D)) ∧ storeEl [d1] Z6 s2 i1 (off1 + 1) (fun Z7 => R Z7)))))))) ∧ ((NotNil c) ∧ ∃ s1 : D, ∃ i off : Nat, (c = (.el s1 i off : D)) ∧ DCalls Tryz.prog n_conf_words_num [.one w] Z (fun r1 Z1 => ∃ n : Int, (r1 = (.a (.one (.int .i64 n)) : RV)) ∧ DCalls Tryz.prog n_conf_words_num [.one w] Z1 (fun r2 Z2 => ∃ n1 : Int, (r2 = (.a (.one (.int .i64 n1)) : RV)) ∧ ∃ row : List D, (Row Z2 s1 i row) ∧ ∃ d : D, ((List.take 1 (List.drop (off + 1) row)) = ([d] : List D)) ∧ DCalls Tryz.prog n_conf_words_num [.one w] Z2 (fun r3 Z3 => ∃ n2 : Int, (r3 = (.a (.one (.int .i64 n2)) : RV)) ∧ DCalls Tryz.prog n_conf_words_num [.one w] Z3 (fun r4 Z4 => ∃ n3 : Int, (r4 = (.a (.one (.int .i64 n3)) : RV)) ∧ Fw.newObj Z4 (.live t_Joint [[.int .i64 n, .int .i64 n1, .int .i64 n2, .int .i64 n3]]) (fun id Z5 => appendTo Tryz.prog Z5 t_Joint 32 d (.osl id 0 1) (fun d1 Z6 => (NotNil c) ∧ ∃ s2 : D, ∃ i1 off1 : Nat, (c = (.el s2 i1 off1 : D)) ∧ storeEl [d1] Z6 s2 i1 (off1 + 1) (fun Z7 => R Z7)))))))) ∧ ((NotNil c) ∧ ∃ s1 : D, ∃ i off : Nat, (c = (.el s1 i off : D)) ∧ DCalls Tryz.prog n_conf_words_num [.one w] Z (fun r1 Z1 => ∃ n : Int, (r1 = (.a (.one (.int .i64 n)) : RV)) ∧ DCalls Tryz.prog n_conf_words_num [.one w] Z1 (fun r2 Z2 => ∃ n1 : Int, (r2 = (.a (.one (.int .i64 n1)) : RV)) ∧ DCalls Tryz.prog n_conf_words_num [.one w] Z2 (fun r3 Z3 => ∃ n2 : Int, (r3 = (.a (.one (.int .i64 n2)) : RV)) ∧ ∃ row : List D, (Row Z3 s1 i row) ∧ ∃ d : D, ((List.take 1 (List.drop (off + 1) row)) = ([d] : List D)) ∧ DCalls Tryz.prog n_conf_words_num [.one w] Z3 (fun r4 Z4 => ∃ n3 : Int, (r4 = (.a (.one (.int .i64 n3)) : RV)) ∧ Fw.newObj Z4 (.live t_Joint [[.int .i64 n, .int .i64 n1, .int .i64 n2, .int .i64 n3]]) (fun id Z5 => appendTo Tryz.prog Z5 t_Joint 32 d (.osl id 0 1) (fun d1 Z6 => (NotNil c) ∧ ∃ s2 : D, ∃ i1 off1 : Nat, (c = (.el s2 i1 off1 : D)) ∧ storeEl [d1] Z6 s2 i1 (off1 + 1) (fun Z7 => R Z7)))))))) ∧ (NotNil c) ∧ ∃ s1 : D, ∃ i off : Nat, (c = (.el s1 i off : D)) ∧ DCalls Tryz.prog n_conf_words_num [.one w] Z (fun r1 Z1 => ∃ n : Int, (r1 = (.a (.one (.int .i64 n)) : RV)) ∧ DCalls Tryz.prog n_conf_words_num [.one w] Z1 (fun r2 Z2 => ∃ n1 : Int, (r2 = (.a (.one (.int .i64 n1)) : RV)) ∧ DCalls Tryz.prog n_conf_words_num [.one w] Z2 (fun r3 Z3 => ∃ n2 : Int, (r3 = (.a (.one (.int .i64 n2)) : RV)) ∧ DCalls Tryz.prog n_conf_words_num [.one w] Z3 (fun r4 Z4 => ∃ n3 : Int, (r4 = (.a (.one (.int .i64 n3)) : RV)) ∧ ∃ row : List D, (Row Z4 s1 i row) ∧ ∃ d : D, ((List.take 1 (List.drop (off + 1) row)) = ([d] : List D)) ∧ Fw.newObj Z4 (.live t_Joint [[.int .i64 n, .int .i64 n1, .int .i64 n2, .int .i64 n3]]) (fun id Z5 => appendTo Tryz.prog Z5 t_Joint 32 d (.osl id 0 1) (fun d1 Z6 => (NotNil c) ∧ ∃ s2 : D, ∃ i1 off1 : Nat, (c = (.el s2 i1 off1 : D)) ∧ storeEl [d1] Z6 s2 i1 (off1 + 1) (fun Z7 => R Z7)))))))) (bcase ((ByteArray.toList s) == (ByteArray.toList (ByteArray.mk (List.toArray [115, 105, 103, 110, 97, 108])))) (∀ R : Store → Prop, (∀ Z1, (Qp (.a (.one (.int .i64 3))) Z1) → R Z1) → ((NotNil c) ∧ ∃ s1 : D, ∃ i off : Nat, (c = (.el s1 i off : D)) ∧ ∃ row : List D, (Row Z s1 i row) ∧ ∃ d : D, ((List.take 1 (List.drop (off + 2) row)) = ([d] : List D)) ∧ DCalls Tryz.prog n_conf_words_num [.one w] Z (fun r1 Z1 => ∃ n : Int, (r1 = (.a (.one (.int .i64 n)) : RV)) ∧ DCalls Tryz.prog n_conf_words_num [.one w] Z1 (fun r2 Z2 => ∃ n1 : Int, (r2 = (.a (.one (.int .i64 n1)) : RV)) ∧ Fw.newObj Z2 (.live t_Signal [[.int .i64 n, .int .i64 n1]]) (fun id Z3 => appendTo Tryz.prog Z3 t_Signal 16 d (.osl id 0 1) (fun d1 Z4 => (NotNil c) ∧ ∃ s2 : D, ∃ i1 off1 : Nat, (c = (.el s2 i1 off1 : D)) ∧ storeEl [d1] Z4 s2 i1 (off1 + 2) (fun Z5 => R Z5)))))) ∧ ((NotNil c) ∧ ∃ s1 : D, ∃ i off : Nat, (c = (.el s1 i off : D)) ∧ DCalls Tryz.prog n_conf_words_num [.one w] Z (fun r1 Z1 => ∃ n : Int, (r1 = (.a (.one (.int .i64 n)) : RV)) ∧ ∃ row : List D, (Row Z1 s1 i row) ∧ ∃ d : D, ((List.take 1 (List.drop (off + 2) row)) = ([d] : List D)) ∧ DCalls Tryz.prog n_conf_words_num [.one w] Z1 (fun r2 Z2 => ∃ n1 : Int, (r2 = (.a (.one (.int .i64 n1)) : RV)) ∧ Fw.newObj Z2 (.live t_Signal [[.int .i64 n, .int .i64 n1]]) (fun id Z3 => appendTo Tryz.prog Z3 t_Signal 16 d (.osl id 0 1) (fun d1 Z4 => (NotNil c) ∧ ∃ s2 : D, ∃ i1 off1 : Nat, (c = (.el s2 i1 off1 : D)) ∧ storeEl [d1] Z4 s2 i1 (off1 + 2) (fun Z5 => R Z5)))))) ∧ (NotNil c) ∧ ∃ s1 : D, ∃ i off : Nat, (c = (.el s1 i off : D)) ∧ DCalls Tryz.prog n_conf_words_num [.one w] Z (fun r1 Z1 => ∃ n : Int, (r1 = (.a (.one (.int .i64 n)) : RV)) ∧ DCalls Tryz.prog n_conf_words_num [.one w] Z1 (fun r2 Z2 => ∃ n1 : Int, (r2 = (.a (.one (.int .i64 n1)) : RV)) ∧ ∃ row : List D, (Row Z2 s1 i row) ∧ ∃ d : D, ((List.take 1 (List.drop (off + 2) row)) = ([d] : List D)) ∧ Fw.newObj Z2 (.live t_Signal [[.int .i64 n, .int .i64 n1]]) (fun id Z3 => appendTo Tryz.prog Z3 t_Signal 16 d (.osl id 0 1) (fun d1 Z4 => (NotNil c) ∧ ∃ s2 : D, ∃ i1 off1 : Nat, (c = (.el s2 i1 off1 : D)) ∧ storeEl [d1] Z4 s2 i1 (off1 + 2) (fun Z5 => R Z5)))))) (bcase ((ByteArray.toList s) == (ByteArray.toList (ByteArray.mk (List.toArray [99, 114, 111, 115, 115, 105, 110, 103])))) (∀ R : Store → Prop, (∀ Z1, (Qp (.a (.one (.int .i64 4))) Z1) → R Z1) → ((NotNil c) ∧ ∃ s1 : D, ∃ i off : Nat, (c = (.el s1 i off : D)) ∧ ∃ row : List D, (Row Z s1 i row) ∧ ∃ d : D, ((List.take 1 (List.drop (off + 3) row)) = ([d] : List D)) ∧ DCalls Tryz.prog n_conf_words_num [.one w] Z (fun r1 Z1 => ∃ n : Int, (r1 = (.a (.one (.int .i64 n)) : RV)) ∧ Fw.newObj Z1 (.live t_int [[.int .i64 n]]) (fun id Z2 => appendTo Tryz.prog Z2 t_int 8 d (.osl id 0 1) (fun d1 Z3 => (NotNil c) ∧ ∃ s2 : D, ∃ i1 off1 : Nat, (c = (.el s2 i1 off1 : D)) ∧ storeEl [d1] Z3 s2 i1 (off1 + 3) (fun Z4 => R Z4))))) ∧ (NotNil c) ∧ ∃ s1 : D, ∃ i off : Nat, (c = (.el s1 i off : D)) ∧ DCalls Tryz.prog n_conf_words_num [.one w] Z (fun r1 Z1 => ∃ n : Int, (r1 = (.a (.one (.int .i64 n)) : RV)) ∧ ∃ row : List D, (Row Z1 s1 i row) ∧ ∃ d : D, ((List.take 1 (List.drop (off + 3) row)) = ([d] : List D)) ∧ Fw.newObj Z1 (.live t_int [[.int .i64 n]]) (fun id Z2 => appendTo Tryz.prog Z2 t_int 8 d (.osl id 0 1) (fun d1 Z3 => (NotNil c) ∧ ∃ s2 : D, ∃ i1 off1 : Nat, (c = (.el s2 i1 off1 : D)) ∧ storeEl [d1] Z3 s2 i1 (off1 + 3) (fun Z4 => R Z4))))) (bcase ((ByteArray.toList s) == (ByteArray.toList (ByteArray.mk (List.toArray [114, 111, 117, 116, 101])))) (∀ R : Store → Prop, (∀ Z1, (Qp (.a (.one (.int .i64 5))) Z1) → R Z1) → ((NotNil c) ∧ ∃ s1 : D, ∃ i off : Nat, (c = (.el s1 i off : D)) ∧ ∃ row : List D, (Row Z s1 i row) ∧ ∃ d : D, ((List.take 1 (List.drop (off + 4) row)) = ([d] : List D)) ∧ DCalls Tryz.prog n_conf_words_route [.one w] Z (fun r1 Z1 => ∃ n n1 : Int, ∃ d1 d2 d3 : D, ∃ b : Bool, (r1 = (.a (.agg [.int .i64 n, .int .i64 n1, d1, d2, d3, .bool b]) : RV)) ∧ Fw.newObj Z1 (.live t_Route [[.int .i64 n, .int .i64 n1, d1, d2, d3, .bool b]]) (fun id Z2 => appendTo Tryz.prog Z2 t_Route 96 d (.osl id 0 1) (fun d4 Z3 => (NotNil c) ∧ ∃ s2 : D, ∃ i1 off1 : Nat, (c = (.el s2 i1 off1 : D)) ∧ storeEl [d4] Z3 s2 i1 (off1 + 4) (fun Z4 => R Z4))))) ∧ (NotNil c) ∧ ∃ s1 : D, ∃ i off : Nat, (c = (.el s1 i off : D)) ∧ DCalls Tryz.prog n_conf_words_route [.one w] Z (fun r1 Z1 => ∃ n n1 : Int, ∃ d d1 d2 : D, ∃ b : Bool, (r1 = (.a (.agg [.int .i64 n, .int .i64 n1, d, d1, d2, .bool b]) : RV)) ∧ ∃ row : List D, (Row Z1 s1 i row) ∧ ∃ d3 : D, ((List.take 1 (List.drop (off + 4) row)) = ([d3] : List D)) ∧ Fw.newObj Z1 (.live t_Route [[.int .i64 n, .int .i64 n1, d, d1, d2, .bool b]]) (fun id Z2 => appendTo Tryz.prog Z2 t_Route 96 d3 (.osl id 0 1) (fun d4 Z3 => (NotNil c) ∧ ∃ s2 : D, ∃ i1 off1 : Nat, (c = (.el s2 i1 off1 : D)) ∧ storeEl [d4] Z3 s2 i1 (off1 + 4) (fun Z4 => R Z4))))) (bcase ((ByteArray.toList s) == (ByteArray.toList (ByteArray.mk (List.toArray [116, 105, 109, 105, 110, 103])))) (DCalls Tryz.prog n_conf_words_num [.one w] Z (fun r1 Z1 => ∃ n : Int, (r1 = (.a (.one (.int .i64 n)) : RV)) ∧ DCalls Tryz.prog n_conf_words_num [.one w] Z1 (fun r2 Z2 => ∃ n1 : Int, (r2 = (.a (.one (.int .i64 n1)) : RV)) ∧ DCalls Tryz.prog n_conf_words_num [.one w] Z2 (fun r3 Z3 => ∃ n2 : Int, (r3 = (.a (.one (.int .i64 n2)) : RV)) ∧ DCalls Tryz.prog n_conf_words_num [.one w] Z3 (fun r4 Z4 => ∃ n3 : Int, (r4 = (.a (.one (.int .i64 n3)) : RV)) ∧ (NotNil c) ∧ ∃ s1 : D, ∃ i off : Nat, (c = (.el s1 i off : D)) ∧ storeEl [.int .i64 n, .int .i64 n1, .int .i64 n2, .int .i64 n3] Z4 s1 i (off + 5) (fun Z5 => Qp (.a (.one (.int .i64 6))) Z5)))))) ((NotNil w) ∧ ∃ s1 : D, ∃ i off : Nat, (w = (.el s1 i off : D)) ∧ storeEl [.bool true] Z s1 i (off + 1) (fun Z1 => Qp (.a (.one (.int .i64 0))) Z1))))))))
theorem W_conf_words_line (w : D) (c : D) (σ : Store) (Qp : RV → Store → Prop) (h : V_conf_words_line w c σ Qp) : DCalls Tryz.prog n_conf_words_line [.one w, .one c] σ Qp :=
 dcalls_of_body mixed (by kernel_rfl) Tryz.func53 an_conf_words_line (Eq.mp (by kernel_rfl) h)
def an_slices_Clone_int : Ann := { esc := [], cbs := [], draws := [], loops := [], joins := [] }
def V_slices_Clone_int (s : D) (σ : Store) (Qp : RV → Store → Prop) : Prop :=
 ∃ b : Bool, (IsNil .sl s b) ∧ bcase (b != false) (Qp (.a (.one .nils)) σ) (Fw.newObj σ (.live t_int []) (fun id Z => appendTo Tryz.prog Z t_int 8 (.osl id 0 0) s (fun d Z1 => Qp (.a (.one d)) Z1)))
theorem W_slices_Clone_int (s : D) (σ : Store) (Qp : RV → Store → Prop) (h : V_slices_Clone_int s σ Qp) : DCalls Tryz.prog n_slices_Clone_int [.one s] σ Qp :=
 dcalls_of_body mixed (by kernel_rfl) Tryz.func57 an_slices_Clone_int (Eq.mp (by kernel_rfl) h)
def an_conf_Conflict_1 : Ann := { esc := [], cbs := [], draws := [], loops := [], joins := [] }
def V_conf_Conflict_1 (s : Int) (a1 : D) (σ : Store) (Qp : RV → Store → Prop) : Prop :=
 ∃ s1 : D, ∃ i off : Nat, (a1 = (.el s1 i off : D)) ∧ ∃ row : List D, (Row σ s1 i row) ∧ ∃ d : D, ((List.take 1 (List.drop off row)) = ([d] : List D)) ∧ DCalls Tryz.prog n_slices_Contains_int [.one d, .one (.int .i64 s)] σ (fun r Z => ∃ b : Bool, (r = (.a (.one (.bool b)) : RV)) ∧ Qp (.a (.one (.bool b))) Z)
theorem W_conf_Conflict_1 (s : Int) (a1 : D) (σ : Store) (Qp : RV → Store → Prop) (h : V_conf_Conflict_1 s a1 σ Qp) : DCalls Tryz.prog n_conf_Conflict_1 [.one (.int .i64 s), .one a1] σ Qp :=
 dcalls_of_body mixed (by kernel_rfl) Tryz.func62 an_conf_Conflict_1 (Eq.mp (by kernel_rfl) h)
def an_conf_plan_flank : Ann := { esc := [13], cbs := [3], draws := [], loops := [(3, { mods := [(7, SlotSh.one (Sh.any)), (20, SlotSh.one (Sh.int IntKind.i64))], keep := [1, 2, 3, 18, 19] }), (8, { mods := [(7, SlotSh.one (Sh.any)), (36, SlotSh.one (Sh.int IntKind.i64))], keep := [1, 2, 3, 9, 18, 19, 20, 35] })], joins := [(11, { mods := [], keep := [1, 2, 3, 7, 9, 12, 18, 19, 20, 35, 36] }), (14, { mods := [], keep := [1, 2, 3, 7, 9, 13, 14, 18, 19, 20, 35, 36] })] }
def V_conf_plan_flank (p0 : D) (p1 : D) (p2 : D) (p3 : D) (p4 : D) (p5 : Int) (p6 : Int) (p7 : Int) (p8 : Int) (approach : Int) (path : D) (σ : Store) (Qp : RV → Store → Prop) : Prop :=
 ∃ len : Nat, (Len path len) ∧ ∃ I : D → Int → Store → Prop, ∃ μ : D → Int → Store → Nat, (I .nils 0 σ) ∧ ∀ d : D, ∀ n : Int, ∀ Z, (I d n Z) → bcase (decide (n < (len : Int))) (∃ len1 : Nat, (Idx Tryz.prog Z path 3 len1) ∧ ((0 : Int) ≤ n) ∧ (n < (len1 : Int)) ∧ ∃ row : List D, (Row Z path (Int.toNat n) row) ∧ ∃ n1 n2 n3 : Int, ((List.take 3 row) = ([.int .i64 n1, .int .i64 n2, .int .i64 n3] : List D)) ∧ DCalls Tryz.prog n_conf_plan_section [.agg [p0, p1, p2, p3, p4, .int .i64 p5, .int .i64 p6, .int .i64 p7, .int .i64 p8], .one (.int .i64 n1)] Z (fun r Z1 => ∃ n4 n5 n6 : Int, ∃ b : Bool, (r = (.tup [.agg [.int .i64 n4, .int .i64 n5, .int .i64 n6], .one (.bool b)] : RV)) ∧ bcase (!b) ((I d (w64 (n + 1)) Z1) ∧ ((μ d (w64 (n + 1)) Z1) < (μ d n Z))) (DCalls Tryz.prog n_topo_Ends [.one (.int .i64 n4)] Z1 (fun r1 Z2 => ∃ n7 : Int, (r1 = (.a (.one (.int .i64 n7)) : RV)) ∧ ∃ I1 : D → Int → Store → Prop, ∃ μ1 : D → Int → Store → Nat, (I1 d 0 Z2) ∧ ∀ d1 : D, ∀ n8 : Int, ∀ Z3, (I1 d1 n8 Z3) → bcase (decide (n8 < n7)) (∀ R : Store → Prop, (∀ Z4, (DCalls Tryz.prog n_topo_Next [.one p1, .one (.int .i64 n1), .one (.int .i64 n8)] Z4 (fun r2 Z5 => ∃ n9 n10 : Int, ∃ b1 : Bool, (r2 = (.tup [.one (.int .i64 n9), .one (.int .i64 n10), .one (.bool b1)] : RV)) ∧ Fw.newObj Z5 (.live t_int [[.int .i64 0]]) (fun id Z6 => storeEl [.int .i64 n9] Z6 (.osl id 0 1) 0 0 (fun Z7 => ∃ row1 : List D, (Row Z7 (.osl id 0 1) 0 row1) ∧ ∃ n11 : Int, ((List.take 1 row1) = ([.int .i64 n11] : List D)) ∧ DCalls Tryz.prog n_conf_plan_section [.agg [p0, p1, p2, p3, p4, .int .i64 p5, .int .i64 p6, .int .i64 p7, .int .i64 p8], .one (.int .i64 n11)] Z7 (fun r3 Z8 => ∃ n12 n13 n14 : Int, ∃ b2 : Bool, (r3 = (.tup [.agg [.int .i64 n12, .int .i64 n13, .int .i64 n14], .one (.bool b2)] : RV)) ∧ ∀ R1 : Store → Prop, (∀ Z9, (∃ row2 : List D, (Row Z9 (.osl id 0 1) 0 row2) ∧ ∃ n15 : Int, ((List.take 1 row2) = ([.int .i64 n15] : List D)) ∧ Fw.newObj Z9 (.live t_Need [[.int .i64 n15, .int .i64 (w64 (3 - n10))]]) (fun id1 Z10 => appendTo Tryz.prog Z10 t_Need 16 d1 (.osl id1 0 1) (fun d2 Z11 => (([[.int .i64 n1, .int .i64 n2, .int .i64 n3]] : List (List D)) = ([[.int .i64 n1, .int .i64 n2, .int .i64 n3]] : List (List D))) ∧ (I1 d2 (w64 (n8 + 1)) Z11) ∧ ((μ1 d2 (w64 (n8 + 1)) Z11) < (μ1 d1 n8 Z3))))) → R1 Z9) → bcase (!b1) ((([[.int .i64 n1, .int .i64 n2, .int .i64 n3]] : List (List D)) = ([[.int .i64 n1, .int .i64 n2, .int .i64 n3]] : List (List D))) ∧ (I1 d1 (w64 (n8 + 1)) Z8) ∧ ((μ1 d1 (w64 (n8 + 1)) Z8) < (μ1 d1 n8 Z3))) (bcase (!b2) ((([[.int .i64 n1, .int .i64 n2, .int .i64 n3]] : List (List D)) = ([[.int .i64 n1, .int .i64 n2, .int .i64 n3]] : List (List D))) ∧ (I1 d1 (w64 (n8 + 1)) Z8) ∧ ((μ1 d1 (w64 (n8 + 1)) Z8) < (μ1 d1 n8 Z3))) (bcase (n12 != 1) ((([[.int .i64 n1, .int .i64 n2, .int .i64 n3]] : List (List D)) = ([[.int .i64 n1, .int .i64 n2, .int .i64 n3]] : List (List D))) ∧ (I1 d1 (w64 (n8 + 1)) Z8) ∧ ((μ1 d1 (w64 (n8 + 1)) Z8) < (μ1 d1 n8 Z3))) (bcase (decide (n10 < 1)) ((([[.int .i64 n1, .int .i64 n2, .int .i64 n3]] : List (List D)) = ([[.int .i64 n1, .int .i64 n2, .int .i64 n3]] : List (List D))) ∧ (I1 d1 (w64 (n8 + 1)) Z8) ∧ ((μ1 d1 (w64 (n8 + 1)) Z8) < (μ1 d1 n8 Z3))) (bcase (decide (n10 > 2)) ((([[.int .i64 n1, .int .i64 n2, .int .i64 n3]] : List (List D)) = ([[.int .i64 n1, .int .i64 n2, .int .i64 n3]] : List (List D))) ∧ (I1 d1 (w64 (n8 + 1)) Z8) ∧ ((μ1 d1 (w64 (n8 + 1)) Z8) < (μ1 d1 n8 Z3))) (∃ row2 : List D, (Row Z8 (.osl id 0 1) 0 row2) ∧ ∃ n15 : Int, ((List.take 1 row2) = ([.int .i64 n15] : List D)) ∧ bcase (n15 == approach) ((([[.int .i64 n1, .int .i64 n2, .int .i64 n3]] : List (List D)) = ([[.int .i64 n1, .int .i64 n2, .int .i64 n3]] : List (List D))) ∧ (I1 d1 (w64 (n8 + 1)) Z8) ∧ ((μ1 d1 (w64 (n8 + 1)) Z8) < (μ1 d1 n8 Z3))) (∃ row3 : List D, (Row Z8 (.osl id 0 1) 0 row3) ∧ ∃ n16 : Int, ((List.take 1 row3) = ([.int .i64 n16] : List D)) ∧ DCalls Tryz.prog n_conf_has [.one path, .one (.int .i64 n16)] Z8 (fun r4 Z9 => ∃ b3 : Bool, (r4 = (.a (.one (.bool b3)) : RV)) ∧ bcase b3 ((([[.int .i64 n1, .int .i64 n2, .int .i64 n3]] : List (List D)) = ([[.int .i64 n1, .int .i64 n2, .int .i64 n3]] : List (List D))) ∧ (I1 d1 (w64 (n8 + 1)) Z9) ∧ ((μ1 d1 (w64 (n8 + 1)) Z9) < (μ1 d1 n8 Z3))) (DCalls Tryz.prog n_slices_ContainsFunc_Need [.one d1, .one (.fn n_conf_plan_flank_1 [] [(false, [.el (.osl id 0 1) 0 0])])] Z9 (fun r5 Z10 => ∃ b4 : Bool, (r5 = (.a (.one (.bool b4)) : RV)) ∧ bcase b4 ((([[.int .i64 n1, .int .i64 n2, .int .i64 n3]] : List (List D)) = ([[.int .i64 n1, .int .i64 n2, .int .i64 n3]] : List (List D))) ∧ (I1 d1 (w64 (n8 + 1)) Z10) ∧ ((μ1 d1 (w64 (n8 + 1)) Z10) < (μ1 d1 n8 Z3))) ((([[.int .i64 n1, .int .i64 n2, .int .i64 n3]] : List (List D)) = ([[.int .i64 n1, .int .i64 n2, .int .i64 n3]] : List (List D))) ∧ R1 Z10))))))))))))))) → R Z4) → bcase (n8 == n2) ((([[.int .i64 n1, .int .i64 n2, .int .i64 n3]] : List (List D)) = ([[.int .i64 n1, .int .i64 n2, .int .i64 n3]] : List (List D))) ∧ (I1 d1 (w64 (n8 + 1)) Z3) ∧ ((μ1 d1 (w64 (n8 + 1)) Z3) < (μ1 d1 n8 Z3))) (bcase (n8 == n3) ((([[.int .i64 n1, .int .i64 n2, .int .i64 n3]] : List (List D)) = ([[.int .i64 n1, .int .i64 n2, .int .i64 n3]] : List (List D))) ∧ (I1 d1 (w64 (n8 + 1)) Z3) ∧ ((μ1 d1 (w64 (n8 + 1)) Z3) < (μ1 d1 n8 Z3))) ((([[.int .i64 n1, .int .i64 n2, .int .i64 n3]] : List (List D)) = ([[.int .i64 n1, .int .i64 n2, .int .i64 n3]] : List (List D))) ∧ R Z3))) ((I d1 (w64 (n + 1)) Z3) ∧ ((μ d1 (w64 (n + 1)) Z3) < (μ d n Z))))))) (Qp (.a (.one d)) Z)
theorem W_conf_plan_flank (p0 : D) (p1 : D) (p2 : D) (p3 : D) (p4 : D) (p5 : Int) (p6 : Int) (p7 : Int) (p8 : Int) (approach : Int) (path : D) (σ : Store) (Qp : RV → Store → Prop) (h : V_conf_plan_flank p0 p1 p2 p3 p4 p5 p6 p7 p8 approach path σ Qp) : DCalls Tryz.prog n_conf_plan_flank [.agg [p0, p1, p2, p3, p4, .int .i64 p5, .int .i64 p6, .int .i64 p7, .int .i64 p8], .one (.int .i64 approach), .one path] σ Qp :=
 dcalls_of_body mixed (by kernel_rfl) Tryz.func66 an_conf_plan_flank (Eq.mp (by kernel_rfl) h)
def an_conf_plan_overlap : Ann := { esc := [], cbs := [2, 3], draws := [], loops := [], joins := [(4, { mods := [], keep := [2, 3, 5] })] }
def V_conf_plan_overlap (p0 : D) (p1 : D) (p2 : D) (p3 : D) (p4 : D) (p5 : Int) (p6 : Int) (p7 : Int) (p8 : Int) (r0 : Int) (r1 : Int) (r2 : D) (r3 : D) (r4 : D) (r5 : Bool) (σ : Store) (Qp : RV → Store → Prop) : Prop :=
 DCalls Tryz.prog n_conf_plan_signal [.agg [p0, p1, p2, p3, p4, .int .i64 p5, .int .i64 p6, .int .i64 p7, .int .i64 p8], .one (.int .i64 r1)] σ (fun r Z => ∃ n n1 : Int, ∃ b : Bool, (r = (.tup [.agg [.int .i64 n, .int .i64 n1], .one (.bool b)] : RV)) ∧ ∀ R : Store → Prop, (∀ Z1, (DCalls Tryz.prog n_topo_Next [.one p1, .one (.int .i64 n), .one (.int .i64 n1)] Z1 (fun r6 Z2 => ∃ n2 n3 : Int, ∃ b1 : Bool, (r6 = (.tup [.one (.int .i64 n2), .one (.int .i64 n3), .one (.bool b1)] : RV)) ∧ DCalls Tryz.prog n_conf_plan_section [.agg [p0, p1, p2, p3, p4, .int .i64 p5, .int .i64 p6, .int .i64 p7, .int .i64 p8], .one (.int .i64 n2)] Z2 (fun r7 Z3 => ∃ n4 n5 n6 : Int, ∃ b2 : Bool, (r7 = (.tup [.agg [.int .i64 n4, .int .i64 n5, .int .i64 n6], .one (.bool b2)] : RV)) ∧ bcase (!b1) (Qp (.a (.one .nils)) Z3) (bcase (!b2) (Qp (.a (.one .nils)) Z3) (bcase (n6 != 0) (Qp (.a (.one .nils)) Z3) (DCalls Tryz.prog n_conf_has [.one r2, .one (.int .i64 n2)] Z3 (fun r8 Z4 => ∃ b3 : Bool, (r8 = (.a (.one (.bool b3)) : RV)) ∧ bcase b3 (Qp (.a (.one .nils)) Z4) (DCalls Tryz.prog n_conf_plan_approach [.agg [p0, p1, p2, p3, p4, .int .i64 p5, .int .i64 p6, .int .i64 p7, .int .i64 p8], .agg [.int .i64 r0, .int .i64 r1, r2, r3, r4, .bool r5]] Z4 (fun r9 Z5 => ∃ n7 : Int, (r9 = (.a (.one (.int .i64 n7)) : RV)) ∧ bcase (n2 == n7) (Qp (.a (.one .nils)) Z5) (Fw.newObj Z5 (.live t_int [[.int .i64 n2]]) (fun id Z6 => Qp (.a (.one (.osl id 0 1))) Z6))))))))))) → R Z1) → bcase r5 (Qp (.a (.one .nils)) Z) (bcase (!b) (Qp (.a (.one .nils)) Z) ((([[.int .i64 n, .int .i64 n1]] : List (List D)) = ([[.int .i64 n, .int .i64 n1]] : List (List D))) ∧ R Z)))
theorem W_conf_plan_overlap (p0 : D) (p1 : D) (p2 : D) (p3 : D) (p4 : D) (p5 : Int) (p6 : Int) (p7 : Int) (p8 : Int) (r0 : Int) (r1 : Int) (r2 : D) (r3 : D) (r4 : D) (r5 : Bool) (σ : Store) (Qp : RV → Store → Prop) (h : V_conf_plan_overlap p0 p1 p2 p3 p4 p5 p6 p7 p8 r0 r1 r2 r3 r4 r5 σ Qp) : DCalls Tryz.prog n_conf_plan_overlap [.agg [p0, p1, p2, p3, p4, .int .i64 p5, .int .i64 p6, .int .i64 p7, .int .i64 p8], .agg [.int .i64 r0, .int .i64 r1, r2, r3, r4, .bool r5]] σ Qp :=
 dcalls_of_body mixed (by kernel_rfl) Tryz.func70 an_conf_plan_overlap (Eq.mp (by kernel_rfl) h)
def an_topo_Ends : Ann := { esc := [], cbs := [], draws := [], loops := [(3, { mods := [(3, SlotSh.one (Sh.int IntKind.i64)), (9, SlotSh.one (Sh.int IntKind.i64))], keep := [7, 8] })], joins := [] }
def V_topo_Ends (kind : Int) (σ : Store) (Qp : RV → Store → Prop) : Prop :=
 DCalls Tryz.prog n_topo_ways [.one (.int .i64 kind)] σ (fun r Z => ∃ d : D, (r = (.a (.one d) : RV)) ∧ ∃ len : Nat, (Len d len) ∧ ∃ I : Int → Int → Store → Prop, ∃ μ : Int → Int → Store → Nat, (I 0 0 Z) ∧ ∀ n n1 : Int, ∀ Z1, (I n n1 Z1) → bcase (decide (n1 < (len : Int))) (∃ len1 : Nat, (Idx Tryz.prog Z1 d 3 len1) ∧ ((0 : Int) ≤ n1) ∧ (n1 < (len1 : Int)) ∧ ∃ row : List D, (Row Z1 d (Int.toNat n1) row) ∧ ∃ n2 n3 n4 : Int, ((List.take 3 row) = ([.int .i64 n2, .int .i64 n3, .int .i64 n4] : List D)) ∧ ((0 : Int) ≤ 0) ∧ ((0 : Int) < (2 : Int)) ∧ ((0 : Int) ≤ 1) ∧ ((1 : Int) < (2 : Int)) ∧ (I (ite ((w64 (n3 + 1)) > (ite ((w64 (n2 + 1)) > n) (w64 (n2 + 1)) n)) (w64 (n3 + 1)) (ite ((w64 (n2 + 1)) > n) (w64 (n2 + 1)) n)) (w64 (n1 + 1)) Z1) ∧ ((μ (ite ((w64 (n3 + 1)) > (ite ((w64 (n2 + 1)) > n) (w64 (n2 + 1)) n)) (w64 (n3 + 1)) (ite ((w64 (n2 + 1)) > n) (w64 (n2 + 1)) n)) (w64 (n1 + 1)) Z1) < (μ n n1 Z1))) (Qp (.a (.one (.int .i64 n))) Z1))
theorem W_topo_Ends (kind : Int) (σ : Store) (Qp : RV → Store → Prop) (h : V_topo_Ends kind σ Qp) : DCalls Tryz.prog n_topo_Ends [.one (.int .i64 kind)] σ Qp :=
 dcalls_of_body mixed (by kernel_rfl) Tryz.func74 an_topo_Ends (Eq.mp (by kernel_rfl) h)
def an_slices_Equal_Need : Ann := { esc := [], cbs := [], draws := [(6, { ord := [0, 1, 2, 3, 4, 5, 6, 7, 8], nb := [], av := [], dir := [] })], loops := [(4, { mods := [(13, SlotSh.one (Sh.int IntKind.i64))], keep := [0, 1, 12] })], joins := [] }
def V_slices_Equal_Need (s1 : D) (s2 : D) (σ : Store) (Qp : RV → Store → Prop) : Prop :=
 ∃ len : Nat, (Len s1 len) ∧ ∃ len1 : Nat, (Len s2 len1) ∧ bcase ((len : Int) != (len1 : Int)) (Qp (.a (.one (.bool false))) σ) (∃ len2 : Nat, (Len s1 len2) ∧ ∃ I : Int → Store → Prop, ∃ μ : Int → Store → Nat, (I 0 σ) ∧ ∀ n : Int, ∀ Z, (I n Z) → bcase (decide (n < (len2 : Int))) (∃ len3 : Nat, (Idx Tryz.prog Z s1 2 len3) ∧ ((0 : Int) ≤ n) ∧ (n < (len3 : Int)) ∧ ∃ row : List D, (Row Z s1 (Int.toNat n) row) ∧ ∃ n1 n2 : Int, ((List.take 2 row) = ([.int .i64 n1, .int .i64 n2] : List D)) ∧ ∃ len4 : Nat, (Idx Tryz.prog Z s2 2 len4) ∧ ((0 : Int) ≤ n) ∧ (n < (len4 : Int)) ∧ ∃ row1 : List D, (Row Z s2 (Int.toNat n) row1) ∧ ∃ n3 n4 : Int, ((List.take 2 row1) = ([.int .i64 n3, .int .i64 n4] : List D)) ∧ bcase (!((n1 == n3) && (n2 == n4))) (Qp (.a (.one (.bool false))) Z) ((I (w64 (n + 1)) Z) ∧ ((μ (w64 (n + 1)) Z) < (μ n Z)))) (Qp (.a (.one (.bool true))) Z))
theorem W_slices_Equal_Need (s1 : D) (s2 : D) (σ : Store) (Qp : RV → Store → Prop) (h : V_slices_Equal_Need s1 s2 σ Qp) : DCalls Tryz.prog n_slices_Equal_Need [.one s1, .one s2] σ Qp :=
 dcalls_of_body mixed (by kernel_rfl) Tryz.func79 an_slices_Equal_Need (Eq.mp (by kernel_rfl) h)
def an_ref05_Pos : Ann := { esc := [], cbs := [], draws := [], loops := [(2, { mods := [(13, SlotSh.one (Sh.int IntKind.i64))], keep := [1, 2, 11, 12] })], joins := [] }
def V_ref05_Pos (kind : Int) (in_ : Int) (out_ : Int) (σ : Store) (Qp : RV → Store → Prop) : Prop :=
 DCalls Tryz.prog n_ref05_ways [.one (.int .i64 kind)] σ (fun r Z => ∃ d : D, (r = (.a (.one d) : RV)) ∧ ∃ len : Nat, (Len d len) ∧ ∃ I : Int → Store → Prop, ∃ μ : Int → Store → Nat, (I 0 Z) ∧ ∀ n : Int, ∀ Z1, (I n Z1) → bcase (decide (n < (len : Int))) (∃ len1 : Nat, (Idx Tryz.prog Z1 d 3 len1) ∧ ((0 : Int) ≤ n) ∧ (n < (len1 : Int)) ∧ ∃ row : List D, (Row Z1 d (Int.toNat n) row) ∧ ∃ n1 n2 n3 : Int, ((List.take 3 row) = ([.int .i64 n1, .int .i64 n2, .int .i64 n3] : List D)) ∧ bcase (n1 == in_) (bcase (n2 == out_) (Qp (.tup [.one (.int .i64 n3), .one (.bool true)]) Z1) (bcase (n2 == in_) (bcase (n1 == out_) (Qp (.tup [.one (.int .i64 n3), .one (.bool true)]) Z1) ((I (w64 (n + 1)) Z1) ∧ ((μ (w64 (n + 1)) Z1) < (μ n Z1)))) ((I (w64 (n + 1)) Z1) ∧ ((μ (w64 (n + 1)) Z1) < (μ n Z1))))) (bcase (n2 == in_) (bcase (n1 == out_) (Qp (.tup [.one (.int .i64 n3), .one (.bool true)]) Z1) ((I (w64 (n + 1)) Z1) ∧ ((μ (w64 (n + 1)) Z1) < (μ n Z1)))) ((I (w64 (n + 1)) Z1) ∧ ((μ (w64 (n + 1)) Z1) < (μ n Z1))))) (Qp (.tup [.one (.int .i64 0), .one (.bool false)]) Z1))
theorem W_ref05_Pos (kind : Int) (in_ : Int) (out_ : Int) (σ : Store) (Qp : RV → Store → Prop) (h : V_ref05_Pos kind in_ out_ σ Qp) : DCalls Tryz.prog n_ref05_Pos [.one (.int .i64 kind), .one (.int .i64 in_), .one (.int .i64 out_)] σ Qp :=
 dcalls_of_body mixed (by kernel_rfl) Tryz.func83 an_ref05_Pos (Eq.mp (by kernel_rfl) h)
def an_conf_words_route : Ann := { esc := [3, 1], cbs := [], draws := [], loops := [], joins := [(2, { mods := [(3, SlotSh.one Sh.any)], keep := [1, 2] }), (5, { mods := [], keep := [1, 2, 3] })], splits := [(1, (DT.split 2 1 (DT.split 1 5 (DT.split 3 5 (DT.leaf { ord := [0, 2, 1, 3, 4, 5, 6], nb := [], av := [], dir := [] }) (DT.leaf { ord := [0, 2, 1, 5, 3, 4, 6], nb := [], av := [], dir := [] })) (DT.leaf { ord := [0, 2, 5, 1, 3, 4, 6], nb := [], av := [], dir := [] })) (DT.split 1 5 (DT.split 3 5 (DT.leaf { ord := [0, 1, 2, 3, 4, 5, 6], nb := [], av := [], dir := [] }) (DT.leaf { ord := [0, 1, 2, 5, 3, 4, 6], nb := [], av := [], dir := [] })) (DT.leaf { ord := [0, 5, 1, 2, 3, 4, 6], nb := [], av := [], dir := [] })))), (4, (DT.split 0 12 (DT.leaf { ord := [0, 1, 2, 3, 4, 5, 6, 7, 8, 9, 10, 11, 12, 13, 14, 15, 16, 17], nb := [], av := [], dir := [], sp := [7] }) (DT.leaf { ord := [1, 2, 3, 4, 5, 6, 7, 8, 9, 10, 11, 12, 0, 13, 14, 15, 16, 17], nb := [], av := [], dir := [] })))] }
def V_conf_words_route (w : D) (σ : Store) (Qp : RV → Store → Prop) : Prop :=
 Fw.newObj σ (.live t_p_conf_words [[w]]) (fun id Z => ∀ R : D → Store → Prop, (∀ d : D, ∀ Z1, (∃ row : List D, (Row Z1 (.osl id 0 1) 0 row) ∧ ∃ d1 : D, ((List.take 1 row) = ([d1] : List D)) ∧ DCalls Tryz.prog n_conf_words_num [.one d1] Z1 (fun r Z2 => ∃ n : Int, (r = (.a (.one (.int .i64 n)) : RV)) ∧ ∃ s : D, ∃ i off : Nat, (d = (.el s i off : D)) ∧ storeEl [.bool (n == 1)] Z2 s i (off + 5) (fun Z3 => ∀ R1 : Store → Prop, (∀ Z4, (∃ row1 : List D, (Row Z4 (.osl id 0 1) 0 row1) ∧ ∃ d2 : D, ((List.take 1 row1) = ([d2] : List D)) ∧ DCalls Tryz.prog n_conf_words_each [.one d2, .one (.str (ByteArray.mk (List.toArray [102, 108, 97, 110, 107]))), .one (.fn n_conf_words_route_1 [] [(false, [d]), (false, [.el (.osl id 0 1) 0 0])])] Z4 (fun r1 Z5 => (r1 = (.tup [] : RV)) ∧ ∃ row2 : List D, (Row Z5 (.osl id 0 1) 0 row2) ∧ ∃ d3 : D, ((List.take 1 row2) = ([d3] : List D)) ∧ DCalls Tryz.prog n_conf_words_each [.one d3, .one (.str (ByteArray.mk (List.toArray [111, 118, 101, 114, 108, 97, 112]))), .one (.fn n_conf_words_route_2 [] [(false, [d]), (false, [.el (.osl id 0 1) 0 0])])] Z5 (fun r2 Z6 => (r2 = (.tup [] : RV)) ∧ ∃ row3 : List D, (Row Z6 (.osl id 0 1) 0 row3) ∧ ∃ d4 : D, ((List.take 1 row3) = ([d4] : List D)) ∧ DCalls Tryz.prog n_conf_words_each [.one d4, .one (.str (ByteArray.mk (List.toArray []))), .one (.fn n_conf_words_route_3 [] [(false, [d]), (false, [.el (.osl id 0 1) 0 0])])] Z6 (fun r3 Z7 => (r3 = (.tup [] : RV)) ∧ ∃ s1 : D, ∃ i1 off1 : Nat, (d = (.el s1 i1 off1 : D)) ∧ ∃ row4 : List D, (Row Z7 s1 i1 row4) ∧ ∃ n1 n2 : Int, ∃ d5 d6 d7 : D, ∃ b : Bool, ((List.take 6 (List.drop off1 row4)) = ([.int .i64 n1, .int .i64 n2, d5, d6, d7, .bool b] : List D)) ∧ Qp (.a (.agg [.int .i64 n1, .int .i64 n2, d5, d6, d7, .bool b])) Z7)))) → R1 Z4) → (∃ pre : List A → Store → Prop, ∃ post : List A → Store → RV → Store → Prop, (SpecOk Tryz.prog n_conf_between pre post) ∧ ∃ row1 : List D, (Row Z3 (.osl id 0 1) 0 row1) ∧ ∃ d2 : D, ((List.take 1 row1) = ([d2] : List D)) ∧ ∃ row2 : List D, (Row Z3 (.osl id 0 1) 0 row2) ∧ ∃ d3 : D, ((List.take 1 row2) = ([d3] : List D)) ∧ (NotNil d3) ∧ ∃ s1 : D, ∃ i1 off1 : Nat, (d3 = (.el s1 i1 off1 : D)) ∧ ∃ row3 : List D, (Row Z3 s1 i1 row3) ∧ ∃ b : Bool, ((List.take 1 (List.drop (off1 + 1) row3)) = ([.bool b] : List D)) ∧ bcase b ((NotNil d2) ∧ ∃ s2 : D, ∃ i2 off2 : Nat, (d2 = (.el s2 i2 off2 : D)) ∧ storeEl [.bool true] Z3 s2 i2 (off2 + 1) (fun Z4 => (([[.int .i64 0, .int .i64 0, .nils, .nils, .nils, .bool false]] : List (List D)) = ([[.int .i64 0, .int .i64 0, .nils, .nils, .nils, .bool false]] : List (List D))) ∧ R1 Z4)) ((pre [.one (.int .i64 n), .one (.int .i64 0), .one (.int .i64 1)] Z3) ∧ ∀ r1 : RV, ∀ s2 : Store, (post [.one (.int .i64 n), .one (.int .i64 0), .one (.int .i64 1)] Z3 r1 s2) → ∃ b1 : Bool, (r1 = (.a (.one (.bool b1)) : RV)) ∧ bcase (!b1) ((NotNil d2) ∧ ∃ s3 : D, ∃ i2 off2 : Nat, (d2 = (.el s3 i2 off2 : D)) ∧ storeEl [.bool true] s2 s3 i2 (off2 + 1) (fun Z4 => (([[.int .i64 0, .int .i64 0, .nils, .nils, .nils, .bool false]] : List (List D)) = ([[.int .i64 0, .int .i64 0, .nils, .nils, .nils, .bool false]] : List (List D))) ∧ R1 Z4)) (∃ row4 : List D, (Row s2 (.osl id 0 1) 0 row4) ∧ ∃ d4 : D, ((List.take 1 row4) = ([d4] : List D)) ∧ DCalls Tryz.prog n_conf_words_next [.one d4] s2 (fun r2 Z4 => ∃ s3 : ByteArray, (r2 = (.a (.one (.str s3)) : RV)) ∧ (NotNil d2) ∧ ∃ s4 : D, ∃ i2 off2 : Nat, (d2 = (.el s4 i2 off2 : D)) ∧ storeEl [.bool (!((ByteArray.toList s3) == (ByteArray.toList (ByteArray.mk (List.toArray [112, 97, 116, 104])))))] Z4 s4 i2 (off2 + 1) (fun Z5 => (([[.int .i64 0, .int .i64 0, .nils, .nils, .nils, .bool false]] : List (List D)) = ([[.int .i64 0, .int .i64 0, .nils, .nils, .nils, .bool false]] : List (List D))) ∧ R1 Z5))))) ∧ ∃ row1 : List D, (Row Z3 (.osl id 0 1) 0 row1) ∧ ∃ d2 : D, ((List.take 1 row1) = ([d2] : List D)) ∧ (NotNil d2) ∧ ∃ s1 : D, ∃ i1 off1 : Nat, (d2 = (.el s1 i1 off1 : D)) ∧ ∃ row2 : List D, (Row Z3 s1 i1 row2) ∧ ∃ b : Bool, ((List.take 1 (List.drop (off1 + 1) row2)) = ([.bool b] : List D)) ∧ bcase b (∃ row3 : List D, (Row Z3 (.osl id 0 1) 0 row3) ∧ ∃ d3 : D, ((List.take 1 row3) = ([d3] : List D)) ∧ (NotNil d3) ∧ ∃ s2 : D, ∃ i2 off2 : Nat, (d3 = (.el s2 i2 off2 : D)) ∧ storeEl [.bool true] Z3 s2 i2 (off2 + 1) (fun Z4 => (([[.int .i64 0, .int .i64 0, .nils, .nils, .nils, .bool false]] : List (List D)) = ([[.int .i64 0, .int .i64 0, .nils, .nils, .nils, .bool false]] : List (List D))) ∧ R1 Z4)) (DCalls Tryz.prog n_conf_between [.one (.int .i64 n), .one (.int .i64 0), .one (.int .i64 1)] Z3 (fun r1 Z4 => ∃ b1 : Bool, (r1 = (.a (.one (.bool b1)) : RV)) ∧ bcase (!b1) (∃ row3 : List D, (Row Z4 (.osl id 0 1) 0 row3) ∧ ∃ d3 : D, ((List.take 1 row3) = ([d3] : List D)) ∧ (NotNil d3) ∧ ∃ s2 : D, ∃ i2 off2 : Nat, (d3 = (.el s2 i2 off2 : D)) ∧ storeEl [.bool true] Z4 s2 i2 (off2 + 1) (fun Z5 => (([[.int .i64 0, .int .i64 0, .nils, .nils, .nils, .bool false]] : List (List D)) = ([[.int .i64 0, .int .i64 0, .nils, .nils, .nils, .bool false]] : List (List D))) ∧ R1 Z5)) (∃ row3 : List D, (Row Z4 (.osl id 0 1) 0 row3) ∧ ∃ d3 : D, ((List.take 1 row3) = ([d3] : List D)) ∧ DCalls Tryz.prog n_conf_words_next [.one d3] Z4 (fun r2 Z5 => ∃ s2 : ByteArray, (r2 = (.a (.one (.str s2)) : RV)) ∧ ∃ row4 : List D, (Row Z5 (.osl id 0 1) 0 row4) ∧ ∃ d4 : D, ((List.take 1 row4) = ([d4] : List D)) ∧ (NotNil d4) ∧ ∃ s3 : D, ∃ i2 off2 : Nat, (d4 = (.el s3 i2 off2 : D)) ∧ storeEl [.bool (!((ByteArray.toList s2) == (ByteArray.toList (ByteArray.mk (List.toArray [112, 97, 116, 104])))))] Z5 s3 i2 (off2 + 1) (fun Z6 => (([[.int .i64 0, .int .i64 0, .nils, .nils, .nils, .bool false]] : List (List D)) = ([[.int .i64 0, .int .i64 0, .nils, .nils, .nils, .bool false]] : List (List D))) ∧ R1 Z6)))))))) → R d Z1) → (((∃ row : List D, (Row Z (.osl id 0 1) 0 row) ∧ ∃ d : D, ((List.take 1 row) = ([d] : List D)) ∧ ∃ row1 : List D, (Row Z (.osl id 0 1) 0 row1) ∧ ∃ d1 : D, ((List.take 1 row1) = ([d1] : List D)) ∧ DCalls Tryz.prog n_conf_words_num [.one d] Z (fun r Z1 => ∃ n : Int, (r = (.a (.one (.int .i64 n)) : RV)) ∧ DCalls Tryz.prog n_conf_words_num [.one d1] Z1 (fun r1 Z2 => ∃ n1 : Int, (r1 = (.a (.one (.int .i64 n1)) : RV)) ∧ Fw.newObj Z2 (.live t_Route [[.int .i64 0, .int .i64 0, .nils, .nils, .nils, .bool false]]) (fun id1 Z3 => storeEl [.int .i64 n, .int .i64 n1, .nils, .nils, .nils, .bool false] Z3 (.osl id1 0 1) 0 0 (fun Z4 => (([[.int .i64 0, .int .i64 0, .nils, .nils, .nils, .bool false]] : List (List D)) = ([[.int .i64 0, .int .i64 0, .nils, .nils, .nils, .bool false]] : List (List D))) ∧ R (.el (.osl id1 0 1) 0 0) Z4))))) ∧ ∃ row : List D, (Row Z (.osl id 0 1) 0 row) ∧ ∃ d : D, ((List.take 1 row) = ([d] : List D)) ∧ ∃ row1 : List D, (Row Z (.osl id 0 1) 0 row1) ∧ ∃ d1 : D, ((List.take 1 row1) = ([d1] : List D)) ∧ DCalls Tryz.prog n_conf_words_num [.one d] Z (fun r Z1 => ∃ n : Int, (r = (.a (.one (.int .i64 n)) : RV)) ∧ Fw.newObj Z1 (.live t_Route [[.int .i64 0, .int .i64 0, .nils, .nils, .nils, .bool false]]) (fun id1 Z2 => DCalls Tryz.prog n_conf_words_num [.one d1] Z2 (fun r1 Z3 => ∃ n1 : Int, (r1 = (.a (.one (.int .i64 n1)) : RV)) ∧ storeEl [.int .i64 n, .int .i64 n1, .nils, .nils, .nils, .bool false] Z3 (.osl id1 0 1) 0 0 (fun Z4 => (([[.int .i64 0, .int .i64 0, .nils, .nils, .nils, .bool false]] : List (List D)) = ([[.int .i64 0, .int .i64 0, .nils, .nils, .nils, .bool false]] : List (List D))) ∧ R (.el (.osl id1 0 1) 0 0) Z4))))) ∧ ∃ row : List D, (Row Z (.osl id 0 1) 0 row) ∧ ∃ d : D, ((List.take 1 row) = ([d] : List D)) ∧ ∃ row1 : List D, (Row Z (.osl id 0 1) 0 row1) ∧ ∃ d1 : D, ((List.take 1 row1) = ([d1] : List D)) ∧ Fw.newObj Z (.live t_Route [[.int .i64 0, .int .i64 0, .nils, .nils, .nils, .bool false]]) (fun id1 Z1 => DCalls Tryz.prog n_conf_words_num [.one d] Z1 (fun r Z2 => ∃ n : Int, (r = (.a (.one (.int .i64 n)) : RV)) ∧ DCalls Tryz.prog n_conf_words_num [.one d1] Z2 (fun r1 Z3 => ∃ n1 : Int, (r1 = (.a (.one (.int .i64 n1)) : RV)) ∧ storeEl [.int .i64 n, .int .i64 n1, .nils, .nils, .nils, .bool false] Z3 (.osl id1 0 1) 0 0 (fun Z4 => (([[.int .i64 0, .int .i64 0, .nils, .nils, .nils, .bool false]] : List (List D)) = ([[.int .i64 0, .int .i64 0, .nils, .nils, .nils, .bool false]] : List (List D))) ∧ R (.el (.osl id1 0 1) 0 0) Z4))))) ∧ ((∃ row : List D, (Row Z (.osl id 0 1) 0 row) ∧ ∃ d : D, ((List.take 1 row) = ([d] : List D)) ∧ DCalls Tryz.prog n_conf_words_num [.one d] Z (fun r Z1 => ∃ n : Int, (r = (.a (.one (.int .i64 n)) : RV)) ∧ ∃ row1 : List D, (Row Z1 (.osl id 0 1) 0 row1) ∧ ∃ d1 : D, ((List.take 1 row1) = ([d1] : List D)) ∧ DCalls Tryz.prog n_conf_words_num [.one d1] Z1 (fun r1 Z2 => ∃ n1 : Int, (r1 = (.a (.one (.int .i64 n1)) : RV)) ∧ Fw.newObj Z2 (.live t_Route [[.int .i64 0, .int .i64 0, .nils, .nils, .nils, .bool false]]) (fun id1 Z3 => storeEl [.int .i64 n, .int .i64 n1, .nils, .nils, .nils, .bool false] Z3 (.osl id1 0 1) 0 0 (fun Z4 => (([[.int .i64 0, .int .i64 0, .nils, .nils, .nils, .bool false]] : List (List D)) = ([[.int .i64 0, .int .i64 0, .nils, .nils, .nils, .bool false]] : List (List D))) ∧ R (.el (.osl id1 0 1) 0 0) Z4))))) ∧ ∃ row : List D, (Row Z (.osl id 0 1) 0 row) ∧ ∃ d : D, ((List.take 1 row) = ([d] : List D)) ∧ DCalls Tryz.prog n_conf_words_num [.one d] Z (fun r Z1 => ∃ n : Int, (r = (.a (.one (.int .i64 n)) : RV)) ∧ ∃ row1 : List D, (Row Z1 (.osl id 0 1) 0 row1) ∧ ∃ d1 : D, ((List.take 1 row1) = ([d1] : List D)) ∧ Fw.newObj Z1 (.live t_Route [[.int .i64 0, .int .i64 0, .nils, .nils, .nils, .bool false]]) (fun id1 Z2 => DCalls Tryz.prog n_conf_words_num [.one d1] Z2 (fun r1 Z3 => ∃ n1 : Int, (r1 = (.a (.one (.int .i64 n1)) : RV)) ∧ storeEl [.int .i64 n, .int .i64 n1, .nils, .nils, .nils, .bool false] Z3 (.osl id1 0 1) 0 0 (fun Z4 => (([[.int .i64 0, .int .i64 0, .nils, .nils, .nils, .bool false]] : List (List D)) = ([[.int .i64 0, .int .i64 0, .nils, .nils, .nils, .bool false]] : List (List D))) ∧ R (.el (.osl id1 0 1) 0 0) Z4))))) ∧ ∃ row : List D, (Row Z (.osl id 0 1) 0 row) ∧ ∃ d : D, ((List.take 1 row) = ([d] : List D)) ∧ Fw.newObj Z (.live t_Route [[.int .i64 0, .int .i64 0, .nils, .nils, .nils, .bool false]]) (fun id1 Z1 => DCalls Tryz.prog n_conf_words_num [.one d] Z1 (fun r Z2 => ∃ n : Int, (r = (.a (.one (.int .i64 n)) : RV)) ∧ ∃ row1 : List D, (Row Z2 (.osl id 0 1) 0 row1) ∧ ∃ d1 : D, ((List.take 1 row1) = ([d1] : List D)) ∧ DCalls Tryz.prog n_conf_words_num [.one d1] Z2 (fun r1 Z3 => ∃ n1 : Int, (r1 = (.a (.one (.int .i64 n1)) : RV)) ∧ storeEl [.int .i64 n, .int .i64 n1, .nils, .nils, .nils, .bool false] Z3 (.osl id1 0 1) 0 0 (fun Z4 => (([[.int .i64 0, .int .i64 0, .nils, .nils, .nils, .bool false]] : List (List D)) = ([[.int .i64 0, .int .i64 0, .nils, .nils, .nils, .bool false]] : List (List D))) ∧ R (.el (.osl id1 0 1) 0 0) Z4)))))
theorem W_conf_words_route (w : D) (σ : Store) (Qp : RV → Store → Prop) (h : V_conf_words_route w σ Qp) : DCalls Tryz.prog n_conf_words_route [.one w] σ Qp :=
 dcalls_of_body mixed (by kernel_rfl) Tryz.func91 an_conf_words_route (Eq.mp (by kernel_rfl) h)
def an_slices_IndexFunc_int : Ann := { esc := [], cbs := [], draws := [], loops := [(2, { mods := [(8, SlotSh.one (Sh.int IntKind.i64))], keep := [0, 1, 7] })], joins := [] }
def V_slices_IndexFunc_int (s : D) (f : D) (σ : Store) (Qp : RV → Store → Prop) : Prop :=
 ∃ len : Nat, (Len s len) ∧ ∃ I : Int → Store → Prop, ∃ μ : Int → Store → Nat, (I 0 σ) ∧ ∀ n : Int, ∀ Z, (I n Z) → bcase (decide (n < (len : Int))) (∃ len1 : Nat, (Idx Tryz.prog Z s 1 len1) ∧ ((0 : Int) ≤ n) ∧ (n < (len1 : Int)) ∧ ∃ row : List D, (Row Z s (Int.toNat n) row) ∧ ∃ n1 : Int, ((List.take 1 row) = ([.int .i64 n1] : List D)) ∧ ∃ f1 : FuncId, ∃ a : List (Bool × (List D)), ∃ b : List (Bool × (List D)), ∃ as0' : List A, ∃ bs : List A, (f = (.fn f1 a b : D)) ∧ ((capAs a) = (Option.some as0')) ∧ ((capAs b) = (Option.some bs)) ∧ DCalls Tryz.prog f1 (HAppend.hAppend (HAppend.hAppend as0' [.one (.int .i64 n1)]) bs) Z (fun r Z1 => ∃ b1 : Bool, (r = (.a (.one (.bool b1)) : RV)) ∧ bcase b1 (Qp (.a (.one (.int .i64 n))) Z1) ((I (w64 (n + 1)) Z1) ∧ ((μ (w64 (n + 1)) Z1) < (μ n Z))))) (Qp (.a (.one (.int .i64 (-1)))) Z)
theorem W_slices_IndexFunc_int (s : D) (f : D) (σ : Store) (Qp : RV → Store → Prop) (h : V_slices_IndexFunc_int s f σ Qp) : DCalls Tryz.prog n_slices_IndexFunc_int [.one s, .one f] σ Qp :=
 dcalls_of_body mixed (by kernel_rfl) Tryz.func98 an_slices_IndexFunc_int (Eq.mp (by kernel_rfl) h)
def an_conf_plan_flank_1 : Ann := { esc := [], cbs := [2], draws := [], loops := [], joins := [] }
def V_conf_plan_flank_1 (n0 : Int) (n1 : Int) (a1 : D) (σ : Store) (Qp : RV → Store → Prop) : Prop :=
 ∃ s : D, ∃ i off : Nat, (a1 = (.el s i off : D)) ∧ ∃ row : List D, (Row σ s i row) ∧ ∃ n : Int, ((List.take 1 (List.drop off row)) = ([.int .i64 n] : List D)) ∧ Qp (.a (.one (.bool (n0 == n)))) σ
theorem W_conf_plan_flank_1 (n0 : Int) (n1 : Int) (a1 : D) (σ : Store) (Qp : RV → Store → Prop) (h : V_conf_plan_flank_1 n0 n1 a1 σ Qp) : DCalls Tryz.prog n_conf_plan_flank_1 [.agg [.int .i64 n0, .int .i64 n1], .one a1] σ Qp :=
 dcalls_of_body mixed (by kernel_rfl) Tryz.func102 an_conf_plan_flank_1 (Eq.mp (by kernel_rfl) h)
def an_conf_words_route_1 : Ann := { esc := [], cbs := [], draws := [], loops := [], joins := [], splits := [(0, (DT.split 1 3 (DT.split 4 3 (DT.split 6 3 (DT.leaf { ord := [0, 1, 2, 4, 6, 3, 5, 7, 8, 9, 10, 11, 12], nb := [], av := [], dir := [] }) (DT.split 6 5 (DT.leaf { ord := [0, 1, 2, 4, 3, 6, 5, 7, 8, 9, 10, 11, 12], nb := [], av := [], dir := [] }) (DT.leaf { ord := [0, 1, 2, 4, 3, 5, 6, 7, 8, 9, 10, 11, 12], nb := [], av := [], dir := [] }))) (DT.split 6 3 (DT.leaf { ord := [0, 1, 2, 6, 3, 4, 5, 7, 8, 9, 10, 11, 12], nb := [], av := [], dir := [] }) (DT.split 6 5 (DT.leaf { ord := [0, 1, 2, 3, 4, 6, 5, 7, 8, 9, 10, 11, 12], nb := [], av := [], dir := [] }) (DT.leaf { ord := [0, 1, 2, 3, 4, 5, 6, 7, 8, 9, 10, 11, 12], nb := [], av := [], dir := [] })))) (DT.split 4 3 (DT.split 6 3 (DT.split 1 5 (DT.leaf { ord := [0, 2, 4, 6, 3, 1, 5, 7, 8, 9, 10, 11, 12], nb := [], av := [], dir := [] }) (DT.split 1 7 (DT.leaf { ord := [0, 2, 4, 6, 3, 5, 1, 7, 8, 9, 10, 11, 12], nb := [], av := [], dir := [] }) (DT.leaf { ord := [0, 2, 4, 6, 3, 5, 7, 1, 8, 9, 10, 11, 12], nb := [], av := [], dir := [] }))) (DT.split 1 5 (DT.split 6 5 (DT.leaf { ord := [0, 2, 4, 3, 1, 6, 5, 7, 8, 9, 10, 11, 12], nb := [], av := [], dir := [] }) (DT.leaf { ord := [0, 2, 4, 3, 1, 5, 6, 7, 8, 9, 10, 11, 12], nb := [], av := [], dir := [] })) (DT.split 6 5 (DT.split 1 7 (DT.leaf { ord := [0, 2, 4, 3, 6, 5, 1, 7, 8, 9, 10, 11, 12], nb := [], av := [], dir := [] }) (DT.leaf { ord := [0, 2, 4, 3, 6, 5, 7, 1, 8, 9, 10, 11, 12], nb := [], av := [], dir := [] })) (DT.split 1 7 (DT.leaf { ord := [0, 2, 4, 3, 5, 1, 6, 7, 8, 9, 10, 11, 12], nb := [], av := [], dir := [] }) (DT.leaf { ord := [0, 2, 4, 3, 5, 6, 7, 1, 8, 9, 10, 11, 12], nb := [], av := [], dir := [] }))))) (DT.split 6 3 (DT.split 1 5 (DT.leaf { ord := [0, 2, 6, 3, 1, 4, 5, 7, 8, 9, 10, 11, 12], nb := [], av := [], dir := [] }) (DT.split 1 7 (DT.leaf { ord := [0, 2, 6, 3, 4, 5, 1, 7, 8, 9, 10, 11, 12], nb := [], av := [], dir := [] }) (DT.leaf { ord := [0, 2, 6, 3, 4, 5, 7, 1, 8, 9, 10, 11, 12], nb := [], av := [], dir := [] }))) (DT.split 1 5 (DT.split 6 5 (DT.leaf { ord := [0, 2, 3, 1, 4, 6, 5, 7, 8, 9, 10, 11, 12], nb := [], av := [], dir := [] }) (DT.leaf { ord := [0, 2, 3, 1, 4, 5, 6, 7, 8, 9, 10, 11, 12], nb := [], av := [], dir := [] })) (DT.split 6 5 (DT.split 1 7 (DT.leaf { ord := [0, 2, 3, 4, 6, 5, 1, 7, 8, 9, 10, 11, 12], nb := [], av := [], dir := [] }) (DT.leaf { ord := [0, 2, 3, 4, 6, 5, 7, 1, 8, 9, 10, 11, 12], nb := [], av := [], dir := [] })) (DT.split 1 7 (DT.leaf { ord := [0, 2, 3, 4, 5, 1, 6, 7, 8, 9, 10, 11, 12], nb := [], av := [], dir := [] }) (DT.leaf { ord := [0, 2, 3, 4, 5, 6, 7, 1, 8, 9, 10, 11, 12], nb := [], av := [], dir := [] }))))))))] }
def V_conf_words_route_1 (a0 : D) (a1 : D) (σ : Store) (Qp : RV → Store → Prop) : Prop :=
 (((∃ s : D, ∃ i off : Nat, (a0 = (.el s i off : D)) ∧ ∃ row : List D, (Row σ s i row) ∧ ∃ d : D, ((List.take 1 (List.drop (off + 2) row)) = ([d] : List D)) ∧ ∃ s1 : D, ∃ i1 off1 : Nat, (a1 = (.el s1 i1 off1 : D)) ∧ ∃ row1 : List D, (Row σ s1 i1 row1) ∧ ∃ d1 : D, ((List.take 1 (List.drop off1 row1)) = ([d1] : List D)) ∧ ∃ s2 : D, ∃ i2 off2 : Nat, (a1 = (.el s2 i2 off2 : D)) ∧ ∃ row2 : List D, (Row σ s2 i2 row2) ∧ ∃ d2 : D, ((List.take 1 (List.drop off2 row2)) = ([d2] : List D)) ∧ ∃ s3 : D, ∃ i3 off3 : Nat, (a1 = (.el s3 i3 off3 : D)) ∧ ∃ row3 : List D, (Row σ s3 i3 row3) ∧ ∃ d3 : D, ((List.take 1 (List.drop off3 row3)) = ([d3] : List D)) ∧ DCalls Tryz.prog n_conf_words_num [.one d1] σ (fun r Z => ∃ n : Int, (r = (.a (.one (.int .i64 n)) : RV)) ∧ DCalls Tryz.prog n_conf_words_num [.one d2] Z (fun r1 Z1 => ∃ n1 : Int, (r1 = (.a (.one (.int .i64 n1)) : RV)) ∧ DCalls Tryz.prog n_conf_words_num [.one d3] Z1 (fun r2 Z2 => ∃ n2 : Int, (r2 = (.a (.one (.int .i64 n2)) : RV)) ∧ Fw.newObj Z2 (.live t_Step [[.int .i64 n, .int .i64 n1, .int .i64 n2]]) (fun id Z3 => appendTo Tryz.prog Z3 t_Step 24 d (.osl id 0 1) (fun d4 Z4 => ∃ s4 : D, ∃ i4 off4 : Nat, (a0 = (.el s4 i4 off4 : D)) ∧ storeEl [d4] Z4 s4 i4 (off4 + 2) (fun Z5 => Qp (.tup []) Z5))))))) ∧ (∃ s : D, ∃ i off : Nat, (a0 = (.el s i off : D)) ∧ ∃ row : List D, (Row σ s i row) ∧ ∃ d : D, ((List.take 1 (List.drop (off + 2) row)) = ([d] : List D)) ∧ ∃ s1 : D, ∃ i1 off1 : Nat, (a1 = (.el s1 i1 off1 : D)) ∧ ∃ row1 : List D, (Row σ s1 i1 row1) ∧ ∃ d1 : D, ((List.take 1 (List.drop off1 row1)) = ([d1] : List D)) ∧ ∃ s2 : D, ∃ i2 off2 : Nat, (a1 = (.el s2 i2 off2 : D)) ∧ ∃ row2 : List D, (Row σ s2 i2 row2) ∧ ∃ d2 : D, ((List.take 1 (List.drop off2 row2)) = ([d2] : List D)) ∧ DCalls Tryz.prog n_conf_words_num [.one d1] σ (fun r Z => ∃ n : Int, (r = (.a (.one (.int .i64 n)) : RV)) ∧ ∃ s3 : D, ∃ i3 off3 : Nat, (a1 = (.el s3 i3 off3 : D)) ∧ ∃ row3 : List D, (Row Z s3 i3 row3) ∧ ∃ d3 : D, ((List.take 1 (List.drop off3 row3)) = ([d3] : List D)) ∧ DCalls Tryz.prog n_conf_words_num [.one d2] Z (fun r1 Z1 => ∃ n1 : Int, (r1 = (.a (.one (.int .i64 n1)) : RV)) ∧ DCalls Tryz.prog n_conf_words_num [.one d3] Z1 (fun r2 Z2 => ∃ n2 : Int, (r2 = (.a (.one (.int .i64 n2)) : RV)) ∧ Fw.newObj Z2 (.live t_Step [[.int .i64 n, .int .i64 n1, .int .i64 n2]]) (fun id Z3 => appendTo Tryz.prog Z3 t_Step 24 d (.osl id 0 1) (fun d4 Z4 => ∃ s4 : D, ∃ i4 off4 : Nat, (a0 = (.el s4 i4 off4 : D)) ∧ storeEl [d4] Z4 s4 i4 (off4 + 2) (fun Z5 => Qp (.tup []) Z5))))))) ∧ ∃ s : D, ∃ i off : Nat, (a0 = (.el s i off : D)) ∧ ∃ row : List D, (Row σ s i row) ∧ ∃ d : D, ((List.take 1 (List.drop (off + 2) row)) = ([d] : List D)) ∧ ∃ s1 : D, ∃ i1 off1 : Nat, (a1 = (.el s1 i1 off1 : D)) ∧ ∃ row1 : List D, (Row σ s1 i1 row1) ∧ ∃ d1 : D, ((List.take 1 (List.drop off1 row1)) = ([d1] : List D)) ∧ ∃ s2 : D, ∃ i2 off2 : Nat, (a1 = (.el s2 i2 off2 : D)) ∧ ∃ row2 : List D, (Row σ s2 i2 row2) ∧ ∃ d2 : D, ((List.take 1 (List.drop off2 row2)) = ([d2] : List D)) ∧ DCalls Tryz.prog n_conf_words_num [.one d1] σ (fun r Z => ∃ n : Int, (r = (.a (.one (.int .i64 n)) : RV)) ∧ DCalls Tryz.prog n_conf_words_num [.one d2] Z (fun r1 Z1 => ∃ n1 : Int, (r1 = (.a (.one (.int .i64 n1)) : RV)) ∧ ∃ s3 : D, ∃ i3 off3 : Nat, (a1 = (.el s3 i3 off3 : D)) ∧ ∃ row3 : List D, (Row Z1 s3 i3 row3) ∧ ∃ d3 : D, ((List.take 1 (List.drop off3 row3)) = ([d3] : List D)) ∧ DCalls Tryz.prog n_conf_words_num [.one d3] Z1 (fun r2 Z2 => ∃ n2 : Int, (r2 = (.a (.one (.int .i64 n2)) : RV)) ∧ Fw.newObj Z2 (.live t_Step [[.int .i64 n, .int .i64 n1, .int .i64 n2]]) (fun id Z3 => appendTo Tryz.prog Z3 t_Step 24 d (.osl id 0 1) (fun d4 Z4 => ∃ s4 : D, ∃ i4 off4 : Nat, (a0 = (.el s4 i4 off4 : D)) ∧ storeEl [d4] Z4 s4 i4 (off4 + 2) (fun Z5 => Qp (.tup []) Z5))))))) ∧ (∃ s : D, ∃ i off : Nat, (a0 = (.el s i off : D)) ∧ ∃ row : List D, (Row σ s i row) ∧ ∃ d : D, ((List.take 1 (List.drop (off + 2) row)) = ([d] : List D)) ∧ ∃ s1 : D, ∃ i1 off1 : Nat, (a1 = (.el s1 i1 off1 : D)) ∧ ∃ row1 : List D, (Row σ s1 i1 row1) ∧ ∃ d1 : D, ((List.take 1 (List.drop off1 row1)) = ([d1] : List D)) ∧ ∃ s2 : D, ∃ i2 off2 : Nat, (a1 = (.el s2 i2 off2 : D)) ∧ ∃ row2 : List D, (Row σ s2 i2 row2) ∧ ∃ d2 : D, ((List.take 1 (List.drop off2 row2)) = ([d2] : List D)) ∧ DCalls Tryz.prog n_conf_words_num [.one d1] σ (fun r Z => ∃ n : Int, (r = (.a (.one (.int .i64 n)) : RV)) ∧ ∃ s3 : D, ∃ i3 off3 : Nat, (a1 = (.el s3 i3 off3 : D)) ∧ ∃ row3 : List D, (Row Z s3 i3 row3) ∧ ∃ d3 : D, ((List.take 1 (List.drop off3 row3)) = ([d3] : List D)) ∧ DCalls Tryz.prog n_conf_words_num [.one d3] Z (fun r1 Z1 => ∃ n1 : Int, (r1 = (.a (.one (.int .i64 n1)) : RV)) ∧ DCalls Tryz.prog n_conf_words_num [.one d2] Z1 (fun r2 Z2 => ∃ n2 : Int, (r2 = (.a (.one (.int .i64 n2)) : RV)) ∧ Fw.newObj Z2 (.live t_Step [[.int .i64 n, .int .i64 n1, .int .i64 n2]]) (fun id Z3 => appendTo Tryz.prog Z3 t_Step 24 d (.osl id 0 1) (fun d4 Z4 => ∃ s4 : D, ∃ i4 off4 : Nat, (a0 = (.el s4 i4 off4 : D)) ∧ storeEl [d4] Z4 s4 i4 (off4 + 2) (fun Z5 => Qp (.tup []) Z5))))))) ∧ (∃ s : D, ∃ i off : Nat, (a0 = (.el s i off : D)) ∧ ∃ row : List D, (Row σ s i row) ∧ ∃ d : D, ((List.take 1 (List.drop (off + 2) row)) = ([d] : List D)) ∧ ∃ s1 : D, ∃ i1 off1 : Nat, (a1 = (.el s1 i1 off1 : D)) ∧ ∃ row1 : List D, (Row σ s1 i1 row1) ∧ ∃ d1 : D, ((List.take 1 (List.drop off1 row1)) = ([d1] : List D)) ∧ DCalls Tryz.prog n_conf_words_num [.one d1] σ (fun r Z => ∃ n : Int, (r = (.a (.one (.int .i64 n)) : RV)) ∧ ∃ s2 : D, ∃ i2 off2 : Nat, (a1 = (.el s2 i2 off2 : D)) ∧ ∃ row2 : List D, (Row Z s2 i2 row2) ∧ ∃ d2 : D, ((List.take 1 (List.drop off2 row2)) = ([d2] : List D)) ∧ ∃ s3 : D, ∃ i3 off3 : Nat, (a1 = (.el s3 i3 off3 : D)) ∧ ∃ row3 : List D, (Row Z s3 i3 row3) ∧ ∃ d3 : D, ((List.take 1 (List.drop off3 row3)) = ([d3] : List D)) ∧ DCalls Tryz.prog n_conf_words_num [.one d2] Z (fun r1 Z1 => ∃ n1 : Int, (r1 = (.a (.one (.int .i64 n1)) : RV)) ∧ DCalls Tryz.prog n_conf_words_num [.one d3] Z1 (fun r2 Z2 => ∃ n2 : Int, (r2 = (.a (.one (.int .i64 n2)) : RV)) ∧ Fw.newObj Z2 (.live t_Step [[.int .i64 n, .int .i64 n1, .int .i64 n2]]) (fun id Z3 => appendTo Tryz.prog Z3 t_Step 24 d (.osl id 0 1) (fun d4 Z4 => ∃ s4 : D, ∃ i4 off4 : Nat, (a0 = (.el s4 i4 off4 : D)) ∧ storeEl [d4] Z4 s4 i4 (off4 + 2) (fun Z5 => Qp (.tup []) Z5))))))) ∧ ∃ s : D, ∃ i off : Nat, (a0 = (.el s i off : D)) ∧ ∃ row : List D, (Row σ s i row) ∧ ∃ d : D, ((List.take 1 (List.drop (off + 2) row)) = ([d] : List D)) ∧ ∃ s1 : D, ∃ i1 off1 : Nat, (a1 = (.el s1 i1 off1 : D)) ∧ ∃ row1 : List D, (Row σ s1 i1 row1) ∧ ∃ d1 : D, ((List.take 1 (List.drop off1 row1)) = ([d1] : List D)) ∧ DCalls Tryz.prog n_conf_words_num [.one d1] σ (fun r Z => ∃ n : Int, (r = (.a (.one (.int .i64 n)) : RV)) ∧ ∃ s2 : D, ∃ i2 off2 : Nat, (a1 = (.el s2 i2 off2 : D)) ∧ ∃ row2 : List D, (Row Z s2 i2 row2) ∧ ∃ d2 : D, ((List.take 1 (List.drop off2 row2)) = ([d2] : List D)) ∧ DCalls Tryz.prog n_conf_words_num [.one d2] Z (fun r1 Z1 => ∃ n1 : Int, (r1 = (.a (.one (.int .i64 n1)) : RV)) ∧ ∃ s3 : D, ∃ i3 off3 : Nat, (a1 = (.el s3 i3 off3 : D)) ∧ ∃ row3 : List D, (Row Z1 s3 i3 row3) ∧ ∃ d3 : D, ((List.take 1 (List.drop off3 row3)) = ([d3] : List D)) ∧ DCalls Tryz.prog n_conf_words_num [.one d3] Z1 (fun r2 Z2 => ∃ n2 : Int, (r2 = (.a (.one (.int .i64 n2)) : RV)) ∧ Fw.newObj Z2 (.live t_Step [[.int .i64 n, .int .i64 n1, .int .i64 n2]]) (fun id Z3 => appendTo Tryz.prog Z3 t_Step 24 d (.osl id 0 1) (fun d4 Z4 => ∃ s4 : D, ∃ i4 off4 : Nat, (a0 = (.el s4 i4 off4 : D)) ∧ storeEl [d4] Z4 s4 i4 (off4 + 2) (fun Z5 => Qp (.tup []) Z5))))))) ∧ (((∃ s : D, ∃ i off : Nat, (a0 = (.el s i off : D)) ∧ ∃ s1 : D, ∃ i1 off1 : Nat, (a1 = (.el s1 i1 off1 : D)) ∧ ∃ row : List D, (Row σ s1 i1 row) ∧ ∃ d : D, ((List.take 1 (List.drop off1 row)) = ([d] : List D)) ∧ ∃ s2 : D, ∃ i2 off2 : Nat, (a1 = (.el s2 i2 off2 : D)) ∧ ∃ row1 : List D, (Row σ s2 i2 row1) ∧ ∃ d1 : D, ((List.take 1 (List.drop off2 row1)) = ([d1] : List D)) ∧ ∃ s3 : D, ∃ i3 off3 : Nat, (a1 = (.el s3 i3 off3 : D)) ∧ ∃ row2 : List D, (Row σ s3 i3 row2) ∧ ∃ d2 : D, ((List.take 1 (List.drop off3 row2)) = ([d2] : List D)) ∧ DCalls Tryz.prog n_conf_words_num [.one d] σ (fun r Z => ∃ n : Int, (r = (.a (.one (.int .i64 n)) : RV)) ∧ ∃ row3 : List D, (Row Z s i row3) ∧ ∃ d3 : D, ((List.take 1 (List.drop (off + 2) row3)) = ([d3] : List D)) ∧ DCalls Tryz.prog n_conf_words_num [.one d1] Z (fun r1 Z1 => ∃ n1 : Int, (r1 = (.a (.one (.int .i64 n1)) : RV)) ∧ DCalls Tryz.prog n_conf_words_num [.one d2] Z1 (fun r2 Z2 => ∃ n2 : Int, (r2 = (.a (.one (.int .i64 n2)) : RV)) ∧ Fw.newObj Z2 (.live t_Step [[.int .i64 n, .int .i64 n1, .int .i64 n2]]) (fun id Z3 => appendTo Tryz.prog Z3 t_Step 24 d3 (.osl id 0 1) (fun d4 Z4 => ∃ s4 : D, ∃ i4 off4 : Nat, (a0 = (.el s4 i4 off4 : D)) ∧ storeEl [d4] Z4 s4 i4 (off4 + 2) (fun Z5 => Qp (.tup []) Z5))))))) ∧ (∃ s : D, ∃ i off : Nat, (a0 = (.el s i off : D)) ∧ ∃ s1 : D, ∃ i1 off1 : Nat, (a1 = (.el s1 i1 off1 : D)) ∧ ∃ row : List D, (Row σ s1 i1 row) ∧ ∃ d : D, ((List.take 1 (List.drop off1 row)) = ([d] : List D)) ∧ ∃ s2 : D, ∃ i2 off2 : Nat, (a1 = (.el s2 i2 off2 : D)) ∧ ∃ row1 : List D, (Row σ s2 i2 row1) ∧ ∃ d1 : D, ((List.take 1 (List.drop off2 row1)) = ([d1] : List D)) ∧ ∃ s3 : D, ∃ i3 off3 : Nat, (a1 = (.el s3 i3 off3 : D)) ∧ ∃ row2 : List D, (Row σ s3 i3 row2) ∧ ∃ d2 : D, ((List.take 1 (List.drop off3 row2)) = ([d2] : List D)) ∧ DCalls Tryz.prog n_conf_words_num [.one d] σ (fun r Z => ∃ n : Int, (r = (.a (.one (.int .i64 n)) : RV)) ∧ DCalls Tryz.prog n_conf_words_num [.one d1] Z (fun r1 Z1 => ∃ n1 : Int, (r1 = (.a (.one (.int .i64 n1)) : RV)) ∧ ∃ row3 : List D, (Row Z1 s i row3) ∧ ∃ d3 : D, ((List.take 1 (List.drop (off + 2) row3)) = ([d3] : List D)) ∧ DCalls Tryz.prog n_conf_words_num [.one d2] Z1 (fun r2 Z2 => ∃ n2 : Int, (r2 = (.a (.one (.int .i64 n2)) : RV)) ∧ Fw.newObj Z2 (.live t_Step [[.int .i64 n, .int .i64 n1, .int .i64 n2]]) (fun id Z3 => appendTo Tryz.prog Z3 t_Step 24 d3 (.osl id 0 1) (fun d4 Z4 => ∃ s4 : D, ∃ i4 off4 : Nat, (a0 = (.el s4 i4 off4 : D)) ∧ storeEl [d4] Z4 s4 i4 (off4 + 2) (fun Z5 => Qp (.tup []) Z5))))))) ∧ ∃ s : D, ∃ i off : Nat, (a0 = (.el s i off : D)) ∧ ∃ s1 : D, ∃ i1 off1 : Nat, (a1 = (.el s1 i1 off1 : D)) ∧ ∃ row : List D, (Row σ s1 i1 row) ∧ ∃ d : D, ((List.take 1 (List.drop off1 row)) = ([d] : List D)) ∧ ∃ s2 : D, ∃ i2 off2 : Nat, (a1 = (.el s2 i2 off2 : D)) ∧ ∃ row1 : List D, (Row σ s2 i2 row1) ∧ ∃ d1 : D, ((List.take 1 (List.drop off2 row1)) = ([d1] : List D)) ∧ ∃ s3 : D, ∃ i3 off3 : Nat, (a1 = (.el s3 i3 off3 : D)) ∧ ∃ row2 : List D, (Row σ s3 i3 row2) ∧ ∃ d2 : D, ((List.take 1 (List.drop off3 row2)) = ([d2] : List D)) ∧ DCalls Tryz.prog n_conf_words_num [.one d] σ (fun r Z => ∃ n : Int, (r = (.a (.one (.int .i64 n)) : RV)) ∧ DCalls Tryz.prog n_conf_words_num [.one d1] Z (fun r1 Z1 => ∃ n1 : Int, (r1 = (.a (.one (.int .i64 n1)) : RV)) ∧ DCalls Tryz.prog n_conf_words_num [.one d2] Z1 (fun r2 Z2 => ∃ n2 : Int, (r2 = (.a (.one (.int .i64 n2)) : RV)) ∧ ∃ row3 : List D, (Row Z2 s i row3) ∧ ∃ d3 : D, ((List.take 1 (List.drop (off + 2) row3)) = ([d3] : List D)) ∧ Fw.newObj Z2 (.live t_Step [[.int .i64 n, .int .i64 n1, .int .i64 n2]]) (fun id Z3 => appendTo Tryz.prog Z3 t_Step 24 d3 (.osl id 0 1) (fun d4 Z4 => ∃ s4 : D, ∃ i4 off4 : Nat, (a0 = (.el s4 i4 off4 : D)) ∧ storeEl [d4] Z4 s4 i4 (off4 + 2) (fun Z5 => Qp (.tup []) Z5))))))) ∧ ((∃ s : D, ∃ i off : Nat, (a0 = (.el s i off : D)) ∧ ∃ s1 : D, ∃ i1 off1 : Nat, (a1 = (.el s1 i1 off1 : D)) ∧ ∃ row : List D, (Row σ s1 i1 row) ∧ ∃ d : D, ((List.take 1 (List.drop off1 row)) = ([d] : List D)) ∧ ∃ s2 : D, ∃ i2 off2 : Nat, (a1 = (.el s2 i2 off2 : D)) ∧ ∃ row1 : List D, (Row σ s2 i2 row1) ∧ ∃ d1 : D, ((List.take 1 (List.drop off2 row1)) = ([d1] : List D)) ∧ DCalls Tryz.prog n_conf_words_num [.one d] σ (fun r Z => ∃ n : Int, (r = (.a (.one (.int .i64 n)) : RV)) ∧ ∃ row2 : List D, (Row Z s i row2) ∧ ∃ d2 : D, ((List.take 1 (List.drop (off + 2) row2)) = ([d2] : List D)) ∧ ∃ s3 : D, ∃ i3 off3 : Nat, (a1 = (.el s3 i3 off3 : D)) ∧ ∃ row3 : List D, (Row Z s3 i3 row3) ∧ ∃ d3 : D, ((List.take 1 (List.drop off3 row3)) = ([d3] : List D)) ∧ DCalls Tryz.prog n_conf_words_num [.one d1] Z (fun r1 Z1 => ∃ n1 : Int, (r1 = (.a (.one (.int .i64 n1)) : RV)) ∧ DCalls Tryz.prog n_conf_words_num [.one d3] Z1 (fun r2 Z2 => ∃ n2 : Int, (r2 = (.a (.one (.int .i64 n2)) : RV)) ∧ Fw.newObj Z2 (.live t_Step [[.int .i64 n, .int .i64 n1, .int .i64 n2]]) (fun id Z3 => appendTo Tryz.prog Z3 t_Step 24 d2 (.osl id 0 1) (fun d4 Z4 => ∃ s4 : D, ∃ i4 off4 : Nat, (a0 = (.el s4 i4 off4 : D)) ∧ storeEl [d4] Z4 s4 i4 (off4 + 2) (fun Z5 => Qp (.tup []) Z5))))))) ∧ ∃ s : D, ∃ i off : Nat, (a0 = (.el s i off : D)) ∧ ∃ s1 : D, ∃ i1 off1 : Nat, (a1 = (.el s1 i1 off1 : D)) ∧ ∃ row : List D, (Row σ s1 i1 row) ∧ ∃ d : D, ((List.take 1 (List.drop off1 row)) = ([d] : List D)) ∧ ∃ s2 : D, ∃ i2 off2 : Nat, (a1 = (.el s2 i2 off2 : D)) ∧ ∃ row1 : List D, (Row σ s2 i2 row1) ∧ ∃ d1 : D, ((List.take 1 (List.drop off2 row1)) = ([d1] : List D)) ∧ DCalls Tryz.prog n_conf_words_num [.one d] σ (fun r Z => ∃ n : Int, (r = (.a (.one (.int .i64 n)) : RV)) ∧ ∃ row2 : List D, (Row Z s i row2) ∧ ∃ d2 : D, ((List.take 1 (List.drop (off + 2) row2)) = ([d2] : List D)) ∧ DCalls Tryz.prog n_conf_words_num [.one d1] Z (fun r1 Z1 => ∃ n1 : Int, (r1 = (.a (.one (.int .i64 n1)) : RV)) ∧ ∃ s3 : D, ∃ i3 off3 : Nat, (a1 = (.el s3 i3 off3 : D)) ∧ ∃ row3 : List D, (Row Z1 s3 i3 row3) ∧ ∃ d3 : D, ((List.take 1 (List.drop off3 row3)) = ([d3] : List D)) ∧ DCalls Tryz.prog n_conf_words_num [.one d3] Z1 (fun r2 Z2 => ∃ n2 : Int, (r2 = (.a (.one (.int .i64 n2)) : RV)) ∧ Fw.newObj Z2 (.live t_Step [[.int .i64 n, .int .i64 n1, .int .i64 n2]]) (fun id Z3 => appendTo Tryz.prog Z3 t_Step 24 d2 (.osl id 0 1) (fun d4 Z4 => ∃ s4 : D, ∃ i4 off4 : Nat, (a0 = (.el s4 i4 off4 : D)) ∧ storeEl [d4] Z4 s4 i4 (off4 + 2) (fun Z5 => Qp (.tup []) Z5))))))) ∧ ((∃ s : D, ∃ i off : Nat, (a0 = (.el s i off : D)) ∧ ∃ s1 : D, ∃ i1 off1 : Nat, (a1 = (.el s1 i1 off1 : D)) ∧ ∃ row : List D, (Row σ s1 i1 row) ∧ ∃ d : D, ((List.take 1 (List.drop off1 row)) = ([d] : List D)) ∧ ∃ s2 : D, ∃ i2 off2 : Nat, (a1 = (.el s2 i2 off2 : D)) ∧ ∃ row1 : List D, (Row σ s2 i2 row1) ∧ ∃ d1 : D, ((List.take 1 (List.drop off2 row1)) = ([d1] : List D)) ∧ DCalls Tryz.prog n_conf_words_num [.one d] σ (fun r Z => ∃ n : Int, (r = (.a (.one (.int .i64 n)) : RV)) ∧ ∃ s3 : D, ∃ i3 off3 : Nat, (a1 = (.el s3 i3 off3 : D)) ∧ ∃ row2 : List D, (Row Z s3 i3 row2) ∧ ∃ d2 : D, ((List.take 1 (List.drop off3 row2)) = ([d2] : List D)) ∧ DCalls Tryz.prog n_conf_words_num [.one d1] Z (fun r1 Z1 => ∃ n1 : Int, (r1 = (.a (.one (.int .i64 n1)) : RV)) ∧ ∃ row3 : List D, (Row Z1 s i row3) ∧ ∃ d3 : D, ((List.take 1 (List.drop (off + 2) row3)) = ([d3] : List D)) ∧ DCalls Tryz.prog n_conf_words_num [.one d2] Z1 (fun r2 Z2 => ∃ n2 : Int, (r2 = (.a (.one (.int .i64 n2)) : RV)) ∧ Fw.newObj Z2 (.live t_Step [[.int .i64 n, .int .i64 n1, .int .i64 n2]]) (fun id Z3 => appendTo Tryz.prog Z3 t_Step 24 d3 (.osl id 0 1) (fun d4 Z4 => ∃ s4 : D, ∃ i4 off4 : Nat, (a0 = (.el s4 i4 off4 : D)) ∧ storeEl [d4] Z4 s4 i4 (off4 + 2) (fun Z5 => Qp (.tup []) Z5))))))) ∧ ∃ s : D, ∃ i off : Nat, (a0 = (.el s i off : D)) ∧ ∃ s1 : D, ∃ i1 off1 : Nat, (a1 = (.el s1 i1 off1 : D)) ∧ ∃ row : List D, (Row σ s1 i1 row) ∧ ∃ d : D, ((List.take 1 (List.drop off1 row)) = ([d] : List D)) ∧ ∃ s2 : D, ∃ i2 off2 : Nat, (a1 = (.el s2 i2 off2 : D)) ∧ ∃ row1 : List D, (Row σ s2 i2 row1) ∧ ∃ d1 : D, ((List.take 1 (List.drop off2 row1)) = ([d1] : List D)) ∧ DCalls Tryz.prog n_conf_words_num [.one d] σ (fun r Z => ∃ n : Int, (r = (.a (.one (.int .i64 n)) : RV)) ∧ ∃ s3 : D, ∃ i3 off3 : Nat, (a1 = (.el s3 i3 off3 : D)) ∧ ∃ row2 : List D, (Row Z s3 i3 row2) ∧ ∃ d2 : D, ((List.take 1 (List.drop off3 row2)) = ([d2] : List D)) ∧ DCalls Tryz.prog n_conf_words_num [.one d1] Z (fun r1 Z1 => ∃ n1 : Int, (r1 = (.a (.one (.int .i64 n1)) : RV)) ∧ DCalls Tryz.prog n_conf_words_num [.one d2] Z1 (fun r2 Z2 => ∃ n2 : Int, (r2 = (.a (.one (.int .i64 n2)) : RV)) ∧ ∃ row3 : List D, (Row Z2 s i row3) ∧ ∃ d3 : D, ((List.take 1 (List.drop (off + 2) row3)) = ([d3] : List D)) ∧ Fw.newObj Z2 (.live t_Step [[.int .i64 n, .int .i64 n1, .int .i64 n2]]) (fun id Z3 => appendTo Tryz.prog Z3 t_Step 24 d3 (.osl id 0 1) (fun d4 Z4 => ∃ s4 : D, ∃ i4 off4 : Nat, (a0 = (.el s4 i4 off4 : D)) ∧ storeEl [d4] Z4 s4 i4 (off4 + 2) (fun Z5 => Qp (.tup []) Z5))))))) ∧ (∃ s : D, ∃ i off : Nat, (a0 = (.el s i off : D)) ∧ ∃ s1 : D, ∃ i1 off1 : Nat, (a1 = (.el s1 i1 off1 : D)) ∧ ∃ row : List D, (Row σ s1 i1 row) ∧ ∃ d : D, ((List.take 1 (List.drop off1 row)) = ([d] : List D)) ∧ ∃ s2 : D, ∃ i2 off2 : Nat, (a1 = (.el s2 i2 off2 : D)) ∧ ∃ row1 : List D, (Row σ s2 i2 row1) ∧ ∃ d1 : D, ((List.take 1 (List.drop off2 row1)) = ([d1] : List D)) ∧ DCalls Tryz.prog n_conf_words_num [.one d] σ (fun r Z => ∃ n : Int, (r = (.a (.one (.int .i64 n)) : RV)) ∧ DCalls Tryz.prog n_conf_words_num [.one d1] Z (fun r1 Z1 => ∃ n1 : Int, (r1 = (.a (.one (.int .i64 n1)) : RV)) ∧ ∃ row2 : List D, (Row Z1 s i row2) ∧ ∃ d2 : D, ((List.take 1 (List.drop (off + 2) row2)) = ([d2] : List D)) ∧ ∃ s3 : D, ∃ i3 off3 : Nat, (a1 = (.el s3 i3 off3 : D)) ∧ ∃ row3 : List D, (Row Z1 s3 i3 row3) ∧ ∃ d3 : D, ((List.take 1 (List.drop off3 row3)) = ([d3] : List D)) ∧ DCalls Tryz.prog n_conf_words_num [.one d3] Z1 (fun r2 Z2 => ∃ n2 : Int, (r2 = (.a (.one (.int .i64 n2)) : RV)) ∧ Fw.newObj Z2 (.live t_Step [[.int .i64 n, .int .i64 n1, .int .i64 n2]]) (fun id Z3 => appendTo Tryz.prog Z3 t_Step 24 d2 (.osl id 0 1) (fun d4 Z4 => ∃ s4 : D, ∃ i4 off4 : Nat, (a0 = (.el s4 i4 off4 : D)) ∧ storeEl [d4] Z4 s4 i4 (off4 + 2) (fun Z5 => Qp (.tup []) Z5))))))) ∧ ∃ s : D, ∃ i off : Nat, (a0 = (.el s i off : D)) ∧ ∃ s1 : D, ∃ i1 off1 : Nat, (a1 = (.el s1 i1 off1 : D)) ∧ ∃ row : List D, (Row σ s1 i1 row) ∧ ∃ d : D, ((List.take 1 (List.drop off1 row)) = ([d] : List D)) ∧ ∃ s2 : D, ∃ i2 off2 : Nat, (a1 = (.el s2 i2 off2 : D)) ∧ ∃ row1 : List D, (Row σ s2 i2 row1) ∧ ∃ d1 : D, ((List.take 1 (List.drop off2 row1)) = ([d1] : List D)) ∧ DCalls Tryz.prog n_conf_words_num [.one d] σ (fun r Z => ∃ n : Int, (r = (.a (.one (.int .i64 n)) : RV)) ∧ DCalls Tryz.prog n_conf_words_num [.one d1] Z (fun r1 Z1 => ∃ n1 : Int, (r1 = (.a (.one (.int .i64 n1)) : RV)) ∧ ∃ s3 : D, ∃ i3 off3 : Nat, (a1 = (.el s3 i3 off3 : D)) ∧ ∃ row2 : List D, (Row Z1 s3 i3 row2) ∧ ∃ d2 : D, ((List.take 1 (List.drop off3 row2)) = ([d2] : List D)) ∧ DCalls Tryz.prog n_conf_words_num [.one d2] Z1 (fun r2 Z2 => ∃ n2 : Int, (r2 = (.a (.one (.int .i64 n2)) : RV)) ∧ ∃ row3 : List D, (Row Z2 s i row3) ∧ ∃ d3 : D, ((List.take 1 (List.drop (off + 2) row3)) = ([d3] : List D)) ∧ Fw.newObj Z2 (.live t_Step [[.int .i64 n, .int .i64 n1, .int .i64 n2]]) (fun id Z3 => appendTo Tryz.prog Z3 t_Step 24 d3 (.osl id 0 1) (fun d4 Z4 => ∃ s4 : D, ∃ i4 off4 : Nat, (a0 = (.el s4 i4 off4 : D)) ∧ storeEl [d4] Z4 s4 i4 (off4 + 2) (fun Z5 => Qp (.tup []) Z5))))))) ∧ ((∃ s : D, ∃ i off : Nat, (a0 = (.el s i off : D)) ∧ ∃ s1 : D, ∃ i1 off1 : Nat, (a1 = (.el s1 i1 off1 : D)) ∧ ∃ row : List D, (Row σ s1 i1 row) ∧ ∃ d : D, ((List.take 1 (List.drop off1 row)) = ([d] : List D)) ∧ ∃ s2 : D, ∃ i2 off2 : Nat, (a1 = (.el s2 i2 off2 : D)) ∧ ∃ row1 : List D, (Row σ s2 i2 row1) ∧ ∃ d1 : D, ((List.take 1 (List.drop off2 row1)) = ([d1] : List D)) ∧ DCalls Tryz.prog n_conf_words_num [.one d] σ (fun r Z => ∃ n : Int, (r = (.a (.one (.int .i64 n)) : RV)) ∧ ∃ row2 : List D, (Row Z s i row2) ∧ ∃ d2 : D, ((List.take 1 (List.drop (off + 2) row2)) = ([d2] : List D)) ∧ ∃ s3 : D, ∃ i3 off3 : Nat, (a1 = (.el s3 i3 off3 : D)) ∧ ∃ row3 : List D, (Row Z s3 i3 row3) ∧ ∃ d3 : D, ((List.take 1 (List.drop off3 row3)) = ([d3] : List D)) ∧ DCalls Tryz.prog n_conf_words_num [.one d3] Z (fun r1 Z1 => ∃ n1 : Int, (r1 = (.a (.one (.int .i64 n1)) : RV)) ∧ DCalls Tryz.prog n_conf_words_num [.one d1] Z1 (fun r2 Z2 => ∃ n2 : Int, (r2 = (.a (.one (.int .i64 n2)) : RV)) ∧ Fw.newObj Z2 (.live t_Step [[.int .i64 n, .int .i64 n1, .int .i64 n2]]) (fun id Z3 => appendTo Tryz.prog Z3 t_Step 24 d2 (.osl id 0 1) (fun d4 Z4 => ∃ s4 : D, ∃ i4 off4 : Nat, (a0 = (.el s4 i4 off4 : D)) ∧ storeEl [d4] Z4 s4 i4 (off4 + 2) (fun Z5 => Qp (.tup []) Z5))))))) ∧ (∃ s : D, ∃ i off : Nat, (a0 = (.el s i off : D)) ∧ ∃ s1 : D, ∃ i1 off1 : Nat, (a1 = (.el s1 i1 off1 : D)) ∧ ∃ row : List D, (Row σ s1 i1 row) ∧ ∃ d : D, ((List.take 1 (List.drop off1 row)) = ([d] : List D)) ∧ ∃ s2 : D, ∃ i2 off2 : Nat, (a1 = (.el s2 i2 off2 : D)) ∧ ∃ row1 : List D, (Row σ s2 i2 row1) ∧ ∃ d1 : D, ((List.take 1 (List.drop off2 row1)) = ([d1] : List D)) ∧ DCalls Tryz.prog n_conf_words_num [.one d] σ (fun r Z => ∃ n : Int, (r = (.a (.one (.int .i64 n)) : RV)) ∧ ∃ s3 : D, ∃ i3 off3 : Nat, (a1 = (.el s3 i3 off3 : D)) ∧ ∃ row2 : List D, (Row Z s3 i3 row2) ∧ ∃ d2 : D, ((List.take 1 (List.drop off3 row2)) = ([d2] : List D)) ∧ DCalls Tryz.prog n_conf_words_num [.one d2] Z (fun r1 Z1 => ∃ n1 : Int, (r1 = (.a (.one (.int .i64 n1)) : RV)) ∧ ∃ row3 : List D, (Row Z1 s i row3) ∧ ∃ d3 : D, ((List.take 1 (List.drop (off + 2) row3)) = ([d3] : List D)) ∧ DCalls Tryz.prog n_conf_words_num [.one d1] Z1 (fun r2 Z2 => ∃ n2 : Int, (r2 = (.a (.one (.int .i64 n2)) : RV)) ∧ Fw.newObj Z2 (.live t_Step [[.int .i64 n, .int .i64 n1, .int .i64 n2]]) (fun id Z3 => appendTo Tryz.prog Z3 t_Step 24 d3 (.osl id 0 1) (fun d4 Z4 => ∃ s4 : D, ∃ i4 off4 : Nat, (a0 = (.el s4 i4 off4 : D)) ∧ storeEl [d4] Z4 s4 i4 (off4 + 2) (fun Z5 => Qp (.tup []) Z5))))))) ∧ ∃ s : D, ∃ i off : Nat, (a0 = (.el s i off : D)) ∧ ∃ s1 : D, ∃ i1 off1 : Nat, (a1 = (.el s1 i1 off1 : D)) ∧ ∃ row : List D, (Row σ s1 i1 row) ∧ ∃ d : D, ((List.take 1 (List.drop off1 row)) = ([d] : List D)) ∧ ∃ s2 : D, ∃ i2 off2 : Nat, (a1 = (.el s2 i2 off2 : D)) ∧ ∃ row1 : List D, (Row σ s2 i2 row1) ∧ ∃ d1 : D, ((List.take 1 (List.drop off2 row1)) = ([d1] : List D)) ∧ DCalls Tryz.prog n_conf_words_num [.one d] σ (fun r Z => ∃ n : Int, (r = (.a (.one (.int .i64 n)) : RV)) ∧ ∃ s3 : D, ∃ i3 off3 : Nat, (a1 = (.el s3 i3 off3 : D)) ∧ ∃ row2 : List D, (Row Z s3 i3 row2) ∧ ∃ d2 : D, ((List.take 1 (List.drop off3 row2)) = ([d2] : List D)) ∧ DCalls Tryz.prog n_conf_words_num [.one d2] Z (fun r1 Z1 => ∃ n1 : Int, (r1 = (.a (.one (.int .i64 n1)) : RV)) ∧ DCalls Tryz.prog n_conf_words_num [.one d1] Z1 (fun r2 Z2 => ∃ n2 : Int, (r2 = (.a (.one (.int .i64 n2)) : RV)) ∧ ∃ row3 : List D, (Row Z2 s i row3) ∧ ∃ d3 : D, ((List.take 1 (List.drop (off + 2) row3)) = ([d3] : List D)) ∧ Fw.newObj Z2 (.live t_Step [[.int .i64 n, .int .i64 n1, .int .i64 n2]]) (fun id Z3 => appendTo Tryz.prog Z3 t_Step 24 d3 (.osl id 0 1) (fun d4 Z4 => ∃ s4 : D, ∃ i4 off4 : Nat, (a0 = (.el s4 i4 off4 : D)) ∧ storeEl [d4] Z4 s4 i4 (off4 + 2) (fun Z5 => Qp (.tup []) Z5))))))) ∧ ((∃ s : D, ∃ i off : Nat, (a0 = (.el s i off : D)) ∧ ∃ s1 : D, ∃ i1 off1 : Nat, (a1 = (.el s1 i1 off1 : D)) ∧ ∃ row : List D, (Row σ s1 i1 row) ∧ ∃ d : D, ((List.take 1 (List.drop off1 row)) = ([d] : List D)) ∧ DCalls Tryz.prog n_conf_words_num [.one d] σ (fun r Z => ∃ n : Int, (r = (.a (.one (.int .i64 n)) : RV)) ∧ ∃ row1 : List D, (Row Z s i row1) ∧ ∃ d1 : D, ((List.take 1 (List.drop (off + 2) row1)) = ([d1] : List D)) ∧ ∃ s2 : D, ∃ i2 off2 : Nat, (a1 = (.el s2 i2 off2 : D)) ∧ ∃ row2 : List D, (Row Z s2 i2 row2) ∧ ∃ d2 : D, ((List.take 1 (List.drop off2 row2)) = ([d2] : List D)) ∧ ∃ s3 : D, ∃ i3 off3 : Nat, (a1 = (.el s3 i3 off3 : D)) ∧ ∃ row3 : List D, (Row Z s3 i3 row3) ∧ ∃ d3 : D, ((List.take 1 (List.drop off3 row3)) = ([d3] : List D)) ∧ DCalls Tryz.prog n_conf_words_num [.one d2] Z (fun r1 Z1 => ∃ n1 : Int, (r1 = (.a (.one (.int .i64 n1)) : RV)) ∧ DCalls Tryz.prog n_conf_words_num [.one d3] Z1 (fun r2 Z2 => ∃ n2 : Int, (r2 = (.a (.one (.int .i64 n2)) : RV)) ∧ Fw.newObj Z2 (.live t_Step [[.int .i64 n, .int .i64 n1, .int .i64 n2]]) (fun id Z3 => appendTo Tryz.prog Z3 t_Step 24 d1 (.osl id 0 1) (fun d4 Z4 => ∃ s4 : D, ∃ i4 off4 : Nat, (a0 = (.el s4 i4 off4 : D)) ∧ storeEl [d4] Z4 s4 i4 (off4 + 2) (fun Z5 => Qp (.tup []) Z5))))))) ∧ ∃ s : D, ∃ i off : Nat, (a0 = (.el s i off : D)) ∧ ∃ s1 : D, ∃ i1 off1 : Nat, (a1 = (.el s1 i1 off1 : D)) ∧ ∃ row : List D, (Row σ s1 i1 row) ∧ ∃ d : D, ((List.take 1 (List.drop off1 row)) = ([d] : List D)) ∧ DCalls Tryz.prog n_conf_words_num [.one d] σ (fun r Z => ∃ n : Int, (r = (.a (.one (.int .i64 n)) : RV)) ∧ ∃ row1 : List D, (Row Z s i row1) ∧ ∃ d1 : D, ((List.take 1 (List.drop (off + 2) row1)) = ([d1] : List D)) ∧ ∃ s2 : D, ∃ i2 off2 : Nat, (a1 = (.el s2 i2 off2 : D)) ∧ ∃ row2 : List D, (Row Z s2 i2 row2) ∧ ∃ d2 : D, ((List.take 1 (List.drop off2 row2)) = ([d2] : List D)) ∧ DCalls Tryz.prog n_conf_words_num [.one d2] Z (fun r1 Z1 => ∃ n1 : Int, (r1 = (.a (.one (.int .i64 n1)) : RV)) ∧ ∃ s3 : D, ∃ i3 off3 : Nat, (a1 = (.el s3 i3 off3 : D)) ∧ ∃ row3 : List D, (Row Z1 s3 i3 row3) ∧ ∃ d3 : D, ((List.take 1 (List.drop off3 row3)) = ([d3] : List D)) ∧ DCalls Tryz.prog n_conf_words_num [.one d3] Z1 (fun r2 Z2 => ∃ n2 : Int, (r2 = (.a (.one (.int .i64 n2)) : RV)) ∧ Fw.newObj Z2 (.live t_Step [[.int .i64 n, .int .i64 n1, .int .i64 n2]]) (fun id Z3 => appendTo Tryz.prog Z3 t_Step 24 d1 (.osl id 0 1) (fun d4 Z4 => ∃ s4 : D, ∃ i4 off4 : Nat, (a0 = (.el s4 i4 off4 : D)) ∧ storeEl [d4] Z4 s4 i4 (off4 + 2) (fun Z5 => Qp (.tup []) Z5))))))) ∧ ((∃ s : D, ∃ i off : Nat, (a0 = (.el s i off : D)) ∧ ∃ s1 : D, ∃ i1 off1 : Nat, (a1 = (.el s1 i1 off1 : D)) ∧ ∃ row : List D, (Row σ s1 i1 row) ∧ ∃ d : D, ((List.take 1 (List.drop off1 row)) = ([d] : List D)) ∧ DCalls Tryz.prog n_conf_words_num [.one d] σ (fun r Z => ∃ n : Int, (r = (.a (.one (.int .i64 n)) : RV)) ∧ ∃ s2 : D, ∃ i2 off2 : Nat, (a1 = (.el s2 i2 off2 : D)) ∧ ∃ row1 : List D, (Row Z s2 i2 row1) ∧ ∃ d1 : D, ((List.take 1 (List.drop off2 row1)) = ([d1] : List D)) ∧ ∃ s3 : D, ∃ i3 off3 : Nat, (a1 = (.el s3 i3 off3 : D)) ∧ ∃ row2 : List D, (Row Z s3 i3 row2) ∧ ∃ d2 : D, ((List.take 1 (List.drop off3 row2)) = ([d2] : List D)) ∧ DCalls Tryz.prog n_conf_words_num [.one d1] Z (fun r1 Z1 => ∃ n1 : Int, (r1 = (.a (.one (.int .i64 n1)) : RV)) ∧ ∃ row3 : List D, (Row Z1 s i row3) ∧ ∃ d3 : D, ((List.take 1 (List.drop (off + 2) row3)) = ([d3] : List D)) ∧ DCalls Tryz.prog n_conf_words_num [.one d2] Z1 (fun r2 Z2 => ∃ n2 : Int, (r2 = (.a (.one (.int .i64 n2)) : RV)) ∧ Fw.newObj Z2 (.live t_Step [[.int .i64 n, .int .i64 n1, .int .i64 n2]]) (fun id Z3 => appendTo Tryz.prog Z3 t_Step 24 d3 (.osl id 0 1) (fun d4 Z4 => ∃ s4 : D, ∃ i4 off4 : Nat, (a0 = (.el s4 i4 off4 : D)) ∧ storeEl [d4] Z4 s4 i4 (off4 + 2) (fun Z5 => Qp (.tup []) Z5))))))) ∧ ∃ s : D, ∃ i off : Nat, (a0 = (.el s i off : D)) ∧ ∃ s1 : D, ∃ i1 off1 : Nat, (a1 = (.el s1 i1 off1 : D)) ∧ ∃ row : List D, (Row σ s1 i1 row) ∧ ∃ d : D, ((List.take 1 (List.drop off1 row)) = ([d] : List D)) ∧ DCalls Tryz.prog n_conf_words_num [.one d] σ (fun r Z => ∃ n : Int, (r = (.a (.one (.int .i64 n)) : RV)) ∧ ∃ s2 : D, ∃ i2 off2 : Nat, (a1 = (.el s2 i2 off2 : D)) ∧ ∃ row1 : List D, (Row Z s2 i2 row1) ∧ ∃ d1 : D, ((List.take 1 (List.drop off2 row1)) = ([d1] : List D)) ∧ ∃ s3 : D, ∃ i3 off3 : Nat, (a1 = (.el s3 i3 off3 : D)) ∧ ∃ row2 : List D, (Row Z s3 i3 row2) ∧ ∃ d2 : D, ((List.take 1 (List.drop off3 row2)) = ([d2] : List D)) ∧ DCalls Tryz.prog n_conf_words_num [.one d1] Z (fun r1 Z1 => ∃ n1 : Int, (r1 = (.a (.one (.int .i64 n1)) : RV)) ∧ DCalls Tryz.prog n_conf_words_num [.one d2] Z1 (fun r2 Z2 => ∃ n2 : Int, (r2 = (.a (.one (.int .i64 n2)) : RV)) ∧ ∃ row3 : List D, (Row Z2 s i row3) ∧ ∃ d3 : D, ((List.take 1 (List.drop (off + 2) row3)) = ([d3] : List D)) ∧ Fw.newObj Z2 (.live t_Step [[.int .i64 n, .int .i64 n1, .int .i64 n2]]) (fun id Z3 => appendTo Tryz.prog Z3 t_Step 24 d3 (.osl id 0 1) (fun d4 Z4 => ∃ s4 : D, ∃ i4 off4 : Nat, (a0 = (.el s4 i4 off4 : D)) ∧ storeEl [d4] Z4 s4 i4 (off4 + 2) (fun Z5 => Qp (.tup []) Z5))))))) ∧ (∃ s : D, ∃ i off : Nat, (a0 = (.el s i off : D)) ∧ ∃ s1 : D, ∃ i1 off1 : Nat, (a1 = (.el s1 i1 off1 : D)) ∧ ∃ row : List D, (Row σ s1 i1 row) ∧ ∃ d : D, ((List.take 1 (List.drop off1 row)) = ([d] : List D)) ∧ DCalls Tryz.prog n_conf_words_num [.one d] σ (fun r Z => ∃ n : Int, (r = (.a (.one (.int .i64 n)) : RV)) ∧ ∃ s2 : D, ∃ i2 off2 : Nat, (a1 = (.el s2 i2 off2 : D)) ∧ ∃ row1 : List D, (Row Z s2 i2 row1) ∧ ∃ d1 : D, ((List.take 1 (List.drop off2 row1)) = ([d1] : List D)) ∧ DCalls Tryz.prog n_conf_words_num [.one d1] Z (fun r1 Z1 => ∃ n1 : Int, (r1 = (.a (.one (.int .i64 n1)) : RV)) ∧ ∃ row2 : List D, (Row Z1 s i row2) ∧ ∃ d2 : D, ((List.take 1 (List.drop (off + 2) row2)) = ([d2] : List D)) ∧ ∃ s3 : D, ∃ i3 off3 : Nat, (a1 = (.el s3 i3 off3 : D)) ∧ ∃ row3 : List D, (Row Z1 s3 i3 row3) ∧ ∃ d3 : D, ((List.take 1 (List.drop off3 row3)) = ([d3] : List D)) ∧ DCalls Tryz.prog n_conf_words_num [.one d3] Z1 (fun r2 Z2 => ∃ n2 : Int, (r2 = (.a (.one (.int .i64 n2)) : RV)) ∧ Fw.newObj Z2 (.live t_Step [[.int .i64 n, .int .i64 n1, .int .i64 n2]]) (fun id Z3 => appendTo Tryz.prog Z3 t_Step 24 d2 (.osl id 0 1) (fun d4 Z4 => ∃ s4 : D, ∃ i4 off4 : Nat, (a0 = (.el s4 i4 off4 : D)) ∧ storeEl [d4] Z4 s4 i4 (off4 + 2) (fun Z5 => Qp (.tup []) Z5))))))) ∧ ∃ s : D, ∃ i off : Nat, (a0 = (.el s i off : D)) ∧ ∃ s1 : D, ∃ i1 off1 : Nat, (a1 = (.el s1 i1 off1 : D)) ∧ ∃ row : List D, (Row σ s1 i1 row) ∧ ∃ d : D, ((List.take 1 (List.drop off1 row)) = ([d] : List D)) ∧ DCalls Tryz.prog n_conf_words_num [.one d] σ (fun r Z => ∃ n : Int, (r = (.a (.one (.int .i64 n)) : RV)) ∧ ∃ s2 : D, ∃ i2 off2 : Nat, (a1 = (.el s2 i2 off2 : D)) ∧ ∃ row1 : List D, (Row Z s2 i2 row1) ∧ ∃ d1 : D, ((List.take 1 (List.drop off2 row1)) = ([d1] : List D)) ∧ DCalls Tryz.prog n_conf_words_num [.one d1] Z (fun r1 Z1 => ∃ n1 : Int, (r1 = (.a (.one (.int .i64 n1)) : RV)) ∧ ∃ s3 : D, ∃ i3 off3 : Nat, (a1 = (.el s3 i3 off3 : D)) ∧ ∃ row2 : List D, (Row Z1 s3 i3 row2) ∧ ∃ d2 : D, ((List.take 1 (List.drop off3 row2)) = ([d2] : List D)) ∧ DCalls Tryz.prog n_conf_words_num [.one d2] Z1 (fun r2 Z2 => ∃ n2 : Int, (r2 = (.a (.one (.int .i64 n2)) : RV)) ∧ ∃ row3 : List D, (Row Z2 s i row3) ∧ ∃ d3 : D, ((List.take 1 (List.drop (off + 2) row3)) = ([d3] : List D)) ∧ Fw.newObj Z2 (.live t_Step [[.int .i64 n, .int .i64 n1, .int .i64 n2]]) (fun id Z3 => appendTo Tryz.prog Z3 t_Step 24 d3 (.osl id 0 1) (fun d4 Z4 => ∃ s4 : D, ∃ i4 off4 : Nat, (a0 = (.el s4 i4 off4 : D)) ∧ storeEl [d4] Z4 s4 i4 (off4 + 2) (fun Z5 => Qp (.tup []) Z5))))))
theorem W_conf_words_route_1 (a0 : D) (a1 : D) (σ : Store) (Qp : RV → Store → Prop) (h : V_conf_words_route_1 a0 a1 σ Qp) : DCalls Tryz.prog n_conf_words_route_1 [.one a0, .one a1] σ Qp :=
 dcalls_of_body mixed (by kernel_rfl) Tryz.func115 an_conf_words_route_1 (Eq.mp (by kernel_rfl) h)
def an_conf_has_1 : Ann := { esc := [], cbs := [2], draws := [], loops := [], joins := [] }
def V_conf_has_1 (s0 : Int) (s1 : Int) (s2 : Int) (a1 : D) (σ : Store) (Qp : RV → Store → Prop) : Prop :=
 ∃ s : D, ∃ i off : Nat, (a1 = (.el s i off : D)) ∧ ∃ row : List D, (Row σ s i row) ∧ ∃ n : Int, ((List.take 1 (List.drop off row)) = ([.int .i64 n] : List D)) ∧ Qp (.a (.one (.bool (s0 == n)))) σ
theorem W_conf_has_1 (s0 : Int) (s1 : Int) (s2 : Int) (a1 : D) (σ : Store) (Qp : RV → Store → Prop) (h : V_conf_has_1 s0 s1 s2 a1 σ Qp) : DCalls Tryz.prog n_conf_has_1 [.agg [.int .i64 s0, .int .i64 s1, .int .i64 s2], .one a1] σ Qp :=
 dcalls_of_body mixed (by kernel_rfl) Tryz.func132 an_conf_has_1 (Eq.mp (by kernel_rfl) h)
def an_strings_SplitSeq : Ann := { esc := [], cbs := [], draws := [], loops := [], joins := [] }
def V_strings_SplitSeq (s : ByteArray) (sep : ByteArray) (σ : Store) (Qp : RV → Store → Prop) : Prop :=
 DCalls Tryz.prog n_strings_splitSeq [.one (.str s), .one (.str sep), .one (.int .i64 0)] σ (fun r Z => ∃ d : D, (r = (.a (.one d) : RV)) ∧ Qp (.a (.one d)) Z)
theorem W_strings_SplitSeq (s : ByteArray) (sep : ByteArray) (σ : Store) (Qp : RV → Store → Prop) (h : V_strings_SplitSeq s sep σ Qp) : DCalls Tryz.prog n_strings_SplitSeq [.one (.str s), .one (.str sep)] σ Qp :=
 dcalls_of_body mixed (by kernel_rfl) Tryz.func51 an_strings_SplitSeq (Eq.mp (by kernel_rfl) h)
def an_strings_Builder_WriteString : Ann := { esc := [], cbs := [], draws := [], loops := [], joins := [] }
def V_strings_Builder_WriteString (b : D) (s : ByteArray) (σ : Store) (Qp : RV → Store → Prop) : Prop :=
 DCalls Tryz.prog n_strings_Builder_copyCheck [.one b] σ (fun r Z => (r = (.tup [] : RV)) ∧ (NotNil b) ∧ ∃ s1 : D, ∃ i off : Nat, (b = (.el s1 i off : D)) ∧ ∃ row : List D, (Row Z s1 i row) ∧ ∃ d : D, ((List.take 1 (List.drop (off + 1) row)) = ([d] : List D)) ∧ appendToR Tryz.prog Z 5 1 d (bytesD s) (fun d1 Z1 => (NotNil b) ∧ ∃ s2 : D, ∃ i1 off1 : Nat, (b = (.el s2 i1 off1 : D)) ∧ storeEl [d1] Z1 s2 i1 (off1 + 1) (fun Z2 => Qp (.tup [.one (.int .i64 (ByteArray.size s : Int)), .one (.ifc false)]) Z2)))
theorem W_strings_Builder_WriteString (b : D) (s : ByteArray) (σ : Store) (Qp : RV → Store → Prop) (h : V_strings_Builder_WriteString b s σ Qp) : DCalls Tryz.prog n_strings_Builder_WriteString [.one b, .one (.str s)] σ Qp :=
 dcalls_of_body mixed (by kernel_rfl) Tryz.func106 an_strings_Builder_WriteString (Eq.mp (by kernel_rfl) h)
end Go.Proofs.YtfdffboelecgoaaGreatDoor
end
section
set_option maxRecDepth 100000
namespace Go.Proofs.YtfdffboelecgoaaGreatDoor
open Go.Fw Go.Proofs
def an_ref06_Check : Ann := { esc := [], cbs := [1], draws := [(14, { ord := [0, 1, 2, 3, 4, 6, 7, 5, 8, 9, 10], nb := [1, 2, 7], av := [], dir := [] }), (16, { ord := [0, 1, 2, 3, 4, 5, 6], nb := [1], av := [], dir := [] })], loops := [(10, { mods := [(25, SlotSh.one (Sh.int IntKind.i64))], keep := [1, 23, 24] })], joins := [] }
def V_ref06_Check (c0 : D) (c1 : D) (c2 : D) (c3 : D) (c4 : D) (c5 : Int) (c6 : Int) (c7 : Int) (c8 : Int) (σ : Store) (Qp : RV → Store → Prop) : Prop :=
 DCalls Tryz.prog n_ref05_Check [.one c0, .one c1] σ (fun r Z => ∃ n : Int, (r = (.a (.one (.int .i64 n)) : RV)) ∧ bcase (n != 0) (Qp (.a (.one (.int .i64 6))) Z) (DCalls Tryz.prog n_ref06_signals [.agg [c0, c1, c2, c3, c4, .int .i64 c5, .int .i64 c6, .int .i64 c7, .int .i64 c8]] Z (fun r1 Z1 => ∃ b : Bool, (r1 = (.a (.one (.bool b)) : RV)) ∧ bcase (!b) (Qp (.a (.one (.int .i64 7))) Z1) (DCalls Tryz.prog n_ref06_crossings [.agg [c0, c1, c2, c3, c4, .int .i64 c5, .int .i64 c6, .int .i64 c7, .int .i64 c8]] Z1 (fun r2 Z2 => ∃ b1 : Bool, (r2 = (.a (.one (.bool b1)) : RV)) ∧ bcase (!b1) (Qp (.a (.one (.int .i64 8))) Z2) (∃ len : Nat, (Len c4 len) ∧ bcase (decide ((len : Int) > 12)) (Qp (.a (.one (.int .i64 9))) Z2) (∃ len1 : Nat, (Len c4 len1) ∧ ∃ I : Int → Store → Prop, ∃ μ : Int → Store → Nat, (I 0 Z2) ∧ ∀ n1 : Int, ∀ Z3, (I n1 Z3) → bcase (decide (n1 < (len1 : Int))) (∃ len2 : Nat, (Idx Tryz.prog Z3 c4 6 len2) ∧ ((0 : Int) ≤ n1) ∧ (n1 < (len2 : Int)) ∧ ∃ row : List D, (Row Z3 c4 (Int.toNat n1) row) ∧ ∃ n2 n3 : Int, ∃ d d1 d2 : D, ∃ b2 : Bool, ((List.take 6 row) = ([.int .i64 n2, .int .i64 n3, d, d1, d2, .bool b2] : List D)) ∧ DCalls Tryz.prog n_ref06_path [.agg [c0, c1, c2, c3, c4, .int .i64 c5, .int .i64 c6, .int .i64 c7, .int .i64 c8], .agg [.int .i64 n2, .int .i64 n3, d, d1, d2, .bool b2]] Z3 (fun r3 Z4 => ∃ b3 : Bool, (r3 = (.a (.one (.bool b3)) : RV)) ∧ bcase (!b3) (Qp (.a (.one (.int .i64 9))) Z4) (DCalls Tryz.prog n_ref06_Approach [.agg [c0, c1, c2, c3, c4, .int .i64 c5, .int .i64 c6, .int .i64 c7, .int .i64 c8], .one (.int .i64 n1)] Z4 (fun r4 Z5 => ∃ n4 : Int, (r4 = (.a (.one (.int .i64 n4)) : RV)) ∧ DCalls Tryz.prog n_ref06_Flank [.agg [c0, c1, c2, c3, c4, .int .i64 c5, .int .i64 c6, .int .i64 c7, .int .i64 c8], .one (.int .i64 n4), .one d] Z5 (fun r5 Z6 => ∃ d3 : D, (r5 = (.a (.one d3) : RV)) ∧ DCalls Tryz.prog n_ref06_SameNeeds [.one d1, .one d3] Z6 (fun r6 Z7 => ∃ b4 : Bool, (r6 = (.a (.one (.bool b4)) : RV)) ∧ bcase (!b4) (Qp (.a (.one (.int .i64 10))) Z7) (DCalls Tryz.prog n_ref06_Overlap [.agg [c0, c1, c2, c3, c4, .int .i64 c5, .int .i64 c6, .int .i64 c7, .int .i64 c8], .agg [.int .i64 n2, .int .i64 n3, d, d1, d2, .bool b2]] Z7 (fun r7 Z8 => ∃ d4 : D, (r7 = (.a (.one d4) : RV)) ∧ DCalls Tryz.prog n_ref06_sameInts [.one d2, .one d4] Z8 (fun r8 Z9 => ∃ b5 : Bool, (r8 = (.a (.one (.bool b5)) : RV)) ∧ bcase (!b5) (Qp (.a (.one (.int .i64 11))) Z9) ((I (w64 (n1 + 1)) Z9) ∧ ((μ (w64 (n1 + 1)) Z9) < (μ n1 Z3)))))))))))) (bcase (decide (c5 < 1)) (Qp (.a (.one (.int .i64 12))) Z3) (bcase (decide (c5 > 8)) (Qp (.a (.one (.int .i64 12))) Z3) (bcase (decide (c6 < 0)) (Qp (.a (.one (.int .i64 12))) Z3) (bcase (decide (c6 > 8)) (Qp (.a (.one (.int .i64 12))) Z3) (bcase (decide (c7 < (w64 ((w64 (c5 + c6)) + 1)))) (Qp (.a (.one (.int .i64 12))) Z3) (bcase (decide (c7 > 40)) (Qp (.a (.one (.int .i64 12))) Z3) (bcase (decide (c8 < 1)) (Qp (.a (.one (.int .i64 12))) Z3) (bcase (decide (c8 > 1000000)) (Qp (.a (.one (.int .i64 12))) Z3) (Qp (.a (.one (.int .i64 0))) Z3))))))))))))))))
theorem W_ref06_Check (c0 : D) (c1 : D) (c2 : D) (c3 : D) (c4 : D) (c5 : Int) (c6 : Int) (c7 : Int) (c8 : Int) (σ : Store) (Qp : RV → Store → Prop) (h : V_ref06_Check c0 c1 c2 c3 c4 c5 c6 c7 c8 σ Qp) : DCalls Tryz.prog n_ref06_Check [.agg [c0, c1, c2, c3, c4, .int .i64 c5, .int .i64 c6, .int .i64 c7, .int .i64 c8]] σ Qp :=
 dcalls_of_body mixed (by kernel_rfl) Tryz.func13 an_ref06_Check (Eq.mp (by kernel_rfl) h)
def an_ref06_Approach : Ann := { esc := [], cbs := [2], draws := [(1, { ord := [0, 1, 2, 3, 4, 5, 6, 7, 8, 9, 10, 11, 12, 13, 14, 15, 16, 17, 18, 19, 20, 21, 22, 23, 24, 25, 26, 27, 28, 29], nb := [], av := [], dir := [] }), (3, { ord := [0, 1, 2, 3, 4, 5, 6, 7, 8, 9, 10, 11], nb := [], av := [], dir := [] })], loops := [], joins := [] }
def V_ref06_Approach (c0 : D) (c1 : D) (c2 : D) (c3 : D) (c4 : D) (c5 : Int) (c6 : Int) (c7 : Int) (c8 : Int) (r : Int) (σ : Store) (Qp : RV → Store → Prop) : Prop :=
 bcase (decide (r < 0)) (Qp (.a (.one (.int .i64 (-1)))) σ) (∃ len : Nat, (Len c4 len) ∧ bcase (decide (r ≥ (len : Int))) (Qp (.a (.one (.int .i64 (-1)))) σ) (∃ len1 : Nat, (Idx Tryz.prog σ c4 6 len1) ∧ ((0 : Int) ≤ r) ∧ (r < (len1 : Int)) ∧ ∃ row : List D, (Row σ c4 (Int.toNat r) row) ∧ ∃ n : Int, ((List.take 1 row) = ([.int .i64 n] : List D)) ∧ bcase (decide (n < 0)) (Qp (.a (.one (.int .i64 (-1)))) σ) (∃ len2 : Nat, (Idx Tryz.prog σ c4 6 len2) ∧ ((0 : Int) ≤ r) ∧ (r < (len2 : Int)) ∧ ∃ row1 : List D, (Row σ c4 (Int.toNat r) row1) ∧ ∃ n1 : Int, ((List.take 1 row1) = ([.int .i64 n1] : List D)) ∧ ∃ len3 : Nat, (Len c2 len3) ∧ bcase (decide (n1 ≥ (len3 : Int))) (Qp (.a (.one (.int .i64 (-1)))) σ) (∃ len4 : Nat, (Idx Tryz.prog σ c4 6 len4) ∧ ((0 : Int) ≤ r) ∧ (r < (len4 : Int)) ∧ ∃ row2 : List D, (Row σ c4 (Int.toNat r) row2) ∧ ∃ n2 : Int, ((List.take 1 row2) = ([.int .i64 n2] : List D)) ∧ ∃ len5 : Nat, (Idx Tryz.prog σ c2 2 len5) ∧ ((0 : Int) ≤ n2) ∧ (n2 < (len5 : Int)) ∧ ∃ row3 : List D, (Row σ c2 (Int.toNat n2) row3) ∧ ∃ n3 : Int, ((List.take 1 row3) = ([.int .i64 n3] : List D)) ∧ Qp (.a (.one (.int .i64 n3))) σ))))
theorem W_ref06_Approach (c0 : D) (c1 : D) (c2 : D) (c3 : D) (c4 : D) (c5 : Int) (c6 : Int) (c7 : Int) (c8 : Int) (r : Int) (σ : Store) (Qp : RV → Store → Prop) (h : V_ref06_Approach c0 c1 c2 c3 c4 c5 c6 c7 c8 r σ Qp) : DCalls Tryz.prog n_ref06_Approach [.agg [c0, c1, c2, c3, c4, .int .i64 c5, .int .i64 c6, .int .i64 c7, .int .i64 c8], .one (.int .i64 r)] σ Qp :=
 dcalls_of_body mixed (by kernel_rfl) Tryz.func22 an_ref06_Approach (Eq.mp (by kernel_rfl) h)
def an_ref06_SameNeeds : Ann := { esc := [], cbs := [], draws := [(6, { ord := [0, 1, 2, 3, 4, 5, 6, 7, 8], nb := [], av := [], dir := [] })], loops := [(4, { mods := [(13, SlotSh.one (Sh.int IntKind.i64))], keep := [0, 1, 12] })], joins := [] }
def V_ref06_SameNeeds (a : D) (b : D) (σ : Store) (Qp : RV → Store → Prop) : Prop :=
 ∃ len : Nat, (Len a len) ∧ ∃ len1 : Nat, (Len b len1) ∧ bcase ((len : Int) != (len1 : Int)) (Qp (.a (.one (.bool false))) σ) (∃ len2 : Nat, (Len a len2) ∧ ∃ I : Int → Store → Prop, ∃ μ : Int → Store → Nat, (I 0 σ) ∧ ∀ n : Int, ∀ Z, (I n Z) → bcase (decide (n < (len2 : Int))) (∃ len3 : Nat, (Idx Tryz.prog Z a 2 len3) ∧ ((0 : Int) ≤ n) ∧ (n < (len3 : Int)) ∧ ∃ row : List D, (Row Z a (Int.toNat n) row) ∧ ∃ n1 n2 : Int, ((List.take 2 row) = ([.int .i64 n1, .int .i64 n2] : List D)) ∧ ∃ len4 : Nat, (Idx Tryz.prog Z b 2 len4) ∧ ((0 : Int) ≤ n) ∧ (n < (len4 : Int)) ∧ ∃ row1 : List D, (Row Z b (Int.toNat n) row1) ∧ ∃ n3 n4 : Int, ((List.take 2 row1) = ([.int .i64 n3, .int .i64 n4] : List D)) ∧ bcase (!((n1 == n3) && (n2 == n4))) (Qp (.a (.one (.bool false))) Z) ((I (w64 (n + 1)) Z) ∧ ((μ (w64 (n + 1)) Z) < (μ n Z)))) (Qp (.a (.one (.bool true))) Z))
theorem W_ref06_SameNeeds (a : D) (b : D) (σ : Store) (Qp : RV → Store → Prop) (h : V_ref06_SameNeeds a b σ Qp) : DCalls Tryz.prog n_ref06_SameNeeds [.one a, .one b] σ Qp :=
 dcalls_of_body mixed (by kernel_rfl) Tryz.func26 an_ref06_SameNeeds (Eq.mp (by kernel_rfl) h)
def an_ref06_Overlap : Ann := { esc := [], cbs := [2, 3], draws := [], loops := [], joins := [(3, { mods := [], keep := [2, 3] }), (8, { mods := [(9, SlotSh.one (Sh.int IntKind.i64))], keep := [2, 3, 6, 8] })] }
def V_ref06_Overlap (c0 : D) (c1 : D) (c2 : D) (c3 : D) (c4 : D) (c5 : Int) (c6 : Int) (c7 : Int) (c8 : Int) (r0 : Int) (r1 : Int) (r2 : D) (r3 : D) (r4 : D) (r5 : Bool) (σ : Store) (Qp : RV → Store → Prop) : Prop :=
 ∀ R : Store → Prop, (∀ Z, (∃ len : Nat, (Idx Tryz.prog Z c2 2 len) ∧ ((0 : Int) ≤ r1) ∧ (r1 < (len : Int)) ∧ ∃ row : List D, (Row Z c2 (Int.toNat r1) row) ∧ ∃ n n1 : Int, ((List.take 2 row) = ([.int .i64 n, .int .i64 n1] : List D)) ∧ DCalls Tryz.prog n_ref05_Next [.one c1, .one (.int .i64 n), .one (.int .i64 n1)] Z (fun r Z1 => ∃ n2 n3 : Int, ∃ b : Bool, (r = (.tup [.one (.int .i64 n2), .one (.int .i64 n3), .one (.bool b)] : RV)) ∧ ∀ R1 : Int → Store → Prop, (∀ n4 : Int, ∀ Z2, (bcase (!b) (Qp (.a (.one .nils)) Z2) (bcase (decide (n2 < 0)) (Qp (.a (.one .nils)) Z2) (∃ len1 : Nat, (Len c0 len1) ∧ bcase (decide (n2 ≥ (len1 : Int))) (Qp (.a (.one .nils)) Z2) (DCalls Tryz.prog n_ref06_Sections [.one r2] Z2 (fun r6 Z3 => ∃ d : D, (r6 = (.a (.one d) : RV)) ∧ DCalls Tryz.prog n_ref06_in [.one d, .one (.int .i64 n2)] Z3 (fun r7 Z4 => ∃ b1 : Bool, (r7 = (.a (.one (.bool b1)) : RV)) ∧ bcase b1 (Qp (.a (.one .nils)) Z4) (bcase (n2 == n4) (Qp (.a (.one .nils)) Z4) (∃ len2 : Nat, (Idx Tryz.prog Z4 c0 3 len2) ∧ ((0 : Int) ≤ n2) ∧ (n2 < (len2 : Int)) ∧ ∃ row1 : List D, (Row Z4 c0 (Int.toNat n2) row1) ∧ ∃ n5 : Int, ((List.take 1 (List.drop 2 row1)) = ([.int .i64 n5] : List D)) ∧ bcase (n5 != 0) (Qp (.a (.one .nils)) Z4) (Fw.newObj Z4 (.live t_int [[.int .i64 n2]]) (fun id Z5 => Qp (.a (.one (.osl id 0 1))) Z5)))))))))) → R1 n4 Z2) → bcase (decide (r0 ≥ 0)) (∃ len1 : Nat, (Len c2 len1) ∧ bcase (decide (r0 < (len1 : Int))) (∃ len2 : Nat, (Idx Tryz.prog Z1 c2 2 len2) ∧ ((0 : Int) ≤ r0) ∧ (r0 < (len2 : Int)) ∧ ∃ row1 : List D, (Row Z1 c2 (Int.toNat r0) row1) ∧ ∃ n4 : Int, ((List.take 1 row1) = ([.int .i64 n4] : List D)) ∧ R1 n4 Z1) (R1 (-1) Z1)) (R1 (-1) Z1))) → R Z) → bcase r5 (Qp (.a (.one .nils)) σ) (bcase (decide (r1 < 0)) (Qp (.a (.one .nils)) σ) (∃ len : Nat, (Len c2 len) ∧ bcase (decide (r1 ≥ (len : Int))) (Qp (.a (.one .nils)) σ) (R σ)))
theorem W_ref06_Overlap (c0 : D) (c1 : D) (c2 : D) (c3 : D) (c4 : D) (c5 : Int) (c6 : Int) (c7 : Int) (c8 : Int) (r0 : Int) (r1 : Int) (r2 : D) (r3 : D) (r4 : D) (r5 : Bool) (σ : Store) (Qp : RV → Store → Prop) (h : V_ref06_Overlap c0 c1 c2 c3 c4 c5 c6 c7 c8 r0 r1 r2 r3 r4 r5 σ Qp) : DCalls Tryz.prog n_ref06_Overlap [.agg [c0, c1, c2, c3, c4, .int .i64 c5, .int .i64 c6, .int .i64 c7, .int .i64 c8], .agg [.int .i64 r0, .int .i64 r1, r2, r3, r4, .bool r5]] σ Qp :=
 dcalls_of_body mixed (by kernel_rfl) Tryz.func30 an_ref06_Overlap (Eq.mp (by kernel_rfl) h)
def an_conf_plan_signals : Ann := { esc := [], cbs := [1], draws := [(6, { ord := [0, 1, 2, 3, 4, 5, 6], nb := [], av := [], dir := [] })], loops := [(3, { mods := [(14, SlotSh.one (Sh.int IntKind.i64))], keep := [1, 3, 12, 13] })], joins := [] }
def V_conf_plan_signals (p0 : D) (p1 : D) (p2 : D) (p3 : D) (p4 : D) (p5 : Int) (p6 : Int) (p7 : Int) (p8 : Int) (σ : Store) (Qp : RV → Store → Prop) : Prop :=
 Fw.newObj σ (.mp 0 []) (fun id Z => ∃ len : Nat, (Len p2 len) ∧ ∃ I : Int → Store → Prop, ∃ μ : Int → Store → Nat, (I 0 Z) ∧ ∀ n : Int, ∀ Z1, (I n Z1) → bcase (decide (n < (len : Int))) (∃ len1 : Nat, (Idx Tryz.prog Z1 p2 2 len1) ∧ ((0 : Int) ≤ n) ∧ (n < (len1 : Int)) ∧ ∃ row : List D, (Row Z1 p2 (Int.toNat n) row) ∧ ∃ n1 n2 : Int, ((List.take 2 row) = ([.int .i64 n1, .int .i64 n2] : List D)) ∧ DCalls Tryz.prog n_topo_Next [.one p1, .one (.int .i64 n1), .one (.int .i64 n2)] Z1 (fun r Z2 => ∃ n3 n4 : Int, ∃ b : Bool, (r = (.tup [.one (.int .i64 n3), .one (.int .i64 n4), .one (.bool b)] : RV)) ∧ ∃ r1 : Option A, (MLook Tryz.prog t_Signal Z2 (.omap id) (.agg [.int .i64 n1, .int .i64 n2]) r1) ∧ ∃ n5 : Int, ((Option.getD r1 (.one (.int .i64 0))) = (.one (.int .i64 n5) : A)) ∧ MEntry Tryz.prog t_Signal Z2 (.omap id) (.agg [.int .i64 n1, .int .i64 n2]) (.one (.int .i64 0)) (fun (v : A) => fun n6 Z3 => MStamp Z3 (.omap id) n6 (.one (.int .i64 (w64 (n5 + 1)))) (fun Z4 => bcase (!b) (Qp (.a (.one (.bool false))) Z4) (∃ r2 : Option A, (MLook Tryz.prog t_Signal Z4 (.omap id) (.agg [.int .i64 n1, .int .i64 n2]) r2) ∧ ∃ n7 : Int, ((Option.getD r2 (.one (.int .i64 0))) = (.one (.int .i64 n7) : A)) ∧ bcase (decide (n7 > 1)) (Qp (.a (.one (.bool false))) Z4) ((I (w64 (n + 1)) Z4) ∧ ((μ (w64 (n + 1)) Z4) < (μ n Z1)))))))) (∃ len1 : Nat, (Len p2 len1) ∧ Qp (.a (.one (.bool (decide ((len1 : Int) ≤ 12))))) Z1))
theorem W_conf_plan_signals (p0 : D) (p1 : D) (p2 : D) (p3 : D) (p4 : D) (p5 : Int) (p6 : Int) (p7 : Int) (p8 : Int) (σ : Store) (Qp : RV → Store → Prop) (h : V_conf_plan_signals p0 p1 p2 p3 p4 p5 p6 p7 p8 σ Qp) : DCalls Tryz.prog n_conf_plan_signals [.agg [p0, p1, p2, p3, p4, .int .i64 p5, .int .i64 p6, .int .i64 p7, .int .i64 p8]] σ Qp :=
 dcalls_of_body mixed (by kernel_rfl) Tryz.func38 an_conf_plan_signals (Eq.mp (by kernel_rfl) h)
def an_ref05_Check : Ann := { esc := [], cbs := [], draws := [(14, { ord := [0, 1, 2, 3, 4, 5, 6, 7], nb := [], av := [], dir := [] }), (22, { ord := [0, 1, 2, 3, 4, 5, 6, 7, 8, 9, 10, 11, 12, 13, 14, 15, 16, 17, 18, 19, 20, 21, 22, 23, 24, 25, 26, 27, 28, 29, 30, 31, 32, 33, 34, 35, 36, 37, 38, 39, 40, 41, 42, 43, 44, 45, 46, 47, 48, 49], nb := [5, 22], av := [], dir := [] })], loops := [(4, { mods := [(25, SlotSh.one (Sh.int IntKind.i64))], keep := [0, 1, 23, 24] }), (12, { mods := [(7, SlotSh.one (Sh.int IntKind.i64))], keep := [0, 1, 5, 6, 23, 24, 25] }), (18, { mods := [(82, SlotSh.one (Sh.int IntKind.i64))], keep := [0, 1, 80, 81] })], joins := [(3, { mods := [], keep := [0, 1] }), (8, { mods := [], keep := [0, 1, 5, 6, 23, 24, 25] }), (24, { mods := [], keep := [0, 1, 80, 81, 82] }), (22, { mods := [], keep := [0, 1, 9, 80, 81, 82] })] }
def V_ref05_Check (sections : D) (joints : D) (σ : Store) (Qp : RV → Store → Prop) : Prop :=
 ∀ R : Store → Prop, (∀ Z, (∃ len : Nat, (Len sections len) ∧ ∃ I : Int → Store → Prop, ∃ μ : Int → Store → Nat, (I 0 Z) ∧ ∀ n : Int, ∀ Z1, (I n Z1) → bcase (decide (n < (len : Int))) (∃ len1 : Nat, (Idx Tryz.prog Z1 sections 3 len1) ∧ ((0 : Int) ≤ n) ∧ (n < (len1 : Int)) ∧ ∃ row : List D, (Row Z1 sections (Int.toNat n) row) ∧ ∃ n1 n2 n3 : Int, ((List.take 3 row) = ([.int .i64 n1, .int .i64 n2, .int .i64 n3] : List D)) ∧ ∀ R1 : Store → Prop, (∀ Z2, (bcase (n3 == 0) ((I (w64 (n + 1)) Z2) ∧ ((μ (w64 (n + 1)) Z2) < (μ n Z1))) (bcase (n1 != 0) (Qp (.a (.one (.int .i64 6))) Z2) (DCalls Tryz.prog n_ref05_count [.one joints, .one (.int .i64 n), .one (.int .i64 1)] Z2 (fun r Z3 => ∃ n4 : Int, (r = (.a (.one (.int .i64 n4)) : RV)) ∧ bcase (decide (n4 > 0)) (Qp (.a (.one (.int .i64 6))) Z3) (∃ I1 : Int → Store → Prop, ∃ μ1 : Int → Store → Nat, (I1 0 Z3) ∧ ∀ n5 : Int, ∀ Z4, (I1 n5 Z4) → bcase (decide (n5 < n)) (∃ len2 : Nat, (Idx Tryz.prog Z4 sections 3 len2) ∧ ((0 : Int) ≤ n5) ∧ (n5 < (len2 : Int)) ∧ ∃ row1 : List D, (Row Z4 sections (Int.toNat n5) row1) ∧ ∃ n6 : Int, ((List.take 1 (List.drop 2 row1)) = ([.int .i64 n6] : List D)) ∧ bcase (n6 == n3) (Qp (.a (.one (.int .i64 6))) Z4) ((([[.int .i64 n1, .int .i64 n2, .int .i64 n3]] : List (List D)) = ([[.int .i64 n1, .int .i64 n2, .int .i64 n3]] : List (List D))) ∧ (I1 (w64 (n5 + 1)) Z4) ∧ ((μ1 (w64 (n5 + 1)) Z4) < (μ1 n5 Z4)))) ((I (w64 (n + 1)) Z4) ∧ ((μ (w64 (n + 1)) Z4) < (μ n Z1)))))))) → R1 Z2) → DCalls Tryz.prog n_ref05_Ends [.one (.int .i64 n1)] Z1 (fun r Z2 => ∃ n4 : Int, (r = (.a (.one (.int .i64 n4)) : RV)) ∧ bcase (n4 == 0) (Qp (.a (.one (.int .i64 6))) Z2) (bcase (decide (n2 < 0)) (Qp (.a (.one (.int .i64 6))) Z2) (bcase (decide (n2 ≥ 4)) (Qp (.a (.one (.int .i64 6))) Z2) (bcase (decide (n3 < 0)) (Qp (.a (.one (.int .i64 6))) Z2) (bcase (decide (n3 > 3)) (Qp (.a (.one (.int .i64 6))) Z2) ((([[.int .i64 n1, .int .i64 n2, .int .i64 n3]] : List (List D)) = ([[.int .i64 n1, .int .i64 n2, .int .i64 n3]] : List (List D))) ∧ R1 Z2))))))) (∃ len1 : Nat, (Len joints len1) ∧ ∃ I1 : Int → Store → Prop, ∃ μ1 : Int → Store → Nat, (I1 0 Z1) ∧ ∀ n1 : Int, ∀ Z2, (I1 n1 Z2) → bcase (decide (n1 < (len1 : Int))) (∀ R1 : Store → Prop, (∀ Z3, ((I1 (w64 (n1 + 1)) Z3) ∧ ((μ1 (w64 (n1 + 1)) Z3) < (μ1 n1 Z2))) → R1 Z3) → ∃ len2 : Nat, (Idx Tryz.prog Z2 joints 4 len2) ∧ ((0 : Int) ≤ n1) ∧ (n1 < (len2 : Int)) ∧ ∃ row : List D, (Row Z2 joints (Int.toNat n1) row) ∧ ∃ n2 n3 n4 n5 : Int, ((List.take 4 row) = ([.int .i64 n2, .int .i64 n3, .int .i64 n4, .int .i64 n5] : List D)) ∧ ∀ R2 : Store → Prop, (∀ Z3, (bcase (decide (n3 < 0)) (Qp (.a (.one (.int .i64 6))) Z3) (∃ len3 : Nat, (Idx Tryz.prog Z3 sections 3 len3) ∧ ((0 : Int) ≤ n2) ∧ (n2 < (len3 : Int)) ∧ ∃ row1 : List D, (Row Z3 sections (Int.toNat n2) row1) ∧ ∃ n6 : Int, ((List.take 1 row1) = ([.int .i64 n6] : List D)) ∧ DCalls Tryz.prog n_ref05_Ends [.one (.int .i64 n6)] Z3 (fun r Z4 => ∃ n7 : Int, (r = (.a (.one (.int .i64 n7)) : RV)) ∧ bcase (decide (n3 ≥ n7)) (Qp (.a (.one (.int .i64 6))) Z4) (bcase (decide (n5 < 0)) (Qp (.a (.one (.int .i64 6))) Z4) (∃ len4 : Nat, (Idx Tryz.prog Z4 sections 3 len4) ∧ ((0 : Int) ≤ n4) ∧ (n4 < (len4 : Int)) ∧ ∃ row2 : List D, (Row Z4 sections (Int.toNat n4) row2) ∧ ∃ n8 : Int, ((List.take 1 row2) = ([.int .i64 n8] : List D)) ∧ DCalls Tryz.prog n_ref05_Ends [.one (.int .i64 n8)] Z4 (fun r1 Z5 => ∃ n9 : Int, (r1 = (.a (.one (.int .i64 n9)) : RV)) ∧ bcase (decide (n5 ≥ n9)) (Qp (.a (.one (.int .i64 6))) Z5) (DCalls Tryz.prog n_ref05_count [.one joints, .one (.int .i64 n2), .one (.int .i64 n3)] Z5 (fun r2 Z6 => ∃ n10 : Int, (r2 = (.a (.one (.int .i64 n10)) : RV)) ∧ bcase (decide (n10 > 1)) (Qp (.a (.one (.int .i64 6))) Z6) (DCalls Tryz.prog n_ref05_count [.one joints, .one (.int .i64 n4), .one (.int .i64 n5)] Z6 (fun r3 Z7 => ∃ n11 : Int, (r3 = (.a (.one (.int .i64 n11)) : RV)) ∧ bcase (decide (n11 > 1)) (Qp (.a (.one (.int .i64 6))) Z7) (R1 Z7))))))))))) → R2 Z3) → bcase (decide (n2 < 0)) (Qp (.a (.one (.int .i64 6))) Z2) (∃ len3 : Nat, (Len sections len3) ∧ bcase (decide (n2 ≥ (len3 : Int))) (Qp (.a (.one (.int .i64 6))) Z2) (bcase (decide (n4 < 0)) (Qp (.a (.one (.int .i64 6))) Z2) (∃ len4 : Nat, (Len sections len4) ∧ bcase (decide (n4 ≥ (len4 : Int))) (Qp (.a (.one (.int .i64 6))) Z2) (bcase (n2 == n4) (Qp (.a (.one (.int .i64 6))) Z2) ((([[.int .i64 n2, .int .i64 n3, .int .i64 n4, .int .i64 n5]] : List (List D)) = ([[.int .i64 n2, .int .i64 n3, .int .i64 n4, .int .i64 n5]] : List (List D))) ∧ R2 Z2)))))) (Qp (.a (.one (.int .i64 0))) Z2))) → R Z) → ∃ len : Nat, (Len sections len) ∧ bcase (decide ((len : Int) < 1)) (Qp (.a (.one (.int .i64 6))) σ) (∃ len1 : Nat, (Len sections len1) ∧ bcase (decide ((len1 : Int) > 16)) (Qp (.a (.one (.int .i64 6))) σ) (∃ len2 : Nat, (Len joints len2) ∧ bcase (decide ((len2 : Int) > 24)) (Qp (.a (.one (.int .i64 6))) σ) (R σ)))
theorem W_ref05_Check (sections : D) (joints : D) (σ : Store) (Qp : RV → Store → Prop) (h : V_ref05_Check sections joints σ Qp) : DCalls Tryz.prog n_ref05_Check [.one sections, .one joints] σ Qp :=
 dcalls_of_body mixed (by kernel_rfl) Tryz.func42 an_ref05_Check (Eq.mp (by kernel_rfl) h)
def an_ref06_sameInts : Ann := { esc := [], cbs := [], draws := [(6, { ord := [0, 1, 2, 3, 4, 5, 6, 7, 8], nb := [], av := [], dir := [] })], loops := [(4, { mods := [(13, SlotSh.one (Sh.int IntKind.i64))], keep := [0, 1, 12] })], joins := [] }
def V_ref06_sameInts (a : D) (b : D) (σ : Store) (Qp : RV → Store → Prop) : Prop :=
 ∃ len : Nat, (Len a len) ∧ ∃ len1 : Nat, (Len b len1) ∧ bcase ((len : Int) != (len1 : Int)) (Qp (.a (.one (.bool false))) σ) (∃ len2 : Nat, (Len a len2) ∧ ∃ I : Int → Store → Prop, ∃ μ : Int → Store → Nat, (I 0 σ) ∧ ∀ n : Int, ∀ Z, (I n Z) → bcase (decide (n < (len2 : Int))) (∃ len3 : Nat, (Idx Tryz.prog Z a 1 len3) ∧ ((0 : Int) ≤ n) ∧ (n < (len3 : Int)) ∧ ∃ row : List D, (Row Z a (Int.toNat n) row) ∧ ∃ n1 : Int, ((List.take 1 row) = ([.int .i64 n1] : List D)) ∧ ∃ len4 : Nat, (Idx Tryz.prog Z b 1 len4) ∧ ((0 : Int) ≤ n) ∧ (n < (len4 : Int)) ∧ ∃ row1 : List D, (Row Z b (Int.toNat n) row1) ∧ ∃ n2 : Int, ((List.take 1 row1) = ([.int .i64 n2] : List D)) ∧ bcase (n1 != n2) (Qp (.a (.one (.bool false))) Z) ((I (w64 (n + 1)) Z) ∧ ((μ (w64 (n + 1)) Z) < (μ n Z)))) (Qp (.a (.one (.bool true))) Z))
theorem W_ref06_sameInts (a : D) (b : D) (σ : Store) (Qp : RV → Store → Prop) (h : V_ref06_sameInts a b σ Qp) : DCalls Tryz.prog n_ref06_sameInts [.one a, .one b] σ Qp :=
 dcalls_of_body mixed (by kernel_rfl) Tryz.func46 an_ref06_sameInts (Eq.mp (by kernel_rfl) h)
def an_slices_Contains_int : Ann := { esc := [], cbs := [], draws := [], loops := [], joins := [] }
def V_slices_Contains_int (s : D) (v : Int) (σ : Store) (Qp : RV → Store → Prop) : Prop :=
 DCalls Tryz.prog n_slices_Index_int [.one s, .one (.int .i64 v)] σ (fun r Z => ∃ n : Int, (r = (.a (.one (.int .i64 n)) : RV)) ∧ Qp (.a (.one (.bool (decide (n ≥ 0))))) Z)
theorem W_slices_Contains_int (s : D) (v : Int) (σ : Store) (Qp : RV → Store → Prop) (h : V_slices_Contains_int s v σ Qp) : DCalls Tryz.prog n_slices_Contains_int [.one s, .one (.int .i64 v)] σ Qp :=
 dcalls_of_body mixed (by kernel_rfl) Tryz.func63 an_slices_Contains_int (Eq.mp (by kernel_rfl) h)
def an_ref06_kind : Ann := { esc := [], cbs := [2], draws := [], loops := [], joins := [] }
def V_ref06_kind (c0 : D) (c1 : D) (c2 : D) (c3 : D) (c4 : D) (c5 : Int) (c6 : Int) (c7 : Int) (c8 : Int) (s : Int) (σ : Store) (Qp : RV → Store → Prop) : Prop :=
 bcase (decide (s < 0)) (Qp (.a (.one (.int .i64 (-1)))) σ) (∃ len : Nat, (Len c0 len) ∧ bcase (decide (s ≥ (len : Int))) (Qp (.a (.one (.int .i64 (-1)))) σ) (∃ len1 : Nat, (Idx Tryz.prog σ c0 3 len1) ∧ ((0 : Int) ≤ s) ∧ (s < (len1 : Int)) ∧ ∃ row : List D, (Row σ c0 (Int.toNat s) row) ∧ ∃ n : Int, ((List.take 1 row) = ([.int .i64 n] : List D)) ∧ Qp (.a (.one (.int .i64 n))) σ))
theorem W_ref06_kind (c0 : D) (c1 : D) (c2 : D) (c3 : D) (c4 : D) (c5 : Int) (c6 : Int) (c7 : Int) (c8 : Int) (s : Int) (σ : Store) (Qp : RV → Store → Prop) (h : V_ref06_kind c0 c1 c2 c3 c4 c5 c6 c7 c8 s σ Qp) : DCalls Tryz.prog n_ref06_kind [.agg [c0, c1, c2, c3, c4, .int .i64 c5, .int .i64 c6, .int .i64 c7, .int .i64 c8], .one (.int .i64 s)] σ Qp :=
 dcalls_of_body mixed (by kernel_rfl) Tryz.func67 an_ref06_kind (Eq.mp (by kernel_rfl) h)
def an_topo_ways : Ann := { esc := [], cbs := [], draws := [], loops := [], joins := [] }
def V_topo_ways (kind : Int) (σ : Store) (Qp : RV → Store → Prop) : Prop :=
 bcase (kind == 0) (Fw.newObj σ (.live t_topo_way [[.int .i64 0, .int .i64 1, .int .i64 0]]) (fun id Z => Qp (.a (.one (.osl id 0 1))) Z)) (bcase (kind == 1) (Fw.newObj σ (.live t_topo_way [[.int .i64 0, .int .i64 1, .int .i64 1], [.int .i64 0, .int .i64 2, .int .i64 2]]) (fun id Z => Qp (.a (.one (.osl id 0 2))) Z)) (bcase (kind == 2) (Fw.newObj σ (.live t_topo_way [[.int .i64 0, .int .i64 1, .int .i64 0], [.int .i64 2, .int .i64 3, .int .i64 0]]) (fun id Z => Qp (.a (.one (.osl id 0 2))) Z)) (Qp (.a (.one .nils)) σ)))
theorem W_topo_ways (kind : Int) (σ : Store) (Qp : RV → Store → Prop) (h : V_topo_ways kind σ Qp) : DCalls Tryz.prog n_topo_ways [.one (.int .i64 kind)] σ Qp :=
 dcalls_of_body mixed (by kernel_rfl) Tryz.func71 an_topo_ways (Eq.mp (by kernel_rfl) h)
def an_slices_Equal_int : Ann := { esc := [], cbs := [], draws := [(6, { ord := [0, 1, 2, 3, 4, 5, 6, 7, 8], nb := [], av := [], dir := [] })], loops := [(4, { mods := [(13, SlotSh.one (Sh.int IntKind.i64))], keep := [0, 1, 12] })], joins := [] }
def V_slices_Equal_int (s1 : D) (s2 : D) (σ : Store) (Qp : RV → Store → Prop) : Prop :=
 ∃ len : Nat, (Len s1 len) ∧ ∃ len1 : Nat, (Len s2 len1) ∧ bcase ((len : Int) != (len1 : Int)) (Qp (.a (.one (.bool false))) σ) (∃ len2 : Nat, (Len s1 len2) ∧ ∃ I : Int → Store → Prop, ∃ μ : Int → Store → Nat, (I 0 σ) ∧ ∀ n : Int, ∀ Z, (I n Z) → bcase (decide (n < (len2 : Int))) (∃ len3 : Nat, (Idx Tryz.prog Z s1 1 len3) ∧ ((0 : Int) ≤ n) ∧ (n < (len3 : Int)) ∧ ∃ row : List D, (Row Z s1 (Int.toNat n) row) ∧ ∃ n1 : Int, ((List.take 1 row) = ([.int .i64 n1] : List D)) ∧ ∃ len4 : Nat, (Idx Tryz.prog Z s2 1 len4) ∧ ((0 : Int) ≤ n) ∧ (n < (len4 : Int)) ∧ ∃ row1 : List D, (Row Z s2 (Int.toNat n) row1) ∧ ∃ n2 : Int, ((List.take 1 row1) = ([.int .i64 n2] : List D)) ∧ bcase (n1 != n2) (Qp (.a (.one (.bool false))) Z) ((I (w64 (n + 1)) Z) ∧ ((μ (w64 (n + 1)) Z) < (μ n Z)))) (Qp (.a (.one (.bool true))) Z))
theorem W_slices_Equal_int (s1 : D) (s2 : D) (σ : Store) (Qp : RV → Store → Prop) (h : V_slices_Equal_int s1 s2 σ Qp) : DCalls Tryz.prog n_slices_Equal_int [.one s1, .one s2] σ Qp :=
 dcalls_of_body mixed (by kernel_rfl) Tryz.func80 an_slices_Equal_int (Eq.mp (by kernel_rfl) h)
def an_conf_printer_say : Ann := { esc := [], cbs := [], draws := [(4, { ord := [0, 1, 2, 3, 4, 5, 6], nb := [], av := [], dir := [] })], loops := [(2, { mods := [(15, SlotSh.one (Sh.int IntKind.i64))], keep := [0, 13, 14] })], joins := [] }
def V_conf_printer_say (p : D) (word : ByteArray) (list : D) (σ : Store) (Qp : RV → Store → Prop) : Prop :=
 (NotNil p) ∧ ∃ s : D, ∃ i off : Nat, (p = (.el s i off : D)) ∧ DCalls Tryz.prog n_strings_Builder_WriteString [.one (.el s i (off + 0)), .one (.str word)] σ (fun r Z => ∃ n : Int, ∃ d : D, (r = (.tup [.one (.int .i64 n), .one d] : RV)) ∧ ∃ len : Nat, (Len list len) ∧ ∃ I : Int → Store → Prop, ∃ μ : Int → Store → Nat, (I 0 Z) ∧ ∀ n1 : Int, ∀ Z1, (I n1 Z1) → bcase (decide (n1 < (len : Int))) (∃ len1 : Nat, (Idx Tryz.prog Z1 list 1 len1) ∧ ((0 : Int) ≤ n1) ∧ (n1 < (len1 : Int)) ∧ ∃ row : List D, (Row Z1 list (Int.toNat n1) row) ∧ ∃ n2 : Int, ((List.take 1 row) = ([.int .i64 n2] : List D)) ∧ (NotNil p) ∧ ∃ s1 : D, ∃ i1 off1 : Nat, (p = (.el s1 i1 off1 : D)) ∧ DCalls Tryz.prog n_strconv_Itoa [.one (.int .i64 n2)] Z1 (fun r1 Z2 => ∃ s2 : ByteArray, (r1 = (.a (.one (.str s2)) : RV)) ∧ (((1 : Int) + (ByteArray.size s2 : Int)) ≤ 9223372036854775807) ∧ DCalls Tryz.prog n_strings_Builder_WriteString [.one (.el s1 i1 (off1 + 0)), .one (.str (ByteArray.mk (Array.mk (HAppend.hAppend (Array.toList (ByteArray.data (ByteArray.mk (List.toArray [32])))) (Array.toList (ByteArray.data s2))))))] Z2 (fun r2 Z3 => ∃ n3 : Int, ∃ d1 : D, (r2 = (.tup [.one (.int .i64 n3), .one d1] : RV)) ∧ (I (w64 (n1 + 1)) Z3) ∧ ((μ (w64 (n1 + 1)) Z3) < (μ n1 Z1))))) (Qp (.tup []) Z1))
theorem W_conf_printer_say (p : D) (word : ByteArray) (list : D) (σ : Store) (Qp : RV → Store → Prop) (h : V_conf_printer_say p word list σ Qp) : DCalls Tryz.prog n_conf_printer_say [.one p, .one (.str word), .one list] σ Qp :=
 dcalls_of_body mixed (by kernel_rfl) Tryz.func84 an_conf_printer_say (Eq.mp (by kernel_rfl) h)
def an_slices_Index_int : Ann := { esc := [], cbs := [], draws := [], loops := [(2, { mods := [(8, SlotSh.one (Sh.int IntKind.i64))], keep := [0, 1, 7] })], joins := [] }
def V_slices_Index_int (s : D) (v : Int) (σ : Store) (Qp : RV → Store → Prop) : Prop :=
 ∃ len : Nat, (Len s len) ∧ ∃ I : Int → Store → Prop, ∃ μ : Int → Store → Nat, (I 0 σ) ∧ ∀ n : Int, ∀ Z, (I n Z) → bcase (decide (n < (len : Int))) (∃ len1 : Nat, (Idx Tryz.prog Z s 1 len1) ∧ ((0 : Int) ≤ n) ∧ (n < (len1 : Int)) ∧ ∃ row : List D, (Row Z s (Int.toNat n) row) ∧ ∃ n1 : Int, ((List.take 1 row) = ([.int .i64 n1] : List D)) ∧ bcase (v == n1) (Qp (.a (.one (.int .i64 n))) Z) ((I (w64 (n + 1)) Z) ∧ ((μ (w64 (n + 1)) Z) < (μ n Z)))) (Qp (.a (.one (.int .i64 (-1)))) Z)
theorem W_slices_Index_int (s : D) (v : Int) (σ : Store) (Qp : RV → Store → Prop) (h : V_slices_Index_int s v σ Qp) : DCalls Tryz.prog n_slices_Index_int [.one s, .one (.int .i64 v)] σ Qp :=
 dcalls_of_body mixed (by kernel_rfl) Tryz.func99 an_slices_Index_int (Eq.mp (by kernel_rfl) h)
def an_ref05_ways : Ann := { esc := [], cbs := [], draws := [], loops := [], joins := [] }
def V_ref05_ways (kind : Int) (σ : Store) (Qp : RV → Store → Prop) : Prop :=
 bcase (kind == 0) (Fw.newObj σ (.live t_ref05_way [[.int .i64 0, .int .i64 1, .int .i64 0]]) (fun id Z => Qp (.a (.one (.osl id 0 1))) Z)) (bcase (kind == 1) (Fw.newObj σ (.live t_ref05_way [[.int .i64 0, .int .i64 1, .int .i64 1], [.int .i64 0, .int .i64 2, .int .i64 2]]) (fun id Z => Qp (.a (.one (.osl id 0 2))) Z)) (bcase (kind == 2) (Fw.newObj σ (.live t_ref05_way [[.int .i64 0, .int .i64 1, .int .i64 0], [.int .i64 2, .int .i64 3, .int .i64 0]]) (fun id Z => Qp (.a (.one (.osl id 0 2))) Z)) (Qp (.a (.one .nils)) σ)))
theorem W_ref05_ways (kind : Int) (σ : Store) (Qp : RV → Store → Prop) (h : V_ref05_ways kind σ Qp) : DCalls Tryz.prog n_ref05_ways [.one (.int .i64 kind)] σ Qp :=
 dcalls_of_body mixed (by kernel_rfl) Tryz.func103 an_ref05_ways (Eq.mp (by kernel_rfl) h)
def an_conf_words_route_2 : Ann := { esc := [], cbs := [], draws := [], loops := [], joins := [], splits := [(0, (DT.split 1 3 (DT.split 4 3 (DT.leaf { ord := [0, 1, 2, 4, 3, 5, 6, 7, 8, 9, 10], nb := [], av := [], dir := [] }) (DT.leaf { ord := [0, 1, 2, 3, 4, 5, 6, 7, 8, 9, 10], nb := [], av := [], dir := [] })) (DT.split 4 3 (DT.split 1 5 (DT.leaf { ord := [0, 2, 4, 3, 1, 5, 6, 7, 8, 9, 10], nb := [], av := [], dir := [] }) (DT.leaf { ord := [0, 2, 4, 3, 5, 1, 6, 7, 8, 9, 10], nb := [], av := [], dir := [] })) (DT.split 1 5 (DT.leaf { ord := [0, 2, 3, 1, 4, 5, 6, 7, 8, 9, 10], nb := [], av := [], dir := [] }) (DT.leaf { ord := [0, 2, 3, 4, 5, 1, 6, 7, 8, 9, 10], nb := [], av := [], dir := [] })))))] }
def V_conf_words_route_2 (a0 : D) (a1 : D) (σ : Store) (Qp : RV → Store → Prop) : Prop :=
 ((∃ s : D, ∃ i off : Nat, (a0 = (.el s i off : D)) ∧ ∃ row : List D, (Row σ s i row) ∧ ∃ d : D, ((List.take 1 (List.drop (off + 3) row)) = ([d] : List D)) ∧ ∃ s1 : D, ∃ i1 off1 : Nat, (a1 = (.el s1 i1 off1 : D)) ∧ ∃ row1 : List D, (Row σ s1 i1 row1) ∧ ∃ d1 : D, ((List.take 1 (List.drop off1 row1)) = ([d1] : List D)) ∧ ∃ s2 : D, ∃ i2 off2 : Nat, (a1 = (.el s2 i2 off2 : D)) ∧ ∃ row2 : List D, (Row σ s2 i2 row2) ∧ ∃ d2 : D, ((List.take 1 (List.drop off2 row2)) = ([d2] : List D)) ∧ DCalls Tryz.prog n_conf_words_num [.one d1] σ (fun r Z => ∃ n : Int, (r = (.a (.one (.int .i64 n)) : RV)) ∧ DCalls Tryz.prog n_conf_words_num [.one d2] Z (fun r1 Z1 => ∃ n1 : Int, (r1 = (.a (.one (.int .i64 n1)) : RV)) ∧ Fw.newObj Z1 (.live t_Need [[.int .i64 n, .int .i64 n1]]) (fun id Z2 => appendTo Tryz.prog Z2 t_Need 16 d (.osl id 0 1) (fun d3 Z3 => ∃ s3 : D, ∃ i3 off3 : Nat, (a0 = (.el s3 i3 off3 : D)) ∧ storeEl [d3] Z3 s3 i3 (off3 + 3) (fun Z4 => Qp (.tup []) Z4)))))) ∧ ∃ s : D, ∃ i off : Nat, (a0 = (.el s i off : D)) ∧ ∃ row : List D, (Row σ s i row) ∧ ∃ d : D, ((List.take 1 (List.drop (off + 3) row)) = ([d] : List D)) ∧ ∃ s1 : D, ∃ i1 off1 : Nat, (a1 = (.el s1 i1 off1 : D)) ∧ ∃ row1 : List D, (Row σ s1 i1 row1) ∧ ∃ d1 : D, ((List.take 1 (List.drop off1 row1)) = ([d1] : List D)) ∧ DCalls Tryz.prog n_conf_words_num [.one d1] σ (fun r Z => ∃ n : Int, (r = (.a (.one (.int .i64 n)) : RV)) ∧ ∃ s2 : D, ∃ i2 off2 : Nat, (a1 = (.el s2 i2 off2 : D)) ∧ ∃ row2 : List D, (Row Z s2 i2 row2) ∧ ∃ d2 : D, ((List.take 1 (List.drop off2 row2)) = ([d2] : List D)) ∧ DCalls Tryz.prog n_conf_words_num [.one d2] Z (fun r1 Z1 => ∃ n1 : Int, (r1 = (.a (.one (.int .i64 n1)) : RV)) ∧ Fw.newObj Z1 (.live t_Need [[.int .i64 n, .int .i64 n1]]) (fun id Z2 => appendTo Tryz.prog Z2 t_Need 16 d (.osl id 0 1) (fun d3 Z3 => ∃ s3 : D, ∃ i3 off3 : Nat, (a0 = (.el s3 i3 off3 : D)) ∧ storeEl [d3] Z3 s3 i3 (off3 + 3) (fun Z4 => Qp (.tup []) Z4)))))) ∧ ((∃ s : D, ∃ i off : Nat, (a0 = (.el s i off : D)) ∧ ∃ s1 : D, ∃ i1 off1 : Nat, (a1 = (.el s1 i1 off1 : D)) ∧ ∃ row : List D, (Row σ s1 i1 row) ∧ ∃ d : D, ((List.take 1 (List.drop off1 row)) = ([d] : List D)) ∧ ∃ s2 : D, ∃ i2 off2 : Nat, (a1 = (.el s2 i2 off2 : D)) ∧ ∃ row1 : List D, (Row σ s2 i2 row1) ∧ ∃ d1 : D, ((List.take 1 (List.drop off2 row1)) = ([d1] : List D)) ∧ DCalls Tryz.prog n_conf_words_num [.one d] σ (fun r Z => ∃ n : Int, (r = (.a (.one (.int .i64 n)) : RV)) ∧ ∃ row2 : List D, (Row Z s i row2) ∧ ∃ d2 : D, ((List.take 1 (List.drop (off + 3) row2)) = ([d2] : List D)) ∧ DCalls Tryz.prog n_conf_words_num [.one d1] Z (fun r1 Z1 => ∃ n1 : Int, (r1 = (.a (.one (.int .i64 n1)) : RV)) ∧ Fw.newObj Z1 (.live t_Need [[.int .i64 n, .int .i64 n1]]) (fun id Z2 => appendTo Tryz.prog Z2 t_Need 16 d2 (.osl id 0 1) (fun d3 Z3 => ∃ s3 : D, ∃ i3 off3 : Nat, (a0 = (.el s3 i3 off3 : D)) ∧ storeEl [d3] Z3 s3 i3 (off3 + 3) (fun Z4 => Qp (.tup []) Z4)))))) ∧ ∃ s : D, ∃ i off : Nat, (a0 = (.el s i off : D)) ∧ ∃ s1 : D, ∃ i1 off1 : Nat, (a1 = (.el s1 i1 off1 : D)) ∧ ∃ row : List D, (Row σ s1 i1 row) ∧ ∃ d : D, ((List.take 1 (List.drop off1 row)) = ([d] : List D)) ∧ ∃ s2 : D, ∃ i2 off2 : Nat, (a1 = (.el s2 i2 off2 : D)) ∧ ∃ row1 : List D, (Row σ s2 i2 row1) ∧ ∃ d1 : D, ((List.take 1 (List.drop off2 row1)) = ([d1] : List D)) ∧ DCalls Tryz.prog n_conf_words_num [.one d] σ (fun r Z => ∃ n : Int, (r = (.a (.one (.int .i64 n)) : RV)) ∧ DCalls Tryz.prog n_conf_words_num [.one d1] Z (fun r1 Z1 => ∃ n1 : Int, (r1 = (.a (.one (.int .i64 n1)) : RV)) ∧ ∃ row2 : List D, (Row Z1 s i row2) ∧ ∃ d2 : D, ((List.take 1 (List.drop (off + 3) row2)) = ([d2] : List D)) ∧ Fw.newObj Z1 (.live t_Need [[.int .i64 n, .int .i64 n1]]) (fun id Z2 => appendTo Tryz.prog Z2 t_Need 16 d2 (.osl id 0 1) (fun d3 Z3 => ∃ s3 : D, ∃ i3 off3 : Nat, (a0 = (.el s3 i3 off3 : D)) ∧ storeEl [d3] Z3 s3 i3 (off3 + 3) (fun Z4 => Qp (.tup []) Z4)))))) ∧ (∃ s : D, ∃ i off : Nat, (a0 = (.el s i off : D)) ∧ ∃ s1 : D, ∃ i1 off1 : Nat, (a1 = (.el s1 i1 off1 : D)) ∧ ∃ row : List D, (Row σ s1 i1 row) ∧ ∃ d : D, ((List.take 1 (List.drop off1 row)) = ([d] : List D)) ∧ DCalls Tryz.prog n_conf_words_num [.one d] σ (fun r Z => ∃ n : Int, (r = (.a (.one (.int .i64 n)) : RV)) ∧ ∃ row1 : List D, (Row Z s i row1) ∧ ∃ d1 : D, ((List.take 1 (List.drop (off + 3) row1)) = ([d1] : List D)) ∧ ∃ s2 : D, ∃ i2 off2 : Nat, (a1 = (.el s2 i2 off2 : D)) ∧ ∃ row2 : List D, (Row Z s2 i2 row2) ∧ ∃ d2 : D, ((List.take 1 (List.drop off2 row2)) = ([d2] : List D)) ∧ DCalls Tryz.prog n_conf_words_num [.one d2] Z (fun r1 Z1 => ∃ n1 : Int, (r1 = (.a (.one (.int .i64 n1)) : RV)) ∧ Fw.newObj Z1 (.live t_Need [[.int .i64 n, .int .i64 n1]]) (fun id Z2 => appendTo Tryz.prog Z2 t_Need 16 d1 (.osl id 0 1) (fun d3 Z3 => ∃ s3 : D, ∃ i3 off3 : Nat, (a0 = (.el s3 i3 off3 : D)) ∧ storeEl [d3] Z3 s3 i3 (off3 + 3) (fun Z4 => Qp (.tup []) Z4)))))) ∧ ∃ s : D, ∃ i off : Nat, (a0 = (.el s i off : D)) ∧ ∃ s1 : D, ∃ i1 off1 : Nat, (a1 = (.el s1 i1 off1 : D)) ∧ ∃ row : List D, (Row σ s1 i1 row) ∧ ∃ d : D, ((List.take 1 (List.drop off1 row)) = ([d] : List D)) ∧ DCalls Tryz.prog n_conf_words_num [.one d] σ (fun r Z => ∃ n : Int, (r = (.a (.one (.int .i64 n)) : RV)) ∧ ∃ s2 : D, ∃ i2 off2 : Nat, (a1 = (.el s2 i2 off2 : D)) ∧ ∃ row1 : List D, (Row Z s2 i2 row1) ∧ ∃ d1 : D, ((List.take 1 (List.drop off2 row1)) = ([d1] : List D)) ∧ DCalls Tryz.prog n_conf_words_num [.one d1] Z (fun r1 Z1 => ∃ n1 : Int, (r1 = (.a (.one (.int .i64 n1)) : RV)) ∧ ∃ row2 : List D, (Row Z1 s i row2) ∧ ∃ d2 : D, ((List.take 1 (List.drop (off + 3) row2)) = ([d2] : List D)) ∧ Fw.newObj Z1 (.live t_Need [[.int .i64 n, .int .i64 n1]]) (fun id Z2 => appendTo Tryz.prog Z2 t_Need 16 d2 (.osl id 0 1) (fun d3 Z3 => ∃ s3 : D, ∃ i3 off3 : Nat, (a0 = (.el s3 i3 off3 : D)) ∧ storeEl [d3] Z3 s3 i3 (off3 + 3) (fun Z4 => Qp (.tup []) Z4)))))
theorem W_conf_words_route_2 (a0 : D) (a1 : D) (σ : Store) (Qp : RV → Store → Prop) (h : V_conf_words_route_2 a0 a1 σ Qp) : DCalls Tryz.prog n_conf_words_route_2 [.one a0, .one a1] σ Qp :=
 dcalls_of_body mixed (by kernel_rfl) Tryz.func116 an_conf_words_route_2 (Eq.mp (by kernel_rfl) h)
def an_slices_IndexFunc_Need : Ann := { esc := [], cbs := [], draws := [], loops := [(2, { mods := [(8, SlotSh.one (Sh.int IntKind.i64))], keep := [0, 1, 7] })], joins := [] }
def V_slices_IndexFunc_Need (s : D) (f : D) (σ : Store) (Qp : RV → Store → Prop) : Prop :=
 ∃ len : Nat, (Len s len) ∧ ∃ I : Int → Store → Prop, ∃ μ : Int → Store → Nat, (I 0 σ) ∧ ∀ n : Int, ∀ Z, (I n Z) → bcase (decide (n < (len : Int))) (∃ len1 : Nat, (Idx Tryz.prog Z s 2 len1) ∧ ((0 : Int) ≤ n) ∧ (n < (len1 : Int)) ∧ ∃ row : List D, (Row Z s (Int.toNat n) row) ∧ ∃ n1 n2 : Int, ((List.take 2 row) = ([.int .i64 n1, .int .i64 n2] : List D)) ∧ ∃ f1 : FuncId, ∃ a : List (Bool × (List D)), ∃ b : List (Bool × (List D)), ∃ as0' : List A, ∃ bs : List A, (f = (.fn f1 a b : D)) ∧ ((capAs a) = (Option.some as0')) ∧ ((capAs b) = (Option.some bs)) ∧ DCalls Tryz.prog f1 (HAppend.hAppend (HAppend.hAppend as0' [.agg [.int .i64 n1, .int .i64 n2]]) bs) Z (fun r Z1 => ∃ b1 : Bool, (r = (.a (.one (.bool b1)) : RV)) ∧ bcase b1 (Qp (.a (.one (.int .i64 n))) Z1) ((I (w64 (n + 1)) Z1) ∧ ((μ (w64 (n + 1)) Z1) < (μ n Z))))) (Qp (.a (.one (.int .i64 (-1)))) Z)
theorem W_slices_IndexFunc_Need (s : D) (f : D) (σ : Store) (Qp : RV → Store → Prop) (h : V_slices_IndexFunc_Need s f σ Qp) : DCalls Tryz.prog n_slices_IndexFunc_Need [.one s, .one f] σ Qp :=
 dcalls_of_body mixed (by kernel_rfl) Tryz.func133 an_slices_IndexFunc_Need (Eq.mp (by kernel_rfl) h)
def an_strings_CutSuffix : Ann := { esc := [], cbs := [], draws := [], loops := [], joins := [] }
def V_strings_CutSuffix (s : ByteArray) (suffix : ByteArray) (σ : Store) (Qp : RV → Store → Prop) : Prop :=
 DCalls Tryz.prog n_internal_stringslite_CutSuffix [.one (.str s), .one (.str suffix)] σ (fun r Z => ∃ s1 : ByteArray, ∃ b : Bool, (r = (.tup [.one (.str s1), .one (.bool b)] : RV)) ∧ Qp (.tup [.one (.str s1), .one (.bool b)]) Z)
theorem W_strings_CutSuffix (s : ByteArray) (suffix : ByteArray) (σ : Store) (Qp : RV → Store → Prop) (h : V_strings_CutSuffix s suffix σ Qp) : DCalls Tryz.prog n_strings_CutSuffix [.one (.str s), .one (.str suffix)] σ Qp :=
 dcalls_of_body mixed (by kernel_rfl) Tryz.func50 an_strings_CutSuffix (Eq.mp (by kernel_rfl) h)
def an_strings_splitSeq : Ann := { esc := [4, 3, 5], cbs := [], draws := [], loops := [], joins := [] }
def V_strings_splitSeq (s : ByteArray) (sep : ByteArray) (sepSave : Int) (σ : Store) (Qp : RV → Store → Prop) : Prop :=
 Fw.newObj σ (.live t_string [[.str s]]) (fun id Z => Fw.newObj Z (.live t_string [[.str sep]]) (fun id1 Z1 => Fw.newObj Z1 (.live t_int [[.int .i64 sepSave]]) (fun id2 Z2 => Qp (.a (.one (.fn n_strings_splitSeq_1 [] [(false, [.el (.osl id1 0 1) 0 0]), (false, [.el (.osl id 0 1) 0 0]), (false, [.el (.osl id2 0 1) 0 0])]))) Z2)))
theorem W_strings_splitSeq (s : ByteArray) (sep : ByteArray) (sepSave : Int) (σ : Store) (Qp : RV → Store → Prop) (h : V_strings_splitSeq s sep sepSave σ Qp) : DCalls Tryz.prog n_strings_splitSeq [.one (.str s), .one (.str sep), .one (.int .i64 sepSave)] σ Qp :=
 dcalls_of_body mixed (by kernel_rfl) Tryz.func87 an_strings_splitSeq (Eq.mp (by kernel_rfl) h)
end Go.Proofs.YtfdffboelecgoaaGreatDoor
end
section
set_option maxRecDepth 100000
namespace Go.Proofs.YtfdffboelecgoaaGreatDoor
open Go.Fw Go.Proofs
def an_law06_lives : Ann := { esc := [], cbs := [], draws := [], loops := [], joins := [], frz := [19] }
def V_law06_lives (σ : Store) (Qp : RV → Store → Prop) : Prop :=
 DCalls Tryz.prog n_law06_small [] σ (fun r Z => ∃ d d1 d2 d3 d4 : D, ∃ n n1 n2 n3 : Int, (r = (.a (.agg [d, d1, d2, d3, d4, .int .i64 n, .int .i64 n1, .int .i64 n2, .int .i64 n3]) : RV)) ∧ DCalls Tryz.prog n_conf_Locks [.agg [d, d1, d2, d3, d4, .int .i64 n, .int .i64 n1, .int .i64 n2, .int .i64 n3], .one (.int .i64 0)] Z (fun r1 Z1 => ∃ d5 : D, (r1 = (.a (.one d5) : RV)) ∧ DCalls Tryz.prog n_conf_Text [.agg [d, d1, d2, d3, d4, .int .i64 n, .int .i64 n1, .int .i64 n2, .int .i64 n3]] Z1 (fun r2 Z2 => ∃ s : ByteArray, (r2 = (.a (.one (.str s)) : RV)) ∧ DCalls Tryz.prog n_conf_Read [.one (.str s)] Z2 (fun r3 Z3 => ∃ d6 d7 d8 d9 d10 : D, ∃ n4 n5 n6 n7 n8 : Int, (r3 = (.tup [.agg [d6, d7, d8, d9, d10, .int .i64 n4, .int .i64 n5, .int .i64 n6, .int .i64 n7], .one (.int .i64 n8)] : RV)) ∧ DCalls Tryz.prog n_conf_Check [.agg [d, d1, d2, d3, d4, .int .i64 n, .int .i64 n1, .int .i64 n2, .int .i64 n3]] Z3 (fun r4 Z4 => ∃ n9 : Int, (r4 = (.a (.one (.int .i64 n9)) : RV)) ∧ bcase (n9 == 0) (DCalls Tryz.prog n_ref01_SameInts [.one d5, .one (.sl 1 [[.int .i64 1], [.int .i64 2]])] Z4 (fun r5 Z5 => ∃ b : Bool, (r5 = (.a (.one (.bool b)) : RV)) ∧ bcase b (bcase (n8 == 0) (DCalls Tryz.prog n_law06_same [.agg [d6, d7, d8, d9, d10, .int .i64 n4, .int .i64 n5, .int .i64 n6, .int .i64 n7], .agg [d, d1, d2, d3, d4, .int .i64 n, .int .i64 n1, .int .i64 n2, .int .i64 n3]] Z5 (fun r6 Z6 => ∃ b1 : Bool, (r6 = (.a (.one (.bool b1)) : RV)) ∧ bcase b1 (DCalls Tryz.prog n_conf_Approach [.agg [d, d1, d2, d3, d4, .int .i64 n, .int .i64 n1, .int .i64 n2, .int .i64 n3], .one (.int .i64 0)] Z6 (fun r7 Z7 => ∃ n10 : Int, (r7 = (.a (.one (.int .i64 n10)) : RV)) ∧ bcase (n10 == 0) (DCalls Tryz.prog n_conf_Conflict [.agg [d, d1, d2, d3, d4, .int .i64 n, .int .i64 n1, .int .i64 n2, .int .i64 n3], .one (.int .i64 0), .one (.int .i64 0)] Z7 (fun r8 Z8 => ∃ b2 : Bool, (r8 = (.a (.one (.bool b2)) : RV)) ∧ Qp (.a (.one (.bool b2))) Z8)) (Qp (.a (.one (.bool false))) Z7))) (Qp (.a (.one (.bool false))) Z6))) (Qp (.a (.one (.bool false))) Z5)) (Qp (.a (.one (.bool false))) Z5))) (Qp (.a (.one (.bool false))) Z4))))))
theorem W_law06_lives (σ : Store) (Qp : RV → Store → Prop) (h : V_law06_lives σ Qp) : DCalls Tryz.prog n_law06_lives [] σ Qp :=
 dcalls_of_body mixed (by kernel_rfl) Tryz.func10 an_law06_lives (Eq.mp (by kernel_rfl) h)
def an_conf_Text : Ann := { esc := [15], cbs := [1], draws := [], loops := [(3, { mods := [(19, SlotSh.one (Sh.int IntKind.i64))], keep := [1, 3, 17, 18] }), (8, { mods := [(36, SlotSh.one (Sh.int IntKind.i64))], keep := [1, 3, 34, 35] }), (13, { mods := [(55, SlotSh.one (Sh.int IntKind.i64))], keep := [1, 3, 53, 54] }), (18, { mods := [(70, SlotSh.one (Sh.int IntKind.i64))], keep := [1, 3, 68, 69] }), (23, { mods := [(82, SlotSh.one (Sh.int IntKind.i64))], keep := [1, 3, 80, 81] })], joins := [] }
def V_conf_Text (c0 : D) (c1 : D) (c2 : D) (c3 : D) (c4 : D) (c5 : Int) (c6 : Int) (c7 : Int) (c8 : Int) (σ : Store) (Qp : RV → Store → Prop) : Prop :=
 Fw.newObj σ (.live t_conf_printer [[.nilp, .nils]]) (fun id Z => ∃ len : Nat, (Len c0 len) ∧ ∃ I : Int → Store → Prop, ∃ μ : Int → Store → Nat, (I 0 Z) ∧ ∀ n : Int, ∀ Z1, (I n Z1) → bcase (decide (n < (len : Int))) (∃ len1 : Nat, (Idx Tryz.prog Z1 c0 3 len1) ∧ ((0 : Int) ≤ n) ∧ (n < (len1 : Int)) ∧ ∃ row : List D, (Row Z1 c0 (Int.toNat n) row) ∧ ∃ n1 n2 n3 : Int, ((List.take 3 row) = ([.int .i64 n1, .int .i64 n2, .int .i64 n3] : List D)) ∧ Fw.newObj Z1 (.live t_int [[.int .i64 n1], [.int .i64 n2], [.int .i64 n3]]) (fun id1 Z2 => DCalls Tryz.prog n_conf_printer_line [.one (.el (.osl id 0 1) 0 0), .one (.str (ByteArray.mk (List.toArray [115, 101, 99, 116, 105, 111, 110]))), .one (.osl id1 0 3)] Z2 (fun r Z3 => (r = (.tup [] : RV)) ∧ (I (w64 (n + 1)) Z3) ∧ ((μ (w64 (n + 1)) Z3) < (μ n Z1))))) (∃ len1 : Nat, (Len c1 len1) ∧ ∃ I1 : Int → Store → Prop, ∃ μ1 : Int → Store → Nat, (I1 0 Z1) ∧ ∀ n1 : Int, ∀ Z2, (I1 n1 Z2) → bcase (decide (n1 < (len1 : Int))) (∃ len2 : Nat, (Idx Tryz.prog Z2 c1 4 len2) ∧ ((0 : Int) ≤ n1) ∧ (n1 < (len2 : Int)) ∧ ∃ row : List D, (Row Z2 c1 (Int.toNat n1) row) ∧ ∃ n2 n3 n4 n5 : Int, ((List.take 4 row) = ([.int .i64 n2, .int .i64 n3, .int .i64 n4, .int .i64 n5] : List D)) ∧ Fw.newObj Z2 (.live t_int [[.int .i64 n2], [.int .i64 n3], [.int .i64 n4], [.int .i64 n5]]) (fun id1 Z3 => DCalls Tryz.prog n_conf_printer_line [.one (.el (.osl id 0 1) 0 0), .one (.str (ByteArray.mk (List.toArray [106, 111, 105, 110, 116]))), .one (.osl id1 0 4)] Z3 (fun r Z4 => (r = (.tup [] : RV)) ∧ (I1 (w64 (n1 + 1)) Z4) ∧ ((μ1 (w64 (n1 + 1)) Z4) < (μ1 n1 Z2))))) (∃ len2 : Nat, (Len c2 len2) ∧ ∃ I2 : Int → Store → Prop, ∃ μ2 : Int → Store → Nat, (I2 0 Z2) ∧ ∀ n2 : Int, ∀ Z3, (I2 n2 Z3) → bcase (decide (n2 < (len2 : Int))) (∃ len3 : Nat, (Idx Tryz.prog Z3 c2 2 len3) ∧ ((0 : Int) ≤ n2) ∧ (n2 < (len3 : Int)) ∧ ∃ row : List D, (Row Z3 c2 (Int.toNat n2) row) ∧ ∃ n3 n4 : Int, ((List.take 2 row) = ([.int .i64 n3, .int .i64 n4] : List D)) ∧ Fw.newObj Z3 (.live t_int [[.int .i64 n3], [.int .i64 n4]]) (fun id1 Z4 => DCalls Tryz.prog n_conf_printer_line [.one (.el (.osl id 0 1) 0 0), .one (.str (ByteArray.mk (List.toArray [115, 105, 103, 110, 97, 108]))), .one (.osl id1 0 2)] Z4 (fun r Z5 => (r = (.tup [] : RV)) ∧ (I2 (w64 (n2 + 1)) Z5) ∧ ((μ2 (w64 (n2 + 1)) Z5) < (μ2 n2 Z3))))) (∃ len3 : Nat, (Len c3 len3) ∧ ∃ I3 : Int → Store → Prop, ∃ μ3 : Int → Store → Nat, (I3 0 Z3) ∧ ∀ n3 : Int, ∀ Z4, (I3 n3 Z4) → bcase (decide (n3 < (len3 : Int))) (∃ len4 : Nat, (Idx Tryz.prog Z4 c3 1 len4) ∧ ((0 : Int) ≤ n3) ∧ (n3 < (len4 : Int)) ∧ ∃ row : List D, (Row Z4 c3 (Int.toNat n3) row) ∧ ∃ n4 : Int, ((List.take 1 row) = ([.int .i64 n4] : List D)) ∧ Fw.newObj Z4 (.live t_int [[.int .i64 n4]]) (fun id1 Z5 => DCalls Tryz.prog n_conf_printer_line [.one (.el (.osl id 0 1) 0 0), .one (.str (ByteArray.mk (List.toArray [99, 114, 111, 115, 115, 105, 110, 103]))), .one (.osl id1 0 1)] Z5 (fun r Z6 => (r = (.tup [] : RV)) ∧ (I3 (w64 (n3 + 1)) Z6) ∧ ((μ3 (w64 (n3 + 1)) Z6) < (μ3 n3 Z4))))) (∃ len4 : Nat, (Len c4 len4) ∧ ∃ I4 : Int → Store → Prop, ∃ μ4 : Int → Store → Nat, (I4 0 Z4) ∧ ∀ n4 : Int, ∀ Z5, (I4 n4 Z5) → bcase (decide (n4 < (len4 : Int))) (∃ len5 : Nat, (Idx Tryz.prog Z5 c4 6 len5) ∧ ((0 : Int) ≤ n4) ∧ (n4 < (len5 : Int)) ∧ ∃ row : List D, (Row Z5 c4 (Int.toNat n4) row) ∧ ∃ n5 n6 : Int, ∃ d d1 d2 : D, ∃ b : Bool, ((List.take 6 row) = ([.int .i64 n5, .int .i64 n6, d, d1, d2, .bool b] : List D)) ∧ DCalls Tryz.prog n_conf_printer_route [.one (.el (.osl id 0 1) 0 0), .agg [.int .i64 n5, .int .i64 n6, d, d1, d2, .bool b]] Z5 (fun r Z6 => (r = (.tup [] : RV)) ∧ (I4 (w64 (n4 + 1)) Z6) ∧ ((μ4 (w64 (n4 + 1)) Z6) < (μ4 n4 Z5)))) (Fw.newObj Z5 (.live t_int [[.int .i64 c5], [.int .i64 c6], [.int .i64 c7], [.int .i64 c8]]) (fun id1 Z6 => DCalls Tryz.prog n_conf_printer_line [.one (.el (.osl id 0 1) 0 0), .one (.str (ByteArray.mk (List.toArray [116, 105, 109, 105, 110, 103]))), .one (.osl id1 0 4)] Z6 (fun r Z7 => (r = (.tup [] : RV)) ∧ DCalls Tryz.prog n_strings_Builder_String [.one (.el (.osl id 0 1) 0 0)] Z7 (fun r1 Z8 => ∃ s : ByteArray, (r1 = (.a (.one (.str s)) : RV)) ∧ Qp (.a (.one (.str s))) Z8)))))))))
theorem W_conf_Text (c0 : D) (c1 : D) (c2 : D) (c3 : D) (c4 : D) (c5 : Int) (c6 : Int) (c7 : Int) (c8 : Int) (σ : Store) (Qp : RV → Store → Prop) (h : V_conf_Text c0 c1 c2 c3 c4 c5 c6 c7 c8 σ Qp) : DCalls Tryz.prog n_conf_Text [.agg [c0, c1, c2, c3, c4, .int .i64 c5, .int .i64 c6, .int .i64 c7, .int .i64 c8]] σ Qp :=
 dcalls_of_body mixed (by kernel_rfl) Tryz.func14 an_conf_Text (Eq.mp (by kernel_rfl) h)
def an_ref01_SameInts : Ann := { esc := [], cbs := [], draws := [(6, { ord := [0, 1, 2, 3, 4, 5, 6, 7, 8], nb := [], av := [], dir := [] })], loops := [(4, { mods := [(13, SlotSh.one (Sh.int IntKind.i64))], keep := [0, 1, 12] })], joins := [] }
def V_ref01_SameInts (a : D) (b : D) (σ : Store) (Qp : RV → Store → Prop) : Prop :=
 ∃ len : Nat, (Len a len) ∧ ∃ len1 : Nat, (Len b len1) ∧ bcase ((len : Int) != (len1 : Int)) (Qp (.a (.one (.bool false))) σ) (∃ len2 : Nat, (Len a len2) ∧ ∃ I : Int → Store → Prop, ∃ μ : Int → Store → Nat, (I 0 σ) ∧ ∀ n : Int, ∀ Z, (I n Z) → bcase (decide (n < (len2 : Int))) (∃ len3 : Nat, (Idx Tryz.prog Z a 1 len3) ∧ ((0 : Int) ≤ n) ∧ (n < (len3 : Int)) ∧ ∃ row : List D, (Row Z a (Int.toNat n) row) ∧ ∃ n1 : Int, ((List.take 1 row) = ([.int .i64 n1] : List D)) ∧ ∃ len4 : Nat, (Idx Tryz.prog Z b 1 len4) ∧ ((0 : Int) ≤ n) ∧ (n < (len4 : Int)) ∧ ∃ row1 : List D, (Row Z b (Int.toNat n) row1) ∧ ∃ n2 : Int, ((List.take 1 row1) = ([.int .i64 n2] : List D)) ∧ bcase (n1 != n2) (Qp (.a (.one (.bool false))) Z) ((I (w64 (n + 1)) Z) ∧ ((μ (w64 (n + 1)) Z) < (μ n Z)))) (Qp (.a (.one (.bool true))) Z))
theorem W_ref01_SameInts (a : D) (b : D) (σ : Store) (Qp : RV → Store → Prop) (h : V_ref01_SameInts a b σ Qp) : DCalls Tryz.prog n_ref01_SameInts [.one a, .one b] σ Qp :=
 dcalls_of_body mixed (by kernel_rfl) Tryz.func19 an_ref01_SameInts (Eq.mp (by kernel_rfl) h)
def an_conf_Conflict : Ann := { esc := [7], cbs := [3], draws := [], loops := [], joins := [] }
def V_conf_Conflict (c0 : D) (c1 : D) (c2 : D) (c3 : D) (c4 : D) (c5 : Int) (c6 : Int) (c7 : Int) (c8 : Int) (a : Int) (b : Int) (σ : Store) (Qp : RV → Store → Prop) : Prop :=
 DCalls Tryz.prog n_conf_Locks [.agg [c0, c1, c2, c3, c4, .int .i64 c5, .int .i64 c6, .int .i64 c7, .int .i64 c8], .one (.int .i64 b)] σ (fun r Z => ∃ d : D, (r = (.a (.one d) : RV)) ∧ Fw.newObj Z (.live t_sl_int [[.nils]]) (fun id Z1 => storeEl [d] Z1 (.osl id 0 1) 0 0 (fun Z2 => DCalls Tryz.prog n_conf_Locks [.agg [c0, c1, c2, c3, c4, .int .i64 c5, .int .i64 c6, .int .i64 c7, .int .i64 c8], .one (.int .i64 a)] Z2 (fun r1 Z3 => ∃ d1 : D, (r1 = (.a (.one d1) : RV)) ∧ DCalls Tryz.prog n_slices_ContainsFunc_int [.one d1, .one (.fn n_conf_Conflict_1 [] [(false, [.el (.osl id 0 1) 0 0])])] Z3 (fun r2 Z4 => ∃ b1 : Bool, (r2 = (.a (.one (.bool b1)) : RV)) ∧ Qp (.a (.one (.bool b1))) Z4)))))
theorem W_conf_Conflict (c0 : D) (c1 : D) (c2 : D) (c3 : D) (c4 : D) (c5 : Int) (c6 : Int) (c7 : Int) (c8 : Int) (a : Int) (b : Int) (σ : Store) (Qp : RV → Store → Prop) (h : V_conf_Conflict c0 c1 c2 c3 c4 c5 c6 c7 c8 a b σ Qp) : DCalls Tryz.prog n_conf_Conflict [.agg [c0, c1, c2, c3, c4, .int .i64 c5, .int .i64 c6, .int .i64 c7, .int .i64 c8], .one (.int .i64 a), .one (.int .i64 b)] σ Qp :=
 dcalls_of_body mixed (by kernel_rfl) Tryz.func23 an_conf_Conflict (Eq.mp (by kernel_rfl) h)
def an_law06_small : Ann := { esc := [], cbs := [], draws := [], loops := [], joins := [], frz := [6, 11, 14, 17, 20, 22] }
def V_law06_small (σ : Store) (Qp : RV → Store → Prop) : Prop :=
 Qp (.a (.agg [.sl 3 [[.int .i64 0, .int .i64 0, .int .i64 0], [.int .i64 1, .int .i64 0, .int .i64 0], [.int .i64 0, .int .i64 0, .int .i64 0], [.int .i64 0, .int .i64 0, .int .i64 0], [.int .i64 0, .int .i64 0, .int .i64 1]], .sl 4 [[.int .i64 0, .int .i64 1, .int .i64 1, .int .i64 0], [.int .i64 1, .int .i64 1, .int .i64 2, .int .i64 0], [.int .i64 1, .int .i64 2, .int .i64 3, .int .i64 0], [.int .i64 2, .int .i64 1, .int .i64 4, .int .i64 0]], .sl 2 [[.int .i64 0, .int .i64 1], [.int .i64 2, .int .i64 1]], .nils, .sl 6 [[.int .i64 0, .int .i64 1, .sl 3 [[.int .i64 1, .int .i64 0, .int .i64 1], [.int .i64 2, .int .i64 0, .int .i64 1]], .nils, .nils, .bool false], [.int .i64 1, .int .i64 (-1), .sl 3 [[.int .i64 4, .int .i64 0, .int .i64 1]], .nils, .nils, .bool false]], .int .i64 2, .int .i64 1, .int .i64 4, .int .i64 1000])) σ
theorem W_law06_small (σ : Store) (Qp : RV → Store → Prop) (h : V_law06_small σ Qp) : DCalls Tryz.prog n_law06_small [] σ Qp :=
 dcalls_of_body mixed (by kernel_rfl) Tryz.func35 an_law06_small (Eq.mp (by kernel_rfl) h)
def an_conf_plan_crossings : Ann := { esc := [], cbs := [1], draws := [], loops := [(3, { mods := [(13, SlotSh.one (Sh.int IntKind.i64))], keep := [1, 3, 11, 12] })], joins := [] }
def V_conf_plan_crossings (p0 : D) (p1 : D) (p2 : D) (p3 : D) (p4 : D) (p5 : Int) (p6 : Int) (p7 : Int) (p8 : Int) (σ : Store) (Qp : RV → Store → Prop) : Prop :=
 Fw.newObj σ (.mp 0 []) (fun id Z => ∃ len : Nat, (Len p3 len) ∧ ∃ I : Int → Store → Prop, ∃ μ : Int → Store → Nat, (I 0 Z) ∧ ∀ n : Int, ∀ Z1, (I n Z1) → bcase (decide (n < (len : Int))) (∃ len1 : Nat, (Idx Tryz.prog Z1 p3 1 len1) ∧ ((0 : Int) ≤ n) ∧ (n < (len1 : Int)) ∧ ∃ row : List D, (Row Z1 p3 (Int.toNat n) row) ∧ ∃ n1 : Int, ((List.take 1 row) = ([.int .i64 n1] : List D)) ∧ DCalls Tryz.prog n_conf_plan_section [.agg [p0, p1, p2, p3, p4, .int .i64 p5, .int .i64 p6, .int .i64 p7, .int .i64 p8], .one (.int .i64 n1)] Z1 (fun r Z2 => ∃ n2 n3 n4 : Int, ∃ b : Bool, (r = (.tup [.agg [.int .i64 n2, .int .i64 n3, .int .i64 n4], .one (.bool b)] : RV)) ∧ ∃ r1 : Option A, (MLook Tryz.prog t_int Z2 (.omap id) (.one (.int .i64 n1)) r1) ∧ ∃ n5 : Int, ((Option.getD r1 (.one (.int .i64 0))) = (.one (.int .i64 n5) : A)) ∧ MPut Tryz.prog t_int Z2 (.omap id) (.one (.int .i64 n1)) (.one (.int .i64 (w64 (n5 + 1)))) (fun Z3 => bcase (!b) (Qp (.a (.one (.bool false))) Z3) (bcase (n4 != 0) (Qp (.a (.one (.bool false))) Z3) (∃ r2 : Option A, (MLook Tryz.prog t_int Z3 (.omap id) (.one (.int .i64 n1)) r2) ∧ ∃ n6 : Int, ((Option.getD r2 (.one (.int .i64 0))) = (.one (.int .i64 n6) : A)) ∧ bcase (decide (n6 > 1)) (Qp (.a (.one (.bool false))) Z3) ((I (w64 (n + 1)) Z3) ∧ ((μ (w64 (n + 1)) Z3) < (μ n Z1)))))))) (∃ len1 : Nat, (Len p3 len1) ∧ Qp (.a (.one (.bool (decide ((len1 : Int) ≤ 4))))) Z1))
theorem W_conf_plan_crossings (p0 : D) (p1 : D) (p2 : D) (p3 : D) (p4 : D) (p5 : Int) (p6 : Int) (p7 : Int) (p8 : Int) (σ : Store) (Qp : RV → Store → Prop) (h : V_conf_plan_crossings p0 p1 p2 p3 p4 p5 p6 p7 p8 σ Qp) : DCalls Tryz.prog n_conf_plan_crossings [.agg [p0, p1, p2, p3, p4, .int .i64 p5, .int .i64 p6, .int .i64 p7, .int .i64 p8]] σ Qp :=
 dcalls_of_body mixed (by kernel_rfl) Tryz.func39 an_conf_plan_crossings (Eq.mp (by kernel_rfl) h)
def an_ref06_signals : Ann := { esc := [], cbs := [1], draws := [], loops := [(2, { mods := [(11, SlotSh.one (Sh.int IntKind.i64))], keep := [1, 9, 10] })], joins := [] }
def V_ref06_signals (c0 : D) (c1 : D) (c2 : D) (c3 : D) (c4 : D) (c5 : Int) (c6 : Int) (c7 : Int) (c8 : Int) (σ : Store) (Qp : RV → Store → Prop) : Prop :=
 ∃ len : Nat, (Len c2 len) ∧ ∃ I : Int → Store → Prop, ∃ μ : Int → Store → Nat, (I 0 σ) ∧ ∀ n : Int, ∀ Z, (I n Z) → bcase (decide (n < (len : Int))) (∃ len1 : Nat, (Idx Tryz.prog Z c2 2 len1) ∧ ((0 : Int) ≤ n) ∧ (n < (len1 : Int)) ∧ ∃ row : List D, (Row Z c2 (Int.toNat n) row) ∧ ∃ n1 n2 : Int, ((List.take 2 row) = ([.int .i64 n1, .int .i64 n2] : List D)) ∧ DCalls Tryz.prog n_ref05_Next [.one c1, .one (.int .i64 n1), .one (.int .i64 n2)] Z (fun r Z1 => ∃ n3 n4 : Int, ∃ b : Bool, (r = (.tup [.one (.int .i64 n3), .one (.int .i64 n4), .one (.bool b)] : RV)) ∧ bcase (!b) (Qp (.a (.one (.bool false))) Z1) (DCalls Tryz.prog n_ref06_at [.agg [c0, c1, c2, c3, c4, .int .i64 c5, .int .i64 c6, .int .i64 c7, .int .i64 c8], .one (.int .i64 n1), .one (.int .i64 n2), .one (.int .i64 n)] Z1 (fun r1 Z2 => ∃ b1 : Bool, (r1 = (.a (.one (.bool b1)) : RV)) ∧ bcase b1 (Qp (.a (.one (.bool false))) Z2) ((I (w64 (n + 1)) Z2) ∧ ((μ (w64 (n + 1)) Z2) < (μ n Z))))))) (∃ len1 : Nat, (Len c2 len1) ∧ Qp (.a (.one (.bool (decide ((len1 : Int) ≤ 12))))) Z)
theorem W_ref06_signals (c0 : D) (c1 : D) (c2 : D) (c3 : D) (c4 : D) (c5 : Int) (c6 : Int) (c7 : Int) (c8 : Int) (σ : Store) (Qp : RV → Store → Prop) (h : V_ref06_signals c0 c1 c2 c3 c4 c5 c6 c7 c8 σ Qp) : DCalls Tryz.prog n_ref06_signals [.agg [c0, c1, c2, c3, c4, .int .i64 c5, .int .i64 c6, .int .i64 c7, .int .i64 c8]] σ Qp :=
 dcalls_of_body mixed (by kernel_rfl) Tryz.func43 an_ref06_signals (Eq.mp (by kernel_rfl) h)
def an_conf_printer_line : Ann := { esc := [], cbs := [], draws := [], loops := [], joins := [] }
def V_conf_printer_line (p : D) (word : ByteArray) (list : D) (σ : Store) (Qp : RV → Store → Prop) : Prop :=
 DCalls Tryz.prog n_conf_printer_say [.one p, .one (.str word), .one list] σ (fun r Z => (r = (.tup [] : RV)) ∧ (NotNil p) ∧ ∃ s : D, ∃ i off : Nat, (p = (.el s i off : D)) ∧ DCalls Tryz.prog n_strings_Builder_WriteByte [.one (.el s i (off + 0)), .one (.int .u8 10)] Z (fun r1 Z1 => ∃ d : D, (r1 = (.a (.one d) : RV)) ∧ Qp (.tup []) Z1))
theorem W_conf_printer_line (p : D) (word : ByteArray) (list : D) (σ : Store) (Qp : RV → Store → Prop) (h : V_conf_printer_line p word list σ Qp) : DCalls Tryz.prog n_conf_printer_line [.one p, .one (.str word), .one list] σ Qp :=
 dcalls_of_body mixed (by kernel_rfl) Tryz.func47 an_conf_printer_line (Eq.mp (by kernel_rfl) h)
def an_conf_plan_approach : Ann := { esc := [], cbs := [2, 3], draws := [], loops := [], joins := [] }
def V_conf_plan_approach (p0 : D) (p1 : D) (p2 : D) (p3 : D) (p4 : D) (p5 : Int) (p6 : Int) (p7 : Int) (p8 : Int) (r0 : Int) (r1 : Int) (r2 : D) (r3 : D) (r4 : D) (r5 : Bool) (σ : Store) (Qp : RV → Store → Prop) : Prop :=
 DCalls Tryz.prog n_conf_plan_signal [.agg [p0, p1, p2, p3, p4, .int .i64 p5, .int .i64 p6, .int .i64 p7, .int .i64 p8], .one (.int .i64 r0)] σ (fun r Z => ∃ n n1 : Int, ∃ b : Bool, (r = (.tup [.agg [.int .i64 n, .int .i64 n1], .one (.bool b)] : RV)) ∧ bcase (!b) (Qp (.a (.one (.int .i64 (-1)))) Z) (Qp (.a (.one (.int .i64 n))) Z))
theorem W_conf_plan_approach (p0 : D) (p1 : D) (p2 : D) (p3 : D) (p4 : D) (p5 : Int) (p6 : Int) (p7 : Int) (p8 : Int) (r0 : Int) (r1 : Int) (r2 : D) (r3 : D) (r4 : D) (r5 : Bool) (σ : Store) (Qp : RV → Store → Prop) (h : V_conf_plan_approach p0 p1 p2 p3 p4 p5 p6 p7 p8 r0 r1 r2 r3 r4 r5 σ Qp) : DCalls Tryz.prog n_conf_plan_approach [.agg [p0, p1, p2, p3, p4, .int .i64 p5, .int .i64 p6, .int .i64 p7, .int .i64 p8], .agg [.int .i64 r0, .int .i64 r1, r2, r3, r4, .bool r5]] σ Qp :=
 dcalls_of_body mixed (by kernel_rfl) Tryz.func60 an_conf_plan_approach (Eq.mp (by kernel_rfl) h)
def an_ref06_in : Ann := { esc := [], cbs := [], draws := [], loops := [(2, { mods := [(9, SlotSh.one (Sh.int IntKind.i64))], keep := [1, 7, 8] })], joins := [] }
def V_ref06_in (l : D) (n : Int) (σ : Store) (Qp : RV → Store → Prop) : Prop :=
 ∃ len : Nat, (Len l len) ∧ ∃ I : Int → Store → Prop, ∃ μ : Int → Store → Nat, (I 0 σ) ∧ ∀ n1 : Int, ∀ Z, (I n1 Z) → bcase (decide (n1 < (len : Int))) (∃ len1 : Nat, (Idx Tryz.prog Z l 1 len1) ∧ ((0 : Int) ≤ n1) ∧ (n1 < (len1 : Int)) ∧ ∃ row : List D, (Row Z l (Int.toNat n1) row) ∧ ∃ n2 : Int, ((List.take 1 row) = ([.int .i64 n2] : List D)) ∧ bcase (n2 == n) (Qp (.a (.one (.bool true))) Z) ((I (w64 (n1 + 1)) Z) ∧ ((μ (w64 (n1 + 1)) Z) < (μ n1 Z)))) (Qp (.a (.one (.bool false))) Z)
theorem W_ref06_in (l : D) (n : Int) (σ : Store) (Qp : RV → Store → Prop) (h : V_ref06_in l n σ Qp) : DCalls Tryz.prog n_ref06_in [.one l, .one (.int .i64 n)] σ Qp :=
 dcalls_of_body mixed (by kernel_rfl) Tryz.func64 an_ref06_in (Eq.mp (by kernel_rfl) h)
def an_ref05_Ends : Ann := { esc := [], cbs := [], draws := [], loops := [(3, { mods := [(3, SlotSh.one (Sh.int IntKind.i64)), (9, SlotSh.one (Sh.int IntKind.i64))], keep := [7, 8] })], joins := [] }
def V_ref05_Ends (kind : Int) (σ : Store) (Qp : RV → Store → Prop) : Prop :=
 DCalls Tryz.prog n_ref05_ways [.one (.int .i64 kind)] σ (fun r Z => ∃ d : D, (r = (.a (.one d) : RV)) ∧ ∃ len : Nat, (Len d len) ∧ ∃ I : Int → Int → Store → Prop, ∃ μ : Int → Int → Store → Nat, (I 0 0 Z) ∧ ∀ n n1 : Int, ∀ Z1, (I n n1 Z1) → bcase (decide (n1 < (len : Int))) (∃ len1 : Nat, (Idx Tryz.prog Z1 d 3 len1) ∧ ((0 : Int) ≤ n1) ∧ (n1 < (len1 : Int)) ∧ ∃ row : List D, (Row Z1 d (Int.toNat n1) row) ∧ ∃ n2 n3 n4 : Int, ((List.take 3 row) = ([.int .i64 n2, .int .i64 n3, .int .i64 n4] : List D)) ∧ (I (ite ((w64 (n3 + 1)) > (ite ((w64 (n2 + 1)) > n) (w64 (n2 + 1)) n)) (w64 (n3 + 1)) (ite ((w64 (n2 + 1)) > n) (w64 (n2 + 1)) n)) (w64 (n1 + 1)) Z1) ∧ ((μ (ite ((w64 (n3 + 1)) > (ite ((w64 (n2 + 1)) > n) (w64 (n2 + 1)) n)) (w64 (n3 + 1)) (ite ((w64 (n2 + 1)) > n) (w64 (n2 + 1)) n)) (w64 (n1 + 1)) Z1) < (μ n n1 Z1))) (Qp (.a (.one (.int .i64 n))) Z1))
theorem W_ref05_Ends (kind : Int) (σ : Store) (Qp : RV → Store → Prop) (h : V_ref05_Ends kind σ Qp) : DCalls Tryz.prog n_ref05_Ends [.one (.int .i64 kind)] σ Qp :=
 dcalls_of_body mixed (by kernel_rfl) Tryz.func68 an_ref05_Ends (Eq.mp (by kernel_rfl) h)
def an_conf_plan_section : Ann := { esc := [], cbs := [2], draws := [], loops := [], joins := [] }
def V_conf_plan_section (p0 : D) (p1 : D) (p2 : D) (p3 : D) (p4 : D) (p5 : Int) (p6 : Int) (p7 : Int) (p8 : Int) (s : Int) (σ : Store) (Qp : RV → Store → Prop) : Prop :=
 bcase (decide (s < 0)) (Qp (.tup [.agg [.int .i64 0, .int .i64 0, .int .i64 0], .one (.bool false)]) σ) (∃ len : Nat, (Len p0 len) ∧ bcase (decide (s ≥ (len : Int))) (Qp (.tup [.agg [.int .i64 0, .int .i64 0, .int .i64 0], .one (.bool false)]) σ) (∃ len1 : Nat, (Idx Tryz.prog σ p0 3 len1) ∧ ((0 : Int) ≤ s) ∧ (s < (len1 : Int)) ∧ ∃ row : List D, (Row σ p0 (Int.toNat s) row) ∧ ∃ n n1 n2 : Int, ((List.take 3 row) = ([.int .i64 n, .int .i64 n1, .int .i64 n2] : List D)) ∧ Qp (.tup [.agg [.int .i64 n, .int .i64 n1, .int .i64 n2], .one (.bool true)]) σ))
theorem W_conf_plan_section (p0 : D) (p1 : D) (p2 : D) (p3 : D) (p4 : D) (p5 : Int) (p6 : Int) (p7 : Int) (p8 : Int) (s : Int) (σ : Store) (Qp : RV → Store → Prop) (h : V_conf_plan_section p0 p1 p2 p3 p4 p5 p6 p7 p8 s σ Qp) : DCalls Tryz.prog n_conf_plan_section [.agg [p0, p1, p2, p3, p4, .int .i64 p5, .int .i64 p6, .int .i64 p7, .int .i64 p8], .one (.int .i64 s)] σ Qp :=
 dcalls_of_body mixed (by kernel_rfl) Tryz.func77 an_conf_plan_section (Eq.mp (by kernel_rfl) h)
def an_ref05_count : Ann := { esc := [], cbs := [], draws := [], loops := [(3, { mods := [(7, SlotSh.one (Sh.int IntKind.i64)), (12, SlotSh.one (Sh.int IntKind.i64))], keep := [1, 2, 10, 11] })], joins := [(7, { mods := [(7, SlotSh.one (Sh.int IntKind.i64))], keep := [1, 2, 9, 10, 11, 12] })] }
def V_ref05_count (joints : D) (section_ : Int) (end_ : Int) (σ : Store) (Qp : RV → Store → Prop) : Prop :=
 ∃ len : Nat, (Len joints len) ∧ ∃ I : Int → Int → Store → Prop, ∃ μ : Int → Int → Store → Nat, (I 0 0 σ) ∧ ∀ n n1 : Int, ∀ Z, (I n n1 Z) → bcase (decide (n1 < (len : Int))) (∃ len1 : Nat, (Idx Tryz.prog Z joints 4 len1) ∧ ((0 : Int) ≤ n1) ∧ (n1 < (len1 : Int)) ∧ ∃ row : List D, (Row Z joints (Int.toNat n1) row) ∧ ∃ n2 n3 n4 n5 : Int, ((List.take 4 row) = ([.int .i64 n2, .int .i64 n3, .int .i64 n4, .int .i64 n5] : List D)) ∧ ∀ R : Int → Store → Prop, (∀ n6 : Int, ∀ Z1, (bcase (n4 == section_) (bcase (n5 == end_) ((I (w64 (n6 + 1)) (w64 (n1 + 1)) Z1) ∧ ((μ (w64 (n6 + 1)) (w64 (n1 + 1)) Z1) < (μ n n1 Z))) ((I n6 (w64 (n1 + 1)) Z1) ∧ ((μ n6 (w64 (n1 + 1)) Z1) < (μ n n1 Z)))) ((I n6 (w64 (n1 + 1)) Z1) ∧ ((μ n6 (w64 (n1 + 1)) Z1) < (μ n n1 Z)))) → R n6 Z1) → bcase (n2 == section_) (bcase (n3 == end_) ((([[.int .i64 n2, .int .i64 n3, .int .i64 n4, .int .i64 n5]] : List (List D)) = ([[.int .i64 n2, .int .i64 n3, .int .i64 n4, .int .i64 n5]] : List (List D))) ∧ R (w64 (n + 1)) Z) ((([[.int .i64 n2, .int .i64 n3, .int .i64 n4, .int .i64 n5]] : List (List D)) = ([[.int .i64 n2, .int .i64 n3, .int .i64 n4, .int .i64 n5]] : List (List D))) ∧ R n Z)) ((([[.int .i64 n2, .int .i64 n3, .int .i64 n4, .int .i64 n5]] : List (List D)) = ([[.int .i64 n2, .int .i64 n3, .int .i64 n4, .int .i64 n5]] : List (List D))) ∧ R n Z)) (Qp (.a (.one (.int .i64 n))) Z)
theorem W_ref05_count (joints : D) (section_ : Int) (end_ : Int) (σ : Store) (Qp : RV → Store → Prop) (h : V_ref05_count joints section_ end_ σ Qp) : DCalls Tryz.prog n_ref05_count [.one joints, .one (.int .i64 section_), .one (.int .i64 end_)] σ Qp :=
 dcalls_of_body mixed (by kernel_rfl) Tryz.func81 an_ref05_count (Eq.mp (by kernel_rfl) h)
def an_conf_words_next : Ann := { esc := [], cbs := [], draws := [], loops := [], joins := [] }
def V_conf_words_next (w : D) (σ : Store) (Qp : RV → Store → Prop) : Prop :=
 (NotNil w) ∧ ∃ s : D, ∃ i off : Nat, (w = (.el s i off : D)) ∧ ∃ row : List D, (Row σ s i row) ∧ ∃ d : D, ((List.take 1 (List.drop (off + 0) row)) = ([d] : List D)) ∧ ∃ len : Nat, (Len d len) ∧ bcase ((len : Int) == 0) ((NotNil w) ∧ ∃ s1 : D, ∃ i1 off1 : Nat, (w = (.el s1 i1 off1 : D)) ∧ storeEl [.bool true] σ s1 i1 (off1 + 1) (fun Z => Qp (.a (.one (.str (ByteArray.mk (List.toArray []))))) Z)) ((NotNil w) ∧ ∃ s1 : D, ∃ i1 off1 : Nat, (w = (.el s1 i1 off1 : D)) ∧ ∃ row1 : List D, (Row σ s1 i1 row1) ∧ ∃ d1 : D, ((List.take 1 (List.drop (off1 + 0) row1)) = ([d1] : List D)) ∧ ∃ len1 : Nat, (Idx Tryz.prog σ d1 1 len1) ∧ ((0 : Int) ≤ 0) ∧ ((0 : Int) < (len1 : Int)) ∧ ∃ row2 : List D, (Row σ d1 0 row2) ∧ ∃ s2 : ByteArray, ((List.take 1 row2) = ([.str s2] : List D)) ∧ (NotNil w) ∧ ∃ s3 : D, ∃ i2 off2 : Nat, (w = (.el s3 i2 off2 : D)) ∧ ∃ row3 : List D, (Row σ s3 i2 row3) ∧ ∃ d2 : D, ((List.take 1 (List.drop (off2 + 0) row3)) = ([d2] : List D)) ∧ ∃ len2 : Nat, (IdxN Tryz.prog σ d2 1 len2) ∧ ((0 : Int) ≤ 1) ∧ ((1 : Int) ≤ (len2 : Int)) ∧ (NotNil w) ∧ ∃ s4 : D, ∃ i3 off3 : Nat, (w = (.el s4 i3 off3 : D)) ∧ storeEl [dsub d2 1 len2] σ s4 i3 (off3 + 0) (fun Z => Qp (.a (.one (.str s2))) Z))
theorem W_conf_words_next (w : D) (σ : Store) (Qp : RV → Store → Prop) (h : V_conf_words_next w σ Qp) : DCalls Tryz.prog n_conf_words_next [.one w] σ Qp :=
 dcalls_of_body mixed (by kernel_rfl) Tryz.func89 an_conf_words_next (Eq.mp (by kernel_rfl) h)
def an_conf_has : Ann := { esc := [3], cbs := [], draws := [], loops := [], joins := [] }
def V_conf_has (path : D) (section_ : Int) (σ : Store) (Qp : RV → Store → Prop) : Prop :=
 Fw.newObj σ (.live t_int [[.int .i64 section_]]) (fun id Z => DCalls Tryz.prog n_slices_ContainsFunc_Step [.one path, .one (.fn n_conf_has_1 [] [(false, [.el (.osl id 0 1) 0 0])])] Z (fun r Z1 => ∃ b : Bool, (r = (.a (.one (.bool b)) : RV)) ∧ Qp (.a (.one (.bool b))) Z1))
theorem W_conf_has (path : D) (section_ : Int) (σ : Store) (Qp : RV → Store → Prop) (h : V_conf_has path section_ σ Qp) : DCalls Tryz.prog n_conf_has [.one path, .one (.int .i64 section_)] σ Qp :=
 dcalls_of_body mixed (by kernel_rfl) Tryz.func100 an_conf_has (Eq.mp (by kernel_rfl) h)
def an_slices_Contains_Signal : Ann := { esc := [], cbs := [3], draws := [], loops := [], joins := [] }
def V_slices_Contains_Signal (s : D) (v0 : Int) (v1 : Int) (σ : Store) (Qp : RV → Store → Prop) : Prop :=
 DCalls Tryz.prog n_slices_Index_Signal [.one s, .agg [.int .i64 v0, .int .i64 v1]] σ (fun r Z => ∃ n : Int, (r = (.a (.one (.int .i64 n)) : RV)) ∧ Qp (.a (.one (.bool (decide (n ≥ 0))))) Z)
theorem W_slices_Contains_Signal (s : D) (v0 : Int) (v1 : Int) (σ : Store) (Qp : RV → Store → Prop) (h : V_slices_Contains_Signal s v0 v1 σ Qp) : DCalls Tryz.prog n_slices_Contains_Signal [.one s, .agg [.int .i64 v0, .int .i64 v1]] σ Qp :=
 dcalls_of_body mixed (by kernel_rfl) Tryz.func105 an_slices_Contains_Signal (Eq.mp (by kernel_rfl) h)
def an_conf_words_route_3 : Ann := { esc := [], cbs := [], draws := [], loops := [], joins := [], splits := [(0, (DT.split 1 3 (DT.leaf { ord := [0, 1, 2, 3, 4, 5, 6, 7], nb := [], av := [], dir := [] }) (DT.leaf { ord := [0, 2, 3, 1, 4, 5, 6, 7], nb := [], av := [], dir := [] })))] }
def V_conf_words_route_3 (a0 : D) (a1 : D) (σ : Store) (Qp : RV → Store → Prop) : Prop :=
 (∃ s : D, ∃ i off : Nat, (a0 = (.el s i off : D)) ∧ ∃ row : List D, (Row σ s i row) ∧ ∃ d : D, ((List.take 1 (List.drop (off + 4) row)) = ([d] : List D)) ∧ ∃ s1 : D, ∃ i1 off1 : Nat, (a1 = (.el s1 i1 off1 : D)) ∧ ∃ row1 : List D, (Row σ s1 i1 row1) ∧ ∃ d1 : D, ((List.take 1 (List.drop off1 row1)) = ([d1] : List D)) ∧ DCalls Tryz.prog n_conf_words_num [.one d1] σ (fun r Z => ∃ n : Int, (r = (.a (.one (.int .i64 n)) : RV)) ∧ Fw.newObj Z (.live t_int [[.int .i64 n]]) (fun id Z1 => appendTo Tryz.prog Z1 t_int 8 d (.osl id 0 1) (fun d2 Z2 => ∃ s2 : D, ∃ i2 off2 : Nat, (a0 = (.el s2 i2 off2 : D)) ∧ storeEl [d2] Z2 s2 i2 (off2 + 4) (fun Z3 => Qp (.tup []) Z3))))) ∧ ∃ s : D, ∃ i off : Nat, (a0 = (.el s i off : D)) ∧ ∃ s1 : D, ∃ i1 off1 : Nat, (a1 = (.el s1 i1 off1 : D)) ∧ ∃ row : List D, (Row σ s1 i1 row) ∧ ∃ d : D, ((List.take 1 (List.drop off1 row)) = ([d] : List D)) ∧ DCalls Tryz.prog n_conf_words_num [.one d] σ (fun r Z => ∃ n : Int, (r = (.a (.one (.int .i64 n)) : RV)) ∧ ∃ row1 : List D, (Row Z s i row1) ∧ ∃ d1 : D, ((List.take 1 (List.drop (off + 4) row1)) = ([d1] : List D)) ∧ Fw.newObj Z (.live t_int [[.int .i64 n]]) (fun id Z1 => appendTo Tryz.prog Z1 t_int 8 d1 (.osl id 0 1) (fun d2 Z2 => ∃ s2 : D, ∃ i2 off2 : Nat, (a0 = (.el s2 i2 off2 : D)) ∧ storeEl [d2] Z2 s2 i2 (off2 + 4) (fun Z3 => Qp (.tup []) Z3))))
theorem W_conf_words_route_3 (a0 : D) (a1 : D) (σ : Store) (Qp : RV → Store → Prop) (h : V_conf_words_route_3 a0 a1 σ Qp) : DCalls Tryz.prog n_conf_words_route_3 [.one a0, .one a1] σ Qp :=
 dcalls_of_body mixed (by kernel_rfl) Tryz.func117 an_conf_words_route_3 (Eq.mp (by kernel_rfl) h)
def an_slices_Index_Signal : Ann := { esc := [], cbs := [3], draws := [(4, { ord := [0, 1, 2, 3, 4, 5], nb := [], av := [], dir := [] })], loops := [(2, { mods := [(8, SlotSh.one (Sh.int IntKind.i64))], keep := [0, 3, 7] })], joins := [] }
def V_slices_Index_Signal (s : D) (v0 : Int) (v1 : Int) (σ : Store) (Qp : RV → Store → Prop) : Prop :=
 ∃ len : Nat, (Len s len) ∧ ∃ I : Int → Store → Prop, ∃ μ : Int → Store → Nat, (I 0 σ) ∧ ∀ n : Int, ∀ Z, (I n Z) → bcase (decide (n < (len : Int))) (∃ len1 : Nat, (Idx Tryz.prog Z s 2 len1) ∧ ((0 : Int) ≤ n) ∧ (n < (len1 : Int)) ∧ ∃ row : List D, (Row Z s (Int.toNat n) row) ∧ ∃ n1 n2 : Int, ((List.take 2 row) = ([.int .i64 n1, .int .i64 n2] : List D)) ∧ bcase ((v0 == n1) && (v1 == n2)) (Qp (.a (.one (.int .i64 n))) Z) ((I (w64 (n + 1)) Z) ∧ ((μ (w64 (n + 1)) Z) < (μ n Z)))) (Qp (.a (.one (.int .i64 (-1)))) Z)
theorem W_slices_Index_Signal (s : D) (v0 : Int) (v1 : Int) (σ : Store) (Qp : RV → Store → Prop) (h : V_slices_Index_Signal s v0 v1 σ Qp) : DCalls Tryz.prog n_slices_Index_Signal [.one s, .agg [.int .i64 v0, .int .i64 v1]] σ Qp :=
 dcalls_of_body mixed (by kernel_rfl) Tryz.func135 an_slices_Index_Signal (Eq.mp (by kernel_rfl) h)
def an_internal_stringslite_CutSuffix : Ann := { esc := [], cbs := [], draws := [], loops := [], joins := [] }
def V_internal_stringslite_CutSuffix (s : ByteArray) (suffix : ByteArray) (σ : Store) (Qp : RV → Store → Prop) : Prop :=
 DCalls Tryz.prog n_internal_stringslite_HasSuffix [.one (.str s), .one (.str suffix)] σ (fun r Z => ∃ b : Bool, (r = (.a (.one (.bool b)) : RV)) ∧ bcase (!b) (Qp (.tup [.one (.str s), .one (.bool false)]) Z) (((0 : Int) ≤ 0) ∧ ((0 : Int) ≤ (w64 ((ByteArray.size s : Int) - (ByteArray.size suffix : Int)))) ∧ ((w64 ((ByteArray.size s : Int) - (ByteArray.size suffix : Int))) ≤ (ByteArray.size s : Int)) ∧ Qp (.tup [.one (.str (ByteArray.extract s 0 (Int.toNat (w64 ((ByteArray.size s : Int) - (ByteArray.size suffix : Int)))))), .one (.bool true)]) Z))
theorem W_internal_stringslite_CutSuffix (s : ByteArray) (suffix : ByteArray) (σ : Store) (Qp : RV → Store → Prop) (h : V_internal_stringslite_CutSuffix s suffix σ Qp) : DCalls Tryz.prog n_internal_stringslite_CutSuffix [.one (.str s), .one (.str suffix)] σ Qp :=
 dcalls_of_body mixed (by kernel_rfl) Tryz.func86 an_internal_stringslite_CutSuffix (Eq.mp (by kernel_rfl) h)
def an_strings_Split : Ann := { esc := [], cbs := [], draws := [], loops := [], joins := [] }
def V_strings_Split (s : ByteArray) (sep : ByteArray) (σ : Store) (Qp : RV → Store → Prop) : Prop :=
 DCalls Tryz.prog n_strings_genSplit [.one (.str s), .one (.str sep), .one (.int .i64 0), .one (.int .i64 (-1))] σ (fun r Z => ∃ d : D, (r = (.a (.one d) : RV)) ∧ Qp (.a (.one d)) Z)
theorem W_strings_Split (s : ByteArray) (sep : ByteArray) (σ : Store) (Qp : RV → Store → Prop) (h : V_strings_Split s sep σ Qp) : DCalls Tryz.prog n_strings_Split [.one (.str s), .one (.str sep)] σ Qp :=
 dcalls_of_body mixed (by kernel_rfl) Tryz.func52 an_strings_Split (Eq.mp (by kernel_rfl) h)
end Go.Proofs.YtfdffboelecgoaaGreatDoor
end
section
set_option maxRecDepth 20000
namespace Go.Proofs.YtfdffboelecgoaaGreatDoor
open Go.Fw Go.Proofs Go.RowKit
variable {σ : Store}
theorem flatW (l : List (Int × Int × Int)) : ∀ row ∈ l.map encW, ∀ x ∈ row, Flat x := by
 intro row hrow x hx
 obtain ⟨w, _, rfl⟩ := List.mem_map.1 hrow
 simp [encW] at hx
 rcases hx with rfl | rfl | rfl <;> exact .int _ _
def WaysPost (σ : Store) (t : TypeId) (k : Int) (r : RV) (σ' : Store) : Prop := σ' = σ ∧ ∃ d, r = .a (.one d) ∧ ∀ s, At Tryz.prog s t d ((wayL k).map encW)
theorem ways_fin {t : TypeId} (hc : Tryz.prog.cellsOf t = 3) {k : Int} {rows : List (List D)} {n : Nat} {id : Nat} {σ' : Store} (hn : n = rows.length) (hl : rows.length < 100) (hid : σ id = .free) (he : Ext σ σ') (hs : σ' id = .live t rows) (hr : rows = (wayL k).map encW) :
   ∃ r' σ'', Ret Tryz.prog σ σ' (.a (.one (.osl id 0 n))) σ'' r' ∧ WaysPost σ t k r' σ'' := by
 have hat : At Tryz.prog σ' t (.osl id 0 n) rows := At.fresh hs (by omega) hn
 obtain ⟨d', h1, h2⟩ := ret_slice hat he (osl_new hid) (by rw [hr]; exact flatW _)
 exact ⟨.a (.one d'), σ, .pure he h1, rfl, d', rfl, fun s => hr ▸ h2 s⟩
theorem topo_ways_ok (k : Int) : DCalls Tryz.prog n_topo_ways [iA k] σ (WaysPost σ t_topo_way k) := by
 refine (W_topo_ways k σ _ ?_).ret (Q := fun r s => ∃ r' σ', Ret Tryz.prog σ s r σ' r' ∧ WaysPost σ t_topo_way k r' σ') (fun r s h => h)
 refine bce (fun h0 => newObj_intro fun id σ' hid _ he hs => ?_) (fun h0 => bce (fun h1 => newObj_intro fun id σ' hid _ he hs => ?_) (fun h1 => bce (fun h2 => newObj_intro fun id σ' hid _ he hs => ?_) (fun h2 => ?_)))
 · exact ways_fin c_topo_way rfl (by simp) hid he hs (by subst h0; rfl)
 · exact ways_fin c_topo_way rfl (by simp) hid he hs (by subst h1; rfl)
 · exact ways_fin c_topo_way rfl (by simp) hid he hs (by subst h2; rfl)
 · exact ⟨.a (.one .nils), σ, .pure (.refl _) .nils, rfl, .nils, rfl, fun s => by simp [wayL, h0, h1, h2]; exact .nil⟩
theorem ref05_ways_ok (k : Int) : DCalls Tryz.prog n_ref05_ways [iA k] σ (WaysPost σ t_ref05_way k) := by
 refine (W_ref05_ways k σ _ ?_).ret (Q := fun r s => ∃ r' σ', Ret Tryz.prog σ s r σ' r' ∧ WaysPost σ t_ref05_way k r' σ') (fun r s h => h)
 refine bce (fun h0 => newObj_intro fun id σ' hid _ he hs => ?_) (fun h0 => bce (fun h1 => newObj_intro fun id σ' hid _ he hs => ?_) (fun h1 => bce (fun h2 => newObj_intro fun id σ' hid _ he hs => ?_) (fun h2 => ?_)))
 · exact ways_fin c_ref05_way rfl (by simp) hid he hs (by subst h0; rfl)
 · exact ways_fin c_ref05_way rfl (by simp) hid he hs (by subst h1; rfl)
 · exact ways_fin c_ref05_way rfl (by simp) hid he hs (by subst h2; rfl)
 · exact ⟨.a (.one .nils), σ, .pure (.refl _) .nils, rfl, .nils, rfl, fun s => by simp [wayL, h0, h1, h2]; exact .nil⟩
theorem wayL_len (k : Int) : (wayL k).length < 2 ^ 60 := by unfold wayL; split <;> (try split) <;> (try split) <;> simp
theorem topo_Ends_ok (k : Int) : Pure Tryz.prog n_topo_Ends [iA k] σ (.a (iA (nends k))) := by
 refine W_topo_Ends k σ _ ((topo_ways_ok k).mono ?_)
 rintro r σ' ⟨rfl, d, rfl, hd⟩
 refine ⟨d, rfl, (hd σ').lenK ⟨fun n m s => s = σ' ∧ Rng (wayL k) (fun r => r.foldl endStep n = nends k) m, fun n m _ => (wayL k).length - m.toNat, ⟨rfl, .start (ends_eq k)⟩, ?_⟩⟩
 rintro n m _ ⟨rfl, hr⟩
 refine bcd (fun hlt => ?_) (fun hge => ?_)
 · obtain ⟨j, x, rfl, hx, hj, hF, nx⟩ := hr.step (by simp) (wayL_len k) hlt
   refine (hd _).load (map_get hx) c_topo_way rfl ⟨x.1, x.2.1, x.2.2, rfl, by omega, by omega, by omega, by omega, andl rfl (nx (fun r => r.foldl endStep (endStep n x) = nends k) hF)⟩
 · have := hr.done (by simp) hge
   exact ⟨by rw [← this]; rfl, rfl⟩
theorem ref05_Ends_ok (k : Int) : Pure Tryz.prog n_ref05_Ends [iA k] σ (.a (iA (nends k))) := by
 refine W_ref05_Ends k σ _ ((ref05_ways_ok k).mono ?_)
 rintro r σ' ⟨rfl, d, rfl, hd⟩
 refine ⟨d, rfl, (hd σ').lenK ⟨fun n m s => s = σ' ∧ Rng (wayL k) (fun r => r.foldl endStep n = nends k) m, fun n m _ => (wayL k).length - m.toNat, ⟨rfl, .start (ends_eq k)⟩, ?_⟩⟩
 rintro n m _ ⟨rfl, hr⟩
 refine bcd (fun hlt => ?_) (fun hge => ?_)
 · obtain ⟨j, x, rfl, hx, hj, hF, nx⟩ := hr.step (by simp) (wayL_len k) hlt
   refine (hd _).load (map_get hx) c_ref05_way rfl ⟨x.1, x.2.1, x.2.2, rfl, andl rfl (nx (fun r => r.foldl endStep (endStep n x) = nends k) hF)⟩
 · have := hr.done (by simp) hge
   exact ⟨by rw [← this]; rfl, rfl⟩
theorem ref05_Pos_ok (k i o : Int) : Pure Tryz.prog n_ref05_Pos [iA k, iA i, iA o] σ (opt1 (wpos (wayL k) i o)) := by
 refine W_ref05_Pos k i o σ _ ((ref05_ways_ok k).mono ?_)
 rintro r σ' ⟨rfl, d, rfl, hd⟩
 refine ⟨d, rfl, (hd σ').lenK ⟨fun m s => s = σ' ∧ Rng (wayL k) (fun r => wpos r i o = wpos (wayL k) i o) m, fun m _ => (wayL k).length - m.toNat, ⟨rfl, .start rfl⟩, ?_⟩⟩
 rintro m _ ⟨rfl, hr⟩
 refine bcd (fun hlt => ?_) (fun hge => ?_)
 · obtain ⟨j, x, rfl, hx, hj, hF, nx⟩ := hr.step (by simp) (wayL_len k) hlt
   refine (hd _).load (map_get hx) c_ref05_way rfl ⟨x.1, x.2.1, x.2.2, rfl, ?_⟩
   rw [wpos] at hF
   repeat' (first | refine bce (fun _ => ?_) (fun _ => ?_))
   all_goals first
     | (rw [if_pos (by omega)] at hF; exact ⟨by rw [← hF]; rfl, rfl⟩)
     | (rw [if_neg (by omega)] at hF; exact andl rfl (nx (fun r => wpos r i o = wpos (wayL k) i o) hF))
 · have := hr.done (by simp) hge
   exact ⟨by rw [← this]; rfl, rfl⟩
theorem topo_between_ok (n lo hi : Int) : Pure Tryz.prog n_topo_between [iA n, iA lo, iA hi] σ (.a (bA (decide (lo ≤ n ∧ n ≤ hi)))) := by
 refine W_topo_between n lo hi σ _ (bcd (fun h => ⟨?_, rfl⟩) (fun h => ⟨?_, rfl⟩))
 · simp [h]
 · simp [h]
theorem topo_Next_ok {d : D} {js : List Jt} (s e : Int) (h : At Tryz.prog σ t_Joint d (js.map Jt.enc)) : Pure Tryz.prog n_topo_Next [.one d, iA s, iA e] σ (opt2 (nxt js s e)) := by
 have hl := h.size
 rw [List.length_map] at hl
 refine W_topo_Next d s e σ _ (h.lenK ⟨fun n σ' => σ' = σ ∧ Rng js (fun r => nxt r s e = nxt js s e) n, fun n _ => js.length - n.toNat, ⟨rfl, .start rfl⟩, ?_⟩)
 rintro n σ' ⟨rfl, hr⟩
 refine bcd (fun hlt => ?_) (fun hge => ?_)
 · obtain ⟨j, x, rfl, hx, hj, hF, nx⟩ := hr.step (by simp) hl hlt
   refine h.load (map_get hx) c_Joint rfl ⟨x.A, x.AEnd, x.B, x.BEnd, rfl, ?_⟩
   rw [nxt] at hF
   repeat' (first | refine bce (fun _ => ?_) (fun _ => ?_))
   all_goals first
     | exact ⟨by rw [← hF]; simp [*, opt2], rfl⟩
     | exact andl rfl (nx (fun r => nxt r s e = nxt js s e) (by simpa [*] using hF))
 · exact ⟨by rw [← hr.done (by simp) hge]; rfl, rfl⟩
theorem slices_Index_int_ok {d : D} {l : List Int} (v : Int) (h : At Tryz.prog σ t_int d (l.map Go.Fw.encI)) : Pure Tryz.prog n_slices_Index_int [.one d, iA v] σ (.a (iA (idxOf l v 0))) := by
 have hl := h.size
 rw [List.length_map] at hl
 refine W_slices_Index_int d v σ _ (h.lenK ⟨fun n σ' => σ' = σ ∧ Rng l (fun r => (∀ j : Nat, n = j → idxOf r v j = idxOf l v 0)) n, fun n _ => l.length - n.toNat, ⟨rfl, .start fun j hj => by cases j with | zero => rfl | succ j => omega⟩, ?_⟩)
 rintro n σ' ⟨rfl, hr⟩
 refine bcd (fun hlt => ?_) (fun hge => ?_)
 · obtain ⟨j, x, rfl, hx, hj, hF, nx⟩ := hr.step (by simp) hl hlt
   refine h.load (map_get hx) c_int rfl ⟨x, rfl, ?_⟩
   have hF := hF j rfl
   rw [idxOf] at hF
   refine bce (fun _ => ?_) (fun _ => ?_)
   · exact ⟨by rw [← hF]; simp [*], rfl⟩
   · refine andl rfl (nx _ fun j' hj' => ?_)
     rw [w64_succ (by omega)] at hj'
     obtain rfl : j' = j + 1 := by omega
     rw [if_neg (fun e => by simp_all)] at hF
     exact hF
 · refine ⟨?_, rfl⟩
   obtain ⟨j, hj, hj2, hF⟩ := hr
   have hF := hF j hj
   rw [drop_end (by simp at hge; omega)] at hF
   rw [← hF]; rfl
theorem alloc_cell {W : World} {cs : Array Value} {t : TypeId} {j : Nat} {v : Value} (h : cs[j]? = some v) : (W.alloc (.cells cs t)).cell? ⟨W.heap.size, j, none⟩ = some v := by
 unfold World.cell?
 rw [(MapKept.heap_alloc W _).1]
 exact h
theorem index2_calls (a b p e : Int) (W : World) (hgl : Gl Tryz.prog (allK W) W) : Calls Tryz.prog n_slices_Index_int #[.slice (some ⟨W.heap.size, 0, none⟩) 2 2, .int .i64 e] (W.alloc (.cells #[.int .i64 a, .int .i64 b, .int .i64 p] t_topo_way)) fun r W' =>
   r = .returned (.int .i64 (idxOf [a, b] e 0)) ∧ Below (W.heap.size + 1) (W.alloc (.cells #[.int .i64 a, .int .i64 b, .int .i64 p] t_topo_way)) W' := by
 have hsz : (W.alloc (.cells #[.int .i64 a, .int .i64 b, .int .i64 p] t_topo_way)).heap.size = W.heap.size + 1 := Array.size_push _
 have hA : At Tryz.prog noS t_int (.sl 1 [[iD a], [iD b]]) ([a, b].map Go.Fw.encI) := ⟨⟨rfl, .inr c_int.symm⟩, by simp, fun es rows e => by injection e with e1 _; rw [← e1, c_int]⟩
 have hcell : ∀ j v, #[Value.int .i64 a, .int .i64 b, .int .i64 p][j]? = some v → (W.alloc (.cells #[.int .i64 a, .int .i64 b, .int .i64 p] t_topo_way)).cell? ⟨W.heap.size, j, none⟩ = some v := fun j v h => alloc_cell h
 have hV : V (allK (W.alloc (.cells #[.int .i64 a, .int .i64 b, .int .i64 p] t_topo_way))) noB (W.alloc (.cells #[.int .i64 a, .int .i64 b, .int .i64 p] t_topo_way)) (.slice (some ⟨W.heap.size, 0, none⟩) 2 2) (.sl 1 [[iD a], [iD b]]) := by
   have key : ∀ (i : Nat) row (j : Nat) d, ([[iD a], [iD b]] : List (List D))[i]? = some row → row[j]? = some d → (i = 0 ∧ j = 0 ∧ row = [iD a] ∧ d = iD a) ∨ (i = 1 ∧ j = 0 ∧ row = [iD b] ∧ d = iD b) := by
     intro i row j d h1 h2
     rcases i with _ | _ | i
     · simp at h1; subst h1
       rcases j with _ | j
       · simp at h2; exact .inl ⟨rfl, rfl, rfl, h2.symm⟩
       · simp at h2
     · simp at h1; subst h1
       rcases j with _ | j
       · simp at h2; exact .inr ⟨rfl, rfl, rfl, h2.symm⟩
       · simp at h2
     · simp at h1
   refine V.sl ⟨W.heap.size, 0, none⟩ 2 2 1 _ (fun i j => if i = 0 then .int .i64 a else .int .i64 b) (fun _ => ⟨by show W.heap.size < _; rw [hsz]; omega, rfl⟩) rfl (by omega) (fun i row h => ?_) (fun i row j d h hj => ?_) (fun i row j d h hj => ?_)
   · rcases i with _ | _ | i
     · simp at h; subst h; rfl
     · simp at h; subst h; rfl
     · simp at h
   · rcases key i row j d h hj with ⟨rfl, rfl, rfl, rfl⟩ | ⟨rfl, rfl, rfl, rfl⟩
     · exact hcell 0 _ rfl
     · exact hcell 1 _ rfl
   · rcases key i row j d h hj with ⟨rfl, rfl, rfl, rfl⟩ | ⟨rfl, rfl, rfl, rfl⟩
     · exact V.int _ _
     · exact V.int _ _
 have hc := (slices_Index_int_ok e hA).2 (allK _) noB (W.alloc (.cells #[.int .i64 a, .int .i64 b, .int .i64 p] t_topo_way)) #[.slice (some ⟨W.heap.size, 0, none⟩) 2 2, .int .i64 e] (srel0 (hgl.mono (fun x hx => Nat.lt_of_lt_of_le hx (Grow.push W (.cells #[.int .i64 a, .int .i64 b, .int .i64 p] t_topo_way)).size) fun x hx => (Grow.push W (.cells #[.int .i64 a, .int .i64 b, .int .i64 p] t_topo_way)).block x hx)) rfl (by
   intro i v x hv hx
   rcases i with _ | _ | i
   · simp at hv hx
     subst hv hx
     exact hV
   · simp at hv hx
     subst hv hx
     exact V.int _ _
   · simp at hv)
 refine hc.mono fun r W' ⟨v, rr, σ', k', β', q1, ⟨q2, _⟩, q3, _, _, q6⟩ => ?_
 subst q2
 have hv := V.inv_int q3
 subst hv
 exact ⟨q1, q6.os, q6.tape, q6.output, q6.size, fun b hb => q6.block b (by rw [hsz]; exact hb) (fun i bi hi => by cases hi)⟩
theorem way_other_calls (a b p e : Int) (W : World) (hgl : Gl Tryz.prog (allK W) W) : Calls Tryz.prog n_topo_way_other #[.agg #[.int .i64 a, .int .i64 b, .int .i64 p], .int .i64 e] W fun r W' =>
   r = .returned (if e = a then .tuple #[.int .i64 b, .bool true] else if e = b then .tuple #[.int .i64 a, .bool true] else .tuple #[.int .i64 0, .bool false]) ∧ Below W.heap.size W W' := by
 have hI := index2_calls a b p e W hgl
 clear hgl
 have fin : ∀ W', Below (W.heap.size + 1) (W.alloc (.cells #[.int .i64 a, .int .i64 b, .int .i64 p] t_topo_way)) W' → Below W.heap.size W W' := fun W' hb =>
   ((Below.refl _ _).alloc (Nat.le_refl _) _).trans (hb.mono (by omega))
 have cells : ∀ W', Below (W.heap.size + 1) (W.alloc (.cells #[.int .i64 a, .int .i64 b, .int .i64 p] t_topo_way)) W' →
     W'.cell? ⟨W.heap.size, 0, none⟩ = some (.int .i64 a) ∧ W'.cell? ⟨W.heap.size, 1, none⟩ = some (.int .i64 b) := fun W' hb => by
   exact ⟨(hb.cell (p := ⟨W.heap.size, 0, none⟩) (Nat.lt_succ_self _)).trans (alloc_cell rfl), (hb.cell (p := ⟨W.heap.size, 1, none⟩) (Nat.lt_succ_self _)).trans (alloc_cell rfl)⟩
 by_cases h0 : e = a
 · subst h0
   rw [show idxOf [e, b] e 0 = 0 by simp [idxOf]] at hI
   rw [if_pos rfl]
   go_enter Tryz.func72, Tryz.ntmps72
   go_wp2_with fail
   refine hI.mono ?_
   rintro r W' ⟨rfl, hb⟩
   obtain ⟨c0, c1⟩ := cells W' hb
   have hf := fin W' hb
   clear cells fin hI hb
   go_wp2
   go_ret2
   exact ⟨rfl, hf⟩
 · by_cases h1 : e = b
   · subst h1
     rw [show idxOf [a, e] e 0 = 1 by simp [idxOf, h0]] at hI
     rw [if_neg h0, if_pos rfl]
     go_enter Tryz.func72, Tryz.ntmps72
     go_wp2_with fail
     refine hI.mono ?_
     rintro r W' ⟨rfl, hb⟩
     obtain ⟨c0, c1⟩ := cells W' hb
     have hf := fin W' hb
     clear cells fin hI hb
     go_wp2
     go_ret2
     exact ⟨rfl, hf⟩
   · rw [show idxOf [a, b] e 0 = -1 by simp [idxOf, h0, h1]] at hI
     rw [if_neg h0, if_neg h1]
     go_enter Tryz.func72, Tryz.ntmps72
     go_wp2_with fail
     refine hI.mono ?_
     rintro r W' ⟨rfl, hb⟩
     have hf := fin W' hb
     clear cells fin hI hb
     go_wp2
     go_ret2
     exact ⟨rfl, hf⟩
theorem way_other_ok (a b p e : Int) : Pure Tryz.prog n_topo_way_other [.agg [iD a, iD b, iD p], iA e] σ (opt1 (if e = a then some b else if e = b then some a else none)) := by
 refine ⟨by kernel_rfl, fun k β W vs hS hsz hv => ?_⟩
 have hvs : vs = #[.agg #[.int .i64 a, .int .i64 b, .int .i64 p], .int .i64 e] := by
   have h0 := hv 0 (vs.getD 0 undef) _ (by simp at hsz; simp [hsz]) rfl
   have h1 := hv 1 (vs.getD 1 undef) _ (by simp at hsz; simp [hsz]) rfl
   obtain ⟨us, e0, hu⟩ := h0
   have e1 := V.inv_int h1
   have hus : us = #[.int .i64 a, .int .i64 b, .int .i64 p] := by
     apply Array.ext'
     exact vsOfD_eq hu rfl
   apply Array.ext
   · simpa using hsz
   · intro i h1 h2
     simp at hsz
     match i, h1 with
     | 0, _ => simp [hsz] at e0; simp [e0, hus]
     | 1, _ => simp [hsz] at e1; simp [e1]
     | i + 2, h => omega
 subst hvs
 refine (way_other_calls a b p e W (hS.gl.mono hS.klt fun _ _ => rfl)).mono fun r W' ⟨h1, h2⟩ => ?_
 have hg : Grow W W' := ⟨h2.os, h2.tape, h2.output, h2.size, h2.block⟩
 have tup : ∀ (x : Int) (c : Bool), VR k β W' (.tuple #[.int .i64 x, .bool c]) (.tup [iA x, bA c]) := fun x c => tup2 (v := iA x) (V.int _ _)
 refine ⟨_, _, σ, k, β, h1, ⟨rfl, rfl⟩, ?_, hS.grow hg, Ghost.refl _ _ _ _, hg.frm _ _⟩
 by_cases h0 : e = a
 · simp only [h0, if_true]; exact tup _ _
 · by_cases h1 : e = b
   · simp only [h0, h1, if_false, if_true]; split <;> exact tup _ _
   · simp only [h0, h1, if_false]; exact tup _ _
theorem topo_Pos_ok (k i o : Int) : Pure Tryz.prog n_topo_Pos [iA k, iA i, iA o] σ (opt1 (wpos (wayL k) i o)) := by
 refine W_topo_Pos k i o σ _ ((topo_ways_ok k).mono ?_)
 rintro r σ' ⟨rfl, d, rfl, hd⟩
 refine ⟨d, rfl, (hd σ').lenK ⟨fun m s => s = σ' ∧ Rng (wayL k) (fun r => wpos r i o = wpos (wayL k) i o) m, fun m _ => (wayL k).length - m.toNat, ⟨rfl, .start rfl⟩, ?_⟩⟩
 rintro m _ ⟨rfl, hr⟩
 refine bcd (fun hlt => ?_) (fun hge => ?_)
 · obtain ⟨j, x, rfl, hx, hj, hF, nx⟩ := hr.step (by simp) (wayL_len k) hlt
   refine (hd _).load (map_get hx) c_topo_way rfl ⟨x.1, x.2.1, x.2.2, rfl, (way_other_ok _ _ _ _).use ?_⟩
   have hne : x.1 ≠ x.2.1 := by
     have hm := List.mem_of_getElem? hx
     unfold wayL at hm
     split at hm
     · simp at hm; subst hm; decide
     · split at hm
       · simp at hm; rcases hm with rfl | rfl <;> decide
       · split at hm
         · simp at hm; rcases hm with rfl | rfl <;> decide
         · cases hm
   rw [wpos] at hF
   by_cases h0 : i = x.1
   · subst h0
     refine ⟨x.2.1, true, by simp [opt1], ?_⟩
     refine bce (fun h1 => ?_) (fun h1 => ?_)
     · exact ⟨by rw [← hF]; simp [*, opt1], rfl⟩
     · exact andl rfl (nx (fun r => wpos r x.1 o = wpos (wayL k) x.1 o) (by rw [if_neg (by rintro (⟨_, h⟩ | ⟨h, _⟩); exact h1 h; exact hne h.symm)] at hF; exact hF))
   · by_cases h1 : i = x.2.1
     · subst h1
       refine ⟨x.1, true, by simp [opt1, h0], ?_⟩
       refine bce (fun h1 => ?_) (fun h1 => ?_)
       · exact ⟨by rw [← hF]; simp [*, opt1], rfl⟩
       · exact andl rfl (nx (fun r => wpos r x.2.1 o = wpos (wayL k) x.2.1 o) (by rw [if_neg (by rintro (⟨h, _⟩ | ⟨_, h⟩); exact hne h; exact h1 h)] at hF; exact hF))
     · refine ⟨0, false, by simp [opt1, h0, h1], ?_⟩
       exact andl rfl (nx (fun r => wpos r i o = wpos (wayL k) i o) (by rw [if_neg (by rintro (⟨h, _⟩ | ⟨h, _⟩); exact h0 h.symm; exact h1 h.symm)] at hF; exact hF))
 · have := hr.done (by simp) hge
   exact ⟨by rw [← this]; rfl, rfl⟩
theorem ref05_Next_ok {d : D} {js : List Jt} (s e : Int) (h : At Tryz.prog σ t_Joint d (js.map Jt.enc)) : Pure Tryz.prog n_ref05_Next [.one d, iA s, iA e] σ (opt2 (nxt js s e)) := by
 have hl := h.size
 rw [List.length_map] at hl
 refine W_ref05_Next d s e σ _ (h.lenK ⟨fun n σ' => σ' = σ ∧ Rng js (fun r => nxt r s e = nxt js s e) n, fun n _ => js.length - n.toNat, ⟨rfl, .start rfl⟩, ?_⟩)
 rintro n σ' ⟨rfl, hr⟩
 refine bcd (fun hlt => ?_) (fun hge => ?_)
 · obtain ⟨j, x, rfl, hx, hj, hF, nx⟩ := hr.step (by simp) hl hlt
   refine h.load (map_get hx) c_Joint rfl ⟨x.A, x.AEnd, x.B, x.BEnd, rfl, ?_⟩
   rw [nxt] at hF
   repeat' (first | refine bce (fun _ => ?_) (fun _ => ?_))
   all_goals first
     | exact ⟨by rw [← hF]; simp [*, opt2], rfl⟩
     | exact andl rfl (nx (fun r => nxt r s e = nxt js s e) (by simpa [*] using hF))
 · exact ⟨by rw [← hr.done (by simp) hge]; rfl, rfl⟩
theorem ref05_count_ok {d : D} {js : List Jt} (s e : Int) (h : At Tryz.prog σ t_Joint d (js.map Jt.enc)) : Pure Tryz.prog n_ref05_count [.one d, iA s, iA e] σ (.a (iA (cnt js s e))) := by
 have hl := h.size
 rw [List.length_map] at hl
 have hb : ∀ l : List Jt, 0 ≤ cnt l s e ∧ cnt l s e ≤ 2 * l.length := by
   intro l
   induction l with
   | nil => simp [cnt]
   | cons j r ih => simp only [cnt, List.length_cons]; split <;> split <;> omega
 refine W_ref05_count d s e σ _ (h.lenK ⟨fun c n σ' => σ' = σ ∧ Rng js (fun r => c + cnt r s e = cnt js s e ∧ 0 ≤ c) n, fun c n _ => js.length - n.toNat, ⟨rfl, .start ⟨by omega, by omega⟩⟩, ?_⟩)
 rintro c n σ' ⟨rfl, hr⟩
 refine bcd (fun hlt => ?_) (fun hge => ?_)
 · obtain ⟨j, x, rfl, hx, hj, hF, nx⟩ := hr.step (by simp) hl hlt
   refine h.load (map_get hx) c_Joint rfl ⟨x.A, x.AEnd, x.B, x.BEnd, rfl, ?_⟩
   rw [cnt] at hF
   have h1 := hb js
   have h2 := hb (js.drop (j + 1))
   have hw : c < 2 ^ 62 := by split at hF <;> split at hF <;> omega
   intro R hR
   have key : ∀ c' : Int, 0 ≤ c' → c' ≤ 2 ^ 62 → c' + (if x.B = s ∧ x.BEnd = e then 1 else 0) + cnt (js.drop (j + 1)) s e = cnt js s e → R c' σ' := by
     intro c' h0 h3 h4
     refine hR c' σ' ?_
     repeat' (first | refine bce (fun _ => ?_) (fun _ => ?_))
     · rw [w64_id (n := c' + 1) (by omega) (by omega)]
       exact andl rfl (nx (fun r => c' + 1 + cnt r s e = cnt js s e ∧ 0 ≤ c' + 1) ⟨by simp [*] at h4; omega, by omega⟩)
     · exact andl rfl (nx (fun r => c' + cnt r s e = cnt js s e ∧ 0 ≤ c') ⟨by simp [*] at h4; omega, by omega⟩)
     · exact andl rfl (nx (fun r => c' + cnt r s e = cnt js s e ∧ 0 ≤ c') ⟨by simp [*] at h4; omega, by omega⟩)
   repeat' (first | refine bce (fun _ => ?_) (fun _ => ?_))
   · refine ⟨rfl, ?_⟩
     rw [w64_id (n := c + 1) (by omega) (by omega)]
     exact key _ (by omega) (by omega) (by simp [*] at hF; omega)
   · exact ⟨rfl, key _ (by omega) (by omega) (by simp [*] at hF; omega)⟩
   · exact ⟨rfl, key _ (by omega) (by omega) (by simp [*] at hF; omega)⟩
 · have := hr.done (by simp) hge
   simp [cnt] at this
   exact ⟨by rw [← this.1], rfl⟩
end Go.Proofs.YtfdffboelecgoaaGreatDoor
end
namespace Go.Proofs.YtfdffboelecgoaaGreatDoor
open Go.Fw Go.Proofs Go.RowKit
section
variable {σ : Store}
abbrev encP (p : Int × Int) : A := .agg [iD p.1, iD p.2]
theorem keys_spot : Keys Tryz.prog t_topo_spot encP := keys_int2 fun a b => by kernel_rfl
theorem keysI : Keys Tryz.prog t_int iA := ⟨fun x => by kernel_rfl, fun x y => by simp [eqA, eqCells, aCells, eqCell]⟩
theorem topo_Check_ok {d1 d2 : D} {secs : List Sec} {js : List Jt} (hs : ∀ s, At Tryz.prog s t_Section d1 (secs.map Sec.enc)) (hj : ∀ s, At Tryz.prog s t_Joint d2 (js.map Jt.enc)) :
   Pure Tryz.prog n_topo_Check [.one d1, .one d2] σ (.a (iA (if topoOk secs js = true then 0 else 6))) := by
 have hls := (hs σ).size
 have hlj := (hj σ).size
 rw [List.length_map] at hls hlj
 refine .of (W_topo_Check d1 d2 σ _ ?_) (flat_i _)
 intro R hR
 refine (hs σ).lenK ((topo_between_ok _ _ _).use ⟨_, rfl, bcnot (fun h => ?_) (fun h => (hj σ).lenK (bcd (fun h2 => ?_) (fun h2 => hR σ ?_)))⟩)
 · simp at h
   exact ⟨by rw [if_neg]; simp [topoOk]; omega, .refl _⟩
 · simp at h2
   exact ⟨by rw [if_neg]; simp [topoOk]; omega, .refl _⟩
 simp at h h2
 have hsize : decide (1 ≤ secs.length ∧ secs.length ≤ 16 ∧ js.length ≤ 24) = true := by simp; omega
 refine newObj_intro fun id σ1 hid _ he hs1 => (hj σ1).lenK ⟨fun n s => ∃ tk f, MapAt Tryz.prog t_topo_spot encP s id f ∧ (∀ z, f z = if z ∈ tk then some (iA 1) else none) ∧ Ext σ s ∧ Rng js (fun r => jrun secs r tk = jrun secs js []) n,
   fun n _ => js.length - n.toNat, ⟨[], _, .new hs1, fun z => by simp, he, .start rfl⟩, ?_⟩
 rintro n s ⟨tk, f, hm, hf, hes, hr⟩
 refine bcd (fun hlt => ?_) (fun hge => ?_)
 · obtain ⟨j, x, rfl, hx, hjl, hF, nx⟩ := hr.step (by simp) hlj hlt
   refine (hj s).load (map_get hx) c_Joint rfl ⟨x.A, x.AEnd, x.B, x.BEnd, rfl, ?_⟩
   refine newObj_intro fun id1 s1 hid1 _ he1 hs2 => ?_
   have hne : id ≠ id1 := fun e => by
     obtain ⟨c, es, h1, _⟩ := hm
     rw [e, hid1] at h1; cases h1
   have hbad : prun secs x.spots tk = none ∨ x.A = x.B → (if topoOk secs js = true then (0 : Int) else 6) = 6 := by
     intro hb
     have : jrun secs js [] = none := by
       rw [← hF, jrun]
       rcases hb with hb | hb
       · rw [hb]
       · cases prun secs x.spots tk with
         | none => rfl
         | some tk' => simp [hb]
     rw [if_neg]; simp [topoOk, this]
   have hloc : ∀ s', s' id1 = .live t_topo_spot [[iD x.A, iD x.AEnd], [iD x.B, iD x.BEnd]] → At Tryz.prog s' t_topo_spot (.osl id1 0 2) (x.spots.map fun p => [iD p.1, iD p.2]) := fun s' h => At.fresh h (by simp) rfl
   refine (hloc s1 hs2).lenK ⟨fun m s' => ∃ tk' f', MapAt Tryz.prog t_topo_spot encP s' id f' ∧ (∀ z, f' z = if z ∈ tk' then some (iA 1) else none) ∧ Ext σ s' ∧ s' id1 = .live t_topo_spot [[iD x.A, iD x.AEnd], [iD x.B, iD x.BEnd]] ∧
     Rng x.spots (fun q => prun secs q tk' = prun secs x.spots tk) m, fun m _ => x.spots.length - m.toNat, ⟨tk, f, hm.same (he1 id (fun e => hne (by
       obtain ⟨c, es, h1, _⟩ := hm
       rw [e] at h1; cases h1))), hf, hes.trans he1, hs2, .start rfl⟩, ?_⟩
   rintro m s' ⟨tk', f', hm', hf', hes', hs2', hr'⟩
   refine bcd (fun hlt' => ?_) (fun hge' => ?_)
   · obtain ⟨i, p, rfl, hp, hil, hG, nx'⟩ := hr'.step (by simp) (by simp [Jt.spots]) hlt'
     refine (hloc s' hs2').load (map_get hp) c_topo_spot rfl ⟨p.1, p.2, rfl, (hs s').lenK ?_⟩
     rw [prun] at hG
     have hw1 : w64 (((secs.map Sec.enc).length : Int) - 1) = (secs.length : Int) - 1 := by rw [List.length_map, w64_id (by omega) (by omega)]
     refine (topo_between_ok _ _ _).use ⟨_, rfl, ?_⟩
     rw [hw1]
     refine bcnot (fun h3 => ?_) (fun h3 => ?_)
     · exact ⟨by rw [hbad (.inl ?_)]; rw [← hG, if_neg]; simp only [spotOk, h3]; simp, hes'⟩
     · have h3' := of_decide_eq_true h3
       obtain ⟨y, hy⟩ := get_of_lt (l := secs) (j := p.1.toNat) (by omega)
       refine (hs s').load (map_get hy) c_Section (by omega) ⟨y.Kind, rfl, (topo_Ends_ok _).use ⟨_, rfl, (topo_between_ok _ _ _).use ⟨_, rfl, ?_⟩⟩⟩
       have hk : kindAt secs p.1 = y.Kind := by simp [kindAt, hy]
       have hn := nends_le y.Kind
       rw [w64_id (n := nends y.Kind - 1) (by omega) (by omega)]
       refine bcnot (fun h4 => ?_) (fun h4 => ?_)
       · exact ⟨by rw [hbad (.inl ?_)]; rw [← hG, if_neg]; simp only [spotOk, hk, h4]; simp, hes'⟩
       · have hok : spotOk secs p = true := by simp only [spotOk, hk, h3, h4]; rfl
         by_cases hin : p ∈ tk'
         · refine hm'.lookI keys_spot p (n := 1) (by rw [hf', if_pos hin]; rfl) (bcd (fun _ => ?_) (fun h => absurd (by decide) h))
           exact ⟨by rw [hbad (.inl ?_)]; rw [← hG, if_neg]; simp [hin], hes'⟩
         · refine hm'.lookI keys_spot p (n := 0) (by rw [hf', if_neg hin]; rfl) (bcd (fun h => absurd h (by decide)) (fun _ => ?_))
           refine hm'.lookI keys_spot p (n := 0) (by rw [hf', if_neg hin]; rfl) ?_
           rw [if_pos ⟨hok, hin⟩] at hG
           refine hm'.bump keys_spot p fun s3 f3 hm3 hf3 hf3' hs3 hs3' => ⟨rfl, ?_⟩
           have hn2 := nx' (fun q => prun secs q (p :: tk') = prun secs x.spots tk) hG
           refine ⟨⟨p :: tk', f3, hm3, fun z => ?_, fun i hi => ?_, ?_, hn2.1⟩, hn2.2⟩
           · by_cases hz : z = p
             · subst hz; rw [hf3']; simp; rfl
             · rw [hf3 z hz, hf']; simp [hz]
           · rw [hs3 i (fun e => ?_)]
             · exact hes' i hi
             · subst e; rw [hid] at hi; exact hi rfl
           · rw [hs3 _ (Ne.symm hne)]; exact hs2'
   · have hG := hr'.done (by simp) hge'
     rw [prun] at hG
     refine bce (fun h5 => ⟨by rw [hbad (.inr h5)], hes'⟩) (fun h5 => ?_)
     rw [jrun, ← hG] at hF
     simp only [if_neg h5] at hF
     have hn2 := nx (fun r => jrun secs r tk' = jrun secs js []) hF
     exact ⟨⟨tk', f', hm', hf', hes', hn2.1⟩, hn2.2⟩
 · have hF := hr.done (by simp) hge
   rw [jrun] at hF
   have htop : topoOk secs js = srun tk secs 0 [] := by simp only [topoOk, hsize, ← hF, Bool.true_and]
   rw [htop]
   clear htop hr hF hR
   refine newObj_intro fun id1 s1 hid1 _ he1 hs2 => ?_
   have hne : id ≠ id1 := fun e => by
     obtain ⟨c, es, h1, _⟩ := hm
     rw [e, hid1] at h1; cases h1
   refine (hs s1).lenK ⟨fun n s' => ∃ ls f2, MapAt Tryz.prog t_int iA s' id1 f2 ∧ (∀ z, z ∉ ls → f2 z = none) ∧ (∀ z, z ∈ ls → ∃ c : Int, 1 ≤ c ∧ c ≤ n ∧ f2 z = some (iA c)) ∧ MapAt Tryz.prog t_topo_spot encP s' id f ∧ Ext σ s' ∧
     Rng secs (fun r => srun tk r n ls = srun tk secs 0 []) n, fun n _ => secs.length - n.toNat, ⟨[], _, .new hs2, fun z _ => rfl, fun z hz => (by cases hz), hm.same (he1 id (fun e => by
       obtain ⟨c, es, h1, _⟩ := hm
       rw [e] at h1; cases h1)), hes.trans he1, .start rfl⟩, ?_⟩
   rintro n s' ⟨ls, f2, hm2, hf2, hf2', hm', hes', hr⟩
   refine bcd (fun hlt => ?_) (fun hge => ?_)
   · obtain ⟨j, x, rfl, hx, hjl, hF, nx⟩ := hr.step (by simp) hls hlt
     refine (hs s').load (map_get hx) c_Section rfl ⟨x.Kind, x.OC, x.Line, rfl, ?_⟩
     intro R1 hR1
     rw [srun] at hF
     have hbad : ∀ hc : (nends x.Kind = 0 ∨ ¬ (0 ≤ x.OC ∧ x.OC ≤ 3) ∨ ¬ (0 ≤ x.Line ∧ x.Line ≤ 3) ∨ x.Line ≠ 0 ∧ (x.Kind ≠ 0 ∨ ((j : Int), 1) ∈ tk ∨ x.Line ∈ ls)), (if srun tk secs 0 [] = true then (0 : Int) else 6) = 6 := by
       intro hc
       rw [if_pos hc] at hF
       rw [← hF]; rfl
     refine (topo_Ends_ok _).use ⟨_, rfl, bce (fun h1 => ⟨by rw [hbad (.inl h1)], hes'⟩) (fun h1 => (topo_between_ok _ _ _).use ⟨_, rfl, bcnot (fun h2 => ⟨by rw [hbad (.inr (.inl (of_decide_eq_false h2)))], hes'⟩) (fun h2 => (topo_between_ok _ _ _).use ⟨_, rfl, bcnot (fun h3 => ⟨by rw [hbad (.inr (.inr (.inl (of_decide_eq_false h3))))], hes'⟩) (fun h3 => ⟨rfl, hR1 s' ?_⟩)⟩)⟩)⟩
     have put : ∀ hc : ¬ (x.Line ≠ 0 ∧ (x.Kind ≠ 0 ∨ ((j : Int), 1) ∈ tk ∨ x.Line ∈ ls)), ∃ c : Int, (f2 x.Line).getD (iA 0) = iA c ∧ 0 ≤ c ∧ c ≤ j ∧ (x.Line ∉ ls → c = 0) ∧ ∀ (c' : Int), c' = c → MPut Tryz.prog t_int s' (.omap id1) (iA x.Line) (iA (w64 (c' + 1))) fun s6 =>
         (∃ ls f2, MapAt Tryz.prog t_int iA s6 id1 f2 ∧ (∀ z, z ∉ ls → f2 z = none) ∧ (∀ z, z ∈ ls → ∃ c : Int, 1 ≤ c ∧ c ≤ w64 ((j : Int) + 1) ∧ f2 z = some (iA c)) ∧ MapAt Tryz.prog t_topo_spot encP s6 id f ∧ Ext σ s6 ∧
           Rng secs (fun r => srun tk r (w64 ((j : Int) + 1)) ls = srun tk secs 0 []) (w64 ((j : Int) + 1))) ∧ secs.length - (w64 ((j : Int) + 1)).toNat < secs.length - (j : Int).toNat := by
       intro hc
       have hgo : ¬ (nends x.Kind = 0 ∨ ¬ (0 ≤ x.OC ∧ x.OC ≤ 3) ∨ ¬ (0 ≤ x.Line ∧ x.Line ≤ 3) ∨ x.Line ≠ 0 ∧ (x.Kind ≠ 0 ∨ ((j : Int), 1) ∈ tk ∨ x.Line ∈ ls)) := by
         rintro (h | h | h | h)
         · exact h1 h
         · exact h (of_decide_eq_true h2)
         · exact h (of_decide_eq_true h3)
         · exact hc h
       rw [if_neg hgo] at hF
       have hcount : ∃ c : Int, (f2 x.Line).getD (iA 0) = iA c ∧ 0 ≤ c ∧ c ≤ j ∧ (x.Line ∉ ls → c = 0) := by
         by_cases hin : x.Line ∈ ls
         · obtain ⟨c, c1, c2, c3⟩ := hf2' _ hin
           exact ⟨c, by rw [c3]; rfl, by omega, c2, fun h => absurd hin h⟩
         · exact ⟨0, by rw [hf2 _ hin]; rfl, by omega, by omega, fun _ => rfl⟩
       obtain ⟨c, k1, k2, k3, k4⟩ := hcount
       refine ⟨c, k1, k2, k3, k4, fun c' hc' => ?_⟩
       subst hc'
       refine hm2.put keysI x.Line fun s6 f6 g1 g2 g3 g4 g5 => ?_
       have hn2 := nx (fun r => srun tk r (w64 ((j : Int) + 1)) (x.Line :: ls) = srun tk secs 0 []) (by rw [w64_succ (by omega)]; simpa using hF)
       have hw : w64 ((j : Int) + 1) = (j : Int) + 1 := w64_id (by omega) (by omega)
       refine ⟨⟨x.Line :: ls, f6, g1, fun z hz => ?_, fun z hz => ?_, hm'.same (g4 _ hne), fun i hi => ?_, hn2.1⟩, hn2.2⟩
       · simp only [List.mem_cons, not_or] at hz
         rw [g2 z hz.1]; exact hf2 z hz.2
       · by_cases hzx : z = x.Line
         · subst hzx
           exact ⟨c' + 1, by omega, by omega, by rw [g3, w64_id (by omega) (by omega)]⟩
         · rw [g2 z hzx]
           obtain ⟨c2, q1, q2, q3⟩ := hf2' z ((List.mem_cons.1 hz).resolve_left hzx)
           exact ⟨c2, q1, by omega, q3⟩
       · rw [g4 i (fun e => ?_)]
         · exact hes' i hi
         · subst e
           have := hes _ hi
           rw [hid1] at this; exact hi this.symm
     refine bcn (fun h4 => bcn (fun h5 => ⟨by rw [hbad (.inr (.inr (.inr ⟨h4, .inl h5⟩)))], hes'⟩) (fun h5 => ?_)) (fun h4 => ?_)
     · by_cases hin : ((j : Int), (1 : Int)) ∈ tk
       · refine hm'.lookI keys_spot ((j : Int), (1 : Int)) (n := 1) (by rw [hf, if_pos hin]; rfl) (bcd (fun _ => ⟨by rw [hbad (.inr (.inr (.inr ⟨h4, .inr (.inl hin)⟩)))], hes'⟩) (fun h => absurd (by decide) h))
       · refine hm'.lookI keys_spot ((j : Int), (1 : Int)) (n := 0) (by rw [hf, if_neg hin]; rfl) (bcd (fun h => absurd h (by decide)) (fun _ => ?_))
         by_cases hin2 : x.Line ∈ ls
         · obtain ⟨c, c1, c2, c3⟩ := hf2' _ hin2
           exact hm2.lookI keysI x.Line (n := c) (by rw [c3]; rfl) (bcd (fun _ => ⟨by rw [hbad (.inr (.inr (.inr ⟨h4, .inr (.inr hin2)⟩)))], hes'⟩) (fun h => absurd (show c > 0 by omega) h))
         · obtain ⟨c, k1, k2, k3, k4, k5⟩ := put (by rintro ⟨_, h | h | h⟩; exact h h5; exact hin h; exact hin2 h)
           have := k4 hin2
           refine hm2.lookI keysI x.Line k1 (bcd (fun h => absurd h (by omega)) (fun _ => hm2.lookI keysI x.Line k1 (k5 c rfl)))
     · obtain ⟨c, k1, k2, k3, k4, k5⟩ := put (fun h => h.1 h4)
       exact hm2.lookI keysI x.Line k1 (k5 c rfl)
   · have hF := hr.done (by simp) hge
     rw [srun] at hF
     exact ⟨by rw [← hF]; rfl, hes'⟩
theorem ref05_Check_ok {d1 d2 : D} {secs : List Sec} {js : List Jt} (hs : At Tryz.prog σ t_Section d1 (secs.map Sec.enc)) (hj : At Tryz.prog σ t_Joint d2 (js.map Jt.enc)) :
   Pure Tryz.prog n_ref05_Check [.one d1, .one d2] σ (.a (iA (if topoOk secs js = true then 0 else 6))) := by
 have hls := hs.size
 have hlj := hj.size
 rw [List.length_map] at hls hlj
 have bad : ¬ ((1 ≤ secs.length ∧ secs.length ≤ 16 ∧ js.length ≤ 24) ∧ (∀ (k : Nat) s, secs[k]? = some s → secOk secs js k s) ∧ ∀ j ∈ js, jtOk secs js j) → (RV.a (iA 6) = .a (iA (if topoOk secs js = true then 0 else 6)) ∧ σ = σ) := fun h => by
   rw [if_neg (fun ht => h ((topoOk_iff _ _).1 ht))]; exact ⟨rfl, rfl⟩
 refine W_ref05_Check d1 d2 σ _ ?_
 intro R hR
 refine hs.lenK (bcd (fun h => ?_) (fun h => hs.lenK (bcd (fun h2 => ?_) (fun h2 => hj.lenK (bcd (fun h3 => ?_) (fun h3 => hR σ ?_))))))
 · rw [List.length_map] at h; exact bad fun hb => by omega
 · rw [List.length_map] at h2; exact bad fun hb => by omega
 · rw [List.length_map] at h3; exact bad fun hb => by omega
 rw [List.length_map] at h h2 h3
 refine hs.lenK ⟨fun n s => s = σ ∧ Rng secs (fun _ => ∀ (k : Nat) x, (k : Int) < n → secs[k]? = some x → secOk secs js k x) n, fun n _ => secs.length - n.toNat, ⟨rfl, .start fun k x hk => by omega⟩, ?_⟩
 rintro n τ ⟨rfl, hr⟩
 refine bcd (fun hlt => ?_) (fun hge => ?_)
 · obtain ⟨i, x, rfl, hx, hil, hF, nx⟩ := hr.step (by simp) hls hlt
   refine hs.load (map_get hx) c_Section rfl ⟨x.Kind, x.OC, x.Line, rfl, ?_⟩
   intro R1 hR1
   have nbad : ¬ secOk secs js i x → _ := fun hn => bad fun hb => hn (hb.2.1 i x hx)
   have hstep : secOk secs js i x → _ := fun hok => nx (fun _ => ∀ (k : Nat) x, (k : Int) < w64 ((i : Int) + 1) → secs[k]? = some x → secOk secs js k x) fun k y hk hy => by
     rw [w64_succ (by omega)] at hk
     by_cases hki : k = i
     · subst hki; rw [hx] at hy; injection hy with hy; subst hy; exact hok
     · exact hF k y (by omega) hy
   refine (ref05_Ends_ok _).use ⟨_, rfl, bce (fun h1 => nbad fun ho => ho.1 h1) (fun h1 => bcd (fun h4 => nbad fun ho => by have := ho.2.1; omega) (fun h4 => bcd (fun h5 => nbad fun ho => by have := ho.2.1; omega)
     (fun h5 => bcd (fun h6 => nbad fun ho => by have := ho.2.2.1; omega) (fun h6 => bcd (fun h7 => nbad fun ho => by have := ho.2.2.1; omega) (fun h7 => ⟨rfl, hR1 _ ?_⟩)))))⟩
   refine bce (fun h8 => ?_) (fun h8 => bcn (fun h9 => nbad fun ho => h9 (ho.2.2.2 h8).1) (fun h9 => (ref05_count_ok _ _ hj).use ⟨_, rfl, bcd (fun h10 => nbad fun ho => by have := (ho.2.2.2 h8).2.1; omega) (fun h10 => ?_)⟩))
   · exact andl rfl (hstep ⟨h1, by omega, by omega, fun hl => absurd h8 hl⟩)
   · refine ⟨fun m s => s = τ ∧ ∃ k : Nat, m = k ∧ k ≤ i ∧ ∀ k' y, k' < k → secs[k']? = some y → y.Line ≠ x.Line, fun m _ => i - m.toNat, ⟨rfl, 0, rfl, by omega, fun k' y hk => by omega⟩, ?_⟩
     rintro m _ ⟨rfl, k, rfl, hki, hk⟩
     refine bcd (fun hlt2 => ?_) (fun hge2 => ?_)
     · obtain ⟨y, hy⟩ := get_of_lt (l := secs) (j := k) (by omega)
       refine hs.load (map_get hy) c_Section rfl ⟨y.Line, rfl, bce (fun h11 => nbad fun ho => (ho.2.2.2 h8).2.2 k y (by omega) hy h11) (fun h11 => ⟨rfl, ?_⟩)⟩
       rw [w64_succ (by omega)]
       exact ⟨⟨rfl, k + 1, rfl, by omega, fun k' z hk' hz => by
         by_cases hkk : k' = k
         · subst hkk; rw [hy] at hz; injection hz with hz; subst hz; exact h11
         · exact hk k' z (by omega) hz⟩, by show i - (((k + 1 : Nat) : Int)).toNat < i - ((k : Int)).toNat; omega⟩
     · refine andl rfl (hstep ⟨h1, by omega, by omega, fun _ => ⟨h9, by omega, fun k' y hk' hy => hk k' y (by omega) hy⟩⟩)
 · have hall : ∀ (k : Nat) x, secs[k]? = some x → secOk secs js k x := fun k x hk => by
     obtain ⟨i, hi, hi2, hF⟩ := hr
     rw [List.length_map] at hge
     have := (List.getElem?_eq_some_iff.1 hk).1
     exact hF k x (by omega) hk
   clear hr
   refine hj.lenK ⟨fun n s => s = τ ∧ Rng js (fun r => (∀ j ∈ r, jtOk secs js j) → ∀ j ∈ js, jtOk secs js j) n, fun n _ => js.length - n.toNat, ⟨rfl, .start fun h => h⟩, ?_⟩
   rintro m _ ⟨rfl, hr⟩
   refine bcd (fun hlt => ?_) (fun hge2 => ?_)
   · obtain ⟨i, x, rfl, hx, hil, hF, nx⟩ := hr.step (by simp) hlj hlt
     have nbad : ¬ jtOk secs js x → _ := fun hn => bad fun hb => hn (hb.2.2 x (List.mem_of_getElem? hx))
     intro R1 hR1
     refine hj.load (map_get hx) c_Joint rfl ⟨x.A, x.AEnd, x.B, x.BEnd, rfl, ?_⟩
     intro R2 hR2
     refine bcd (fun g1 => nbad fun ho => by have := ho.1; omega) (fun g1 => hs.lenK (bcd (fun g2 => nbad fun ho => by have := ho.1; rw [List.length_map] at g2; omega) (fun g2 => bcd (fun g3 => nbad fun ho => by have := ho.2.1; omega)
       (fun g3 => hs.lenK (bcd (fun g4 => nbad fun ho => by have := ho.2.1; rw [List.length_map] at g4; omega) (fun g4 => bce (fun g5 => nbad fun ho => ho.2.2.1 g5) (fun g5 => ⟨rfl, hR2 _ ?_⟩)))))))
     rw [List.length_map] at g2 g4
     obtain ⟨ya, hya⟩ := get_of_lt (l := secs) (j := x.A.toNat) (by omega)
     obtain ⟨yb, hyb⟩ := get_of_lt (l := secs) (j := x.B.toNat) (by omega)
     have ka : kindAt secs x.A = ya.Kind := by simp [kindAt, hya]
     have kb : kindAt secs x.B = yb.Kind := by simp [kindAt, hyb]
     refine bcd (fun g6 => nbad fun ho => by have := ho.2.2.2.1; omega) (fun g6 => hs.load (map_get hya) c_Section (by omega) ⟨ya.Kind, rfl, (ref05_Ends_ok _).use ⟨_, rfl, bcd (fun g7 => nbad fun ho => by have := ho.2.2.2.1; rw [ka] at this; omega) (fun g7 => ?_)⟩⟩)
     refine bcd (fun g8 => nbad fun ho => by have := ho.2.2.2.2.1; omega) (fun g8 => hs.load (map_get hyb) c_Section (by omega) ⟨yb.Kind, rfl, (ref05_Ends_ok _).use ⟨_, rfl, bcd (fun g9 => nbad fun ho => by have := ho.2.2.2.2.1; rw [kb] at this; omega) (fun g9 => ?_)⟩⟩)
     refine (ref05_count_ok _ _ hj).use ⟨_, rfl, bcd (fun g10 => nbad fun ho => by have := ho.2.2.2.2.2.1; omega) (fun g10 => (ref05_count_ok _ _ hj).use ⟨_, rfl, bcd (fun g11 => nbad fun ho => by have := ho.2.2.2.2.2.2; omega) (fun g11 => hR1 _ ?_)⟩)⟩
     refine andl rfl (nx _ fun h => hF fun j hj => ?_)
     rcases List.mem_cons.1 hj with rfl | hj
     · exact ⟨by omega, by omega, g5, by rw [ka]; omega, by rw [kb]; omega, by omega, by omega⟩
     · exact h j hj
   · have hF := hr.done (by simp) hge2
     refine ⟨?_, rfl⟩
     rw [if_pos ((topoOk_iff _ _).2 ⟨by omega, hall, hF (by simp)⟩)]
end
section
variable {σ : Store}
theorem IndexFunc_Step_ok {d f : D} {l : List St} {p : St → Bool} (h : At Tryz.prog σ t_Step d (l.map St.enc)) (hf : FnIs Tryz.prog σ f (fun x : St => .agg x.enc) l p) :
   Pure Tryz.prog n_slices_IndexFunc_Step [.one d, .one f] σ (.a (iA (fidx p l 0))) := by
 have hl := h.size
 rw [List.length_map] at hl
 obtain ⟨f1, a, b, as0', bs, rfl, ha, hb, hf⟩ := hf
 refine W_slices_IndexFunc_Step d _ σ _ (h.lenK ⟨fun n s => s = σ ∧ Rng l (fun r => ∀ j : Nat, n = j → fidx p r j = fidx p l 0) n, fun n _ => l.length - n.toNat, ⟨rfl, .start fun j hj => by cases j with | zero => rfl | succ j => omega⟩, ?_⟩)
 rintro n τ ⟨rfl, hr⟩
 refine bcd (fun hlt => ?_) (fun hge => ?_)
 · obtain ⟨j, x, rfl, hx, hj, hF, nx⟩ := hr.step (by simp) hl hlt
   refine h.load (map_get hx) c_Step rfl ⟨x.Sec, x.In, x.Out, rfl, f1, a, b, as0', bs, rfl, ha, hb, ?_⟩
   have hF := hF j rfl
   rw [fidx] at hF
   refine (hf x (List.mem_of_getElem? hx)).mono ?_
   rintro r s ⟨rfl, rfl⟩
   refine ⟨p x, rfl, bc (fun hp => ?_) (fun hp => ?_)⟩
   · rw [if_pos hp] at hF; exact ⟨by rw [← hF], rfl⟩
   · refine andl rfl (nx _ fun j' hj' => ?_)
     rw [w64_succ (by omega)] at hj'
     have : j' = j + 1 := by omega
     subst this
     rw [if_neg (by rw [hp]; simp)] at hF
     exact hF
 · refine ⟨?_, rfl⟩
   obtain ⟨j, hj, hj2, hF⟩ := hr
   have hF := hF j hj
   rw [List.length_map] at hge
   rw [drop_end (by omega)] at hF
   rw [← hF]; rfl
theorem ContainsFunc_Step_ok {d f : D} {l : List St} {p : St → Bool} (h : At Tryz.prog σ t_Step d (l.map St.enc)) (hf : FnIs Tryz.prog σ f (fun x : St => .agg x.enc) l p) :
   Pure Tryz.prog n_slices_ContainsFunc_Step [.one d, .one f] σ (.a (bA (l.any p))) :=
 W_slices_ContainsFunc_Step d f σ _ ((IndexFunc_Step_ok h hf).use ⟨_, rfl, by rw [fidx_any]; exact ⟨rfl, rfl⟩⟩)
theorem IndexFunc_Need_ok {d f : D} {l : List Nd} {p : Nd → Bool} (h : At Tryz.prog σ t_Need d (l.map Nd.enc)) (hf : FnIs Tryz.prog σ f (fun x : Nd => .agg x.enc) l p) :
   Pure Tryz.prog n_slices_IndexFunc_Need [.one d, .one f] σ (.a (iA (fidx p l 0))) := by
 have hl := h.size
 rw [List.length_map] at hl
 obtain ⟨f1, a, b, as0', bs, rfl, ha, hb, hf⟩ := hf
 refine W_slices_IndexFunc_Need d _ σ _ (h.lenK ⟨fun n s => s = σ ∧ Rng l (fun r => ∀ j : Nat, n = j → fidx p r j = fidx p l 0) n, fun n _ => l.length - n.toNat, ⟨rfl, .start fun j hj => by cases j with | zero => rfl | succ j => omega⟩, ?_⟩)
 rintro n τ ⟨rfl, hr⟩
 refine bcd (fun hlt => ?_) (fun hge => ?_)
 · obtain ⟨j, x, rfl, hx, hj, hF, nx⟩ := hr.step (by simp) hl hlt
   refine h.load (map_get hx) c_Need rfl ⟨x.Sec, x.Pos, rfl, f1, a, b, as0', bs, rfl, ha, hb, ?_⟩
   have hF := hF j rfl
   rw [fidx] at hF
   refine (hf x (List.mem_of_getElem? hx)).mono ?_
   rintro r s ⟨rfl, rfl⟩
   refine ⟨p x, rfl, bc (fun hp => ?_) (fun hp => ?_)⟩
   · rw [if_pos hp] at hF; exact ⟨by rw [← hF], rfl⟩
   · refine andl rfl (nx _ fun j' hj' => ?_)
     rw [w64_succ (by omega)] at hj'
     have : j' = j + 1 := by omega
     subst this
     rw [if_neg (by rw [hp]; simp)] at hF
     exact hF
 · refine ⟨?_, rfl⟩
   obtain ⟨j, hj, hj2, hF⟩ := hr
   have hF := hF j hj
   rw [List.length_map] at hge
   rw [drop_end (by omega)] at hF
   rw [← hF]; rfl
theorem ContainsFunc_Need_ok {d f : D} {l : List Nd} {p : Nd → Bool} (h : At Tryz.prog σ t_Need d (l.map Nd.enc)) (hf : FnIs Tryz.prog σ f (fun x : Nd => .agg x.enc) l p) :
   Pure Tryz.prog n_slices_ContainsFunc_Need [.one d, .one f] σ (.a (bA (l.any p))) :=
 W_slices_ContainsFunc_Need d f σ _ ((IndexFunc_Need_ok h hf).use ⟨_, rfl, by rw [fidx_any]; exact ⟨rfl, rfl⟩⟩)
theorem Index_Signal_ok {d : D} {l : List Sg} (v : Sg) (h : At Tryz.prog σ t_Signal d (l.map Sg.enc)) : Pure Tryz.prog n_slices_Index_Signal [.one d, .agg v.enc] σ (.a (iA (fidx (fun x => decide (v = x)) l 0))) := by
 have hl := h.size
 rw [List.length_map] at hl
 refine W_slices_Index_Signal d v.Sec v.End_ σ _ (h.lenK ⟨fun n s => s = σ ∧ Rng l (fun r => ∀ j : Nat, n = j → fidx (fun x => decide (v = x)) r j = fidx (fun x => decide (v = x)) l 0) n, fun n _ => l.length - n.toNat, ⟨rfl, .start fun j hj => by cases j with | zero => rfl | succ j => omega⟩, ?_⟩)
 rintro n τ ⟨rfl, hr⟩
 refine bcd (fun hlt => ?_) (fun hge => ?_)
 · obtain ⟨j, x, rfl, hx, hj, hF, nx⟩ := hr.step (by simp) hl hlt
   refine h.load (map_get hx) c_Signal rfl ⟨x.Sec, x.End_, rfl, ?_⟩
   have hF := hF j rfl
   rw [fidx] at hF
   have hd : ((v.Sec == x.Sec) && (v.End_ == x.End_)) = decide (v = x) := by
     rw [Bool.eq_iff_iff]; cases v; cases x; simp
   rw [hd]
   refine bc (fun hp => ?_) (fun hp => ?_)
   · rw [if_pos hp] at hF; exact ⟨by rw [← hF], rfl⟩
   · refine andl rfl (nx _ fun j' hj' => ?_)
     rw [w64_succ (by omega)] at hj'
     have : j' = j + 1 := by omega
     subst this
     rw [if_neg (by rw [hp]; simp)] at hF
     exact hF
 · refine ⟨?_, rfl⟩
   obtain ⟨j, hj, hj2, hF⟩ := hr
   have hF := hF j hj
   rw [List.length_map] at hge
   rw [drop_end (by omega)] at hF
   rw [← hF]; rfl
theorem Contains_Signal_ok {d : D} {l : List Sg} (v : Sg) (h : At Tryz.prog σ t_Signal d (l.map Sg.enc)) : Pure Tryz.prog n_slices_Contains_Signal [.one d, .agg v.enc] σ (.a (bA (l.any fun x => decide (v = x)))) :=
 W_slices_Contains_Signal d v.Sec v.End_ σ _ ((Index_Signal_ok v h).use ⟨_, rfl, by rw [fidx_any]; exact ⟨rfl, rfl⟩⟩)
theorem Equal_Need_ok {d1 d2 : D} {l1 l2 : List Nd} (h1 : At Tryz.prog σ t_Need d1 (l1.map Nd.enc)) (h2 : At Tryz.prog σ t_Need d2 (l2.map Nd.enc)) : Pure Tryz.prog n_slices_Equal_Need [.one d1, .one d2] σ (.a (bA (decide (l1 = l2)))) := by
 have hl1 := h1.size
 have hl2 := h2.size
 rw [List.length_map] at hl1 hl2
 refine W_slices_Equal_Need d1 d2 σ _ (h1.lenK (h2.lenK (bcn (fun hne => ?_) (fun heq => h1.lenK ?_))))
 · rw [List.length_map, List.length_map] at hne
   exact ⟨by rw [decide_eq_false (fun e => hne (by rw [e]))], rfl⟩
 rw [List.length_map, List.length_map] at heq
 refine ⟨fun n s => s = σ ∧ Rng l1 (fun r => ∀ j : Nat, n = j → (r = l2.drop j ↔ l1 = l2)) n, fun n _ => l1.length - n.toNat, ⟨rfl, .start fun j hj => by cases j with | zero => simp | succ j => omega⟩, ?_⟩
 rintro n τ ⟨rfl, hr⟩
 refine bcd (fun hlt => ?_) (fun hge => ?_)
 · obtain ⟨j, x, rfl, hx, hj, hF, nx⟩ := hr.step (by simp) hl1 hlt
   obtain ⟨y, hy⟩ := get_of_lt (l := l2) (j := j) (by omega)
   refine h1.load (map_get hx) c_Need rfl ⟨x.Sec, x.Pos, rfl, h2.load (map_get hy) c_Need rfl ⟨y.Sec, y.Pos, rfl, ?_⟩⟩
   have hF := hF j rfl
   rw [drop_get hy, List.cons.injEq] at hF
   have hd : ((x.Sec == y.Sec) && (x.Pos == y.Pos)) = decide (x = y) := by
     rw [Bool.eq_iff_iff]; cases x; cases y; simp
   rw [hd]
   refine bcnot (fun hp => ?_) (fun hp => ?_)
   · exact ⟨by rw [decide_eq_false (fun e => of_decide_eq_false hp (hF.2 e).1)], rfl⟩
   · refine andl rfl (nx _ fun j' hj' => ?_)
     rw [w64_succ (by omega)] at hj'
     have : j' = j + 1 := by omega
     subst this
     rw [← hF]; exact ⟨fun h => ⟨of_decide_eq_true hp, h⟩, fun h => h.2⟩
 · obtain ⟨j, hj, hj2, hF⟩ := hr
   rw [List.length_map] at hge
   have hF := hF j hj
   rw [drop_end (by omega), drop_end (by omega)] at hF
   exact ⟨by rw [decide_eq_true (hF.1 rfl)], rfl⟩
theorem Equal_int_ok {d1 d2 : D} {l1 l2 : List Int} (h1 : At Tryz.prog σ t_int d1 (l1.map Go.Fw.encI)) (h2 : At Tryz.prog σ t_int d2 (l2.map Go.Fw.encI)) : Pure Tryz.prog n_slices_Equal_int [.one d1, .one d2] σ (.a (bA (decide (l1 = l2)))) := by
 have hl1 := h1.size
 have hl2 := h2.size
 rw [List.length_map] at hl1 hl2
 refine W_slices_Equal_int d1 d2 σ _ (h1.lenK (h2.lenK (bcn (fun hne => ?_) (fun heq => h1.lenK ?_))))
 · rw [List.length_map, List.length_map] at hne
   exact ⟨by rw [decide_eq_false (fun e => hne (by rw [e]))], rfl⟩
 rw [List.length_map, List.length_map] at heq
 refine ⟨fun n s => s = σ ∧ Rng l1 (fun r => ∀ j : Nat, n = j → (r = l2.drop j ↔ l1 = l2)) n, fun n _ => l1.length - n.toNat, ⟨rfl, .start fun j hj => by cases j with | zero => simp | succ j => omega⟩, ?_⟩
 rintro n τ ⟨rfl, hr⟩
 refine bcd (fun hlt => ?_) (fun hge => ?_)
 · obtain ⟨j, x, rfl, hx, hj, hF, nx⟩ := hr.step (by simp) hl1 hlt
   obtain ⟨y, hy⟩ := get_of_lt (l := l2) (j := j) (by omega)
   refine h1.load (map_get hx) c_int rfl ⟨x, rfl, h2.load (map_get hy) c_int rfl ⟨y, rfl, ?_⟩⟩
   have hF := hF j rfl
   rw [drop_get hy, List.cons.injEq] at hF
   refine bcn (fun hp => ?_) (fun hp => ?_)
   · exact ⟨by rw [decide_eq_false (fun e => hp (hF.2 e).1)], rfl⟩
   · refine andl rfl (nx _ fun j' hj' => ?_)
     rw [w64_succ (by omega)] at hj'
     have : j' = j + 1 := by omega
     subst this
     rw [← hF]; exact ⟨fun h => ⟨hp, h⟩, fun h => h.2⟩
 · obtain ⟨j, hj, hj2, hF⟩ := hr
   rw [List.length_map] at hge
   have hF := hF j hj
   rw [drop_end (by omega), drop_end (by omega)] at hF
   exact ⟨by rw [decide_eq_true (hF.1 rfl)], rfl⟩
end
section
variable {σ : Store}
structure CfAt (σ : Store) (c0 c1 c2 c3 c4 : D) (c : Cf) : Prop where
 secs : At Tryz.prog σ t_Section c0 (c.Secs.map Sec.enc)
 jts : At Tryz.prog σ t_Joint c1 (c.Jts.map Jt.enc)
 sigs : At Tryz.prog σ t_Signal c2 (c.Sigs.map Sg.enc)
 xs : At Tryz.prog σ t_int c3 (c.Xs.map Go.Fw.encI)
 rts : RtsAt Tryz.prog t_Route t_Step t_Need t_int σ c4 c.Rts
abbrev cfA (c0 c1 c2 c3 c4 : D) (c : Cf) : A := .agg [c0, c1, c2, c3, c4, iD c.Age, iD c.Brake, iD c.Hold, iD c.Budget]
abbrev rtA (d1 d2 d3 : D) (r : Rt) : A := .agg [iD r.Entry, iD r.Exit, d1, d2, d3, .bool r.Shunt]
section
variable {c0 c1 c2 c3 c4 : D} {c : Cf} (h : CfAt σ c0 c1 c2 c3 c4 c)
include h
theorem plan_section_ok (s : Int) : Pure Tryz.prog n_conf_plan_section [cfA c0 c1 c2 c3 c4 c, iA s] σ (secRV (geti c.Secs s)) := by
 refine W_conf_plan_section _ _ _ _ _ _ _ _ _ s σ _ (bcd (fun h1 => ⟨by rw [geti_neg h1]; rfl, rfl⟩) (fun h1 => h.secs.lenK (bcd (fun h2 => ⟨by rw [List.length_map] at h2; rw [geti_ge h2]; rfl, rfl⟩) (fun h2 => ?_))))
 rw [List.length_map] at h2
 obtain ⟨x, hx⟩ := get_of_lt (l := c.Secs) (j := s.toNat) (by omega)
 refine h.secs.load (map_get hx) c_Section (by omega) ⟨x.Kind, x.OC, x.Line, rfl, ?_, rfl⟩
 have : geti c.Secs s = some x := by unfold geti; rw [if_neg h1, hx]
 rw [this]; rfl
theorem plan_signal_ok (s : Int) : Pure Tryz.prog n_conf_plan_signal [cfA c0 c1 c2 c3 c4 c, iA s] σ (sgRV (geti c.Sigs s)) := by
 refine W_conf_plan_signal _ _ _ _ _ _ _ _ _ s σ _ (bcd (fun h1 => ⟨by rw [geti_neg h1]; rfl, rfl⟩) (fun h1 => h.sigs.lenK (bcd (fun h2 => ⟨by rw [List.length_map] at h2; rw [geti_ge h2]; rfl, rfl⟩) (fun h2 => ?_))))
 rw [List.length_map] at h2
 obtain ⟨x, hx⟩ := get_of_lt (l := c.Sigs) (j := s.toNat) (by omega)
 refine h.sigs.load (map_get hx) c_Signal (by omega) ⟨x.Sec, x.End_, rfl, ?_, rfl⟩
 have : geti c.Sigs s = some x := by unfold geti; rw [if_neg h1, hx]
 rw [this]; rfl
theorem plan_approach_ok (r : Rt) (d1 d2 d3 : D) : Pure Tryz.prog n_conf_plan_approach [cfA c0 c1 c2 c3 c4 c, rtA d1 d2 d3 r] σ (.a (iA (c.approach r))) := by
 refine W_conf_plan_approach _ _ _ _ _ _ _ _ _ _ _ d1 d2 d3 _ σ _ ((plan_signal_ok h r.Entry).use ?_)
 cases hg : geti c.Sigs r.Entry with
 | none => exact ⟨0, 0, false, rfl, by simp [Cf.approach, hg], rfl⟩
 | some x => exact ⟨x.Sec, x.End_, true, rfl, by simp [Cf.approach, hg], rfl⟩
theorem rts_get {i : Nat} {r : Rt} (hr : c.Rts[i]? = some r) : ∃ rows, At Tryz.prog σ t_Route c4 rows ∧ rows.length = c.Rts.length ∧ ∃ d1 d2 d3, rows[i]? = some [iD r.Entry, iD r.Exit, d1, d2, d3, .bool r.Shunt] ∧ At Tryz.prog σ t_Step d1 (r.Path.map St.enc) ∧ At Tryz.prog σ t_Need d2 (r.Flank.map Nd.enc) ∧ At Tryz.prog σ t_int d3 (r.Overlap.map Go.Fw.encI) := by
 obtain ⟨rows, h1, h2, h3⟩ := h.rts
 have hlt := (List.getElem?_eq_some_iff.1 hr).1
 obtain ⟨row, hrow⟩ := get_of_lt (l := rows) (j := i) (by omega)
 obtain ⟨d1, d2, d3, rfl, q1, q2, q3⟩ := h3 i row r hrow hr
 exact ⟨rows, h1, h2, d1, d2, d3, hrow, q1, q2, q3⟩
theorem rts_len : ∃ rows, At Tryz.prog σ t_Route c4 rows ∧ rows.length = c.Rts.length := by
 obtain ⟨rows, h1, h2, h3⟩ := h.rts
 exact ⟨rows, h1, h2⟩
theorem conf_Approach_ok (i : Int) : Pure Tryz.prog n_conf_Approach [cfA c0 c1 c2 c3 c4 c, iA i] σ (.a (iA (c.Approach i))) := by
 obtain ⟨rows, hr, hl⟩ := rts_len h
 refine W_conf_Approach _ _ _ _ _ _ _ _ _ i σ _ (bcd (fun h1 => ⟨by rw [Cf.Approach, geti_neg h1]; rfl, rfl⟩) (fun h1 => hr.lenK (bcd (fun h2 => ⟨by rw [hl] at h2; rw [Cf.Approach, geti_ge h2]; rfl, rfl⟩) (fun h2 => ?_))))
 rw [hl] at h2
 obtain ⟨x, hx⟩ := get_of_lt (l := c.Rts) (j := i.toNat) (by omega)
 obtain ⟨rows', hr', _, d1, d2, d3, hrow, _⟩ := rts_get h hx
 refine hr'.load hrow c_Route (by omega) ⟨_, _, d1, d2, d3, _, rfl, (plan_approach_ok h x d1 d2 d3).use ⟨_, rfl, ?_, rfl⟩⟩
 have : geti c.Rts i = some x := by unfold geti; rw [if_neg h1, hx]
 rw [Cf.Approach, this]; rfl
end
theorem cap_fn {α : Type} {f1 : FuncId} {id : Nat} {t : TypeId} {n : Int} {arg : α → A} {l : List α} {p : α → Bool} (hs : σ id = .live t [[iD n]])
   (hf : ∀ x ∈ l, DCalls Tryz.prog f1 [arg x, .one (.el (.osl id 0 1) 0 0)] σ fun r s => r = .a (bA (p x)) ∧ s = σ) : FnIs Tryz.prog σ (.fn f1 [] [(false, [.el (.osl id 0 1) 0 0])]) arg l p :=
 ⟨f1, _, _, [], [.one (.el (.osl id 0 1) 0 0)], rfl, rfl, rfl, hf⟩
theorem box_row {id : Nat} {t : TypeId} {row : List D} (hs : σ id = .live t [row]) : Row σ (.osl id 0 1) 0 row := ⟨by omega, t, [row], hs, rfl⟩
theorem conf_has_ok {d : D} {path : List St} (s : Int) (h : At Tryz.prog σ t_Step d (path.map St.enc)) : Pure Tryz.prog n_conf_has [.one d, iA s] σ (.a (bA (hasSec path s))) := by
 refine .of (W_conf_has d s σ _ (newObj_intro fun id σ1 hid _ he hs => ?_)) (flat_b _)
 refine (ContainsFunc_Step_ok (p := fun x => x.Sec == s) (h.ext he) (cap_fn hs fun x _ => ?_)).use ⟨_, rfl, rfl, he⟩
 exact W_conf_has_1 x.Sec x.In x.Out _ σ1 _ ⟨_, _, _, rfl, _, box_row hs, s, rfl, rfl, rfl⟩
theorem hasNeed_ok {d : D} {l : List Nd} {id : Nat} {q : Int} (h : At Tryz.prog σ t_Need d (l.map Nd.enc)) (hs : σ id = .live t_int [[iD q]]) :
   Pure Tryz.prog n_slices_ContainsFunc_Need [.one d, .one (.fn n_conf_plan_flank_1 [] [(false, [.el (.osl id 0 1) 0 0])])] σ (.a (bA (l.any fun n => n.Sec == q))) :=
 ContainsFunc_Need_ok (p := fun x => x.Sec == q) h (cap_fn hs fun x _ => W_conf_plan_flank_1 x.Sec x.Pos _ σ _ ⟨_, _, _, rfl, _, box_row hs, q, rfl, rfl, rfl⟩)
end
section
variable {σ : Store}
abbrev encSg (p : Sg) : A := .agg [iD p.Sec, iD p.End_]
theorem keys_sg : Keys Tryz.prog t_Signal encSg := by
 refine ⟨fun x => ?_, fun x y => ?_⟩
 · have : ∀ a b : Int, keyOk Tryz.prog t_Signal (.agg [iD a, iD b]) = true := fun a b => by kernel_rfl
   exact this _ _
 · cases x; cases y; simp [eqA, eqCells, aCells, eqCell]
theorem conf_between_ok (n lo hi : Int) : Pure Tryz.prog n_conf_between [iA n, iA lo, iA hi] σ (.a (bA (decide (lo ≤ n ∧ n ≤ hi)))) := by
 refine W_conf_between n lo hi σ _ (bcd (fun h => ⟨?_, rfl⟩) (fun h => ⟨?_, rfl⟩)) <;> simp [h]
section
variable {c0 c1 c2 c3 c4 : D} {c : Cf} (h : ∀ s, CfAt s c0 c1 c2 c3 c4 c)
include h
theorem plan_signals_ok : Pure Tryz.prog n_conf_plan_signals [cfA c0 c1 c2 c3 c4 c] σ (.a (bA c.sigsOk)) := by
 have hl := (h σ).sigs.size
 rw [List.length_map] at hl
 refine .of (W_conf_plan_signals _ _ _ _ _ _ _ _ _ σ _ ?_) (flat_b _)
 refine newObj_intro fun id σ1 hid _ he hs => (h σ1).sigs.lenK ⟨fun n s => ∃ seen f, MapAt Tryz.prog t_Signal encSg s id f ∧ (∀ z, f z = if z ∈ seen then some (iA 1) else none) ∧ Ext σ s ∧ Rng c.Sigs (fun r => sgrun c.Jts r seen = sgrun c.Jts c.Sigs []) n,
   fun n _ => c.Sigs.length - n.toNat, ⟨[], _, .new hs, fun z => by simp, he, .start rfl⟩, ?_⟩
 rintro n s ⟨seen, f, hm, hf, hes, hr⟩
 refine bcd (fun hlt => ?_) (fun hge => ?_)
 · obtain ⟨j, x, rfl, hx, hj, hF, nx⟩ := hr.step (by simp) hl hlt
   refine (h s).sigs.load (map_get hx) c_Signal rfl ⟨x.Sec, x.End_, rfl, (topo_Next_ok x.Sec x.End_ (h s).jts).use (opt2_ex _ ?_)⟩
   rw [sgrun] at hF
   have key : ∀ k : Int, f x = (if x ∈ seen then some (iA 1) else none) → ((f x).getD (iA 0) = iA (if x ∈ seen then 1 else 0)) := fun k e => by
     rw [e]; split <;> rfl
   refine hm.lookI keys_sg x (key 0 (hf x)) (hm.bump keys_sg x fun s' f' hm' hf' hfx hs' hne => ?_)
   have hes' : Ext σ s' := fun i hi => by
     rw [hs' i (fun e => hi (by rw [e]; exact hid))]; exact hes i hi
   refine bcnot (fun hb => ?_) (fun hb => ?_)
   · rw [if_neg (by rw [hb]; simp)] at hF
     exact ⟨by simp [Cf.sigsOk, ← hF], hes'⟩
   · refine hm'.lookI keys_sg x (by rw [hfx]; rfl) (bcd (fun h2 => ?_) (fun h2 => ?_))
     · have hin : x ∈ seen := by
         by_cases hin : x ∈ seen
         · exact hin
         · rw [if_neg hin] at h2; exact absurd h2 (by decide)
       rw [if_neg (by simp [hin])] at hF
       exact ⟨by simp [Cf.sigsOk, ← hF], hes'⟩
     · have hin : x ∉ seen := fun hin => h2 (by rw [if_pos hin]; decide)
       rw [if_pos ⟨hb, hin⟩] at hF
       have hn := nx (fun r => sgrun c.Jts r (x :: seen) = sgrun c.Jts c.Sigs []) hF
       refine ⟨⟨x :: seen, f', hm', fun z => ?_, hes', hn.1⟩, hn.2⟩
       by_cases hz : z = x
       · subst hz; rw [hfx, if_neg hin]; simp; rfl
       · rw [hf' z hz, hf]; simp [hz]
 · have hF := hr.done (by simp) hge
   rw [sgrun] at hF
   refine (h s).sigs.lenK ⟨?_, hes⟩
   rw [Cf.sigsOk, ← hF, List.length_map, Bool.true_and]
   congr 4; simp; omega
theorem plan_crossings_ok : Pure Tryz.prog n_conf_plan_crossings [cfA c0 c1 c2 c3 c4 c] σ (.a (bA c.xsOk)) := by
 have hl := (h σ).xs.size
 rw [List.length_map] at hl
 refine .of (W_conf_plan_crossings _ _ _ _ _ _ _ _ _ σ _ ?_) (flat_b _)
 refine newObj_intro fun id σ1 hid _ he hs => (h σ1).xs.lenK ⟨fun n s => ∃ seen f, MapAt Tryz.prog t_int iA s id f ∧ (∀ z, f z = if z ∈ seen then some (iA 1) else none) ∧ Ext σ s ∧ Rng c.Xs (fun r => xrun c.Secs r seen = xrun c.Secs c.Xs []) n,
   fun n _ => c.Xs.length - n.toNat, ⟨[], _, .new hs, fun z => by simp, he, .start rfl⟩, ?_⟩
 rintro n s ⟨seen, f, hm, hf, hes, hr⟩
 refine bcd (fun hlt => ?_) (fun hge => ?_)
 · obtain ⟨j, x, rfl, hx, hj, hF, nx⟩ := hr.step (by simp) hl hlt
   refine (h s).xs.load (map_get hx) c_int rfl ⟨x, rfl, (plan_section_ok (h s) x).use (sec_ex _ ?_)⟩
   rw [xrun] at hF
   have key : (f x).getD (iA 0) = iA (if x ∈ seen then 1 else 0) := by
     rw [hf]; split <;> rfl
   refine hm.lookI keysI x key (hm.put keysI x fun s' f' hm' hf' hfx hs' hne => ?_)
   have hes' : Ext σ s' := fun i hi => by
     rw [hs' i (fun e => hi (by rw [e]; exact hid))]; exact hes i hi
   refine bcnot (fun hb => ?_) (fun hb => ?_)
   · cases hg : geti c.Secs x with
     | some y => rw [hg] at hb; cases hb
     | none =>
       rw [hg] at hF
       exact ⟨by simp [Cf.xsOk, ← hF], hes'⟩
   · obtain ⟨y, hg⟩ := Option.isSome_iff_exists.1 hb
     rw [hg] at hF
     simp only [hg, Option.getD_some] at hF ⊢
     refine bcn (fun h3 => ?_) (fun h3 => ?_)
     · rw [if_neg (by simp [h3])] at hF
       exact ⟨by simp [Cf.xsOk, ← hF], hes'⟩
     refine hm'.lookI keysI x (by rw [hfx]; rfl) (bcd (fun h2 => ?_) (fun h2 => ?_))
     · have hin : x ∈ seen := by
         by_cases hin : x ∈ seen
         · exact hin
         · rw [if_neg hin] at h2; exact absurd h2 (by decide)
       rw [if_neg (by simp [hin])] at hF
       exact ⟨by simp [Cf.xsOk, ← hF], hes'⟩
     · have hin : x ∉ seen := fun hin => h2 (by rw [if_pos hin]; decide)
       rw [if_pos ⟨h3, hin⟩] at hF
       have hn := nx (fun r => xrun c.Secs r (x :: seen) = xrun c.Secs c.Xs []) hF
       refine ⟨⟨x :: seen, f', hm', fun z => ?_, hes', hn.1⟩, hn.2⟩
       by_cases hz : z = x
       · subst hz; rw [hfx, if_neg hin]; simp; rfl
       · rw [hf' z hz, hf]; simp [hz]
 · have hF := hr.done (by simp) hge
   rw [xrun] at hF
   refine (h s).xs.lenK ⟨?_, hes⟩
   rw [Cf.xsOk, ← hF, List.length_map, Bool.true_and]
   congr 4; simp; omega
end
end
section
variable {σ : Store}
def SlPost (σ : Store) (t : TypeId) (rows : List (List D)) (r : RV) (σ' : Store) : Prop := σ' = σ ∧ ∃ d, r = .a (.one d) ∧ ∀ s, At Tryz.prog s t d rows
theorem own_fin {t : TypeId} {d : D} {rows : List (List D)} {s : Store} (h : Own Tryz.prog σ s t d rows) (hf : ∀ row ∈ rows, ∀ x ∈ row, Flat x) :
   ∃ r' σ', Ret Tryz.prog σ s (.a (.one d)) σ' r' ∧ SlPost σ t rows r' σ' := by
 obtain ⟨d', h1, h2⟩ := ret_slice h.at_ h.ext h.new hf
 exact ⟨.a (.one d'), σ, .pure h.ext h1, rfl, d', rfl, h2⟩
theorem flatNd (l : List Nd) : ∀ row ∈ l.map Nd.enc, ∀ x ∈ row, Flat x := by
 intro row hrow x hx
 obtain ⟨w, _, rfl⟩ := List.mem_map.1 hrow
 simp [Nd.enc] at hx
 rcases hx with rfl | rfl <;> exact .int _ _
theorem flatI (l : List Int) : ∀ row ∈ l.map Go.Fw.encI, ∀ x ∈ row, Flat x := by
 intro row hrow x hx
 obtain ⟨w, _, rfl⟩ := List.mem_map.1 hrow
 simp [Go.Fw.encI] at hx
 subst hx; exact .int _ _
theorem box_store {s : Store} {id : Nat} {t : TypeId} {x y : D} {K : Store → Prop} (hs : s id = .live t [[x]]) (hK : ∀ s', s' id = .live t [[y]] → (∀ i, i ≠ id → s' i = s i) → K s') : storeEl [y] s (.osl id 0 1) 0 0 K :=
 ⟨id, 0, 1, t, [[x]], [x], rfl, by omega, hs, rfl, by simp, hK _ (Store.set_same _ _ _) fun i hi => Store.set_ne _ _ hi⟩
section
variable {c0 c1 c2 c3 c4 : D} {c : Cf} (h : ∀ s, CfAt s c0 c1 c2 c3 c4 c)
include h
theorem plan_flank_ok (a : Int) {d : D} {path : List St} (hp : ∀ s, At Tryz.prog s t_Step d (path.map St.enc)) (hpl : path.length ≤ 2 ^ 20) :
   DCalls Tryz.prog n_conf_plan_flank [cfA c0 c1 c2 c3 c4 c, iA a, .one d] σ (SlPost σ t_Need ((c.flank a path).map Nd.enc)) := by
 have hl := (hp σ).size
 rw [List.length_map] at hl
 refine (W_conf_plan_flank _ _ _ _ _ _ _ _ _ a d σ _ ?_).ret (Q := fun r s => ∃ r' σ', Ret Tryz.prog σ s r σ' r' ∧ SlPost σ t_Need ((c.flank a path).map Nd.enc) r' σ') (fun r s h => h)
 refine (hp σ).lenK ⟨fun d n s => ∃ out : List Nd, Own Tryz.prog σ s t_Need d (out.map Nd.enc) ∧ out.length ≤ 4 * n.toNat ∧ Rng path (fun r => flankRun c a path r out = c.flank a path) n, fun _ n _ => path.length - n.toNat,
   ⟨[], .nil _ (.refl _), by simp, .start rfl⟩, ?_⟩
 rintro d1 n s ⟨out, ho, hol, hr⟩
 refine bcd (fun hlt => ?_) (fun hge => ?_)
 · obtain ⟨j, x, rfl, hx, hj, hF, nx⟩ := hr.step (by simp) hl hlt
   refine (hp s).load (map_get hx) c_Step rfl ⟨x.Sec, x.In, x.Out, rfl, (plan_section_ok (h s) x.Sec).use (sec_ex _ ?_)⟩
   rw [flankRun] at hF
   refine bcnot (fun hb => ?_) (fun hb => ?_)
   · cases hg : geti c.Secs x.Sec with
     | some y => rw [hg] at hb; cases hb
     | none =>
       rw [hg] at hF
       have hn := nx (fun r => flankRun c a path r out = c.flank a path) hF
       exact ⟨⟨out, ho, by rw [w64_succ (by omega)]; omega, hn.1⟩, hn.2⟩
   · obtain ⟨y, hg⟩ := Option.isSome_iff_exists.1 hb
     rw [hg] at hF
     simp only [hg, Option.getD_some] at hF ⊢
     refine (topo_Ends_ok _).use ⟨_, rfl, ?_⟩
     have hne := nends_le y.Kind
     refine ⟨fun d m s' => ∃ out' : List Nd, Own Tryz.prog σ s' t_Need d (out'.map Nd.enc) ∧ 0 ≤ m ∧ m ≤ nends y.Kind ∧ out'.length ≤ 4 * j + m.toNat ∧ flankEnds c a path x (nends y.Kind - m).toNat m out' = flankEnds c a path x (nends y.Kind).toNat 0 out,
       fun _ m _ => (nends y.Kind - m).toNat, ⟨out, ho, by omega, hne.1, by simp at hol ⊢; omega, by rw [Int.sub_zero]⟩, ?_⟩
     rintro d2 m s' ⟨out', ho', hm0, hm1, hol', hE⟩
     refine bcd (fun hlt' => ?_) (fun hge' => ?_)
     · have hw : w64 (m + 1) = m + 1 := w64_id (by omega) (by omega)
       have hk : (nends y.Kind - m).toNat = (nends y.Kind - (m + 1)).toNat + 1 := by omega
       rw [hk, flankEnds] at hE
       have leaf : ∀ (out2 : List Nd) (d3 : D) (s2 : Store), flankStep c a path x out' m = out2 → Own Tryz.prog σ s2 t_Need d3 (out2.map Nd.enc) →
           (∃ out' : List Nd, Own Tryz.prog σ s2 t_Need d3 (out'.map Nd.enc) ∧ 0 ≤ w64 (m + 1) ∧ w64 (m + 1) ≤ nends y.Kind ∧ out'.length ≤ 4 * j + (w64 (m + 1)).toNat ∧ flankEnds c a path x (nends y.Kind - w64 (m + 1)).toNat (w64 (m + 1)) out' = flankEnds c a path x (nends y.Kind).toNat 0 out) ∧
           (nends y.Kind - w64 (m + 1)).toNat < (nends y.Kind - m).toNat := by
         intro out2 d3 s2 h1 h2
         have hlen := (flankStep_len c a path x out' m).2
         rw [hw]
         refine ⟨⟨out2, h2, by omega, by omega, by rw [← h1]; omega, by rw [← h1]; exact hE⟩, by omega⟩
       intro R hR
       refine bce (fun h1 => ⟨trivial, leaf out' d2 s' (by rw [flankStep, if_pos (.inl h1)]) ho'⟩) (fun h1 => bce (fun h2 => ⟨trivial, leaf out' d2 s' (by rw [flankStep, if_pos (.inr h2)]) ho'⟩) (fun h2 => ⟨trivial, hR s' ?_⟩))
       have hst : flankStep c a path x out' m = match nxt c.Jts x.Sec m with
         | none => out'
         | some (q, f) => match geti c.Secs q with
           | none => out'
           | some y => if y.Kind = 1 ∧ (1 ≤ f ∧ f ≤ 2) ∧ q ≠ a ∧ hasSec path q = false ∧ (out'.any fun n => n.Sec == q) = false then out' ++ [⟨q, 3 - f⟩] else out' := by
         rw [flankStep, if_neg (by rintro (e | e); exact h1 e; exact h2 e)] <;> rfl
       refine (topo_Next_ok x.Sec m (h s').jts).use (opt2_ex _ ?_)
       generalize nxt c.Jts x.Sec m = o at hst
       refine newObj_intro fun id s2 hid _ he hs2 => box_store hs2 fun s3 hs3 hs3' => ?_
       have he3 : Ext s' s3 := fun i hi => by
         rw [hs3' i (fun e => hi (by rw [e]; exact hid))]; exact he i hi
       have ho3 := ho'.ext' he3
       refine ⟨_, box_row hs3, _, rfl, (plan_section_ok (h s3) _).use (sec_ex _ ?_)⟩
       intro R1 hR1
       refine bcnot (fun hb1 => ?_) (fun hb1 => ?_)
       · cases o with
         | some p => cases hb1
         | none => exact ⟨trivial, leaf out' d2 s3 hst ho3⟩
       obtain ⟨⟨q, f⟩, rfl⟩ := Option.isSome_iff_exists.1 hb1
       simp only [Option.getD_some] at hst hR1 hs3 ⊢
       refine bcnot (fun hb2 => ?_) (fun hb2 => ?_)
       · cases hg2 : geti c.Secs q with
         | some p => rw [hg2] at hb2; cases hb2
         | none => rw [hg2] at hst; exact ⟨trivial, leaf out' d2 s3 hst ho3⟩
       obtain ⟨y2, hg2⟩ := Option.isSome_iff_exists.1 hb2
       rw [hg2] at hst
       simp only [hg2, Option.getD_some] at hst ⊢
       have no : ¬ (y2.Kind = 1 ∧ (1 ≤ f ∧ f ≤ 2) ∧ q ≠ a ∧ hasSec path q = false ∧ (out'.any fun n => n.Sec == q) = false) → flankStep c a path x out' m = out' := fun hn => by rw [hst, if_neg hn]
       refine bcn (fun h3 => ⟨trivial, leaf out' d2 s3 (no fun h => h3 h.1) ho3⟩) (fun h3 => ?_)
       refine bcd (fun h4 => ⟨trivial, leaf out' d2 s3 (no fun h => by omega) ho3⟩) (fun h4 => ?_)
       refine bcd (fun h5 => ⟨trivial, leaf out' d2 s3 (no fun h => by omega) ho3⟩) (fun h5 => ?_)
       refine ⟨_, box_row hs3, q, rfl, bce (fun h6 => ⟨trivial, leaf out' d2 s3 (no fun h => h.2.2.1 h6) ho3⟩) (fun h6 => ?_)⟩
       refine ⟨_, box_row hs3, q, rfl, (conf_has_ok q (hp s3)).use ⟨_, rfl, bc (fun h7 => ⟨trivial, leaf out' d2 s3 (no fun h => by rw [h.2.2.2.1] at h7; cases h7) ho3⟩) (fun h7 => ?_)⟩⟩
       refine (hasNeed_ok ho3.at_ hs3).use ⟨_, rfl, bc (fun h8 => ⟨trivial, leaf out' d2 s3 (no fun h => by rw [h.2.2.2.2] at h8; cases h8) ho3⟩) (fun h8 => ⟨trivial, hR1 s3 ?_⟩)⟩
       refine ⟨_, box_row hs3, q, rfl, newObj_intro fun id1 s4 hid1 _ he4 hs4 => ?_⟩
       have hw2 : w64 (3 - f) = 3 - f := w64_id (by omega) (by omega)
       have ho4 := ho3.ext' he4
       refine ho4.append (At.fresh hs4 (by simp) rfl) (by simp; omega) (by simp; omega) fun d4 s5 ho5 _ _ => ⟨trivial, leaf (out' ++ [⟨q, 3 - f⟩]) d4 s5 (by rw [hst, if_pos ⟨h3, ⟨by omega, by omega⟩, h6, h7, h8⟩]) ?_⟩
       rw [hw2] at ho5
       rw [List.map_append]
       exact ho5
     · have hz : (nends y.Kind - m).toNat = 0 := by omega
       rw [hz, flankEnds] at hE
       rw [← hE] at hF
       have hn := nx (fun r => flankRun c a path r out' = c.flank a path) hF
       exact ⟨⟨out', ho', by rw [w64_succ (by omega)]; omega, hn.1⟩, hn.2⟩
 · have hF := hr.done (by simp) hge
   rw [flankRun] at hF
   rw [← hF]
   exact own_fin ho (flatNd _)
theorem plan_overlap_ok (r : Rt) {d1 d2 d3 : D} (hp : ∀ s, At Tryz.prog s t_Step d1 (r.Path.map St.enc)) :
   DCalls Tryz.prog n_conf_plan_overlap [cfA c0 c1 c2 c3 c4 c, rtA d1 d2 d3 r] σ (SlPost σ t_int ((c.overlap r).map Go.Fw.encI)) := by
 refine (W_conf_plan_overlap _ _ _ _ _ _ _ _ _ _ _ d1 d2 d3 _ σ _ ?_).ret (Q := fun r' s => ∃ r'' σ', Ret Tryz.prog σ s r' σ' r'' ∧ SlPost σ t_int ((c.overlap r).map Go.Fw.encI) r'' σ') (fun r s h => h)
 refine (plan_signal_ok (h σ) _).use (sg_ex _ ?_)
 intro R hR
 have nil : c.overlap r = [] → ∃ r'' σ', Ret Tryz.prog σ σ (.a (.one .nils)) σ' r'' ∧ SlPost σ t_int ((c.overlap r).map Go.Fw.encI) r'' σ' := fun e => by
   rw [e]; exact own_fin (.nil _ (.refl _)) (flatI _)
 refine bc (fun h1 => nil (by rw [Cf.overlap, if_pos h1])) (fun h1 => bcnot (fun h2 => nil ?_) (fun h2 => ⟨rfl, hR σ ?_⟩))
 · rw [Cf.overlap, if_neg (by rw [h1]; simp)]
   cases hg : geti c.Sigs r.Exit with
   | none => rfl
   | some x => rw [hg] at h2; cases h2
 obtain ⟨x, hg⟩ := Option.isSome_iff_exists.1 h2
 simp only [hg, Option.getD_some] at hR ⊢
 have hov : c.overlap r = match nxt c.Jts x.Sec x.End_ with
   | none => []
   | some (q, _) => match geti c.Secs q with
     | none => []
     | some y => if y.Line = 0 ∧ hasSec r.Path q = false ∧ q ≠ c.approach r then [q] else [] := by
   rw [Cf.overlap, if_neg (by rw [h1]; simp), hg] <;> rfl
 refine (topo_Next_ok _ _ (h σ).jts).use (opt2_ex _ ((plan_section_ok (h σ) _).use (sec_ex _ ?_)))
 generalize nxt c.Jts x.Sec x.End_ = o at hov
 refine bcnot (fun hb1 => nil ?_) (fun hb1 => ?_)
 · cases o with
   | none => exact hov
   | some p => cases hb1
 obtain ⟨⟨q, f⟩, rfl⟩ := Option.isSome_iff_exists.1 hb1
 simp only [Option.getD_some] at hov ⊢
 refine bcnot (fun hb2 => nil ?_) (fun hb2 => ?_)
 · cases hg2 : geti c.Secs q with
   | none => rw [hg2] at hov; exact hov
   | some p => rw [hg2] at hb2; cases hb2
 obtain ⟨y, hg2⟩ := Option.isSome_iff_exists.1 hb2
 simp only [hg2, Option.getD_some] at hov ⊢
 have no : ¬ (y.Line = 0 ∧ hasSec r.Path q = false ∧ q ≠ c.approach r) → c.overlap r = [] := fun hn => by rw [hov, if_neg hn]
 refine bcn (fun h3 => nil (no fun h => h3 h.1)) (fun h3 => (conf_has_ok q (hp σ)).use ⟨_, rfl, bc (fun h4 => nil (no fun h => by rw [h.2.1] at h4; cases h4)) (fun h4 => (plan_approach_ok (h σ) r d1 d2 d3).use ⟨_, rfl, bce (fun h5 => nil (no fun h => h.2.2 h5)) (fun h5 => ?_)⟩)⟩)
 refine newObj_intro fun id s2 hid _ he hs2 => ?_
 rw [hov, if_pos ⟨h3, h4, h5⟩]
 exact own_fin ⟨At.fresh hs2 (by simp) rfl, he, osl_new hid, fun h => h, by intro e; cases e⟩ (flatI _)
end
end
section
variable {σ : Store}
section
variable {c0 c1 c2 c3 c4 : D} {c : Cf} (h : ∀ s, CfAt s c0 c1 c2 c3 c4 c)
include h
theorem plan_path_ok (r : Rt) {d1 d2 d3 : D} (hp : ∀ s, At Tryz.prog s t_Step d1 (r.Path.map St.enc)) :
   Pure Tryz.prog n_conf_plan_path [cfA c0 c1 c2 c3 c4 c, rtA d1 d2 d3 r] σ (.a (bA (c.path r))) := by
 have hl := (hp σ).size
 rw [List.length_map] at hl
 refine .of (W_conf_plan_path _ _ _ _ _ _ _ _ _ _ _ d1 d2 d3 _ σ _ ?_) (flat_b _)
 refine (plan_signal_ok (h σ) _).use (sg_ex _ ((plan_signal_ok (h σ) _).use (sg_ex _ ?_)))
 intro R hR
 refine bcnot (fun h1 => ?_) (fun h1 => ?_)
 · cases hg : geti c.Sigs r.Entry with
   | some x => rw [hg] at h1; cases h1
   | none => exact ⟨by rw [Cf.path, hg], .refl _⟩
 obtain ⟨a, hg⟩ := Option.isSome_iff_exists.1 h1
 have hpath : c.path r = ((decide (r.Exit = -1) || (geti c.Sigs r.Exit).isSome) && decide (1 ≤ r.Path.length ∧ r.Path.length ≤ 8) && prunA c r (geti c.Sigs r.Exit) r.Path a [a.Sec]) := by rw [Cf.path, hg]
 rw [hg, Option.getD_some] at hR
 generalize hex : geti c.Sigs r.Exit = ex at hpath hR
 have hlen : decide ((1 : Int) ≤ ((r.Path.map St.enc).length : Int) ∧ ((r.Path.map St.enc).length : Int) ≤ 8) = decide (1 ≤ r.Path.length ∧ r.Path.length ≤ 8) := by
   rw [List.length_map]; congr 1; apply propext; omega
 have hgo : decide (1 ≤ r.Path.length ∧ r.Path.length ≤ 8) = true → (decide (r.Exit = -1) || ex.isSome) = true → R σ := by
   intro hlen2 hexok
   rw [hlen2, hexok] at hpath
   simp only [Bool.true_and] at hpath
   refine hR σ (newObj_intro fun id s1 hid _ he1 hs1 => (MapAt.new hs1).put keysI a.Sec fun s2 f2 hm2 hf2 hfx2 hs2 hne2 => ?_)
   have he2 : Ext σ s2 := fun i hi => by
     rw [hs2 i (fun e => hi (by rw [e]; exact hid))]; exact he1 i hi
   refine (hp s2).lenK ⟨fun m e n s => ∃ seen f, MapAt Tryz.prog t_int iA s id f ∧ (∀ z, f z = if z ∈ seen then some (iA 1) else none) ∧ Ext σ s ∧ Rng r.Path (fun q => prunA c r ex q ⟨m, e⟩ seen = c.path r) n, fun _ _ n _ => r.Path.length - n.toNat,
     ⟨[a.Sec], f2, hm2, fun z => ?_, he2, .start hpath.symm⟩, ?_⟩
   · by_cases hz : z = a.Sec
     · subst hz; rw [hfx2]; simp
     · rw [hf2 z hz]; simp [hz]
   rintro m e n s ⟨seen, f, hm, hf, hes, hr⟩
   refine bcd (fun hlt => ?_) (fun hge => ?_)
   · obtain ⟨j, x, rfl, hx, hj, hF, nx⟩ := hr.step (by simp) hl hlt
     intro R1 hR1
     refine (hp s).load (map_get hx) c_Step rfl ⟨x.Sec, x.In, x.Out, rfl, (topo_Next_ok m e (h s).jts).use (opt2_ex _ ((plan_section_ok (h s) _).use (sec_ex _ ((topo_Pos_ok _ _ _).use (opt1_ex _ ?_)))))⟩
     rw [prunA] at hF
     have bad : pstep c r ex ⟨m, e⟩ x (r.Path.drop (j + 1)).isEmpty seen = false → ∀ s', Ext σ s' → (RV.a (.one (.bool false)) = .a (bA (c.path r)) ∧ Ext σ s') := fun hb s' he' => by
       rw [hb] at hF
       exact ⟨by rw [← hF]; rfl, he'⟩
     have good : pstep c r ex ⟨m, e⟩ x (r.Path.drop (j + 1)).isEmpty seen = true → ∀ s' f', MapAt Tryz.prog t_int iA s' id f' → (∀ z, f' z = if z ∈ x.Sec :: seen then some (iA 1) else none) → Ext σ s' → R1 x.Sec x.Out s' := fun hb s' f' hm' hf' he' => by
       rw [hb, Bool.true_and] at hF
       have hn := nx (fun q => prunA c r ex q ⟨x.Sec, x.Out⟩ (x.Sec :: seen) = c.path r) hF
       exact hR1 _ _ _ ⟨rfl, ⟨x.Sec :: seen, f', hm', hf', he', hn.1⟩, hn.2⟩
     have hst : pstep c r ex ⟨m, e⟩ x (r.Path.drop (j + 1)).isEmpty seen = match nxt c.Jts m e with
       | none => false
       | some (q, i) => decide (q = x.Sec) && decide (i = x.In) && (wpos (wayL ((geti c.Secs q).getD ⟨0, 0, 0⟩).Kind) x.In x.Out).isSome && decide (q ∉ seen) &&
         (!(c.Sigs.any fun y => decide (⟨x.Sec, x.Out⟩ = y)) || ((r.Path.drop (j + 1)).isEmpty && decide (ex = some ⟨x.Sec, x.Out⟩))) && !(r.Shunt && decide (((geti c.Secs q).getD ⟨0, 0, 0⟩).Line ≠ 0)) := rfl
     generalize nxt c.Jts m e = o at hst
     have key : (f (o.getD (0, 0)).1).getD (iA 0) = iA (if (o.getD (0, 0)).1 ∈ seen then 1 else 0) := by
       rw [hf]; split <;> rfl
     refine hm.lookI keysI _ key (hm.put keysI _ fun s' f' hm' hf' hfx hs' hne => ?_)
     have hes' : Ext σ s' := fun i hi => by
       rw [hs' i (fun e => hi (by rw [e]; exact hid))]; exact hes i hi
     refine (Contains_Signal_ok ⟨x.Sec, x.Out⟩ (h s').sigs).use ⟨_, rfl, ?_⟩
     intro R2 hR2
     have main : R2 ((r.Path.drop (j + 1)).isEmpty && decide (ex = some ⟨x.Sec, x.Out⟩)) s' := by
       refine hR2 _ _ (bcnot (fun k1 => bad ?_ s' hes') (fun k1 => ?_))
       · cases o with
         | none => exact hst
         | some p => cases k1
       obtain ⟨⟨q, i⟩, rfl⟩ := Option.isSome_iff_exists.1 k1
       simp only [Option.getD_some] at hst key hfx hf' ⊢
       refine bcn (fun k2 => bad (by rw [hst]; simp [k2]) s' hes') (fun k2 => ?_)
       refine bcn (fun k3 => bad (by rw [hst]; simp [k3]) s' hes') (fun k3 => ?_)
       refine bcnot (fun k4 => bad (by rw [hst, k4]; simp) s' hes') (fun k4 => ?_)
       refine hm'.lookI keysI q (by rw [hfx]; rfl) (bcd (fun k5 => ?_) (fun k5 => ?_))
       · have hin : q ∈ seen := by
           by_cases hin : q ∈ seen
           · exact hin
           · rw [if_neg hin] at k5; exact absurd k5 (by decide)
         exact bad (by rw [hst]; simp [hin]) s' hes'
       have hin : q ∉ seen := fun hin => k5 (by rw [if_pos hin]; decide)
       have hfin : pstep c r ex ⟨m, e⟩ x (r.Path.drop (j + 1)).isEmpty seen = true → R1 x.Sec x.Out s' := fun hb => good hb s' f' hm' (fun z => by
         by_cases hz : z = q
         · subst hz; rw [hfx, if_neg hin, k2]; simp; rfl
         · rw [hf' z hz, hf]; simp [k2 ▸ hz]) hes'
       have hpre : (decide (q = x.Sec) && decide (i = x.In) && (wpos (wayL ((geti c.Secs q).getD ⟨0, 0, 0⟩).Kind) x.In x.Out).isSome && decide (q ∉ seen)) = true := by
         rw [k4]; simp [k2, k3]; rw [← k2]; exact hin
       rw [hpre, Bool.true_and] at hst
       refine bc (fun k6 => bcnot (fun k7 => bad ?_ s' hes') (fun k7 => ?_)) (fun k6 => ?_)
       · rw [hst, k6, k7]; rfl
       · rw [k6, k7] at hst
         refine bc (fun k8 => bcn (fun k9 => bad ?_ s' hes') (fun k9 => ⟨trivial, hfin ?_⟩)) (fun k8 => ⟨trivial, hfin ?_⟩)
         · rw [hst, k8]; simp [k9]
         · rw [hst]; simp [k9]
         · rw [hst, k8]; rfl
       · rw [k6] at hst
         refine bc (fun k8 => bcn (fun k9 => bad ?_ s' hes') (fun k9 => ⟨trivial, hfin ?_⟩)) (fun k8 => ⟨trivial, hfin ?_⟩)
         · rw [hst, k8]; simp [k9]
         · rw [hst]; simp [k9]
         · rw [hst, k8]; rfl
     refine (hp s').lenK ?_
     have hw : w64 (((r.Path.map St.enc).length : Int) - 1) = (r.Path.length : Int) - 1 := by rw [List.length_map, w64_id (by omega) (by omega)]
     rw [hw]
     refine bce (fun q1 => bc (fun q2 => ⟨rfl, ?_⟩) (fun q2 => ⟨rfl, ?_⟩)) (fun q1 => ⟨rfl, ?_⟩)
     · have hemp : (r.Path.drop (j + 1)).isEmpty = true := by rw [drop_end (by omega)]; rfl
       obtain ⟨y, rfl⟩ := Option.isSome_iff_exists.1 q2
       rw [hemp, Bool.true_and] at main
       have hd : decide (some y = some (⟨x.Sec, x.Out⟩ : Sg)) = (x.Sec == y.Sec && x.Out == y.End_) := by
         cases y with
         | mk y1 y2 =>
           rw [Bool.eq_iff_iff]; simp
           exact ⟨fun ⟨a, b⟩ => ⟨a.symm, b.symm⟩, fun ⟨a, b⟩ => ⟨a.symm, b.symm⟩⟩
       rw [hd] at main
       exact main
     · have hd : ex = none := by cases ex; rfl; cases q2
       rw [hd] at main
       simpa using main
     · have hemp : (r.Path.drop (j + 1)).isEmpty = false := by
         cases hd : r.Path.drop (j + 1) with
         | nil => rw [List.drop_eq_nil_iff] at hd; omega
         | cons y l => rfl
       rw [hemp, Bool.false_and] at main
       exact main
   · have hF : (match (generalizing := false) ex with | some x => decide ((⟨m, e⟩ : Sg) = x) | none => !(nxt c.Jts m e).isSome) = c.path r := hr.done (by simp) hge
     refine bc (fun q2 => ?_) (fun q2 => ?_)
     · obtain ⟨y, rfl⟩ := Option.isSome_iff_exists.1 q2
       refine ⟨?_, hes⟩
       rw [← hF]
       cases y with
       | mk y1 y2 =>
         congr 4; rw [Bool.eq_iff_iff]; simp
     · have hd : ex = none := by cases ex; rfl; cases q2
       subst hd
       refine (topo_Next_ok m e (h s).jts).use (opt2_ex _ ⟨?_, hes⟩)
       rw [← hF]
 refine bcnot (fun h2 => bcn (fun h3 => ⟨?_, .refl _⟩) (fun h3 => (hp σ).lenK ((conf_between_ok _ _ _).use ⟨_, rfl, bcnot (fun h4 => ⟨?_, .refl _⟩) (fun h4 => ⟨rfl, hgo ?_ ?_⟩)⟩))) (fun h2 => (hp σ).lenK ((conf_between_ok _ _ _).use ⟨_, rfl, bcnot (fun h4 => ⟨?_, .refl _⟩) (fun h4 => ⟨rfl, hgo ?_ ?_⟩)⟩))
 · rw [hpath, h2]; simp [h3]
 · rw [hlen] at h4; rw [hpath, h4]; simp
 · rw [← hlen]; exact h4
 · simp [h3]
 · rw [hlen] at h4; rw [hpath, h4]; simp
 · rw [← hlen]; exact h4
 · simp [h2]
theorem plan_route_ok (r : Rt) {d1 d2 d3 : D} (hp : ∀ s, At Tryz.prog s t_Step d1 (r.Path.map St.enc)) (hf : ∀ s, At Tryz.prog s t_Need d2 (r.Flank.map Nd.enc)) (ho : ∀ s, At Tryz.prog s t_int d3 (r.Overlap.map Go.Fw.encI)) :
   Pure Tryz.prog n_conf_plan_route [cfA c0 c1 c2 c3 c4 c, rtA d1 d2 d3 r] σ (.a (iA (c.route r))) := by
 refine W_conf_plan_route _ _ _ _ _ _ _ _ _ _ _ d1 d2 d3 _ σ _ ((plan_path_ok h r hp).use ⟨_, rfl, bcnot (fun h1 => ⟨by rw [Cf.route, if_pos h1], rfl⟩) (fun h1 => ?_)⟩)
 have hpl : r.Path.length ≤ 8 := by
   unfold Cf.path at h1
   split at h1
   · cases h1
   · simp at h1; exact h1.1.2.2
 refine (plan_approach_ok (h σ) r d1 d2 d3).use ⟨_, rfl, (plan_flank_ok h _ hp (by omega)).mono ?_⟩
 rintro r1 s1 ⟨rfl, d, rfl, hd⟩
 refine ⟨d, rfl, (Equal_Need_ok (hf _) (hd _)).use ⟨_, rfl, bcnot (fun h2 => ⟨?_, rfl⟩) (fun h2 => (plan_overlap_ok h r hp).mono ?_)⟩⟩
 · rw [Cf.route, if_neg (by rw [h1]; simp), if_pos (of_decide_eq_false h2)]
 rintro r2 s2 ⟨rfl, d', rfl, hd'⟩
 have e2 := of_decide_eq_true h2
 refine ⟨d', rfl, (Equal_int_ok (ho _) (hd' _)).use ⟨_, rfl, bcnot (fun h3 => ⟨?_, rfl⟩) (fun h3 => ⟨?_, rfl⟩)⟩⟩
 · rw [Cf.route, if_neg (by rw [h1]; simp), if_neg (fun hn => hn e2), if_pos (of_decide_eq_false h3)]
 · rw [Cf.route, if_neg (by rw [h1]; simp), if_neg (fun hn => hn e2), if_neg (fun hn => hn (of_decide_eq_true h3))]
theorem conf_Check_ok : Pure Tryz.prog n_conf_Check [cfA c0 c1 c2 c3 c4 c] σ (.a (iA c.check)) := by
 refine W_conf_Check _ _ _ _ _ _ _ _ _ σ _ ((topo_Check_ok (fun s => (h s).secs) (fun s => (h s).jts)).use ⟨_, rfl, ?_⟩)
 have e6 : (if topoOk c.Secs c.Jts = true then (0 : Int) else 6) ≠ 0 ↔ topoOk c.Secs c.Jts = false := by
   cases topoOk c.Secs c.Jts <;> simp
 refine bcn (fun k1 => ⟨by rw [Cf.check, if_pos (e6.1 k1)], rfl⟩) (fun k1 => (plan_signals_ok h).use ⟨_, rfl, bcnot (fun k2 => ⟨?_, rfl⟩) (fun k2 => (plan_crossings_ok h).use ⟨_, rfl, bcnot (fun k3 => ⟨?_, rfl⟩) (fun k3 => ?_)⟩)⟩)
 all_goals have k1' : ¬ topoOk c.Secs c.Jts = false := fun e => e6.2 e k1
 · rw [Cf.check, if_neg k1', if_pos k2]
 · rw [Cf.check, if_neg k1', if_neg (by rw [k2]; simp), if_pos k3]
 have hck : c.check = if c.Rts.length > 12 then 9 else if c.routes c.Rts ≠ 0 then c.routes c.Rts else if c.timing = true then 0 else 12 := by
   rw [Cf.check, if_neg k1', if_neg (by rw [k2]; simp), if_neg (by rw [k3]; simp)]
 obtain ⟨rows, hat, hlen, hrow⟩ := rts_froz fun s => (h s).rts
 have hl := (hat σ).size
 refine (hat σ).lenK (bcd (fun k4 => ⟨by rw [hck, if_pos (by omega)], rfl⟩) (fun k4 => (hat σ).lenK ?_))
 rw [if_neg (by omega)] at hck
 refine ⟨fun n s => s = σ ∧ Rng c.Rts (fun l => c.routes l = c.routes c.Rts) n, fun n _ => c.Rts.length - n.toNat, ⟨rfl, .start rfl⟩, ?_⟩
 rintro n τ ⟨rfl, hr⟩
 refine bcd (fun hlt => ?_) (fun hge => ?_)
 · obtain ⟨j, x, rfl, hx, hj, hF, nx⟩ := hr.step hlen (by omega) hlt
   obtain ⟨row, hrw⟩ := get_of_lt (l := rows) (j := j) (by omega)
   obtain ⟨d1, d2, d3, rfl, q1, q2, q3⟩ := hrow j row x hrw hx
   refine (hat τ).load hrw c_Route rfl ⟨_, _, d1, d2, d3, _, rfl, (plan_route_ok h x q1 q2 q3).use ⟨_, rfl, ?_⟩⟩
   rw [Cf.routes] at hF
   refine bcn (fun k5 => ⟨?_, rfl⟩) (fun k5 => ?_)
   · rw [if_pos k5] at hF
     rw [hck, ← hF, if_pos k5]
   · rw [if_neg (by simp [k5])] at hF
     exact ⟨rfl, andl rfl (nx _ hF)⟩
 · have hF : 0 = c.routes c.Rts := hr.done hlen hge
   rw [← hF, if_neg (by simp)] at hck
   have hpos : c.timing = (decide (1 ≤ c.Age ∧ c.Age ≤ 8) && decide (0 ≤ c.Brake ∧ c.Brake ≤ 8) && decide (c.Age + c.Brake + 1 ≤ c.Hold ∧ c.Hold ≤ 40) && decide (1 ≤ c.Budget ∧ c.Budget ≤ 1000000)) := rfl
   refine (conf_between_ok _ _ _).use ⟨_, rfl, bcnot (fun k5 => ⟨?_, rfl⟩) (fun k5 => (conf_between_ok _ _ _).use ⟨_, rfl, bcnot (fun k6 => ⟨?_, rfl⟩) (fun k6 => (conf_between_ok _ _ _).use ⟨_, rfl, ?_⟩)⟩)⟩
   · rw [hck, hpos, k5]; simp
   · rw [hck, hpos, k6]; simp
   have a5 := of_decide_eq_true k5
   have a6 := of_decide_eq_true k6
   rw [w64_id (n := c.Age + c.Brake) (by omega) (by omega), w64_id (n := c.Age + c.Brake + 1) (by omega) (by omega)]
   refine bcnot (fun k7 => ⟨?_, rfl⟩) (fun k7 => (conf_between_ok _ _ _).use ⟨_, rfl, bcnot (fun k8 => ⟨?_, rfl⟩) (fun k8 => ⟨?_, rfl⟩)⟩)
   · rw [hck, hpos, k7]; simp
   · rw [hck, hpos, k8]; simp
   · rw [hck, hpos, k5, k6, k7, k8]; rfl
end
end
end Go.Proofs.YtfdffboelecgoaaGreatDoor
namespace Go.Proofs.YtfdffboelecgoaaGreatDoor
open Go.Shelf Go.Proofs
section
def indexLays_ren : Go.Shelf.Ren := ⟨fun | 143 => 111 | 219 => 138 | 217 => 157 | 225 => 158 | 224 => 159 | 267 => 160 | 266 => 169 | 314 => 170 | n => n, fun | 9 => 9 | 3 => 3 | 4 => 4 | 5 => 5 | 46 => 40 | 146 => 220 | 51 => 175 | n => n, fun | 1 => 2 | n => n⟩
theorem indexLays : Go.Proofs.Lays.n143 Tryz.prog indexLays_ren := {
 mixed := by kernel_rfl
 f143 := Tryz.func111.trans (congrArg some (by kernel_rfl))
 f217 := Tryz.func157.trans (congrArg some (by kernel_rfl))
 f219 := Tryz.func138.trans (congrArg some (by kernel_rfl))
 f224 := Tryz.func159.trans (congrArg some (by kernel_rfl))
 f225 := Tryz.func158.trans (congrArg some (by kernel_rfl))
 f266 := Tryz.func169.trans (congrArg some (by kernel_rfl))
 f267 := Tryz.func160.trans (congrArg some (by kernel_rfl))
 f314 := Tryz.func170.trans (congrArg some (by kernel_rfl))
 t3 := Tryz.underlying3
 a3 := Tryz.isAgg3
 z3 := Tryz.sizeOf3
 v3 := Tryz.zeroValue3
 t4 := Tryz.underlying4
 a4 := Tryz.isAgg4
 z4 := Tryz.sizeOf4
 v4 := Tryz.zeroValue4
 t5 := Tryz.underlying5
 a5 := Tryz.isAgg5
 z5 := Tryz.sizeOf5
 v5 := Tryz.zeroValue5
 t9 := Tryz.underlying9
 a9 := Tryz.isAgg9
 z9 := Tryz.sizeOf9
 v9 := Tryz.zeroValue9
 t46 := Tryz.underlying40
 a46 := Tryz.isAgg40
 z46 := Tryz.sizeOf40
 v46 := Tryz.zeroValue40
 t51 := Tryz.underlying175
 a51 := Tryz.isAgg175
 z51 := Tryz.sizeOf175
 v51 := Tryz.zeroValue175
 t146 := Tryz.underlying220
 a146 := Tryz.isAgg220
 z146 := Tryz.sizeOf220
 v146 := Tryz.zeroValue220
 g1 := by kernel_rfl }
end
section
def splitLays_ren : Go.Shelf.Ren := ⟨fun | 221 => 88 | 268 => 112 | 138 => 113 | 143 => 111 | 195 => 139 | 197 => 110 | 218 => 140 | 219 => 138 | 260 => 137 | 217 => 157 | 225 => 158 | 224 => 159 | 267 => 160 | 266 => 169 | 314 => 170 | n => n, fun | 9 => 9 | 3 => 3 | 31 => 95 | 4 => 4 | 0 => 0 | 105 => 160 | 21 => 21 | 5 => 5 | 46 => 40 | 119 => 204 | 139 => 207 | 138 => 206 | 146 => 220 | 51 => 175 | n => n, fun | 1 => 2 | 3 => 0 | 4 => 1 | n => n⟩
theorem splitLays : Go.Proofs.Lays.n221 Tryz.prog splitLays_ren := {
 mixed := by kernel_rfl
 f138 := Tryz.func113.trans (congrArg some (by kernel_rfl))
 f143 := Tryz.func111.trans (congrArg some (by kernel_rfl))
 f195 := Tryz.func139.trans (congrArg some (by kernel_rfl))
 f197 := Tryz.func110.trans (congrArg some (by kernel_rfl))
 f217 := Tryz.func157.trans (congrArg some (by kernel_rfl))
 f218 := Tryz.func140.trans (congrArg some (by kernel_rfl))
 f219 := Tryz.func138.trans (congrArg some (by kernel_rfl))
 f221 := Tryz.func88.trans (congrArg some (by kernel_rfl))
 f224 := Tryz.func159.trans (congrArg some (by kernel_rfl))
 f225 := Tryz.func158.trans (congrArg some (by kernel_rfl))
 f260 := Tryz.func137.trans (congrArg some (by kernel_rfl))
 f266 := Tryz.func169.trans (congrArg some (by kernel_rfl))
 f267 := Tryz.func160.trans (congrArg some (by kernel_rfl))
 f268 := Tryz.func112.trans (congrArg some (by kernel_rfl))
 f314 := Tryz.func170.trans (congrArg some (by kernel_rfl))
 t0 := Tryz.underlying0
 a0 := Tryz.isAgg0
 z0 := Tryz.sizeOf0
 v0 := Tryz.zeroValue0
 t3 := Tryz.underlying3
 a3 := Tryz.isAgg3
 z3 := Tryz.sizeOf3
 v3 := Tryz.zeroValue3
 t4 := Tryz.underlying4
 a4 := Tryz.isAgg4
 z4 := Tryz.sizeOf4
 v4 := Tryz.zeroValue4
 t5 := Tryz.underlying5
 a5 := Tryz.isAgg5
 z5 := Tryz.sizeOf5
 v5 := Tryz.zeroValue5
 t9 := Tryz.underlying9
 a9 := Tryz.isAgg9
 z9 := Tryz.sizeOf9
 v9 := Tryz.zeroValue9
 t21 := Tryz.underlying21
 a21 := Tryz.isAgg21
 z21 := Tryz.sizeOf21
 v21 := Tryz.zeroValue21
 t31 := Tryz.underlying95
 a31 := Tryz.isAgg95
 z31 := Tryz.sizeOf95
 v31 := Tryz.zeroValue95
 t46 := Tryz.underlying40
 a46 := Tryz.isAgg40
 z46 := Tryz.sizeOf40
 v46 := Tryz.zeroValue40
 t51 := Tryz.underlying175
 a51 := Tryz.isAgg175
 z51 := Tryz.sizeOf175
 v51 := Tryz.zeroValue175
 t105 := Tryz.underlying160
 a105 := Tryz.isAgg160
 z105 := Tryz.sizeOf160
 v105 := Tryz.zeroValue160
 t119 := Tryz.underlying204
 a119 := Tryz.isAgg204
 z119 := Tryz.sizeOf204
 t138 := Tryz.underlying206
 a138 := Tryz.isAgg206
 z138 := Tryz.sizeOf206
 v138 := Tryz.zeroValue206
 t139 := Tryz.underlying207
 a139 := Tryz.isAgg207
 z139 := Tryz.sizeOf207
 v139 := Tryz.zeroValue207
 t146 := Tryz.underlying220
 a146 := Tryz.isAgg220
 z146 := Tryz.sizeOf220
 v146 := Tryz.zeroValue220
 g1 := by kernel_rfl
 g3 := by kernel_rfl
 g4 := by kernel_rfl }
end
end Go.Proofs.YtfdffboelecgoaaGreatDoor
