/-
  Proofs that the statement of this claim leans on: part 4.
-/
import Derived.Test.YtdmfnhbmhkgemaaGreatP3
set_option linter.unusedVariables false
set_option linter.unusedSimpArgs false
section
set_option maxRecDepth 100000
namespace Go.Proofs.YtdmfnhbmhkgemaaGreat
open Go.Fw Go.Proofs
def a_ep:Ann:= { frz:= [5,7,9,11,13,36] }
def a_h9 (σ:Store)(Qp:RV→Store→Prop) :Prop:=
 DCalls Tryz.prog h_d [.agg [.sl 3 [[iD 0,iD 0,iD 0],[iD 0,iD 0,iD 0]], .sl 4 [[iD 0,iD 1,iD 1,iD 0]], .sl 2 [[iD 0,iD 1]], .nils, .sl 6 [[iD 0,iD (-1), .sl 3 [[iD 1,iD 0,iD 1]], .nils, .nils, .bool false]],iD 2,iD 1,iD 4,iD 1000],iA 0] σ (fun r Z=>∃d d1 d2 d3 d4 d5:D,∃b:Bool,(r=(.a (.agg [d,d1,d2,d3,d4,d5, .bool b]) :RV))∧∃len:Nat,(Len d len)∧a_b ((len:Int) != 2) (Qp (.a (bA false)) Z) (DCalls Tryz.prog g_m [.agg [.sl 3 [[iD 0,iD 0,iD 0],[iD 0,iD 0,iD 0]], .sl 4 [[iD 0,iD 1,iD 1,iD 0]], .sl 2 [[iD 0,iD 1]], .nils, .sl 6 [[iD 0,iD (-1), .sl 3 [[iD 1,iD 0,iD 1]], .nils, .nils, .bool false]],iD 2,iD 1,iD 4,iD 1000], .agg [d,d1,d2,d3,d4,d5, .bool b]] Z (fun r1 Z1=>∃d6:D,(r1=(.a (.one d6) :RV))∧∃len1:Nat,(Len d6 len1)∧a_b ((len1:Int) != 0) (Qp (.a (bA false)) Z1) (∃len2:Nat,(Idx Tryz.prog Z1 d 1 len2)∧((0:Int)≤1)∧((1:Int) < (len2:Int))∧a_j [iD 1] Z1 d 1 0 (fun Z2=>DCalls Tryz.prog g_m [.agg [.sl 3 [[iD 0,iD 0,iD 0],[iD 0,iD 0,iD 0]], .sl 4 [[iD 0,iD 1,iD 1,iD 0]], .sl 2 [[iD 0,iD 1]], .nils, .sl 6 [[iD 0,iD (-1), .sl 3 [[iD 1,iD 0,iD 1]], .nils, .nils, .bool false]],iD 2,iD 1,iD 4,iD 1000], .agg [d,d1,d2,d3,d4,d5, .bool b]] Z2 (fun r2 Z3=>∃d7:D,(r2=(.a (.one d7) :RV))∧DCalls Tryz.prog o_w [.one d7, .one (.sl 3 [[iD 3,iD 0,iD 1]])] Z3 (fun r3 Z4=>∃b1:Bool,(r3=(.a (bA b1) :RV))∧Qp (.a (bA b1)) Z4)))))))
theorem a_ii (σ:Store)(Qp:RV→Store→Prop)(h:a_h9 σ Qp) :DCalls Tryz.prog m_y [] σ Qp:=
 a_a mixed (by kernel_rfl) Tryz.func5 a_ep (Eq.mp (by kernel_rfl) h)
def a_il:Ann:= { draws:= [(6,{ ord:= [0,1,2,3,4,5,6,7,8],nb:= [],av:= [],dir:= [] })],loops:= [(4,{ mods:= [(13,s6)],keep:= [0,1,12] })] }
def a_kt (a b:D)(σ:Store)(Qp:RV→Store→Prop) :Prop:=
 ∃len:Nat,(Len a len)∧∃len1:Nat,(Len b len1)∧a_b ((len:Int) !=(len1:Int)) (Qp (.a (bA false)) σ) (∃len2:Nat,(Len a len2)∧∃I:Int→Store→Prop,∃μ:Int→Store→Nat,(I 0 σ)∧∀n:Int,∀Z,(I n Z)→a_b (decide (n < (len2:Int))) (∃len3:Nat,(Idx Tryz.prog Z a 3 len3)∧((0:Int)≤n)∧(n < (len3:Int))∧∃row:List D,(Row Z a (Int.toNat n) row)∧∃n1 n2 n3:Int,((List.take 3 row) =([iD n1,iD n2,iD n3]:List D))∧∃len4:Nat,(Idx Tryz.prog Z b 3 len4)∧((0:Int)≤n)∧(n < (len4:Int))∧∃row1:List D,(Row Z b (Int.toNat n) row1)∧∃n4 n5 n6:Int,((List.take 3 row1) =([iD n4,iD n5,iD n6]:List D))∧a_b (!((n1 == n4) && ((n2 == n5) && (n3 == n6)))) (Qp (.a (bA false)) Z) ((I (w64 (n+1)) Z)∧((μ (w64 (n+1)) Z) < (μ n Z)))) (Qp (.a (bA true)) Z))
theorem a_k0 (a b:D)(σ:Store)(Qp:RV→Store→Prop)(h:a_kt a b σ Qp) :DCalls Tryz.prog o_w [.one a, .one b] σ Qp:=
 a_a mixed (by kernel_rfl) Tryz.func13 a_il (Eq.mp (by kernel_rfl) h)
def a_hb:Ann:= { cbs:= [2,3],draws:= [(4,{ ord:= [0,1,2,3,4,5],nb:= [],av:= [],dir:= [] }),(12,{ ord:= [0,1,3,4,5,6,2,7,8,9,10,11,12],nb:= [4,6],av:= [],dir:= [] }),(19,{ ord:= [0,1,2,3,4,5],nb:= [],av:= [],dir:= [] })],loops:= [(7,{ mods:= [(6,s6),(7,s6),(8,SlotSh.one (Sh.any)),(72,s6)],keep:= [2,3,70,71] })],joins:= [(3,{ mods:= [],keep:= [2,3] }),(20,{ mods:= [(6,s6),(7,s6),(8,SlotSh.one (Sh.any))],keep:= [2,3,70,71,72] }),(12,{ mods:= [],keep:= [2,3,8,9,10,11,70,71,72] }),(16,{ mods:= [(16,s6)],keep:= [2,3,8,10,11,15,70,71,72] }),(18,{ mods:= [],keep:= [2,3,8,10,11,70,71,72] })] }
def a_ll (c0 c1 c2 c3 c4:D)(c5 c6 c7 c8 r0 r1:Int)(r2 r3 r4:D)(r5:Bool)(σ:Store)(Qp:RV→Store→Prop) :Prop:=
 ∀R:Store→Prop,(∀Z,(∃len:Nat,(Idx Tryz.prog Z c2 2 len)∧((0:Int)≤r0)∧(r0 < (len:Int))∧∃row:List D,(Row Z c2 (Int.toNat r0) row)∧∃n n1:Int,((List.take 2 row) =([iD n,iD n1]:List D))∧Fw.newObj Z (.live a_h [[iD n]]) (fun id Z1=>∃len1:Nat,(Len r2 len1)∧∃I:Int→Int→D→Int→Store→Prop,∃μ:Int→Int→D→Int→Store→Nat,(I n n1 (.osl id 0 1) 0 Z1)∧∀n2 n3:Int,∀d:D,∀n4:Int,∀Z2,(I n2 n3 d n4 Z2)→a_b (decide (n4 < (len1:Int))) (∀R1:Int→Int→D→Store→Prop,(∀n5 n6:Int,∀d1:D,∀Z3,((I n5 n6 d1 (w64 (n4+1)) Z3)∧((μ n5 n6 d1 (w64 (n4+1)) Z3) < (μ n2 n3 d n4 Z2)))→R1 n5 n6 d1 Z3)→∃len2:Nat,(Idx Tryz.prog Z2 r2 3 len2)∧((0:Int)≤n4)∧(n4 < (len2:Int))∧∃row1:List D,(Row Z2 r2 (Int.toNat n4) row1)∧∃n5 n6 n7:Int,((List.take 3 row1) =([iD n5,iD n6,iD n7]:List D))∧DCalls Tryz.prog e_u [.one c1,iA n2,iA n3] Z2 (fun r Z3=>∃n8 n9:Int,∃b:Bool,(r=(.tup [iA n8,iA n9,bA b]:RV))∧∀R2:Store→Prop,(∀Z4,(DCalls Tryz.prog f_y [.agg [c0,c1,c2,c3,c4,iD c5,iD c6,iD c7,iD c8],iA n8] Z4 (fun r6 Z5=>∃n10:Int,(r6=(.a (iA n10) :RV))∧DCalls Tryz.prog q_n [iA n10,iA n6,iA n7] Z5 (fun r7 Z6=>∃n11:Int,∃b1:Bool,(r7=(.tup [iA n11,bA b1]:RV))∧∀R3:Int→Store→Prop,(∀n12:Int,∀Z7,(∀R4:Store→Prop,(∀Z8,(Fw.newObj Z8 (.live a_h [[iD n8]]) (fun id1 Z9=>a_z Tryz.prog Z9 a_h 8 d (.osl id1 0 1) (fun d1 Z10=>R1 n5 n7 d1 Z10)))→R4 Z8)→a_b (!b1) (Qp (.a (bA false)) Z7) (DCalls Tryz.prog p_c [.agg [c0,c1,c2,c3,c4,iD c5,iD c6,iD c7,iD c8],iA n5,iA n7,iA n12] Z7 (fun r8 Z8=>∃b2:Bool,(r8=(.a (bA b2) :RV))∧a_b b2 (Qp (.a (bA false)) Z8) (a_b r5 (∃len3:Nat,(Idx Tryz.prog Z8 c0 3 len3)∧((0:Int)≤n8)∧(n8 < (len3:Int))∧∃row2:List D,(Row Z8 c0 (Int.toNat n8) row2)∧∃n13:Int,((List.take 1 (List.drop 2 row2)) =([iD n13]:List D))∧a_b (n13 != 0) (Qp (.a (bA false)) Z8) ((([[iD n5,iD n6,iD n7]]:List (List D)) =([[iD n5,iD n6,iD n7]]:List (List D)))∧R4 Z8)) ((([[iD n5,iD n6,iD n7]]:List (List D)) =([[iD n5,iD n6,iD n7]]:List (List D)))∧R4 Z8)))))→R3 n12 Z7)→∃len3:Nat,(Len r2 len3)∧a_b (n4 ==(w64 ((len3:Int) - 1))) ((([[iD n5,iD n6,iD n7]]:List (List D)) =([[iD n5,iD n6,iD n7]]:List (List D)))∧R3 r1 Z6) ((([[iD n5,iD n6,iD n7]]:List (List D)) =([[iD n5,iD n6,iD n7]]:List (List D)))∧R3 (-1) Z6))))→R2 Z4)→a_b (!b) (Qp (.a (bA false)) Z3) (a_b (n8 != n5) (Qp (.a (bA false)) Z3) (a_b (n9 != n6) (Qp (.a (bA false)) Z3) (DCalls Tryz.prog d_o [.one d,iA n8] Z3 (fun r6 Z4=>∃b1:Bool,(r6=(.a (bA b1) :RV))∧a_b b1 (Qp (.a (bA false)) Z4) ((([[iD n5,iD n6,iD n7]]:List (List D)) =([[iD n5,iD n6,iD n7]]:List (List D)))∧R2 Z4))))))) (a_b (decide (r1≥0)) (∃len2:Nat,(Idx Tryz.prog Z2 c2 2 len2)∧((0:Int)≤r1)∧(r1 < (len2:Int))∧∃row1:List D,(Row Z2 c2 (Int.toNat r1) row1)∧∃n5 n6:Int,((List.take 2 row1) =([iD n5,iD n6]:List D))∧Qp (.a (.one (.bool ((n5 == n2) && (n6 == n3))))) Z2) (DCalls Tryz.prog e_u [.one c1,iA n2,iA n3] Z2 (fun r Z3=>∃n5 n6:Int,∃b:Bool,(r=(.tup [iA n5,iA n6,bA b]:RV))∧Qp (.a (bA (!b))) Z3)))))→R Z)→a_b (decide (r0 < 0)) (Qp (.a (bA false)) σ) (∃len:Nat,(Len c2 len)∧a_b (decide (r0≥(len:Int))) (Qp (.a (bA false)) σ) (a_b (decide (r1 < (-1))) (Qp (.a (bA false)) σ) (∃len1:Nat,(Len c2 len1)∧a_b (decide (r1≥(len1:Int))) (Qp (.a (bA false)) σ) (∃len2:Nat,(Len r2 len2)∧a_b (decide ((len2:Int) < 1)) (Qp (.a (bA false)) σ) (∃len3:Nat,(Len r2 len3)∧a_b (decide ((len3:Int) > 8)) (Qp (.a (bA false)) σ) (R σ))))))
theorem a_kk (c0 c1 c2 c3 c4:D)(c5 c6 c7 c8 r0 r1:Int)(r2 r3 r4:D)(r5:Bool)(σ:Store)(Qp:RV→Store→Prop)(h:a_ll c0 c1 c2 c3 c4 c5 c6 c7 c8 r0 r1 r2 r3 r4 r5 σ Qp) :DCalls Tryz.prog p_d [.agg [c0,c1,c2,c3,c4,iD c5,iD c6,iD c7,iD c8], .agg [iD r0,iD r1,r2,r3,r4, .bool r5]] σ Qp:=
 a_a mixed (by kernel_rfl) Tryz.func17 a_hb (Eq.mp (by kernel_rfl) h)
def x_e:Ann:= { draws:= [(6,{ ord:= [0,1,2,3,4,5,6,7,8],nb:= [],av:= [],dir:= [] })],loops:= [(4,{ mods:= [(13,s6)],keep:= [0,1,12] })] }
def z_n (a b:D)(σ:Store)(Qp:RV→Store→Prop) :Prop:=
 ∃len:Nat,(Len a len)∧∃len1:Nat,(Len b len1)∧a_b ((len:Int) !=(len1:Int)) (Qp (.a (bA false)) σ) (∃len2:Nat,(Len a len2)∧∃I:Int→Store→Prop,∃μ:Int→Store→Nat,(I 0 σ)∧∀n:Int,∀Z,(I n Z)→a_b (decide (n < (len2:Int))) (∃len3:Nat,(Idx Tryz.prog Z a 1 len3)∧((0:Int)≤n)∧(n < (len3:Int))∧∃row:List D,(Row Z a (Int.toNat n) row)∧∃n1:Int,((List.take 1 row) =([iD n1]:List D))∧∃len4:Nat,(Idx Tryz.prog Z b 1 len4)∧((0:Int)≤n)∧(n < (len4:Int))∧∃row1:List D,(Row Z b (Int.toNat n) row1)∧∃n2:Int,((List.take 1 row1) =([iD n2]:List D))∧a_b (n1 != n2) (Qp (.a (bA false)) Z) ((I (w64 (n+1)) Z)∧((μ (w64 (n+1)) Z) < (μ n Z)))) (Qp (.a (bA true)) Z))
theorem a_au (a b:D)(σ:Store)(Qp:RV→Store→Prop)(h:z_n a b σ Qp) :DCalls Tryz.prog i_m [.one a, .one b] σ Qp:=
 a_a mixed (by kernel_rfl) Tryz.func21 x_e (Eq.mp (by kernel_rfl) h)
def a_bb:Ann:= { esc:= [6,7],cbs:= [4,5] }
def a_de (c0 c1 c2 c3 c4:D)(c5 c6 c7 c8:Int)(k0 k1 k2 k3 k4 k5:D)(k6:Bool)(now r:Int)(σ:Store)(Qp:RV→Store→Prop) :Prop:=
 Fw.newObj σ (.live a_h [[iD now]]) (fun id Z=>Fw.newObj Z (.live a_h [[iD r]]) (fun id1 Z1=>∃row:List D,(Row Z1 (.osl id 0 1) 0 row)∧∃n:Int,((List.take 1 row) =([iD n]:List D))∧DCalls Tryz.prog e_l [.agg [c0,c1,c2,c3,c4,iD c5,iD c6,iD c7,iD c8], .agg [k0,k1,k2,k3,k4,k5, .bool k6],iA n, .one (.fn l_2 [] [(false,[.el (.osl id 0 1) 0 0]),(false,[.el (.osl id1 0 1) 0 0])])] Z1 (fun r1 Z2=>∃d d1 d2 d3 d4 d5:D,∃b:Bool,∃n1:Int,(r1=(.tup [.agg [d,d1,d2,d3,d4,d5, .bool b],iA n1]:RV))∧Qp (.tup [.agg [d,d1,d2,d3,d4,d5, .bool b],iA n1]) Z2)))
theorem a_dt (c0 c1 c2 c3 c4:D)(c5 c6 c7 c8:Int)(k0 k1 k2 k3 k4 k5:D)(k6:Bool)(now r:Int)(σ:Store)(Qp:RV→Store→Prop)(h:a_de c0 c1 c2 c3 c4 c5 c6 c7 c8 k0 k1 k2 k3 k4 k5 k6 now r σ Qp) :DCalls Tryz.prog j_h [.agg [c0,c1,c2,c3,c4,iD c5,iD c6,iD c7,iD c8], .agg [k0,k1,k2,k3,k4,k5, .bool k6],iA now,iA r] σ Qp:=
 a_a mixed (by kernel_rfl) Tryz.func25 a_bb (Eq.mp (by kernel_rfl) h)
def a_ex:Ann:= { esc:= [7,6],cbs:= [4,5] }
def a_hs (c0 c1 c2 c3 c4:D)(c5 c6 c7 c8:Int)(k0 k1 k2 k3 k4 k5:D)(k6:Bool)(now section_:Int)(σ:Store)(Qp:RV→Store→Prop) :Prop:=
 Fw.newObj σ (.live a_h [[iD now]]) (fun id Z=>Fw.newObj Z (.live a_h [[iD section_]]) (fun id1 Z1=>∃row:List D,(Row Z1 (.osl id 0 1) 0 row)∧∃n:Int,((List.take 1 row) =([iD n]:List D))∧DCalls Tryz.prog e_l [.agg [c0,c1,c2,c3,c4,iD c5,iD c6,iD c7,iD c8], .agg [k0,k1,k2,k3,k4,k5, .bool k6],iA n, .one (.fn p_j [] [(false,[.el (.osl id1 0 1) 0 0]),(false,[.el (.osl id 0 1) 0 0])])] Z1 (fun r Z2=>∃d d1 d2 d3 d4 d5:D,∃b:Bool,∃n1:Int,(r=(.tup [.agg [d,d1,d2,d3,d4,d5, .bool b],iA n1]:RV))∧Qp (.tup [.agg [d,d1,d2,d3,d4,d5, .bool b],iA n1]) Z2)))
theorem a_h4 (c0 c1 c2 c3 c4:D)(c5 c6 c7 c8:Int)(k0 k1 k2 k3 k4 k5:D)(k6:Bool)(now section_:Int)(σ:Store)(Qp:RV→Store→Prop)(h:a_hs c0 c1 c2 c3 c4 c5 c6 c7 c8 k0 k1 k2 k3 k4 k5 k6 now section_ σ Qp) :DCalls Tryz.prog m_0 [.agg [c0,c1,c2,c3,c4,iD c5,iD c6,iD c7,iD c8], .agg [k0,k1,k2,k3,k4,k5, .bool k6],iA now,iA section_] σ Qp:=
 a_a mixed (by kernel_rfl) Tryz.func29 a_ex (Eq.mp (by kernel_rfl) h)
def a_ht:Ann:= { cbs:= [2,3],draws:= [(6,{ ord:= [0,1,2,3,4,5,6,7,8,9,10],nb:= [],av:= [],dir:= [] }),(12,{ ord:= [0,1,2,3,4,5,6,7,8,9,10],nb:= [],av:= [],dir:= [] }),(18,{ ord:= [0,1,2,3,4,5,6,7,8,9,10],nb:= [],av:= [],dir:= [] }),(24,{ ord:= [0,1,2,3,4,5,6,7,8,9,10],nb:= [],av:= [],dir:= [] })],loops:= [(4,{ mods:= [(69,s6)],keep:= [2,3,68] }),(10,{ mods:= [(87,s6)],keep:= [2,3,86] }),(16,{ mods:= [(105,s6)],keep:= [2,3,104] }),(22,{ mods:= [(123,s6)],keep:= [2,3,122] })],joins:= [(3,{ mods:= [],keep:= [2,3] })] }
def a_lw (a0 a1 a2 a3 a4 a5:D)(a6:Bool)(b0 b1 b2 b3 b4 b5:D)(b6:Bool)(σ:Store)(Qp:RV→Store→Prop) :Prop:=
 ∀R:Store→Prop,(∀Z,(∃len:Nat,(Len a1 len)∧∃I:Int→Store→Prop,∃μ:Int→Store→Nat,(I 0 Z)∧∀n:Int,∀Z1,(I n Z1)→a_b (decide (n < (len:Int))) (∃len1:Nat,(Idx Tryz.prog Z1 a1 4 len1)∧((0:Int)≤n)∧(n < (len1:Int))∧∃row:List D,(Row Z1 a1 (Int.toNat n) row)∧∃n1 n2 n3 n4:Int,((List.take 4 row) =([iD n1,iD n2,iD n3,iD n4]:List D))∧∃len2:Nat,(Idx Tryz.prog Z1 b1 4 len2)∧((0:Int)≤n)∧(n < (len2:Int))∧∃row1:List D,(Row Z1 b1 (Int.toNat n) row1)∧∃n5 n6 n7 n8:Int,((List.take 4 row1) =([iD n5,iD n6,iD n7,iD n8]:List D))∧a_b (!((n1 == n5) && ((n2 == n6) && ((n3 == n7) && (n4 == n8))))) (Qp (.a (bA false)) Z1) ((I (w64 (n+1)) Z1)∧((μ (w64 (n+1)) Z1) < (μ n Z1)))) (∃len1:Nat,(Len a2 len1)∧∃I1:Int→Store→Prop,∃μ1:Int→Store→Nat,(I1 0 Z1)∧∀n1:Int,∀Z2,(I1 n1 Z2)→a_b (decide (n1 < (len1:Int))) (∃len2:Nat,(Idx Tryz.prog Z2 a2 2 len2)∧((0:Int)≤n1)∧(n1 < (len2:Int))∧∃row:List D,(Row Z2 a2 (Int.toNat n1) row)∧∃n2 n3:Int,((List.take 2 row) =([iD n2,iD n3]:List D))∧∃len3:Nat,(Idx Tryz.prog Z2 b2 2 len3)∧((0:Int)≤n1)∧(n1 < (len3:Int))∧∃row1:List D,(Row Z2 b2 (Int.toNat n1) row1)∧∃n4 n5:Int,((List.take 2 row1) =([iD n4,iD n5]:List D))∧a_b (!((n2 == n4) && (n3 == n5))) (Qp (.a (bA false)) Z2) ((I1 (w64 (n1+1)) Z2)∧((μ1 (w64 (n1+1)) Z2) < (μ1 n1 Z2)))) (∃len2:Nat,(Len a3 len2)∧∃I2:Int→Store→Prop,∃μ2:Int→Store→Nat,(I2 0 Z2)∧∀n2:Int,∀Z3,(I2 n2 Z3)→a_b (decide (n2 < (len2:Int))) (∃len3:Nat,(Idx Tryz.prog Z3 a3 2 len3)∧((0:Int)≤n2)∧(n2 < (len3:Int))∧∃row:List D,(Row Z3 a3 (Int.toNat n2) row)∧∃n3 n4:Int,((List.take 2 row) =([iD n3,iD n4]:List D))∧∃len4:Nat,(Idx Tryz.prog Z3 b3 2 len4)∧((0:Int)≤n2)∧(n2 < (len4:Int))∧∃row1:List D,(Row Z3 b3 (Int.toNat n2) row1)∧∃n5 n6:Int,((List.take 2 row1) =([iD n5,iD n6]:List D))∧a_b (!((n3 == n5) && (n4 == n6))) (Qp (.a (bA false)) Z3) ((I2 (w64 (n2+1)) Z3)∧((μ2 (w64 (n2+1)) Z3) < (μ2 n2 Z3)))) (∃len3:Nat,(Len a4 len3)∧∃I3:Int→Store→Prop,∃μ3:Int→Store→Nat,(I3 0 Z3)∧∀n3:Int,∀Z4,(I3 n3 Z4)→a_b (decide (n3 < (len3:Int))) (∃len4:Nat,(Idx Tryz.prog Z4 a4 8 len4)∧((0:Int)≤n3)∧(n3 < (len4:Int))∧∃row:List D,(Row Z4 a4 (Int.toNat n3) row)∧∃n4 n5 n6 n7 n8 n9 n10 n11:Int,((List.take 8 row) =([iD n4,iD n5,iD n6,iD n7,iD n8,iD n9,iD n10,iD n11]:List D))∧∃len5:Nat,(Idx Tryz.prog Z4 b4 8 len5)∧((0:Int)≤n3)∧(n3 < (len5:Int))∧∃row1:List D,(Row Z4 b4 (Int.toNat n3) row1)∧∃n12 n13 n14 n15 n16 n17 n18 n19:Int,((List.take 8 row1) =([iD n12,iD n13,iD n14,iD n15,iD n16,iD n17,iD n18,iD n19]:List D))∧a_b (!((n4 == n12) && ((n5 == n13) && ((n6 == n14) && ((n7 == n15) && (((n8 == n16) && ((n9 == n17) && (n10 == n18))) && (n11 == n19))))))) (Qp (.a (bA false)) Z4) ((I3 (w64 (n3+1)) Z4)∧((μ3 (w64 (n3+1)) Z4) < (μ3 n3 Z4)))) (Qp (.a (bA true)) Z4)))))→R Z)→DCalls Tryz.prog f_z [.one a0, .one b0] σ (fun r Z=>∃b:Bool,(r=(.a (bA b) :RV))∧a_b (!b) (Qp (.a (bA false)) Z) (DCalls Tryz.prog f_z [.one a5, .one b5] Z (fun r1 Z1=>∃b7:Bool,(r1=(.a (bA b7) :RV))∧a_b (!b7) (Qp (.a (bA false)) Z1) (a_b (!(a6 == b6)) (Qp (.a (bA false)) Z1) (∃len:Nat,(Len a1 len)∧∃len1:Nat,(Len b1 len1)∧a_b ((len:Int) !=(len1:Int)) (Qp (.a (bA false)) Z1) (∃len2:Nat,(Len a2 len2)∧∃len3:Nat,(Len b2 len3)∧a_b ((len2:Int) !=(len3:Int)) (Qp (.a (bA false)) Z1) (∃len4:Nat,(Len a3 len4)∧∃len5:Nat,(Len b3 len5)∧a_b ((len4:Int) !=(len5:Int)) (Qp (.a (bA false)) Z1) (∃len6:Nat,(Len a4 len6)∧∃len7:Nat,(Len b4 len7)∧a_b ((len6:Int) !=(len7:Int)) (Qp (.a (bA false)) Z1) (R Z1)))))))))
theorem a_lh (a0 a1 a2 a3 a4 a5:D)(a6:Bool)(b0 b1 b2 b3 b4 b5:D)(b6:Bool)(σ:Store)(Qp:RV→Store→Prop)(h:a_lw a0 a1 a2 a3 a4 a5 a6 b0 b1 b2 b3 b4 b5 b6 σ Qp) :DCalls Tryz.prog j_6 [.agg [a0,a1,a2,a3,a4,a5, .bool a6], .agg [b0,b1,b2,b3,b4,b5, .bool b6]] σ Qp:=
 a_a mixed (by kernel_rfl) Tryz.func33 a_ht (Eq.mp (by kernel_rfl) h)
def a_ja:Ann:= { }
def a_mh (n:Int)(σ:Store)(Qp:RV→Store→Prop) :Prop:=
 a_b (decide (n≥0)) (Qp (.a (.one (.bool (decide (n≤4294967295))))) σ) (Qp (.a (bA false)) σ)
theorem a_mt (n:Int)(σ:Store)(Qp:RV→Store→Prop)(h:a_mh n σ Qp) :DCalls Tryz.prog b_r [iA n] σ Qp:=
 a_a mixed (by kernel_rfl) Tryz.func37 a_ja (Eq.mp (by kernel_rfl) h)
def q_a:Ann:= { draws:= [(11,{ ord:= [0,1,2,3,4,5,6,7,8,9,10,11,12,13,14,15,16],nb:= [],av:= [],dir:= [] })],loops:= [(1,{ mods:= [(15,s6)],keep:= [0,13,14] }),(9,{ mods:= [(44,s6)],keep:= [0,2,13,14,15,42,43] }),(15,{ mods:= [(73,s6)],keep:= [0,71,72] })],joins:= [(6,{ mods:= [(4,s6)],keep:= [0,2,3,13,14,15] }),(8,{ mods:= [(4,s6)],keep:= [0,2,3,13,14,15] })] }
def r_3 (j:D)(σ:Store)(Qp:RV→Store→Prop) :Prop:=
 (a_f j)∧∃s:D,∃i off:Nat,(j=(.el s i off:D))∧∃row:List D,(Row σ s i row)∧∃d:D,((List.take 1 (List.drop ((off+7) +4) row)) =([d]:List D))∧∃len:Nat,(Len d len)∧∃I:Int→Store→Prop,∃μ:Int→Store→Nat,(I 0 σ)∧∀n:Int,∀Z,(I n Z)→a_b (decide (n < (len:Int))) (∃len1:Nat,(Idx Tryz.prog Z d 6 len1)∧((0:Int)≤n)∧(n < (len1:Int))∧∃row1:List D,(Row Z d (Int.toNat n) row1)∧∃n1 n2:Int,∃d1 d2 d3:D,∃b:Bool,((List.take 6 row1) =([iD n1,iD n2,d1,d2,d3, .bool b]:List D))∧∃len2:Nat,(Len d1 len2)∧∀R:Int→Store→Prop,(∀n3:Int,∀Z1,(∀R1:Int→Store→Prop,(∀n4:Int,∀Z2,(∃len3:Nat,(IdxN Tryz.prog Z2 d1 3 len3)∧((0:Int)≤n4)∧(n4≤(len3:Int))∧∃len4:Nat,(Len (g_f d1 (Int.toNat n4) len3) len4)∧∃I1:Int→Store→Prop,∃μ1:Int→Store→Nat,(I1 0 Z2)∧∀n5:Int,∀Z3,(I1 n5 Z3)→a_b (decide (n5 < (len4:Int))) (∃len5:Nat,(Idx Tryz.prog Z3 (g_f d1 (Int.toNat n4) len3) 3 len5)∧((0:Int)≤n5)∧(n5 < (len5:Int))∧∃row2:List D,(Row Z3 (g_f d1 (Int.toNat n4) len3) (Int.toNat n5) row2)∧∃n6 n7 n8:Int,((List.take 3 row2) =([iD n6,iD n7,iD n8]:List D))∧(a_f j)∧∃s1:D,∃i1 off1:Nat,(j=(.el s1 i1 off1:D))∧∃row3:List D,(Row Z3 s1 i1 row3)∧∃d4:D,((List.take 1 (List.drop ((off1+0) +0) row3)) =([d4]:List D))∧∃len6:Nat,(Idx Tryz.prog Z3 d4 1 len6)∧((0:Int)≤n6)∧(n6 < (len6:Int))∧∃row4:List D,(Row Z3 d4 (Int.toNat n6) row4)∧∃n9:Int,((List.take 1 row4) =([iD n9]:List D))∧DCalls Tryz.prog a_s [.one j, .one (.bool (n9 !=(w64 (n+1)))),iA 2,iA n,iA n6] Z3 (fun r Z4=>(r=(.tup []:RV))∧(I1 (w64 (n5+1)) Z4)∧((μ1 (w64 (n5+1)) Z4) < (μ1 n5 Z3)))) ((I (w64 (n+1)) Z3)∧((μ (w64 (n+1)) Z3) < (μ n Z))))→R1 n4 Z2)→Fw.newObj Z1 (.live a_h [[iD 4],[iD 5]]) (fun id Z2=>DCalls Tryz.prog d_i [.one j,iA n, .one (.osl id 0 2)] Z2 (fun r Z3=>∃b1:Bool,(r=(.a (bA b1) :RV))∧a_b b1 ((a_f j)∧∃s1:D,∃i1 off1:Nat,(j=(.el s1 i1 off1:D))∧∃row2:List D,(Row Z3 s1 i1 row2)∧∃d4:D,((List.take 1 (List.drop ((off1+0) +1) row2)) =([d4]:List D))∧∃len3:Nat,(Idx Tryz.prog Z3 d4 4 len3)∧((0:Int)≤n)∧(n < (len3:Int))∧∃row3:List D,(Row Z3 d4 (Int.toNat n) row3)∧∃n4:Int,((List.take 1 (List.drop 2 row3)) =([iD n4]:List D))∧(([[iD n1,iD n2,d1,d2,d3, .bool b]]:List (List D)) =([[iD n1,iD n2,d1,d2,d3, .bool b]]:List (List D)))∧R1 n4 Z3) ((([[iD n1,iD n2,d1,d2,d3, .bool b]]:List (List D)) =([[iD n1,iD n2,d1,d2,d3, .bool b]]:List (List D)))∧R1 n3 Z3))))→R n3 Z1)→DCalls Tryz.prog d_t [.one j,iA n] Z (fun r Z1=>∃b1:Bool,(r=(.a (bA b1) :RV))∧a_b b1 ((([[iD n1,iD n2,d1,d2,d3, .bool b]]:List (List D)) =([[iD n1,iD n2,d1,d2,d3, .bool b]]:List (List D)))∧R 0 Z1) ((([[iD n1,iD n2,d1,d2,d3, .bool b]]:List (List D)) =([[iD n1,iD n2,d1,d2,d3, .bool b]]:List (List D)))∧R (len2:Int) Z1))) ((a_f j)∧∃s1:D,∃i1 off1:Nat,(j=(.el s1 i1 off1:D))∧∃row1:List D,(Row Z s1 i1 row1)∧∃d1:D,((List.take 1 (List.drop ((off1+0) +0) row1)) =([d1]:List D))∧∃len1:Nat,(Len d1 len1)∧∃I1:Int→Store→Prop,∃μ1:Int→Store→Nat,(I1 0 Z)∧∀n1:Int,∀Z1,(I1 n1 Z1)→a_b (decide (n1 < (len1:Int))) (∃len2:Nat,(Idx Tryz.prog Z1 d1 1 len2)∧((0:Int)≤n1)∧(n1 < (len2:Int))∧∃row2:List D,(Row Z1 d1 (Int.toNat n1) row2)∧∃n2:Int,((List.take 1 row2) =([iD n2]:List D))∧a_b (decide (n2 > 0)) (Fw.newObj Z1 (.live a_h [[iD 0]]) (fun id Z2=>DCalls Tryz.prog d_i [.one j, .one (iD (w64 (n2 - 1))), .one (.osl id 0 1)] Z2 (fun r Z3=>∃b:Bool,(r=(.a (bA b) :RV))∧DCalls Tryz.prog a_s [.one j,bA b,iA 3, .one (iD (w64 (n2 - 1))),iA n1] Z3 (fun r1 Z4=>(r1=(.tup []:RV))∧(I1 (w64 (n1+1)) Z4)∧((μ1 (w64 (n1+1)) Z4) < (μ1 n1 Z1)))))) (DCalls Tryz.prog a_s [.one j,bA false,iA 3, .one (iD (w64 (n2 - 1))),iA n1] Z1 (fun r Z2=>(r=(.tup []:RV))∧(I1 (w64 (n1+1)) Z2)∧((μ1 (w64 (n1+1)) Z2) < (μ1 n1 Z1))))) (Qp (.tup []) Z1))
theorem r_f (j:D)(σ:Store)(Qp:RV→Store→Prop)(h:r_3 j σ Qp) :DCalls Tryz.prog d_2 [.one j] σ Qp:=
 a_a mixed (by kernel_rfl) Tryz.func45 q_a (Eq.mp (by kernel_rfl) h)
def a_ou:Ann:= { loops:= [(2,{ mods:= [(9,s6)],keep:= [1,7,8] })] }
def a_qt (l:D)(n:Int)(σ:Store)(Qp:RV→Store→Prop) :Prop:=
 ∃len:Nat,(Len l len)∧∃I:Int→Store→Prop,∃μ:Int→Store→Nat,(I 0 σ)∧∀n1:Int,∀Z,(I n1 Z)→a_b (decide (n1 < (len:Int))) (∃len1:Nat,(Idx Tryz.prog Z l 1 len1)∧((0:Int)≤n1)∧(n1 < (len1:Int))∧∃row:List D,(Row Z l (Int.toNat n1) row)∧∃n2:Int,((List.take 1 row) =([iD n2]:List D))∧a_b (n2 == n) (Qp (.a (bA true)) Z) ((I (w64 (n1+1)) Z)∧((μ (w64 (n1+1)) Z) < (μ n1 Z)))) (Qp (.a (bA false)) Z)
theorem a_qx (l:D)(n:Int)(σ:Store)(Qp:RV→Store→Prop)(h:a_qt l n σ Qp) :DCalls Tryz.prog v_v [.one l,iA n] σ Qp:=
 a_a mixed (by kernel_rfl) Tryz.func49 a_ou (Eq.mp (by kernel_rfl) h)
def a_m0:Ann:= { cbs:= [4],loops:= [(2,{ mods:= [(14,s6)],keep:= [1,2,3,12,13] })] }
def a_qr (c0 c1 c2 c3 c4:D)(c5 c6 c7 c8 section_ end_ but:Int)(σ:Store)(Qp:RV→Store→Prop) :Prop:=
 ∃len:Nat,(Len c2 len)∧∃I:Int→Store→Prop,∃μ:Int→Store→Nat,(I 0 σ)∧∀n:Int,∀Z,(I n Z)→a_b (decide (n < (len:Int))) (∃len1:Nat,(Idx Tryz.prog Z c2 2 len1)∧((0:Int)≤n)∧(n < (len1:Int))∧∃row:List D,(Row Z c2 (Int.toNat n) row)∧∃n1 n2:Int,((List.take 2 row) =([iD n1,iD n2]:List D))∧a_b (n1 == section_) (a_b (n2 == end_) (a_b (n != but) (Qp (.a (bA true)) Z) ((I (w64 (n+1)) Z)∧((μ (w64 (n+1)) Z) < (μ n Z)))) ((I (w64 (n+1)) Z)∧((μ (w64 (n+1)) Z) < (μ n Z)))) ((I (w64 (n+1)) Z)∧((μ (w64 (n+1)) Z) < (μ n Z)))) (Qp (.a (bA false)) Z)
theorem a_qd (c0 c1 c2 c3 c4:D)(c5 c6 c7 c8 section_ end_ but:Int)(σ:Store)(Qp:RV→Store→Prop)(h:a_qr c0 c1 c2 c3 c4 c5 c6 c7 c8 section_ end_ but σ Qp) :DCalls Tryz.prog p_c [.agg [c0,c1,c2,c3,c4,iD c5,iD c6,iD c7,iD c8],iA section_,iA end_,iA but] σ Qp:=
 a_a mixed (by kernel_rfl) Tryz.func53 a_m0 (Eq.mp (by kernel_rfl) h)
def x_w:Ann:= { loops:= [(3,{ mods:= [(3,SlotSh.one (Sh.any)),(8,s6)],keep:= [6,7] })] }
def z_3 (path:D)(σ:Store)(Qp:RV→Store→Prop) :Prop:=
 ∃len:Nat,(Len path len)∧∃I:D→Int→Store→Prop,∃μ:D→Int→Store→Nat,(I .nils 0 σ)∧∀d:D,∀n:Int,∀Z,(I d n Z)→a_b (decide (n < (len:Int))) (∃len1:Nat,(Idx Tryz.prog Z path 3 len1)∧((0:Int)≤n)∧(n < (len1:Int))∧∃row:List D,(Row Z path (Int.toNat n) row)∧∃n1 n2 n3:Int,((List.take 3 row) =([iD n1,iD n2,iD n3]:List D))∧Fw.newObj Z (.live a_h [[iD n1]]) (fun id Z1=>a_z Tryz.prog Z1 a_h 8 d (.osl id 0 1) (fun d1 Z2=>(I d1 (w64 (n+1)) Z2)∧((μ d1 (w64 (n+1)) Z2) < (μ d n Z))))) (Qp (.a (.one d)) Z)
theorem z_4 (path:D)(σ:Store)(Qp:RV→Store→Prop)(h:z_3 path σ Qp) :DCalls Tryz.prog d_j [.one path] σ Qp:=
 a_a mixed (by kernel_rfl) Tryz.func57 x_w (Eq.mp (by kernel_rfl) h)
def a_dd:Ann:= { cbs:= [4,5],joins:= [(7,{ mods:= [(12,s6)],keep:= [4,5,8,10] })] }
def a_fl (c0 c1 c2 c3 c4:D)(c5 c6 c7 c8:Int)(k0 k1 k2 k3 k4 k5:D)(k6:Bool)(now:Int)(do_:D)(σ:Store)(Qp:RV→Store→Prop) :Prop:=
 DCalls Tryz.prog j_2 [.agg [c0,c1,c2,c3,c4,iD c5,iD c6,iD c7,iD c8], .agg [k0,k1,k2,k3,k4,k5, .bool k6]] σ (fun r Z=>∃d:D,∃b:Bool,(r=(.tup [.one d,bA b]:RV))∧∀R:Int→Store→Prop,(∀n:Int,∀Z1,(a_b (n != 0) (DCalls Tryz.prog j_2 [.agg [c0,c1,c2,c3,c4,iD c5,iD c6,iD c7,iD c8], .agg [k0,k1,k2,k3,k4,k5, .bool k6]] Z1 (fun r1 Z2=>∃d1:D,∃b1:Bool,(r1=(.tup [.one d1,bA b1]:RV))∧(a_f d1)∧∃s:D,∃i off:Nat,(d1=(.el s i off:D))∧∃row:List D,(Row Z2 s i row)∧∃d2 d3 d4 d5 d6 d7:D,∃b2:Bool,((List.take 7 (List.drop (off+9) row)) =([d2,d3,d4,d5,d6,d7, .bool b2]:List D))∧Qp (.tup [.agg [d2,d3,d4,d5,d6,d7, .bool b2],iA n]) Z2)) ((a_f d)∧∃s:D,∃i off:Nat,(d=(.el s i off:D))∧∃row:List D,(Row Z1 s i row)∧∃d1 d2 d3 d4 d5 d6:D,∃b1:Bool,((List.take 7 (List.drop (off+9) row)) =([d1,d2,d3,d4,d5,d6, .bool b1]:List D))∧Qp (.tup [.agg [d1,d2,d3,d4,d5,d6, .bool b1],iA 0]) Z1))→R n Z1)→a_b (!b) ((([[.nils, .nils, .nils, .nils, .nils, .nils, .bool false]]:List (List D)) =([[.nils, .nils, .nils, .nils, .nils, .nils, .bool false]]:List (List D)))∧R 21 Z) (Fw.newObj Z (.live a_h [[iD now]]) (fun id Z1=>DCalls Tryz.prog d_h [iA 0, .one (.osl id 0 1)] Z1 (fun r1 Z2=>∃b1:Bool,(r1=(.a (bA b1) :RV))∧a_b (!b1) ((([[.nils, .nils, .nils, .nils, .nils, .nils, .bool false]]:List (List D)) =([[.nils, .nils, .nils, .nils, .nils, .nils, .bool false]]:List (List D)))∧R 32 Z2) (∃f:FuncId,∃a:List (Bool × (List D)),∃b2:List (Bool × (List D)),∃as0':List A,∃bs:List A,(do_=(.fn f a b2:D))∧((f_p a) =(Option.some as0'))∧((f_p b2) =(Option.some bs))∧DCalls Tryz.prog f (HAppend.hAppend (HAppend.hAppend as0' [.one d]) bs) Z2 (fun r2 Z3=>∃n:Int,(r2=(.a (iA n) :RV))∧(([[.nils, .nils, .nils, .nils, .nils, .nils, .bool false]]:List (List D)) =([[.nils, .nils, .nils, .nils, .nils, .nils, .bool false]]:List (List D)))∧R n Z3))))))
theorem a_d3 (c0 c1 c2 c3 c4:D)(c5 c6 c7 c8:Int)(k0 k1 k2 k3 k4 k5:D)(k6:Bool)(now:Int)(do_:D)(σ:Store)(Qp:RV→Store→Prop)(h:a_fl c0 c1 c2 c3 c4 c5 c6 c7 c8 k0 k1 k2 k3 k4 k5 k6 now do_ σ Qp) :DCalls Tryz.prog e_l [.agg [c0,c1,c2,c3,c4,iD c5,iD c6,iD c7,iD c8], .agg [k0,k1,k2,k3,k4,k5, .bool k6],iA now, .one do_] σ Qp:=
 a_a mixed (by kernel_rfl) Tryz.func61 a_dd (Eq.mp (by kernel_rfl) h)
def z_2:Ann:= { draws:= [(1,{ ord:= [0,1,2,3,4,5,6,7,8,9,10],nb:= [],av:= [],dir:= [] }),(3,{ ord:= [0,1,2,3,4,5,6,7,8,9],nb:= [],av:= [],dir:= [] }),(5,{ ord:= [0,1,2,3,4,5,6,7,8,9],nb:= [],av:= [],dir:= [] })] }
def a_cv (d a1 a2:D)(σ:Store)(Qp:RV→Store→Prop) :Prop:=
 ∃s:D,∃i off:Nat,(a1=(.el s i off:D))∧∃row:List D,(Row σ s i row)∧∃n:Int,((List.take 1 (List.drop off row)) =([iD n]:List D))∧(a_f d)∧∃s1:D,∃i1 off1:Nat,(d=(.el s1 i1 off1:D))∧∃row1:List D,(Row σ s1 i1 row1)∧∃d1:D,((List.take 1 (List.drop ((off1+9) +0) row1)) =([d1]:List D))∧∃len:Nat,(Len d1 len)∧DCalls Tryz.prog b_f [iA n,iA 0, .one (iD (w64 ((len:Int) - 1)))] σ (fun r Z=>∃b:Bool,(r=(.a (bA b) :RV))∧a_b (!b) (Qp (.a (iA 20)) Z) ((a_f d)∧∃s2:D,∃i2 off2:Nat,(d=(.el s2 i2 off2:D))∧∃row2:List D,(Row Z s2 i2 row2)∧∃d2:D,((List.take 1 (List.drop ((off2+9) +0) row2)) =([d2]:List D))∧∃s3:D,∃i3 off3:Nat,(a1=(.el s3 i3 off3:D))∧∃row3:List D,(Row Z s3 i3 row3)∧∃n1:Int,((List.take 1 (List.drop off3 row3)) =([iD n1]:List D))∧∃len1:Nat,(Idx Tryz.prog Z d2 1 len1)∧((0:Int)≤n1)∧(n1 < (len1:Int))∧∃row4:List D,(Row Z d2 (Int.toNat n1) row4)∧∃n2:Int,((List.take 1 row4) =([iD n2]:List D))∧a_b (n2 !=(-1)) (Qp (.a (iA 28)) Z) ((a_f d)∧∃s4:D,∃i4 off4:Nat,(d=(.el s4 i4 off4:D))∧∃row5:List D,(Row Z s4 i4 row5)∧∃d3:D,((List.take 1 (List.drop ((off4+9) +5) row5)) =([d3]:List D))∧∃s5:D,∃i5 off5:Nat,(a1=(.el s5 i5 off5:D))∧∃row6:List D,(Row Z s5 i5 row6)∧∃n3:Int,((List.take 1 (List.drop off5 row6)) =([iD n3]:List D))∧∃s6:D,∃i6 off6:Nat,(a2=(.el s6 i6 off6:D))∧∃row7:List D,(Row Z s6 i6 row7)∧∃n4:Int,((List.take 1 (List.drop off6 row7)) =([iD n4]:List D))∧∃len2:Nat,(Idx Tryz.prog Z d3 1 len2)∧((0:Int)≤n3)∧(n3 < (len2:Int))∧a_j [iD (w64 (n4+1))] Z d3 (Int.toNat n3) 0 (fun Z1=>Qp (.a (iA 0)) Z1))))
theorem a_cs (d a1 a2:D)(σ:Store)(Qp:RV→Store→Prop)(h:a_cv d a1 a2 σ Qp) :DCalls Tryz.prog p_j [.one d, .one a1, .one a2] σ Qp:=
 a_a mixed (by kernel_rfl) Tryz.func65 z_2 (Eq.mp (by kernel_rfl) h)
def a_h3:Ann:= { esc:= [17],cbs:= [4,5,6],draws:= [(2,{ ord:= [0,1,2,3,5,6,4,7,8,9,10,11,12,13,14,15],nb:= [6],av:= [],dir:= [] }),(3,{ ord:= [0,1,2,3,4,5,7,8,10,11,13,14,6,9,12,15,16,17,18,19,20,21,22,23,24,25,26,27,28,29,30,31],nb:= [8,11,14],av:= [],dir:= [] })] }
def a_ke (c0 c1 c2 c3 c4:D)(c5 c6 c7 c8:Int)(k0 k1 k2 k3 k4 k5:D)(k6:Bool)(v0 v1 v2 v3:D)(now:Int)(σ:Store)(Qp:RV→Store→Prop) :Prop:=
 Fw.newObj σ (.live j_u [[k0,k1,k2,k3,k4,k5, .bool k6,c0,c1,c2,c3,c4,iD c5,iD c6,iD c7,iD c8,v0,v1,v2,v3,iD now, .bool k6]]) (fun id Z=>DCalls Tryz.prog a_4 [.one k0] Z (fun r Z1=>∃d:D,(r=(.a (.one d) :RV))∧DCalls Tryz.prog b_2 [.one k4] Z1 (fun r1 Z2=>∃d1:D,(r1=(.a (.one d1) :RV))∧a_j [d] Z2 (.osl id 0 1) 0 0 (fun Z3=>a_j [d1] Z3 (.osl id 0 1) 0 4 (fun Z4=>DCalls Tryz.prog b_s [.one k1] Z4 (fun r2 Z5=>∃d2:D,(r2=(.a (.one d2) :RV))∧DCalls Tryz.prog b_b [.one k2] Z5 (fun r3 Z6=>∃d3:D,(r3=(.a (.one d3) :RV))∧DCalls Tryz.prog b_b [.one k3] Z6 (fun r4 Z7=>∃d4:D,(r4=(.a (.one d4) :RV))∧DCalls Tryz.prog a_4 [.one k5] Z7 (fun r5 Z8=>∃d5:D,(r5=(.a (.one d5) :RV))∧a_j [d2] Z8 (.osl id 0 1) 0 1 (fun Z9=>a_j [d3] Z9 (.osl id 0 1) 0 2 (fun Z10=>a_j [d4] Z10 (.osl id 0 1) 0 3 (fun Z11=>a_j [d5] Z11 (.osl id 0 1) 0 5 (fun Z12=>Qp (.a (.one (.el (.osl id 0 1) 0 0))) Z12)))))))))))))
theorem a_mv (c0 c1 c2 c3 c4:D)(c5 c6 c7 c8:Int)(k0 k1 k2 k3 k4 k5:D)(k6:Bool)(v0 v1 v2 v3:D)(now:Int)(σ:Store)(Qp:RV→Store→Prop)(h:a_ke c0 c1 c2 c3 c4 c5 c6 c7 c8 k0 k1 k2 k3 k4 k5 k6 v0 v1 v2 v3 now σ Qp) :DCalls Tryz.prog b_o [.agg [c0,c1,c2,c3,c4,iD c5,iD c6,iD c7,iD c8], .agg [k0,k1,k2,k3,k4,k5, .bool k6], .agg [v0,v1,v2,v3],iA now] σ Qp:=
 a_a mixed (by kernel_rfl) Tryz.func69 a_h3 (Eq.mp (by kernel_rfl) h)
def a_cz:Ann:= { esc:= [65],cbs:= [4,5,6],draws:= [(3,{ ord:= [0,1,2,3,5,6,7,4,8,9,10],nb:= [0,2,7],av:= [],dir:= [] })],loops:= [(5,{ mods:= [(69,s6)],keep:= [10,67,68] }),(9,{ mods:= [(13,SlotSh.one (Sh.any)),(76,s6)],keep:= [10,67,68,69,74,75] })],joins:= [(3,{ mods:= [],keep:= [3,4,5,6] })] }
def a_f1 (c0 c1 c2 c3 c4:D)(c5 c6 c7 c8:Int)(k0 k1 k2 k3 k4 k5:D)(k6:Bool)(v0 v1 v2 v3:D)(now:Int)(σ:Store)(Qp:RV→Store→Prop) :Prop:=
 ∀R:Store→Prop,(∀Z,(DCalls Tryz.prog c_2 [.agg [k0,k1,k2,k3,k4,k5, .bool k6]] Z (fun r Z1=>∃d d1 d2 d3 d4 d5:D,∃b:Bool,(r=(.a (.agg [d,d1,d2,d3,d4,d5, .bool b]) :RV))∧Fw.newObj Z1 (.live a_n [[v0,v1,v2,v3,c0,c1,c2,c3,c4,iD c5,iD c6,iD c7,iD c8,d,d1,d2,d3,d4,d5, .bool b,iD now, .bool k6, .nils]]) (fun id Z2=>∃len:Nat,(Len c4 len)∧∃I:Int→Store→Prop,∃μ:Int→Store→Nat,(I 0 Z2)∧∀n:Int,∀Z3,(I n Z3)→a_b (decide (n < (len:Int))) (∃len1:Nat,(Idx Tryz.prog Z3 c4 6 len1)∧((0:Int)≤n)∧(n < (len1:Int))∧∃row:List D,(Row Z3 c4 (Int.toNat n) row)∧∃n1 n2:Int,∃d6 d7 d8:D,∃b1:Bool,((List.take 6 row) =([iD n1,iD n2,d6,d7,d8, .bool b1]:List D))∧∃len2:Nat,(Len d6 len2)∧∃I1:D→Int→Store→Prop,∃μ1:D→Int→Store→Nat,(I1 .nils 0 Z3)∧∀d9:D,∀n3:Int,∀Z4,(I1 d9 n3 Z4)→a_b (decide (n3 < (len2:Int))) (∃len3:Nat,(Idx Tryz.prog Z4 d6 3 len3)∧((0:Int)≤n3)∧(n3 < (len3:Int))∧∃row1:List D,(Row Z4 d6 (Int.toNat n3) row1)∧∃n4 n5 n6:Int,((List.take 3 row1) =([iD n4,iD n5,iD n6]:List D))∧Fw.newObj Z4 (.live a_h [[iD n4]]) (fun id1 Z5=>a_z Tryz.prog Z5 a_h 8 d9 (.osl id1 0 1) (fun d10 Z6=>(I1 d10 (w64 (n3+1)) Z6)∧((μ1 d10 (w64 (n3+1)) Z6) < (μ1 d9 n3 Z4))))) (∃row1:List D,(Row Z4 (.osl id 0 1) 0 row1)∧∃d10:D,((List.take 1 (List.drop 22 row1)) =([d10]:List D))∧Fw.newObj Z4 (.live m_7 [[d9]]) (fun id1 Z5=>a_z Tryz.prog Z5 m_7 24 d10 (.osl id1 0 1) (fun d11 Z6=>a_j [d11] Z6 (.osl id 0 1) 0 22 (fun Z7=>(I (w64 (n+1)) Z7)∧((μ (w64 (n+1)) Z7) < (μ n Z3))))))) (Qp (.tup [.one (.el (.osl id 0 1) 0 0),bA true]) Z3))))→R Z)→DCalls Tryz.prog d_3 [.agg [c0,c1,c2,c3,c4,iD c5,iD c6,iD c7,iD c8], .agg [k0,k1,k2,k3,k4,k5, .bool k6]] σ (fun r Z=>∃b:Bool,(r=(.a (bA b) :RV))∧a_b (!b) (Qp (.tup [.one .nilp,bA false]) Z) (∃len:Nat,(Len v0 len)∧∃len1:Nat,(Len c0 len1)∧a_b ((len:Int) !=(len1:Int)) (Qp (.tup [.one .nilp,bA false]) Z) (∃len2:Nat,(Len v1 len2)∧∃len3:Nat,(Len c0 len3)∧a_b ((len2:Int) !=(len3:Int)) (Qp (.tup [.one .nilp,bA false]) Z) (∃len4:Nat,(Len v2 len4)∧∃len5:Nat,(Len c3 len5)∧a_b ((len4:Int) !=(len5:Int)) (Qp (.tup [.one .nilp,bA false]) Z) (∃len6:Nat,(Len v3 len6)∧∃len7:Nat,(Len c2 len7)∧a_b ((len6:Int) !=(len7:Int)) (Qp (.tup [.one .nilp,bA false]) Z) (R Z))))))
theorem a_fg (c0 c1 c2 c3 c4:D)(c5 c6 c7 c8:Int)(k0 k1 k2 k3 k4 k5:D)(k6:Bool)(v0 v1 v2 v3:D)(now:Int)(σ:Store)(Qp:RV→Store→Prop)(h:a_f1 c0 c1 c2 c3 c4 c5 c6 c7 c8 k0 k1 k2 k3 k4 k5 k6 v0 v1 v2 v3 now σ Qp) :DCalls Tryz.prog k_3 [.agg [c0,c1,c2,c3,c4,iD c5,iD c6,iD c7,iD c8], .agg [k0,k1,k2,k3,k4,k5, .bool k6], .agg [v0,v1,v2,v3],iA now] σ Qp:=
 a_a mixed (by kernel_rfl) Tryz.func73 a_cz (Eq.mp (by kernel_rfl) h)
def o_g:Ann:= { loops:= [(1,{ mods:= [(10,s6)],keep:= [0,8,9] })] }
def p_z (x:D)(σ:Store)(Qp:RV→Store→Prop) :Prop:=
 (a_f x)∧∃s:D,∃i off:Nat,(x=(.el s i off:D))∧∃row:List D,(Row σ s i row)∧∃d:D,((List.take 1 (List.drop ((off+13) +5) row)) =([d]:List D))∧∃len:Nat,(Len d len)∧∃I:Int→Store→Prop,∃μ:Int→Store→Nat,(I 0 σ)∧∀n:Int,∀Z,(I n Z)→a_b (decide (n < (len:Int))) (∃len1:Nat,(Idx Tryz.prog Z d 1 len1)∧((0:Int)≤n)∧(n < (len1:Int))∧∃row1:List D,(Row Z d (Int.toNat n) row1)∧∃n1:Int,((List.take 1 row1) =([iD n1]:List D))∧a_b (decide (n1≤0)) ((I (w64 (n+1)) Z)∧((μ (w64 (n+1)) Z) < (μ n Z))) ((a_f x)∧∃s1:D,∃i1 off1:Nat,(x=(.el s1 i1 off1:D))∧∃row2:List D,(Row Z s1 i1 row2)∧∃d1:D,((List.take 1 (List.drop ((off1+13) +0) row2)) =([d1]:List D))∧∃len2:Nat,(Idx Tryz.prog Z d1 1 len2)∧((0:Int)≤n)∧(n < (len2:Int))∧∃row3:List D,(Row Z d1 (Int.toNat n) row3)∧∃n2:Int,((List.take 1 row3) =([iD n2]:List D))∧a_b (n2 !=(-1)) ((a_f x)∧∃s2:D,∃i2 off2:Nat,(x=(.el s2 i2 off2:D))∧∃row4:List D,(Row Z s2 i2 row4)∧∃d2:D,((List.take 1 (List.drop ((off2+13) +5) row4)) =([d2]:List D))∧∃len3:Nat,(Idx Tryz.prog Z d2 1 len3)∧((0:Int)≤n)∧(n < (len3:Int))∧a_j [iD 0] Z d2 (Int.toNat n) 0 (fun Z1=>(I (w64 (n+1)) Z1)∧((μ (w64 (n+1)) Z1) < (μ n Z)))) ((a_f x)∧∃s2:D,∃i2 off2:Nat,(x=(.el s2 i2 off2:D))∧Fw.newObj Z (.live a_h [[iD n]]) (fun id Z1=>DCalls Tryz.prog b_8 [.one (.el s2 i2 (off2+0)), .one (.osl id 0 1)] Z1 (fun r Z2=>∃b:Bool,(r=(.a (bA b) :RV))∧a_b b ((a_f x)∧∃s3:D,∃i3 off3:Nat,(x=(.el s3 i3 off3:D))∧∃row4:List D,(Row Z2 s3 i3 row4)∧∃d2:D,((List.take 1 (List.drop (((off3+0) +0) +0) row4)) =([d2]:List D))∧∃len3:Nat,(Idx Tryz.prog Z2 d2 3 len3)∧((0:Int)≤n)∧(n < (len3:Int))∧∃row5:List D,(Row Z2 d2 (Int.toNat n) row5)∧∃n3:Int,((List.take 1 (List.drop 1 row5)) =([iD n3]:List D))∧a_b (decide (n3≥n1)) (DCalls Tryz.prog c_7 [.one x,iA n] Z2 (fun r1 Z3=>(r1=(.tup []:RV))∧(a_f x)∧∃s4:D,∃i4 off4:Nat,(x=(.el s4 i4 off4:D))∧∃row6:List D,(Row Z3 s4 i4 row6)∧∃d3:D,((List.take 1 (List.drop ((off4+13) +5) row6)) =([d3]:List D))∧∃len4:Nat,(Idx Tryz.prog Z3 d3 1 len4)∧((0:Int)≤n)∧(n < (len4:Int))∧a_j [iD 0] Z3 d3 (Int.toNat n) 0 (fun Z4=>(I (w64 (n+1)) Z4)∧((μ (w64 (n+1)) Z4) < (μ n Z))))) ((I (w64 (n+1)) Z2)∧((μ (w64 (n+1)) Z2) < (μ n Z)))) ((I (w64 (n+1)) Z2)∧((μ (w64 (n+1)) Z2) < (μ n Z)))))))) (Qp (.tup []) Z)
theorem q_b (x:D)(σ:Store)(Qp:RV→Store→Prop)(h:p_z x σ Qp) :DCalls Tryz.prog f_d [.one x] σ Qp:=
 a_a mixed (by kernel_rfl) Tryz.func77 o_g (Eq.mp (by kernel_rfl) h)
def s_w:Ann:= { }
def v_u (w list:D)(σ:Store)(Qp:RV→Store→Prop) :Prop:=
 DCalls Tryz.prog c_8 [.one w,iA 8, .one list] σ (fun r Z=>(r=(.tup []:RV))∧Qp (.tup []) Z)
theorem w_2 (w list:D)(σ:Store)(Qp:RV→Store→Prop)(h:v_u w list σ Qp) :DCalls Tryz.prog g_8 [.one w, .one list] σ Qp:=
 a_a mixed (by kernel_rfl) Tryz.func81 s_w (Eq.mp (by kernel_rfl) h)
def s_0:Ann:= { }
def v_k (r:D)(σ:Store)(Qp:RV→Store→Prop) :Prop:=
 DCalls Tryz.prog c_6 [.one r,iA 2] σ (fun r1 Z=>∃n:Int,(r1=(.a (iA n) :RV))∧Qp (.a (iA n)) Z)
theorem w_0 (r:D)(σ:Store)(Qp:RV→Store→Prop)(h:v_k r σ Qp) :DCalls Tryz.prog g_z [.one r] σ Qp:=
 a_a mixed (by kernel_rfl) Tryz.func85 s_0 (Eq.mp (by kernel_rfl) h)
def a_fr:Ann:= { loops:= [(2,{ mods:= [(9,s6)],keep:= [0,7,8] })] }
def a_hk (beyond:Int)(list:D)(σ:Store)(Qp:RV→Store→Prop) :Prop:=
 ∃len:Nat,(Len list len)∧∃I:Int→Store→Prop,∃μ:Int→Store→Nat,(I 0 σ)∧∀n:Int,∀Z,(I n Z)→a_b (decide (n < (len:Int))) (∃len1:Nat,(Idx Tryz.prog Z list 1 len1)∧((0:Int)≤n)∧(n < (len1:Int))∧∃row:List D,(Row Z list (Int.toNat n) row)∧∃n1:Int,((List.take 1 row) =([iD n1]:List D))∧DCalls Tryz.prog b_f [iA n1,iA 0, .one (iD (w64 (4294967295+beyond)))] Z (fun r Z1=>∃b:Bool,(r=(.a (bA b) :RV))∧a_b (!b) (Qp (.a (bA false)) Z1) ((I (w64 (n+1)) Z1)∧((μ (w64 (n+1)) Z1) < (μ n Z))))) (Qp (.a (bA true)) Z)
theorem a_jb (beyond:Int)(list:D)(σ:Store)(Qp:RV→Store→Prop)(h:a_hk beyond list σ Qp) :DCalls Tryz.prog d_h [iA beyond, .one list] σ Qp:=
 a_a mixed (by kernel_rfl) Tryz.func89 a_fr (Eq.mp (by kernel_rfl) h)
def a_ho:Ann:= { cbs:= [1],loops:= [(11,{ mods:= [(33,s6)],keep:= [1,3,31,32] })] }
def a_kc (c0 c1 c2 c3 c4:D)(c5 c6 c7 c8:Int)(σ:Store)(Qp:RV→Store→Prop) :Prop:=
 DCalls Tryz.prog o_2 [.one c0, .one c1] σ (fun r Z=>∃n:Int,(r=(.a (iA n) :RV))∧a_b (n != 0) (Qp (.a (iA 6)) Z) (DCalls Tryz.prog g_a [.agg [c0,c1,c2,c3,c4,iD c5,iD c6,iD c7,iD c8]] Z (fun r1 Z1=>∃b:Bool,(r1=(.a (bA b) :RV))∧a_b (!b) (Qp (.a (iA 7)) Z1) (DCalls Tryz.prog f_f [.agg [c0,c1,c2,c3,c4,iD c5,iD c6,iD c7,iD c8]] Z1 (fun r2 Z2=>∃b1:Bool,(r2=(.a (bA b1) :RV))∧a_b (!b1) (Qp (.a (iA 8)) Z2) (∃len:Nat,(Len c4 len)∧a_b (decide ((len:Int) > 12)) (Qp (.a (iA 9)) Z2) (∃len1:Nat,(Len c4 len1)∧∃I:Int→Store→Prop,∃μ:Int→Store→Nat,(I 0 Z2)∧∀n1:Int,∀Z3,(I n1 Z3)→a_b (decide (n1 < (len1:Int))) (∃len2:Nat,(Idx Tryz.prog Z3 c4 6 len2)∧((0:Int)≤n1)∧(n1 < (len2:Int))∧∃row:List D,(Row Z3 c4 (Int.toNat n1) row)∧∃n2 n3:Int,∃d d1 d2:D,∃b2:Bool,((List.take 6 row) =([iD n2,iD n3,d,d1,d2, .bool b2]:List D))∧DCalls Tryz.prog h_q [.agg [c0,c1,c2,c3,c4,iD c5,iD c6,iD c7,iD c8], .agg [iD n2,iD n3,d,d1,d2, .bool b2]] Z3 (fun r3 Z4=>∃n4:Int,(r3=(.a (iA n4) :RV))∧a_b (n4 != 0) (Qp (.a (iA n4)) Z4) ((([[c0,c1,c2,c3,c4,iD c5,iD c6,iD c7,iD c8]]:List (List D)) =([[c0,c1,c2,c3,c4,iD c5,iD c6,iD c7,iD c8]]:List (List D)))∧(I (w64 (n1+1)) Z4)∧((μ (w64 (n1+1)) Z4) < (μ n1 Z3))))) (DCalls Tryz.prog c_u [iA c5,iA 1,iA 8] Z3 (fun r3 Z4=>∃b2:Bool,(r3=(.a (bA b2) :RV))∧a_b (!b2) (Qp (.a (iA 12)) Z4) (DCalls Tryz.prog c_u [iA c6,iA 0,iA 8] Z4 (fun r4 Z5=>∃b3:Bool,(r4=(.a (bA b3) :RV))∧a_b (!b3) (Qp (.a (iA 12)) Z5) (DCalls Tryz.prog c_u [iA c7, .one (iD (w64 ((w64 (c5+c6)) +1))),iA 40] Z5 (fun r5 Z6=>∃b4:Bool,(r5=(.a (bA b4) :RV))∧a_b (!b4) (Qp (.a (iA 12)) Z6) (DCalls Tryz.prog c_u [iA c8,iA 1,iA 1000000] Z6 (fun r6 Z7=>∃b5:Bool,(r6=(.a (bA b5) :RV))∧a_b (!b5) (Qp (.a (iA 12)) Z7) (Qp (.a (iA 0)) Z7))))))))))))))))
theorem a_mo (c0 c1 c2 c3 c4:D)(c5 c6 c7 c8:Int)(σ:Store)(Qp:RV→Store→Prop)(h:a_kc c0 c1 c2 c3 c4 c5 c6 c7 c8 σ Qp) :DCalls Tryz.prog p_b [.agg [c0,c1,c2,c3,c4,iD c5,iD c6,iD c7,iD c8]] σ Qp:=
 a_a mixed (by kernel_rfl) Tryz.func93 a_ho (Eq.mp (by kernel_rfl) h)
def a_gb:Ann:= { cbs:= [2],draws:= [(7,{ ord:= [0,1,2,3,4,5,6,7,8,9,10,11,12,13,14,15,16],nb:= [],av:= [],dir:= [] })],loops:= [(4,{ mods:= [(7,SlotSh.one (Sh.any)),(21,s6)],keep:= [2,5,19,20] })] }
def a_hj (c0 c1 c2 c3 c4:D)(c5 c6 c7 c8 r:Int)(σ:Store)(Qp:RV→Store→Prop) :Prop:=
 DCalls Tryz.prog i_x [.agg [c0,c1,c2,c3,c4,iD c5,iD c6,iD c7,iD c8],iA r] σ (fun r1 Z=>∃n n1:Int,∃d d1 d2:D,∃b b1:Bool,(r1=(.tup [.agg [iD n,iD n1,d,d1,d2, .bool b],bA b1]:RV))∧∃len:Nat,(Len d len)∧∃I:D→Int→Store→Prop,∃μ:D→Int→Store→Nat,(I .nils 0 Z)∧∀d3:D,∀n2:Int,∀Z1,(I d3 n2 Z1)→a_b (decide (n2 < (len:Int))) (∃len1:Nat,(Idx Tryz.prog Z1 d 3 len1)∧((0:Int)≤n2)∧(n2 < (len1:Int))∧∃row:List D,(Row Z1 d (Int.toNat n2) row)∧∃n3 n4 n5:Int,((List.take 3 row) =([iD n3,iD n4,iD n5]:List D))∧a_b (decide (n3 < 0)) ((([[iD n,iD n1,d,d1,d2, .bool b]]:List (List D)) =([[iD n,iD n1,d,d1,d2, .bool b]]:List (List D)))∧(I d3 (w64 (n2+1)) Z1)∧((μ d3 (w64 (n2+1)) Z1) < (μ d3 n2 Z1))) (∃len2:Nat,(Len c0 len2)∧a_b (decide (n3≥(len2:Int))) ((([[iD n,iD n1,d,d1,d2, .bool b]]:List (List D)) =([[iD n,iD n1,d,d1,d2, .bool b]]:List (List D)))∧(I d3 (w64 (n2+1)) Z1)∧((μ d3 (w64 (n2+1)) Z1) < (μ d3 n2 Z1))) (∃len3:Nat,(Idx Tryz.prog Z1 c0 3 len3)∧((0:Int)≤n3)∧(n3 < (len3:Int))∧∃row1:List D,(Row Z1 c0 (Int.toNat n3) row1)∧∃n6:Int,((List.take 1 row1) =([iD n6]:List D))∧DCalls Tryz.prog o_5 [iA n6,iA n4,iA n5] Z1 (fun r2 Z2=>∃n7:Int,∃b2:Bool,(r2=(.tup [iA n7,bA b2]:RV))∧a_b b2 (a_b (n7 != 0) (Fw.newObj Z2 (.live b_a [[iD n3,iD n7]]) (fun id Z3=>a_z Tryz.prog Z3 b_a 16 d3 (.osl id 0 1) (fun d4 Z4=>(([[iD n,iD n1,d,d1,d2, .bool b]]:List (List D)) =([[iD n,iD n1,d,d1,d2, .bool b]]:List (List D)))∧(I d4 (w64 (n2+1)) Z4)∧((μ d4 (w64 (n2+1)) Z4) < (μ d3 n2 Z1))))) ((([[iD n,iD n1,d,d1,d2, .bool b]]:List (List D)) =([[iD n,iD n1,d,d1,d2, .bool b]]:List (List D)))∧(I d3 (w64 (n2+1)) Z2)∧((μ d3 (w64 (n2+1)) Z2) < (μ d3 n2 Z1)))) ((([[iD n,iD n1,d,d1,d2, .bool b]]:List (List D)) =([[iD n,iD n1,d,d1,d2, .bool b]]:List (List D)))∧(I d3 (w64 (n2+1)) Z2)∧((μ d3 (w64 (n2+1)) Z2) < (μ d3 n2 Z1))))))) (a_z Tryz.prog Z1 b_a 16 d3 d1 (fun d4 Z2=>Qp (.a (.one d4)) Z2)))
theorem a_h2 (c0 c1 c2 c3 c4:D)(c5 c6 c7 c8 r:Int)(σ:Store)(Qp:RV→Store→Prop)(h:a_hj c0 c1 c2 c3 c4 c5 c6 c7 c8 r σ Qp) :DCalls Tryz.prog g_o [.agg [c0,c1,c2,c3,c4,iD c5,iD c6,iD c7,iD c8],iA r] σ Qp:=
 a_a mixed (by kernel_rfl) Tryz.func97 a_gb (Eq.mp (by kernel_rfl) h)
def a_hc:Ann:= { }
def a_mn (kind:Int)(σ:Store)(Qp:RV→Store→Prop) :Prop:=
 a_b (kind == 0) (Fw.newObj σ (.live h_f [[iD 0,iD 1,iD 0]]) (fun id Z=>Qp (.a (.one (.osl id 0 1))) Z)) (a_b (kind == 1) (Fw.newObj σ (.live h_f [[iD 0,iD 1,iD 1],[iD 0,iD 2,iD 2]]) (fun id Z=>Qp (.a (.one (.osl id 0 2))) Z)) (a_b (kind == 2) (Fw.newObj σ (.live h_f [[iD 0,iD 1,iD 0],[iD 2,iD 3,iD 0]]) (fun id Z=>Qp (.a (.one (.osl id 0 2))) Z)) (Qp (.a (.one .nils)) σ)))
theorem a_mb (kind:Int)(σ:Store)(Qp:RV→Store→Prop)(h:a_mn kind σ Qp) :DCalls Tryz.prog j_8 [iA kind] σ Qp:=
 a_a mixed (by kernel_rfl) Tryz.func101 a_hc (Eq.mp (by kernel_rfl) h)
def a_iq:Ann:= { cbs:= [2],loops:= [(6,{ mods:= [(6,SlotSh.one (Sh.any)),(31,s6)],keep:= [5,29,30] }),(11,{ mods:= [(6,SlotSh.one (Sh.any)),(44,s6)],keep:= [42,43] })],joins:= [(3,{ mods:= [],keep:= [1,2] })] }
def a_li (c0 c1 c2 c3 c4:D)(c5 c6 c7 c8 r:Int)(σ:Store)(Qp:RV→Store→Prop) :Prop:=
 ∀R:Store→Prop,(∀Z,(∃len:Nat,(Idx Tryz.prog Z c4 6 len)∧((0:Int)≤r)∧(r < (len:Int))∧∃row:List D,(Row Z c4 (Int.toNat r) row)∧∃n n1:Int,∃d d1 d2:D,∃b:Bool,((List.take 6 row) =([iD n,iD n1,d,d1,d2, .bool b]:List D))∧DCalls Tryz.prog a_4 [.one d2] Z (fun r1 Z1=>∃d3:D,(r1=(.a (.one d3) :RV))∧∃len1:Nat,(Len d len1)∧∃I:D→Int→Store→Prop,∃μ:D→Int→Store→Nat,(I d3 0 Z1)∧∀d4:D,∀n2:Int,∀Z2,(I d4 n2 Z2)→a_b (decide (n2 < (len1:Int))) (∃len2:Nat,(Idx Tryz.prog Z2 d 3 len2)∧((0:Int)≤n2)∧(n2 < (len2:Int))∧∃row1:List D,(Row Z2 d (Int.toNat n2) row1)∧∃n3 n4 n5:Int,((List.take 3 row1) =([iD n3,iD n4,iD n5]:List D))∧Fw.newObj Z2 (.live a_h [[iD n3]]) (fun id Z3=>a_z Tryz.prog Z3 a_h 8 d4 (.osl id 0 1) (fun d5 Z4=>(([[iD n,iD n1,d,d1,d2, .bool b]]:List (List D)) =([[iD n,iD n1,d,d1,d2, .bool b]]:List (List D)))∧(I d5 (w64 (n2+1)) Z4)∧((μ d5 (w64 (n2+1)) Z4) < (μ d4 n2 Z2))))) (∃len2:Nat,(Len d1 len2)∧∃I1:D→Int→Store→Prop,∃μ1:D→Int→Store→Nat,(I1 d4 0 Z2)∧∀d5:D,∀n3:Int,∀Z3,(I1 d5 n3 Z3)→a_b (decide (n3 < (len2:Int))) (∃len3:Nat,(Idx Tryz.prog Z3 d1 2 len3)∧((0:Int)≤n3)∧(n3 < (len3:Int))∧∃row1:List D,(Row Z3 d1 (Int.toNat n3) row1)∧∃n4 n5:Int,((List.take 2 row1) =([iD n4,iD n5]:List D))∧Fw.newObj Z3 (.live a_h [[iD n4]]) (fun id Z4=>a_z Tryz.prog Z4 a_h 8 d5 (.osl id 0 1) (fun d6 Z5=>(I1 d6 (w64 (n3+1)) Z5)∧((μ1 d6 (w64 (n3+1)) Z5) < (μ1 d5 n3 Z3))))) (DCalls Tryz.prog l_3 [.one d5] Z3 (fun r2 Z4=>(r2=(.tup []:RV))∧DCalls Tryz.prog j_b [.one d5] Z4 (fun r3 Z5=>∃d6:D,(r3=(.a (.one d6) :RV))∧Qp (.a (.one d6)) Z5))))))→R Z)→a_b (decide (r < 0)) (Qp (.a (.one .nils)) σ) (∃len:Nat,(Len c4 len)∧a_b (decide (r≥(len:Int))) (Qp (.a (.one .nils)) σ) (R σ))
theorem a_lz (c0 c1 c2 c3 c4:D)(c5 c6 c7 c8 r:Int)(σ:Store)(Qp:RV→Store→Prop)(h:a_li c0 c1 c2 c3 c4 c5 c6 c7 c8 r σ Qp) :DCalls Tryz.prog p_e [.agg [c0,c1,c2,c3,c4,iD c5,iD c6,iD c7,iD c8],iA r] σ Qp:=
 a_a mixed (by kernel_rfl) Tryz.func106 a_iq (Eq.mp (by kernel_rfl) h)
def o_m:Ann:= { }
def q_d (s:D)(v:Int)(σ:Store)(Qp:RV→Store→Prop) :Prop:=
 DCalls Tryz.prog e_0 [.one s,iA v] σ (fun r Z=>∃n:Int,(r=(.a (iA n) :RV))∧Qp (.a (.one (.bool (decide (n≥0))))) Z)
theorem p_7 (s:D)(v:Int)(σ:Store)(Qp:RV→Store→Prop)(h:q_d s v σ Qp) :DCalls Tryz.prog b_1 [.one s,iA v] σ Qp:=
 a_a mixed (by kernel_rfl) Tryz.func110 o_m (Eq.mp (by kernel_rfl) h)
def p_s:Ann:= { }
def q_v (s:D)(σ:Store)(Qp:RV→Store→Prop) :Prop:=
 ∃b:Bool,(h_6 .sl s b)∧a_b (b != false) (Qp (.a (.one .nils)) σ) (Fw.newObj σ (.live a_7 []) (fun id Z=>a_z Tryz.prog Z a_7 16 (.osl id 0 0) s (fun d Z1=>Qp (.a (.one d)) Z1)))
theorem r_5 (s:D)(σ:Store)(Qp:RV→Store→Prop)(h:q_v s σ Qp) :DCalls Tryz.prog b_b [.one s] σ Qp:=
 a_a mixed (by kernel_rfl) Tryz.func114 p_s (Eq.mp (by kernel_rfl) h)
def y_h:Ann:= { }
def z_p (d:D)(section_ who:Int)(σ:Store)(Qp:RV→Store→Prop) :Prop:=
 (a_f d)∧∃s:D,∃i off:Nat,(d=(.el s i off:D))∧∃row:List D,(Row σ s i row)∧∃d1:D,((List.take 1 (List.drop ((off+0) +0) row)) =([d1]:List D))∧∃len:Nat,(Idx Tryz.prog σ d1 1 len)∧((0:Int)≤section_)∧(section_ < (len:Int))∧a_j [iD who] σ d1 (Int.toNat section_) 0 (fun Z=>(a_f d)∧∃s1:D,∃i1 off1:Nat,(d=(.el s1 i1 off1:D))∧a_j [.bool true] Z s1 i1 ((off1+0) +6) (fun Z1=>Qp (.tup []) Z1))
theorem a_bc (d:D)(section_ who:Int)(σ:Store)(Qp:RV→Store→Prop)(h:z_p d section_ who σ Qp) :DCalls Tryz.prog f_4 [.one d,iA section_,iA who] σ Qp:=
 a_a mixed (by kernel_rfl) Tryz.func118 y_h (Eq.mp (by kernel_rfl) h)
def q_9:Ann:= { }
def s_7 (x:D)(s:Int)(σ:Store)(Qp:RV→Store→Prop) :Prop:=
 (a_f x)∧∃s1:D,∃i off:Nat,(x=(.el s1 i off:D))∧∃row:List D,(Row σ s1 i row)∧∃d:D,((List.take 1 (List.drop ((off+13) +0) row)) =([d]:List D))∧∃len:Nat,(Idx Tryz.prog σ d 1 len)∧((0:Int)≤s)∧(s < (len:Int))∧a_j [iD 0] σ d (Int.toNat s) 0 (fun Z=>(a_f x)∧∃s2:D,∃i1 off1:Nat,(x=(.el s2 i1 off1:D))∧a_j [.bool true] Z s2 i1 ((off1+13) +6) (fun Z1=>Qp (.tup []) Z1))
theorem s_5 (x:D)(s:Int)(σ:Store)(Qp:RV→Store→Prop)(h:s_7 x s σ Qp) :DCalls Tryz.prog c_7 [.one x,iA s] σ Qp:=
 a_a mixed (by kernel_rfl) Tryz.func122 q_9 (Eq.mp (by kernel_rfl) h)
def a_h6:Ann:= { draws:= [(10,{ ord:= [0,1,2,3,4,5,6,7,8,9,10,11,12,13,14,15,16,17,18,19,20,21,22,23,24,25,26],nb:= [9],av:= [],dir:= [] }),(12,{ ord:= [0,1,2,3,4,5,6],nb:= [],av:= [],dir:= [] })],loops:= [(5,{ mods:= [(25,s6)],keep:= [0,5,23,24] }),(8,{ mods:= [(41,s6)],keep:= [0,5,7,23,24,25,39,40] }),(19,{ mods:= [(88,s6)],keep:= [5,10,86,87] })],joins:= [(3,{ mods:= [],keep:= [0,1] }),(23,{ mods:= [],keep:= [5,10,11,12,86,87,88] })] }
def a_kf (sections joints:D)(σ:Store)(Qp:RV→Store→Prop) :Prop:=
 ∀R:Store→Prop,(∀Z,(Fw.newObj Z (.mp 0 []) (fun id Z1=>∃len:Nat,(Len joints len)∧∃I:Int→Store→Prop,∃μ:Int→Store→Nat,(I 0 Z1)∧∀n:Int,∀Z2,(I n Z2)→a_b (decide (n < (len:Int))) (∃len1:Nat,(Idx Tryz.prog Z2 joints 4 len1)∧((0:Int)≤n)∧(n < (len1:Int))∧∃row:List D,(Row Z2 joints (Int.toNat n) row)∧∃n1 n2 n3 n4:Int,((List.take 4 row) =([iD n1,iD n2,iD n3,iD n4]:List D))∧Fw.newObj Z2 (.live b_x [[iD n1,iD n2],[iD n3,iD n4]]) (fun id1 Z3=>∃len2:Nat,(Len (.osl id1 0 2) len2)∧∃I1:Int→Store→Prop,∃μ1:Int→Store→Nat,(I1 0 Z3)∧∀n5:Int,∀Z4,(I1 n5 Z4)→a_b (decide (n5 < (len2:Int))) (∃len3:Nat,(Idx Tryz.prog Z4 (.osl id1 0 2) 2 len3)∧((0:Int)≤n5)∧(n5 < (len3:Int))∧∃row1:List D,(Row Z4 (.osl id1 0 2) (Int.toNat n5) row1)∧∃n6 n7:Int,((List.take 2 row1) =([iD n6,iD n7]:List D))∧∃len4:Nat,(Len sections len4)∧DCalls Tryz.prog d_p [iA n6,iA 0, .one (iD (w64 ((len4:Int) - 1)))] Z4 (fun r Z5=>∃b:Bool,(r=(.a (bA b) :RV))∧a_b (!b) (Qp (.a (iA 6)) Z5) (∃len5:Nat,(Idx Tryz.prog Z5 sections 3 len5)∧((0:Int)≤n6)∧(n6 < (len5:Int))∧∃row2:List D,(Row Z5 sections (Int.toNat n6) row2)∧∃n8:Int,((List.take 1 row2) =([iD n8]:List D))∧DCalls Tryz.prog i_2 [iA n8] Z5 (fun r1 Z6=>∃n9:Int,(r1=(.a (iA n9) :RV))∧DCalls Tryz.prog d_p [iA n7,iA 0, .one (iD (w64 (n9 - 1)))] Z6 (fun r2 Z7=>∃b1:Bool,(r2=(.a (bA b1) :RV))∧a_b (!b1) (Qp (.a (iA 6)) Z7) (∃r3:Option A,(i_3 Tryz.prog b_x Z7 (.omap id) (.agg [iD n6,iD n7]) r3)∧∃n10:Int,((Option.getD r3 (iA 0)) =(iA n10:A))∧a_b (decide (n10 > 0)) (Qp (.a (iA 6)) Z7) (∃r4:Option A,(i_3 Tryz.prog b_x Z7 (.omap id) (.agg [iD n6,iD n7]) r4)∧∃n11:Int,((Option.getD r4 (iA 0)) =(iA n11:A))∧a_lf Tryz.prog b_x Z7 (.omap id) (.agg [iD n6,iD n7]) (iA 0) (fun (v:A)=>fun n12 Z8=>a_f4 Z8 (.omap id) n12 (.one (iD (w64 (n11+1)))) (fun Z9=>(([[iD n1,iD n2,iD n3,iD n4]]:List (List D)) =([[iD n1,iD n2,iD n3,iD n4]]:List (List D)))∧(I1 (w64 (n5+1)) Z9)∧((μ1 (w64 (n5+1)) Z9) < (μ1 n5 Z4))))))))))) (a_b (n1 == n3) (Qp (.a (iA 6)) Z4) ((I (w64 (n+1)) Z4)∧((μ (w64 (n+1)) Z4) < (μ n Z2)))))) (Fw.newObj Z2 (.mp 0 []) (fun id1 Z3=>∃len1:Nat,(Len sections len1)∧∃I1:Int→Store→Prop,∃μ1:Int→Store→Nat,(I1 0 Z3)∧∀n1:Int,∀Z4,(I1 n1 Z4)→a_b (decide (n1 < (len1:Int))) (∃len2:Nat,(Idx Tryz.prog Z4 sections 3 len2)∧((0:Int)≤n1)∧(n1 < (len2:Int))∧∃row:List D,(Row Z4 sections (Int.toNat n1) row)∧∃n2 n3 n4:Int,((List.take 3 row) =([iD n2,iD n3,iD n4]:List D))∧∀R1:Store→Prop,(∀Z5,(a_b (n4 != 0) (a_b (n2 != 0) (Qp (.a (iA 6)) Z5) (∃r:Option A,(i_3 Tryz.prog b_x Z5 (.omap id) (.agg [iD n1,iD 1]) r)∧∃n5:Int,((Option.getD r (iA 0)) =(iA n5:A))∧a_b (decide (n5 > 0)) (Qp (.a (iA 6)) Z5) (∃r1:Option A,(i_3 Tryz.prog a_h Z5 (.omap id1) (iA n4) r1)∧∃n6:Int,((Option.getD r1 (iA 0)) =(iA n6:A))∧a_b (decide (n6 > 0)) (Qp (.a (iA 6)) Z5) (∃r2:Option A,(i_3 Tryz.prog a_h Z5 (.omap id1) (iA n4) r2)∧∃n7:Int,((Option.getD r2 (iA 0)) =(iA n7:A))∧MPut Tryz.prog a_h Z5 (.omap id1) (iA n4) (.one (iD (w64 (n7+1)))) (fun Z6=>(I1 (w64 (n1+1)) Z6)∧((μ1 (w64 (n1+1)) Z6) < (μ1 n1 Z4))))))) (∃r:Option A,(i_3 Tryz.prog a_h Z5 (.omap id1) (iA n4) r)∧∃n5:Int,((Option.getD r (iA 0)) =(iA n5:A))∧MPut Tryz.prog a_h Z5 (.omap id1) (iA n4) (.one (iD (w64 (n5+1)))) (fun Z6=>(I1 (w64 (n1+1)) Z6)∧((μ1 (w64 (n1+1)) Z6) < (μ1 n1 Z4)))))→R1 Z5)→DCalls Tryz.prog i_2 [iA n2] Z4 (fun r Z5=>∃n5:Int,(r=(.a (iA n5) :RV))∧a_b (n5 == 0) (Qp (.a (iA 6)) Z5) (DCalls Tryz.prog d_p [iA n3,iA 0,iA 3] Z5 (fun r1 Z6=>∃b:Bool,(r1=(.a (bA b) :RV))∧a_b (!b) (Qp (.a (iA 6)) Z6) (DCalls Tryz.prog d_p [iA n4,iA 0,iA 3] Z6 (fun r2 Z7=>∃b1:Bool,(r2=(.a (bA b1) :RV))∧a_b (!b1) (Qp (.a (iA 6)) Z7) ((([[iD n2,iD n3,iD n4]]:List (List D)) =([[iD n2,iD n3,iD n4]]:List (List D)))∧R1 Z7))))))) (Qp (.a (iA 0)) Z4)))))→R Z)→∃len:Nat,(Len sections len)∧DCalls Tryz.prog d_p [iA (len:Int),iA 1,iA 16] σ (fun r Z=>∃b:Bool,(r=(.a (bA b) :RV))∧a_b (!b) (Qp (.a (iA 6)) Z) (∃len1:Nat,(Len joints len1)∧a_b (decide ((len1:Int) > 24)) (Qp (.a (iA 6)) Z) (R Z)))
theorem a_l0 (sections joints:D)(σ:Store)(Qp:RV→Store→Prop)(h:a_kf sections joints σ Qp) :DCalls Tryz.prog o_2 [.one sections, .one joints] σ Qp:=
 a_a mixed (by kernel_rfl) Tryz.func126 a_h6 (Eq.mp (by kernel_rfl) h)
def a_c0:Ann:= { }
def a_gh (n lo hi:Int)(σ:Store)(Qp:RV→Store→Prop) :Prop:=
 a_b (decide (lo≤n)) (Qp (.a (.one (.bool (decide (n≤hi))))) σ) (Qp (.a (bA false)) σ)
theorem a_eg (n lo hi:Int)(σ:Store)(Qp:RV→Store→Prop)(h:a_gh n lo hi σ Qp) :DCalls Tryz.prog c_u [iA n,iA lo,iA hi] σ Qp:=
 a_a mixed (by kernel_rfl) Tryz.func130 a_c0 (Eq.mp (by kernel_rfl) h)
def j_r:Ann:= { }
def k_m (s f:D)(σ:Store)(Qp:RV→Store→Prop) :Prop:=
 DCalls Tryz.prog e_i [.one s, .one f] σ (fun r Z=>∃n:Int,(r=(.a (iA n) :RV))∧Qp (.a (.one (.bool (decide (n≥0))))) Z)
theorem k_z (s f:D)(σ:Store)(Qp:RV→Store→Prop)(h:k_m s f σ Qp) :DCalls Tryz.prog c_d [.one s, .one f] σ Qp:=
 a_a mixed (by kernel_rfl) Tryz.func134 j_r (Eq.mp (by kernel_rfl) h)
def o_r:Ann:= { draws:= [(5,{ ord:= [0,1,2,3,4,5,6,7,8,9,10,11,12,13,14,15,16,17,18],nb:= [],av:= [],dir:= [] })] }
def p_9 (d:D)(r section_:Int)(σ:Store)(Qp:RV→Store→Prop) :Prop:=
 (a_f d)∧∃s:D,∃i off:Nat,(d=(.el s i off:D))∧∃row:List D,(Row σ s i row)∧∃d1:D,((List.take 1 (List.drop ((off+9) +0) row)) =([d1]:List D))∧∃len:Nat,(Idx Tryz.prog σ d1 1 len)∧((0:Int)≤section_)∧(section_ < (len:Int))∧∃row1:List D,(Row σ d1 (Int.toNat section_) row1)∧∃n:Int,((List.take 1 row1) =([iD n]:List D))∧a_b (decide ((w64 (n - 1)) < 0)) (Qp (.a (bA false)) σ) (a_b ((w64 (n - 1)) == r) (Qp (.a (bA false)) σ) ((a_f d)∧∃s1:D,∃i1 off1:Nat,(d=(.el s1 i1 off1:D))∧∃row2:List D,(Row σ s1 i1 row2)∧∃d2:D,((List.take 1 (List.drop ((off1+0) +4) row2)) =([d2]:List D))∧∃len1:Nat,(Idx Tryz.prog σ d2 6 len1)∧((0:Int)≤(w64 (n - 1)))∧((w64 (n - 1)) < (len1:Int))∧∃row3:List D,(Row σ d2 (Int.toNat (w64 (n - 1))) row3)∧∃n1 n2:Int,∃d3 d4 d5:D,∃b:Bool,((List.take 6 row3) =([iD n1,iD n2,d3,d4,d5, .bool b]:List D))∧(a_f d)∧∃s2:D,∃i2 off2:Nat,(d=(.el s2 i2 off2:D))∧∃row4:List D,(Row σ s2 i2 row4)∧∃d6:D,((List.take 1 (List.drop ((off2+0) +4) row4)) =([d6]:List D))∧∃len2:Nat,(Idx Tryz.prog σ d6 6 len2)∧((0:Int)≤r)∧(r < (len2:Int))∧∃row5:List D,(Row σ d6 (Int.toNat r) row5)∧∃n3:Int,((List.take 1 row5) =([iD n3]:List D))∧a_b (n2 == n3) (DCalls Tryz.prog b_1 [.one d5,iA section_] σ (fun r1 Z=>∃b1:Bool,(r1=(.a (bA b1) :RV))∧Qp (.a (bA b1)) Z)) (Qp (.a (bA false)) σ)))
theorem p_8 (d:D)(r section_:Int)(σ:Store)(Qp:RV→Store→Prop)(h:p_9 d r section_ σ Qp) :DCalls Tryz.prog f_b [.one d,iA r,iA section_] σ Qp:=
 a_a mixed (by kernel_rfl) Tryz.func139 o_r (Eq.mp (by kernel_rfl) h)
def a_dh:Ann:= { cbs:= [3,4],draws:= [(3,{ ord:= [0,1,3,4,7,2,5,6,8,9,10],nb:= [4],av:= [],dir:= [] })] }
def a_f5 (m0 m1 l0 l1:Int)(l2:Bool)(age:Int)(σ:Store)(Qp:RV→Store→Prop) :Prop:=
 a_b (!l2) (Qp (.a (bA false)) σ) (a_b (m0 == 0) (Qp (.a (bA false)) σ) (a_b (l0 != m0) (Qp (.a (bA false)) σ) (DCalls Tryz.prog g_n [iA l1] σ (fun r Z=>∃n:Int,(r=(.a (iA n) :RV))∧DCalls Tryz.prog g_n [iA m1] Z (fun r1 Z1=>∃n1:Int,(r1=(.a (iA n1) :RV))∧DCalls Tryz.prog g_n [iA age] Z1 (fun r2 Z2=>∃n2:Int,(r2=(.a (iA n2) :RV))∧Qp (.a (.one (.bool (decide ((w64 (n - n1)) > n2))))) Z2))))))
theorem a_d8 (m0 m1 l0 l1:Int)(l2:Bool)(age:Int)(σ:Store)(Qp:RV→Store→Prop)(h:a_f5 m0 m1 l0 l1 l2 age σ Qp) :DCalls Tryz.prog h_4 [.agg [iD m0,iD m1], .agg [iD l0,iD l1, .bool l2],iA age] σ Qp:=
 a_a mixed (by kernel_rfl) Tryz.func143 a_dh (Eq.mp (by kernel_rfl) h)
def q_x:Ann:= { }
def s_x (t:D)(e_:Int)(σ:Store)(Qp:RV→Store→Prop) :Prop:=
 (a_f t)∧∃s:D,∃i off:Nat,(t=(.el s i off:D))∧∃row:List D,(Row σ s i row)∧∃n:Int,((List.take 1 (List.drop (off+0) row)) =([iD n]:List D))∧a_b (n == 0) ((a_f t)∧∃s1:D,∃i1 off1:Nat,(t=(.el s1 i1 off1:D))∧a_j [iD e_] σ s1 i1 (off1+0) (fun Z=>Qp (.tup []) Z)) (Qp (.tup []) σ)
theorem t_g (t:D)(e_:Int)(σ:Store)(Qp:RV→Store→Prop)(h:s_x t e_ σ Qp) :DCalls Tryz.prog b_t [.one t,iA e_] σ Qp:=
 a_a mixed (by kernel_rfl) Tryz.func147 q_x (Eq.mp (by kernel_rfl) h)
def a_mi:Ann:= { loops:= [(3,{ mods:= [(3,s6),(9,s6)],keep:= [7,8] })] }
def a_ni (kind:Int)(σ:Store)(Qp:RV→Store→Prop) :Prop:=
 DCalls Tryz.prog l_r [iA kind] σ (fun r Z=>∃d:D,(r=(.a (.one d) :RV))∧∃len:Nat,(Len d len)∧∃I:Int→Int→Store→Prop,∃μ:Int→Int→Store→Nat,(I 0 0 Z)∧∀n n1:Int,∀Z1,(I n n1 Z1)→a_b (decide (n1 < (len:Int))) (∃len1:Nat,(Idx Tryz.prog Z1 d 3 len1)∧((0:Int)≤n1)∧(n1 < (len1:Int))∧∃row:List D,(Row Z1 d (Int.toNat n1) row)∧∃n2 n3 n4:Int,((List.take 3 row) =([iD n2,iD n3,iD n4]:List D))∧((0:Int)≤0)∧((0:Int) < (2:Int))∧((0:Int)≤1)∧((1:Int) < (2:Int))∧(I (ite ((w64 (n3+1)) > (ite ((w64 (n2+1)) > n) (w64 (n2+1)) n)) (w64 (n3+1)) (ite ((w64 (n2+1)) > n) (w64 (n2+1)) n)) (w64 (n1+1)) Z1)∧((μ (ite ((w64 (n3+1)) > (ite ((w64 (n2+1)) > n) (w64 (n2+1)) n)) (w64 (n3+1)) (ite ((w64 (n2+1)) > n) (w64 (n2+1)) n)) (w64 (n1+1)) Z1) < (μ n n1 Z1))) (Qp (.a (iA n)) Z1))
theorem a_nv (kind:Int)(σ:Store)(Qp:RV→Store→Prop)(h:a_ni kind σ Qp) :DCalls Tryz.prog i_2 [iA kind] σ Qp:=
 a_a mixed (by kernel_rfl) Tryz.func151 a_mi (Eq.mp (by kernel_rfl) h)
def r_1:Ann:= { draws:= [(6,{ ord:= [0,1,2,3,4,5,6,7,8],nb:= [],av:= [],dir:= [] })],loops:= [(4,{ mods:= [(13,s6)],keep:= [0,1,12] })] }
def t_p (s1 s2:D)(σ:Store)(Qp:RV→Store→Prop) :Prop:=
 ∃len:Nat,(Len s1 len)∧∃len1:Nat,(Len s2 len1)∧a_b ((len:Int) !=(len1:Int)) (Qp (.a (bA false)) σ) (∃len2:Nat,(Len s1 len2)∧∃I:Int→Store→Prop,∃μ:Int→Store→Nat,(I 0 σ)∧∀n:Int,∀Z,(I n Z)→a_b (decide (n < (len2:Int))) (∃len3:Nat,(Idx Tryz.prog Z s1 2 len3)∧((0:Int)≤n)∧(n < (len3:Int))∧∃row:List D,(Row Z s1 (Int.toNat n) row)∧∃n1 n2:Int,((List.take 2 row) =([iD n1,iD n2]:List D))∧∃len4:Nat,(Idx Tryz.prog Z s2 2 len4)∧((0:Int)≤n)∧(n < (len4:Int))∧∃row1:List D,(Row Z s2 (Int.toNat n) row1)∧∃n3 n4:Int,((List.take 2 row1) =([iD n3,iD n4]:List D))∧a_b (!((n1 == n3) && (n2 == n4))) (Qp (.a (bA false)) Z) ((I (w64 (n+1)) Z)∧((μ (w64 (n+1)) Z) < (μ n Z)))) (Qp (.a (bA true)) Z))
theorem s_y (s1 s2:D)(σ:Store)(Qp:RV→Store→Prop)(h:t_p s1 s2 σ Qp) :DCalls Tryz.prog g_d [.one s1, .one s2] σ Qp:=
 a_a mixed (by kernel_rfl) Tryz.func155 r_1 (Eq.mp (by kernel_rfl) h)
def r_k:Ann:= { cbs:= [2,3],joins:= [(4,{ mods:= [],keep:= [2,3,5] })] }
def t_c (p0 p1 p2 p3 p4:D)(p5 p6 p7 p8 r0 r1:Int)(r2 r3 r4:D)(r5:Bool)(σ:Store)(Qp:RV→Store→Prop) :Prop:=
 DCalls Tryz.prog c_p [.agg [p0,p1,p2,p3,p4,iD p5,iD p6,iD p7,iD p8],iA r1] σ (fun r Z=>∃n n1:Int,∃b:Bool,(r=(.tup [.agg [iD n,iD n1],bA b]:RV))∧∀R:Store→Prop,(∀Z1,(DCalls Tryz.prog f_m [.one p1,iA n,iA n1] Z1 (fun r6 Z2=>∃n2 n3:Int,∃b1:Bool,(r6=(.tup [iA n2,iA n3,bA b1]:RV))∧DCalls Tryz.prog b_v [.agg [p0,p1,p2,p3,p4,iD p5,iD p6,iD p7,iD p8],iA n2] Z2 (fun r7 Z3=>∃n4 n5 n6:Int,∃b2:Bool,(r7=(.tup [.agg [iD n4,iD n5,iD n6],bA b2]:RV))∧a_b (!b1) (Qp (.a (.one .nils)) Z3) (a_b (!b2) (Qp (.a (.one .nils)) Z3) (a_b (n6 != 0) (Qp (.a (.one .nils)) Z3) (DCalls Tryz.prog o_o [.one r2,iA n2] Z3 (fun r8 Z4=>∃b3:Bool,(r8=(.a (bA b3) :RV))∧a_b b3 (Qp (.a (.one .nils)) Z4) (DCalls Tryz.prog c_x [.agg [p0,p1,p2,p3,p4,iD p5,iD p6,iD p7,iD p8], .agg [iD r0,iD r1,r2,r3,r4, .bool r5]] Z4 (fun r9 Z5=>∃n7:Int,(r9=(.a (iA n7) :RV))∧a_b (n2 == n7) (Qp (.a (.one .nils)) Z5) (Fw.newObj Z5 (.live a_h [[iD n2]]) (fun id Z6=>Qp (.a (.one (.osl id 0 1))) Z6)))))))))))→R Z1)→a_b r5 (Qp (.a (.one .nils)) Z) (a_b (!b) (Qp (.a (.one .nils)) Z) ((([[iD n,iD n1]]:List (List D)) =([[iD n,iD n1]]:List (List D)))∧R Z)))
theorem t_f (p0 p1 p2 p3 p4:D)(p5 p6 p7 p8 r0 r1:Int)(r2 r3 r4:D)(r5:Bool)(σ:Store)(Qp:RV→Store→Prop)(h:t_c p0 p1 p2 p3 p4 p5 p6 p7 p8 r0 r1 r2 r3 r4 r5 σ Qp) :DCalls Tryz.prog g_e [.agg [p0,p1,p2,p3,p4,iD p5,iD p6,iD p7,iD p8], .agg [iD r0,iD r1,r2,r3,r4, .bool r5]] σ Qp:=
 a_a mixed (by kernel_rfl) Tryz.func159 r_k (Eq.mp (by kernel_rfl) h)
def n_y:Ann:= { loops:= [(2,{ mods:= [(8,s6)],keep:= [0,1,7] })] }
def o_b (s f:D)(σ:Store)(Qp:RV→Store→Prop) :Prop:=
 ∃len:Nat,(Len s len)∧∃I:Int→Store→Prop,∃μ:Int→Store→Nat,(I 0 σ)∧∀n:Int,∀Z,(I n Z)→a_b (decide (n < (len:Int))) (∃len1:Nat,(Idx Tryz.prog Z s 1 len1)∧((0:Int)≤n)∧(n < (len1:Int))∧∃row:List D,(Row Z s (Int.toNat n) row)∧∃n1:Int,((List.take 1 row) =([iD n1]:List D))∧∃f1:FuncId,∃a:List (Bool × (List D)),∃b:List (Bool × (List D)),∃as0':List A,∃bs:List A,(f=(.fn f1 a b:D))∧((f_p a) =(Option.some as0'))∧((f_p b) =(Option.some bs))∧DCalls Tryz.prog f1 (HAppend.hAppend (HAppend.hAppend as0' [iA n1]) bs) Z (fun r Z1=>∃b1:Bool,(r=(.a (bA b1) :RV))∧a_b b1 (Qp (.a (iA n)) Z1) ((I (w64 (n+1)) Z1)∧((μ (w64 (n+1)) Z1) < (μ n Z))))) (Qp (.a (iA (-1))) Z)
theorem o_c (s f:D)(σ:Store)(Qp:RV→Store→Prop)(h:o_b s f σ Qp) :DCalls Tryz.prog e_x [.one s, .one f] σ Qp:=
 a_a mixed (by kernel_rfl) Tryz.func165 n_y (Eq.mp (by kernel_rfl) h)
def l_m:Ann:= { cbs:= [3] }
def m_k (s:D)(v0 v1:Int)(σ:Store)(Qp:RV→Store→Prop) :Prop:=
 DCalls Tryz.prog f_c [.one s, .agg [iD v0,iD v1]] σ (fun r Z=>∃n:Int,(r=(.a (iA n) :RV))∧Qp (.a (.one (.bool (decide (n≥0))))) Z)
theorem m_x (s:D)(v0 v1:Int)(σ:Store)(Qp:RV→Store→Prop)(h:m_k s v0 v1 σ Qp) :DCalls Tryz.prog d_7 [.one s, .agg [iD v0,iD v1]] σ Qp:=
 a_a mixed (by kernel_rfl) Tryz.func169 l_m (Eq.mp (by kernel_rfl) h)
def o_s:Ann:= { cbs:= [3],draws:= [(4,{ ord:= [0,1,2,3,4,5],nb:= [],av:= [],dir:= [] })],loops:= [(2,{ mods:= [(8,s6)],keep:= [0,3,7] })] }
def p_5 (s:D)(v0 v1:Int)(σ:Store)(Qp:RV→Store→Prop) :Prop:=
 ∃len:Nat,(Len s len)∧∃I:Int→Store→Prop,∃μ:Int→Store→Nat,(I 0 σ)∧∀n:Int,∀Z,(I n Z)→a_b (decide (n < (len:Int))) (∃len1:Nat,(Idx Tryz.prog Z s 2 len1)∧((0:Int)≤n)∧(n < (len1:Int))∧∃row:List D,(Row Z s (Int.toNat n) row)∧∃n1 n2:Int,((List.take 2 row) =([iD n1,iD n2]:List D))∧a_b ((v0 == n1) && (v1 == n2)) (Qp (.a (iA n)) Z) ((I (w64 (n+1)) Z)∧((μ (w64 (n+1)) Z) < (μ n Z)))) (Qp (.a (iA (-1))) Z)
theorem p_u (s:D)(v0 v1:Int)(σ:Store)(Qp:RV→Store→Prop)(h:p_5 s v0 v1 σ Qp) :DCalls Tryz.prog f_c [.one s, .agg [iD v0,iD v1]] σ Qp:=
 a_a mixed (by kernel_rfl) Tryz.func184 o_s (Eq.mp (by kernel_rfl) h)
end Go.Proofs.YtdmfnhbmhkgemaaGreat
end
section
set_option maxRecDepth 100000
namespace Go.Proofs.YtdmfnhbmhkgemaaGreat
open Go.Fw Go.Proofs
def a_g5:Ann:= { cbs:= [1],draws:= [(14,{ ord:= [0,1,2,3,4,6,7,5,8,9,10],nb:= [1,2,7],av:= [],dir:= [] }),(16,{ ord:= [0,1,2,3,4,5,6],nb:= [1],av:= [],dir:= [] })],loops:= [(10,{ mods:= [(25,s6)],keep:= [1,23,24] })] }
def a_he (c0 c1 c2 c3 c4:D)(c5 c6 c7 c8:Int)(σ:Store)(Qp:RV→Store→Prop) :Prop:=
 DCalls Tryz.prog m_q [.one c0, .one c1] σ (fun r Z=>∃n:Int,(r=(.a (iA n) :RV))∧a_b (n != 0) (Qp (.a (iA 6)) Z) (DCalls Tryz.prog j_i [.agg [c0,c1,c2,c3,c4,iD c5,iD c6,iD c7,iD c8]] Z (fun r1 Z1=>∃b:Bool,(r1=(.a (bA b) :RV))∧a_b (!b) (Qp (.a (iA 7)) Z1) (DCalls Tryz.prog h_l [.agg [c0,c1,c2,c3,c4,iD c5,iD c6,iD c7,iD c8]] Z1 (fun r2 Z2=>∃b1:Bool,(r2=(.a (bA b1) :RV))∧a_b (!b1) (Qp (.a (iA 8)) Z2) (∃len:Nat,(Len c4 len)∧a_b (decide ((len:Int) > 12)) (Qp (.a (iA 9)) Z2) (∃len1:Nat,(Len c4 len1)∧∃I:Int→Store→Prop,∃μ:Int→Store→Nat,(I 0 Z2)∧∀n1:Int,∀Z3,(I n1 Z3)→a_b (decide (n1 < (len1:Int))) (∃len2:Nat,(Idx Tryz.prog Z3 c4 6 len2)∧((0:Int)≤n1)∧(n1 < (len2:Int))∧∃row:List D,(Row Z3 c4 (Int.toNat n1) row)∧∃n2 n3:Int,∃d d1 d2:D,∃b2:Bool,((List.take 6 row) =([iD n2,iD n3,d,d1,d2, .bool b2]:List D))∧DCalls Tryz.prog p_d [.agg [c0,c1,c2,c3,c4,iD c5,iD c6,iD c7,iD c8], .agg [iD n2,iD n3,d,d1,d2, .bool b2]] Z3 (fun r3 Z4=>∃b3:Bool,(r3=(.a (bA b3) :RV))∧a_b (!b3) (Qp (.a (iA 9)) Z4) (DCalls Tryz.prog i_i [.agg [c0,c1,c2,c3,c4,iD c5,iD c6,iD c7,iD c8],iA n1] Z4 (fun r4 Z5=>∃n4:Int,(r4=(.a (iA n4) :RV))∧DCalls Tryz.prog m_f [.agg [c0,c1,c2,c3,c4,iD c5,iD c6,iD c7,iD c8],iA n4, .one d] Z5 (fun r5 Z6=>∃d3:D,(r5=(.a (.one d3) :RV))∧DCalls Tryz.prog h_r [.one d1, .one d3] Z6 (fun r6 Z7=>∃b4:Bool,(r6=(.a (bA b4) :RV))∧a_b (!b4) (Qp (.a (iA 10)) Z7) (DCalls Tryz.prog j_d [.agg [c0,c1,c2,c3,c4,iD c5,iD c6,iD c7,iD c8], .agg [iD n2,iD n3,d,d1,d2, .bool b2]] Z7 (fun r7 Z8=>∃d4:D,(r7=(.a (.one d4) :RV))∧DCalls Tryz.prog i_m [.one d2, .one d4] Z8 (fun r8 Z9=>∃b5:Bool,(r8=(.a (bA b5) :RV))∧a_b (!b5) (Qp (.a (iA 11)) Z9) ((I (w64 (n1+1)) Z9)∧((μ (w64 (n1+1)) Z9) < (μ n1 Z3)))))))))))) (a_b (decide (c5 < 1)) (Qp (.a (iA 12)) Z3) (a_b (decide (c5 > 8)) (Qp (.a (iA 12)) Z3) (a_b (decide (c6 < 0)) (Qp (.a (iA 12)) Z3) (a_b (decide (c6 > 8)) (Qp (.a (iA 12)) Z3) (a_b (decide (c7 < (w64 ((w64 (c5+c6)) +1)))) (Qp (.a (iA 12)) Z3) (a_b (decide (c7 > 40)) (Qp (.a (iA 12)) Z3) (a_b (decide (c8 < 1)) (Qp (.a (iA 12)) Z3) (a_b (decide (c8 > 1000000)) (Qp (.a (iA 12)) Z3) (Qp (.a (iA 0)) Z3))))))))))))))))
theorem a_h0 (c0 c1 c2 c3 c4:D)(c5 c6 c7 c8:Int)(σ:Store)(Qp:RV→Store→Prop)(h:a_he c0 c1 c2 c3 c4 c5 c6 c7 c8 σ Qp) :DCalls Tryz.prog i_u [.agg [c0,c1,c2,c3,c4,iD c5,iD c6,iD c7,iD c8]] σ Qp:=
 a_a mixed (by kernel_rfl) Tryz.func6 a_g5 (Eq.mp (by kernel_rfl) h)
def a_f2:Ann:= { esc:= [11],cbs:= [2,3],loops:= [(6,{ mods:= [(32,s6)],keep:= [5,30,31] })] }
def a_hx (c0 c1 c2 c3 c4:D)(c5 c6 c7 c8:Int)(k0 k1 k2 k3 k4 k5:D)(k6:Bool)(σ:Store)(Qp:RV→Store→Prop) :Prop:=
 Fw.newObj σ (.live m_i [[k0,k1,k2,k3,k4,k5, .bool k6,c0,c1,c2,c3,c4,iD c5,iD c6,iD c7,iD c8, .nils]]) (fun id Z=>DCalls Tryz.prog d_3 [.agg [c0,c1,c2,c3,c4,iD c5,iD c6,iD c7,iD c8], .agg [k0,k1,k2,k3,k4,k5, .bool k6]] Z (fun r Z1=>∃b:Bool,(r=(.a (bA b) :RV))∧a_b (!b) (DCalls Tryz.prog a_s [.one (.el (.osl id 0 1) 0 0),bA true,iA 1,iA (-1),iA (-1)] Z1 (fun r1 Z2=>(r1=(.tup []:RV))∧∃row:List D,(Row Z2 (.osl id 0 1) 0 row)∧∃d:D,((List.take 1 (List.drop 16 row)) =([d]:List D))∧Qp (.a (.one d)) Z2)) (Fw.newObj Z1 (.live t_x1 [[.fn d_2 [(false,[.el (.osl id 0 1) 0 0])] []],[.fn d_z [(false,[.el (.osl id 0 1) 0 0])] []],[.fn e_e [(false,[.el (.osl id 0 1) 0 0])] []],[.fn e_d [(false,[.el (.osl id 0 1) 0 0])] []]]) (fun id1 Z2=>∃len:Nat,(Len (.osl id1 0 4) len)∧∃I:Int→Store→Prop,∃μ:Int→Store→Nat,(I 0 Z2)∧∀n:Int,∀Z3,(I n Z3)→a_b (decide (n < (len:Int))) (∃len1:Nat,(Idx Tryz.prog Z3 (.osl id1 0 4) 1 len1)∧((0:Int)≤n)∧(n < (len1:Int))∧∃row:List D,(Row Z3 (.osl id1 0 4) (Int.toNat n) row)∧∃d:D,((List.take 1 row) =([d]:List D))∧∃f:FuncId,∃a:List (Bool × (List D)),∃b1:List (Bool × (List D)),∃as0':List A,∃bs:List A,(d=(.fn f a b1:D))∧((f_p a) =(Option.some as0'))∧((f_p b1) =(Option.some bs))∧DCalls Tryz.prog f (HAppend.hAppend (HAppend.hAppend as0' []) bs) Z3 (fun r1 Z4=>(r1=(.tup []:RV))∧(I (w64 (n+1)) Z4)∧((μ (w64 (n+1)) Z4) < (μ n Z3)))) (∃row:List D,(Row Z3 (.osl id 0 1) 0 row)∧∃d:D,((List.take 1 (List.drop 16 row)) =([d]:List D))∧Qp (.a (.one d)) Z3)))))
theorem a_i7 (c0 c1 c2 c3 c4:D)(c5 c6 c7 c8:Int)(k0 k1 k2 k3 k4 k5:D)(k6:Bool)(σ:Store)(Qp:RV→Store→Prop)(h:a_hx c0 c1 c2 c3 c4 c5 c6 c7 c8 k0 k1 k2 k3 k4 k5 k6 σ Qp) :DCalls Tryz.prog g_m [.agg [c0,c1,c2,c3,c4,iD c5,iD c6,iD c7,iD c8], .agg [k0,k1,k2,k3,k4,k5, .bool k6]] σ Qp:=
 a_a mixed (by kernel_rfl) Tryz.func10 a_f2 (Eq.mp (by kernel_rfl) h)
def a_e3:Ann:= { draws:= [(14,{ ord:= [0,1,2,3,4,5,6,7],nb:= [],av:= [],dir:= [] }),(22,{ ord:= [0,1,2,3,4,5,6,7,8,9,10,11,12,13,14,15,16,17,18,19,20,21,22,23,24,25,26,27,28,29,30,31,32,33,34,35,36,37,38,39,40,41,42,43,44,45,46,47,48,49],nb:= [5,22],av:= [],dir:= [] })],loops:= [(4,{ mods:= [(25,s6)],keep:= [0,1,23,24] }),(12,{ mods:= [(7,s6)],keep:= [0,1,5,6,23,24,25] }),(18,{ mods:= [(82,s6)],keep:= [0,1,80,81] })],joins:= [(3,{ mods:= [],keep:= [0,1] }),(8,{ mods:= [],keep:= [0,1,5,6,23,24,25] }),(24,{ mods:= [],keep:= [0,1,80,81,82] }),(22,{ mods:= [],keep:= [0,1,9,80,81,82] })] }
def a_i2 (sections joints:D)(σ:Store)(Qp:RV→Store→Prop) :Prop:=
 ∀R:Store→Prop,(∀Z,(∃len:Nat,(Len sections len)∧∃I:Int→Store→Prop,∃μ:Int→Store→Nat,(I 0 Z)∧∀n:Int,∀Z1,(I n Z1)→a_b (decide (n < (len:Int))) (∃len1:Nat,(Idx Tryz.prog Z1 sections 3 len1)∧((0:Int)≤n)∧(n < (len1:Int))∧∃row:List D,(Row Z1 sections (Int.toNat n) row)∧∃n1 n2 n3:Int,((List.take 3 row) =([iD n1,iD n2,iD n3]:List D))∧∀R1:Store→Prop,(∀Z2,(a_b (n3 == 0) ((I (w64 (n+1)) Z2)∧((μ (w64 (n+1)) Z2) < (μ n Z1))) (a_b (n1 != 0) (Qp (.a (iA 6)) Z2) (DCalls Tryz.prog g_l [.one joints,iA n,iA 1] Z2 (fun r Z3=>∃n4:Int,(r=(.a (iA n4) :RV))∧a_b (decide (n4 > 0)) (Qp (.a (iA 6)) Z3) (∃I1:Int→Store→Prop,∃μ1:Int→Store→Nat,(I1 0 Z3)∧∀n5:Int,∀Z4,(I1 n5 Z4)→a_b (decide (n5 < n)) (∃len2:Nat,(Idx Tryz.prog Z4 sections 3 len2)∧((0:Int)≤n5)∧(n5 < (len2:Int))∧∃row1:List D,(Row Z4 sections (Int.toNat n5) row1)∧∃n6:Int,((List.take 1 (List.drop 2 row1)) =([iD n6]:List D))∧a_b (n6 == n3) (Qp (.a (iA 6)) Z4) ((([[iD n1,iD n2,iD n3]]:List (List D)) =([[iD n1,iD n2,iD n3]]:List (List D)))∧(I1 (w64 (n5+1)) Z4)∧((μ1 (w64 (n5+1)) Z4) < (μ1 n5 Z4)))) ((I (w64 (n+1)) Z4)∧((μ (w64 (n+1)) Z4) < (μ n Z1))))))))→R1 Z2)→DCalls Tryz.prog f_0 [iA n1] Z1 (fun r Z2=>∃n4:Int,(r=(.a (iA n4) :RV))∧a_b (n4 == 0) (Qp (.a (iA 6)) Z2) (a_b (decide (n2 < 0)) (Qp (.a (iA 6)) Z2) (a_b (decide (n2≥4)) (Qp (.a (iA 6)) Z2) (a_b (decide (n3 < 0)) (Qp (.a (iA 6)) Z2) (a_b (decide (n3 > 3)) (Qp (.a (iA 6)) Z2) ((([[iD n1,iD n2,iD n3]]:List (List D)) =([[iD n1,iD n2,iD n3]]:List (List D)))∧R1 Z2))))))) (∃len1:Nat,(Len joints len1)∧∃I1:Int→Store→Prop,∃μ1:Int→Store→Nat,(I1 0 Z1)∧∀n1:Int,∀Z2,(I1 n1 Z2)→a_b (decide (n1 < (len1:Int))) (∀R1:Store→Prop,(∀Z3,((I1 (w64 (n1+1)) Z3)∧((μ1 (w64 (n1+1)) Z3) < (μ1 n1 Z2)))→R1 Z3)→∃len2:Nat,(Idx Tryz.prog Z2 joints 4 len2)∧((0:Int)≤n1)∧(n1 < (len2:Int))∧∃row:List D,(Row Z2 joints (Int.toNat n1) row)∧∃n2 n3 n4 n5:Int,((List.take 4 row) =([iD n2,iD n3,iD n4,iD n5]:List D))∧∀R2:Store→Prop,(∀Z3,(a_b (decide (n3 < 0)) (Qp (.a (iA 6)) Z3) (∃len3:Nat,(Idx Tryz.prog Z3 sections 3 len3)∧((0:Int)≤n2)∧(n2 < (len3:Int))∧∃row1:List D,(Row Z3 sections (Int.toNat n2) row1)∧∃n6:Int,((List.take 1 row1) =([iD n6]:List D))∧DCalls Tryz.prog f_0 [iA n6] Z3 (fun r Z4=>∃n7:Int,(r=(.a (iA n7) :RV))∧a_b (decide (n3≥n7)) (Qp (.a (iA 6)) Z4) (a_b (decide (n5 < 0)) (Qp (.a (iA 6)) Z4) (∃len4:Nat,(Idx Tryz.prog Z4 sections 3 len4)∧((0:Int)≤n4)∧(n4 < (len4:Int))∧∃row2:List D,(Row Z4 sections (Int.toNat n4) row2)∧∃n8:Int,((List.take 1 row2) =([iD n8]:List D))∧DCalls Tryz.prog f_0 [iA n8] Z4 (fun r1 Z5=>∃n9:Int,(r1=(.a (iA n9) :RV))∧a_b (decide (n5≥n9)) (Qp (.a (iA 6)) Z5) (DCalls Tryz.prog g_l [.one joints,iA n2,iA n3] Z5 (fun r2 Z6=>∃n10:Int,(r2=(.a (iA n10) :RV))∧a_b (decide (n10 > 1)) (Qp (.a (iA 6)) Z6) (DCalls Tryz.prog g_l [.one joints,iA n4,iA n5] Z6 (fun r3 Z7=>∃n11:Int,(r3=(.a (iA n11) :RV))∧a_b (decide (n11 > 1)) (Qp (.a (iA 6)) Z7) (R1 Z7)))))))))))→R2 Z3)→a_b (decide (n2 < 0)) (Qp (.a (iA 6)) Z2) (∃len3:Nat,(Len sections len3)∧a_b (decide (n2≥(len3:Int))) (Qp (.a (iA 6)) Z2) (a_b (decide (n4 < 0)) (Qp (.a (iA 6)) Z2) (∃len4:Nat,(Len sections len4)∧a_b (decide (n4≥(len4:Int))) (Qp (.a (iA 6)) Z2) (a_b (n2 == n4) (Qp (.a (iA 6)) Z2) ((([[iD n2,iD n3,iD n4,iD n5]]:List (List D)) =([[iD n2,iD n3,iD n4,iD n5]]:List (List D)))∧R2 Z2)))))) (Qp (.a (iA 0)) Z2)))→R Z)→∃len:Nat,(Len sections len)∧a_b (decide ((len:Int) < 1)) (Qp (.a (iA 6)) σ) (∃len1:Nat,(Len sections len1)∧a_b (decide ((len1:Int) > 16)) (Qp (.a (iA 6)) σ) (∃len2:Nat,(Len joints len2)∧a_b (decide ((len2:Int) > 24)) (Qp (.a (iA 6)) σ) (R σ)))
theorem a_h5 (sections joints:D)(σ:Store)(Qp:RV→Store→Prop)(h:a_i2 sections joints σ Qp) :DCalls Tryz.prog m_q [.one sections, .one joints] σ Qp:=
 a_a mixed (by kernel_rfl) Tryz.func14 a_e3 (Eq.mp (by kernel_rfl) h)
def w_5:Ann:= { draws:= [(6,{ ord:= [0,1,2,3,4,5,6,7,8],nb:= [],av:= [],dir:= [] })],loops:= [(4,{ mods:= [(13,s6)],keep:= [0,1,12] })] }
def x_i (a b:D)(σ:Store)(Qp:RV→Store→Prop) :Prop:=
 ∃len:Nat,(Len a len)∧∃len1:Nat,(Len b len1)∧a_b ((len:Int) !=(len1:Int)) (Qp (.a (bA false)) σ) (∃len2:Nat,(Len a len2)∧∃I:Int→Store→Prop,∃μ:Int→Store→Nat,(I 0 σ)∧∀n:Int,∀Z,(I n Z)→a_b (decide (n < (len2:Int))) (∃len3:Nat,(Idx Tryz.prog Z a 2 len3)∧((0:Int)≤n)∧(n < (len3:Int))∧∃row:List D,(Row Z a (Int.toNat n) row)∧∃n1 n2:Int,((List.take 2 row) =([iD n1,iD n2]:List D))∧∃len4:Nat,(Idx Tryz.prog Z b 2 len4)∧((0:Int)≤n)∧(n < (len4:Int))∧∃row1:List D,(Row Z b (Int.toNat n) row1)∧∃n3 n4:Int,((List.take 2 row1) =([iD n3,iD n4]:List D))∧a_b (!((n1 == n3) && (n2 == n4))) (Qp (.a (bA false)) Z) ((I (w64 (n+1)) Z)∧((μ (w64 (n+1)) Z) < (μ n Z)))) (Qp (.a (bA true)) Z))
theorem z_f (a b:D)(σ:Store)(Qp:RV→Store→Prop)(h:x_i a b σ Qp) :DCalls Tryz.prog h_r [.one a, .one b] σ Qp:=
 a_a mixed (by kernel_rfl) Tryz.func18 w_5 (Eq.mp (by kernel_rfl) h)
def a_az:Ann:= { cbs:= [2,3],joins:= [(3,{ mods:= [],keep:= [2,3] }),(8,{ mods:= [(9,s6)],keep:= [2,3,6,8] })] }
def a_dp (c0 c1 c2 c3 c4:D)(c5 c6 c7 c8 r0 r1:Int)(r2 r3 r4:D)(r5:Bool)(σ:Store)(Qp:RV→Store→Prop) :Prop:=
 ∀R:Store→Prop,(∀Z,(∃len:Nat,(Idx Tryz.prog Z c2 2 len)∧((0:Int)≤r1)∧(r1 < (len:Int))∧∃row:List D,(Row Z c2 (Int.toNat r1) row)∧∃n n1:Int,((List.take 2 row) =([iD n,iD n1]:List D))∧DCalls Tryz.prog e_u [.one c1,iA n,iA n1] Z (fun r Z1=>∃n2 n3:Int,∃b:Bool,(r=(.tup [iA n2,iA n3,bA b]:RV))∧∀R1:Int→Store→Prop,(∀n4:Int,∀Z2,(a_b (!b) (Qp (.a (.one .nils)) Z2) (a_b (decide (n2 < 0)) (Qp (.a (.one .nils)) Z2) (∃len1:Nat,(Len c0 len1)∧a_b (decide (n2≥(len1:Int))) (Qp (.a (.one .nils)) Z2) (DCalls Tryz.prog d_j [.one r2] Z2 (fun r6 Z3=>∃d:D,(r6=(.a (.one d) :RV))∧DCalls Tryz.prog d_o [.one d,iA n2] Z3 (fun r7 Z4=>∃b1:Bool,(r7=(.a (bA b1) :RV))∧a_b b1 (Qp (.a (.one .nils)) Z4) (a_b (n2 == n4) (Qp (.a (.one .nils)) Z4) (∃len2:Nat,(Idx Tryz.prog Z4 c0 3 len2)∧((0:Int)≤n2)∧(n2 < (len2:Int))∧∃row1:List D,(Row Z4 c0 (Int.toNat n2) row1)∧∃n5:Int,((List.take 1 (List.drop 2 row1)) =([iD n5]:List D))∧a_b (n5 != 0) (Qp (.a (.one .nils)) Z4) (Fw.newObj Z4 (.live a_h [[iD n2]]) (fun id Z5=>Qp (.a (.one (.osl id 0 1))) Z5))))))))))→R1 n4 Z2)→a_b (decide (r0≥0)) (∃len1:Nat,(Len c2 len1)∧a_b (decide (r0 < (len1:Int))) (∃len2:Nat,(Idx Tryz.prog Z1 c2 2 len2)∧((0:Int)≤r0)∧(r0 < (len2:Int))∧∃row1:List D,(Row Z1 c2 (Int.toNat r0) row1)∧∃n4:Int,((List.take 1 row1) =([iD n4]:List D))∧R1 n4 Z1) (R1 (-1) Z1)) (R1 (-1) Z1)))→R Z)→a_b r5 (Qp (.a (.one .nils)) σ) (a_b (decide (r1 < 0)) (Qp (.a (.one .nils)) σ) (∃len:Nat,(Len c2 len)∧a_b (decide (r1≥(len:Int))) (Qp (.a (.one .nils)) σ) (R σ)))
theorem a_cg (c0 c1 c2 c3 c4:D)(c5 c6 c7 c8 r0 r1:Int)(r2 r3 r4:D)(r5:Bool)(σ:Store)(Qp:RV→Store→Prop)(h:a_dp c0 c1 c2 c3 c4 c5 c6 c7 c8 r0 r1 r2 r3 r4 r5 σ Qp) :DCalls Tryz.prog j_d [.agg [c0,c1,c2,c3,c4,iD c5,iD c6,iD c7,iD c8], .agg [iD r0,iD r1,r2,r3,r4, .bool r5]] σ Qp:=
 a_a mixed (by kernel_rfl) Tryz.func22 a_az (Eq.mp (by kernel_rfl) h)
def a_cn:Ann:= { cbs:= [4,5] }
def a_fb (c0 c1 c2 c3 c4:D)(c5 c6 c7 c8:Int)(k0 k1 k2 k3 k4 k5:D)(k6:Bool)(now r:Int)(σ:Store)(Qp:RV→Store→Prop) :Prop:=
 Fw.newObj σ (.live a_h [[iD 1],[iD 2],[iD 3]]) (fun id Z=>DCalls Tryz.prog h_j [.agg [c0,c1,c2,c3,c4,iD c5,iD c6,iD c7,iD c8], .agg [k0,k1,k2,k3,k4,k5, .bool k6],iA r,iA 4,iA now, .one (.osl id 0 3)] Z (fun r1 Z1=>∃d d1 d2 d3 d4 d5:D,∃b:Bool,∃n:Int,(r1=(.tup [.agg [d,d1,d2,d3,d4,d5, .bool b],iA n]:RV))∧Qp (.tup [.agg [d,d1,d2,d3,d4,d5, .bool b],iA n]) Z1))
theorem a_ez (c0 c1 c2 c3 c4:D)(c5 c6 c7 c8:Int)(k0 k1 k2 k3 k4 k5:D)(k6:Bool)(now r:Int)(σ:Store)(Qp:RV→Store→Prop)(h:a_fb c0 c1 c2 c3 c4 c5 c6 c7 c8 k0 k1 k2 k3 k4 k5 k6 now r σ Qp) :DCalls Tryz.prog l_i [.agg [c0,c1,c2,c3,c4,iD c5,iD c6,iD c7,iD c8], .agg [k0,k1,k2,k3,k4,k5, .bool k6],iA now,iA r] σ Qp:=
 a_a mixed (by kernel_rfl) Tryz.func26 a_cn (Eq.mp (by kernel_rfl) h)
def a_g4:Ann:= { esc:= [8,9,7],cbs:= [5,6] }
def a_ih (c0 c1 c2 c3 c4:D)(c5 c6 c7 c8:Int)(k0 k1 k2 k3 k4 k5:D)(k6:Bool)(now section_ pos:Int)(σ:Store)(Qp:RV→Store→Prop) :Prop:=
 Fw.newObj σ (.live a_h [[iD now]]) (fun id Z=>Fw.newObj Z (.live a_h [[iD section_]]) (fun id1 Z1=>Fw.newObj Z1 (.live a_h [[iD pos]]) (fun id2 Z2=>∃row:List D,(Row Z2 (.osl id 0 1) 0 row)∧∃n:Int,((List.take 1 row) =([iD n]:List D))∧DCalls Tryz.prog e_l [.agg [c0,c1,c2,c3,c4,iD c5,iD c6,iD c7,iD c8], .agg [k0,k1,k2,k3,k4,k5, .bool k6],iA n, .one (.fn p_h [] [(false,[.el (.osl id1 0 1) 0 0]),(false,[.el (.osl id2 0 1) 0 0]),(false,[.el (.osl id 0 1) 0 0])])] Z2 (fun r Z3=>∃d d1 d2 d3 d4 d5:D,∃b:Bool,∃n1:Int,(r=(.tup [.agg [d,d1,d2,d3,d4,d5, .bool b],iA n1]:RV))∧Qp (.tup [.agg [d,d1,d2,d3,d4,d5, .bool b],iA n1]) Z3))))
theorem a_im (c0 c1 c2 c3 c4:D)(c5 c6 c7 c8:Int)(k0 k1 k2 k3 k4 k5:D)(k6:Bool)(now section_ pos:Int)(σ:Store)(Qp:RV→Store→Prop)(h:a_ih c0 c1 c2 c3 c4 c5 c6 c7 c8 k0 k1 k2 k3 k4 k5 k6 now section_ pos σ Qp) :DCalls Tryz.prog m_r [.agg [c0,c1,c2,c3,c4,iD c5,iD c6,iD c7,iD c8], .agg [k0,k1,k2,k3,k4,k5, .bool k6],iA now,iA section_,iA pos] σ Qp:=
 a_a mixed (by kernel_rfl) Tryz.func30 a_g4 (Eq.mp (by kernel_rfl) h)
def a_ew:Ann:= { cbs:= [4,5,6],draws:= [(13,{ ord:= [0,1,2,3,4,5,6,7,8],nb:= [],av:= [],dir:= [],sp:= [5] })],loops:= [(7,{ mods:= [(37,s6)],keep:= [8,11,36] })],joins:= [(6,{ mods:= [(8,SlotSh.bx [Sh.any,Sh.any,Sh.any,Sh.any,Sh.any,Sh.any,Sh.bool])],keep:= [4,11] })] }
def a_iu (c0 c1 c2 c3 c4:D)(c5 c6 c7 c8:Int)(k0 k1 k2 k3 k4 k5:D)(k6:Bool)(v0 v1 v2 v3:D)(now:Int)(σ:Store)(Qp:RV→Store→Prop) :Prop:=
 DCalls Tryz.prog k_3 [.agg [c0,c1,c2,c3,c4,iD c5,iD c6,iD c7,iD c8], .agg [k0,k1,k2,k3,k4,k5, .bool k6], .agg [v0,v1,v2,v3],iA now] σ (fun r Z=>∃d:D,∃b:Bool,(r=(.tup [.one d,bA b]:RV))∧a_b (!b) (DCalls Tryz.prog c_2 [.agg [k0,k1,k2,k3,k4,k5, .bool k6]] Z (fun r1 Z1=>∃d1 d2 d3 d4 d5 d6:D,∃b1:Bool,(r1=(.a (.agg [d1,d2,d3,d4,d5,d6, .bool b1]) :RV))∧Qp (.tup [.agg [d1,d2,d3,d4,d5,d6, .bool b1], .one .nils,iA 21]) Z1)) (∀R:D→D→D→D→D→D→Bool→Store→Prop,(∀d1 d2 d3 d4 d5 d6:D,∀b1:Bool,∀Z1,(∃len:Nat,(Len c4 len)∧∃I:Int→Store→Prop,∃μ:Int→Store→Nat,(I 0 Z1)∧∀n:Int,∀Z2,(I n Z2)→a_b (decide (n < (len:Int))) (DCalls Tryz.prog f_r [.one d,iA n] Z2 (fun r1 Z3=>(r1=(.tup []:RV))∧(([[d1,d2,d3,d4,d5,d6, .bool b1]]:List (List D)) =([[d1,d2,d3,d4,d5,d6, .bool b1]]:List (List D)))∧(I (w64 (n+1)) Z3)∧((μ (w64 (n+1)) Z3) < (μ n Z2)))) (DCalls Tryz.prog d_9 [.one d] Z2 (fun r1 Z3=>(r1=(.tup []:RV))∧DCalls Tryz.prog f_d [.one d] Z3 (fun r2 Z4=>(r2=(.tup []:RV))∧∃pre:List A→Store→Prop,∃post:List A→Store→RV→Store→Prop,(h_o Tryz.prog d_c pre post)∧(a_f d)∧∃s:D,∃i off:Nat,(d=(.el s i off:D))∧∃row:List D,(Row Z4 s i row)∧∃d7 d8 d9 d10 d11 d12:D,∃b2:Bool,((List.take 7 (List.drop (off+13) row)) =([d7,d8,d9,d10,d11,d12, .bool b2]:List D))∧(pre [.one d] Z4)∧∀r3:RV,∀s1:Store,(post [.one d] Z4 r3 s1)→∃d13:D,(r3=(.a (.one d13) :RV))∧Qp (.tup [.agg [d7,d8,d9,d10,d11,d12, .bool b2], .one d13,iA 0]) s1))))→R d1 d2 d3 d4 d5 d6 b1 Z1)→a_b (decide (now < 0)) (DCalls Tryz.prog c_2 [.agg [k0,k1,k2,k3,k4,k5, .bool k6]] Z (fun r1 Z1=>∃d1 d2 d3 d4 d5 d6:D,∃b1:Bool,(r1=(.a (.agg [d1,d2,d3,d4,d5,d6, .bool b1]) :RV))∧Qp (.tup [.agg [d1,d2,d3,d4,d5,d6, .bool b1], .one .nils,iA 32]) Z1)) (a_b (decide (now > 4294967295)) (DCalls Tryz.prog c_2 [.agg [k0,k1,k2,k3,k4,k5, .bool k6]] Z (fun r1 Z1=>∃d1 d2 d3 d4 d5 d6:D,∃b1:Bool,(r1=(.a (.agg [d1,d2,d3,d4,d5,d6, .bool b1]) :RV))∧Qp (.tup [.agg [d1,d2,d3,d4,d5,d6, .bool b1], .one .nils,iA 32]) Z1)) (R .nils .nils .nils .nils .nils .nils false Z))))
theorem a_hq (c0 c1 c2 c3 c4:D)(c5 c6 c7 c8:Int)(k0 k1 k2 k3 k4 k5:D)(k6:Bool)(v0 v1 v2 v3:D)(now:Int)(σ:Store)(Qp:RV→Store→Prop)(h:a_iu c0 c1 c2 c3 c4 c5 c6 c7 c8 k0 k1 k2 k3 k4 k5 k6 v0 v1 v2 v3 now σ Qp) :DCalls Tryz.prog g_r [.agg [c0,c1,c2,c3,c4,iD c5,iD c6,iD c7,iD c8], .agg [k0,k1,k2,k3,k4,k5, .bool k6], .agg [v0,v1,v2,v3],iA now] σ Qp:=
 a_a mixed (by kernel_rfl) Tryz.func34 a_ew (Eq.mp (by kernel_rfl) h)
def a_i0:Ann:= { cbs:= [2,3],draws:= [(13,{ ord:= [0,1,2,3,4,5,6,7,8,9,10,11,12,13,14,15,16,17,18,19,20,21,22,23,24,25,26,27,28,29,30,31,32,33,34,35,36],nb:= [],av:= [],dir:= [] }),(16,{ ord:= [1,2,4,5,8,0,3,6,7],nb:= [2,5],av:= [],dir:= [] })],loops:= [(5,{ mods:= [(70,s6)],keep:= [2,3,68,69] }),(11,{ mods:= [(87,s6)],keep:= [2,3,85,86] }),(17,{ mods:= [(138,s6)],keep:= [3,136,137] }),(23,{ mods:= [(165,s6)],keep:= [3,163,164] }),(29,{ mods:= [(179,s6)],keep:= [177,178] })],joins:= [(4,{ mods:= [],keep:= [2,3] })] }
def a_lg (c0 c1 c2 c3 c4:D)(c5 c6 c7 c8:Int)(k0 k1 k2 k3 k4 k5:D)(k6:Bool)(σ:Store)(Qp:RV→Store→Prop) :Prop:=
 ∃len:Nat,(Len c0 len)∧∀R:Store→Prop,(∀Z,(∃len1:Nat,(Len k0 len1)∧∃I:Int→Store→Prop,∃μ:Int→Store→Nat,(I 0 Z)∧∀n:Int,∀Z1,(I n Z1)→a_b (decide (n < (len1:Int))) (∃len2:Nat,(Idx Tryz.prog Z1 k0 1 len2)∧((0:Int)≤n)∧(n < (len2:Int))∧∃row:List D,(Row Z1 k0 (Int.toNat n) row)∧∃n1:Int,((List.take 1 row) =([iD n1]:List D))∧a_b (decide (n1 < (-2))) (Qp (.a (bA false)) Z1) (∃len3:Nat,(Len c4 len3)∧a_b (decide (n1 > (len3:Int))) (Qp (.a (bA false)) Z1) ((I (w64 (n+1)) Z1)∧((μ (w64 (n+1)) Z1) < (μ n Z1))))) (∃len2:Nat,(Len k1 len2)∧∃I1:Int→Store→Prop,∃μ1:Int→Store→Nat,(I1 0 Z1)∧∀n1:Int,∀Z2,(I1 n1 Z2)→a_b (decide (n1 < (len2:Int))) (∃len3:Nat,(Idx Tryz.prog Z2 k1 4 len3)∧((0:Int)≤n1)∧(n1 < (len3:Int))∧∃row:List D,(Row Z2 k1 (Int.toNat n1) row)∧∃n2 n3 n4 n5:Int,((List.take 4 row) =([iD n2,iD n3,iD n4,iD n5]:List D))∧a_b (decide (n2 < 0)) (Qp (.a (bA false)) Z2) (a_b (decide (n2 > 5)) (Qp (.a (bA false)) Z2) (a_b (decide (n4 < 0)) (Qp (.a (bA false)) Z2) (∃len4:Nat,(Idx Tryz.prog Z2 c4 6 len4)∧((0:Int)≤n1)∧(n1 < (len4:Int))∧∃row1:List D,(Row Z2 c4 (Int.toNat n1) row1)∧∃d:D,((List.take 1 (List.drop 2 row1)) =([d]:List D))∧∃len5:Nat,(Len d len5)∧a_b (decide (n4 > (len5:Int))) (Qp (.a (bA false)) Z2) (DCalls Tryz.prog b_r [iA n3] Z2 (fun r Z3=>∃b:Bool,(r=(.a (bA b) :RV))∧a_b (!b) (Qp (.a (bA false)) Z3) (DCalls Tryz.prog b_r [iA n5] Z3 (fun r1 Z4=>∃b1:Bool,(r1=(.a (bA b1) :RV))∧a_b (!b1) (Qp (.a (bA false)) Z4) ((I1 (w64 (n1+1)) Z4)∧((μ1 (w64 (n1+1)) Z4) < (μ1 n1 Z2))))))))))) (Fw.newObj Z2 (.live a_7 []) (fun id Z3=>a_z Tryz.prog Z3 a_7 16 (.osl id 0 0) k2 (fun d Z4=>a_z Tryz.prog Z4 a_7 16 d k3 (fun d1 Z5=>∃len3:Nat,(Len d1 len3)∧∃I2:Int→Store→Prop,∃μ2:Int→Store→Nat,(I2 0 Z5)∧∀n2:Int,∀Z6,(I2 n2 Z6)→a_b (decide (n2 < (len3:Int))) (∃len4:Nat,(Idx Tryz.prog Z6 d1 2 len4)∧((0:Int)≤n2)∧(n2 < (len4:Int))∧∃row:List D,(Row Z6 d1 (Int.toNat n2) row)∧∃n3 n4:Int,((List.take 2 row) =([iD n3,iD n4]:List D))∧a_b (decide (n3 < 0)) (Qp (.a (bA false)) Z6) (a_b (decide (n3 > 2)) (Qp (.a (bA false)) Z6) (a_b (n4 !=(-1)) (DCalls Tryz.prog b_r [iA n4] Z6 (fun r Z7=>∃b:Bool,(r=(.a (bA b) :RV))∧a_b (!b) (Qp (.a (bA false)) Z7) ((I2 (w64 (n2+1)) Z7)∧((μ2 (w64 (n2+1)) Z7) < (μ2 n2 Z6))))) ((I2 (w64 (n2+1)) Z6)∧((μ2 (w64 (n2+1)) Z6) < (μ2 n2 Z6)))))) (∃len4:Nat,(Len k5 len4)∧∃I3:Int→Store→Prop,∃μ3:Int→Store→Nat,(I3 0 Z6)∧∀n3:Int,∀Z7,(I3 n3 Z7)→a_b (decide (n3 < (len4:Int))) (∃len5:Nat,(Idx Tryz.prog Z7 k5 1 len5)∧((0:Int)≤n3)∧(n3 < (len5:Int))∧∃row:List D,(Row Z7 k5 (Int.toNat n3) row)∧∃n4:Int,((List.take 1 row) =([iD n4]:List D))∧a_b (decide (n4 < 0)) (Qp (.a (bA false)) Z7) (a_b (decide (n4 > 4294967296)) (Qp (.a (bA false)) Z7) ((I3 (w64 (n3+1)) Z7)∧((μ3 (w64 (n3+1)) Z7) < (μ3 n3 Z7))))) (∃len5:Nat,(Len k4 len5)∧∃I4:Int→Store→Prop,∃μ4:Int→Store→Nat,(I4 0 Z7)∧∀n4:Int,∀Z8,(I4 n4 Z8)→a_b (decide (n4 < (len5:Int))) (∃len6:Nat,(Idx Tryz.prog Z8 k4 8 len6)∧((0:Int)≤n4)∧(n4 < (len6:Int))∧∃row:List D,(Row Z8 k4 (Int.toNat n4) row)∧∃n5 n6 n7 n8 n9 n10 n11 n12:Int,((List.take 8 row) =([iD n5,iD n6,iD n7,iD n8,iD n9,iD n10,iD n11,iD n12]:List D))∧DCalls Tryz.prog b_r [iA n5] Z8 (fun r Z9=>∃b:Bool,(r=(.a (bA b) :RV))∧a_b (!b) (Qp (.a (bA false)) Z9) (DCalls Tryz.prog b_r [iA n6] Z9 (fun r1 Z10=>∃b1:Bool,(r1=(.a (bA b1) :RV))∧a_b (!b1) (Qp (.a (bA false)) Z10) (DCalls Tryz.prog b_r [iA n7] Z10 (fun r2 Z11=>∃b2:Bool,(r2=(.a (bA b2) :RV))∧a_b (!b2) (Qp (.a (bA false)) Z11) (DCalls Tryz.prog b_r [iA n8] Z11 (fun r3 Z12=>∃b3:Bool,(r3=(.a (bA b3) :RV))∧a_b (!b3) (Qp (.a (bA false)) Z12) (DCalls Tryz.prog b_r [iA n9] Z12 (fun r4 Z13=>∃b4:Bool,(r4=(.a (bA b4) :RV))∧a_b (!b4) (Qp (.a (bA false)) Z13) (DCalls Tryz.prog b_r [iA n10] Z13 (fun r5 Z14=>∃b5:Bool,(r5=(.a (bA b5) :RV))∧a_b (!b5) (Qp (.a (bA false)) Z14) (DCalls Tryz.prog b_r [iA n11] Z14 (fun r6 Z15=>∃b6:Bool,(r6=(.a (bA b6) :RV))∧a_b (!b6) (Qp (.a (bA false)) Z15) (a_b (decide (n12 < 0)) (Qp (.a (bA false)) Z15) (a_b (decide (n12 > 4294967296)) (Qp (.a (bA false)) Z15) ((I4 (w64 (n4+1)) Z15)∧((μ4 (w64 (n4+1)) Z15) < (μ4 n4 Z8))))))))))))))))))) (Qp (.a (bA true)) Z8)))))))))→R Z)→DCalls Tryz.prog i_u [.agg [c0,c1,c2,c3,c4,iD c5,iD c6,iD c7,iD c8]] σ (fun r Z=>∃n:Int,(r=(.a (iA n) :RV))∧a_b (n != 0) (Qp (.a (bA false)) Z) (∃len1:Nat,(Len k0 len1)∧a_b ((len1:Int) !=(len:Int)) (Qp (.a (bA false)) Z) (∃len2:Nat,(Len k2 len2)∧a_b ((len2:Int) !=(len:Int)) (Qp (.a (bA false)) Z) (∃len3:Nat,(Len k5 len3)∧a_b ((len3:Int) !=(len:Int)) (Qp (.a (bA false)) Z) (∃len4:Nat,(Len k1 len4)∧∃len5:Nat,(Len c4 len5)∧a_b ((len4:Int) !=(len5:Int)) (Qp (.a (bA false)) Z) (∃len6:Nat,(Len k3 len6)∧∃len7:Nat,(Len c3 len7)∧a_b ((len6:Int) !=(len7:Int)) (Qp (.a (bA false)) Z) (∃len8:Nat,(Len k4 len8)∧a_b ((len8:Int) != 4) (Qp (.a (bA false)) Z) (R Z))))))))
theorem a_le (c0 c1 c2 c3 c4:D)(c5 c6 c7 c8:Int)(k0 k1 k2 k3 k4 k5:D)(k6:Bool)(σ:Store)(Qp:RV→Store→Prop)(h:a_lg c0 c1 c2 c3 c4 c5 c6 c7 c8 k0 k1 k2 k3 k4 k5 k6 σ Qp) :DCalls Tryz.prog j_y [.agg [c0,c1,c2,c3,c4,iD c5,iD c6,iD c7,iD c8], .agg [k0,k1,k2,k3,k4,k5, .bool k6]] σ Qp:=
 a_a mixed (by kernel_rfl) Tryz.func38 a_i0 (Eq.mp (by kernel_rfl) h)
def p_x:Ann:= { draws:= [(7,{ ord:= [0,1,2,3,4,5,6,7,8,9,10,11,12,13,14,15,16,17,18,19,20,21,22,23,24,25,26,27,28,29,30,31],nb:= [],av:= [],dir:= [] })],loops:= [(1,{ mods:= [(11,s6)],keep:= [0,10] }),(5,{ mods:= [(25,s6)],keep:= [0,2,10,11,23,24] })] }
def r_h (j:D)(σ:Store)(Qp:RV→Store→Prop) :Prop:=
 (a_f j)∧∃s:D,∃i off:Nat,(j=(.el s i off:D))∧∃row:List D,(Row σ s i row)∧∃d:D,((List.take 1 (List.drop ((off+7) +4) row)) =([d]:List D))∧∃len:Nat,(Len d len)∧∃I:Int→Store→Prop,∃μ:Int→Store→Nat,(I 0 σ)∧∀n:Int,∀Z,(I n Z)→a_b (decide (n < (len:Int))) (DCalls Tryz.prog d_t [.one j,iA n] Z (fun r Z1=>∃b:Bool,(r=(.a (bA b) :RV))∧a_b (!b) ((I (w64 (n+1)) Z1)∧((μ (w64 (n+1)) Z1) < (μ n Z))) ((a_f j)∧∃s1:D,∃i1 off1:Nat,(j=(.el s1 i1 off1:D))∧∃row1:List D,(Row Z1 s1 i1 row1)∧∃d1 d2 d3 d4 d5:D,∃n1 n2 n3 n4:Int,((List.take 9 (List.drop (off1+7) row1)) =([d1,d2,d3,d4,d5,iD n1,iD n2,iD n3,iD n4]:List D))∧DCalls Tryz.prog g_o [.agg [d1,d2,d3,d4,d5,iD n1,iD n2,iD n3,iD n4],iA n] Z1 (fun r1 Z2=>∃d6:D,(r1=(.a (.one d6) :RV))∧∃len1:Nat,(Len d6 len1)∧∃I1:Int→Store→Prop,∃μ1:Int→Store→Nat,(I1 0 Z2)∧∀n5:Int,∀Z3,(I1 n5 Z3)→a_b (decide (n5 < (len1:Int))) (∃len2:Nat,(Idx Tryz.prog Z3 d6 2 len2)∧((0:Int)≤n5)∧(n5 < (len2:Int))∧∃row2:List D,(Row Z3 d6 (Int.toNat n5) row2)∧∃n6 n7:Int,((List.take 2 row2) =([iD n6,iD n7]:List D))∧(a_f j)∧∃s2:D,∃i2 off2:Nat,(j=(.el s2 i2 off2:D))∧∃row3:List D,(Row Z3 s2 i2 row3)∧∃d7:D,((List.take 1 (List.drop ((off2+0) +0) row3)) =([d7]:List D))∧∃len3:Nat,(Idx Tryz.prog Z3 d7 1 len3)∧((0:Int)≤n6)∧(n6 < (len3:Int))∧∃row4:List D,(Row Z3 d7 (Int.toNat n6) row4)∧∃n8:Int,((List.take 1 row4) =([iD n8]:List D))∧a_b (n8 ==(w64 (n+1))) ((a_f j)∧∃s3:D,∃i3 off3:Nat,(j=(.el s3 i3 off3:D))∧∃row5:List D,(Row Z3 s3 i3 row5)∧∃d8:D,((List.take 1 (List.drop ((off3+0) +2) row5)) =([d8]:List D))∧∃len4:Nat,(Idx Tryz.prog Z3 d8 2 len4)∧((0:Int)≤n6)∧(n6 < (len4:Int))∧∃row6:List D,(Row Z3 d8 (Int.toNat n6) row6)∧∃n9:Int,((List.take 1 row6) =([iD n9]:List D))∧DCalls Tryz.prog a_s [.one j,bA (n9 != n7),iA 4,iA n,iA n6] Z3 (fun r2 Z4=>(r2=(.tup []:RV))∧(I1 (w64 (n5+1)) Z4)∧((μ1 (w64 (n5+1)) Z4) < (μ1 n5 Z3)))) (DCalls Tryz.prog a_s [.one j,bA false,iA 4,iA n,iA n6] Z3 (fun r2 Z4=>(r2=(.tup []:RV))∧(I1 (w64 (n5+1)) Z4)∧((μ1 (w64 (n5+1)) Z4) < (μ1 n5 Z3))))) ((I (w64 (n+1)) Z3)∧((μ (w64 (n+1)) Z3) < (μ n Z))))))) (Qp (.tup []) Z)
theorem q_p (j:D)(σ:Store)(Qp:RV→Store→Prop)(h:r_h j σ Qp) :DCalls Tryz.prog d_z [.one j] σ Qp:=
 a_a mixed (by kernel_rfl) Tryz.func46 p_x (Eq.mp (by kernel_rfl) h)
def a_ir:Ann:= { loops:= [(3,{ mods:= [(3,s6),(9,s6)],keep:= [7,8] })] }
def a_lc (kind:Int)(σ:Store)(Qp:RV→Store→Prop) :Prop:=
 DCalls Tryz.prog j_8 [iA kind] σ (fun r Z=>∃d:D,(r=(.a (.one d) :RV))∧∃len:Nat,(Len d len)∧∃I:Int→Int→Store→Prop,∃μ:Int→Int→Store→Nat,(I 0 0 Z)∧∀n n1:Int,∀Z1,(I n n1 Z1)→a_b (decide (n1 < (len:Int))) (∃len1:Nat,(Idx Tryz.prog Z1 d 3 len1)∧((0:Int)≤n1)∧(n1 < (len1:Int))∧∃row:List D,(Row Z1 d (Int.toNat n1) row)∧∃n2 n3 n4:Int,((List.take 3 row) =([iD n2,iD n3,iD n4]:List D))∧(I (ite ((w64 (n3+1)) > (ite ((w64 (n2+1)) > n) (w64 (n2+1)) n)) (w64 (n3+1)) (ite ((w64 (n2+1)) > n) (w64 (n2+1)) n)) (w64 (n1+1)) Z1)∧((μ (ite ((w64 (n3+1)) > (ite ((w64 (n2+1)) > n) (w64 (n2+1)) n)) (w64 (n3+1)) (ite ((w64 (n2+1)) > n) (w64 (n2+1)) n)) (w64 (n1+1)) Z1) < (μ n n1 Z1))) (Qp (.a (iA n)) Z1))
theorem a_kd (kind:Int)(σ:Store)(Qp:RV→Store→Prop)(h:a_lc kind σ Qp) :DCalls Tryz.prog f_0 [iA kind] σ Qp:=
 a_a mixed (by kernel_rfl) Tryz.func50 a_ir (Eq.mp (by kernel_rfl) h)
def a_io:Ann:= { cbs:= [2] }
def a_k8 (c0 c1 c2 c3 c4:D)(c5 c6 c7 c8 s:Int)(σ:Store)(Qp:RV→Store→Prop) :Prop:=
 a_b (decide (s < 0)) (Qp (.a (iA (-1))) σ) (∃len:Nat,(Len c0 len)∧a_b (decide (s≥(len:Int))) (Qp (.a (iA (-1))) σ) (∃len1:Nat,(Idx Tryz.prog σ c0 3 len1)∧((0:Int)≤s)∧(s < (len1:Int))∧∃row:List D,(Row σ c0 (Int.toNat s) row)∧∃n:Int,((List.take 1 row) =([iD n]:List D))∧Qp (.a (iA n)) σ))
theorem a_ls (c0 c1 c2 c3 c4:D)(c5 c6 c7 c8 s:Int)(σ:Store)(Qp:RV→Store→Prop)(h:a_k8 c0 c1 c2 c3 c4 c5 c6 c7 c8 s σ Qp) :DCalls Tryz.prog f_y [.agg [c0,c1,c2,c3,c4,iD c5,iD c6,iD c7,iD c8],iA s] σ Qp:=
 a_a mixed (by kernel_rfl) Tryz.func54 a_io (Eq.mp (by kernel_rfl) h)
def a_bg:Ann:= { }
def a_dg (x y:Int)(σ:Store)(Qp:RV→Store→Prop) :Prop:=
 DCalls Tryz.prog h_3 [.one (.int .u64 x), .one (.int .u64 y)] σ (fun r Z=>∃n n1:Int,(r=(.tup [.one (.int .u64 n), .one (.int .u64 n1)]:RV))∧Qp (.tup [.one (.int .u64 n), .one (.int .u64 n1)]) Z)
theorem a_ch (x y:Int)(σ:Store)(Qp:RV→Store→Prop)(h:a_dg x y σ Qp) :DCalls Tryz.prog g_u [.one (.int .u64 x), .one (.int .u64 y)] σ Qp:=
 a_a mixed (by kernel_rfl) Tryz.func58 a_bg (Eq.mp (by kernel_rfl) h)
def w_h:Ann:= { }
def y_j (d a1 a2:D)(σ:Store)(Qp:RV→Store→Prop) :Prop:=
 ∃s:D,∃i off:Nat,(a1=(.el s i off:D))∧∃row:List D,(Row σ s i row)∧∃n:Int,((List.take 1 (List.drop off row)) =([iD n]:List D))∧∃s1:D,∃i1 off1:Nat,(a2=(.el s1 i1 off1:D))∧∃row1:List D,(Row σ s1 i1 row1)∧∃n1:Int,((List.take 1 (List.drop off1 row1)) =([iD n1]:List D))∧DCalls Tryz.prog f_s [.one d,iA n,iA n1] σ (fun r Z=>∃n2:Int,(r=(.a (iA n2) :RV))∧Qp (.a (iA n2)) Z)
theorem x_c (d a1 a2:D)(σ:Store)(Qp:RV→Store→Prop)(h:y_j d a1 a2 σ Qp) :DCalls Tryz.prog l_2 [.one d, .one a1, .one a2] σ Qp:=
 a_a mixed (by kernel_rfl) Tryz.func62 w_h (Eq.mp (by kernel_rfl) h)
def a_aq:Ann:= { }
def a_ce (n lo hi:Int)(σ:Store)(Qp:RV→Store→Prop) :Prop:=
 a_b (decide (lo≤n)) (Qp (.a (.one (.bool (decide (n≤hi))))) σ) (Qp (.a (bA false)) σ)
theorem a_da (n lo hi:Int)(σ:Store)(Qp:RV→Store→Prop)(h:a_ce n lo hi σ Qp) :DCalls Tryz.prog b_f [iA n,iA lo,iA hi] σ Qp:=
 a_a mixed (by kernel_rfl) Tryz.func66 a_aq (Eq.mp (by kernel_rfl) h)
def z_w:Ann:= { esc:= [3],cbs:= [2] }
def a_c2 (c0 c1 c2 c3 c4:D)(c5 c6 c7 c8 line:Int)(σ:Store)(Qp:RV→Store→Prop) :Prop:=
 Fw.newObj σ (.live a_h [[iD line]]) (fun id Z=>∃row:List D,(Row Z (.osl id 0 1) 0 row)∧∃n:Int,((List.take 1 row) =([iD n]:List D))∧a_b (decide (n < 1)) (Qp (.a (iA (-1))) Z) (DCalls Tryz.prog c_f [.one c0, .one (.fn l_8 [] [(false,[.el (.osl id 0 1) 0 0])])] Z (fun r Z1=>∃n1:Int,(r=(.a (iA n1) :RV))∧Qp (.a (iA n1)) Z1)))
theorem a_cj (c0 c1 c2 c3 c4:D)(c5 c6 c7 c8 line:Int)(σ:Store)(Qp:RV→Store→Prop)(h:a_c2 c0 c1 c2 c3 c4 c5 c6 c7 c8 line σ Qp) :DCalls Tryz.prog g_v [.agg [c0,c1,c2,c3,c4,iD c5,iD c6,iD c7,iD c8],iA line] σ Qp:=
 a_a mixed (by kernel_rfl) Tryz.func70 z_w (Eq.mp (by kernel_rfl) h)
def a_ak:Ann:= { draws:= [(1,{ ord:= [0,1,3,4,6,7,2,9,5,8,10,11,12,13,14],nb:= [4,7],av:= [],dir:= [] }),(2,{ ord:= [0,1,3,4,6,7,2,9,5,8,10,11,12,13,14],nb:= [4,7],av:= [],dir:= [] })] }
def a_c3 (k0 k1 k2 k3 k4 k5:D)(k6:Bool)(σ:Store)(Qp:RV→Store→Prop) :Prop:=
 DCalls Tryz.prog a_4 [.one k0] σ (fun r Z=>∃d:D,(r=(.a (.one d) :RV))∧DCalls Tryz.prog b_s [.one k1] Z (fun r1 Z1=>∃d1:D,(r1=(.a (.one d1) :RV))∧DCalls Tryz.prog b_b [.one k2] Z1 (fun r2 Z2=>∃d2:D,(r2=(.a (.one d2) :RV))∧DCalls Tryz.prog b_b [.one k3] Z2 (fun r3 Z3=>∃d3:D,(r3=(.a (.one d3) :RV))∧DCalls Tryz.prog b_2 [.one k4] Z3 (fun r4 Z4=>∃d4:D,(r4=(.a (.one d4) :RV))∧DCalls Tryz.prog a_4 [.one k5] Z4 (fun r5 Z5=>∃d5:D,(r5=(.a (.one d5) :RV))∧Qp (.a (.agg [d,d1,d2,d3,d4,d5, .bool k6])) Z5))))))
theorem a_cw (k0 k1 k2 k3 k4 k5:D)(k6:Bool)(σ:Store)(Qp:RV→Store→Prop)(h:a_c3 k0 k1 k2 k3 k4 k5 k6 σ Qp) :DCalls Tryz.prog c_2 [.agg [k0,k1,k2,k3,k4,k5, .bool k6]] σ Qp:=
 a_a mixed (by kernel_rfl) Tryz.func74 a_ak (Eq.mp (by kernel_rfl) h)
def n_g:Ann:= { draws:= [(9,{ ord:= [0,1,2,3,4,5,6,7,8,9,10,11],nb:= [],av:= [],dir:= [] })],loops:= [(3,{ mods:= [(20,s6)],keep:= [0,3,18,19] })] }
def n_6 (x:D)(σ:Store)(Qp:RV→Store→Prop) :Prop:=
 (a_f x)∧∃s:D,∃i off:Nat,(x=(.el s i off:D))∧∃row:List D,(Row σ s i row)∧∃d:D,((List.take 1 (List.drop ((off+4) +2) row)) =([d]:List D))∧∃len:Nat,(Len d len)∧((0:Int)≤(len:Int))∧((len:Int)≤(len:Int))∧(((8:Int) * (len:Int))≤(2 ^ 48))∧Fw.newObj σ (.live a_h (List.replicate (Int.toNat (len:Int)) [iD 0])) (fun id Z=>(a_f x)∧∃s1:D,∃i1 off1:Nat,(x=(.el s1 i1 off1:D))∧∃row1:List D,(Row Z s1 i1 row1)∧∃d1:D,((List.take 1 (List.drop ((off1+4) +4) row1)) =([d1]:List D))∧∃len1:Nat,(Len d1 len1)∧∃I:Int→Store→Prop,∃μ:Int→Store→Nat,(I 0 Z)∧∀n:Int,∀Z1,(I n Z1)→a_b (decide (n < (len1:Int))) (∃len2:Nat,(Idx Tryz.prog Z1 d1 6 len2)∧((0:Int)≤n)∧(n < (len2:Int))∧∃row2:List D,(Row Z1 d1 (Int.toNat n) row2)∧∃n1 n2:Int,∃d2 d3 d4:D,∃b:Bool,((List.take 6 row2) =([iD n1,iD n2,d2,d3,d4, .bool b]:List D))∧(a_f x)∧∃s2:D,∃i2 off2:Nat,(x=(.el s2 i2 off2:D))∧∃row3:List D,(Row Z1 s2 i2 row3)∧∃d5:D,((List.take 1 (List.drop ((off2+13) +1) row3)) =([d5]:List D))∧∃len3:Nat,(Idx Tryz.prog Z1 d5 4 len3)∧((0:Int)≤n)∧(n < (len3:Int))∧∃row4:List D,(Row Z1 d5 (Int.toNat n) row4)∧∃n3:Int,((List.take 1 row4) =([iD n3]:List D))∧a_b (n3 != 2) ((I (w64 (n+1)) Z1)∧((μ (w64 (n+1)) Z1) < (μ n Z1))) (a_b b (∃len4:Nat,(Idx Tryz.prog Z1 (.osl id 0 (Int.toNat (len:Int))) 1 len4)∧((0:Int)≤n1)∧(n1 < (len4:Int))∧∃row5:List D,(Row Z1 (.osl id 0 (Int.toNat (len:Int))) (Int.toNat n1) row5)∧∃n4:Int,((List.take 1 row5) =([iD n4]:List D))∧∃len5:Nat,(Idx Tryz.prog Z1 (.osl id 0 (Int.toNat (len:Int))) 1 len5)∧((0:Int)≤n1)∧(n1 < (len5:Int))∧a_j [iD (ite ((1:Int) > n4) 1 n4)] Z1 (.osl id 0 (Int.toNat (len:Int))) (Int.toNat n1) 0 (fun Z2=>(I (w64 (n+1)) Z2)∧((μ (w64 (n+1)) Z2) < (μ n Z1)))) (∃len4:Nat,(Idx Tryz.prog Z1 (.osl id 0 (Int.toNat (len:Int))) 1 len4)∧((0:Int)≤n1)∧(n1 < (len4:Int))∧∃row5:List D,(Row Z1 (.osl id 0 (Int.toNat (len:Int))) (Int.toNat n1) row5)∧∃n4:Int,((List.take 1 row5) =([iD n4]:List D))∧∃len5:Nat,(Idx Tryz.prog Z1 (.osl id 0 (Int.toNat (len:Int))) 1 len5)∧((0:Int)≤n1)∧(n1 < (len5:Int))∧a_j [iD (ite ((2:Int) > n4) 2 n4)] Z1 (.osl id 0 (Int.toNat (len:Int))) (Int.toNat n1) 0 (fun Z2=>(I (w64 (n+1)) Z2)∧((μ (w64 (n+1)) Z2) < (μ n Z1)))))) (Qp (.a (.one (.osl id 0 (Int.toNat (len:Int))))) Z1))
theorem o_t (x:D)(σ:Store)(Qp:RV→Store→Prop)(h:n_6 x σ Qp) :DCalls Tryz.prog d_c [.one x] σ Qp:=
 a_a mixed (by kernel_rfl) Tryz.func78 n_g (Eq.mp (by kernel_rfl) h)
def t_m:Ann:= { }
def v_i (w list:D)(σ:Store)(Qp:RV→Store→Prop) :Prop:=
 DCalls Tryz.prog c_8 [.one w,iA 32, .one list] σ (fun r Z=>(r=(.tup []:RV))∧Qp (.tup []) Z)
theorem w_r (w list:D)(σ:Store)(Qp:RV→Store→Prop)(h:v_i w list σ Qp) :DCalls Tryz.prog g_2 [.one w, .one list] σ Qp:=
 a_a mixed (by kernel_rfl) Tryz.func82 t_m (Eq.mp (by kernel_rfl) h)
def t_v:Ann:= { }
def v_2 (r:D)(σ:Store)(Qp:RV→Store→Prop) :Prop:=
 DCalls Tryz.prog c_6 [.one r,iA 1] σ (fun r1 Z=>∃n:Int,(r1=(.a (iA n) :RV))∧Qp (.a (iA n)) Z)
theorem v_x (r:D)(σ:Store)(Qp:RV→Store→Prop)(h:v_2 r σ Qp) :DCalls Tryz.prog e_1 [.one r] σ Qp:=
 a_a mixed (by kernel_rfl) Tryz.func86 t_v (Eq.mp (by kernel_rfl) h)
def o_y:Ann:= { loops:= [(3,{ mods:= [(3,s6),(11,s6)],keep:= [0,9,10] }),(11,{ mods:= [(6,SlotSh.one (Sh.any)),(27,s6)],keep:= [25,26] })] }
def p_1 (slices:D)(σ:Store)(Qp:RV→Store→Prop) :Prop:=
 ∃len:Nat,(Len slices len)∧∃I:Int→Int→Store→Prop,∃μ:Int→Int→Store→Nat,(I 0 0 σ)∧∀n n1:Int,∀Z,(I n n1 Z)→a_b (decide (n1 < (len:Int))) (∃len1:Nat,(Idx Tryz.prog Z slices 1 len1)∧((0:Int)≤n1)∧(n1 < (len1:Int))∧∃row:List D,(Row Z slices (Int.toNat n1) row)∧∃d:D,((List.take 1 row) =([d]:List D))∧∃len2:Nat,(Len d len2)∧a_b (decide ((w64 (n+ (len2:Int))) < 0)) False ((I (w64 (n+ (len2:Int))) (w64 (n1+1)) Z)∧((μ (w64 (n+ (len2:Int))) (w64 (n1+1)) Z) < (μ n n1 Z)))) (DCalls Tryz.prog f_9 [.one .nils,iA n] Z (fun r Z1=>∃d:D,(r=(.a (.one d) :RV))∧∃len1:Nat,(Len slices len1)∧∃I1:D→Int→Store→Prop,∃μ1:D→Int→Store→Nat,(I1 d 0 Z1)∧∀d1:D,∀n2:Int,∀Z2,(I1 d1 n2 Z2)→a_b (decide (n2 < (len1:Int))) (∃len2:Nat,(Idx Tryz.prog Z2 slices 1 len2)∧((0:Int)≤n2)∧(n2 < (len2:Int))∧∃row:List D,(Row Z2 slices (Int.toNat n2) row)∧∃d2:D,((List.take 1 row) =([d2]:List D))∧a_z Tryz.prog Z2 a_7 16 d1 d2 (fun d3 Z3=>(I1 d3 (w64 (n2+1)) Z3)∧((μ1 d3 (w64 (n2+1)) Z3) < (μ1 d1 n2 Z2)))) (Qp (.a (.one d1)) Z2)))
theorem p_3 (slices:D)(σ:Store)(Qp:RV→Store→Prop)(h:p_1 slices σ Qp) :DCalls Tryz.prog f_e [.one slices] σ Qp:=
 a_a mixed (by kernel_rfl) Tryz.func94 o_y (Eq.mp (by kernel_rfl) h)
def v_e:Ann:= { esc:= [9],cbs:= [2],loops:= [(4,{ mods:= [(7,SlotSh.one (Sh.any)),(19,s6)],keep:= [5,17,18] })] }
def y_9 (c0 c1 c2 c3 c4:D)(c5 c6 c7 c8 r:Int)(σ:Store)(Qp:RV→Store→Prop) :Prop:=
 DCalls Tryz.prog i_x [.agg [c0,c1,c2,c3,c4,iD c5,iD c6,iD c7,iD c8],iA r] σ (fun r1 Z=>∃n n1:Int,∃d d1 d2:D,∃b b1:Bool,(r1=(.tup [.agg [iD n,iD n1,d,d1,d2, .bool b],bA b1]:RV))∧∃len:Nat,(Len c3 len)∧∃I:D→Int→Store→Prop,∃μ:D→Int→Store→Nat,(I .nils 0 Z)∧∀d3:D,∀n2:Int,∀Z1,(I d3 n2 Z1)→a_b (decide (n2 < (len:Int))) (∃len1:Nat,(Idx Tryz.prog Z1 c3 1 len1)∧((0:Int)≤n2)∧(n2 < (len1:Int))∧∃row:List D,(Row Z1 c3 (Int.toNat n2) row)∧∃n3:Int,((List.take 1 row) =([iD n3]:List D))∧Fw.newObj Z1 (.live a_h [[iD 0]]) (fun id Z2=>a_j [iD n3] Z2 (.osl id 0 1) 0 0 (fun Z3=>DCalls Tryz.prog c_d [.one d, .one (.fn j_o [] [(false,[.el (.osl id 0 1) 0 0])])] Z3 (fun r2 Z4=>∃b2:Bool,(r2=(.a (bA b2) :RV))∧a_b b2 (Fw.newObj Z4 (.live a_h [[iD n2]]) (fun id1 Z5=>a_z Tryz.prog Z5 a_h 8 d3 (.osl id1 0 1) (fun d4 Z6=>(([[iD n,iD n1,d,d1,d2, .bool b]]:List (List D)) =([[iD n,iD n1,d,d1,d2, .bool b]]:List (List D)))∧(I d4 (w64 (n2+1)) Z6)∧((μ d4 (w64 (n2+1)) Z6) < (μ d3 n2 Z1))))) ((([[iD n,iD n1,d,d1,d2, .bool b]]:List (List D)) =([[iD n,iD n1,d,d1,d2, .bool b]]:List (List D)))∧(I d3 (w64 (n2+1)) Z4)∧((μ d3 (w64 (n2+1)) Z4) < (μ d3 n2 Z1))))))) (Qp (.a (.one d3)) Z1))
theorem w_7 (c0 c1 c2 c3 c4:D)(c5 c6 c7 c8 r:Int)(σ:Store)(Qp:RV→Store→Prop)(h:y_9 c0 c1 c2 c3 c4 c5 c6 c7 c8 r σ Qp) :DCalls Tryz.prog d_0 [.agg [c0,c1,c2,c3,c4,iD c5,iD c6,iD c7,iD c8],iA r] σ Qp:=
 a_a mixed (by kernel_rfl) Tryz.func98 v_e (Eq.mp (by kernel_rfl) h)
def w_d:Ann:= { }
def l_6 (x y:Int)(σ:Store)(Qp:RV→Store→Prop) :Prop:=
 Qp (.tup [.one (.int .u64 (IntKind.wrap .u64 ((IntKind.wrap .u64 ((IntKind.wrap .u64 ((Int.fdiv x (2 ^ 32)) * (Int.fdiv y (2 ^ 32)))) + (Int.fdiv (IntKind.wrap .u64 ((IntKind.wrap .u64 ((Int.fdiv x (2 ^ 32)) * (IntKind.wrap .u64 (BitVec.toNat ((BitVec.ofInt 64 y) &&& (BitVec.ofInt 64 4294967295)) :Int)))) + (Int.fdiv (IntKind.wrap .u64 ((IntKind.wrap .u64 (BitVec.toNat ((BitVec.ofInt 64 x) &&& (BitVec.ofInt 64 4294967295)) :Int)) * (IntKind.wrap .u64 (BitVec.toNat ((BitVec.ofInt 64 y) &&& (BitVec.ofInt 64 4294967295)) :Int)))) (2 ^ 32)))) (2 ^ 32)))) + (Int.fdiv (IntKind.wrap .u64 ((IntKind.wrap .u64 (BitVec.toNat ((BitVec.ofInt 64 (IntKind.wrap .u64 ((IntKind.wrap .u64 ((Int.fdiv x (2 ^ 32)) * (IntKind.wrap .u64 (BitVec.toNat ((BitVec.ofInt 64 y) &&& (BitVec.ofInt 64 4294967295)) :Int)))) + (Int.fdiv (IntKind.wrap .u64 ((IntKind.wrap .u64 (BitVec.toNat ((BitVec.ofInt 64 x) &&& (BitVec.ofInt 64 4294967295)) :Int)) * (IntKind.wrap .u64 (BitVec.toNat ((BitVec.ofInt 64 y) &&& (BitVec.ofInt 64 4294967295)) :Int)))) (2 ^ 32))))) &&& (BitVec.ofInt 64 4294967295)) :Int)) + (IntKind.wrap .u64 ((IntKind.wrap .u64 (BitVec.toNat ((BitVec.ofInt 64 x) &&& (BitVec.ofInt 64 4294967295)) :Int)) * (Int.fdiv y (2 ^ 32)))))) (2 ^ 32))))), .one (.int .u64 (IntKind.wrap .u64 (x * y)))]) σ
theorem y_f (x y:Int)(σ:Store)(Qp:RV→Store→Prop)(h:l_6 x y σ Qp) :DCalls Tryz.prog h_3 [.one (.int .u64 x), .one (.int .u64 y)] σ Qp:=
 a_a mixed (by kernel_rfl) Tryz.func103 w_d (Eq.mp (by kernel_rfl) h)
def y_e:Ann:= { loops:= [(2,{ mods:= [(17,s6)],keep:= [0,1,2,15,16] }),(8,{ mods:= [(38,s6)],keep:= [0,1,36,37] })] }
def a_aa (d:D)(r:Int)(sections:D)(σ:Store)(Qp:RV→Store→Prop) :Prop:=
 (a_f d)∧∃s:D,∃i off:Nat,(d=(.el s i off:D))∧∃row:List D,(Row σ s i row)∧∃d1:D,((List.take 1 (List.drop ((off+9) +1) row)) =([d1]:List D))∧∃len:Nat,(Len d1 len)∧∃I:Int→Store→Prop,∃μ:Int→Store→Nat,(I 0 σ)∧∀n:Int,∀Z,(I n Z)→a_b (decide (n < (len:Int))) (∃len1:Nat,(Idx Tryz.prog Z d1 4 len1)∧((0:Int)≤n)∧(n < (len1:Int))∧∃row1:List D,(Row Z d1 (Int.toNat n) row1)∧∃n1 n2 n3 n4:Int,((List.take 4 row1) =([iD n1,iD n2,iD n3,iD n4]:List D))∧a_b (n1 != 0) ((a_f d)∧∃s1:D,∃i1 off1:Nat,(d=(.el s1 i1 off1:D))∧∃row2:List D,(Row Z s1 i1 row2)∧∃d2 d3 d4 d5 d6:D,∃n5 n6 n7 n8:Int,((List.take 9 (List.drop (off1+0) row2)) =([d2,d3,d4,d5,d6,iD n5,iD n6,iD n7,iD n8]:List D))∧DCalls Tryz.prog g_s [.agg [d2,d3,d4,d5,d6,iD n5,iD n6,iD n7,iD n8],iA n] Z (fun r1 Z1=>∃n9:Int,(r1=(.a (iA n9) :RV))∧DCalls Tryz.prog b_1 [.one sections,iA n9] Z1 (fun r2 Z2=>∃b:Bool,(r2=(.a (bA b) :RV))∧a_b b (Qp (.a (iA 23)) Z2) ((I (w64 (n+1)) Z2)∧((μ (w64 (n+1)) Z2) < (μ n Z)))))) ((I (w64 (n+1)) Z)∧((μ (w64 (n+1)) Z) < (μ n Z)))) (∃len1:Nat,(Len sections len1)∧∃I1:Int→Store→Prop,∃μ1:Int→Store→Nat,(I1 0 Z)∧∀n1:Int,∀Z1,(I1 n1 Z1)→a_b (decide (n1 < (len1:Int))) (∃len2:Nat,(Idx Tryz.prog Z1 sections 1 len2)∧((0:Int)≤n1)∧(n1 < (len2:Int))∧∃row1:List D,(Row Z1 sections (Int.toNat n1) row1)∧∃n2:Int,((List.take 1 row1) =([iD n2]:List D))∧(a_f d)∧∃s1:D,∃i1 off1:Nat,(d=(.el s1 i1 off1:D))∧∃row2:List D,(Row Z1 s1 i1 row2)∧∃d2:D,((List.take 1 (List.drop ((off1+9) +0) row2)) =([d2]:List D))∧∃len3:Nat,(Idx Tryz.prog Z1 d2 1 len3)∧((0:Int)≤n2)∧(n2 < (len3:Int))∧∃row3:List D,(Row Z1 d2 (Int.toNat n2) row3)∧∃n3:Int,((List.take 1 row3) =([iD n3]:List D))∧a_b (n3 != 0) (DCalls Tryz.prog f_b [.one d,iA r,iA n2] Z1 (fun r1 Z2=>∃b:Bool,(r1=(.a (bA b) :RV))∧a_b (!b) (Qp (.a (iA 22)) Z2) ((I1 (w64 (n1+1)) Z2)∧((μ1 (w64 (n1+1)) Z2) < (μ1 n1 Z1))))) ((I1 (w64 (n1+1)) Z1)∧((μ1 (w64 (n1+1)) Z1) < (μ1 n1 Z1)))) (Qp (.a (iA 0)) Z1))
theorem z_u (d:D)(r:Int)(sections:D)(σ:Store)(Qp:RV→Store→Prop)(h:a_aa d r sections σ Qp) :DCalls Tryz.prog i_p [.one d,iA r, .one sections] σ Qp:=
 a_a mixed (by kernel_rfl) Tryz.func107 y_e (Eq.mp (by kernel_rfl) h)
def t_b:Ann:= { }
def v_7 (s:D)(σ:Store)(Qp:RV→Store→Prop) :Prop:=
 ∃b:Bool,(h_6 .sl s b)∧a_b (b != false) (Qp (.a (.one .nils)) σ) (Fw.newObj σ (.live a_h []) (fun id Z=>a_z Tryz.prog Z a_h 8 (.osl id 0 0) s (fun d Z1=>Qp (.a (.one d)) Z1)))
theorem w_x (s:D)(σ:Store)(Qp:RV→Store→Prop)(h:v_7 s σ Qp) :DCalls Tryz.prog a_4 [.one s] σ Qp:=
 a_a mixed (by kernel_rfl) Tryz.func111 t_b (Eq.mp (by kernel_rfl) h)
def v_j:Ann:= { cbs:= [2] }
def x_8 (s0 s1 s2:Int)(a1:D)(σ:Store)(Qp:RV→Store→Prop) :Prop:=
 ∃s:D,∃i off:Nat,(a1=(.el s i off:D))∧∃row:List D,(Row σ s i row)∧∃n:Int,((List.take 1 (List.drop off row)) =([iD n]:List D))∧Qp (.a (bA (s2 == n))) σ
theorem y_u (s0 s1 s2:Int)(a1:D)(σ:Store)(Qp:RV→Store→Prop)(h:x_8 s0 s1 s2 a1 σ Qp) :DCalls Tryz.prog l_8 [.agg [iD s0,iD s1,iD s2], .one a1] σ Qp:=
 a_a mixed (by kernel_rfl) Tryz.func115 v_j (Eq.mp (by kernel_rfl) h)
def t_4:Ann:= { loops:= [(2,{ mods:= [(10,s6)],keep:= [0,8,9] })] }
def w_g (e_ sections:D)(σ:Store)(Qp:RV→Store→Prop) :Prop:=
 ∃len:Nat,(Len sections len)∧∃I:Int→Store→Prop,∃μ:Int→Store→Nat,(I 0 σ)∧∀n:Int,∀Z,(I n Z)→a_b (decide (n < (len:Int))) (∃len1:Nat,(Idx Tryz.prog Z sections 1 len1)∧((0:Int)≤n)∧(n < (len1:Int))∧∃row:List D,(Row Z sections (Int.toNat n) row)∧∃n1:Int,((List.take 1 row) =([iD n1]:List D))∧(a_f e_)∧∃s:D,∃i off:Nat,(e_=(.el s i off:D))∧∃row1:List D,(Row Z s i row1)∧∃d:D,((List.take 1 (List.drop ((off+0) +0) row1)) =([d]:List D))∧∃len2:Nat,(Idx Tryz.prog Z d 3 len2)∧((0:Int)≤n1)∧(n1 < (len2:Int))∧∃row2:List D,(Row Z d (Int.toNat n1) row2)∧∃n2 n3:Int,∃b:Bool,((List.take 3 row2) =([iD n2,iD n3, .bool b]:List D))∧a_b (!b) (Qp (.a (bA false)) Z) (a_b (n2 != 0) (Qp (.a (bA false)) Z) ((I (w64 (n+1)) Z)∧((μ (w64 (n+1)) Z) < (μ n Z))))) (Qp (.a (bA true)) Z)
theorem u_9 (e_ sections:D)(σ:Store)(Qp:RV→Store→Prop)(h:w_g e_ sections σ Qp) :DCalls Tryz.prog b_8 [.one e_, .one sections] σ Qp:=
 a_a mixed (by kernel_rfl) Tryz.func119 t_4 (Eq.mp (by kernel_rfl) h)
def q_r:Ann:= { loops:= [(1,{ mods:= [(12,s6)],keep:= [0,1,10,11] }),(7,{ mods:= [(8,SlotSh.one (Sh.any)),(9,s6)],keep:= [0,1,7,10,11,12] })],joins:= [(5,{ mods:= [],keep:= [0,1,7,10,11,12] })] }
def t_e (w:D)(bits:Int)(list:D)(σ:Store)(Qp:RV→Store→Prop) :Prop:=
 ∃len:Nat,(Len list len)∧∃I:Int→Store→Prop,∃μ:Int→Store→Nat,(I 0 σ)∧∀n:Int,∀Z,(I n Z)→a_b (decide (n < (len:Int))) (∃len1:Nat,(Idx Tryz.prog Z list 1 len1)∧((0:Int)≤n)∧(n < (len1:Int))∧∃row:List D,(Row Z list (Int.toNat n) row)∧∃n1:Int,((List.take 1 row) =([iD n1]:List D))∧∀R:Store→Prop,(∀Z1,(∃I1:D→Int→Store→Prop,∃μ1:D→Int→Store→Nat,(I1 .nils (w64 (bits - 8)) Z1)∧∀d:D,∀n2:Int,∀Z2,(I1 d n2 Z2)→a_b (decide (n2≥0)) (((0:Int)≤(IntKind.wrap .u64 n2))∧Fw.newObj Z2 (.live f_v [[.int .u8 (IntKind.wrap .u8 (Int.fdiv n1 (2 ^ (Min.min (Int.toNat (IntKind.wrap .u64 n2)) 64))))]]) (fun id Z3=>a_z Tryz.prog Z3 f_v 1 d (.osl id 0 1) (fun d1 Z4=>(I1 d1 (w64 (n2 - 8)) Z4)∧((μ1 d1 (w64 (n2 - 8)) Z4) < (μ1 d n2 Z2))))) (DCalls Tryz.prog h_5 [.one w, .one d] Z2 (fun r Z3=>(r=(.tup []:RV))∧(I (w64 (n+1)) Z3)∧((μ (w64 (n+1)) Z3) < (μ n Z)))))→R Z1)→a_b (decide (n1 < 0)) ((a_f w)∧∃s:D,∃i off:Nat,(w=(.el s i off:D))∧DCalls Tryz.prog b_t [.one (.el s i (off+0)),iA 32] Z (fun r Z1=>(r=(.tup []:RV))∧R Z1)) (((0:Int)≤(IntKind.wrap .u64 bits))∧a_b ((Int.fdiv n1 (2 ^ (Min.min (Int.toNat (IntKind.wrap .u64 bits)) 64))) != 0) ((a_f w)∧∃s:D,∃i off:Nat,(w=(.el s i off:D))∧DCalls Tryz.prog b_t [.one (.el s i (off+0)),iA 32] Z (fun r Z1=>(r=(.tup []:RV))∧R Z1)) (R Z))) (Qp (.tup []) Z)
theorem t_i (w:D)(bits:Int)(list:D)(σ:Store)(Qp:RV→Store→Prop)(h:t_e w bits list σ Qp) :DCalls Tryz.prog c_8 [.one w,iA bits, .one list] σ Qp:=
 a_a mixed (by kernel_rfl) Tryz.func123 q_r (Eq.mp (by kernel_rfl) h)
def r_7:Ann:= { cbs:= [1],draws:= [(6,{ ord:= [0,1,2,3,4,5,6],nb:= [],av:= [],dir:= [] })],loops:= [(3,{ mods:= [(14,s6)],keep:= [1,3,12,13] })] }
def t_w (p0 p1 p2 p3 p4:D)(p5 p6 p7 p8:Int)(σ:Store)(Qp:RV→Store→Prop) :Prop:=
 Fw.newObj σ (.mp 0 []) (fun id Z=>∃len:Nat,(Len p2 len)∧∃I:Int→Store→Prop,∃μ:Int→Store→Nat,(I 0 Z)∧∀n:Int,∀Z1,(I n Z1)→a_b (decide (n < (len:Int))) (∃len1:Nat,(Idx Tryz.prog Z1 p2 2 len1)∧((0:Int)≤n)∧(n < (len1:Int))∧∃row:List D,(Row Z1 p2 (Int.toNat n) row)∧∃n1 n2:Int,((List.take 2 row) =([iD n1,iD n2]:List D))∧DCalls Tryz.prog f_m [.one p1,iA n1,iA n2] Z1 (fun r Z2=>∃n3 n4:Int,∃b:Bool,(r=(.tup [iA n3,iA n4,bA b]:RV))∧∃r1:Option A,(i_3 Tryz.prog e_6 Z2 (.omap id) (.agg [iD n1,iD n2]) r1)∧∃n5:Int,((Option.getD r1 (iA 0)) =(iA n5:A))∧a_lf Tryz.prog e_6 Z2 (.omap id) (.agg [iD n1,iD n2]) (iA 0) (fun (v:A)=>fun n6 Z3=>a_f4 Z3 (.omap id) n6 (.one (iD (w64 (n5+1)))) (fun Z4=>a_b (!b) (Qp (.a (bA false)) Z4) (∃r2:Option A,(i_3 Tryz.prog e_6 Z4 (.omap id) (.agg [iD n1,iD n2]) r2)∧∃n7:Int,((Option.getD r2 (iA 0)) =(iA n7:A))∧a_b (decide (n7 > 1)) (Qp (.a (bA false)) Z4) ((I (w64 (n+1)) Z4)∧((μ (w64 (n+1)) Z4) < (μ n Z1)))))))) (∃len1:Nat,(Len p2 len1)∧Qp (.a (.one (.bool (decide ((len1:Int)≤12))))) Z1))
theorem t_h (p0 p1 p2 p3 p4:D)(p5 p6 p7 p8:Int)(σ:Store)(Qp:RV→Store→Prop)(h:t_w p0 p1 p2 p3 p4 p5 p6 p7 p8 σ Qp) :DCalls Tryz.prog g_a [.agg [p0,p1,p2,p3,p4,iD p5,iD p6,iD p7,iD p8]] σ Qp:=
 a_a mixed (by kernel_rfl) Tryz.func127 r_7 (Eq.mp (by kernel_rfl) h)
def r_j:Ann:= { }
def t_8 (n:Int)(σ:Store)(Qp:RV→Store→Prop) :Prop:=
 a_b (decide (n < 0)) False (∃len:Nat,(Len .nils len)∧a_b (decide ((w64 (n - (w64 (0 - (len:Int))))) > 0)) (∃len1:Nat,(IdxN Tryz.prog σ .nils 2 len1)∧((0:Int)≤0)∧((0:Int)≤0)∧((0:Int)≤(len1:Int))∧((0:Int)≤(w64 (n - (w64 (0 - (len:Int))))))∧(((16:Int) * (w64 (n - (w64 (0 - (len:Int))))))≤(2 ^ 47))∧a_b (decide ((w64 (n - (w64 (0 - (len:Int)))) :Int) =0)) (∃len2:Nat,(Len .nils len2)∧∃len3:Nat,(IdxN Tryz.prog σ .nils 2 len3)∧((0:Int)≤0)∧((0:Int)≤(len2:Int))∧((len2:Int)≤(len3:Int))∧Qp (.a (.one .nils)) σ) (Fw.newObj σ (.live a_7 (List.replicate (Int.toNat (w64 (n - (w64 (0 - (len:Int)))))) [iD 0,iD 0])) (fun id Z=>∃len2:Nat,(Len .nils len2)∧∃len3:Nat,(IdxN Tryz.prog Z (.osl id 0 (Int.toNat (w64 (n - (w64 (0 - (len:Int))))))) 2 len3)∧((0:Int)≤0)∧((0:Int)≤(len2:Int))∧((len2:Int)≤(len3:Int))∧Qp (.a (.one (.osl id 0 ((Int.toNat (len2:Int)) - 0)))) Z))) (Qp (.a (.one .nils)) σ))
theorem t_9 (n:Int)(σ:Store)(Qp:RV→Store→Prop)(h:t_8 n σ Qp) :DCalls Tryz.prog f_9 [.one .nils,iA n] σ Qp:=
 a_a mixed (by kernel_rfl) Tryz.func131 r_j (Eq.mp (by kernel_rfl) h)
def q_6:Ann:= { cbs:= [2] }
def t_2 (s0 s1 s2:Int)(a1:D)(σ:Store)(Qp:RV→Store→Prop) :Prop:=
 ∃s:D,∃i off:Nat,(a1=(.el s i off:D))∧∃row:List D,(Row σ s i row)∧∃n:Int,((List.take 1 (List.drop off row)) =([iD n]:List D))∧Qp (.a (bA (s0 == n))) σ
theorem t_u (s0 s1 s2:Int)(a1:D)(σ:Store)(Qp:RV→Store→Prop)(h:t_2 s0 s1 s2 a1 σ Qp) :DCalls Tryz.prog j_o [.agg [iD s0,iD s1,iD s2], .one a1] σ Qp:=
 a_a mixed (by kernel_rfl) Tryz.func135 q_6 (Eq.mp (by kernel_rfl) h)
def t_q:Ann:= { loops:= [(2,{ mods:= [(8,s6)],keep:= [0,1,7] })] }
def v_n (s:D)(v:Int)(σ:Store)(Qp:RV→Store→Prop) :Prop:=
 ∃len:Nat,(Len s len)∧∃I:Int→Store→Prop,∃μ:Int→Store→Nat,(I 0 σ)∧∀n:Int,∀Z,(I n Z)→a_b (decide (n < (len:Int))) (∃len1:Nat,(Idx Tryz.prog Z s 1 len1)∧((0:Int)≤n)∧(n < (len1:Int))∧∃row:List D,(Row Z s (Int.toNat n) row)∧∃n1:Int,((List.take 1 row) =([iD n1]:List D))∧a_b (v == n1) (Qp (.a (iA n)) Z) ((I (w64 (n+1)) Z)∧((μ (w64 (n+1)) Z) < (μ n Z)))) (Qp (.a (iA (-1))) Z)
theorem w_v (s:D)(v:Int)(σ:Store)(Qp:RV→Store→Prop)(h:v_n s v σ Qp) :DCalls Tryz.prog e_0 [.one s,iA v] σ Qp:=
 a_a mixed (by kernel_rfl) Tryz.func140 t_q (Eq.mp (by kernel_rfl) h)
def r_u:Ann:= { loops:= [(2,{ mods:= [(16,s6)],keep:= [0,14,15] })] }
def t_y (x:D)(r:Int)(σ:Store)(Qp:RV→Store→Prop) :Prop:=
 (a_f x)∧∃s:D,∃i off:Nat,(x=(.el s i off:D))∧∃row:List D,(Row σ s i row)∧∃d:D,((List.take 1 (List.drop (off+22) row)) =([d]:List D))∧∃len:Nat,(Idx Tryz.prog σ d 1 len)∧((0:Int)≤r)∧(r < (len:Int))∧∃row1:List D,(Row σ d (Int.toNat r) row1)∧∃d1:D,((List.take 1 row1) =([d1]:List D))∧∃len1:Nat,(Len d1 len1)∧∃I:Int→Store→Prop,∃μ:Int→Store→Nat,(I 0 σ)∧∀n:Int,∀Z,(I n Z)→a_b (decide (n < (len1:Int))) (∃len2:Nat,(Idx Tryz.prog Z d1 1 len2)∧((0:Int)≤n)∧(n < (len2:Int))∧∃row2:List D,(Row Z d1 (Int.toNat n) row2)∧∃n1:Int,((List.take 1 row2) =([iD n1]:List D))∧(a_f x)∧∃s1:D,∃i1 off1:Nat,(x=(.el s1 i1 off1:D))∧∃row3:List D,(Row Z s1 i1 row3)∧∃d2:D,((List.take 1 (List.drop ((off1+4) +0) row3)) =([d2]:List D))∧∃len3:Nat,(Idx Tryz.prog Z d2 3 len3)∧((0:Int)≤n1)∧(n1 < (len3:Int))∧∃row4:List D,(Row Z d2 (Int.toNat n1) row4)∧∃n2:Int,((List.take 1 (List.drop 2 row4)) =([iD n2]:List D))∧a_b (decide (n2 > 0)) ((a_f x)∧∃s2:D,∃i2 off2:Nat,(x=(.el s2 i2 off2:D))∧∃row5:List D,(Row Z s2 i2 row5)∧∃d3:D,((List.take 1 (List.drop ((off2+13) +4) row5)) =([d3]:List D))∧∃len4:Nat,(Idx Tryz.prog Z d3 8 len4)∧((0:Int)≤n2)∧(n2 < (len4:Int))∧Qp (.a (.one (.el d3 (Int.toNat n2) 0))) Z) ((I (w64 (n+1)) Z)∧((μ (w64 (n+1)) Z) < (μ n Z)))) (Qp (.a (.one .nilp)) Z)
theorem t_s (x:D)(r:Int)(σ:Store)(Qp:RV→Store→Prop)(h:t_y x r σ Qp) :DCalls Tryz.prog e_c [.one x,iA r] σ Qp:=
 a_a mixed (by kernel_rfl) Tryz.func144 r_u (Eq.mp (by kernel_rfl) h)
def v_s:Ann:= { draws:= [(0,{ ord:= [0,1,2,3,4,5,6,7,8,9,10,11,12],nb:= [],av:= [],dir:= [] })] }
def y_a (w b:D)(σ:Store)(Qp:RV→Store→Prop) :Prop:=
 ∃len:Nat,(Len b len)∧(a_f w)∧∃s:D,∃i off:Nat,(w=(.el s i off:D))∧∃row:List D,(Row σ s i row)∧∃n:Int,((List.take 1 (List.drop (off+2) row)) =([iD n]:List D))∧(a_f w)∧∃s1:D,∃i1 off1:Nat,(w=(.el s1 i1 off1:D))∧∃row1:List D,(Row σ s1 i1 row1)∧∃d:D,((List.take 1 (List.drop (off1+1) row1)) =([d]:List D))∧∃len1:Nat,(Len d len1)∧a_b (decide ((len:Int) > (w64 (n - (len1:Int))))) ((a_f w)∧∃s2:D,∃i2 off2:Nat,(w=(.el s2 i2 off2:D))∧DCalls Tryz.prog b_t [.one (.el s2 i2 (off2+0)),iA 2] σ (fun r Z=>(r=(.tup []:RV))∧(a_f w)∧∃s3:D,∃i3 off3:Nat,(w=(.el s3 i3 off3:D))∧DCalls Tryz.prog a_6 [.one (.el s3 i3 (off3+0))] Z (fun r1 Z1=>∃b1:Bool,(r1=(.a (bA b1) :RV))∧a_b b1 ((a_f w)∧∃s4:D,∃i4 off4:Nat,(w=(.el s4 i4 off4:D))∧∃row2:List D,(Row Z1 s4 i4 row2)∧∃d1:D,((List.take 1 (List.drop (off4+1) row2)) =([d1]:List D))∧a_z Tryz.prog Z1 f_v 1 d1 b (fun d2 Z2=>(a_f w)∧∃s5:D,∃i5 off5:Nat,(w=(.el s5 i5 off5:D))∧a_j [d2] Z2 s5 i5 (off5+1) (fun Z3=>Qp (.tup []) Z3))) (Qp (.tup []) Z1)))) ((a_f w)∧∃s2:D,∃i2 off2:Nat,(w=(.el s2 i2 off2:D))∧DCalls Tryz.prog a_6 [.one (.el s2 i2 (off2+0))] σ (fun r Z=>∃b1:Bool,(r=(.a (bA b1) :RV))∧a_b b1 ((a_f w)∧∃s3:D,∃i3 off3:Nat,(w=(.el s3 i3 off3:D))∧∃row2:List D,(Row Z s3 i3 row2)∧∃d1:D,((List.take 1 (List.drop (off3+1) row2)) =([d1]:List D))∧a_z Tryz.prog Z f_v 1 d1 b (fun d2 Z1=>(a_f w)∧∃s4:D,∃i4 off4:Nat,(w=(.el s4 i4 off4:D))∧a_j [d2] Z1 s4 i4 (off4+1) (fun Z2=>Qp (.tup []) Z2))) (Qp (.tup []) Z)))
theorem x_2 (w b:D)(σ:Store)(Qp:RV→Store→Prop)(h:y_a w b σ Qp) :DCalls Tryz.prog h_5 [.one w, .one b] σ Qp:=
 a_a mixed (by kernel_rfl) Tryz.func148 v_s (Eq.mp (by kernel_rfl) h)
def a_l6:Ann:= { draws:= [(5,{ ord:= [0,1,2,3,4,5,6],nb:= [],av:= [],dir:= [] }),(7,{ ord:= [0,1,2,3,4,5,6],nb:= [],av:= [],dir:= [] })],loops:= [(2,{ mods:= [(13,s6)],keep:= [1,2,11,12] })] }
def a_m5 (joints:D)(section_ end_:Int)(σ:Store)(Qp:RV→Store→Prop) :Prop:=
 ∃len:Nat,(Len joints len)∧∃I:Int→Store→Prop,∃μ:Int→Store→Nat,(I 0 σ)∧∀n:Int,∀Z,(I n Z)→a_b (decide (n < (len:Int))) (∃len1:Nat,(Idx Tryz.prog Z joints 4 len1)∧((0:Int)≤n)∧(n < (len1:Int))∧∃row:List D,(Row Z joints (Int.toNat n) row)∧∃n1 n2 n3 n4:Int,((List.take 4 row) =([iD n1,iD n2,iD n3,iD n4]:List D))∧a_b (n1 == section_) (a_b (n2 == end_) (Qp (.tup [iA n3,iA n4,bA true]) Z) (a_b (n3 == section_) (a_b (n4 == end_) (Qp (.tup [iA n1,iA n2,bA true]) Z) ((I (w64 (n+1)) Z)∧((μ (w64 (n+1)) Z) < (μ n Z)))) ((I (w64 (n+1)) Z)∧((μ (w64 (n+1)) Z) < (μ n Z))))) (a_b (n3 == section_) (a_b (n4 == end_) (Qp (.tup [iA n1,iA n2,bA true]) Z) ((I (w64 (n+1)) Z)∧((μ (w64 (n+1)) Z) < (μ n Z)))) ((I (w64 (n+1)) Z)∧((μ (w64 (n+1)) Z) < (μ n Z))))) (Qp (.tup [iA 0,iA 0,bA false]) Z)
theorem a_n9 (joints:D)(section_ end_:Int)(σ:Store)(Qp:RV→Store→Prop)(h:a_m5 joints section_ end_ σ Qp) :DCalls Tryz.prog f_m [.one joints,iA section_,iA end_] σ Qp:=
 a_a mixed (by kernel_rfl) Tryz.func152 a_l6 (Eq.mp (by kernel_rfl) h)
def w_4:Ann:= { esc:= [13],cbs:= [3],loops:= [(3,{ mods:= [(7,SlotSh.one (Sh.any)),(20,s6)],keep:= [1,2,3,18,19] }),(8,{ mods:= [(7,SlotSh.one (Sh.any)),(36,s6)],keep:= [1,2,3,9,18,19,20,35] })],joins:= [(11,{ mods:= [],keep:= [1,2,3,7,9,12,18,19,20,35,36] }),(14,{ mods:= [],keep:= [1,2,3,7,9,13,14,18,19,20,35,36] })] }
def x_5 (p0 p1 p2 p3 p4:D)(p5 p6 p7 p8 approach:Int)(path:D)(σ:Store)(Qp:RV→Store→Prop) :Prop:=
 ∃len:Nat,(Len path len)∧∃I:D→Int→Store→Prop,∃μ:D→Int→Store→Nat,(I .nils 0 σ)∧∀d:D,∀n:Int,∀Z,(I d n Z)→a_b (decide (n < (len:Int))) (∃len1:Nat,(Idx Tryz.prog Z path 3 len1)∧((0:Int)≤n)∧(n < (len1:Int))∧∃row:List D,(Row Z path (Int.toNat n) row)∧∃n1 n2 n3:Int,((List.take 3 row) =([iD n1,iD n2,iD n3]:List D))∧DCalls Tryz.prog b_v [.agg [p0,p1,p2,p3,p4,iD p5,iD p6,iD p7,iD p8],iA n1] Z (fun r Z1=>∃n4 n5 n6:Int,∃b:Bool,(r=(.tup [.agg [iD n4,iD n5,iD n6],bA b]:RV))∧a_b (!b) ((I d (w64 (n+1)) Z1)∧((μ d (w64 (n+1)) Z1) < (μ d n Z))) (DCalls Tryz.prog i_2 [iA n4] Z1 (fun r1 Z2=>∃n7:Int,(r1=(.a (iA n7) :RV))∧∃I1:D→Int→Store→Prop,∃μ1:D→Int→Store→Nat,(I1 d 0 Z2)∧∀d1:D,∀n8:Int,∀Z3,(I1 d1 n8 Z3)→a_b (decide (n8 < n7)) (∀R:Store→Prop,(∀Z4,(DCalls Tryz.prog f_m [.one p1,iA n1,iA n8] Z4 (fun r2 Z5=>∃n9 n10:Int,∃b1:Bool,(r2=(.tup [iA n9,iA n10,bA b1]:RV))∧Fw.newObj Z5 (.live a_h [[iD 0]]) (fun id Z6=>a_j [iD n9] Z6 (.osl id 0 1) 0 0 (fun Z7=>∃row1:List D,(Row Z7 (.osl id 0 1) 0 row1)∧∃n11:Int,((List.take 1 row1) =([iD n11]:List D))∧DCalls Tryz.prog b_v [.agg [p0,p1,p2,p3,p4,iD p5,iD p6,iD p7,iD p8],iA n11] Z7 (fun r3 Z8=>∃n12 n13 n14:Int,∃b2:Bool,(r3=(.tup [.agg [iD n12,iD n13,iD n14],bA b2]:RV))∧∀R1:Store→Prop,(∀Z9,(∃row2:List D,(Row Z9 (.osl id 0 1) 0 row2)∧∃n15:Int,((List.take 1 row2) =([iD n15]:List D))∧Fw.newObj Z9 (.live b_a [[iD n15,iD (w64 (3 - n10))]]) (fun id1 Z10=>a_z Tryz.prog Z10 b_a 16 d1 (.osl id1 0 1) (fun d2 Z11=>(([[iD n1,iD n2,iD n3]]:List (List D)) =([[iD n1,iD n2,iD n3]]:List (List D)))∧(I1 d2 (w64 (n8+1)) Z11)∧((μ1 d2 (w64 (n8+1)) Z11) < (μ1 d1 n8 Z3)))))→R1 Z9)→a_b (!b1) ((([[iD n1,iD n2,iD n3]]:List (List D)) =([[iD n1,iD n2,iD n3]]:List (List D)))∧(I1 d1 (w64 (n8+1)) Z8)∧((μ1 d1 (w64 (n8+1)) Z8) < (μ1 d1 n8 Z3))) (a_b (!b2) ((([[iD n1,iD n2,iD n3]]:List (List D)) =([[iD n1,iD n2,iD n3]]:List (List D)))∧(I1 d1 (w64 (n8+1)) Z8)∧((μ1 d1 (w64 (n8+1)) Z8) < (μ1 d1 n8 Z3))) (a_b (n12 != 1) ((([[iD n1,iD n2,iD n3]]:List (List D)) =([[iD n1,iD n2,iD n3]]:List (List D)))∧(I1 d1 (w64 (n8+1)) Z8)∧((μ1 d1 (w64 (n8+1)) Z8) < (μ1 d1 n8 Z3))) (a_b (decide (n10 < 1)) ((([[iD n1,iD n2,iD n3]]:List (List D)) =([[iD n1,iD n2,iD n3]]:List (List D)))∧(I1 d1 (w64 (n8+1)) Z8)∧((μ1 d1 (w64 (n8+1)) Z8) < (μ1 d1 n8 Z3))) (a_b (decide (n10 > 2)) ((([[iD n1,iD n2,iD n3]]:List (List D)) =([[iD n1,iD n2,iD n3]]:List (List D)))∧(I1 d1 (w64 (n8+1)) Z8)∧((μ1 d1 (w64 (n8+1)) Z8) < (μ1 d1 n8 Z3))) (∃row2:List D,(Row Z8 (.osl id 0 1) 0 row2)∧∃n15:Int,((List.take 1 row2) =([iD n15]:List D))∧a_b (n15 == approach) ((([[iD n1,iD n2,iD n3]]:List (List D)) =([[iD n1,iD n2,iD n3]]:List (List D)))∧(I1 d1 (w64 (n8+1)) Z8)∧((μ1 d1 (w64 (n8+1)) Z8) < (μ1 d1 n8 Z3))) (∃row3:List D,(Row Z8 (.osl id 0 1) 0 row3)∧∃n16:Int,((List.take 1 row3) =([iD n16]:List D))∧DCalls Tryz.prog o_o [.one path,iA n16] Z8 (fun r4 Z9=>∃b3:Bool,(r4=(.a (bA b3) :RV))∧a_b b3 ((([[iD n1,iD n2,iD n3]]:List (List D)) =([[iD n1,iD n2,iD n3]]:List (List D)))∧(I1 d1 (w64 (n8+1)) Z9)∧((μ1 d1 (w64 (n8+1)) Z9) < (μ1 d1 n8 Z3))) (DCalls Tryz.prog c_e [.one d1, .one (.fn f_8 [] [(false,[.el (.osl id 0 1) 0 0])])] Z9 (fun r5 Z10=>∃b4:Bool,(r5=(.a (bA b4) :RV))∧a_b b4 ((([[iD n1,iD n2,iD n3]]:List (List D)) =([[iD n1,iD n2,iD n3]]:List (List D)))∧(I1 d1 (w64 (n8+1)) Z10)∧((μ1 d1 (w64 (n8+1)) Z10) < (μ1 d1 n8 Z3))) ((([[iD n1,iD n2,iD n3]]:List (List D)) =([[iD n1,iD n2,iD n3]]:List (List D)))∧R1 Z10)))))))))))))))→R Z4)→a_b (n8 == n2) ((([[iD n1,iD n2,iD n3]]:List (List D)) =([[iD n1,iD n2,iD n3]]:List (List D)))∧(I1 d1 (w64 (n8+1)) Z3)∧((μ1 d1 (w64 (n8+1)) Z3) < (μ1 d1 n8 Z3))) (a_b (n8 == n3) ((([[iD n1,iD n2,iD n3]]:List (List D)) =([[iD n1,iD n2,iD n3]]:List (List D)))∧(I1 d1 (w64 (n8+1)) Z3)∧((μ1 d1 (w64 (n8+1)) Z3) < (μ1 d1 n8 Z3))) ((([[iD n1,iD n2,iD n3]]:List (List D)) =([[iD n1,iD n2,iD n3]]:List (List D)))∧R Z3))) ((I d1 (w64 (n+1)) Z3)∧((μ d1 (w64 (n+1)) Z3) < (μ d n Z))))))) (Qp (.a (.one d)) Z)
theorem x_y (p0 p1 p2 p3 p4:D)(p5 p6 p7 p8 approach:Int)(path:D)(σ:Store)(Qp:RV→Store→Prop)(h:x_5 p0 p1 p2 p3 p4 p5 p6 p7 p8 approach path σ Qp) :DCalls Tryz.prog h_y [.agg [p0,p1,p2,p3,p4,iD p5,iD p6,iD p7,iD p8],iA approach, .one path] σ Qp:=
 a_a mixed (by kernel_rfl) Tryz.func156 w_4 (Eq.mp (by kernel_rfl) h)
def a_ly:Ann:= { }
def a_ot (kind:Int)(σ:Store)(Qp:RV→Store→Prop) :Prop:=
 a_b (kind == 0) (Fw.newObj σ (.live b_7 [[iD 0,iD 1,iD 0]]) (fun id Z=>Qp (.a (.one (.osl id 0 1))) Z)) (a_b (kind == 1) (Fw.newObj σ (.live b_7 [[iD 0,iD 1,iD 1],[iD 0,iD 2,iD 2]]) (fun id Z=>Qp (.a (.one (.osl id 0 2))) Z)) (a_b (kind == 2) (Fw.newObj σ (.live b_7 [[iD 0,iD 1,iD 0],[iD 2,iD 3,iD 0]]) (fun id Z=>Qp (.a (.one (.osl id 0 2))) Z)) (Qp (.a (.one .nils)) σ)))
theorem a_n1 (kind:Int)(σ:Store)(Qp:RV→Store→Prop)(h:a_ot kind σ Qp) :DCalls Tryz.prog l_r [iA kind] σ Qp:=
 a_a mixed (by kernel_rfl) Tryz.func160 a_ly (Eq.mp (by kernel_rfl) h)
def a_d5:Ann:= { }
def a_ie (n:Int)(σ:Store)(Qp:RV→Store→Prop) :Prop:=
 Qp (.a (.one (iD (ite ((4611686018427387904:Int) < (ite ((-1) > n) (-1) n)) 4611686018427387904 (ite ((-1) > n) (-1) n))))) σ
theorem a_h8 (n:Int)(σ:Store)(Qp:RV→Store→Prop)(h:a_ie n σ Qp) :DCalls Tryz.prog g_n [iA n] σ Qp:=
 a_a mixed (by kernel_rfl) Tryz.func166 a_d5 (Eq.mp (by kernel_rfl) h)
def a_o2:Ann:= { esc:= [3] }
def a_rc (path:D)(section_:Int)(σ:Store)(Qp:RV→Store→Prop) :Prop:=
 Fw.newObj σ (.live a_h [[iD section_]]) (fun id Z=>DCalls Tryz.prog c_d [.one path, .one (.fn x_p [] [(false,[.el (.osl id 0 1) 0 0])])] Z (fun r Z1=>∃b:Bool,(r=(.a (bA b) :RV))∧Qp (.a (bA b)) Z1))
theorem a_qk (path:D)(section_:Int)(σ:Store)(Qp:RV→Store→Prop)(h:a_rc path section_ σ Qp) :DCalls Tryz.prog o_o [.one path,iA section_] σ Qp:=
 a_a mixed (by kernel_rfl) Tryz.func170 a_o2 (Eq.mp (by kernel_rfl) h)
def a_g7:Ann:= { cbs:= [2] }
def a_kp (s0 s1 s2:Int)(a1:D)(σ:Store)(Qp:RV→Store→Prop) :Prop:=
 ∃s:D,∃i off:Nat,(a1=(.el s i off:D))∧∃row:List D,(Row σ s i row)∧∃n:Int,((List.take 1 (List.drop off row)) =([iD n]:List D))∧Qp (.a (bA (s0 == n))) σ
theorem a_kg (s0 s1 s2:Int)(a1:D)(σ:Store)(Qp:RV→Store→Prop)(h:a_kp s0 s1 s2 a1 σ Qp) :DCalls Tryz.prog x_p [.agg [iD s0,iD s1,iD s2], .one a1] σ Qp:=
 a_a mixed (by kernel_rfl) Tryz.func185 a_g7 (Eq.mp (by kernel_rfl) h)
end Go.Proofs.YtdmfnhbmhkgemaaGreat
end
section
set_option maxRecDepth 20000
namespace Go.Proofs.YtdmfnhbmhkgemaaGreat
open Go.Fw Go.Proofs Go.RowKit
variable {σ:Store}
theorem a_yt (l:List (Int × Int × Int)) :∀row ∈ l.map encW,∀x ∈ row,Flat x:=by
 intro row hrow x hx
 obtain ⟨w,_,rfl⟩:=List.mem_map.1 hrow
 simp[encW] at hx
 rcases hx with rfl | rfl | rfl <;> exact .int _ _
def r_9 (σ:Store)(t:TypeId)(k:Int)(r:RV)(σ':Store) :Prop:=σ'=σ∧∃d,r= .a (.one d)∧∀s,At Tryz.prog s t d ((f_l k).map encW)
theorem n_q {t:TypeId}(hc:Tryz.prog.cellsOf t=3){k:Int}{rows:List (List D)}{n:Nat}{id:Nat}{σ':Store}(hn:n=rows.length)(hl:rows.length < 100)(hid:σ id= .free)(he:Ext σ σ')(hs:σ' id= .live t rows)(hr:rows=(f_l k).map encW) :
   ∃r' σ'',Ret Tryz.prog σ σ' (.a (.one (.osl id 0 n))) σ'' r'∧r_9 σ t k r' σ'':=by
 have hat:At Tryz.prog σ' t (.osl id 0 n) rows:=At.fresh hs (by omega) hn
 obtain ⟨d',h1,h2⟩:=s_c hat he (z_j hid) (by rw[hr];exact a_yt _)
 exact ⟨.a (.one d'),σ, .pure he h1,rfl,d',rfl,fun s=>hr ▸ h2 s⟩
theorem y_b (k:Int) :DCalls Tryz.prog l_r [iA k] σ (r_9 σ b_7 k):=by
 refine (a_n1 k σ _ ?_).ret (Q:=fun r s=>∃r' σ',Ret Tryz.prog σ s r σ' r'∧r_9 σ b_7 k r' σ') (fun r s h=>h)
 refine bce (fun h0=>a_e fun id σ' hid _ he hs=>?_) (fun h0=>bce (fun h1=>a_e fun id σ' hid _ he hs=>?_) (fun h1=>bce (fun h2=>a_e fun id σ' hid _ he hs=>?_) (fun h2=>?_)))
 · exact n_q k_4 rfl (by simp) hid he hs (by subst h0;rfl)
 · exact n_q k_4 rfl (by simp) hid he hs (by subst h1;rfl)
 · exact n_q k_4 rfl (by simp) hid he hs (by subst h2;rfl)
 · exact ⟨.a (.one .nils),σ, .pure (.refl _) .nils,rfl, .nils,rfl,fun s=>by simp[f_l,h0,h1,h2];exact .nil⟩
theorem u_r (k:Int) :DCalls Tryz.prog j_8 [iA k] σ (r_9 σ h_f k):=by
 refine (a_mb k σ _ ?_).ret (Q:=fun r s=>∃r' σ',Ret Tryz.prog σ s r σ' r'∧r_9 σ h_f k r' σ') (fun r s h=>h)
 refine bce (fun h0=>a_e fun id σ' hid _ he hs=>?_) (fun h0=>bce (fun h1=>a_e fun id σ' hid _ he hs=>?_) (fun h1=>bce (fun h2=>a_e fun id σ' hid _ he hs=>?_) (fun h2=>?_)))
 · exact n_q j_c rfl (by simp) hid he hs (by subst h0;rfl)
 · exact n_q j_c rfl (by simp) hid he hs (by subst h1;rfl)
 · exact n_q j_c rfl (by simp) hid he hs (by subst h2;rfl)
 · exact ⟨.a (.one .nils),σ, .pure (.refl _) .nils,rfl, .nils,rfl,fun s=>by simp[f_l,h0,h1,h2];exact .nil⟩
theorem z_m (k:Int) :(f_l k).length < 2 ^ 60:=by unfold f_l;split <;> (try split) <;> (try split) <;> simp
theorem o_l (k:Int) :Pure Tryz.prog i_2 [iA k] σ (.a (iA (b_d k))):=by
 refine a_nv k σ _ ((y_b k).mono ?_)
 rintro r σ' ⟨rfl,d,rfl,hd⟩
 refine ⟨d,rfl,(hd σ').lenK ⟨fun n m s=>s=σ'∧Rng (f_l k) (fun r=>r.foldl l_z n=b_d k) m,fun n m _=>(f_l k).length - m.toNat,⟨rfl, .start (a_r3 k)⟩,?_⟩⟩
 rintro n m _ ⟨rfl,hr⟩
 refine bcd (fun hlt=>?_) (fun hge=>?_)
 · obtain ⟨j,x,rfl,hx,hj,hF,nx⟩:=hr.step (by simp) (z_m k) hlt
   refine (hd _).load (a_c hx) k_4 rfl ⟨x.1,x.2.1,x.2.2,rfl,by omega,by omega,by omega,by omega,c_0 rfl (nx (fun r=>r.foldl l_z (l_z n x) =b_d k) hF)⟩
 · have:=hr.done (by simp) hge
   exact ⟨by rw[←this];rfl,rfl⟩
theorem i_z (k:Int) :Pure Tryz.prog f_0 [iA k] σ (.a (iA (b_d k))):=by
 refine a_kd k σ _ ((u_r k).mono ?_)
 rintro r σ' ⟨rfl,d,rfl,hd⟩
 refine ⟨d,rfl,(hd σ').lenK ⟨fun n m s=>s=σ'∧Rng (f_l k) (fun r=>r.foldl l_z n=b_d k) m,fun n m _=>(f_l k).length - m.toNat,⟨rfl, .start (a_r3 k)⟩,?_⟩⟩
 rintro n m _ ⟨rfl,hr⟩
 refine bcd (fun hlt=>?_) (fun hge=>?_)
 · obtain ⟨j,x,rfl,hx,hj,hF,nx⟩:=hr.step (by simp) (z_m k) hlt
   refine (hd _).load (a_c hx) j_c rfl ⟨x.1,x.2.1,x.2.2,rfl,c_0 rfl (nx (fun r=>r.foldl l_z (l_z n x) =b_d k) hF)⟩
 · have:=hr.done (by simp) hge
   exact ⟨by rw[←this];rfl,rfl⟩
theorem a_mc (k i o:Int) :Pure Tryz.prog q_n [iA k,iA i,iA o] σ (opt1 (i_t (f_l k) i o)):=by
 refine a_m6 k i o σ _ ((u_r k).mono ?_)
 rintro r σ' ⟨rfl,d,rfl,hd⟩
 refine ⟨d,rfl,(hd σ').lenK ⟨fun m s=>s=σ'∧Rng (f_l k) (fun r=>i_t r i o=i_t (f_l k) i o) m,fun m _=>(f_l k).length - m.toNat,⟨rfl, .start rfl⟩,?_⟩⟩
 rintro m _ ⟨rfl,hr⟩
 refine bcd (fun hlt=>?_) (fun hge=>?_)
 · obtain ⟨j,x,rfl,hx,hj,hF,nx⟩:=hr.step (by simp) (z_m k) hlt
   refine (hd _).load (a_c hx) j_c rfl ⟨x.1,x.2.1,x.2.2,rfl,?_⟩
   rw[i_t] at hF
   repeat' (first | refine bce (fun _=>?_) (fun _=>?_))
   all_goals first
     | (rw[if_pos (by omega)] at hF;exact ⟨by rw[←hF];rfl,rfl⟩)
     | (rw[if_neg (by omega)] at hF;exact c_0 rfl (nx (fun r=>i_t r i o=i_t (f_l k) i o) hF))
 · have:=hr.done (by simp) hge
   exact ⟨by rw[←this];rfl,rfl⟩
theorem e_3 (n lo hi:Int) :Pure Tryz.prog d_p [iA n,iA lo,iA hi] σ (.a (bA (decide (lo≤n∧n≤hi)))):=by
 refine a_e9 n lo hi σ _ (bcd (fun h=>⟨?_,rfl⟩) (fun h=>⟨?_,rfl⟩))
 · simp[h]
 · simp[h]
theorem h_u {d:D}{js:List Jt}(s e:Int)(h:At Tryz.prog σ j_4 d (js.map Jt.enc)) :Pure Tryz.prog f_m [.one d,iA s,iA e] σ (opt2 (nxt js s e)):=by
 have hl:=h.size
 rw[List.length_map] at hl
 refine a_n9 d s e σ _ (h.lenK ⟨fun n σ'=>σ'=σ∧Rng js (fun r=>nxt r s e=nxt js s e) n,fun n _=>js.length - n.toNat,⟨rfl, .start rfl⟩,?_⟩)
 rintro n σ' ⟨rfl,hr⟩
 refine bcd (fun hlt=>?_) (fun hge=>?_)
 · obtain ⟨j,x,rfl,hx,hj,hF,nx⟩:=hr.step (by simp) hl hlt
   refine h.load (a_c hx) s_q rfl ⟨x.A,x.AEnd,x.B,x.BEnd,rfl,?_⟩
   rw[nxt] at hF
   repeat' (first | refine bce (fun _=>?_) (fun _=>?_))
   all_goals first
     | exact ⟨by rw[←hF];simp[*,opt2],rfl⟩
     | exact c_0 rfl (nx (fun r=>nxt r s e=nxt js s e) (by simpa[*] using hF))
 · exact ⟨by rw[←hr.done (by simp) hge];rfl,rfl⟩
theorem j_p {d:D}{l:List Int}(v:Int)(h:At Tryz.prog σ a_h d (l.map Go.Fw.encI)) :Pure Tryz.prog e_0 [.one d,iA v] σ (.a (iA (k_5 l v 0))):=by
 have hl:=h.size
 rw[List.length_map] at hl
 refine w_v d v σ _ (h.lenK ⟨fun n σ'=>σ'=σ∧Rng l (fun r=>(∀j:Nat,n=j→k_5 r v j=k_5 l v 0)) n,fun n _=>l.length - n.toNat,⟨rfl, .start fun j hj=>by cases j with | zero=>rfl | succ j=>omega⟩,?_⟩)
 rintro n σ' ⟨rfl,hr⟩
 refine bcd (fun hlt=>?_) (fun hge=>?_)
 · obtain ⟨j,x,rfl,hx,hj,hF,nx⟩:=hr.step (by simp) hl hlt
   refine h.load (a_c hx) c_int rfl ⟨x,rfl,?_⟩
   have hF:=hF j rfl
   rw[k_5] at hF
   refine bce (fun _=>?_) (fun _=>?_)
   · exact ⟨by rw[←hF];simp[*],rfl⟩
   · refine c_0 rfl (nx _ fun j' hj'=>?_)
     rw[a_o (by omega)] at hj'
     obtain rfl:j'=j+1:=by omega
     rw[if_neg (fun e=>by simp_all)] at hF
     exact hF
 · refine ⟨?_,rfl⟩
   obtain ⟨j,hj,hj2,hF⟩:=hr
   have hF:=hF j hj
   rw[e_4 (by simp at hge;omega)] at hF
   rw[←hF];rfl
theorem w_3 {W:World}{cs:Array Value}{t:TypeId}{j:Nat}{v:Value}(h:cs[j]? =some v) :(W.alloc (.cells cs t)).cell? ⟨W.heap.size,j,none⟩ =some v:=by
 unfold World.cell?
 rw[(MapKept.heap_alloc W _).1]
 exact h
theorem a_kz (a b p e:Int)(W:World) :Calls Tryz.prog e_0 #[.slice (some ⟨W.heap.size,0,none⟩) 2 2, .int .i64 e] (W.alloc (.cells #[.int .i64 a, .int .i64 b, .int .i64 p] b_7)) fun r W'=>
   r= .returned (.int .i64 (k_5 [a,b] e 0))∧Below (W.heap.size+1) (W.alloc (.cells #[.int .i64 a, .int .i64 b, .int .i64 p] b_7)) W':=by
 have hsz:(W.alloc (.cells #[.int .i64 a, .int .i64 b, .int .i64 p] b_7)).heap.size=W.heap.size+1:=Array.size_push _
 have hA:At Tryz.prog noS a_h (.sl 1 [[iD a],[iD b]]) ([a,b].map Go.Fw.encI):=⟨⟨rfl, .inr c_int.symm⟩,by simp,fun es rows e=>by injection e with e1 _;rw[←e1,c_int]⟩
 have hcell:∀j v,#[Value.int .i64 a, .int .i64 b, .int .i64 p][j]? =some v→(W.alloc (.cells #[.int .i64 a, .int .i64 b, .int .i64 p] b_7)).cell? ⟨W.heap.size,j,none⟩ =some v:=fun j v h=>w_3 h
 have hV:V (t_a (W.alloc (.cells #[.int .i64 a, .int .i64 b, .int .i64 p] b_7))) noB (W.alloc (.cells #[.int .i64 a, .int .i64 b, .int .i64 p] b_7)) (.slice (some ⟨W.heap.size,0,none⟩) 2 2) (.sl 1 [[iD a],[iD b]]):=by
   have key:∀(i:Nat) row (j:Nat) d,([[iD a],[iD b]]:List (List D))[i]? =some row→row[j]? =some d→(i=0∧j=0∧row=[iD a]∧d=iD a)∨(i=1∧j=0∧row=[iD b]∧d=iD b):=by
     intro i row j d h1 h2
     rcases i with _ | _ | i
     · simp at h1;subst h1
       rcases j with _ | j
       · simp at h2;exact .inl ⟨rfl,rfl,rfl,h2.symm⟩
       · simp at h2
     · simp at h1;subst h1
       rcases j with _ | j
       · simp at h2;exact .inr ⟨rfl,rfl,rfl,h2.symm⟩
       · simp at h2
     · simp at h1
   refine V.sl ⟨W.heap.size,0,none⟩ 2 2 1 _ (fun i j=>if i=0 then .int .i64 a else .int .i64 b) (fun _=>⟨by show W.heap.size < _;rw[hsz];omega,rfl⟩) rfl (by omega) (fun i row h=>?_) (fun i row j d h hj=>?_) (fun i row j d h hj=>?_)
   · rcases i with _ | _ | i
     · simp at h;subst h;rfl
     · simp at h;subst h;rfl
     · simp at h
   · rcases key i row j d h hj with ⟨rfl,rfl,rfl,rfl⟩ | ⟨rfl,rfl,rfl,rfl⟩
     · exact hcell 0 _ rfl
     · exact hcell 1 _ rfl
   · rcases key i row j d h hj with ⟨rfl,rfl,rfl,rfl⟩ | ⟨rfl,rfl,rfl,rfl⟩
     · exact V.int _ _
     · exact V.int _ _
 have hc:=(j_p e hA).2 (t_a _) noB (W.alloc (.cells #[.int .i64 a, .int .i64 b, .int .i64 p] b_7)) #[.slice (some ⟨W.heap.size,0,none⟩) 2 2, .int .i64 e] a_xi rfl (by
   intro i v x hv hx
   rcases i with _ | _ | i
   · simp at hv hx
     subst hv hx
     exact hV
   · simp at hv hx
     subst hv hx
     exact V.int _ _
   · simp at hv)
 refine hc.mono fun r W' ⟨v,rr,σ',k',β',q1,⟨q2,_⟩,q3,_,_,q6⟩=>?_
 subst q2
 have hv:=V.inv_int q3
 subst hv
 exact ⟨q1,q6.os,q6.tape,q6.output,q6.size,fun b hb=>q6.block b (by rw[hsz];exact hb) (fun i bi hi=>by cases hi)⟩
theorem a_c5 (a b p e:Int)(W:World) :Calls Tryz.prog i_b #[.agg #[.int .i64 a, .int .i64 b, .int .i64 p], .int .i64 e] W fun r W'=>
   r= .returned (if e=a then .tuple #[.int .i64 b, .bool true] else if e=b then .tuple #[.int .i64 a, .bool true] else .tuple #[.int .i64 0, .bool false])∧Below W.heap.size W W':=by
 have hI:=a_kz a b p e W
 have fin:∀W',Below (W.heap.size+1) (W.alloc (.cells #[.int .i64 a, .int .i64 b, .int .i64 p] b_7)) W'→Below W.heap.size W W':=fun W' hb=>
   ((Below.refl _ _).alloc (Nat.le_refl _) _).trans (hb.mono (by omega))
 have cells : ∀ W', Below (W.heap.size + 1) (W.alloc (.cells #[.int .i64 a, .int .i64 b, .int .i64 p] b_7)) W' →
     W'.cell? ⟨W.heap.size,0,none⟩ =some (.int .i64 a)∧W'.cell? ⟨W.heap.size,1,none⟩ =some (.int .i64 b):=fun W' hb=>by
   exact ⟨(hb.cell (p:=⟨W.heap.size,0,none⟩) (Nat.lt_succ_self _)).trans (w_3 rfl),(hb.cell (p:=⟨W.heap.size,1,none⟩) (Nat.lt_succ_self _)).trans (w_3 rfl)⟩
 by_cases h0:e=a
 · subst h0
   rw[show k_5 [e,b] e 0=0 by simp[k_5]] at hI
   rw[if_pos rfl]
   go_enter Tryz.func161,Tryz.ntmps161
   go_wp2_with fail
   refine hI.mono ?_
   rintro r W' ⟨rfl,hb⟩
   obtain ⟨c0,c1⟩:=cells W' hb
   have hf:=fin W' hb
   clear cells fin hI hb
   go_wp2
   go_ret2
   exact ⟨rfl,hf⟩
 · by_cases h1:e=b
   · subst h1
     rw[show k_5 [a,e] e 0=1 by simp[k_5,h0]] at hI
     rw[if_neg h0,if_pos rfl]
     go_enter Tryz.func161,Tryz.ntmps161
     go_wp2_with fail
     refine hI.mono ?_
     rintro r W' ⟨rfl,hb⟩
     obtain ⟨c0,c1⟩:=cells W' hb
     have hf:=fin W' hb
     clear cells fin hI hb
     go_wp2
     go_ret2
     exact ⟨rfl,hf⟩
   · rw[show k_5 [a,b] e 0= -1 by simp[k_5,h0,h1]] at hI
     rw[if_neg h0,if_neg h1]
     go_enter Tryz.func161,Tryz.ntmps161
     go_wp2_with fail
     refine hI.mono ?_
     rintro r W' ⟨rfl,hb⟩
     have hf:=fin W' hb
     clear cells fin hI hb
     go_wp2
     go_ret2
     exact ⟨rfl,hf⟩
theorem a_ma (a b p e:Int) :Pure Tryz.prog i_b [.agg [iD a,iD b,iD p],iA e] σ (opt1 (if e=a then some b else if e=b then some a else none)):=by
 refine ⟨by kernel_rfl,fun k β W vs hS hsz hv=>?_⟩
 have hvs:vs= #[.agg #[.int .i64 a, .int .i64 b, .int .i64 p], .int .i64 e]:=by
   have h0:=hv 0 (vs.getD 0 undef) _ (by simp at hsz;simp[hsz]) rfl
   have h1:=hv 1 (vs.getD 1 undef) _ (by simp at hsz;simp[hsz]) rfl
   obtain ⟨us,e0,hu⟩:=h0
   have e1:=V.inv_int h1
   have hus:us= #[.int .i64 a, .int .i64 b, .int .i64 p]:=by
     apply Array.ext'
     exact a_o1 hu rfl
   apply Array.ext
   · simpa using hsz
   · intro i h1 h2
     simp at hsz
     match i,h1 with
     | 0,_=>simp[hsz] at e0;simp[e0,hus]
     | 1,_=>simp[hsz] at e1;simp[e1]
     | i+2,h=>omega
 subst hvs
 refine (a_c5 a b p e W).mono fun r W' ⟨h1,h2⟩=>?_
 have hg:Grow W W':=⟨h2.os,h2.tape,h2.output,h2.size,h2.block⟩
 have tup:∀(x:Int) (c:Bool),VR k β W' (.tuple #[.int .i64 x, .bool c]) (.tup [iA x,bA c]):=fun x c=>tup2 (v:=iA x) (V.int _ _)
 refine ⟨_,_,σ,k,β,h1,⟨rfl,rfl⟩,?_,hS.grow hg,Ghost.refl _ _ _ _,hg.frm _ _⟩
 by_cases h0:e=a
 · simp only[h0,if_true];exact tup _ _
 · by_cases h1:e=b
   · simp only[h0,h1,if_false,if_true];split <;> exact tup _ _
   · simp only[h0,h1,if_false];exact tup _ _
theorem a_bn (k i o:Int) :Pure Tryz.prog o_5 [iA k,iA i,iA o] σ (opt1 (i_t (f_l k) i o)):=by
 refine a_re k i o σ _ ((y_b k).mono ?_)
 rintro r σ' ⟨rfl,d,rfl,hd⟩
 refine ⟨d,rfl,(hd σ').lenK ⟨fun m s=>s=σ'∧Rng (f_l k) (fun r=>i_t r i o=i_t (f_l k) i o) m,fun m _=>(f_l k).length - m.toNat,⟨rfl, .start rfl⟩,?_⟩⟩
 rintro m _ ⟨rfl,hr⟩
 refine bcd (fun hlt=>?_) (fun hge=>?_)
 · obtain ⟨j,x,rfl,hx,hj,hF,nx⟩:=hr.step (by simp) (z_m k) hlt
   refine (hd _).load (a_c hx) k_4 rfl ⟨x.1,x.2.1,x.2.2,rfl,(a_ma _ _ _ _).use ?_⟩
   have hne:x.1≠x.2.1:=by
     have hm:=List.mem_of_getElem? hx
     unfold f_l at hm
     split at hm
     · simp at hm;subst hm;decide
     · split at hm
       · simp at hm;rcases hm with rfl | rfl <;> decide
       · split at hm
         · simp at hm;rcases hm with rfl | rfl <;> decide
         · cases hm
   rw[i_t] at hF
   by_cases h0:i=x.1
   · subst h0
     refine ⟨x.2.1,true,by simp[opt1],?_⟩
     refine bce (fun h1=>?_) (fun h1=>?_)
     · exact ⟨by rw[←hF];simp[*,opt1],rfl⟩
     · exact c_0 rfl (nx (fun r=>i_t r x.1 o=i_t (f_l k) x.1 o) (by rw[if_neg (by rintro (⟨_,h⟩ | ⟨h,_⟩);exact h1 h;exact hne h.symm)] at hF;exact hF))
   · by_cases h1:i=x.2.1
     · subst h1
       refine ⟨x.1,true,by simp[opt1,h0],?_⟩
       refine bce (fun h1=>?_) (fun h1=>?_)
       · exact ⟨by rw[←hF];simp[*,opt1],rfl⟩
       · exact c_0 rfl (nx (fun r=>i_t r x.2.1 o=i_t (f_l k) x.2.1 o) (by rw[if_neg (by rintro (⟨h,_⟩ | ⟨_,h⟩);exact hne h;exact h1 h)] at hF;exact hF))
     · refine ⟨0,false,by simp[opt1,h0,h1],?_⟩
       exact c_0 rfl (nx (fun r=>i_t r i o=i_t (f_l k) i o) (by rw[if_neg (by rintro (⟨h,_⟩ | ⟨h,_⟩);exact h0 h.symm;exact h1 h.symm)] at hF;exact hF))
 · have:=hr.done (by simp) hge
   exact ⟨by rw[←this];rfl,rfl⟩
theorem g_q {d:D}{js:List Jt}(s e:Int)(h:At Tryz.prog σ j_4 d (js.map Jt.enc)) :Pure Tryz.prog e_u [.one d,iA s,iA e] σ (opt2 (nxt js s e)):=by
 have hl:=h.size
 rw[List.length_map] at hl
 refine a_lk d s e σ _ (h.lenK ⟨fun n σ'=>σ'=σ∧Rng js (fun r=>nxt r s e=nxt js s e) n,fun n _=>js.length - n.toNat,⟨rfl, .start rfl⟩,?_⟩)
 rintro n σ' ⟨rfl,hr⟩
 refine bcd (fun hlt=>?_) (fun hge=>?_)
 · obtain ⟨j,x,rfl,hx,hj,hF,nx⟩:=hr.step (by simp) hl hlt
   refine h.load (a_c hx) s_q rfl ⟨x.A,x.AEnd,x.B,x.BEnd,rfl,?_⟩
   rw[nxt] at hF
   repeat' (first | refine bce (fun _=>?_) (fun _=>?_))
   all_goals first
     | exact ⟨by rw[←hF];simp[*,opt2],rfl⟩
     | exact c_0 rfl (nx (fun r=>nxt r s e=nxt js s e) (by simpa[*] using hF))
 · exact ⟨by rw[←hr.done (by simp) hge];rfl,rfl⟩
theorem l_a {d:D}{js:List Jt}(s e:Int)(h:At Tryz.prog σ j_4 d (js.map Jt.enc)) :Pure Tryz.prog g_l [.one d,iA s,iA e] σ (.a (iA (cnt js s e))):=by
 have hl:=h.size
 rw[List.length_map] at hl
 have hb:∀l:List Jt,0≤cnt l s e∧cnt l s e≤2 * l.length:=by
   intro l
   induction l with
   | nil=>simp[cnt]
   | cons j r ih=>simp only[cnt,List.length_cons];split <;> split <;> omega
 refine a_ip d s e σ _ (h.lenK ⟨fun c n σ'=>σ'=σ∧Rng js (fun r=>c+cnt r s e=cnt js s e∧0≤c) n,fun c n _=>js.length - n.toNat,⟨rfl, .start ⟨by omega,by omega⟩⟩,?_⟩)
 rintro c n σ' ⟨rfl,hr⟩
 refine bcd (fun hlt=>?_) (fun hge=>?_)
 · obtain ⟨j,x,rfl,hx,hj,hF,nx⟩:=hr.step (by simp) hl hlt
   refine h.load (a_c hx) s_q rfl ⟨x.A,x.AEnd,x.B,x.BEnd,rfl,?_⟩
   rw[cnt] at hF
   have h1:=hb js
   have h2:=hb (js.drop (j+1))
   have hw:c < 2 ^ 62:=by split at hF <;> split at hF <;> omega
   intro R hR
   have key:∀c':Int,0≤c'→c'≤2 ^ 62→c'+ (if x.B=s∧x.BEnd=e then 1 else 0) +cnt (js.drop (j+1)) s e=cnt js s e→R c' σ':=by
     intro c' h0 h3 h4
     refine hR c' σ' ?_
     repeat' (first | refine bce (fun _=>?_) (fun _=>?_))
     · rw[a_u (n:=c'+1) (by omega) (by omega)]
       exact c_0 rfl (nx (fun r=>c'+1+cnt r s e=cnt js s e∧0≤c'+1) ⟨by simp[*] at h4;omega,by omega⟩)
     · exact c_0 rfl (nx (fun r=>c'+cnt r s e=cnt js s e∧0≤c') ⟨by simp[*] at h4;omega,by omega⟩)
     · exact c_0 rfl (nx (fun r=>c'+cnt r s e=cnt js s e∧0≤c') ⟨by simp[*] at h4;omega,by omega⟩)
   repeat' (first | refine bce (fun _=>?_) (fun _=>?_))
   · refine ⟨rfl,?_⟩
     rw[a_u (n:=c+1) (by omega) (by omega)]
     exact key _ (by omega) (by omega) (by simp[*] at hF;omega)
   · exact ⟨rfl,key _ (by omega) (by omega) (by simp[*] at hF;omega)⟩
   · exact ⟨rfl,key _ (by omega) (by omega) (by simp[*] at hF;omega)⟩
 · have:=hr.done (by simp) hge
   simp[cnt] at this
   exact ⟨by rw[←this.1],rfl⟩
end Go.Proofs.YtdmfnhbmhkgemaaGreat
end
namespace Go.Fw
section
def b_9 (js:List Jt) :List (Int × Int):=js.flatMap Jt.spots
theorem a_ef (secs:List Sec) :∀(l tk tk':List (Int × Int)),w_p secs l tk=some tk'↔(∀p ∈ l,k_2 secs p=true)∧l.Nodup∧(∀p ∈ l,p ∉ tk)∧tk'=l.reverse ++ tk
 | [],tk,tk'=>by simp[w_p];exact eq_comm
 | p::r,tk,tk'=>by
   rw[w_p]
   by_cases h:k_2 secs p=true∧p ∉ tk
   · rw[if_pos h,a_ef secs r (p::tk) tk']
     simp only[List.mem_cons,forall_eq_or_imp,List.nodup_cons,List.reverse_cons,List.append_assoc,List.singleton_append]
     constructor
     · rintro ⟨h1,h2,h3,h4⟩
       exact ⟨⟨h.1,h1⟩,⟨fun hp=>(h3 p hp) (.inl rfl),h2⟩,⟨h.2,fun q hq hqt=>h3 q hq (.inr hqt)⟩,h4⟩
     · rintro ⟨⟨_,h1⟩,⟨h2,h3⟩,⟨_,h4⟩,h5⟩
       exact ⟨h1,h3,fun q hq hqt=>hqt.elim (fun e=>h2 (e ▸ hq)) (h4 q hq),h5⟩
   · rw[if_neg h]
     simp only[List.mem_cons,forall_eq_or_imp]
     constructor
     · intro h';cases h'
     · rintro ⟨⟨h1,_⟩,_,⟨h2,_⟩,_⟩;exact absurd ⟨h1,h2⟩ h
theorem a_ek (secs:List Sec) :∀(js:List Jt) (tk tk':List (Int × Int)),w_t secs js tk=some tk'↔
   (∀p ∈ b_9 js,k_2 secs p=true)∧(b_9 js).Nodup∧(∀p ∈ b_9 js,p ∉ tk)∧(∀j ∈ js,j.A≠j.B)∧tk'=(b_9 js).reverse ++ tk
 | [],tk,tk'=>by simp[w_t,b_9];exact eq_comm
 | j::r,tk,tk'=>by
   rw[w_t]
   have hall:b_9 (j::r) =j.spots ++ b_9 r:=by simp[b_9]
   rw[hall]
   cases hp:w_p secs j.spots tk with
   | none=>
     have hno:¬∃t,w_p secs j.spots tk=some t:=by rw[hp];rintro ⟨t,h⟩;cases h
     constructor
     · intro h;cases h
     · rintro ⟨h1,h2,h3,_,_⟩
       exact absurd ⟨_,(a_ef secs j.spots tk _).2 ⟨fun p hp=>h1 p (List.mem_append_left _ hp),(List.nodup_append.1 h2).1,fun p hp=>h3 p (List.mem_append_left _ hp),rfl⟩⟩ hno
   | some t=>
     obtain ⟨a1,a2,a3,a4⟩:=(a_ef secs j.spots tk t).1 hp
     by_cases hAB:j.A=j.B
     · simp only[hAB,if_true]
       constructor
       · intro h;cases h
       · rintro ⟨_,_,_,h4,_⟩;exact absurd hAB (h4 j (by simp))
     · simp only[hAB,if_false]
       rw[a_ek secs r t tk',a4]
       constructor
       · rintro ⟨h1,h2,h3,h4,h5⟩
         refine ⟨fun p hp=>(List.mem_append.1 hp).elim (a1 p) (h1 p),List.nodup_append.2 ⟨a2,h2,fun a ha b hb e=>?_⟩,fun p hp=>(List.mem_append.1 hp).elim (a3 p) (fun hp ht=>h3 p hp (by simp[ht])),fun x hx=>?_,by rw[h5];simp⟩
         · subst e;exact h3 a hb (by simp[ha])
         · rcases List.mem_cons.1 hx with rfl | hx
           · exact hAB
           · exact h4 x hx
       · rintro ⟨h1,h2,h3,h4,h5⟩
         obtain ⟨b1,b2,b3⟩:=List.nodup_append.1 h2
         refine ⟨fun p hp=>h1 p (List.mem_append_right _ hp),b2,fun p hp ht=>?_,fun x hx=>h4 x (List.mem_cons_of_mem _ hx),by rw[h5];simp⟩
         rcases List.mem_append.1 ht with ht | ht
         · exact b3 p (by simpa using ht) p hp rfl
         · exact h3 p (List.mem_append_right _ hp) ht
theorem k_a (s e:Int) :∀js:List Jt,cnt js s e=((b_9 js).count (s,e) :Int)
 | []=>by simp[cnt,b_9]
 | j::r=>by
   have hall:b_9 (j::r) =(j.A,j.AEnd) :: (j.B,j.BEnd) ::b_9 r:=by simp[b_9,Jt.spots]
   rw[hall,cnt,k_a s e r,List.count_cons,List.count_cons]
   simp only[beq_iff_eq,Prod.mk.injEq]
   split <;> split <;> omega
theorem r_6 (tk:List (Int × Int)) :∀(secs:List Sec) (i:Int) (ls:List Int),v_t tk secs i ls=true↔
   ∀(k:Nat) s,secs[k]? =some s→b_d s.Kind≠0∧(0≤s.OC∧s.OC≤3)∧(0≤s.Line∧s.Line≤3)∧(s.Line≠0→s.Kind=0∧(i+k,1) ∉ tk∧s.Line ∉ ls∧∀k' s',k' < k→secs[k']? =some s'→s'.Line≠s.Line)
 | [],i,ls=>by simp[v_t]
 | x::r,i,ls=>by
   rw[v_t]
   by_cases hc:b_d x.Kind=0∨¬(0≤x.OC∧x.OC≤3)∨¬(0≤x.Line∧x.Line≤3)∨x.Line≠0∧(x.Kind≠0∨(i,1) ∈ tk∨x.Line ∈ ls)
   · rw[if_pos hc]
     constructor
     · intro h;cases h
     · intro h
       obtain ⟨h1,h2,h3,h4⟩:=h 0 x rfl
       rcases hc with hc | hc | hc | ⟨hc,hd⟩
       · exact absurd hc h1
       · exact absurd h2 hc
       · exact absurd h3 hc
       · obtain ⟨g1,g2,g3,_⟩:=h4 hc
         rcases hd with hd | hd | hd
         · exact absurd g1 hd
         · exact absurd hd (by simpa using g2)
         · exact absurd hd g3
   · rw[if_neg hc,r_6 tk r (i+1) (x.Line::ls)]
     have hx:b_d x.Kind≠0∧(0≤x.OC∧x.OC≤3)∧(0≤x.Line∧x.Line≤3)∧(x.Line≠0→x.Kind=0∧(i,1) ∉ tk∧x.Line ∉ ls):=by
       refine ⟨fun h=>hc (.inl h),Classical.not_not.1 fun h=>hc (.inr (.inl h)),Classical.not_not.1 fun h=>hc (.inr (.inr (.inl h))),fun hl=>⟨Classical.not_not.1 fun h=>hc (.inr (.inr (.inr ⟨hl, .inl h⟩))),fun h=>hc (.inr (.inr (.inr ⟨hl, .inr (.inl h)⟩))),fun h=>hc (.inr (.inr (.inr ⟨hl, .inr (.inr h)⟩)))⟩⟩
     constructor
     · intro h k s hk
       cases k with
       | zero=>
         simp at hk;subst hk
         exact ⟨hx.1,hx.2.1,hx.2.2.1,fun hl=>by
           obtain ⟨a,b,c⟩:=hx.2.2.2 hl
           exact ⟨a,by simpa using b,c,fun k' s' hk'=>by omega⟩⟩
       | succ k=>
         obtain ⟨h1,h2,h3,h4⟩:=h k s (by simpa using hk)
         refine ⟨h1,h2,h3,fun hl=>?_⟩
         obtain ⟨a,b,c,d⟩:=h4 hl
         refine ⟨a,by rw[show i+ ((k+1:Nat) :Int) =i+1+k by omega];exact b,fun hm=>c (by simp[hm]),fun k' s' hk' hs'=>?_⟩
         cases k' with
         | zero=>simp at hs';subst hs';exact fun e=>c (by simp[e])
         | succ k'=>exact d k' s' (by omega) (by simpa using hs')
     · intro h k s hk
       obtain ⟨h1,h2,h3,h4⟩:=h (k+1) s (by simpa using hk)
       refine ⟨h1,h2,h3,fun hl=>?_⟩
       obtain ⟨a,b,c,d⟩:=h4 hl
       refine ⟨a,by rw[show i+1+ (k:Int) =i+ ((k+1:Nat) :Int) by omega];exact b,fun hm=>?_,fun k' s' hk' hs'=>d (k'+1) s' (by omega) (by simpa using hs')⟩
       rcases List.mem_cons.1 hm with hm | hm
       · exact d 0 x (by omega) rfl hm.symm
       · exact c hm
def a_er (secs:List Sec)(js:List Jt)(k:Nat)(s:Sec) :Prop:=
 b_d s.Kind≠0∧(0≤s.OC∧s.OC≤3)∧(0≤s.Line∧s.Line≤3)∧(s.Line≠0→s.Kind=0∧cnt js k 1≤0∧∀k' s',k' < k→secs[k']? =some s'→s'.Line≠s.Line)
def jtOk (secs:List Sec)(js:List Jt)(j:Jt) :Prop:=
 (0≤j.A∧j.A < secs.length)∧(0≤j.B∧j.B < secs.length)∧j.A≠j.B∧(0≤j.AEnd∧j.AEnd < b_d (j_f secs j.A))∧(0≤j.BEnd∧j.BEnd < b_d (j_f secs j.B))∧cnt js j.A j.AEnd≤1∧cnt js j.B j.BEnd≤1
theorem n_1 (secs:List Sec)(p:Int × Int) :k_2 secs p=true↔(0≤p.1∧p.1 < secs.length)∧(0≤p.2∧p.2 < b_d (j_f secs p.1)):=by
 simp only[k_2,Bool.and_eq_true,decide_eq_true_eq];omega
theorem mem_spots {js:List Jt}{p:Int × Int} :p ∈ b_9 js↔∃j ∈ js,p=(j.A,j.AEnd)∨p=(j.B,j.BEnd):=by
 simp[b_9,Jt.spots]
theorem n_3 (secs:List Sec)(js:List Jt) :b_m secs js=true↔
   (1≤secs.length∧secs.length≤16∧js.length≤24)∧(∀(k:Nat) s,secs[k]? =some s→a_er secs js k s)∧∀j ∈ js,jtOk secs js j:=by
 simp only[b_m,Bool.and_eq_true,decide_eq_true_eq]
 refine and_congr_right fun _=>?_
 have hnd:(b_9 js).Nodup↔∀j ∈ js,cnt js j.A j.AEnd≤1∧cnt js j.B j.BEnd≤1:=by
   rw[List.nodup_iff_count]
   constructor
   · intro h j _
     rw[k_a,k_a]
     have h1:=h (j.A,j.AEnd)
     have h2:=h (j.B,j.BEnd)
     omega
   · intro h p
     by_cases hp:p ∈ b_9 js
     · obtain ⟨j,hj,rfl | rfl⟩:=mem_spots.1 hp
       · have:=(h j hj).1;rw[k_a] at this;omega
       · have:=(h j hj).2;rw[k_a] at this;omega
     · rw[List.count_eq_zero_of_not_mem hp];omega
 have hsp:(∀p ∈ b_9 js,k_2 secs p=true)↔∀j ∈ js,((0≤j.A∧j.A < secs.length)∧(0≤j.AEnd∧j.AEnd < b_d (j_f secs j.A)))∧((0≤j.B∧j.B < secs.length)∧(0≤j.BEnd∧j.BEnd < b_d (j_f secs j.B))):=by
   constructor
   · intro h j hj
     exact ⟨(n_1 _ _).1 (h (j.A,j.AEnd) (mem_spots.2 ⟨j,hj, .inl rfl⟩)),(n_1 _ _).1 (h (j.B,j.BEnd) (mem_spots.2 ⟨j,hj, .inr rfl⟩))⟩
   · intro h p hp
     obtain ⟨j,hj,rfl | rfl⟩:=mem_spots.1 hp
     · exact (n_1 _ _).2 (h j hj).1
     · exact (n_1 _ _).2 (h j hj).2
 have hcz:∀k:Nat,cnt js k 1≤0↔((k:Int),(1:Int)) ∉ (b_9 js).reverse ++ []:=fun k=>by
   rw[k_a,List.append_nil,List.mem_reverse,←List.count_eq_zero];omega
 constructor
 · intro h
   cases hj:w_t secs js [] with
   | none=>rw[hj] at h;cases h
   | some tk=>
     rw[hj] at h
     obtain ⟨h1,h2,_,h4,rfl⟩:=(a_ek secs js [] tk).1 hj
     have h5:=(r_6 _ secs 0 []).1 h
     refine ⟨fun k s hk=>?_,fun j hj=>?_⟩
     · obtain ⟨a,b,c,d⟩:=h5 k s hk
       refine ⟨a,b,c,fun hl=>?_⟩
       obtain ⟨d1,d2,_,d4⟩:=d hl
       exact ⟨d1,(hcz k).2 (by simpa using d2),d4⟩
     · obtain ⟨⟨a1,a2⟩,b1,b2⟩:=hsp.1 h1 j hj
       exact ⟨a1,b1,h4 j hj,a2,b2,hnd.1 h2 j hj⟩
 · rintro ⟨h1,h2⟩
   have hj:w_t secs js []=some ((b_9 js).reverse ++ []):=(a_ek secs js [] _).2 ⟨hsp.2 fun j hj=>by obtain ⟨a,b,c,d,e,f⟩:=h2 j hj;exact ⟨⟨a,d⟩,b,e⟩,hnd.2 fun j hj=>(h2 j hj).2.2.2.2.2,by simp,fun j hj=>(h2 j hj).2.2.1,rfl⟩
   rw[hj]
   refine (r_6 _ secs 0 []).2 fun k s hk=>?_
   obtain ⟨a,b,c,d⟩:=h1 k s hk
   refine ⟨a,b,c,fun hl=>?_⟩
   obtain ⟨d1,d2,d3⟩:=d hl
   exact ⟨d1,by simpa using (hcz k).1 d2,by simp,d3⟩
end
end Go.Fw
namespace Go.Proofs.YtdmfnhbmhkgemaaGreat
open Go.Fw Go.Proofs Go.RowKit
section
variable {σ:Store}
abbrev encP (p:Int × Int) :A:= .agg [iD p.1,iD p.2]
theorem j_9:Keys Tryz.prog b_x encP:=a_s3 fun a b=>by kernel_rfl
theorem p_g:Keys Tryz.prog a_h iA:=⟨fun x=>by kernel_rfl,fun x y=>by simp[eqA,b_y,b_l,e_2]⟩
theorem a_i5 {d1 d2:D}{secs:List Sec}{js:List Jt}(hs:∀s,At Tryz.prog s i_a d1 (secs.map Sec.enc))(hj:∀s,At Tryz.prog s j_4 d2 (js.map Jt.enc)) :
   Pure Tryz.prog o_2 [.one d1, .one d2] σ (.a (iA (if b_m secs js=true then 0 else 6))):=by
 have hls:=(hs σ).size
 have hlj:=(hj σ).size
 rw[List.length_map] at hls hlj
 refine .of (a_l0 d1 d2 σ _ ?_) (a_vd _)
 intro R hR
 refine (hs σ).lenK ((e_3 _ _ _).use ⟨_,rfl,a_q (fun h=>?_) (fun h=>(hj σ).lenK (bcd (fun h2=>?_) (fun h2=>hR σ ?_)))⟩)
 · simp at h
   exact ⟨by rw[if_neg];simp[b_m];omega, .refl _⟩
 · simp at h2
   exact ⟨by rw[if_neg];simp[b_m];omega, .refl _⟩
 simp at h h2
 have hsize:decide (1≤secs.length∧secs.length≤16∧js.length≤24) =true:=by simp;omega
 refine a_e fun id σ1 hid _ he hs1=>(hj σ1).lenK ⟨fun n s=>∃tk f,MapAt Tryz.prog b_x encP s id f∧(∀z,f z=if z ∈ tk then some (iA 1) else none)∧Ext σ s∧Rng js (fun r=>w_t secs r tk=w_t secs js []) n,
   fun n _=>js.length - n.toNat,⟨[],_, .new hs1,fun z=>by simp,he, .start rfl⟩,?_⟩
 rintro n s ⟨tk,f,hm,hf,hes,hr⟩
 refine bcd (fun hlt=>?_) (fun hge=>?_)
 · obtain ⟨j,x,rfl,hx,hjl,hF,nx⟩:=hr.step (by simp) hlj hlt
   refine (hj s).load (a_c hx) s_q rfl ⟨x.A,x.AEnd,x.B,x.BEnd,rfl,?_⟩
   refine a_e fun id1 s1 hid1 _ he1 hs2=>?_
   have hne:id≠id1:=fun e=>by
     obtain ⟨c,es,h1,_⟩:=hm
     rw[e,hid1] at h1;cases h1
   have hbad:w_p secs x.spots tk=none∨x.A=x.B→(if b_m secs js=true then (0:Int) else 6) =6:=by
     intro hb
     have:w_t secs js []=none:=by
       rw[←hF,w_t]
       rcases hb with hb | hb
       · rw[hb]
       · cases w_p secs x.spots tk with
         | none=>rfl
         | some tk'=>simp[hb]
     rw[if_neg];simp[b_m,this]
   have hloc:∀s',s' id1= .live b_x [[iD x.A,iD x.AEnd],[iD x.B,iD x.BEnd]]→At Tryz.prog s' b_x (.osl id1 0 2) (x.spots.map fun p=> [iD p.1,iD p.2]):=fun s' h=>At.fresh h (by simp) rfl
   refine (hloc s1 hs2).lenK ⟨fun m s'=>∃tk' f',MapAt Tryz.prog b_x encP s' id f'∧(∀z,f' z=if z ∈ tk' then some (iA 1) else none)∧Ext σ s'∧s' id1= .live b_x [[iD x.A,iD x.AEnd],[iD x.B,iD x.BEnd]]∧
     Rng x.spots (fun q=>w_p secs q tk'=w_p secs x.spots tk) m,fun m _=>x.spots.length - m.toNat,⟨tk,f,hm.same (he1 id (fun e=>hne (by
       obtain ⟨c,es,h1,_⟩:=hm
       rw[e] at h1;cases h1))),hf,hes.trans he1,hs2, .start rfl⟩,?_⟩
   rintro m s' ⟨tk',f',hm',hf',hes',hs2',hr'⟩
   refine bcd (fun hlt'=>?_) (fun hge'=>?_)
   · obtain ⟨i,p,rfl,hp,hil,hG,nx'⟩:=hr'.step (by simp) (by simp[Jt.spots]) hlt'
     refine (hloc s' hs2').load (a_c hp) a_px rfl ⟨p.1,p.2,rfl,(hs s').lenK ?_⟩
     rw[w_p] at hG
     have hw1:w64 (((secs.map Sec.enc).length:Int) - 1) =(secs.length:Int) - 1:=by rw[List.length_map,a_u (by omega) (by omega)]
     refine (e_3 _ _ _).use ⟨_,rfl,?_⟩
     rw[hw1]
     refine a_q (fun h3=>?_) (fun h3=>?_)
     · exact ⟨by rw[hbad (.inl ?_)];rw[←hG,if_neg];simp only[k_2,h3];simp,hes'⟩
     · have h3':=of_decide_eq_true h3
       obtain ⟨y,hy⟩:=a_i (l:=secs) (j:=p.1.toNat) (by omega)
       refine (hs s').load (a_c hy) b_z (by omega) ⟨y.Kind,rfl,(o_l _).use ⟨_,rfl,(e_3 _ _ _).use ⟨_,rfl,?_⟩⟩⟩
       have hk:j_f secs p.1=y.Kind:=by simp[j_f,hy]
       have hn:=y_3 y.Kind
       rw[a_u (n:=b_d y.Kind - 1) (by omega) (by omega)]
       refine a_q (fun h4=>?_) (fun h4=>?_)
       · exact ⟨by rw[hbad (.inl ?_)];rw[←hG,if_neg];simp only[k_2,hk,h4];simp,hes'⟩
       · have hok:k_2 secs p=true:=by simp only[k_2,hk,h3,h4];rfl
         by_cases hin:p ∈ tk'
         · refine hm'.lookI j_9 p (n:=1) (by rw[hf',if_pos hin];rfl) (bcd (fun _=>?_) (fun h=>absurd (by decide) h))
           exact ⟨by rw[hbad (.inl ?_)];rw[←hG,if_neg];simp[hin],hes'⟩
         · refine hm'.lookI j_9 p (n:=0) (by rw[hf',if_neg hin];rfl) (bcd (fun h=>absurd h (by decide)) (fun _=>?_))
           refine hm'.lookI j_9 p (n:=0) (by rw[hf',if_neg hin];rfl) ?_
           rw[if_pos ⟨hok,hin⟩] at hG
           refine hm'.bump j_9 p fun s3 f3 hm3 hf3 hf3' hs3 hs3'=>⟨rfl,?_⟩
           have hn2:=nx' (fun q=>w_p secs q (p::tk') =w_p secs x.spots tk) hG
           refine ⟨⟨p::tk',f3,hm3,fun z=>?_,fun i hi=>?_,?_,hn2.1⟩,hn2.2⟩
           · by_cases hz:z=p
             · subst hz;rw[hf3'];simp;rfl
             · rw[hf3 z hz,hf'];simp[hz]
           · rw[hs3 i (fun e=>?_)]
             · exact hes' i hi
             · subst e;rw[hid] at hi;exact hi rfl
           · rw[hs3 _ (Ne.symm hne)];exact hs2'
   · have hG:=hr'.done (by simp) hge'
     rw[w_p] at hG
     refine bce (fun h5=>⟨by rw[hbad (.inr h5)],hes'⟩) (fun h5=>?_)
     rw[w_t,←hG] at hF
     simp only[if_neg h5] at hF
     have hn2:=nx (fun r=>w_t secs r tk'=w_t secs js []) hF
     exact ⟨⟨tk',f',hm',hf',hes',hn2.1⟩,hn2.2⟩
 · have hF:=hr.done (by simp) hge
   rw[w_t] at hF
   have htop:b_m secs js=v_t tk secs 0 []:=by simp only[b_m,hsize,←hF,Bool.true_and]
   rw[htop]
   clear htop hr hF hR
   refine a_e fun id1 s1 hid1 _ he1 hs2=>?_
   have hne:id≠id1:=fun e=>by
     obtain ⟨c,es,h1,_⟩:=hm
     rw[e,hid1] at h1;cases h1
   refine (hs s1).lenK ⟨fun n s'=>∃ls f2,MapAt Tryz.prog a_h iA s' id1 f2∧(∀z,z ∉ ls→f2 z=none)∧(∀z,z ∈ ls→∃c:Int,1≤c∧c≤n∧f2 z=some (iA c))∧MapAt Tryz.prog b_x encP s' id f∧Ext σ s'∧
     Rng secs (fun r=>v_t tk r n ls=v_t tk secs 0 []) n,fun n _=>secs.length - n.toNat,⟨[],_, .new hs2,fun z _=>rfl,fun z hz=>(by cases hz),hm.same (he1 id (fun e=>by
       obtain ⟨c,es,h1,_⟩:=hm
       rw[e] at h1;cases h1)),hes.trans he1, .start rfl⟩,?_⟩
   rintro n s' ⟨ls,f2,hm2,hf2,hf2',hm',hes',hr⟩
   refine bcd (fun hlt=>?_) (fun hge=>?_)
   · obtain ⟨j,x,rfl,hx,hjl,hF,nx⟩:=hr.step (by simp) hls hlt
     refine (hs s').load (a_c hx) b_z rfl ⟨x.Kind,x.OC,x.Line,rfl,?_⟩
     intro R1 hR1
     rw[v_t] at hF
     have hbad:∀hc:(b_d x.Kind=0∨¬(0≤x.OC∧x.OC≤3)∨¬(0≤x.Line∧x.Line≤3)∨x.Line≠0∧(x.Kind≠0∨((j:Int),1) ∈ tk∨x.Line ∈ ls)),(if v_t tk secs 0 []=true then (0:Int) else 6) =6:=by
       intro hc
       rw[if_pos hc] at hF
       rw[←hF];rfl
     refine (o_l _).use ⟨_,rfl,bce (fun h1=>⟨by rw[hbad (.inl h1)],hes'⟩) (fun h1=>(e_3 _ _ _).use ⟨_,rfl,a_q (fun h2=>⟨by rw[hbad (.inr (.inl (of_decide_eq_false h2)))],hes'⟩) (fun h2=>(e_3 _ _ _).use ⟨_,rfl,a_q (fun h3=>⟨by rw[hbad (.inr (.inr (.inl (of_decide_eq_false h3))))],hes'⟩) (fun h3=>⟨rfl,hR1 s' ?_⟩)⟩)⟩)⟩
     have put : ∀ hc : ¬ (x.Line ≠ 0 ∧ (x.Kind ≠ 0 ∨ ((j : Int), 1) ∈ tk ∨ x.Line ∈ ls)), ∃ c : Int, (f2 x.Line).getD (iA 0) = iA c ∧ 0 ≤ c ∧ c ≤ j ∧ (x.Line ∉ ls → c = 0) ∧ ∀ (c' : Int), c' = c → MPut Tryz.prog a_h s' (.omap id1) (iA x.Line) (iA (w64 (c' + 1))) fun s6 =>
         (∃ls f2,MapAt Tryz.prog a_h iA s6 id1 f2∧(∀z,z ∉ ls→f2 z=none)∧(∀z,z ∈ ls→∃c:Int,1≤c∧c≤w64 ((j:Int) +1)∧f2 z=some (iA c))∧MapAt Tryz.prog b_x encP s6 id f∧Ext σ s6∧
           Rng secs (fun r=>v_t tk r (w64 ((j:Int) +1)) ls=v_t tk secs 0 []) (w64 ((j:Int) +1)))∧secs.length - (w64 ((j:Int) +1)).toNat < secs.length - (j:Int).toNat:=by
       intro hc
       have hgo:¬(b_d x.Kind=0∨¬(0≤x.OC∧x.OC≤3)∨¬(0≤x.Line∧x.Line≤3)∨x.Line≠0∧(x.Kind≠0∨((j:Int),1) ∈ tk∨x.Line ∈ ls)):=by
         rintro (h | h | h | h)
         · exact h1 h
         · exact h (of_decide_eq_true h2)
         · exact h (of_decide_eq_true h3)
         · exact hc h
       rw[if_neg hgo] at hF
       have hcount:∃c:Int,(f2 x.Line).getD (iA 0) =iA c∧0≤c∧c≤j∧(x.Line ∉ ls→c=0):=by
         by_cases hin:x.Line ∈ ls
         · obtain ⟨c,c1,c2,c3⟩:=hf2' _ hin
           exact ⟨c,by rw[c3];rfl,by omega,c2,fun h=>absurd hin h⟩
         · exact ⟨0,by rw[hf2 _ hin];rfl,by omega,by omega,fun _=>rfl⟩
       obtain ⟨c,k1,k2,k3,k4⟩:=hcount
       refine ⟨c,k1,k2,k3,k4,fun c' hc'=>?_⟩
       subst hc'
       refine hm2.put p_g x.Line fun s6 f6 g1 g2 g3 g4 g5=>?_
       have hn2:=nx (fun r=>v_t tk r (w64 ((j:Int) +1)) (x.Line::ls) =v_t tk secs 0 []) (by rw[a_o (by omega)];simpa using hF)
       have hw:w64 ((j:Int) +1) =(j:Int) +1:=a_u (by omega) (by omega)
       refine ⟨⟨x.Line::ls,f6,g1,fun z hz=>?_,fun z hz=>?_,hm'.same (g4 _ hne),fun i hi=>?_,hn2.1⟩,hn2.2⟩
       · simp only[List.mem_cons,not_or] at hz
         rw[g2 z hz.1];exact hf2 z hz.2
       · by_cases hzx:z=x.Line
         · subst hzx
           exact ⟨c'+1,by omega,by omega,by rw[g3,a_u (by omega) (by omega)]⟩
         · rw[g2 z hzx]
           obtain ⟨c2,q1,q2,q3⟩:=hf2' z ((List.mem_cons.1 hz).resolve_left hzx)
           exact ⟨c2,q1,by omega,q3⟩
       · rw[g4 i (fun e=>?_)]
         · exact hes' i hi
         · subst e
           have:=hes _ hi
           rw[hid1] at this;exact hi this.symm
     refine bcn (fun h4=>bcn (fun h5=>⟨by rw[hbad (.inr (.inr (.inr ⟨h4, .inl h5⟩)))],hes'⟩) (fun h5=>?_)) (fun h4=>?_)
     · by_cases hin:((j:Int),(1:Int)) ∈ tk
       · refine hm'.lookI j_9 ((j:Int),(1:Int)) (n:=1) (by rw[hf,if_pos hin];rfl) (bcd (fun _=>⟨by rw[hbad (.inr (.inr (.inr ⟨h4, .inr (.inl hin)⟩)))],hes'⟩) (fun h=>absurd (by decide) h))
       · refine hm'.lookI j_9 ((j:Int),(1:Int)) (n:=0) (by rw[hf,if_neg hin];rfl) (bcd (fun h=>absurd h (by decide)) (fun _=>?_))
         by_cases hin2:x.Line ∈ ls
         · obtain ⟨c,c1,c2,c3⟩:=hf2' _ hin2
           exact hm2.lookI p_g x.Line (n:=c) (by rw[c3];rfl) (bcd (fun _=>⟨by rw[hbad (.inr (.inr (.inr ⟨h4, .inr (.inr hin2)⟩)))],hes'⟩) (fun h=>absurd (show c > 0 by omega) h))
         · obtain ⟨c,k1,k2,k3,k4,k5⟩:=put (by rintro ⟨_,h | h | h⟩;exact h h5;exact hin h;exact hin2 h)
           have:=k4 hin2
           refine hm2.lookI p_g x.Line k1 (bcd (fun h=>absurd h (by omega)) (fun _=>hm2.lookI p_g x.Line k1 (k5 c rfl)))
     · obtain ⟨c,k1,k2,k3,k4,k5⟩:=put (fun h=>h.1 h4)
       exact hm2.lookI p_g x.Line k1 (k5 c rfl)
   · have hF:=hr.done (by simp) hge
     rw[v_t] at hF
     exact ⟨by rw[←hF];rfl,hes'⟩
theorem a_fj {d1 d2:D}{secs:List Sec}{js:List Jt}(hs:At Tryz.prog σ i_a d1 (secs.map Sec.enc))(hj:At Tryz.prog σ j_4 d2 (js.map Jt.enc)) :
   Pure Tryz.prog m_q [.one d1, .one d2] σ (.a (iA (if b_m secs js=true then 0 else 6))):=by
 have hls:=hs.size
 have hlj:=hj.size
 rw[List.length_map] at hls hlj
 have bad:¬((1≤secs.length∧secs.length≤16∧js.length≤24)∧(∀(k:Nat) s,secs[k]? =some s→a_er secs js k s)∧∀j ∈ js,jtOk secs js j)→(RV.a (iA 6) = .a (iA (if b_m secs js=true then 0 else 6))∧σ=σ):=fun h=>by
   rw[if_neg (fun ht=>h ((n_3 _ _).1 ht))];exact ⟨rfl,rfl⟩
 refine a_h5 d1 d2 σ _ ?_
 intro R hR
 refine hs.lenK (bcd (fun h=>?_) (fun h=>hs.lenK (bcd (fun h2=>?_) (fun h2=>hj.lenK (bcd (fun h3=>?_) (fun h3=>hR σ ?_))))))
 · rw[List.length_map] at h;exact bad fun hb=>by omega
 · rw[List.length_map] at h2;exact bad fun hb=>by omega
 · rw[List.length_map] at h3;exact bad fun hb=>by omega
 rw[List.length_map] at h h2 h3
 refine hs.lenK ⟨fun n s=>s=σ∧Rng secs (fun _=>∀(k:Nat) x,(k:Int) < n→secs[k]? =some x→a_er secs js k x) n,fun n _=>secs.length - n.toNat,⟨rfl, .start fun k x hk=>by omega⟩,?_⟩
 rintro n τ ⟨rfl,hr⟩
 refine bcd (fun hlt=>?_) (fun hge=>?_)
 · obtain ⟨i,x,rfl,hx,hil,hF,nx⟩:=hr.step (by simp) hls hlt
   refine hs.load (a_c hx) b_z rfl ⟨x.Kind,x.OC,x.Line,rfl,?_⟩
   intro R1 hR1
   have nbad:¬a_er secs js i x→_:=fun hn=>bad fun hb=>hn (hb.2.1 i x hx)
   have hstep:a_er secs js i x→_:=fun hok=>nx (fun _=>∀(k:Nat) x,(k:Int) < w64 ((i:Int) +1)→secs[k]? =some x→a_er secs js k x) fun k y hk hy=>by
     rw[a_o (by omega)] at hk
     by_cases hki:k=i
     · subst hki;rw[hx] at hy;injection hy with hy;subst hy;exact hok
     · exact hF k y (by omega) hy
   refine (i_z _).use ⟨_,rfl,bce (fun h1=>nbad fun ho=>ho.1 h1) (fun h1=>bcd (fun h4=>nbad fun ho=>by have:=ho.2.1;omega) (fun h4=>bcd (fun h5=>nbad fun ho=>by have:=ho.2.1;omega)
     (fun h5=>bcd (fun h6=>nbad fun ho=>by have:=ho.2.2.1;omega) (fun h6=>bcd (fun h7=>nbad fun ho=>by have:=ho.2.2.1;omega) (fun h7=>⟨rfl,hR1 _ ?_⟩)))))⟩
   refine bce (fun h8=>?_) (fun h8=>bcn (fun h9=>nbad fun ho=>h9 (ho.2.2.2 h8).1) (fun h9=>(l_a _ _ hj).use ⟨_,rfl,bcd (fun h10=>nbad fun ho=>by have:=(ho.2.2.2 h8).2.1;omega) (fun h10=>?_)⟩))
   · exact c_0 rfl (hstep ⟨h1,by omega,by omega,fun hl=>absurd h8 hl⟩)
   · refine ⟨fun m s=>s=τ∧∃k:Nat,m=k∧k≤i∧∀k' y,k' < k→secs[k']? =some y→y.Line≠x.Line,fun m _=>i - m.toNat,⟨rfl,0,rfl,by omega,fun k' y hk=>by omega⟩,?_⟩
     rintro m _ ⟨rfl,k,rfl,hki,hk⟩
     refine bcd (fun hlt2=>?_) (fun hge2=>?_)
     · obtain ⟨y,hy⟩:=a_i (l:=secs) (j:=k) (by omega)
       refine hs.load (a_c hy) b_z rfl ⟨y.Line,rfl,bce (fun h11=>nbad fun ho=>(ho.2.2.2 h8).2.2 k y (by omega) hy h11) (fun h11=>⟨rfl,?_⟩)⟩
       rw[a_o (by omega)]
       exact ⟨⟨rfl,k+1,rfl,by omega,fun k' z hk' hz=>by
         by_cases hkk:k'=k
         · subst hkk;rw[hy] at hz;injection hz with hz;subst hz;exact h11
         · exact hk k' z (by omega) hz⟩,by show i - (((k+1:Nat) :Int)).toNat < i - ((k:Int)).toNat;omega⟩
     · refine c_0 rfl (hstep ⟨h1,by omega,by omega,fun _=>⟨h9,by omega,fun k' y hk' hy=>hk k' y (by omega) hy⟩⟩)
 · have hall : ∀ (k : Nat) x, secs[k]? = some x → a_er secs js k x := fun k x hk => by
     obtain ⟨i,hi,hi2,hF⟩:=hr
     rw[List.length_map] at hge
     have:=(List.getElem?_eq_some_iff.1 hk).1
     exact hF k x (by omega) hk
   clear hr
   refine hj.lenK ⟨fun n s=>s=τ∧Rng js (fun r=>(∀j ∈ r,jtOk secs js j)→∀j ∈ js,jtOk secs js j) n,fun n _=>js.length - n.toNat,⟨rfl, .start fun h=>h⟩,?_⟩
   rintro m _ ⟨rfl,hr⟩
   refine bcd (fun hlt=>?_) (fun hge2=>?_)
   · obtain ⟨i,x,rfl,hx,hil,hF,nx⟩:=hr.step (by simp) hlj hlt
     have nbad:¬jtOk secs js x→_:=fun hn=>bad fun hb=>hn (hb.2.2 x (List.mem_of_getElem? hx))
     intro R1 hR1
     refine hj.load (a_c hx) s_q rfl ⟨x.A,x.AEnd,x.B,x.BEnd,rfl,?_⟩
     intro R2 hR2
     refine bcd (fun g1=>nbad fun ho=>by have:=ho.1;omega) (fun g1=>hs.lenK (bcd (fun g2=>nbad fun ho=>by have:=ho.1;rw[List.length_map] at g2;omega) (fun g2=>bcd (fun g3=>nbad fun ho=>by have:=ho.2.1;omega)
       (fun g3=>hs.lenK (bcd (fun g4=>nbad fun ho=>by have:=ho.2.1;rw[List.length_map] at g4;omega) (fun g4=>bce (fun g5=>nbad fun ho=>ho.2.2.1 g5) (fun g5=>⟨rfl,hR2 _ ?_⟩)))))))
     rw[List.length_map] at g2 g4
     obtain ⟨ya,hya⟩:=a_i (l:=secs) (j:=x.A.toNat) (by omega)
     obtain ⟨yb,hyb⟩:=a_i (l:=secs) (j:=x.B.toNat) (by omega)
     have ka:j_f secs x.A=ya.Kind:=by simp[j_f,hya]
     have kb:j_f secs x.B=yb.Kind:=by simp[j_f,hyb]
     refine bcd (fun g6=>nbad fun ho=>by have:=ho.2.2.2.1;omega) (fun g6=>hs.load (a_c hya) b_z (by omega) ⟨ya.Kind,rfl,(i_z _).use ⟨_,rfl,bcd (fun g7=>nbad fun ho=>by have:=ho.2.2.2.1;rw[ka] at this;omega) (fun g7=>?_)⟩⟩)
     refine bcd (fun g8=>nbad fun ho=>by have:=ho.2.2.2.2.1;omega) (fun g8=>hs.load (a_c hyb) b_z (by omega) ⟨yb.Kind,rfl,(i_z _).use ⟨_,rfl,bcd (fun g9=>nbad fun ho=>by have:=ho.2.2.2.2.1;rw[kb] at this;omega) (fun g9=>?_)⟩⟩)
     refine (l_a _ _ hj).use ⟨_,rfl,bcd (fun g10=>nbad fun ho=>by have:=ho.2.2.2.2.2.1;omega) (fun g10=>(l_a _ _ hj).use ⟨_,rfl,bcd (fun g11=>nbad fun ho=>by have:=ho.2.2.2.2.2.2;omega) (fun g11=>hR1 _ ?_)⟩)⟩
     refine c_0 rfl (nx _ fun h=>hF fun j hj=>?_)
     rcases List.mem_cons.1 hj with rfl | hj
     · exact ⟨by omega,by omega,g5,by rw[ka];omega,by rw[kb];omega,by omega,by omega⟩
     · exact h j hj
   · have hF:=hr.done (by simp) hge2
     refine ⟨?_,rfl⟩
     rw[if_pos ((n_3 _ _).2 ⟨by omega,hall,hF (by simp)⟩)]
end
end Go.Proofs.YtdmfnhbmhkgemaaGreat
namespace Go.Fw
section
structure Rt where
 Entry:Int
 Exit:Int
 Path:List St
 Flank:List Nd
 Overlap:List Int
 Shunt:Bool
structure Cf where
 Secs:List Sec
 Jts:List Jt
 Sigs:List Sg
 Xs:List Int
 Rts:List Rt
 Age:Int
 Brake:Int
 Hold:Int
 Budget:Int
def FnIs {α:Type}(P:Program)(σ:Store)(f:D)(arg:α→A)(l:List α)(p:α→Bool) :Prop:=
 ∃f1 a b as0' bs,f= .fn f1 a b∧f_p a=some as0'∧f_p b=some bs∧∀x ∈ l,DCalls P f1 (as0' ++ [arg x] ++ bs) σ fun r s=>r= .a (bA (p x))∧s=σ
def e_q {α:Type}(p:α→Bool) :List α→Nat→Int
 | [],_=> -1
 | x::r,j=>if p x=true then j else e_q p r (j+1)
theorem a_gs {α:Type}(p:α→Bool)(l:List α) :decide (e_q p l 0≥0) =l.any p:=by
 have key:∀(l:List α) (j:Nat),decide (e_q p l j≥0) =l.any p:=by
   intro l
   induction l with
   | nil=>intro j;simp[e_q]
   | cons x r ih=>
     intro j
     rw[e_q,List.any_cons]
     by_cases hp:p x=true
     · rw[if_pos hp,hp];simp
     · rw[if_neg hp,ih];simp[hp]
 exact key l 0
def a_k {α:Type}(l:List α)(i:Int) :Option α:=if i < 0 then none else l[i.toNat]?
theorem a_l {α:Type}{l:List α}{i:Int}{x:α}(h:a_k l i=some x) :0≤i∧i < l.length∧l[i.toNat]? =some x:=by
 unfold a_k at h
 split at h
 · cases h
 · have:=(List.getElem?_eq_some_iff.1 h).1
   exact ⟨by omega,by omega,h⟩
theorem c_g {α:Type}{l:List α}{i:Int}(h:i < 0) :a_k l i=none:=if_pos h
theorem d_u {α:Type}{l:List α}{i:Int}(h:(l.length:Int)≤i) :a_k l i=none:=by
 unfold a_k;rw[if_neg (by omega),List.getElem?_eq_none_iff];omega
def a_xp:Option Sec→RV
 | none=> .tup [.agg [iD 0,iD 0,iD 0],bA false]
 | some s=> .tup [.agg s.enc,bA true]
def sgRV:Option Sg→RV
 | none=> .tup [.agg [iD 0,iD 0],bA false]
 | some s=> .tup [.agg s.enc,bA true]
def Cf.approach (c:Cf)(r:Rt) :Int:=((a_k c.Sigs r.Entry).map Sg.Sec).getD (-1)
def Cf.Approach (c:Cf)(i:Int) :Int:=((a_k c.Rts i).map c.approach).getD (-1)
def d_n (path:List St)(s:Int) :Bool:=path.any fun x=>x.Sec == s
def RtAt (P:Program)(tS tN tI:TypeId)(σ:Store)(cs:List D)(r:Rt) :Prop:=
 ∃d1 d2 d3,cs=[iD r.Entry,iD r.Exit,d1,d2,d3, .bool r.Shunt]∧At P σ tS d1 (r.Path.map St.enc)∧At P σ tN d2 (r.Flank.map Nd.enc)∧At P σ tI d3 (r.Overlap.map encI)
def a_xs (P:Program)(tR tS tN tI:TypeId)(σ:Store)(d:D)(l:List Rt) :Prop:=
 ∃rows,At P σ tR d rows∧rows.length=l.length∧∀(i:Nat) row r,rows[i]? =some row→l[i]? =some r→RtAt P tS tN tI σ row r
def b_q (c:Cf)(approach:Int)(path:List St)(s:St)(out:List Nd)(e:Int) :List Nd:=
 if e=s.In∨e=s.Out then out else
 match nxt c.Jts s.Sec e with
 | none=>out
 | some (q,f)=>match a_k c.Secs q with
   | none=>out
   | some y=>if y.Kind=1∧(1≤f∧f≤2)∧q≠approach∧d_n path q=false∧(out.any fun n=>n.Sec == q) =false then out ++ [⟨q,3 - f⟩] else out
def b_i (c:Cf)(approach:Int)(path:List St)(s:St) :Nat→Int→List Nd→List Nd
 | 0,_,out=>out
 | n+1,e,out=>b_i c approach path s n (e+1) (b_q c approach path s out e)
def c_n (c:Cf)(approach:Int)(path:List St) :List St→List Nd→List Nd
 | [],out=>out
 | s::r,out=>c_n c approach path r (match a_k c.Secs s.Sec with
   | none=>out
   | some x=>b_i c approach path s (b_d x.Kind).toNat 0 out)
def Cf.flank (c:Cf)(approach:Int)(path:List St) :List Nd:=c_n c approach path path []
theorem m_l (c:Cf)(a:Int)(p:List St)(s:St)(out:List Nd)(e:Int) :out.length≤(b_q c a p s out e).length∧(b_q c a p s out e).length≤out.length+1:=by
 unfold b_q
 split
 · omega
 · split
   · omega
   · split
     · omega
     · split <;> simp
theorem u_t (c:Cf)(a:Int)(p:List St)(s:St) :∀(n:Nat) (e:Int) (out:List Nd),out.length≤(b_i c a p s n e out).length∧(b_i c a p s n e out).length≤out.length+n
 | 0,e,out=>by simp[b_i]
 | n+1,e,out=>by
   have h1:=m_l c a p s out e
   have h2:=u_t c a p s n (e+1) (b_q c a p s out e)
   rw[b_i];omega
theorem o_p (c:Cf)(a:Int)(p:List St) :∀(l:List St) (out:List Nd),out.length≤(c_n c a p l out).length∧(c_n c a p l out).length≤out.length+4 * l.length
 | [],out=>by simp[c_n]
 | s::r,out=>by
   rw[c_n]
   cases hg:a_k c.Secs s.Sec with
   | none=>have:=o_p c a p r out;simp only[List.length_cons];omega
   | some x=>
     have h1:=u_t c a p s (b_d x.Kind).toNat 0 out
     have h2:=o_p c a p r (b_i c a p s (b_d x.Kind).toNat 0 out)
     have h3:=y_3 x.Kind
     simp only[List.length_cons]
     omega
def Cf.overlap (c:Cf)(r:Rt) :List Int:=
 if r.Shunt=true then [] else
 match a_k c.Sigs r.Exit with
 | none=> []
 | some x=>match nxt c.Jts x.Sec x.End_ with
   | none=> []
   | some (q,_)=>match a_k c.Secs q with
     | none=> []
     | some y=>if y.Line=0∧d_n r.Path q=false∧q≠c.approach r then [q] else []
def l_7 (js:List Jt) :List Sg→List Sg→Bool
 | [],_=>true
 | x::r,seen=>if (nxt js x.Sec x.End_).isSome=true∧x ∉ seen then l_7 js r (x::seen) else false
def xrun (secs:List Sec) :List Int→List Int→Bool
 | [],_=>true
 | x::r,seen=>match a_k secs x with
   | none=>false
   | some s=>if s.Line=0∧x ∉ seen then xrun secs r (x::seen) else false
def Cf.sigsOk (c:Cf) :Bool:=l_7 c.Jts c.Sigs [] && decide (c.Sigs.length≤12)
def Cf.xsOk (c:Cf) :Bool:=xrun c.Secs c.Xs [] && decide (c.Xs.length≤4)
end
end Go.Fw
namespace Go.Proofs.YtdmfnhbmhkgemaaGreat
open Go.Fw Go.Proofs Go.RowKit
section
variable {σ:Store}
theorem x_b {d f:D}{l:List St}{p:St→Bool}(h:At Tryz.prog σ d_v d (l.map St.enc))(hf:FnIs Tryz.prog σ f (fun x:St=> .agg x.enc) l p) :
   Pure Tryz.prog e_i [.one d, .one f] σ (.a (iA (e_q p l 0))):=by
 have hl:=h.size
 rw[List.length_map] at hl
 obtain ⟨f1,a,b,as0',bs,rfl,ha,hb,hf⟩:=hf
 refine n_t d _ σ _ (h.lenK ⟨fun n s=>s=σ∧Rng l (fun r=>∀j:Nat,n=j→e_q p r j=e_q p l 0) n,fun n _=>l.length - n.toNat,⟨rfl, .start fun j hj=>by cases j with | zero=>rfl | succ j=>omega⟩,?_⟩)
 rintro n τ ⟨rfl,hr⟩
 refine bcd (fun hlt=>?_) (fun hge=>?_)
 · obtain ⟨j,x,rfl,hx,hj,hF,nx⟩:=hr.step (by simp) hl hlt
   refine h.load (a_c hx) i_l rfl ⟨x.Sec,x.In,x.Out,rfl,f1,a,b,as0',bs,rfl,ha,hb,?_⟩
   have hF:=hF j rfl
   rw[e_q] at hF
   refine (hf x (List.mem_of_getElem? hx)).mono ?_
   rintro r s ⟨rfl,rfl⟩
   refine ⟨p x,rfl,bc (fun hp=>?_) (fun hp=>?_)⟩
   · rw[if_pos hp] at hF;exact ⟨by rw[←hF],rfl⟩
   · refine c_0 rfl (nx _ fun j' hj'=>?_)
     rw[a_o (by omega)] at hj'
     have:j'=j+1:=by omega
     subst this
     rw[if_neg (by rw[hp];simp)] at hF
     exact hF
 · refine ⟨?_,rfl⟩
   obtain ⟨j,hj,hj2,hF⟩:=hr
   have hF:=hF j hj
   rw[List.length_map] at hge
   rw[e_4 (by omega)] at hF
   rw[←hF];rfl
theorem i_9 {d f:D}{l:List St}{p:St→Bool}(h:At Tryz.prog σ d_v d (l.map St.enc))(hf:FnIs Tryz.prog σ f (fun x:St=> .agg x.enc) l p) :
   Pure Tryz.prog c_d [.one d, .one f] σ (.a (bA (l.any p))):=
 k_z d f σ _ ((x_b h hf).use ⟨_,rfl,by rw[a_gs];exact ⟨rfl,rfl⟩⟩)
theorem y_o {d f:D}{l:List Nd}{p:Nd→Bool}(h:At Tryz.prog σ b_a d (l.map Nd.enc))(hf:FnIs Tryz.prog σ f (fun x:Nd=> .agg x.enc) l p) :
   Pure Tryz.prog e_g [.one d, .one f] σ (.a (iA (e_q p l 0))):=by
 have hl:=h.size
 rw[List.length_map] at hl
 obtain ⟨f1,a,b,as0',bs,rfl,ha,hb,hf⟩:=hf
 refine m_6 d _ σ _ (h.lenK ⟨fun n s=>s=σ∧Rng l (fun r=>∀j:Nat,n=j→e_q p r j=e_q p l 0) n,fun n _=>l.length - n.toNat,⟨rfl, .start fun j hj=>by cases j with | zero=>rfl | succ j=>omega⟩,?_⟩)
 rintro n τ ⟨rfl,hr⟩
 refine bcd (fun hlt=>?_) (fun hge=>?_)
 · obtain ⟨j,x,rfl,hx,hj,hF,nx⟩:=hr.step (by simp) hl hlt
   refine h.load (a_c hx) n_4 rfl ⟨x.Sec,x.Pos,rfl,f1,a,b,as0',bs,rfl,ha,hb,?_⟩
   have hF:=hF j rfl
   rw[e_q] at hF
   refine (hf x (List.mem_of_getElem? hx)).mono ?_
   rintro r s ⟨rfl,rfl⟩
   refine ⟨p x,rfl,bc (fun hp=>?_) (fun hp=>?_)⟩
   · rw[if_pos hp] at hF;exact ⟨by rw[←hF],rfl⟩
   · refine c_0 rfl (nx _ fun j' hj'=>?_)
     rw[a_o (by omega)] at hj'
     have:j'=j+1:=by omega
     subst this
     rw[if_neg (by rw[hp];simp)] at hF
     exact hF
 · refine ⟨?_,rfl⟩
   obtain ⟨j,hj,hj2,hF⟩:=hr
   have hF:=hF j hj
   rw[List.length_map] at hge
   rw[e_4 (by omega)] at hF
   rw[←hF];rfl
theorem q_5 {d f:D}{l:List Nd}{p:Nd→Bool}(h:At Tryz.prog σ b_a d (l.map Nd.enc))(hf:FnIs Tryz.prog σ f (fun x:Nd=> .agg x.enc) l p) :
   Pure Tryz.prog c_e [.one d, .one f] σ (.a (bA (l.any p))):=
 k_r d f σ _ ((y_o h hf).use ⟨_,rfl,by rw[a_gs];exact ⟨rfl,rfl⟩⟩)
theorem i_1 {d f:D}{l:List Sec}{p:Sec→Bool}(h:At Tryz.prog σ i_a d (l.map Sec.enc))(hf:FnIs Tryz.prog σ f (fun x:Sec=> .agg x.enc) l p) :
   Pure Tryz.prog c_f [.one d, .one f] σ (.a (iA (e_q p l 0))):=by
 have hl:=h.size
 rw[List.length_map] at hl
 obtain ⟨f1,a,b,as0',bs,rfl,ha,hb,hf⟩:=hf
 refine k_p d _ σ _ (h.lenK ⟨fun n s=>s=σ∧Rng l (fun r=>∀j:Nat,n=j→e_q p r j=e_q p l 0) n,fun n _=>l.length - n.toNat,⟨rfl, .start fun j hj=>by cases j with | zero=>rfl | succ j=>omega⟩,?_⟩)
 rintro n τ ⟨rfl,hr⟩
 refine bcd (fun hlt=>?_) (fun hge=>?_)
 · obtain ⟨j,x,rfl,hx,hj,hF,nx⟩:=hr.step (by simp) hl hlt
   refine h.load (a_c hx) b_z rfl ⟨x.Kind,x.OC,x.Line,rfl,f1,a,b,as0',bs,rfl,ha,hb,?_⟩
   have hF:=hF j rfl
   rw[e_q] at hF
   refine (hf x (List.mem_of_getElem? hx)).mono ?_
   rintro r s ⟨rfl,rfl⟩
   refine ⟨p x,rfl,bc (fun hp=>?_) (fun hp=>?_)⟩
   · rw[if_pos hp] at hF;exact ⟨by rw[←hF],rfl⟩
   · refine c_0 rfl (nx _ fun j' hj'=>?_)
     rw[a_o (by omega)] at hj'
     have:j'=j+1:=by omega
     subst this
     rw[if_neg (by rw[hp];simp)] at hF
     exact hF
 · refine ⟨?_,rfl⟩
   obtain ⟨j,hj,hj2,hF⟩:=hr
   have hF:=hF j hj
   rw[List.length_map] at hge
   rw[e_4 (by omega)] at hF
   rw[←hF];rfl
theorem a_du {d:D}{l:List Sg}(v:Sg)(h:At Tryz.prog σ e_6 d (l.map Sg.enc)) :Pure Tryz.prog f_c [.one d, .agg v.enc] σ (.a (iA (e_q (fun x=>decide (v=x)) l 0))):=by
 have hl:=h.size
 rw[List.length_map] at hl
 refine p_u d v.Sec v.End_ σ _ (h.lenK ⟨fun n s=>s=σ∧Rng l (fun r=>∀j:Nat,n=j→e_q (fun x=>decide (v=x)) r j=e_q (fun x=>decide (v=x)) l 0) n,fun n _=>l.length - n.toNat,⟨rfl, .start fun j hj=>by cases j with | zero=>rfl | succ j=>omega⟩,?_⟩)
 rintro n τ ⟨rfl,hr⟩
 refine bcd (fun hlt=>?_) (fun hge=>?_)
 · obtain ⟨j,x,rfl,hx,hj,hF,nx⟩:=hr.step (by simp) hl hlt
   refine h.load (a_c hx) f_t rfl ⟨x.Sec,x.End_,rfl,?_⟩
   have hF:=hF j rfl
   rw[e_q] at hF
   have hd:((v.Sec == x.Sec) && (v.End_ == x.End_)) =decide (v=x):=by
     rw[Bool.eq_iff_iff];cases v;cases x;simp
   rw[hd]
   refine bc (fun hp=>?_) (fun hp=>?_)
   · rw[if_pos hp] at hF;exact ⟨by rw[←hF],rfl⟩
   · refine c_0 rfl (nx _ fun j' hj'=>?_)
     rw[a_o (by omega)] at hj'
     have:j'=j+1:=by omega
     subst this
     rw[if_neg (by rw[hp];simp)] at hF
     exact hF
 · refine ⟨?_,rfl⟩
   obtain ⟨j,hj,hj2,hF⟩:=hr
   have hF:=hF j hj
   rw[List.length_map] at hge
   rw[e_4 (by omega)] at hF
   rw[←hF];rfl
theorem v_f {d:D}{l:List Sg}(v:Sg)(h:At Tryz.prog σ e_6 d (l.map Sg.enc)) :Pure Tryz.prog d_7 [.one d, .agg v.enc] σ (.a (bA (l.any fun x=>decide (v=x)))):=
 m_x d v.Sec v.End_ σ _ ((a_du v h).use ⟨_,rfl,by rw[a_gs];exact ⟨rfl,rfl⟩⟩)
theorem a_ic {d1 d2:D}{l1 l2:List Nd}(h1:At Tryz.prog σ b_a d1 (l1.map Nd.enc))(h2:At Tryz.prog σ b_a d2 (l2.map Nd.enc)) :Pure Tryz.prog g_d [.one d1, .one d2] σ (.a (bA (decide (l1=l2)))):=by
 have hl1:=h1.size
 have hl2:=h2.size
 rw[List.length_map] at hl1 hl2
 refine s_y d1 d2 σ _ (h1.lenK (h2.lenK (bcn (fun hne=>?_) (fun heq=>h1.lenK ?_))))
 · rw[List.length_map,List.length_map] at hne
   exact ⟨by rw[decide_eq_false (fun e=>hne (by rw[e]))],rfl⟩
 rw[List.length_map,List.length_map] at heq
 refine ⟨fun n s=>s=σ∧Rng l1 (fun r=>∀j:Nat,n=j→(r=l2.drop j↔l1=l2)) n,fun n _=>l1.length - n.toNat,⟨rfl, .start fun j hj=>by cases j with | zero=>simp | succ j=>omega⟩,?_⟩
 rintro n τ ⟨rfl,hr⟩
 refine bcd (fun hlt=>?_) (fun hge=>?_)
 · obtain ⟨j,x,rfl,hx,hj,hF,nx⟩:=hr.step (by simp) hl1 hlt
   obtain ⟨y,hy⟩:=a_i (l:=l2) (j:=j) (by omega)
   refine h1.load (a_c hx) n_4 rfl ⟨x.Sec,x.Pos,rfl,h2.load (a_c hy) n_4 rfl ⟨y.Sec,y.Pos,rfl,?_⟩⟩
   have hF:=hF j rfl
   rw[a_go hy,List.cons.injEq] at hF
   have hd:((x.Sec == y.Sec) && (x.Pos == y.Pos)) =decide (x=y):=by
     rw[Bool.eq_iff_iff];cases x;cases y;simp
   rw[hd]
   refine a_q (fun hp=>?_) (fun hp=>?_)
   · exact ⟨by rw[decide_eq_false (fun e=>of_decide_eq_false hp (hF.2 e).1)],rfl⟩
   · refine c_0 rfl (nx _ fun j' hj'=>?_)
     rw[a_o (by omega)] at hj'
     have:j'=j+1:=by omega
     subst this
     rw[←hF];exact ⟨fun h=>⟨of_decide_eq_true hp,h⟩,fun h=>h.2⟩
 · obtain ⟨j,hj,hj2,hF⟩:=hr
   rw[List.length_map] at hge
   have hF:=hF j hj
   rw[e_4 (by omega),e_4 (by omega)] at hF
   exact ⟨by rw[decide_eq_true (hF.1 rfl)],rfl⟩
theorem a_lj {d1 d2:D}{l1 l2:List Int}(h1:At Tryz.prog σ a_h d1 (l1.map Go.Fw.encI))(h2:At Tryz.prog σ a_h d2 (l2.map Go.Fw.encI)) :Pure Tryz.prog h_c [.one d1, .one d2] σ (.a (bA (decide (l1=l2)))):=by
 have hl1:=h1.size
 have hl2:=h2.size
 rw[List.length_map] at hl1 hl2
 refine w_w d1 d2 σ _ (h1.lenK (h2.lenK (bcn (fun hne=>?_) (fun heq=>h1.lenK ?_))))
 · rw[List.length_map,List.length_map] at hne
   exact ⟨by rw[decide_eq_false (fun e=>hne (by rw[e]))],rfl⟩
 rw[List.length_map,List.length_map] at heq
 refine ⟨fun n s=>s=σ∧Rng l1 (fun r=>∀j:Nat,n=j→(r=l2.drop j↔l1=l2)) n,fun n _=>l1.length - n.toNat,⟨rfl, .start fun j hj=>by cases j with | zero=>simp | succ j=>omega⟩,?_⟩
 rintro n τ ⟨rfl,hr⟩
 refine bcd (fun hlt=>?_) (fun hge=>?_)
 · obtain ⟨j,x,rfl,hx,hj,hF,nx⟩:=hr.step (by simp) hl1 hlt
   obtain ⟨y,hy⟩:=a_i (l:=l2) (j:=j) (by omega)
   refine h1.load (a_c hx) c_int rfl ⟨x,rfl,h2.load (a_c hy) c_int rfl ⟨y,rfl,?_⟩⟩
   have hF:=hF j rfl
   rw[a_go hy,List.cons.injEq] at hF
   refine bcn (fun hp=>?_) (fun hp=>?_)
   · exact ⟨by rw[decide_eq_false (fun e=>hp (hF.2 e).1)],rfl⟩
   · refine c_0 rfl (nx _ fun j' hj'=>?_)
     rw[a_o (by omega)] at hj'
     have:j'=j+1:=by omega
     subst this
     rw[←hF];exact ⟨fun h=>⟨hp,h⟩,fun h=>h.2⟩
 · obtain ⟨j,hj,hj2,hF⟩:=hr
   rw[List.length_map] at hge
   have hF:=hF j hj
   rw[e_4 (by omega),e_4 (by omega)] at hF
   exact ⟨by rw[decide_eq_true (hF.1 rfl)],rfl⟩
end
section
variable {σ:Store}
structure CfAt (σ:Store) (c0 c1 c2 c3 c4:D) (c:Cf) :Prop where
 secs:At Tryz.prog σ i_a c0 (c.Secs.map Sec.enc)
 jts:At Tryz.prog σ j_4 c1 (c.Jts.map Jt.enc)
 sigs:At Tryz.prog σ e_6 c2 (c.Sigs.map Sg.enc)
 xs:At Tryz.prog σ a_h c3 (c.Xs.map Go.Fw.encI)
 rts:a_xs Tryz.prog l_v d_v b_a a_h σ c4 c.Rts
abbrev cfA (c0 c1 c2 c3 c4:D)(c:Cf) :A:= .agg [c0,c1,c2,c3,c4,iD c.Age,iD c.Brake,iD c.Hold,iD c.Budget]
abbrev rtA (d1 d2 d3:D)(r:Rt) :A:= .agg [iD r.Entry,iD r.Exit,d1,d2,d3, .bool r.Shunt]
section
variable {c0 c1 c2 c3 c4:D} {c:Cf} (h:CfAt σ c0 c1 c2 c3 c4 c)
include h
theorem e_7 (s:Int) :Pure Tryz.prog b_v [cfA c0 c1 c2 c3 c4 c,iA s] σ (a_xp (a_k c.Secs s)):=by
 refine t_l _ _ _ _ _ _ _ _ _ s σ _ (bcd (fun h1=>⟨by rw[c_g h1];rfl,rfl⟩) (fun h1=>h.secs.lenK (bcd (fun h2=>⟨by rw[List.length_map] at h2;rw[d_u h2];rfl,rfl⟩) (fun h2=>?_))))
 rw[List.length_map] at h2
 obtain ⟨x,hx⟩:=a_i (l:=c.Secs) (j:=s.toNat) (by omega)
 refine h.secs.load (a_c hx) b_z (by omega) ⟨x.Kind,x.OC,x.Line,rfl,?_,rfl⟩
 have:a_k c.Secs s=some x:=by unfold a_k;rw[if_neg h1,hx]
 rw[this];rfl
theorem h_k (s:Int) :Pure Tryz.prog c_p [cfA c0 c1 c2 c3 c4 c,iA s] σ (sgRV (a_k c.Sigs s)):=by
 refine v_r _ _ _ _ _ _ _ _ _ s σ _ (bcd (fun h1=>⟨by rw[c_g h1];rfl,rfl⟩) (fun h1=>h.sigs.lenK (bcd (fun h2=>⟨by rw[List.length_map] at h2;rw[d_u h2];rfl,rfl⟩) (fun h2=>?_))))
 rw[List.length_map] at h2
 obtain ⟨x,hx⟩:=a_i (l:=c.Sigs) (j:=s.toNat) (by omega)
 refine h.sigs.load (a_c hx) f_t (by omega) ⟨x.Sec,x.End_,rfl,?_,rfl⟩
 have:a_k c.Sigs s=some x:=by unfold a_k;rw[if_neg h1,hx]
 rw[this];rfl
theorem i_c (r:Rt)(d1 d2 d3:D) :Pure Tryz.prog c_x [cfA c0 c1 c2 c3 c4 c,rtA d1 d2 d3 r] σ (.a (iA (c.approach r))):=by
 refine r_4 _ _ _ _ _ _ _ _ _ _ _ d1 d2 d3 _ σ _ ((h_k h r.Entry).use ?_)
 cases hg:a_k c.Sigs r.Entry with
 | none=>exact ⟨0,0,false,rfl,by simp[Cf.approach,hg],rfl⟩
 | some x=>exact ⟨x.Sec,x.End_,true,rfl,by simp[Cf.approach,hg],rfl⟩
theorem a_si {i:Nat}{r:Rt}(hr:c.Rts[i]? =some r) :∃rows,At Tryz.prog σ l_v c4 rows∧rows.length=c.Rts.length∧∃d1 d2 d3,rows[i]? =some [iD r.Entry,iD r.Exit,d1,d2,d3, .bool r.Shunt]∧At Tryz.prog σ d_v d1 (r.Path.map St.enc)∧At Tryz.prog σ b_a d2 (r.Flank.map Nd.enc)∧At Tryz.prog σ a_h d3 (r.Overlap.map Go.Fw.encI):=by
 obtain ⟨rows,h1,h2,h3⟩:=h.rts
 have hlt:=(List.getElem?_eq_some_iff.1 hr).1
 obtain ⟨row,hrow⟩:=a_i (l:=rows) (j:=i) (by omega)
 obtain ⟨d1,d2,d3,rfl,q1,q2,q3⟩:=h3 i row r hrow hr
 exact ⟨rows,h1,h2,d1,d2,d3,hrow,q1,q2,q3⟩
theorem j_s:∃rows,At Tryz.prog σ l_v c4 rows∧rows.length=c.Rts.length:=by
 obtain ⟨rows,h1,h2,h3⟩:=h.rts
 exact ⟨rows,h1,h2⟩
theorem n_b (i:Int) :Pure Tryz.prog g_s [cfA c0 c1 c2 c3 c4 c,iA i] σ (.a (iA (c.Approach i))):=by
 obtain ⟨rows,hr,hl⟩:=j_s h
 refine a_cl _ _ _ _ _ _ _ _ _ i σ _ (bcd (fun h1=>⟨by rw[Cf.Approach,c_g h1];rfl,rfl⟩) (fun h1=>hr.lenK (bcd (fun h2=>⟨by rw[hl] at h2;rw[Cf.Approach,d_u h2];rfl,rfl⟩) (fun h2=>?_))))
 rw[hl] at h2
 obtain ⟨x,hx⟩:=a_i (l:=c.Rts) (j:=i.toNat) (by omega)
 obtain ⟨rows',hr',_,d1,d2,d3,hrow,_⟩:=a_si h hx
 refine hr'.load hrow c_l (by omega) ⟨_,_,d1,d2,d3,_,rfl,(i_c h x d1 d2 d3).use ⟨_,rfl,?_,rfl⟩⟩
 have:a_k c.Rts i=some x:=by unfold a_k;rw[if_neg h1,hx]
 rw[Cf.Approach,this];rfl
end
theorem a_el {α:Type}{f1:FuncId}{id:Nat}{t:TypeId}{n:Int}{arg:α→A}{l:List α}{p:α→Bool}(hs:σ id= .live t [[iD n]])
   (hf:∀x ∈ l,DCalls Tryz.prog f1 [arg x, .one (.el (.osl id 0 1) 0 0)] σ fun r s=>r= .a (bA (p x))∧s=σ) :FnIs Tryz.prog σ (.fn f1 [] [(false,[.el (.osl id 0 1) 0 0])]) arg l p:=
 ⟨f1,_,_,[],[.one (.el (.osl id 0 1) 0 0)],rfl,rfl,rfl,hf⟩
theorem a_d {id:Nat}{t:TypeId}{row:List D}(hs:σ id= .live t [row]) :Row σ (.osl id 0 1) 0 row:=⟨by omega,t,[row],hs,rfl⟩
theorem a_by {d:D}{path:List St}(s:Int)(h:At Tryz.prog σ d_v d (path.map St.enc)) :Pure Tryz.prog o_o [.one d,iA s] σ (.a (bA (d_n path s))):=by
 refine .of (a_qk d s σ _ (a_e fun id σ1 hid _ he hs=>?_)) (k_o _)
 refine (i_9 (p:=fun x=>x.Sec == s) (h.ext he) (a_el hs fun x _=>?_)).use ⟨_,rfl,rfl,he⟩
 exact a_kg x.Sec x.In x.Out _ σ1 _ ⟨_,_,_,rfl,_,a_d hs,s,rfl,rfl,rfl⟩
theorem a_p4 {d:D}{l:List Nd}{id:Nat}{q:Int}(h:At Tryz.prog σ b_a d (l.map Nd.enc))(hs:σ id= .live a_h [[iD q]]) :
   Pure Tryz.prog c_e [.one d, .one (.fn f_8 [] [(false,[.el (.osl id 0 1) 0 0])])] σ (.a (bA (l.any fun n=>n.Sec == q))):=
 q_5 (p:=fun x=>x.Sec == q) h (a_el hs fun x _=>t_d x.Sec x.Pos _ σ _ ⟨_,_,_,rfl,_,a_d hs,q,rfl,rfl,rfl⟩)
end
end Go.Proofs.YtdmfnhbmhkgemaaGreat
namespace Go.Fw
section
theorem i_w (o:Option (Int × Int)){K:Int→Int→Bool→Prop}(h:K (o.getD (0,0)).1 (o.getD (0,0)).2 o.isSome) :∃n m:Int,∃b:Bool,opt2 o= .tup [iA n,iA m,bA b]∧K n m b:=by
 cases o with
 | none=>exact ⟨0,0,false,rfl,h⟩
 | some p=>exact ⟨p.1,p.2,true,rfl,h⟩
theorem a_mx (o:Option Int){K:Int→Bool→Prop}(h:K (o.getD 0) o.isSome) :∃n:Int,∃b:Bool,opt1 o= .tup [iA n,bA b]∧K n b:=by
 cases o with
 | none=>exact ⟨0,false,rfl,h⟩
 | some p=>exact ⟨p,true,rfl,h⟩
theorem a_ga (o:Option Sec){K:Int→Int→Int→Bool→Prop}(h:K (o.getD ⟨0,0,0⟩).Kind (o.getD ⟨0,0,0⟩).OC (o.getD ⟨0,0,0⟩).Line o.isSome) :∃n m k:Int,∃b:Bool,a_xp o= .tup [.agg [iD n,iD m,iD k],bA b]∧K n m k b:=by
 cases o with
 | none=>exact ⟨0,0,0,false,rfl,h⟩
 | some p=>exact ⟨p.Kind,p.OC,p.Line,true,rfl,h⟩
theorem a_u3 (o:Option Sg){K:Int→Int→Bool→Prop}(h:K (o.getD ⟨0,0⟩).Sec (o.getD ⟨0,0⟩).End_ o.isSome) :∃n m:Int,∃b:Bool,sgRV o= .tup [.agg [iD n,iD m],bA b]∧K n m b:=by
 cases o with
 | none=>exact ⟨0,0,false,rfl,h⟩
 | some p=>exact ⟨p.Sec,p.End_,true,rfl,h⟩
def x_m (c:Cf)(r:Rt)(ex:Option Sg)(a:Sg)(s:St)(last:Bool)(seen:List Int) :Bool:=
 match nxt c.Jts a.Sec a.End_ with
 | none=>false
 | some (q, i) => decide (q = s.Sec) && decide (i = s.In) && (i_t (f_l ((a_k c.Secs q).getD ⟨0, 0, 0⟩).Kind) s.In s.Out).isSome && decide (q ∉ seen) &&
     (!(c.Sigs.any fun x=>decide (⟨s.Sec,s.Out⟩ =x)) || (last && decide (ex=some ⟨s.Sec,s.Out⟩))) && !(r.Shunt && decide (((a_k c.Secs q).getD ⟨0,0,0⟩).Line≠0))
def p_k (c:Cf)(r:Rt)(ex:Option Sg) :List St→Sg→List Int→Bool
 | [],a,_=>match ex with
   | some x=>decide (a=x)
   | none=> !(nxt c.Jts a.Sec a.End_).isSome
 | s::rest,a,seen=>x_m c r ex a s rest.isEmpty seen && p_k c r ex rest ⟨s.Sec,s.Out⟩ (s.Sec::seen)
def Cf.path (c:Cf)(r:Rt) :Bool:=
 match a_k c.Sigs r.Entry with
 | none=>false
 | some a=>(decide (r.Exit= -1) || (a_k c.Sigs r.Exit).isSome) && decide (1≤r.Path.length∧r.Path.length≤8) && p_k c r (a_k c.Sigs r.Exit) r.Path a [a.Sec]
def Cf.route (c:Cf)(r:Rt) :Int:=
 if c.path r=false then 9 else if r.Flank≠c.flank (c.approach r) r.Path then 10 else if r.Overlap≠c.overlap r then 11 else 0
def Cf.routes (c:Cf) :List Rt→Int
 | []=>0
 | r::l=>if c.route r≠0 then c.route r else c.routes l
def Cf.timing (c:Cf) :Bool:=
 decide (1≤c.Age∧c.Age≤8) && decide (0≤c.Brake∧c.Brake≤8) && decide (c.Age+c.Brake+1≤c.Hold∧c.Hold≤40) && decide (1≤c.Budget∧c.Budget≤1000000)
def Cf.check (c:Cf) :Int:=
 if b_m c.Secs c.Jts=false then 6 else if c.sigsOk=false then 7 else if c.xsOk=false then 8 else if c.Rts.length > 12 then 9
 else if c.routes c.Rts≠0 then c.routes c.Rts else if c.timing=true then 0 else 12
theorem Rows.det {P:Program}{s s':Store}{el:TypeId}{d:D}{rs rs':List (List D)}(h:Rows P s el d rs)(h':Rows P s' el d rs')(hd:∀id i len,d≠ .osl id i len) :rs=rs':=by
 cases d <;> simp only[Rows] at h h' <;> try exact h.elim
 · rw[h,h']
 · rw[h,h']
 · rw[h.1,h'.1]
 · exact absurd rfl (hd _ _ _)
theorem a_rd {P:Program}{el:TypeId}{d:D}(h:∀s,∃rs,Rows P s el d rs) :∀id i len,d≠ .osl id i len:=by
 rintro id i len rfl
 obtain ⟨rs,t,rows,h1,_⟩:=h fun _=> .free
 cases h1
theorem g_h {P:Program}{tR tS tN tI:TypeId}{d:D}{l:List Rt}(h:∀s,a_xs P tR tS tN tI s d l) :
   ∃rows,(∀s,At P s tR d rows)∧rows.length=l.length∧∀(i:Nat) row r,rows[i]? =some row→l[i]? =some r→
     ∃d1 d2 d3,row=[iD r.Entry,iD r.Exit,d1,d2,d3, .bool r.Shunt]∧(∀s,At P s tS d1 (r.Path.map St.enc))∧(∀s,At P s tN d2 (r.Flank.map Nd.enc))∧(∀s,At P s tI d3 (r.Overlap.map encI)):=by
 have hp:=a_rd (P:=P) (el:=tR) (d:=d) fun s=>by
   obtain ⟨rows,h1,_⟩:=h s
   exact ⟨rows,h1.rows⟩
 obtain ⟨rows,h1,h2,h3⟩:=h fun _=> .free
 have hall:∀s,At P s tR d rows∧∀(i:Nat) row r,rows[i]? =some row→l[i]? =some r→RtAt P tS tN tI s row r:=fun s=>by
   obtain ⟨rows',q1,q2,q3⟩:=h s
   have e:=q1.rows.det h1.rows hp
   subst e
   exact ⟨q1,q3⟩
 refine ⟨rows,fun s=>(hall s).1,h2,fun i row r hi hr=>?_⟩
 obtain ⟨d1,d2,d3,rfl,_⟩:=h3 i row r hi hr
 refine ⟨d1,d2,d3,rfl,fun s=>?_,fun s=>?_,fun s=>?_⟩ <;>
 · obtain ⟨e1,e2,e3,he,q1,q2,q3⟩:=(hall s).2 i _ r hi hr
   injection he with _ he;injection he with _ he;injection he with a1 he;injection he with a2 he;injection he with a3 he
   subst a1 a2 a3
   assumption
end
end Go.Fw
namespace Go.Proofs.YtdmfnhbmhkgemaaGreat
open Go.Fw Go.Proofs Go.RowKit
section
variable {σ:Store}
abbrev a_xl (p:Sg) :A:= .agg [iD p.Sec,iD p.End_]
theorem a_k5:Keys Tryz.prog e_6 a_xl:=by
 refine ⟨fun x=>?_,fun x y=>?_⟩
 · have:∀a b:Int,g_g Tryz.prog e_6 (.agg [iD a,iD b]) =true:=fun a b=>by kernel_rfl
   exact this _ _
 · cases x;cases y;simp[eqA,b_y,b_l,e_2]
theorem d_x (n lo hi:Int) :Pure Tryz.prog c_u [iA n,iA lo,iA hi] σ (.a (bA (decide (lo≤n∧n≤hi)))):=by
 refine a_eg n lo hi σ _ (bcd (fun h=>⟨?_,rfl⟩) (fun h=>⟨?_,rfl⟩)) <;> simp[h]
section
variable {c0 c1 c2 c3 c4:D} {c:Cf} (h:∀s,CfAt s c0 c1 c2 c3 c4 c)
include h
theorem a_dq:Pure Tryz.prog g_a [cfA c0 c1 c2 c3 c4 c] σ (.a (bA c.sigsOk)):=by
 have hl:=(h σ).sigs.size
 rw[List.length_map] at hl
 refine .of (t_h _ _ _ _ _ _ _ _ _ σ _ ?_) (k_o _)
 refine a_e fun id σ1 hid _ he hs=>(h σ1).sigs.lenK ⟨fun n s=>∃seen f,MapAt Tryz.prog e_6 a_xl s id f∧(∀z,f z=if z ∈ seen then some (iA 1) else none)∧Ext σ s∧Rng c.Sigs (fun r=>l_7 c.Jts r seen=l_7 c.Jts c.Sigs []) n,
   fun n _=>c.Sigs.length - n.toNat,⟨[],_, .new hs,fun z=>by simp,he, .start rfl⟩,?_⟩
 rintro n s ⟨seen,f,hm,hf,hes,hr⟩
 refine bcd (fun hlt=>?_) (fun hge=>?_)
 · obtain ⟨j,x,rfl,hx,hj,hF,nx⟩:=hr.step (by simp) hl hlt
   refine (h s).sigs.load (a_c hx) f_t rfl ⟨x.Sec,x.End_,rfl,(h_u x.Sec x.End_ (h s).jts).use (i_w _ ?_)⟩
   rw[l_7] at hF
   have key:∀k:Int,f x=(if x ∈ seen then some (iA 1) else none)→((f x).getD (iA 0) =iA (if x ∈ seen then 1 else 0)):=fun k e=>by
     rw[e];split <;> rfl
   refine hm.lookI a_k5 x (key 0 (hf x)) (hm.bump a_k5 x fun s' f' hm' hf' hfx hs' hne=>?_)
   have hes':Ext σ s':=fun i hi=>by
     rw[hs' i (fun e=>hi (by rw[e];exact hid))];exact hes i hi
   refine a_q (fun hb=>?_) (fun hb=>?_)
   · rw[if_neg (by rw[hb];simp)] at hF
     exact ⟨by simp[Cf.sigsOk,←hF],hes'⟩
   · refine hm'.lookI a_k5 x (by rw[hfx];rfl) (bcd (fun h2=>?_) (fun h2=>?_))
     · have hin : x ∈ seen := by
         by_cases hin:x ∈ seen
         · exact hin
         · rw[if_neg hin] at h2;exact absurd h2 (by decide)
       rw[if_neg (by simp[hin])] at hF
       exact ⟨by simp[Cf.sigsOk,←hF],hes'⟩
     · have hin:x ∉ seen:=fun hin=>h2 (by rw[if_pos hin];decide)
       rw[if_pos ⟨hb,hin⟩] at hF
       have hn:=nx (fun r=>l_7 c.Jts r (x::seen) =l_7 c.Jts c.Sigs []) hF
       refine ⟨⟨x::seen,f',hm',fun z=>?_,hes',hn.1⟩,hn.2⟩
       by_cases hz:z=x
       · subst hz;rw[hfx,if_neg hin];simp;rfl
       · rw[hf' z hz,hf];simp[hz]
 · have hF:=hr.done (by simp) hge
   rw[l_7] at hF
   refine (h s).sigs.lenK ⟨?_,hes⟩
   rw[Cf.sigsOk,←hF,List.length_map,Bool.true_and]
   congr 4;simp;omega
theorem w_9:Pure Tryz.prog f_f [cfA c0 c1 c2 c3 c4 c] σ (.a (bA c.xsOk)):=by
 have hl:=(h σ).xs.size
 rw[List.length_map] at hl
 refine .of (p_4 _ _ _ _ _ _ _ _ _ σ _ ?_) (k_o _)
 refine a_e fun id σ1 hid _ he hs=>(h σ1).xs.lenK ⟨fun n s=>∃seen f,MapAt Tryz.prog a_h iA s id f∧(∀z,f z=if z ∈ seen then some (iA 1) else none)∧Ext σ s∧Rng c.Xs (fun r=>xrun c.Secs r seen=xrun c.Secs c.Xs []) n,
   fun n _=>c.Xs.length - n.toNat,⟨[],_, .new hs,fun z=>by simp,he, .start rfl⟩,?_⟩
 rintro n s ⟨seen,f,hm,hf,hes,hr⟩
 refine bcd (fun hlt=>?_) (fun hge=>?_)
 · obtain ⟨j,x,rfl,hx,hj,hF,nx⟩:=hr.step (by simp) hl hlt
   refine (h s).xs.load (a_c hx) c_int rfl ⟨x,rfl,(e_7 (h s) x).use (a_ga _ ?_)⟩
   rw[xrun] at hF
   have key:(f x).getD (iA 0) =iA (if x ∈ seen then 1 else 0):=by
     rw[hf];split <;> rfl
   refine hm.lookI p_g x key (hm.put p_g x fun s' f' hm' hf' hfx hs' hne=>?_)
   have hes':Ext σ s':=fun i hi=>by
     rw[hs' i (fun e=>hi (by rw[e];exact hid))];exact hes i hi
   refine a_q (fun hb=>?_) (fun hb=>?_)
   · cases hg:a_k c.Secs x with
     | some y=>rw[hg] at hb;cases hb
     | none=>
       rw[hg] at hF
       exact ⟨by simp[Cf.xsOk,←hF],hes'⟩
   · obtain ⟨y,hg⟩:=Option.isSome_iff_exists.1 hb
     rw[hg] at hF
     simp only[hg,Option.getD_some] at hF ⊢
     refine bcn (fun h3=>?_) (fun h3=>?_)
     · rw[if_neg (by simp[h3])] at hF
       exact ⟨by simp[Cf.xsOk,←hF],hes'⟩
     refine hm'.lookI p_g x (by rw[hfx];rfl) (bcd (fun h2=>?_) (fun h2=>?_))
     · have hin : x ∈ seen := by
         by_cases hin:x ∈ seen
         · exact hin
         · rw[if_neg hin] at h2;exact absurd h2 (by decide)
       rw[if_neg (by simp[hin])] at hF
       exact ⟨by simp[Cf.xsOk,←hF],hes'⟩
     · have hin:x ∉ seen:=fun hin=>h2 (by rw[if_pos hin];decide)
       rw[if_pos ⟨h3,hin⟩] at hF
       have hn:=nx (fun r=>xrun c.Secs r (x::seen) =xrun c.Secs c.Xs []) hF
       refine ⟨⟨x::seen,f',hm',fun z=>?_,hes',hn.1⟩,hn.2⟩
       by_cases hz:z=x
       · subst hz;rw[hfx,if_neg hin];simp;rfl
       · rw[hf' z hz,hf];simp[hz]
 · have hF:=hr.done (by simp) hge
   rw[xrun] at hF
   refine (h s).xs.lenK ⟨?_,hes⟩
   rw[Cf.xsOk,←hF,List.length_map,Bool.true_and]
   congr 4;simp;omega
end
end
section
variable {σ:Store}
def d_b (σ:Store)(t:TypeId)(rows:List (List D))(r:RV)(σ':Store) :Prop:=σ'=σ∧∃d,r= .a (.one d)∧∀s,At Tryz.prog s t d rows
theorem f_i {t:TypeId}{d:D}{rows:List (List D)}{s:Store}(h:Own Tryz.prog σ s t d rows)(hf:∀row ∈ rows,∀x ∈ row,Flat x) :
   ∃r' σ',Ret Tryz.prog σ s (.a (.one d)) σ' r'∧d_b σ t rows r' σ':=by
 obtain ⟨d',h1,h2⟩:=s_c h.at_ h.ext h.new hf
 exact ⟨.a (.one d'),σ, .pure h.ext h1,rfl,d',rfl,h2⟩
theorem a_ra (l:List Nd) :∀row ∈ l.map Nd.enc,∀x ∈ row,Flat x:=by
 intro row hrow x hx
 obtain ⟨w,_,rfl⟩:=List.mem_map.1 hrow
 simp[Nd.enc] at hx
 rcases hx with rfl | rfl <;> exact .int _ _
theorem u_w (l:List Int) :∀row ∈ l.map Go.Fw.encI,∀x ∈ row,Flat x:=by
 intro row hrow x hx
 obtain ⟨w,_,rfl⟩:=List.mem_map.1 hrow
 simp[Go.Fw.encI] at hx
 subst hx;exact .int _ _
theorem n_c {s:Store}{id:Nat}{t:TypeId}{x y:D}{K:Store→Prop}(hs:s id= .live t [[x]])(hK:∀s',s' id= .live t [[y]]→(∀i,i≠id→s' i=s i)→K s') :a_j [y] s (.osl id 0 1) 0 0 K:=
 ⟨id,0,1,t,[[x]],[x],rfl,by omega,hs,rfl,by simp,hK _ (Store.set_same _ _ _) fun i hi=>Store.set_ne _ _ hi⟩
section
variable {c0 c1 c2 c3 c4:D} {c:Cf} (h:∀s,CfAt s c0 c1 c2 c3 c4 c)
include h
theorem a_g6 (a:Int){d:D}{path:List St}(hp:∀s,At Tryz.prog s d_v d (path.map St.enc))(hpl:path.length≤2 ^ 20) :
   DCalls Tryz.prog h_y [cfA c0 c1 c2 c3 c4 c,iA a, .one d] σ (d_b σ b_a ((c.flank a path).map Nd.enc)):=by
 have hl:=(hp σ).size
 rw[List.length_map] at hl
 refine (x_y _ _ _ _ _ _ _ _ _ a d σ _ ?_).ret (Q:=fun r s=>∃r' σ',Ret Tryz.prog σ s r σ' r'∧d_b σ b_a ((c.flank a path).map Nd.enc) r' σ') (fun r s h=>h)
 refine (hp σ).lenK ⟨fun d n s=>∃out:List Nd,Own Tryz.prog σ s b_a d (out.map Nd.enc)∧out.length≤4 * n.toNat∧Rng path (fun r=>c_n c a path r out=c.flank a path) n,fun _ n _=>path.length - n.toNat,
   ⟨[], .nil _ (.refl _),by simp, .start rfl⟩,?_⟩
 rintro d1 n s ⟨out,ho,hol,hr⟩
 refine bcd (fun hlt=>?_) (fun hge=>?_)
 · obtain ⟨j,x,rfl,hx,hj,hF,nx⟩:=hr.step (by simp) hl hlt
   refine (hp s).load (a_c hx) i_l rfl ⟨x.Sec,x.In,x.Out,rfl,(e_7 (h s) x.Sec).use (a_ga _ ?_)⟩
   rw[c_n] at hF
   refine a_q (fun hb=>?_) (fun hb=>?_)
   · cases hg:a_k c.Secs x.Sec with
     | some y=>rw[hg] at hb;cases hb
     | none=>
       rw[hg] at hF
       have hn:=nx (fun r=>c_n c a path r out=c.flank a path) hF
       exact ⟨⟨out,ho,by rw[a_o (by omega)];omega,hn.1⟩,hn.2⟩
   · obtain ⟨y,hg⟩:=Option.isSome_iff_exists.1 hb
     rw[hg] at hF
     simp only[hg,Option.getD_some] at hF ⊢
     refine (o_l _).use ⟨_,rfl,?_⟩
     have hne:=y_3 y.Kind
     refine ⟨fun d m s'=>∃out':List Nd,Own Tryz.prog σ s' b_a d (out'.map Nd.enc)∧0≤m∧m≤b_d y.Kind∧out'.length≤4 * j+m.toNat∧b_i c a path x (b_d y.Kind - m).toNat m out'=b_i c a path x (b_d y.Kind).toNat 0 out,
       fun _ m _=>(b_d y.Kind - m).toNat,⟨out,ho,by omega,hne.1,by simp at hol ⊢;omega,by rw[Int.sub_zero]⟩,?_⟩
     rintro d2 m s' ⟨out',ho',hm0,hm1,hol',hE⟩
     refine bcd (fun hlt'=>?_) (fun hge'=>?_)
     · have hw:w64 (m+1) =m+1:=a_u (by omega) (by omega)
       have hk:(b_d y.Kind - m).toNat=(b_d y.Kind - (m+1)).toNat+1:=by omega
       rw[hk,b_i] at hE
       have leaf : ∀ (out2 : List Nd) (d3 : D) (s2 : Store), b_q c a path x out' m = out2 → Own Tryz.prog σ s2 b_a d3 (out2.map Nd.enc) →
           (∃out':List Nd,Own Tryz.prog σ s2 b_a d3 (out'.map Nd.enc)∧0≤w64 (m+1)∧w64 (m+1)≤b_d y.Kind∧out'.length≤4 * j+ (w64 (m+1)).toNat∧b_i c a path x (b_d y.Kind - w64 (m+1)).toNat (w64 (m+1)) out'=b_i c a path x (b_d y.Kind).toNat 0 out)∧
           (b_d y.Kind - w64 (m+1)).toNat < (b_d y.Kind - m).toNat:=by
         intro out2 d3 s2 h1 h2
         have hlen:=(m_l c a path x out' m).2
         rw[hw]
         refine ⟨⟨out2,h2,by omega,by omega,by rw[←h1];omega,by rw[←h1];exact hE⟩,by omega⟩
       intro R hR
       refine bce (fun h1=>⟨trivial,leaf out' d2 s' (by rw[b_q,if_pos (.inl h1)]) ho'⟩) (fun h1=>bce (fun h2=>⟨trivial,leaf out' d2 s' (by rw[b_q,if_pos (.inr h2)]) ho'⟩) (fun h2=>⟨trivial,hR s' ?_⟩))
       have hst:b_q c a path x out' m=match nxt c.Jts x.Sec m with
         | none=>out'
         | some (q,f)=>match a_k c.Secs q with
           | none=>out'
           | some y=>if y.Kind=1∧(1≤f∧f≤2)∧q≠a∧d_n path q=false∧(out'.any fun n=>n.Sec == q) =false then out' ++ [⟨q,3 - f⟩] else out':=by
         rw[b_q,if_neg (by rintro (e | e);exact h1 e;exact h2 e)] <;> rfl
       refine (h_u x.Sec m (h s').jts).use (i_w _ ?_)
       generalize nxt c.Jts x.Sec m=o at hst
       refine a_e fun id s2 hid _ he hs2=>n_c hs2 fun s3 hs3 hs3'=>?_
       have he3:Ext s' s3:=fun i hi=>by
         rw[hs3' i (fun e=>hi (by rw[e];exact hid))];exact he i hi
       have ho3:=ho'.ext' he3
       refine ⟨_,a_d hs3,_,rfl,(e_7 (h s3) _).use (a_ga _ ?_)⟩
       intro R1 hR1
       refine a_q (fun hb1=>?_) (fun hb1=>?_)
       · cases o with
         | some p=>cases hb1
         | none=>exact ⟨trivial,leaf out' d2 s3 hst ho3⟩
       obtain ⟨⟨q,f⟩,rfl⟩:=Option.isSome_iff_exists.1 hb1
       simp only[Option.getD_some] at hst hR1 hs3 ⊢
       refine a_q (fun hb2=>?_) (fun hb2=>?_)
       · cases hg2:a_k c.Secs q with
         | some p=>rw[hg2] at hb2;cases hb2
         | none=>rw[hg2] at hst;exact ⟨trivial,leaf out' d2 s3 hst ho3⟩
       obtain ⟨y2,hg2⟩:=Option.isSome_iff_exists.1 hb2
       rw[hg2] at hst
       simp only[hg2,Option.getD_some] at hst ⊢
       have no:¬(y2.Kind=1∧(1≤f∧f≤2)∧q≠a∧d_n path q=false∧(out'.any fun n=>n.Sec == q) =false)→b_q c a path x out' m=out':=fun hn=>by rw[hst,if_neg hn]
       refine bcn (fun h3=>⟨trivial,leaf out' d2 s3 (no fun h=>h3 h.1) ho3⟩) (fun h3=>?_)
       refine bcd (fun h4=>⟨trivial,leaf out' d2 s3 (no fun h=>by omega) ho3⟩) (fun h4=>?_)
       refine bcd (fun h5=>⟨trivial,leaf out' d2 s3 (no fun h=>by omega) ho3⟩) (fun h5=>?_)
       refine ⟨_,a_d hs3,q,rfl,bce (fun h6=>⟨trivial,leaf out' d2 s3 (no fun h=>h.2.2.1 h6) ho3⟩) (fun h6=>?_)⟩
       refine ⟨_,a_d hs3,q,rfl,(a_by q (hp s3)).use ⟨_,rfl,bc (fun h7=>⟨trivial,leaf out' d2 s3 (no fun h=>by rw[h.2.2.2.1] at h7;cases h7) ho3⟩) (fun h7=>?_)⟩⟩
       refine (a_p4 ho3.at_ hs3).use ⟨_,rfl,bc (fun h8=>⟨trivial,leaf out' d2 s3 (no fun h=>by rw[h.2.2.2.2] at h8;cases h8) ho3⟩) (fun h8=>⟨trivial,hR1 s3 ?_⟩)⟩
       refine ⟨_,a_d hs3,q,rfl,a_e fun id1 s4 hid1 _ he4 hs4=>?_⟩
       have hw2:w64 (3 - f) =3 - f:=a_u (by omega) (by omega)
       have ho4:=ho3.ext' he4
       refine ho4.append (At.fresh hs4 (by simp) rfl) (by simp;omega) (by simp;omega) fun d4 s5 ho5 _ _=>⟨trivial,leaf (out' ++ [⟨q,3 - f⟩]) d4 s5 (by rw[hst,if_pos ⟨h3,⟨by omega,by omega⟩,h6,h7,h8⟩]) ?_⟩
       rw[hw2] at ho5
       rw[List.map_append]
       exact ho5
     · have hz:(b_d y.Kind - m).toNat=0:=by omega
       rw[hz,b_i] at hE
       rw[←hE] at hF
       have hn:=nx (fun r=>c_n c a path r out'=c.flank a path) hF
       exact ⟨⟨out',ho',by rw[a_o (by omega)];omega,hn.1⟩,hn.2⟩
 · have hF:=hr.done (by simp) hge
   rw[c_n] at hF
   rw[←hF]
   exact f_i ho (a_ra _)
theorem a_cq (r:Rt){d1 d2 d3:D}(hp:∀s,At Tryz.prog s d_v d1 (r.Path.map St.enc)) :
   DCalls Tryz.prog g_e [cfA c0 c1 c2 c3 c4 c,rtA d1 d2 d3 r] σ (d_b σ a_h ((c.overlap r).map Go.Fw.encI)):=by
 refine (t_f _ _ _ _ _ _ _ _ _ _ _ d1 d2 d3 _ σ _ ?_).ret (Q:=fun r' s=>∃r'' σ',Ret Tryz.prog σ s r' σ' r''∧d_b σ a_h ((c.overlap r).map Go.Fw.encI) r'' σ') (fun r s h=>h)
 refine (h_k (h σ) _).use (a_u3 _ ?_)
 intro R hR
 have nil:c.overlap r=[]→∃r'' σ',Ret Tryz.prog σ σ (.a (.one .nils)) σ' r''∧d_b σ a_h ((c.overlap r).map Go.Fw.encI) r'' σ':=fun e=>by
   rw[e];exact f_i (.nil _ (.refl _)) (u_w _)
 refine bc (fun h1=>nil (by rw[Cf.overlap,if_pos h1])) (fun h1=>a_q (fun h2=>nil ?_) (fun h2=>⟨rfl,hR σ ?_⟩))
 · rw[Cf.overlap,if_neg (by rw[h1];simp)]
   cases hg:a_k c.Sigs r.Exit with
   | none=>rfl
   | some x=>rw[hg] at h2;cases h2
 obtain ⟨x,hg⟩:=Option.isSome_iff_exists.1 h2
 simp only[hg,Option.getD_some] at hR ⊢
 have hov:c.overlap r=match nxt c.Jts x.Sec x.End_ with
   | none=> []
   | some (q,_)=>match a_k c.Secs q with
     | none=> []
     | some y=>if y.Line=0∧d_n r.Path q=false∧q≠c.approach r then [q] else []:=by
   rw[Cf.overlap,if_neg (by rw[h1];simp),hg] <;> rfl
 refine (h_u _ _ (h σ).jts).use (i_w _ ((e_7 (h σ) _).use (a_ga _ ?_)))
 generalize nxt c.Jts x.Sec x.End_=o at hov
 refine a_q (fun hb1=>nil ?_) (fun hb1=>?_)
 · cases o with
   | none=>exact hov
   | some p=>cases hb1
 obtain ⟨⟨q,f⟩,rfl⟩:=Option.isSome_iff_exists.1 hb1
 simp only[Option.getD_some] at hov ⊢
 refine a_q (fun hb2=>nil ?_) (fun hb2=>?_)
 · cases hg2:a_k c.Secs q with
   | none=>rw[hg2] at hov;exact hov
   | some p=>rw[hg2] at hb2;cases hb2
 obtain ⟨y,hg2⟩:=Option.isSome_iff_exists.1 hb2
 simp only[hg2,Option.getD_some] at hov ⊢
 have no:¬(y.Line=0∧d_n r.Path q=false∧q≠c.approach r)→c.overlap r=[]:=fun hn=>by rw[hov,if_neg hn]
 refine bcn (fun h3=>nil (no fun h=>h3 h.1)) (fun h3=>(a_by q (hp σ)).use ⟨_,rfl,bc (fun h4=>nil (no fun h=>by rw[h.2.1] at h4;cases h4)) (fun h4=>(i_c (h σ) r d1 d2 d3).use ⟨_,rfl,bce (fun h5=>nil (no fun h=>h.2.2 h5)) (fun h5=>?_)⟩)⟩)
 refine a_e fun id s2 hid _ he hs2=>?_
 rw[hov,if_pos ⟨h3,h4,h5⟩]
 exact f_i ⟨At.fresh hs2 (by simp) rfl,he,z_j hid,fun h=>h,by intro e;cases e⟩ (u_w _)
end
end
section
variable {σ:Store}
section
variable {c0 c1 c2 c3 c4:D} {c:Cf} (h:∀s,CfAt s c0 c1 c2 c3 c4 c)
include h
theorem a_lu (r:Rt){d1 d2 d3:D}(hp:∀s,At Tryz.prog s d_v d1 (r.Path.map St.enc)) :
   Pure Tryz.prog i_d [cfA c0 c1 c2 c3 c4 c,rtA d1 d2 d3 r] σ (.a (bA (c.path r))):=by
 have hl:=(hp σ).size
 rw[List.length_map] at hl
 refine .of (z_v _ _ _ _ _ _ _ _ _ _ _ d1 d2 d3 _ σ _ ?_) (k_o _)
 refine (h_k (h σ) _).use (a_u3 _ ((h_k (h σ) _).use (a_u3 _ ?_)))
 intro R hR
 refine a_q (fun h1=>?_) (fun h1=>?_)
 · cases hg:a_k c.Sigs r.Entry with
   | some x=>rw[hg] at h1;cases h1
   | none=>exact ⟨by rw[Cf.path,hg], .refl _⟩
 obtain ⟨a,hg⟩:=Option.isSome_iff_exists.1 h1
 have hpath:c.path r=((decide (r.Exit= -1) || (a_k c.Sigs r.Exit).isSome) && decide (1≤r.Path.length∧r.Path.length≤8) && p_k c r (a_k c.Sigs r.Exit) r.Path a [a.Sec]):=by rw[Cf.path,hg]
 rw[hg,Option.getD_some] at hR
 generalize hex:a_k c.Sigs r.Exit=ex at hpath hR
 have hlen:decide ((1:Int)≤((r.Path.map St.enc).length:Int)∧((r.Path.map St.enc).length:Int)≤8) =decide (1≤r.Path.length∧r.Path.length≤8):=by
   rw[List.length_map];congr 1;apply propext;omega
 have hgo:decide (1≤r.Path.length∧r.Path.length≤8) =true→(decide (r.Exit= -1) || ex.isSome) =true→R σ:=by
   intro hlen2 hexok
   rw[hlen2,hexok] at hpath
   simp only[Bool.true_and] at hpath
   refine hR σ (a_e fun id s1 hid _ he1 hs1=>(MapAt.new hs1).put p_g a.Sec fun s2 f2 hm2 hf2 hfx2 hs2 hne2=>?_)
   have he2:Ext σ s2:=fun i hi=>by
     rw[hs2 i (fun e=>hi (by rw[e];exact hid))];exact he1 i hi
   refine (hp s2).lenK ⟨fun m e n s=>∃seen f,MapAt Tryz.prog a_h iA s id f∧(∀z,f z=if z ∈ seen then some (iA 1) else none)∧Ext σ s∧Rng r.Path (fun q=>p_k c r ex q ⟨m,e⟩ seen=c.path r) n,fun _ _ n _=>r.Path.length - n.toNat,
     ⟨[a.Sec],f2,hm2,fun z=>?_,he2, .start hpath.symm⟩,?_⟩
   · by_cases hz:z=a.Sec
     · subst hz;rw[hfx2];simp
     · rw[hf2 z hz];simp[hz]
   rintro m e n s ⟨seen,f,hm,hf,hes,hr⟩
   refine bcd (fun hlt=>?_) (fun hge=>?_)
   · obtain ⟨j,x,rfl,hx,hj,hF,nx⟩:=hr.step (by simp) hl hlt
     intro R1 hR1
     refine (hp s).load (a_c hx) i_l rfl ⟨x.Sec,x.In,x.Out,rfl,(h_u m e (h s).jts).use (i_w _ ((e_7 (h s) _).use (a_ga _ ((a_bn _ _ _).use (a_mx _ ?_)))))⟩
     rw[p_k] at hF
     have bad:x_m c r ex ⟨m,e⟩ x (r.Path.drop (j+1)).isEmpty seen=false→∀s',Ext σ s'→(RV.a (.one (.bool false)) = .a (bA (c.path r))∧Ext σ s'):=fun hb s' he'=>by
       rw[hb] at hF
       exact ⟨by rw[←hF];rfl,he'⟩
     have good:x_m c r ex ⟨m,e⟩ x (r.Path.drop (j+1)).isEmpty seen=true→∀s' f',MapAt Tryz.prog a_h iA s' id f'→(∀z,f' z=if z ∈ x.Sec::seen then some (iA 1) else none)→Ext σ s'→R1 x.Sec x.Out s':=fun hb s' f' hm' hf' he'=>by
       rw[hb,Bool.true_and] at hF
       have hn:=nx (fun q=>p_k c r ex q ⟨x.Sec,x.Out⟩ (x.Sec::seen) =c.path r) hF
       exact hR1 _ _ _ ⟨rfl,⟨x.Sec::seen,f',hm',hf',he',hn.1⟩,hn.2⟩
     have hst:x_m c r ex ⟨m,e⟩ x (r.Path.drop (j+1)).isEmpty seen=match nxt c.Jts m e with
       | none=>false
       | some (q,i)=>decide (q=x.Sec) && decide (i=x.In) && (i_t (f_l ((a_k c.Secs q).getD ⟨0,0,0⟩).Kind) x.In x.Out).isSome && decide (q ∉ seen) &&
         (!(c.Sigs.any fun y=>decide (⟨x.Sec,x.Out⟩ =y)) || ((r.Path.drop (j+1)).isEmpty && decide (ex=some ⟨x.Sec,x.Out⟩))) && !(r.Shunt && decide (((a_k c.Secs q).getD ⟨0,0,0⟩).Line≠0)):=rfl
     generalize nxt c.Jts m e=o at hst
     have key:(f (o.getD (0,0)).1).getD (iA 0) =iA (if (o.getD (0,0)).1 ∈ seen then 1 else 0):=by
       rw[hf];split <;> rfl
     refine hm.lookI p_g _ key (hm.put p_g _ fun s' f' hm' hf' hfx hs' hne=>?_)
     have hes':Ext σ s':=fun i hi=>by
       rw[hs' i (fun e=>hi (by rw[e];exact hid))];exact hes i hi
     refine (v_f ⟨x.Sec,x.Out⟩ (h s').sigs).use ⟨_,rfl,?_⟩
     intro R2 hR2
     have main:R2 ((r.Path.drop (j+1)).isEmpty && decide (ex=some ⟨x.Sec,x.Out⟩)) s':=by
       refine hR2 _ _ (a_q (fun k1=>bad ?_ s' hes') (fun k1=>?_))
       · cases o with
         | none=>exact hst
         | some p=>cases k1
       obtain ⟨⟨q,i⟩,rfl⟩:=Option.isSome_iff_exists.1 k1
       simp only[Option.getD_some] at hst key hfx hf' ⊢
       refine bcn (fun k2=>bad (by rw[hst];simp[k2]) s' hes') (fun k2=>?_)
       refine bcn (fun k3=>bad (by rw[hst];simp[k3]) s' hes') (fun k3=>?_)
       refine a_q (fun k4=>bad (by rw[hst,k4];simp) s' hes') (fun k4=>?_)
       refine hm'.lookI p_g q (by rw[hfx];rfl) (bcd (fun k5=>?_) (fun k5=>?_))
       · have hin : q ∈ seen := by
           by_cases hin:q ∈ seen
           · exact hin
           · rw[if_neg hin] at k5;exact absurd k5 (by decide)
         exact bad (by rw[hst];simp[hin]) s' hes'
       have hin:q ∉ seen:=fun hin=>k5 (by rw[if_pos hin];decide)
       have hfin:x_m c r ex ⟨m,e⟩ x (r.Path.drop (j+1)).isEmpty seen=true→R1 x.Sec x.Out s':=fun hb=>good hb s' f' hm' (fun z=>by
         by_cases hz:z=q
         · subst hz;rw[hfx,if_neg hin,k2];simp;rfl
         · rw[hf' z hz,hf];simp[k2 ▸ hz]) hes'
       have hpre:(decide (q=x.Sec) && decide (i=x.In) && (i_t (f_l ((a_k c.Secs q).getD ⟨0,0,0⟩).Kind) x.In x.Out).isSome && decide (q ∉ seen)) =true:=by
         rw[k4];simp[k2,k3];rw[←k2];exact hin
       rw[hpre,Bool.true_and] at hst
       refine bc (fun k6=>a_q (fun k7=>bad ?_ s' hes') (fun k7=>?_)) (fun k6=>?_)
       · rw[hst,k6,k7];rfl
       · rw[k6,k7] at hst
         refine bc (fun k8=>bcn (fun k9=>bad ?_ s' hes') (fun k9=>⟨trivial,hfin ?_⟩)) (fun k8=>⟨trivial,hfin ?_⟩)
         · rw[hst,k8];simp[k9]
         · rw[hst];simp[k9]
         · rw[hst,k8];rfl
       · rw[k6] at hst
         refine bc (fun k8=>bcn (fun k9=>bad ?_ s' hes') (fun k9=>⟨trivial,hfin ?_⟩)) (fun k8=>⟨trivial,hfin ?_⟩)
         · rw[hst,k8];simp[k9]
         · rw[hst];simp[k9]
         · rw[hst,k8];rfl
     refine (hp s').lenK ?_
     have hw:w64 (((r.Path.map St.enc).length:Int) - 1) =(r.Path.length:Int) - 1:=by rw[List.length_map,a_u (by omega) (by omega)]
     rw[hw]
     refine bce (fun q1=>bc (fun q2=>⟨rfl,?_⟩) (fun q2=>⟨rfl,?_⟩)) (fun q1=>⟨rfl,?_⟩)
     · have hemp:(r.Path.drop (j+1)).isEmpty=true:=by rw[e_4 (by omega)];rfl
       obtain ⟨y,rfl⟩:=Option.isSome_iff_exists.1 q2
       rw[hemp,Bool.true_and] at main
       have hd:decide (some y=some (⟨x.Sec,x.Out⟩ :Sg)) =(x.Sec == y.Sec && x.Out == y.End_):=by
         cases y with
         | mk y1 y2=>
           rw[Bool.eq_iff_iff];simp
           exact ⟨fun ⟨a,b⟩=>⟨a.symm,b.symm⟩,fun ⟨a,b⟩=>⟨a.symm,b.symm⟩⟩
       rw[hd] at main
       exact main
     · have hd:ex=none:=by cases ex;rfl;cases q2
       rw[hd] at main
       simpa using main
     · have hemp : (r.Path.drop (j + 1)).isEmpty = false := by
         cases hd:r.Path.drop (j+1) with
         | nil=>rw[List.drop_eq_nil_iff] at hd;omega
         | cons y l=>rfl
       rw[hemp,Bool.false_and] at main
       exact main
   · have hF:(match (generalizing:=false) ex with | some x=>decide ((⟨m,e⟩ :Sg) =x) | none=> !(nxt c.Jts m e).isSome) =c.path r:=hr.done (by simp) hge
     refine bc (fun q2=>?_) (fun q2=>?_)
     · obtain ⟨y,rfl⟩:=Option.isSome_iff_exists.1 q2
       refine ⟨?_,hes⟩
       rw[←hF]
       cases y with
       | mk y1 y2=>
         congr 4;rw[Bool.eq_iff_iff];simp
     · have hd:ex=none:=by cases ex;rfl;cases q2
       subst hd
       refine (h_u m e (h s).jts).use (i_w _ ⟨?_,hes⟩)
       rw[←hF]
 refine a_q (fun h2=>bcn (fun h3=>⟨?_, .refl _⟩) (fun h3=>(hp σ).lenK ((d_x _ _ _).use ⟨_,rfl,a_q (fun h4=>⟨?_, .refl _⟩) (fun h4=>⟨rfl,hgo ?_ ?_⟩)⟩))) (fun h2=>(hp σ).lenK ((d_x _ _ _).use ⟨_,rfl,a_q (fun h4=>⟨?_, .refl _⟩) (fun h4=>⟨rfl,hgo ?_ ?_⟩)⟩))
 · rw[hpath,h2];simp[h3]
 · rw[hlen] at h4;rw[hpath,h4];simp
 · rw[←hlen];exact h4
 · simp[h3]
 · rw[hlen] at h4;rw[hpath,h4];simp
 · rw[←hlen];exact h4
 · simp[h2]
theorem a_hz (r:Rt){d1 d2 d3:D}(hp:∀s,At Tryz.prog s d_v d1 (r.Path.map St.enc))(hf:∀s,At Tryz.prog s b_a d2 (r.Flank.map Nd.enc))(ho:∀s,At Tryz.prog s a_h d3 (r.Overlap.map Go.Fw.encI)) :
   Pure Tryz.prog h_q [cfA c0 c1 c2 c3 c4 c,rtA d1 d2 d3 r] σ (.a (iA (c.route r))):=by
 refine x_l _ _ _ _ _ _ _ _ _ _ _ d1 d2 d3 _ σ _ ((a_lu h r hp).use ⟨_,rfl,a_q (fun h1=>⟨by rw[Cf.route,if_pos h1],rfl⟩) (fun h1=>?_)⟩)
 have hpl:r.Path.length≤8:=by
   unfold Cf.path at h1
   split at h1
   · cases h1
   · simp at h1;exact h1.1.2.2
 refine (i_c (h σ) r d1 d2 d3).use ⟨_,rfl,(a_g6 h _ hp (by omega)).mono ?_⟩
 rintro r1 s1 ⟨rfl,d,rfl,hd⟩
 refine ⟨d,rfl,(a_ic (hf _) (hd _)).use ⟨_,rfl,a_q (fun h2=>⟨?_,rfl⟩) (fun h2=>(a_cq h r hp).mono ?_)⟩⟩
 · rw[Cf.route,if_neg (by rw[h1];simp),if_pos (of_decide_eq_false h2)]
 rintro r2 s2 ⟨rfl,d',rfl,hd'⟩
 have e2:=of_decide_eq_true h2
 refine ⟨d',rfl,(a_lj (ho _) (hd' _)).use ⟨_,rfl,a_q (fun h3=>⟨?_,rfl⟩) (fun h3=>⟨?_,rfl⟩)⟩⟩
 · rw[Cf.route,if_neg (by rw[h1];simp),if_neg (fun hn=>hn e2),if_pos (of_decide_eq_false h3)]
 · rw[Cf.route,if_neg (by rw[h1];simp),if_neg (fun hn=>hn e2),if_neg (fun hn=>hn (of_decide_eq_true h3))]
theorem a_in:Pure Tryz.prog p_b [cfA c0 c1 c2 c3 c4 c] σ (.a (iA c.check)):=by
 refine a_mo _ _ _ _ _ _ _ _ _ σ _ ((a_i5 (fun s=>(h s).secs) (fun s=>(h s).jts)).use ⟨_,rfl,?_⟩)
 have e6:(if b_m c.Secs c.Jts=true then (0:Int) else 6)≠0↔b_m c.Secs c.Jts=false:=by
   cases b_m c.Secs c.Jts <;> simp
 refine bcn (fun k1=>⟨by rw[Cf.check,if_pos (e6.1 k1)],rfl⟩) (fun k1=>(a_dq h).use ⟨_,rfl,a_q (fun k2=>⟨?_,rfl⟩) (fun k2=>(w_9 h).use ⟨_,rfl,a_q (fun k3=>⟨?_,rfl⟩) (fun k3=>?_)⟩)⟩)
 all_goals have k1':¬b_m c.Secs c.Jts=false:=fun e=>e6.2 e k1
 · rw[Cf.check,if_neg k1',if_pos k2]
 · rw[Cf.check,if_neg k1',if_neg (by rw[k2];simp),if_pos k3]
 have hck:c.check=if c.Rts.length > 12 then 9 else if c.routes c.Rts≠0 then c.routes c.Rts else if c.timing=true then 0 else 12:=by
   rw[Cf.check,if_neg k1',if_neg (by rw[k2];simp),if_neg (by rw[k3];simp)]
 obtain ⟨rows,hat,hlen,hrow⟩:=g_h fun s=>(h s).rts
 have hl:=(hat σ).size
 refine (hat σ).lenK (bcd (fun k4=>⟨by rw[hck,if_pos (by omega)],rfl⟩) (fun k4=>(hat σ).lenK ?_))
 rw[if_neg (by omega)] at hck
 refine ⟨fun n s=>s=σ∧Rng c.Rts (fun l=>c.routes l=c.routes c.Rts) n,fun n _=>c.Rts.length - n.toNat,⟨rfl, .start rfl⟩,?_⟩
 rintro n τ ⟨rfl,hr⟩
 refine bcd (fun hlt=>?_) (fun hge=>?_)
 · obtain ⟨j,x,rfl,hx,hj,hF,nx⟩:=hr.step hlen (by omega) hlt
   obtain ⟨row,hrw⟩:=a_i (l:=rows) (j:=j) (by omega)
   obtain ⟨d1,d2,d3,rfl,q1,q2,q3⟩:=hrow j row x hrw hx
   refine (hat τ).load hrw c_l rfl ⟨_,_,d1,d2,d3,_,rfl,(a_hz h x q1 q2 q3).use ⟨_,rfl,?_⟩⟩
   rw[Cf.routes] at hF
   refine bcn (fun k5=>⟨?_,rfl⟩) (fun k5=>?_)
   · rw[if_pos k5] at hF
     rw[hck,←hF,if_pos k5]
   · rw[if_neg (by simp[k5])] at hF
     exact ⟨rfl,c_0 rfl (nx _ hF)⟩
 · have hF:0=c.routes c.Rts:=hr.done hlen hge
   rw[←hF,if_neg (by simp)] at hck
   have hpos:c.timing=(decide (1≤c.Age∧c.Age≤8) && decide (0≤c.Brake∧c.Brake≤8) && decide (c.Age+c.Brake+1≤c.Hold∧c.Hold≤40) && decide (1≤c.Budget∧c.Budget≤1000000)):=rfl
   refine (d_x _ _ _).use ⟨_,rfl,a_q (fun k5=>⟨?_,rfl⟩) (fun k5=>(d_x _ _ _).use ⟨_,rfl,a_q (fun k6=>⟨?_,rfl⟩) (fun k6=>(d_x _ _ _).use ⟨_,rfl,?_⟩)⟩)⟩
   · rw[hck,hpos,k5];simp
   · rw[hck,hpos,k6];simp
   have a5:=of_decide_eq_true k5
   have a6:=of_decide_eq_true k6
   rw[a_u (n:=c.Age+c.Brake) (by omega) (by omega),a_u (n:=c.Age+c.Brake+1) (by omega) (by omega)]
   refine a_q (fun k7=>⟨?_,rfl⟩) (fun k7=>(d_x _ _ _).use ⟨_,rfl,a_q (fun k8=>⟨?_,rfl⟩) (fun k8=>⟨?_,rfl⟩)⟩)
   · rw[hck,hpos,k7];simp
   · rw[hck,hpos,k8];simp
   · rw[hck,hpos,k5,k6,k7,k8];rfl
end
end
end Go.Proofs.YtdmfnhbmhkgemaaGreat
namespace Go.Fw
section
variable {P:Program} {σ:Store}
theorem z_x {n:Int}(h1:0≤n)(h2:n≤18446744073709551615) :IntKind.wrap .u64 n=n:=by
 simp only[IntKind.wrap,IntKind.signed,IntKind.bits];simp;omega
theorem a_fs {x:Int}(h1:0≤x)(h2:x < 2 ^ 32) :((BitVec.toNat ((BitVec.ofInt 64 x) &&& (BitVec.ofInt 64 4294967295)) :Nat) :Int) =x:=by
 rw[BitVec.toNat_and,BitVec.toNat_ofInt,BitVec.toNat_ofInt]
 have e1:(x % ((2 ^ 64:Nat) :Int)).toNat=x.toNat:=by
   rw[Int.emod_eq_of_lt h1 (by omega)]
 have e2:((4294967295:Int) % ((2 ^ 64:Nat) :Int)).toNat=2 ^ 32 - 1:=by decide
 rw[e1,e2,Nat.and_two_pow_sub_one_eq_mod,Nat.mod_eq_of_lt (by omega)]
 omega
theorem o_v {x:Int}(h1:0≤x)(h2:x < 2 ^ 32) :Int.fdiv x (2 ^ 32) =0:=by
 rw[Int.fdiv_eq_ediv_of_nonneg _ (by omega)];omega
theorem set_set (i:Nat)(a b:SO) :(σ.set i a).set i b=σ.set i b:=by
 funext j
 by_cases h:j=i
 · subst h;rw[Store.set_same,Store.set_same]
 · rw[Store.set_ne _ _ h,Store.set_ne _ _ h,Store.set_ne _ _ h]
def x_v (t:TypeId)(n:Nat)(row:List D)(s:Store)(r:RV)(s':Store) :Prop:=
 ∃id,s id= .free∧r= .a (.one (.osl id 0 n))∧s'=s.set id (.live t (List.replicate n row))
theorem a_uw {row z:List D}{m k n:Nat}(h1:k≤m)(h2:m+k≤n) :
   (List.replicate m row ++ List.replicate (n - m) z).take m ++ (List.replicate m row).take k ++ (List.replicate m row ++ List.replicate (n - m) z).drop (m+k) =List.replicate (m+k) row ++ List.replicate (n - (m+k)) z:=by
 rw[List.take_left' (by simp),List.take_replicate,Nat.min_eq_left h1,List.replicate_append_replicate,List.drop_append,List.drop_eq_nil_iff.2 (by simp),List.nil_append,List.drop_replicate]
 congr 2;simp;omega
theorem a_uc {f:FuncId}{t:TypeId}{es bytes:Nat}{z row:List D}{x:D}{n:Nat}{Q:RV→Store→Prop}
   (hmul:∀s (a b:Int),0≤a→0≤b→a * b < 2 ^ 32→a < 2 ^ 32→b < 2 ^ 32→Pure P f [.one (.int .u64 a), .one (.int .u64 b)] s (.tup [.one (.int .u64 0), .one (.int .u64 (a * b))]))
   (hes:P.cellsOf t=es) (hx:At P σ t x [row]) (hn:n≤2 ^ 20) (hb:bytes≤2 ^ 20) (hQ:∀r s,x_v t n row σ r s→Q r s) :
   ∀R:Store→Prop,(∀σ':Store,(∃len:Nat,(Len x len)∧DCalls P f [.one (.int .u64 (IntKind.wrap .u64 (len:Int))), .one (.int .u64 (IntKind.wrap .u64 (n:Int)))] σ' (fun (r:RV)=>fun (σ'1:Store)=>∃n:Int,∃n1:Int,(r=(.tup [.one (.int .u64 n), .one (.int .u64 n1)]:RV))∧∀R1:Store→Prop,(∀σ'2:Store,(((0:Int)≤(w64 n1))∧((w64 n1)≤(w64 n1))∧(((bytes:Int) * (w64 n1))≤(2 ^ 48))∧Fw.newObj σ'2 (.live t (List.replicate (Int.toNat (w64 n1)) z)) (fun (id:Nat)=>fun (σ'3:Store)=>s_b P σ'3 t (.osl id 0 (Int.toNat (w64 n1))) x (fun (n2:Int)=>fun (σ'4:Store)=>∃I:Int→Store→Prop,∃μ:Int→Store→Nat,(I n2 σ'4)∧∀n3:Int,∀σ'5:Store,(I n3 σ'5)→∃len1:Nat,(Len (.osl id 0 (Int.toNat (w64 n1))) len1)∧a_b (decide (n3 < (len1:Int))) (∃len2:Nat,(IdxN P σ'5 (.osl id 0 (Int.toNat (w64 n1))) es len2)∧((0:Int)≤n3)∧(n3≤(len2:Int))∧∃len3:Nat,(IdxN P σ'5 (.osl id 0 (Int.toNat (w64 n1))) es len3)∧((0:Int)≤0)∧((0:Int)≤n3)∧(n3≤(len3:Int))∧s_b P σ'5 t (.osl id (0+ (Int.toNat n3)) (len2 - (Int.toNat n3))) (.osl id 0 ((Int.toNat n3) - 0)) (fun (n4:Int)=>fun (σ'6:Store)=>(I (w64 (n3+n4)) σ'6)∧((μ (w64 (n3+n4)) σ'6) < (μ n3 σ'5)))) (Q (.a (.one (.osl id 0 (Int.toNat (w64 n1))))) σ'5))))→R1 σ'2)→a_b (decide (n > 0)) False (a_b (decide (n1 > 9223372036854775807)) False (R1 σ'1))))→R σ')→a_b (decide ((n:Int) < 0)) False (R σ):=by
 intro R hR
 refine bcd (fun h=>absurd h (by omega)) (fun _=>hR σ (hx.lenK ?_))
 rw[z_x (by simp) (by simp),z_x (by omega) (by omega)]
 have hw:w64 (((1:Nat) :Int) * n) =n:=by rw[a_u (by omega) (by omega)];omega
 refine (hmul σ _ _ (by simp) (by omega) (by simp;omega) (by simp) (by omega)).use ⟨0,_,rfl,fun R1 hR1=>bcd (fun h=>absurd h (by decide)) (fun _=>bcd (fun h=>absurd h (by simp;omega)) (fun _=>hR1 σ ?_))⟩
 show 0≤w64 (((1:Nat) :Int) * n)∧_
 simp only[List.length_singleton,hw,Int.toNat_natCast]
 refine ⟨by omega,Int.le_refl _,?_,fun id hid=>?_⟩
 · have:bytes * n≤2 ^ 20 * 2 ^ 20:=Nat.mul_le_mul hb hn
   have h2:((bytes * n:Nat) :Int)≤2 ^ 48:=by omega
   rw[Int.natCast_mul] at h2;exact h2
 have hidx:∀(s:Store) (rows:List (List D)),s id= .live t rows→rows.length=n→IdxN P s (.osl id 0 n) es n:=fun s rows h1 h2=> .inl ⟨by omega,t,rows,h1,hes⟩
 have hxr:Rows P (σ.set id (.live t (List.replicate n z))) t x [row]:=(hx.ext (Ext.new hid _)).rows
 have hdr:∀(s:Store) (rows:List (List D)) (i len:Nat),s id= .live t rows→i+len≤rows.length→Rows P s t (.osl id i len) ((rows.drop i).take len):=fun s rows i len h1 h2=>⟨t,rows,h1,rfl,h2,rfl⟩
 refine ⟨_,_,hdr _ _ 0 n (Store.set_same _ _ _) (by simp),hxr,?_⟩
 have hmin:min [row].length ((List.replicate n z).drop 0 |>.take n).length=min 1 n:=by simp
 have hminI:min (([row].length:Nat) :Int) ((((List.replicate n z).drop 0 |>.take n).length:Nat) :Int) =((min 1 n:Nat) :Int):=by rw[←hmin];omega
 rw[hmin,hminI]
 have hloop:∀(m:Nat) (s:Store),m≤n→(0 < n→0 < m)→s=σ.set id (.live t (List.replicate m row ++ List.replicate (n - m) z))→∃I:Int→Store→Prop,∃μ:Int→Store→Nat,(I m s)∧∀n3:Int,∀σ'5:Store,(I n3 σ'5)→∃len1:Nat,(Len (.osl id 0 n) len1)∧a_b (decide (n3 < (len1:Int))) (∃len2:Nat,(IdxN P σ'5 (.osl id 0 n) es len2)∧((0:Int)≤n3)∧(n3≤(len2:Int))∧∃len3:Nat,(IdxN P σ'5 (.osl id 0 n) es len3)∧((0:Int)≤0)∧((0:Int)≤n3)∧(n3≤(len3:Int))∧s_b P σ'5 t (.osl id (0+ (Int.toNat n3)) (len2 - (Int.toNat n3))) (.osl id 0 ((Int.toNat n3) - 0)) (fun (n4:Int)=>fun (σ'6:Store)=>(I (w64 (n3+n4)) σ'6)∧((μ (w64 (n3+n4)) σ'6) < (μ n3 σ'5)))) (Q (.a (.one (.osl id 0 n))) σ'5):=by
   intro m0 s0 hm0 hm0' hs0
   refine ⟨fun n3 s=>∃m:Nat,n3=m∧m≤n∧(0 < n→0 < m)∧s=σ.set id (.live t (List.replicate m row ++ List.replicate (n - m) z)),fun n3 _=>n - n3.toNat,⟨m0,rfl,hm0,hm0',hs0⟩,?_⟩
   rintro _ s ⟨m,rfl,hm,hm',rfl⟩
   refine ⟨n,rfl,bcd (fun hlt=>?_) (fun hge=>?_)⟩
   · have hl:(List.replicate m row ++ List.replicate (n - m) z).length=n:=by simp;omega
     refine ⟨n,hidx _ _ (Store.set_same _ _ _) hl,by omega,by omega,n,hidx _ _ (Store.set_same _ _ _) hl,by omega,by omega,by omega,?_⟩
     rw[Int.toNat_natCast,Nat.zero_add,Nat.sub_zero]
     refine ⟨_,_,hdr _ _ m (n - m) (Store.set_same _ _ _) (by rw[hl];omega),hdr _ _ 0 m (Store.set_same _ _ _) (by rw[hl];omega), .inr ⟨id,m,n - m,t,_,rfl,Store.set_same _ _ _,?_⟩⟩
     have e1:((List.replicate m row ++ List.replicate (n - m) z).drop 0).take m=List.replicate m row:=by
       rw[List.drop_zero,List.take_left' (by simp)]
     have e2:min (((List.replicate m row ++ List.replicate (n - m) z).drop 0).take m).length (((List.replicate m row ++ List.replicate (n - m) z).drop m).take (n - m)).length=min m (n - m):=by
       rw[e1,List.length_take,List.length_drop,hl];simp
     have e3:min (((((List.replicate m row ++ List.replicate (n - m) z).drop 0).take m).length:Nat) :Int) (((((List.replicate m row ++ List.replicate (n - m) z).drop m).take (n - m)).length:Nat) :Int) =((min m (n - m) :Nat) :Int):=by
       rw[←e2];omega
     rw[e3,e2,e1,a_uw (by omega) (by omega),set_set]
     have hk:0 < min m (n - m):=by have:=hm' (by omega);omega
     have hw2:w64 ((m:Int) + ((min m (n - m) :Nat) :Int)) =((m+min m (n - m) :Nat) :Int):=by rw[a_u (by omega) (by omega)];omega
     show (∃m':Nat,w64 ((m:Int) + ((min m (n - m) :Nat) :Int)) =m'∧_)∧_
     rw[hw2]
     refine ⟨⟨m+min m (n - m),rfl,by omega,fun _=>by omega,rfl⟩,?_⟩
     show n - ((m+min m (n - m) :Nat) :Int).toNat < n - ((m:Nat) :Int).toNat
     omega
   · have e:m=n:=by omega
     subst e
     refine hQ _ _ ⟨id,hid,rfl,?_⟩
     rw[Nat.sub_self,List.replicate_zero,List.append_nil]
 by_cases h0:n=0
 · subst h0
   exact .inl ⟨rfl,hloop 0 _ (by omega) (by omega) rfl⟩
 · refine .inr ⟨id,0,n,t,_,rfl,Store.set_same _ _ _,?_⟩
   have e1:min 1 n=1:=by omega
   rw[e1,set_set]
   refine hloop 1 _ (by omega) (by omega) ?_
   congr 2
   rw[List.drop_replicate];simp
end
end Go.Fw
namespace Go.Proofs.YtdmfnhbmhkgemaaGreat
open Go.Fw Go.Proofs Go.RowKit
section
variable {σ:Store}
theorem a_v5 (x y:Int)(hx0:0≤x)(hy0:0≤y)(hxy:x * y < 2 ^ 32)(hx:x < 2 ^ 32)(hy:y < 2 ^ 32) :Pure Tryz.prog h_3 [.one (.int .u64 x), .one (.int .u64 y)] σ (.tup [.one (.int .u64 0), .one (.int .u64 (x * y))]):=by
 have h0:0≤x * y:=Int.mul_nonneg hx0 hy0
 refine y_f x y σ _ ?_
 unfold l_6
 have z0:IntKind.wrap .u64 0=0:=z_x (by omega) (by omega)
 have m0:=a_fs (x:=0) (by omega) (by omega)
 have f0:=o_v (x:=0) (by omega) (by omega)
 rw[a_fs hx0 hx,a_fs hy0 hy,o_v hx0 hx,o_v hy0 hy,z_x (n:=x) hx0 (by omega),z_x (n:=y) hy0 (by omega),z_x (n:=x * y) h0 (by omega),o_v h0 hxy]
 simp only[Int.zero_mul,Int.mul_zero,Int.add_zero,Int.zero_add,z0,m0,f0]
 exact ⟨trivial,trivial⟩
theorem a_vc (s:Store)(x y:Int)(hx0:0≤x)(hy0:0≤y)(hxy:x * y < 2 ^ 32)(hx:x < 2 ^ 32)(hy:y < 2 ^ 32) :Pure Tryz.prog g_u [.one (.int .u64 x), .one (.int .u64 y)] s (.tup [.one (.int .u64 0), .one (.int .u64 (x * y))]):=
 a_ch x y s _ ((a_v5 x y hx0 hy0 hxy hx hy).use ⟨_,_,rfl,rfl,rfl⟩)
theorem a_ha {x:D}{row:List D}{n:Nat}(hx:At Tryz.prog σ a_h x [row])(hn:n≤2 ^ 20) :DCalls Tryz.prog g_b [.one x,iA n] σ (x_v a_h n row σ):=
 t_j x n σ _ (a_uc (bytes:=8) a_vc c_int hx hn (by omega) fun _ _ h=>h)
theorem a_c1 {x:D}{row:List D}{n:Nat}(hx:At Tryz.prog σ a_7 x [row])(hn:n≤2 ^ 20) :DCalls Tryz.prog f_a [.one x,iA n] σ (x_v a_7 n row σ):=
 p_w x n σ _ (a_uc (bytes:=16) a_vc c_r hx hn (by omega) fun _ _ h=>h)
theorem a_vr (now:Int) :Pure Tryz.prog m_p [iA now] σ (.a (.agg [iD 0,iD now])):=a_hv now σ _ ⟨rfl,rfl⟩
theorem a_hi {n:Nat}(hn:n≤2 ^ 40) :DCalls Tryz.prog f_9 [.one .nils,iA n] σ fun r s=>∃d,r= .a (.one d)∧Own Tryz.prog σ s a_7 d []:=by
 refine t_9 n σ _ (bcd (fun h=>absurd h (by omega)) (fun _=>⟨0,rfl,?_⟩))
 have hw:w64 ((n:Int) - w64 (0 - ((0:Nat) :Int))) =n:=by
   have:w64 (0 - ((0:Nat) :Int)) =0:=by decide
   rw[this,a_u (by omega) (by omega)];omega
 rw[hw]
 refine bcd (fun h=>⟨0, .inr ⟨rfl, .inl rfl⟩,by omega,by omega,by omega,by omega,by omega,bcd (fun h0=>absurd h0 (by omega)) (fun _=>a_e fun id s hid _ he hs=>?_)⟩) (fun h=>⟨_,rfl, .nil _ (.refl _)⟩)
 refine ⟨0,rfl,n, .inl ⟨by simp,_,_,hs,c_r⟩,by omega,by omega,by omega,_,rfl,?_⟩
 exact ⟨⟨⟨_,_,hs,rfl,by simp,by simp⟩,by simp,fun es rows e=>by cases e⟩,he,z_j hid,fun h=>h,by intro e;cases e⟩
theorem a_c9 {d a b:D}{ra rb:List (List D)}(hd:At Tryz.prog σ o_x d [[a],[b]])(ha:At Tryz.prog σ a_7 a ra)(hb:At Tryz.prog σ a_7 b rb)(hla:ra.length≤2 ^ 20)(hlb:rb.length≤2 ^ 20) :
   DCalls Tryz.prog f_e [.one d] σ fun r s=>∃d,r= .a (.one d)∧Own Tryz.prog σ s a_7 d (ra ++ rb):=by
 let L:List (D × List (List D)):= [(a,ra),(b,rb)]
 have hL:∀p ∈ L,At Tryz.prog σ a_7 p.1 p.2:=fun p hp=>by
   rcases List.mem_cons.1 hp with rfl | hp
   · exact ha
   · rcases List.mem_cons.1 hp with rfl | hp
     · exact hb
     · cases hp
 have hdL:At Tryz.prog σ o_x d (L.map fun p=> [p.1]):=hd
 have hl:L.length < 2 ^ 60:=by show 2 < 2 ^ 60;omega
 refine p_3 d σ _ (hdL.lenK ⟨fun m n s=>s=σ∧0≤m∧Rng L (fun r=>m+ ((r.map fun p=>p.2.length).sum:Nat) =((ra.length+rb.length:Nat) :Int)) n,fun _ n _=>L.length - n.toNat,⟨rfl,by omega, .start (by simp[L])⟩,?_⟩)
 rintro m n s ⟨rfl,hm,hr⟩
 refine bcd (fun hlt=>?_) (fun hge=>?_)
 · obtain ⟨j,x,rfl,hx,hj,hF,nx⟩:=hr.step (by simp) hl hlt
   refine hdL.load (a_c hx) a_fw rfl ⟨x.1,rfl,(hL x (List.mem_of_getElem? hx)).lenK ?_⟩
   simp only[List.map_cons,List.sum_cons] at hF
   have hw:w64 (m+ (x.2.length:Int)) =m+x.2.length:=a_u (by omega) (by omega)
   rw[hw]
   refine bcd (fun h=>absurd h (by omega)) (fun _=>?_)
   have hn:=nx (fun r=>m+x.2.length+ ((r.map fun p=>p.2.length).sum:Nat) =((ra.length+rb.length:Nat) :Int)) (by omega)
   exact ⟨⟨rfl,by omega,hn.1⟩,hn.2⟩
 · have hF:=hr.done (by simp) hge
   simp only[List.map_nil,List.sum_nil] at hF
   have hmn:m=((ra.length+rb.length:Nat) :Int):=by omega
   subst hmn
   refine (a_hi (by omega)).mono ?_
   rintro r s1 ⟨d1,rfl,ho⟩
   refine ⟨d1,rfl,hdL.lenK ⟨fun d2 n s2=>∃out,Own Tryz.prog s s2 a_7 d2 out∧Rng L (fun q=>out ++ (q.map fun p=>p.2).flatten=ra ++ rb) n,fun _ n _=>L.length - n.toNat,⟨[],ho, .start (by simp[L])⟩,?_⟩⟩
   rintro d2 n s2 ⟨out,ho2,hr2⟩
   refine bcd (fun hlt=>?_) (fun hge=>?_)
   · obtain ⟨j,x,rfl,hx,hj,hF2,nx⟩:=hr2.step (by simp) hl hlt
     refine (hdL.ext ho2.ext).load (a_c hx) a_fw rfl ⟨x.1,rfl,?_⟩
     have hxa:=(hL x (List.mem_of_getElem? hx)).ext ho2.ext
     simp only[List.map_cons,List.flatten_cons] at hF2
     have hlen:=congrArg List.length hF2
     simp only[List.length_append] at hlen
     refine ho2.append hxa (by omega) (by omega) fun d3 s3 ho3 _ _=>?_
     have hn:=nx (fun q=>out ++ x.2 ++ (q.map fun p=>p.2).flatten=ra ++ rb) (by rw[List.append_assoc];exact hF2)
     exact ⟨⟨_,ho3,hn.1⟩,hn.2⟩
   · have hF2:=hr2.done (by simp) hge
     simp only[List.map_nil,List.flatten_nil,List.append_nil] at hF2
     exact ⟨_,rfl,hF2 ▸ ho2⟩
theorem b_n (n lo hi:Int) :Pure Tryz.prog b_f [iA n,iA lo,iA hi] σ (.a (bA (decide (lo≤n∧n≤hi)))):=by
 refine a_da n lo hi σ _ (bcd (fun h=>⟨?_,rfl⟩) (fun h=>⟨?_,rfl⟩)) <;> simp[h]
theorem e_j {d:D}{l:List Int}(b:Int)(hb:0≤b∧b≤1)(h:At Tryz.prog σ a_h d (l.map Go.Fw.encI)) :Pure Tryz.prog d_h [iA b, .one d] σ (.a (bA (l.all fun n=>decide (0≤n∧n≤4294967295+b)))):=by
 have hl:=h.size
 rw[List.length_map] at hl
 refine a_jb b d σ _ (h.lenK ⟨fun n s=>s=σ∧Rng l (fun r=>(r.all fun n=>decide (0≤n∧n≤4294967295+b)) =l.all fun n=>decide (0≤n∧n≤4294967295+b)) n,fun n _=>l.length - n.toNat,⟨rfl, .start rfl⟩,?_⟩)
 rintro n τ ⟨rfl,hr⟩
 refine bcd (fun hlt=>?_) (fun hge=>?_)
 · obtain ⟨j,x,rfl,hx,hj,hF,nx⟩:=hr.step (by simp) hl hlt
   rw[List.all_cons] at hF
   have hw:w64 (4294967295+b) =4294967295+b:=a_u (by omega) (by omega)
   refine h.load (a_c hx) c_int rfl ⟨x,rfl,(b_n _ _ _).use ⟨_,rfl,?_⟩⟩
   rw[hw]
   refine a_q (fun h1=>?_) (fun h1=>?_)
   · rw[h1] at hF;exact ⟨by rw[←hF];rfl,rfl⟩
   · rw[h1,Bool.true_and] at hF;exact c_0 rfl (nx _ hF)
 · have hF:=hr.done (by simp) hge
   exact ⟨by rw[←hF];rfl,rfl⟩
end
end Go.Proofs.YtdmfnhbmhkgemaaGreat
namespace Go.Fw
section
structure Rs where
 State:Int
 Since:Int
 Next:Int
 Mark:Int
 deriving DecidableEq
structure Mv where
 Cmd:Int
 Other:Int
 deriving DecidableEq
structure Ls where
 Ask:Int
 Done:Int
 Grant:Int
 Told:Int
 PAsk:Int
 PDone:Int
 PGrant:Int
 Since:Int
 deriving DecidableEq
structure Co where
 Own:List Int
 Routes:List Rs
 Points:List Mv
 Xs:List Mv
 Lines:List Ls
 Resets:List Int
 Dirty:Bool
 deriving DecidableEq
def Rs.enc (r:Rs) :List D:= [iD r.State,iD r.Since,iD r.Next,iD r.Mark]
def Mv.enc (r:Mv) :List D:= [iD r.Cmd,iD r.Other]
def Ls.enc (r:Ls) :List D:= [iD r.Ask,iD r.Done,iD r.Grant,iD r.Told,iD r.PAsk,iD r.PDone,iD r.PGrant,iD r.Since]
def tm (b n:Int) :Bool:=decide (0≤n∧n≤4294967295+b)
def Rs.fits (p:Rs × Rt) :Bool:=decide (0≤p.1.State∧p.1.State≤5) && decide (0≤p.1.Next∧p.1.Next≤p.2.Path.length) && (tm 0 p.1.Since && tm 0 p.1.Mark)
def Mv.fits (m:Mv) :Bool:=decide (0≤m.Cmd∧m.Cmd≤2) && decide (-1≤m.Other∧m.Other≤4294967295)
def Ls.fits (l:Ls) :Bool:=(tm 0 l.Ask && (tm 0 l.Done && (tm 0 l.Grant && (tm 0 l.Told && (tm 0 l.PAsk && (tm 0 l.PDone && tm 0 l.PGrant)))))) && tm 1 l.Since
def Co.lens (c:Cf)(k:Co) :Bool:=decide (k.Own.length=c.Secs.length∧k.Points.length=c.Secs.length∧k.Resets.length=c.Secs.length∧k.Routes.length=c.Rts.length∧k.Xs.length=c.Xs.length∧k.Lines.length=4)
def Co.parts (c:Cf)(k:Co) :Bool:=
 (k.Own.all fun o=>decide (-2≤o∧o≤c.Rts.length)) && ((k.Routes.zip c.Rts).all Rs.fits && ((k.Points ++ k.Xs).all Mv.fits && (k.Lines.all Ls.fits && k.Resets.all (tm 1))))
def Co.fits (c:Cf)(k:Co) :Bool:=decide (c.check=0) && (k.lens c && k.parts c)
theorem a_y {c:Cf}(h:c.check=0) :b_m c.Secs c.Jts=true∧c.Secs.length≤16∧c.Rts.length≤12∧c.Xs.length≤4∧c.Sigs.length≤12∧c.Jts.length≤24:=by
 unfold Cf.check at h
 split at h
 · cases h
 split at h
 · cases h
 split at h
 · cases h
 split at h
 · cases h
 rename_i h1 h2 h3 h4
 simp only[Bool.not_eq_false] at h1 h2 h3
 simp only[Cf.sigsOk,Cf.xsOk,Bool.and_eq_true,decide_eq_true_eq,b_m] at h1 h2 h3
 exact ⟨by simp only[b_m,Bool.and_eq_true,decide_eq_true_eq];exact h1,h1.1.2.1,by omega,h3.2,h2.2,h1.1.2.2⟩
end
end Go.Fw
namespace Go.Proofs.YtdmfnhbmhkgemaaGreat
open Go.Fw Go.Proofs Go.RowKit
section
variable {σ:Store}
theorem y_k {t:TypeId}{bytes:Nat}{d:D}{rows:List (List D)}{Q:RV→Store→Prop}(h:At Tryz.prog σ t d rows)(hz:d≠ .zsl)(hb:bytes * rows.length≤140737488355328)
   (hQ:∀d' s,Own Tryz.prog σ s t d' rows→Q (.a (.one d')) s) :
   ∃b:Bool,(h_6 .sl d b)∧a_b (b != false) (Q (.a (.one .nils)) σ) (Fw.newObj σ (.live t []) (fun (id:Nat)=>fun (σ':Store)=>a_z Tryz.prog σ' t bytes (.osl id 0 0) d (fun (d:D)=>fun (σ'1:Store)=>Q (.a (.one d)) σ'1))):=by
 have new:∀b:Bool,b=false→a_b (b != false) (Q (.a (.one .nils)) σ) (Fw.newObj σ (.live t []) (fun (id:Nat)=>fun (σ':Store)=>a_z Tryz.prog σ' t bytes (.osl id 0 0) d (fun (d:D)=>fun (σ'1:Store)=>Q (.a (.one d)) σ'1))):=by
   rintro b rfl
   rw[show (false != false) =false from by decide]
   refine (a_e (K:=fun id σ'=>a_z Tryz.prog σ' t bytes (.osl id 0 0) d fun d σ'1=>Q (.a (.one d)) σ'1) ?_:Fw.newObj σ (.live t []) _)
   refine fun id s hid _ he hs=>?_
   have ho:Own Tryz.prog σ s t (.osl id 0 0) []:=⟨At.fresh hs (by simp) rfl,he,z_j hid,fun h=>h,by intro e;cases e⟩
   exact ho.append (h.ext he) (by simpa using hb) (by have:=h.size;simpa using this) fun d' s' ho' _ _=>hQ _ _ (by simpa using ho')
 have hr:=h.rows
 cases d <;> simp only[Go.Fw.Rows] at hr <;> try exact hr.elim
 · subst hr;exact ⟨true,rfl,hQ _ _ (.nil _ (.refl _))⟩
 · exact absurd rfl hz
 · exact ⟨false,rfl,new _ rfl⟩
 · exact ⟨false,rfl,new _ rfl⟩
theorem d_1 {d:D}{rows:List (List D)}(h:At Tryz.prog σ a_h d rows)(hz:d≠ .zsl)(hb:8 * rows.length≤140737488355328) :DCalls Tryz.prog a_4 [.one d] σ fun r s=>∃d',r= .a (.one d')∧Own Tryz.prog σ s a_h d' rows:=
 w_x d σ _ (y_k (Q:=fun r s=>∃d',r= .a (.one d')∧Own Tryz.prog σ s _ d' rows) h hz hb fun d' s ho=>⟨d',rfl,ho⟩)
theorem g_c {d:D}{rows:List (List D)}(h:At Tryz.prog σ c_h d rows)(hz:d≠ .zsl)(hb:32 * rows.length≤140737488355328) :DCalls Tryz.prog b_s [.one d] σ fun r s=>∃d',r= .a (.one d')∧Own Tryz.prog σ s c_h d' rows:=
 l_k d σ _ (y_k (Q:=fun r s=>∃d',r= .a (.one d')∧Own Tryz.prog σ s _ d' rows) h hz hb fun d' s ho=>⟨d',rfl,ho⟩)
theorem e_n {d:D}{rows:List (List D)}(h:At Tryz.prog σ a_7 d rows)(hz:d≠ .zsl)(hb:16 * rows.length≤140737488355328) :DCalls Tryz.prog b_b [.one d] σ fun r s=>∃d',r= .a (.one d')∧Own Tryz.prog σ s a_7 d' rows:=
 r_5 d σ _ (y_k (Q:=fun r s=>∃d',r= .a (.one d')∧Own Tryz.prog σ s _ d' rows) h hz hb fun d' s ho=>⟨d',rfl,ho⟩)
theorem h_a {d:D}{rows:List (List D)}(h:At Tryz.prog σ d_g d rows)(hz:d≠ .zsl)(hb:64 * rows.length≤140737488355328) :DCalls Tryz.prog b_2 [.one d] σ fun r s=>∃d',r= .a (.one d')∧Own Tryz.prog σ s d_g d' rows:=
 m_t d σ _ (y_k (Q:=fun r s=>∃d',r= .a (.one d')∧Own Tryz.prog σ s _ d' rows) h hz hb fun d' s ho=>⟨d',rfl,ho⟩)
structure CoAt (σ:Store) (k0 k1 k2 k3 k4 k5:D) (k:Co) :Prop where
 own:At Tryz.prog σ a_h k0 (k.Own.map Go.Fw.encI)
 routes:At Tryz.prog σ c_h k1 (k.Routes.map Rs.enc)
 points:At Tryz.prog σ a_7 k2 (k.Points.map Mv.enc)
 xs:At Tryz.prog σ a_7 k3 (k.Xs.map Mv.enc)
 lines:At Tryz.prog σ d_g k4 (k.Lines.map Ls.enc)
 resets:At Tryz.prog σ a_h k5 (k.Resets.map Go.Fw.encI)
theorem CoAt.ext {σ':Store}{k0 k1 k2 k3 k4 k5:D}{k:Co}(h:CoAt σ k0 k1 k2 k3 k4 k5 k)(he:Ext σ σ') :CoAt σ' k0 k1 k2 k3 k4 k5 k:=
 ⟨h.own.ext he,h.routes.ext he,h.points.ext he,h.xs.ext he,h.lines.ext he,h.resets.ext he⟩
abbrev coA (k0 k1 k2 k3 k4 k5:D)(b:Bool) :A:= .agg [k0,k1,k2,k3,k4,k5, .bool b]
theorem e_9 {c0 c1 c2 c3 c4:D}{c:Cf}(h:∀s,CfAt s c0 c1 c2 c3 c4 c){k0 k1 k2 k3 k4 k5:D}{k:Co}(hk:CoAt σ k0 k1 k2 k3 k4 k5 k) :
   Pure Tryz.prog d_3 [cfA c0 c1 c2 c3 c4 c,coA k0 k1 k2 k3 k4 k5 k.Dirty] σ (.a (bA (k.fits c))):=by
 have ls:=(h σ).secs.size
 have lx:=(h σ).xs.size
 have l0:=hk.own.size
 have l1:=hk.routes.size
 have l2:=hk.points.size
 have l3:=hk.xs.size
 have l4:=hk.lines.size
 have l5:=hk.resets.size
 simp only[List.length_map] at ls lx l0 l1 l2 l3 l4 l5
 refine .of (a_k4 _ _ _ _ _ _ _ _ _ k0 k1 k2 k3 k4 k5 k.Dirty σ _ ((h σ).secs.lenK fun R hR=>(a_in h).use ⟨_,rfl,?_⟩)) (k_o _)
 obtain ⟨rows,hat,hlen,hrow⟩:=g_h fun s=>(h s).rts
 have hl:=(hat σ).size
 have bad:k.lens c=false→∀s,Ext σ s→(RV.a (.one (.bool false)) = .a (bA (k.fits c))∧Ext σ s):=fun hb s he=>⟨by simp[Co.fits,hb],he⟩
 have nl:∀p:Prop,¬(k.Own.length=c.Secs.length∧k.Points.length=c.Secs.length∧k.Resets.length=c.Secs.length∧k.Routes.length=c.Rts.length∧k.Xs.length=c.Xs.length∧k.Lines.length=4)→k.lens c=false:=fun p hn=>by
   rw[Co.lens,decide_eq_false hn]
 refine bcn (fun hc=>⟨by simp[Co.fits,hc], .refl _⟩) (fun hc=>?_)
 simp only[List.length_map]
 refine hk.own.lenK (bcn (fun e=>bad (nl True fun g=>by simp only[List.length_map] at e;omega) _ (.refl _)) (fun e0=>?_))
 refine hk.points.lenK (bcn (fun e=>bad (nl True fun g=>by simp only[List.length_map] at e;omega) _ (.refl _)) (fun e1=>?_))
 refine hk.resets.lenK (bcn (fun e=>bad (nl True fun g=>by simp only[List.length_map] at e;omega) _ (.refl _)) (fun e2=>?_))
 refine hk.routes.lenK ((hat σ).lenK (bcn (fun e=>bad (nl True fun g=>by simp only[List.length_map] at e;omega) _ (.refl _)) (fun e3=>?_)))
 refine hk.xs.lenK ((h σ).xs.lenK (bcn (fun e=>bad (nl True fun g=>by simp only[List.length_map] at e;omega) _ (.refl _)) (fun e4=>?_)))
 refine hk.lines.lenK (bcn (fun e=>bad (nl True fun g=>by simp only[List.length_map] at e;omega) _ (.refl _)) (fun e5=>hR σ ?_))
 simp only[List.length_map] at e0 e1 e2 e3 e4 e5
 have hL:k.lens c=true:=decide_eq_true ⟨by omega,by omega,by omega,by omega,by omega,by omega⟩
 have hfit:k.fits c=k.parts c:=by simp[Co.fits,hc,hL]
 rw[hfit]
 obtain ⟨_,s1,s2,s3,_,_⟩:=a_y hc
 clear bad nl hfit hL hR
 unfold Co.parts
 refine hk.own.lenK ⟨fun n s=>s=σ∧Rng k.Own (fun r=>(r.all fun o=>decide (-2≤o∧o≤(c.Rts.length:Int))) =k.Own.all fun o=>decide (-2≤o∧o≤(c.Rts.length:Int))) n,fun n _=>k.Own.length - n.toNat,⟨rfl, .start rfl⟩,?_⟩
 rintro n τ ⟨rfl,hr⟩
 refine bcd (fun hlt=>?_) (fun hge=>?_)
 · obtain ⟨j,x,rfl,hx,hj,hF,nx⟩:=hr.step (by simp) l0 hlt
   rw[List.all_cons] at hF
   refine hk.own.load (a_c hx) c_int rfl ⟨x,rfl,(hat τ).lenK ((b_n _ _ _).use ⟨_,rfl,?_⟩)⟩
   rw[hlen]
   refine a_q (fun h1=>?_) (fun h1=>?_)
   · rw[h1] at hF;exact ⟨by rw[←hF];rfl, .refl _⟩
   · rw[h1,Bool.true_and] at hF;exact c_0 rfl (nx _ hF)
 have hF0:=hr.done (by simp) hge
 rw[←hF0]
 show (∃len2:Nat,_)
 simp only[List.all_nil,Bool.true_and]
 clear hF0 hr hge
 have lz:(k.Routes.zip c.Rts).length=k.Routes.length:=by rw[List.length_zip];omega
 refine hk.routes.lenK ⟨fun n s=>Ext τ s∧Rng (k.Routes.zip c.Rts) (fun r=>r.all Rs.fits=(k.Routes.zip c.Rts).all Rs.fits) n,fun n _=>(k.Routes.zip c.Rts).length - n.toNat,⟨.refl _, .start rfl⟩,?_⟩
 rintro n s ⟨he,hr⟩
 refine bcd (fun hlt=>?_) (fun hge=>?_)
 · obtain ⟨j,x,rfl,hx,hj,hF,nx⟩:=hr.step (by rw[List.length_map,lz]) (by omega) hlt
   obtain ⟨g1,g2⟩:=List.getElem?_zip_eq_some.1 hx
   rw[List.all_cons] at hF
   refine (hk.ext he).routes.load (a_c g1) a_x rfl ⟨x.1.State,x.1.Since,x.1.Next,x.1.Mark,rfl,(b_n _ _ _).use ⟨_,rfl,?_⟩⟩
   have bad:Rs.fits x=false→∀s',Ext τ s'→(RV.a (.one (.bool false)) = .a (bA ((k.Routes.zip c.Rts).all Rs.fits && ((k.Points ++ k.Xs).all Mv.fits && (k.Lines.all Ls.fits && k.Resets.all (tm 1)))))∧Ext τ s'):=fun hb s' he'=>by
     rw[hb,Bool.false_and] at hF
     exact ⟨by rw[←hF];rfl,he'⟩
   refine a_q (fun h1=>bad (by unfold Rs.fits;rw[h1];rfl) _ he) (fun h1=>?_)
   obtain ⟨row,hrw⟩:=a_i (l:=rows) (j:=j) (by rw[lz] at hj;omega)
   obtain ⟨d1,d2,d3,rfl,q1,q2,q3⟩:=hrow j row x.2 hrw g2
   refine (hat s).load hrw c_l rfl ⟨d1,rfl,(q1 s).lenK ((b_n _ _ _).use ⟨_,rfl,?_⟩)⟩
   rw[List.length_map]
   refine a_q (fun h2=>bad (by unfold Rs.fits;rw[h1,h2];rfl) _ he) (fun h2=>?_)
   refine a_e fun id s2 hid _ he2 hs2=>?_
   refine (e_j (l:= [x.1.Since,x.1.Mark]) 0 (by omega) (At.fresh hs2 (by simp) rfl)).use ⟨_,rfl,?_⟩
   have e3:([x.1.Since,x.1.Mark].all fun n=>decide (0≤n∧n≤4294967295+ (0:Int))) =(tm 0 x.1.Since && tm 0 x.1.Mark):=by simp[tm]
   rw[e3]
   refine a_q (fun h3=>bad (by unfold Rs.fits;rw[h1,h2,h3];rfl) _ (he.trans he2)) (fun h3=>?_)
   have hx:Rs.fits x=true:=by unfold Rs.fits;rw[h1,h2,h3];rfl
   rw[hx,Bool.true_and] at hF
   have hn:=nx (fun r=>r.all Rs.fits=(k.Routes.zip c.Rts).all Rs.fits) hF
   exact ⟨⟨he.trans he2,hn.1⟩,hn.2⟩
 have hF0:=hr.done (by rw[List.length_map,lz]) hge
 rw[←hF0]
 simp only[List.all_nil,Bool.true_and]
 clear hF0 hr hge
 refine a_e fun id s2 hid _ he2 hs2=>?_
 have het:=he.trans he2
 have hkt:=hk.ext het
 refine (a_c9 (a:=k2) (b:=k3) (At.fresh hs2 (by simp) rfl) hkt.points hkt.xs (by rw[List.length_map];omega) (by rw[List.length_map];omega)).mono ?_
 rintro r s3 ⟨d,rfl,ho⟩
 rw[←List.map_append] at ho
 have he3:=het.trans ho.ext
 have lm:(k.Points ++ k.Xs).length < 2 ^ 60:=by rw[List.length_append];omega
 refine ⟨d,rfl,ho.at_.lenK ⟨fun n s=>s=s3∧Rng (k.Points ++ k.Xs) (fun r=>r.all Mv.fits=(k.Points ++ k.Xs).all Mv.fits) n,fun n _=>(k.Points ++ k.Xs).length - n.toNat,⟨rfl, .start rfl⟩,?_⟩⟩
 rintro n s4 ⟨rfl,hr⟩
 refine bcd (fun hlt=>?_) (fun hge=>?_)
 · obtain ⟨j,x,rfl,hx,hj,hF,nx⟩:=hr.step (by simp) lm hlt
   rw[List.all_cons] at hF
   refine ho.at_.load (a_c hx) c_r rfl ⟨x.Cmd,x.Other,rfl,(b_n _ _ _).use ⟨_,rfl,a_q (fun h1=>?_) (fun h1=>(b_n _ _ _).use ⟨_,rfl,a_q (fun h2=>?_) (fun h2=>?_)⟩)⟩⟩
   · have:x.fits=false:=by unfold Mv.fits;rw[h1];rfl
     rw[this,Bool.false_and] at hF;exact ⟨by rw[←hF];rfl,he3⟩
   · have:x.fits=false:=by unfold Mv.fits;rw[h1,h2];rfl
     rw[this,Bool.false_and] at hF;exact ⟨by rw[←hF];rfl,he3⟩
   · have:x.fits=true:=by unfold Mv.fits;rw[h1,h2];rfl
     rw[this,Bool.true_and] at hF;exact c_0 rfl (nx _ hF)
 have hF0:=hr.done (by simp) hge
 rw[←hF0]
 simp only[List.all_nil,Bool.true_and]
 clear hF0 hr hge
 refine hk.lines.lenK ⟨fun n s=>Ext τ s∧Rng k.Lines (fun r=>r.all Ls.fits=k.Lines.all Ls.fits) n,fun n _=>k.Lines.length - n.toNat,⟨he3, .start rfl⟩,?_⟩
 rintro n s5 ⟨he5,hr⟩
 refine bcd (fun hlt=>?_) (fun hge=>?_)
 · obtain ⟨j,x,rfl,hx,hj,hF,nx⟩:=hr.step (by simp) l4 hlt
   rw[List.all_cons] at hF
   refine (hk.ext he5).lines.load (a_c hx) c_a rfl ⟨x.Ask,x.Done,x.Grant,x.Told,x.PAsk,x.PDone,x.PGrant,x.Since,rfl,a_e fun id1 s6 hid1 _ he6 hs6=>?_⟩
   have bad:Ls.fits x=false→∀s',Ext τ s'→(RV.a (.one (.bool false)) = .a (bA (k.Lines.all Ls.fits && k.Resets.all (tm 1)))∧Ext τ s'):=fun hb s' he'=>by
     rw[hb,Bool.false_and] at hF
     exact ⟨by rw[←hF];rfl,he'⟩
   refine (e_j (l:= [x.Ask,x.Done,x.Grant,x.Told,x.PAsk,x.PDone,x.PGrant]) 0 (by omega) (At.fresh hs6 (by simp) rfl)).use ⟨_,rfl,?_⟩
   have e3:([x.Ask,x.Done,x.Grant,x.Told,x.PAsk,x.PDone,x.PGrant].all fun n=>decide (0≤n∧n≤4294967295+ (0:Int))) =(tm 0 x.Ask && (tm 0 x.Done && (tm 0 x.Grant && (tm 0 x.Told && (tm 0 x.PAsk && (tm 0 x.PDone && tm 0 x.PGrant)))))):=by simp[tm]
   rw[e3]
   refine a_q (fun h1=>bad (by unfold Ls.fits;rw[h1];rfl) _ (he5.trans he6)) (fun h1=>a_e fun id2 s7 hid2 _ he7 hs7=>?_)
   refine (e_j (l:= [x.Since]) 1 (by omega) (At.fresh hs7 (by simp) rfl)).use ⟨_,rfl,?_⟩
   have e4:([x.Since].all fun n=>decide (0≤n∧n≤4294967295+ (1:Int))) =tm 1 x.Since:=by simp[tm]
   rw[e4]
   refine a_q (fun h2=>bad (by unfold Ls.fits;rw[h1,h2];rfl) _ ((he5.trans he6).trans he7)) (fun h2=>?_)
   have hx:x.fits=true:=by unfold Ls.fits;rw[h1,h2];rfl
   rw[hx,Bool.true_and] at hF
   have hn:=nx (fun r=>r.all Ls.fits=k.Lines.all Ls.fits) hF
   exact ⟨⟨(he5.trans he6).trans he7,hn.1⟩,hn.2⟩
 have hF0:=hr.done (by simp) hge
 rw[←hF0]
 simp only[List.all_nil,Bool.true_and]
 exact (e_j 1 (by omega) (hk.ext he5).resets).use ⟨_,rfl,rfl,he5⟩
end
end Go.Proofs.YtdmfnhbmhkgemaaGreat
namespace Go.Fw
section
variable {P:Program} {σ:Store}
theorem a_no {s:Store}{el:TypeId}{d:D}{rs rs':List (List D)}(h:Go.Fw.Rows P s el d rs)(h':Go.Fw.Rows P s el d rs') :rs=rs':=by
 cases d <;> simp only[Go.Fw.Rows] at h h' <;> try exact h.elim
 · rw[h,h']
 · rw[h,h']
 · rw[h.1,h'.1]
 · obtain ⟨t,rows,a1,a2,a3,a4⟩:=h
   obtain ⟨t',rows',b1,b2,b3,b4⟩:=h'
   rw[a1] at b1
   injection b1 with e1 e2
   subst e1 e2
   rw[a4,b4]
def a_uj (P:Program)(t:TypeId)(as0:List A)(s:Store) :Prop:=∃(d:D) (n:Nat) (row:List D),as0=[.one d,iA n]∧At P s t d [row]∧n≤2 ^ 20
def a_sy (P:Program)(t:TypeId)(as0:List A)(s:Store)(r:RV)(s':Store) :Prop:=∃(d:D) (n:Nat) (row:List D),as0=[.one d,iA n]∧At P s t d [row]∧n≤2 ^ 20∧x_v t n row s r s'
theorem Fin.set' {s:Store}(h:Fin s)(id:Nat)(so:SO) :Fin (s.set id so):=by
 obtain ⟨N,hN⟩:=h
 refine ⟨max N (id+1),fun i hi=>?_⟩
 rw[Store.set_ne _ _ (by omega)];exact hN i (by omega)
theorem a_u7 {f:FuncId}{t:TypeId}(h:∀(s:Store) (x:D) (row:List D) (n:Nat),At P s t x [row]→n≤2 ^ 20→DCalls P f [.one x,iA n] s (x_v t n row s)) :h_o P f (a_uj P t) (a_sy P t):=by
 refine ⟨?_,?_,?_,?_,?_⟩
 · rintro as0 s ⟨d,n,row,rfl,h1,h2⟩
   exact (h s d row n h1 h2).mono fun r s' hr=>⟨d,n,row,rfl,h1,h2,hr⟩
 · rintro as0 s ⟨d,n,row,rfl,h1,h2⟩ ⟨N,hN⟩
   exact ⟨_,_,⟨d,n,row,rfl,h1,h2,N,hN N (Nat.le_refl _),rfl,rfl⟩,Fin.set' ⟨N,hN⟩ _ _⟩
 · rintro as0 s r s' ⟨d,n,row,rfl,h1,h2,id,h3,rfl,rfl⟩ hf
   exact hf.set' _ _
 · rintro as0 s id so hid hso ⟨d,n,row,rfl,h1,h2⟩
   have he:=Ext.new hid so
   refine ⟨⟨d,n,row,rfl,h1.ext he,h2⟩,?_⟩
   rintro r s' ⟨d',n',row',e1,g1,g2,id',g3,rfl,rfl⟩
   injection e1 with e2 e3
   injection e2 with e2
   injection e3 with e3 _
   injection e3 with e3
   injection e3 with _ e3
   have e3:n=n':=by omega
   subst e2 e3
   have e4:=a_no (h1.ext he).rows g1.rows
   injection e4 with e4 _
   subst e4
   have hne:id'≠id:=fun e=>by subst e;rw[Store.set_same] at g3;exact hso g3
   rw[Store.set_ne _ _ hne] at g3
   refine ⟨s.set id' (.live t (List.replicate n row)),⟨d,n,row,rfl,h1,h2,id',g3,rfl,rfl⟩,?_,a_ge (Ne.symm hne) _ _⟩
   rw[Store.set_ne _ _ (Ne.symm hne)];exact hid
 · rintro as0 s r s' _ ⟨d,n,row,rfl,h1,h2,id,h3,rfl,rfl⟩ i hi
   exact Store.set_ne _ _ (fun e=>hi (e ▸ h3))
def a_0:D→Option Nat
 | .osl id _ _=>some id
 | _=>none
def Apart (a b:D) :Prop:=∀id,a_0 a=some id→a_0 b≠some id
theorem Apart.symm {a b:D}(h:Apart a b) :Apart b a:=fun id h1 h2=>h id h2 h1
theorem Own.at_new {σ0:Store}{el:TypeId}{id n:Nat}{rs:List (List D)}(hid:σ0 id= .free)(he:Ext σ0 σ)(h:σ id= .live el rs)(hsz:rs.length < 2 ^ 60)(hn:n=rs.length) :Own P σ0 σ el (.osl id 0 n) rs:=
 ⟨At.fresh h hsz hn,he,z_j hid,fun h=>h,by intro e;cases e⟩
theorem Own.apart {σ0:Store}{el el':TypeId}{d d':D}{rs rs':List (List D)}(h:Own P σ0 σ el d rs)(h':At P σ0 el' d' rs') :Apart d' d:=by
 intro id h1 h2
 cases d' with
 | osl i a n=>
   have e1:i=id:=by simpa[a_0] using h1
   subst e1
   cases d with
   | osl i' a' n'=>
     have e2:i'=i:=by simpa[a_0] using h2
     subst e2
     have:=h.new _ _ _ rfl
     obtain ⟨t,rows,g1,_⟩:=h'.rows
     rw[this] at g1;cases g1
   | _=>simp[a_0] at h2
 | _=>simp[a_0] at h1
theorem Own.from {σ0 σ1:Store}{el:TypeId}{d:D}{rs:List (List D)}(he:Ext σ0 σ1)(h:Own P σ1 σ el d rs) :Own P σ0 σ el d rs:=
 ⟨h.at_,he.trans h.ext,fun id i len e=>by
   have h1:=h.new id i len e
   by_cases hf:σ0 id= .free
   · exact hf
   · have:=he id hf;rw[h1] at this;exact this.symm,h.nsl,h.nz⟩
def b_j (c:Cf)(now:Int) :Co:=
 ⟨List.replicate c.Secs.length (-1),List.replicate c.Rts.length ⟨0,0,0,0⟩,c.Secs.map fun s=>⟨0,if s.Kind=1 then now else 0⟩,List.replicate c.Xs.length ⟨1,now⟩,List.replicate 4 ⟨0,0,0,0,0,0,0,0⟩,List.replicate c.Secs.length 0,true⟩
end
end Go.Fw
namespace Go.Proofs.YtdmfnhbmhkgemaaGreat
open Go.Fw Go.Proofs Go.RowKit
section
variable {σ:Store}
def mvAt (now:Int)(s:Sec) :Mv:=⟨0,if s.Kind=1 then now else 0⟩
theorem a_cr {c0 c1 c2 c3 c4:D}{c:Cf}(h:∀s,CfAt s c0 c1 c2 c3 c4 c)(now:Int)(h1:c.Secs.length≤2 ^ 20)(h2:c.Xs.length≤2 ^ 20) :
   DCalls Tryz.prog k_y [cfA c0 c1 c2 c3 c4 c,iA now] σ fun r s=>∃d1 d2,r= .tup [.one d1, .one d2]∧Own Tryz.prog σ s a_7 d1 ((c.Secs.map (mvAt now)).map Mv.enc)∧Own Tryz.prog σ s a_7 d2 ((List.replicate c.Xs.length (⟨1,now⟩ :Mv)).map Mv.enc)∧Apart d1 d2:=by
 refine a_ff _ _ _ _ _ _ _ _ _ now σ _ ((h σ).secs.lenK ⟨by omega,by omega,by rw[List.length_map];omega,a_e fun id s1 hid _ he hs=>(h s1).secs.lenK ?_⟩)
 rw[List.length_map,Int.toNat_natCast]
 refine ⟨fun n s=>∃j:Nat,n=j∧j≤c.Secs.length∧Ext σ s∧s id= .live a_7 (((c.Secs.take j).map (mvAt now)).map Mv.enc ++ List.replicate (c.Secs.length - j) [iD 0,iD 0]),fun n _=>c.Secs.length - n.toNat,⟨0,rfl,by omega,he,by simpa using hs⟩,?_⟩
 rintro _ s ⟨j,rfl,hj,hes,hl⟩
 refine bcd (fun hlt=>?_) (fun hge=>?_)
 · obtain ⟨x,hx⟩:=a_i (l:=c.Secs) (j:=j) (by omega)
   refine (h s).secs.load (a_c hx) b_z rfl ⟨x.Kind,x.OC,x.Line,rfl,?_⟩
   have hw:w64 ((j:Int) +1) =((j+1:Nat) :Int):=a_o (by omega)
   have htake:c.Secs.take (j+1) =c.Secs.take j ++ [x]:=by rw[List.take_add_one,hx];rfl
   have hlr:(((c.Secs.take j).map (mvAt now)).map Mv.enc ++ List.replicate (c.Secs.length - j) ([iD 0,iD 0]:List D)).length=c.Secs.length:=by simp;omega
   have hsplit:List.replicate (c.Secs.length - j) ([iD 0,iD 0]:List D) =[iD 0,iD 0]::List.replicate (c.Secs.length - (j+1)) [iD 0,iD 0]:=by
     rw[show c.Secs.length - j=(c.Secs.length - (j+1)) +1 by omega,List.replicate_succ]
   have hln:(((c.Secs.take j).map (mvAt now)).map Mv.enc).length=j:=by rw[List.length_map,List.length_map,List.length_take];omega
   have hmu:c.Secs.length - ((j+1:Nat) :Int).toNat < c.Secs.length - ((j:Nat) :Int).toNat:=by omega
   refine bce (fun hk=>(a_vr now).use ⟨0,now,rfl,?_⟩) (fun hk=>?_)
   · refine ⟨c.Secs.length,⟨by omega,a_7,_,hl,c_r⟩,by omega,by omega,?_⟩
     have hrowj:(((c.Secs.take j).map (mvAt now)).map Mv.enc ++ List.replicate (c.Secs.length - j) ([iD 0,iD 0]:List D))[0+j]? =some [iD 0,iD 0]:=by
       rw[Nat.zero_add,List.getElem?_append_right (by omega),hln,Nat.sub_self,hsplit];rfl
     refine ⟨id,0,c.Secs.length,a_7,_,[iD 0,iD 0],rfl,by omega,hl,hrowj,by simp,?_⟩
     rw[hw]
     refine ⟨⟨j+1,rfl,by omega,hes.set hid _,?_⟩,hmu⟩
     rw[Store.set_same,htake,Int.toNat_natCast,Nat.zero_add,hsplit]
     congr 1
     rw[List.set_append_right _ _ (by omega),hln,Nat.sub_self,List.set_cons_zero]
     simp[mvAt,hk,Mv.enc,patch]
   · rw[hw]
     refine ⟨⟨j+1,rfl,by omega,hes,?_⟩,hmu⟩
     rw[hl,htake,hsplit]
     simp[mvAt,hk,Mv.enc]
 · have e:j=c.Secs.length:=by omega
   subst e
   rw[List.take_length,Nat.sub_self,List.replicate_zero,List.append_nil] at hl
   refine a_e fun id1 s2 hid1 _ he2 hs2=>(h s2).xs.lenK ?_
   rw[List.length_map]
   refine (a_c1 (At.fresh hs2 (by simp) rfl) h2).mono ?_
   rintro r s3 ⟨id3,hid3,rfl,rfl⟩
   have he3:Ext s2 (s2.set id3 (.live a_7 (List.replicate c.Xs.length [iD 1,iD now]))):=Ext.new hid3 _
   have hne:id≠id3:=fun e=>by
     rw[←e] at hid3
     have:=he2 id (by rw[hl];intro e;cases e)
     rw[hid3,hl] at this;cases this
   have hf3:σ id3= .free:=by
     by_cases hf:σ id3= .free
     · exact hf
     · have:=(hes.trans he2) id3 hf
       rw[hid3] at this;exact this.symm
   refine ⟨_,rfl,_,_,rfl,?_,?_,?_⟩
   · refine Own.at_new hid ((hes.trans he2).trans he3) (rs:=(c.Secs.map (mvAt now)).map Mv.enc) ?_ (by simp;omega) (by simp)
     rw[Store.set_ne _ _ hne,he2 id (by rw[hl];intro e;cases e),hl]
   · refine Own.at_new hf3 ((hes.trans he2).trans he3) (rs:=(List.replicate c.Xs.length (⟨1,now⟩ :Mv)).map Mv.enc) ?_ (by simp;omega) (by simp)
     rw[Store.set_same]
     simp[Mv.enc]
   · intro i e1 e2
     simp only[a_0,Option.some.injEq] at e1 e2
     exact hne (e1.trans e2.symm)
structure CoOwn (σ0 σ:Store) (k0 k1 k2 k3 k4 k5:D) (k:Co) :Prop where
 own:Own Tryz.prog σ0 σ a_h k0 (k.Own.map Go.Fw.encI)
 routes:Own Tryz.prog σ0 σ c_h k1 (k.Routes.map Rs.enc)
 points:Own Tryz.prog σ0 σ a_7 k2 (k.Points.map Mv.enc)
 xs:Own Tryz.prog σ0 σ a_7 k3 (k.Xs.map Mv.enc)
 lines:Own Tryz.prog σ0 σ d_g k4 (k.Lines.map Ls.enc)
 resets:Own Tryz.prog σ0 σ a_h k5 (k.Resets.map Go.Fw.encI)
 apart: [k0,k1,k2,k3,k4,k5].Pairwise Apart
theorem CoOwn.at {σ0:Store}{k0 k1 k2 k3 k4 k5:D}{k:Co}(h:CoOwn σ0 σ k0 k1 k2 k3 k4 k5 k) :CoAt σ k0 k1 k2 k3 k4 k5 k:=
 ⟨h.own.at_,h.routes.at_,h.points.at_,h.xs.at_,h.lines.at_,h.resets.at_⟩
theorem o_3 {c0 c1 c2 c3 c4:D}{c:Cf}(h:∀s,CfAt s c0 c1 c2 c3 c4 c)(now:Int)(h1:c.Secs.length≤2 ^ 20)(h2:c.Xs.length≤2 ^ 20)(h3:c.Rts.length≤2 ^ 20) :
   DCalls Tryz.prog h_d [cfA c0 c1 c2 c3 c4 c,iA now] σ fun r s=>∃k0 k1 k2 k3 k4 k5,r= .a (coA k0 k1 k2 k3 k4 k5 true)∧CoOwn σ s k0 k1 k2 k3 k4 k5 (b_j c now):=by
 obtain ⟨rows,hat,hlen⟩:=j_s (h σ)
 refine a_nu _ _ _ _ _ _ _ _ _ now σ _ ⟨a_uj Tryz.prog a_h,a_sy Tryz.prog a_h,a_u7 fun s x row n q1 q2=>a_ha q1 q2,(h σ).secs.lenK (hat.lenK ((h σ).secs.lenK (a_e fun id s1 hid _ he1 hs1=>?_)))⟩
 simp only[List.length_map,hlen]
 refine ⟨⟨_,_,[iD (-1)],rfl,At.fresh hs1 (by simp) rfl,h1⟩,?_⟩
 rintro r s2 ⟨d,n,row,e1,g1,g2,id2,hid2,rfl,rfl⟩
 injection e1 with e2 e3
 injection e2 with e2
 injection e3 with e3 _
 injection e3 with e3
 injection e3 with _ e3
 have e3:c.Secs.length=n:=by omega
 subst e2 e3
 have e4:=a_no (At.fresh hs1 (by simp) rfl:At Tryz.prog s1 a_h (.osl id 0 1) _).rows g1.rows
 injection e4 with e4 _
 subst e4
 generalize hs2:s1.set id2 (SO.live a_h (List.replicate c.Secs.length [D.int IntKind.i64 (-1)])) =s2
 have he2:Ext s1 s2:=by rw[←hs2];exact Ext.new hid2 _
 have hl2:s2 id2= .live a_h (List.replicate c.Secs.length [iD (-1)]):=by rw[←hs2];exact Store.set_same _ _ _
 have o0:Own Tryz.prog s1 s2 a_h (.osl id2 0 c.Secs.length) (List.replicate c.Secs.length [iD (-1)]):= .at_new hid2 he2 hl2 (by simp;omega) (by simp)
 refine ⟨_,rfl,by omega,by omega,by omega,a_e fun id3 s3 hid3 _ he3 hs3=>⟨by omega,by omega,by omega,a_e fun id4 s4 hid4 _ he4 hs4=>⟨by omega,by omega,by omega,a_e fun id5 s5 hid5 _ he5 hs5=>?_⟩⟩⟩
 simp only[Int.toNat_natCast] at hs3 hs5 ⊢
 have o1:Own Tryz.prog s2 s3 c_h (.osl id3 0 c.Rts.length) (List.replicate c.Rts.length [iD 0,iD 0,iD 0,iD 0]):= .at_new hid3 he3 hs3 (by simp;omega) (by simp)
 have o4:Own Tryz.prog s3 s4 d_g (.osl id4 0 4) (List.replicate 4 [iD 0,iD 0,iD 0,iD 0,iD 0,iD 0,iD 0,iD 0]):= .at_new hid4 he4 hs4 (by simp) (by simp)
 have o5:Own Tryz.prog s4 s5 a_h (.osl id5 0 c.Secs.length) (List.replicate c.Secs.length [iD 0]):= .at_new hid5 he5 hs5 (by simp;omega) (by simp)
 refine (a_cr h now h1 h2).mono ?_
 rintro r s6 ⟨d1,d2,rfl,o2,o3,hap⟩
 refine ⟨d1,d2,rfl,_,_,_,_,_,_,rfl,?_⟩
 have a3:=o0.at_.ext he3
 have a4:=a3.ext he4
 have a5:=a4.ext he5
 have b4:=o1.at_.ext he4
 have b5:=b4.ext he5
 have c5:=o4.at_.ext he5
 have f1:=he1.trans he2
 have f2:=f1.trans he3
 have f3:=f2.trans he4
 have f4:=f3.trans he5
 refine ⟨?_,?_,?_,?_,?_,?_,?_⟩
 · have:List.map Go.Fw.encI (b_j c now).Own=List.replicate c.Secs.length [iD (-1)]:=by simp[b_j,Go.Fw.encI]
   rw[this];exact (((o0.ext' he3).ext' he4).ext' he5).ext' o2.ext |>.from he1
 · have:List.map Rs.enc (b_j c now).Routes=List.replicate c.Rts.length [iD 0,iD 0,iD 0,iD 0]:=by simp[b_j,Rs.enc]
   rw[this];exact ((o1.ext' he4).ext' he5).ext' o2.ext |>.from f1
 · exact o2.from f4
 · exact o3.from f4
 · have:List.map Ls.enc (b_j c now).Lines=List.replicate 4 [iD 0,iD 0,iD 0,iD 0,iD 0,iD 0,iD 0,iD 0]:=by simp[b_j,Ls.enc]
   rw[this];exact (o4.ext' he5).ext' o2.ext |>.from f2
 · have:List.map Go.Fw.encI (b_j c now).Resets=List.replicate c.Secs.length [iD 0]:=by simp[b_j,Go.Fw.encI]
   rw[this];exact (o5.ext' o2.ext).from f3
 · simp only[List.pairwise_cons,List.mem_cons,List.not_mem_nil,or_false,forall_eq_or_imp,forall_eq,List.Pairwise.nil,and_true,false_imp_iff,implies_true]
   exact ⟨⟨o1.apart o0.at_,o2.apart a5,o3.apart a5,o4.apart a3,o5.apart a4⟩,⟨o2.apart b5,o3.apart b5,o4.apart o1.at_,o5.apart b4⟩,⟨hap,(o2.apart c5).symm,(o2.apart o5.at_).symm⟩,⟨(o3.apart c5).symm,(o3.apart o5.at_).symm⟩,o5.apart o4.at_⟩
end
end Go.Proofs.YtdmfnhbmhkgemaaGreat
namespace Go.Fw
section
variable {P:Program} {σ:Store}
theorem b_c {s:Store}{id:Nat}{t:TypeId}{row xs:List D}{off:Nat}{K:Store→Prop}(hs:s id= .live t [row])(ho:off+xs.length≤row.length)
   (hK:∀s',s' id= .live t [patch row off xs]→(∀i,i≠id→s' i=s i)→K s') :a_j xs s (.osl id 0 1) 0 off K:=
 ⟨id,0,1,t,[row],row,rfl,by omega,hs,rfl,ho,hK _ (Store.set_same _ _ _) fun i hi=>Store.set_ne _ _ hi⟩
theorem At.store {el:TypeId}{d:D}{rs:List (List D)}{j off:Nat}{n:Nat}{row xs:List D}{K:Store→Prop}(h:At P σ el d rs)(hd:¬isSl d)(hr:rs[j]? =some row)(hn:n=j)(ho:off+xs.length≤row.length)
   (hK:∀s' id,a_0 d=some id→At P s' el d (rs.set j (patch row off xs))→(∀i,i≠id→s' i=σ i)→s' id≠ .free→K s') :a_j xs σ d n off K:=by
 subst hn
 have hrows:=h.rows
 have hj:=(List.getElem?_eq_some_iff.1 hr).1
 cases d <;> simp only[Go.Fw.Rows] at hrows <;> try exact hrows.elim
 · subst hrows;simp at hr
 · subst hrows;simp at hr
 · exact absurd trivial hd
 · obtain ⟨t,rows,h1,h2,h3,rfl⟩:=hrows
   rename_i id i0 len
   have hjl:n < len:=by simp at hj;omega
   have hrow:rows[i0+n]? =some row:=by
     rw[List.getElem?_take,if_pos hjl,List.getElem?_drop] at hr;exact hr
   refine ⟨id,i0,len,t,rows,row,rfl,hjl,h1,hrow,ho,hK _ id rfl ⟨⟨t,_,Store.set_same _ _ _,h2,by simp;omega,?_⟩,?_,fun es rows e=>by cases e⟩ (fun i hi=>Store.set_ne _ _ hi) (by rw[Store.set_same];intro e;cases e)⟩
   · rw[List.drop_set,if_neg (by omega),List.take_set]
     congr 1;omega
   · have:=h.size;simpa using this
def Cf.lineSec (c:Cf)(line:Int) :Int:=if line < 1 then -1 else e_q (fun s:Sec=>s.Line == line) c.Secs 0
theorem a_e5 {α:Type}(p:α→Bool) :∀(l:List α) (j:Nat),e_q p l j= -1∨((j:Int)≤e_q p l j∧e_q p l j < j+l.length)
 | [],j=> .inl rfl
 | x::r,j=>by
   rw[e_q]
   split
   · right;simp;omega
   · rcases a_e5 p r (j+1) with h | h
     · exact .inl h
     · right;simp only[List.length_cons];omega
theorem u_o (c:Cf)(line:Int) :c.lineSec line= -1∨(0≤c.lineSec line∧c.lineSec line < c.Secs.length):=by
 unfold Cf.lineSec
 split
 · exact .inl rfl
 · rcases a_e5 (fun s:Sec=>s.Line == line) c.Secs 0 with h | h
   · exact .inl h
   · right;omega
structure Lk where
 Value:Int
 Stamp:Int
 Valid:Bool
def Lk.enc (l:Lk) :List D:= [iD l.Value,iD l.Stamp, .bool l.Valid]
end
end Go.Fw
namespace Go.Proofs.YtdmfnhbmhkgemaaGreat
open Go.Fw Go.Proofs Go.RowKit
section
variable {σ:Store}
section
variable {c0 c1 c2 c3 c4:D} {c:Cf}
theorem n_i (h:CfAt σ c0 c1 c2 c3 c4 c)(line:Int) :Pure Tryz.prog g_v [cfA c0 c1 c2 c3 c4 c,iA line] σ (.a (iA (c.lineSec line))):=by
 refine .of (a_cj _ _ _ _ _ _ _ _ _ line σ _ (a_e fun id σ1 hid _ he hs=>?_)) (a_vd _)
 refine ⟨_,a_d hs,line,rfl,bcd (fun h1=>⟨by rw[Cf.lineSec,if_pos h1],he⟩) (fun h1=>?_)⟩
 refine (i_1 (p:=fun x=>x.Line == line) (h.secs.ext he) (a_el hs fun x _=>?_)).use ⟨_,rfl,by rw[Cf.lineSec,if_neg h1],he⟩
 exact y_u x.Kind x.OC x.Line _ σ1 _ ⟨_,_,_,rfl,_,a_d hs,line,rfl,rfl,rfl⟩
end
structure CoFit (k0 k1 k2 k3 k4 k5:D) (k:Co) :Prop where
 n0:k0≠ .zsl
 n1:k1≠ .zsl
 n2:k2≠ .zsl
 n3:k3≠ .zsl
 n4:k4≠ .zsl
 n5:k5≠ .zsl
 b0:8 * k.Own.length≤140737488355328
 b1:32 * k.Routes.length≤140737488355328
 b2:16 * k.Points.length≤140737488355328
 b3:16 * k.Xs.length≤140737488355328
 b4:64 * k.Lines.length≤140737488355328
 b5:8 * k.Resets.length≤140737488355328
theorem a_g {σ0 s s':Store}{el:TypeId}{d:D}{rs:List (List D)}{id:Nat}(h:Own Tryz.prog σ0 s el d rs)(hid:σ0 id= .free)(hd:a_0 d≠some id)(hs:∀i,i≠id→s' i=s i) :Own Tryz.prog σ0 s' el d rs:=
 ⟨h.at_.same fun i a n e=>hs i fun e2=>hd (by subst e;rw[←e2];rfl),fun i hi=>by
   have hne:i≠id:=fun e=>hi (by rw[e];exact hid)
   rw[hs i hne];exact h.ext i hi,h.new,h.nsl,h.nz⟩
abbrev a_ku (k0 k1 k2 k3 k4 k5:D)(dirty:Bool)(c0 c1 c2 c3 c4:D)(c:Cf)(v0 v1 v2 v3:D)(now:Int)(was:Bool) :List D:=
 [k0,k1,k2,k3,k4,k5, .bool dirty,c0,c1,c2,c3,c4,iD c.Age,iD c.Brake,iD c.Hold,iD c.Budget,v0,v1,v2,v3,iD now, .bool was]
structure DeskAt (σ0 σ:Store) (id:Nat) (k0 k1 k2 k3 k4 k5:D) (k:Co) (c0 c1 c2 c3 c4:D) (c:Cf) (v0 v1 v2 v3:D) (now:Int) (was:Bool) :Prop where
 new:σ0 id= .free
 row:σ id= .live j_u [a_ku k0 k1 k2 k3 k4 k5 k.Dirty c0 c1 c2 c3 c4 c v0 v1 v2 v3 now was]
 co:CoOwn σ0 σ k0 k1 k2 k3 k4 k5 k
 ids:∀d ∈ [k0,k1,k2,k3,k4,k5],a_0 d≠some id
 ext:Ext σ0 σ
theorem m_a {c0 c1 c2 c3 c4:D}{c:Cf}{k0 k1 k2 k3 k4 k5:D}{k:Co}(h:CoAt σ k0 k1 k2 k3 k4 k5 k)(hf:CoFit k0 k1 k2 k3 k4 k5 k)(v0 v1 v2 v3:D)(now:Int) :
   DCalls Tryz.prog b_o [cfA c0 c1 c2 c3 c4 c,coA k0 k1 k2 k3 k4 k5 k.Dirty, .agg [v0,v1,v2,v3],iA now] σ fun r s=>
     ∃id d0 d1 d2 d3 d4 d5,r= .a (.one (.el (.osl id 0 1) 0 0))∧DeskAt σ s id d0 d1 d2 d3 d4 d5 k c0 c1 c2 c3 c4 c v0 v1 v2 v3 now k.Dirty:=by
 refine a_mv _ _ _ _ _ _ _ _ _ k0 k1 k2 k3 k4 k5 k.Dirty v0 v1 v2 v3 now σ _ (a_e fun id s1 hid _ he1 hs1=>?_)
 have nid:∀{s0 s:Store} {el:TypeId} {d:D} {rs:List (List D)},Own Tryz.prog s0 s el d rs→s0 id≠ .free→a_0 d≠some id:=by
   intro s0 s el d rs ho hne he
   cases d with
   | osl i a n=>
     have:i=id:=by simpa[a_0] using he
     subst this
     exact hne (ho.new _ _ _ rfl)
   | _=>simp[a_0] at he
 have h1:s1 id≠ .free:=by rw[hs1];intro e;cases e
 have kp:∀{s s':Store},Ext s s'→s id≠ .free→s' id≠ .free:=fun he hn=>by rw[he id hn];exact hn
 refine (d_1 (h.own.ext he1) hf.n0 (by rw[List.length_map];exact hf.b0)).mono ?_
 rintro r s2 ⟨d0,rfl,o0⟩
 have h2:=kp o0.ext h1
 have e2:=he1.trans o0.ext
 refine ⟨d0,rfl,(h_a (h.lines.ext e2) hf.n4 (by rw[List.length_map];exact hf.b4)).mono ?_⟩
 rintro r s3 ⟨d4,rfl,o4⟩
 have h3:=kp o4.ext h2
 have e3:=e2.trans o4.ext
 have i0:=nid o0 h1
 have i4:=nid o4 h2
 have r3:s3 id= .live j_u [a_ku k0 k1 k2 k3 k4 k5 k.Dirty c0 c1 c2 c3 c4 c v0 v1 v2 v3 now k.Dirty]:=by
   rw[o4.ext id h2,o0.ext id h1,hs1]
 refine ⟨d4,rfl,b_c r3 (by simp) fun s4 r4 f4=>b_c r4 (by simp[patch]) fun s5 r5 f5=>?_⟩
 have f45:∀i,i≠id→s5 i=s3 i:=fun i hi=>(f5 i hi).trans (f4 i hi)
 have o0':=a_g ((o0.ext' o4.ext).from he1) hid i0 f45
 have o4':=a_g (o4.from e2) hid i4 f45
 have a40:Apart d0 d4:=o4.apart o0.at_
 have h5:s5 id≠ .free:=by rw[r5];intro e;cases e
 have e5:Ext σ s5:=o0'.ext
 refine (g_c (h.routes.ext e5) hf.n1 (by rw[List.length_map];exact hf.b1)).mono ?_
 rintro r s6 ⟨d1,rfl,o1⟩
 have h6:=kp o1.ext h5
 have e6:=e5.trans o1.ext
 refine ⟨d1,rfl,(e_n (h.points.ext e6) hf.n2 (by rw[List.length_map];exact hf.b2)).mono ?_⟩
 rintro r s7 ⟨d2,rfl,o2⟩
 have h7:=kp o2.ext h6
 have e7:=e6.trans o2.ext
 refine ⟨d2,rfl,(e_n (h.xs.ext e7) hf.n3 (by rw[List.length_map];exact hf.b3)).mono ?_⟩
 rintro r s8 ⟨d3,rfl,o3⟩
 have h8:=kp o3.ext h7
 have e8:=e7.trans o3.ext
 refine ⟨d3,rfl,(d_1 (h.resets.ext e8) hf.n5 (by rw[List.length_map];exact hf.b5)).mono ?_⟩
 rintro r s9 ⟨d5,rfl,o5⟩
 have r9:s9 id= .live j_u [patch (patch (a_ku k0 k1 k2 k3 k4 k5 k.Dirty c0 c1 c2 c3 c4 c v0 v1 v2 v3 now k.Dirty) 0 [d0]) 4 [d4]]:=by
   rw[o5.ext id h8,o3.ext id h7,o2.ext id h6,o1.ext id h5,r5]
 refine ⟨d5,rfl,b_c r9 (by simp[patch]) fun t1 q1 g1=>b_c q1 (by simp[patch]) fun t2 q2 g2=>b_c q2 (by simp[patch]) fun t3 q3 g3=>b_c q3 (by simp[patch]) fun t4 q4 g4=>?_⟩
 have g:∀i,i≠id→t4 i=s9 i:=fun i hi=>(g4 i hi).trans ((g3 i hi).trans ((g2 i hi).trans (g1 i hi)))
 have p0:=a_g ((((o0'.ext' o1.ext).ext' o2.ext).ext' o3.ext).ext' o5.ext) hid i0 g
 have p4:=a_g ((((o4'.ext' o1.ext).ext' o2.ext).ext' o3.ext).ext' o5.ext) hid i4 g
 have i1:=nid o1 h5
 have i2:=nid o2 h6
 have i3:=nid o3 h7
 have i5:=nid o5 h8
 have p1:=a_g ((((o1.from e5).ext' o2.ext).ext' o3.ext).ext' o5.ext) hid i1 g
 have p2:=a_g (((o2.from e6).ext' o3.ext).ext' o5.ext) hid i2 g
 have p3:=a_g ((o3.from e7).ext' o5.ext) hid i3 g
 have p5:=a_g (o5.from e8) hid i5 g
 refine ⟨id,d0,d1,d2,d3,d4,d5,rfl,hid,q4,⟨p0,p1,p2,p3,p4,p5,?_⟩,?_,p0.ext⟩
 · have w6:=o0'.at_.ext o1.ext
   have w7:=w6.ext o2.ext
   have w8:=w7.ext o3.ext
   have u6:=o4'.at_.ext o1.ext
   have u7:=u6.ext o2.ext
   have u8:=u7.ext o3.ext
   have x7:=o1.at_.ext o2.ext
   have x8:=x7.ext o3.ext
   have y8:=o2.at_.ext o3.ext
   simp only[List.pairwise_cons,List.mem_cons,List.not_mem_nil,or_false,forall_eq_or_imp,forall_eq,List.Pairwise.nil,and_true,false_imp_iff,implies_true]
   exact ⟨⟨o1.apart o0'.at_,o2.apart w6,o3.apart w7,a40,o5.apart w8⟩,⟨o2.apart o1.at_,o3.apart x7,(o1.apart o4'.at_).symm,o5.apart x8⟩,⟨o3.apart o2.at_,(o2.apart u6).symm,o5.apart y8⟩,⟨(o3.apart u7).symm,o5.apart o3.at_⟩,o5.apart u8⟩
 · intro d hd
   simp only[List.mem_cons,List.not_mem_nil,or_false] at hd
   rcases hd with rfl | rfl | rfl | rfl | rfl | rfl <;> assumption
end
end Go.Proofs.YtdmfnhbmhkgemaaGreat
namespace Go.Fw
section
def zLs:Ls:=⟨0,0,0,0,0,0,0,0⟩
def c_5 (occ:List Lk)(now:Int)(k:Co)(l s:Nat) :Co:=
 let x:=(k.Lines[l]?).getD zLs
 let look:=(occ[s]?).getD ⟨0,0,false⟩
 if x.PDone < x.Grant then { k with Lines:=k.Lines.set l { x with Since:=0 } }
 else if x.Since=0 then { k with Lines:=k.Lines.set l { x with Since:=w64 (now+1) } }
 else if look.Valid=true∧look.Value=0∧x.Since≤look.Stamp then { k with Own:=k.Own.set s 0,Dirty:=true,Lines:=k.Lines.set l { x with Since:=0 } }
 else k
def u_u (c:Cf)(s:Int) :List Rs→Nat→Bool
 | [],_=>false
 | r::l,j=>(decide (r.State≠0) && decide (c.Approach j=s)) || u_u c s l (j+1)
def u_p (c:Cf)(k:Co)(x:Ls)(s:Int) :Bool:=
 !(u_u c s k.Routes 0) && (decide (x.PAsk > (if x.PDone > x.Grant then x.PDone else x.Grant)) && decide (x.Ask=x.Done))
def lineStep (c:Cf)(occ:List Lk)(now:Int)(was:Bool)(k:Co)(l s:Nat) :Co:=
 let x:=(k.Lines[l]?).getD zLs
 let o:=(k.Own[s]?).getD 0
 let k':=if o= -2 then c_5 occ now k l s
   else if o=0∧u_p c k x s=true then { k with Own:=k.Own.set s (-2),Dirty:=true,Lines:=k.Lines.set l { x with Grant:=x.PAsk,Since:=0 } }
   else k
 if was=true then k' else { k' with Lines:=k'.Lines.set l { (k'.Lines[l]?).getD zLs with Told:=x.Grant } }
theorem map_set {α β:Type}(f:α→β)(l:List α)(i:Nat)(x:α) :(l.map f).set i (f x) =(l.set i x).map f:=by simp
end
end Go.Fw
