/-
  Proofs that the statement of this claim leans on: part 4.
-/
import Derived.Test.YtdmfnhbmhkgemaaGreatP3
set_option linter.unusedVariables false
set_option linter.unusedSimpArgs false
section
set_option maxRecDepth 100000
namespace Go.Proofs.YtdmfnhbmhkgemaaGreat
open Go.Fw Go.Proofs
open Go.Proofs.Tryz (prog)
def a_fe:Ann:= { frz:= [5,7,9,11,13,36] }
def a_jk (σ:Store)(Qp:RV→Store→Prop) :Prop:=
 DCalls prog h_i [.agg [.sl 3 [[iD 0,iD 0,iD 0],[iD 0,iD 0,iD 0]], .sl 4 [[iD 0,iD 1,iD 1,iD 0]], .sl 2 [[iD 0,iD 1]], .nils, .sl 6 [[iD 0,iD (-1), .sl 3 [[iD 1,iD 0,iD 1]], .nils, .nils, .bool false]],iD 2,iD 1,iD 4,iD 1000],iA 0] σ (fun r Z=>∃d d1 d2 d3 d4 d5:D,∃b:Bool,(r=(.a (.agg [d,d1,d2,d3,d4,d5, .bool b]) :RV))∧∃len:Nat,(Len d len)∧a_b ((len:Int) != 2) (Qp (.a (bA false)) Z) (DCalls prog f_b [.agg [.sl 3 [[iD 0,iD 0,iD 0],[iD 0,iD 0,iD 0]], .sl 4 [[iD 0,iD 1,iD 1,iD 0]], .sl 2 [[iD 0,iD 1]], .nils, .sl 6 [[iD 0,iD (-1), .sl 3 [[iD 1,iD 0,iD 1]], .nils, .nils, .bool false]],iD 2,iD 1,iD 4,iD 1000], .agg [d,d1,d2,d3,d4,d5, .bool b]] Z (fun r1 Z1=>∃d6:D,(r1=(.a (.one d6) :RV))∧∃len1:Nat,(Len d6 len1)∧a_b ((len1:Int) != 0) (Qp (.a (bA false)) Z1) (∃len2:Nat,(Idx prog Z1 d 1 len2)∧((0:Int)≤1)∧((1:Int) < (len2:Int))∧a_j [iD 1] Z1 d 1 0 (fun Z2=>DCalls prog f_b [.agg [.sl 3 [[iD 0,iD 0,iD 0],[iD 0,iD 0,iD 0]], .sl 4 [[iD 0,iD 1,iD 1,iD 0]], .sl 2 [[iD 0,iD 1]], .nils, .sl 6 [[iD 0,iD (-1), .sl 3 [[iD 1,iD 0,iD 1]], .nils, .nils, .bool false]],iD 2,iD 1,iD 4,iD 1000], .agg [d,d1,d2,d3,d4,d5, .bool b]] Z2 (fun r2 Z3=>∃d7:D,(r2=(.a (.one d7) :RV))∧DCalls prog o_t [.one d7, .one (.sl 3 [[iD 3,iD 0,iD 1]])] Z3 (fun r3 Z4=>∃b1:Bool,(r3=(.a (bA b1) :RV))∧Qp (.a (bA b1)) Z4)))))))
theorem a_h5 (σ:Store)(Qp:RV→Store→Prop)(h:a_jk σ Qp) :DCalls prog m_j [] σ Qp:=
 a_a mixed (by kernel_rfl) Tryz.func5 a_fe (Eq.mp (by kernel_rfl) h)
def a_hp:Ann:= { cbs:= [2,3],loops:= [(5,{ mods:= [(5,SlotSh.one (Sh.any)),(23,s6)],keep:= [2,3,22] }),(10,{ mods:= [(5,SlotSh.one (Sh.any)),(36,s6)],keep:= [2,3,34,35] }),(16,{ mods:= [(5,SlotSh.one (Sh.any)),(64,s6)],keep:= [2,3,63] }),(21,{ mods:= [(5,SlotSh.one (Sh.any)),(77,s6)],keep:= [2,3,76] }),(26,{ mods:= [(5,SlotSh.one (Sh.any)),(11,s6)],keep:= [2,3] })],joins:= [(31,{ mods:= [(129,SlotSh.one (Sh.bool))],keep:= [2,3,5,11,12] })] }
def a_i8 (c0 c1 c2 c3 c4:D)(c5 c6 c7 c8:Int)(k0 k1 k2 k3 k4 k5:D)(k6:Bool)(σ:Store)(Qp:RV→Store→Prop) :Prop:=
 DCalls prog o_i [.agg [c0,c1,c2,c3,c4,iD c5,iD c6,iD c7,iD c8], .agg [k0,k1,k2,k3,k4,k5, .bool k6]] σ (fun r Z=>∃b:Bool,(r=(.a (bA b) :RV))∧a_b (!b) (Fw.newObj Z (.live a_q [[iD 1,iD (-1),iD (-1)]]) (fun id Z1=>Qp (.a (.one (.osl id 0 1))) Z1)) (∃len:Nat,(Len c4 len)∧∃I:D→Int→Store→Prop,∃μ:D→Int→Store→Nat,(I .nils 0 Z)∧∀d:D,∀n:Int,∀Z1,(I d n Z1)→a_b (decide (n < (len:Int))) (DCalls prog p_n [.agg [c0,c1,c2,c3,c4,iD c5,iD c6,iD c7,iD c8], .agg [k0,k1,k2,k3,k4,k5, .bool k6],iA n] Z1 (fun r1 Z2=>∃d1:D,(r1=(.a (.one d1) :RV))∧a_v prog Z2 a_q 24 d d1 (fun d2 Z3=>(I d2 (w64 (n+1)) Z3)∧((μ d2 (w64 (n+1)) Z3) < (μ d n Z1))))) (∃len1:Nat,(Len k0 len1)∧∃I1:D→Int→Store→Prop,∃μ1:D→Int→Store→Nat,(I1 d 0 Z1)∧∀d1:D,∀n1:Int,∀Z2,(I1 d1 n1 Z2)→a_b (decide (n1 < (len1:Int))) (∃len2:Nat,(Idx prog Z2 k0 1 len2)∧((0:Int)≤n1)∧(n1 < (len2:Int))∧∃row:List D,(Row Z2 k0 (Int.toNat n1) row)∧∃n2:Int,((List.take 1 row) =([iD n2]:List D))∧a_b (decide (n2 > 0)) (∃len3:Nat,(Idx prog Z2 k1 4 len3)∧((0:Int)≤(w64 (n2 - 1)))∧((w64 (n2 - 1)) < (len3:Int))∧∃row1:List D,(Row Z2 k1 (Int.toNat (w64 (n2 - 1))) row1)∧∃n3:Int,((List.take 1 row1) =([iD n3]:List D))∧a_b (n3 == 0) (Fw.newObj Z2 (.live a_q [[iD 3,iD (w64 (n2 - 1)),iD n1]]) (fun id Z3=>a_v prog Z3 a_q 24 d1 (.osl id 0 1) (fun d2 Z4=>(I1 d2 (w64 (n1+1)) Z4)∧((μ1 d2 (w64 (n1+1)) Z4) < (μ1 d1 n1 Z2))))) ((I1 d1 (w64 (n1+1)) Z2)∧((μ1 d1 (w64 (n1+1)) Z2) < (μ1 d1 n1 Z2)))) ((I1 d1 (w64 (n1+1)) Z2)∧((μ1 d1 (w64 (n1+1)) Z2) < (μ1 d1 n1 Z2)))) (∃len2:Nat,(Len c4 len2)∧∃I2:D→Int→Store→Prop,∃μ2:D→Int→Store→Nat,(I2 d1 0 Z2)∧∀d2:D,∀n2:Int,∀Z3,(I2 d2 n2 Z3)→a_b (decide (n2 < (len2:Int))) (DCalls prog k_0 [.agg [c0,c1,c2,c3,c4,iD c5,iD c6,iD c7,iD c8], .agg [k0,k1,k2,k3,k4,k5, .bool k6],iA n2] Z3 (fun r1 Z4=>∃d3:D,(r1=(.a (.one d3) :RV))∧a_v prog Z4 a_q 24 d2 d3 (fun d4 Z5=>(I2 d4 (w64 (n2+1)) Z5)∧((μ2 d4 (w64 (n2+1)) Z5) < (μ2 d2 n2 Z3))))) (∃len3:Nat,(Len c4 len3)∧∃I3:D→Int→Store→Prop,∃μ3:D→Int→Store→Nat,(I3 d2 0 Z3)∧∀d3:D,∀n3:Int,∀Z4,(I3 d3 n3 Z4)→a_b (decide (n3 < (len3:Int))) (DCalls prog m_h [.agg [c0,c1,c2,c3,c4,iD c5,iD c6,iD c7,iD c8], .agg [k0,k1,k2,k3,k4,k5, .bool k6],iA n3] Z4 (fun r1 Z5=>∃d4:D,(r1=(.a (.one d4) :RV))∧a_v prog Z5 a_q 24 d3 d4 (fun d5 Z6=>(I3 d5 (w64 (n3+1)) Z6)∧((μ3 d5 (w64 (n3+1)) Z6) < (μ3 d3 n3 Z4))))) (∃I4:D→Int→Store→Prop,∃μ4:D→Int→Store→Nat,(I4 d3 1 Z4)∧∀d4:D,∀n4:Int,∀Z5,(I4 d4 n4 Z5)→a_b (decide (n4≤3)) (DCalls prog j_p [.agg [c0,c1,c2,c3,c4,iD c5,iD c6,iD c7,iD c8],iA n4] Z5 (fun r1 Z6=>∃n5:Int,(r1=(.a (iA n5) :RV))∧∃len4:Nat,(Idx prog Z6 k4 8 len4)∧((0:Int)≤n4)∧(n4 < (len4:Int))∧∃row:List D,(Row Z6 k4 (Int.toNat n4) row)∧∃n6 n7 n8 n9 n10 n11 n12 n13:Int,((List.take 8 row) =([iD n6,iD n7,iD n8,iD n9,iD n10,iD n11,iD n12,iD n13]:List D))∧∀R:Bool→Store→Prop,(∀b1:Bool,∀Z7,(a_b b1 (Fw.newObj Z7 (.live a_q [[iD 6,iD (-1),iD n5]]) (fun id Z8=>a_v prog Z8 a_q 24 d4 (.osl id 0 1) (fun d5 Z9=>(I4 d5 (w64 (n4+1)) Z9)∧((μ4 d5 (w64 (n4+1)) Z9) < (μ4 d4 n4 Z5))))) ((I4 d4 (w64 (n4+1)) Z7)∧((μ4 d4 (w64 (n4+1)) Z7) < (μ4 d4 n4 Z5))))→R b1 Z7)→a_b (decide (n5≥0)) (a_b (decide (n7 > n6)) (R true Z6) (a_b (decide (n9 > n8)) (R true Z6) (∃len5:Nat,(Idx prog Z6 k0 1 len5)∧((0:Int)≤n5)∧(n5 < (len5:Int))∧∃row1:List D,(Row Z6 k0 (Int.toNat n5) row1)∧∃n14:Int,((List.take 1 row1) =([iD n14]:List D))∧a_b (n14 ==(-2)) (R (n6 != n7) Z6) (R false Z6)))) (R false Z6))) (Qp (.a (.one d4)) Z5)))))))
theorem a_jx (c0 c1 c2 c3 c4:D)(c5 c6 c7 c8:Int)(k0 k1 k2 k3 k4 k5:D)(k6:Bool)(σ:Store)(Qp:RV→Store→Prop)(h:a_i8 c0 c1 c2 c3 c4 c5 c6 c7 c8 k0 k1 k2 k3 k4 k5 k6 σ Qp) :DCalls prog n_a [.agg [c0,c1,c2,c3,c4,iD c5,iD c6,iD c7,iD c8], .agg [k0,k1,k2,k3,k4,k5, .bool k6]] σ Qp:=
 a_a mixed (by kernel_rfl) Tryz.func9 a_hp (Eq.mp (by kernel_rfl) h)
def a_ju:Ann:= { draws:= [(6,{ ord:= [0,1,2,3,4,5,6,7,8] })],loops:= [(4,{ mods:= [(13,s6)],keep:= [0,1,12] })] }
def a_mp (a b:D)(σ:Store)(Qp:RV→Store→Prop) :Prop:=
 ∃len:Nat,(Len a len)∧∃len1:Nat,(Len b len1)∧a_b ((len:Int) !=(len1:Int)) (Qp (.a (bA false)) σ) (∃len2:Nat,(Len a len2)∧∃I:Int→Store→Prop,∃μ:Int→Store→Nat,(I 0 σ)∧∀n:Int,∀Z,(I n Z)→a_b (decide (n < (len2:Int))) (∃len3:Nat,(Idx prog Z a 3 len3)∧((0:Int)≤n)∧(n < (len3:Int))∧∃row:List D,(Row Z a (Int.toNat n) row)∧∃n1 n2 n3:Int,((List.take 3 row) =([iD n1,iD n2,iD n3]:List D))∧∃len4:Nat,(Idx prog Z b 3 len4)∧((0:Int)≤n)∧(n < (len4:Int))∧∃row1:List D,(Row Z b (Int.toNat n) row1)∧∃n4 n5 n6:Int,((List.take 3 row1) =([iD n4,iD n5,iD n6]:List D))∧a_b (!((n1 == n4) && ((n2 == n5) && (n3 == n6)))) (Qp (.a (bA false)) Z) ((I (w64 (n+1)) Z)∧((μ (w64 (n+1)) Z) < (μ n Z)))) (Qp (.a (bA true)) Z))
theorem a_k5 (a b:D)(σ:Store)(Qp:RV→Store→Prop)(h:a_mp a b σ Qp) :DCalls prog o_t [.one a, .one b] σ Qp:=
 a_a mixed (by kernel_rfl) Tryz.func13 a_ju (Eq.mp (by kernel_rfl) h)
def a_ih:Ann:= { cbs:= [2,3],draws:= [(4,{ ord:= [0,1,2,3,4,5] }),(12,{ ord:= [0,1,3,4,5,6,2,7,8,9,10,11,12],nb:= [4,6] }),(19,{ ord:= [0,1,2,3,4,5] })],loops:= [(7,{ mods:= [(6,s6),(7,s6),(8,SlotSh.one (Sh.any)),(72,s6)],keep:= [2,3,70,71] })],joins:= [(3,{ keep:= [2,3] }),(20,{ mods:= [(6,s6),(7,s6),(8,SlotSh.one (Sh.any))],keep:= [2,3,70,71,72] }),(12,{ keep:= [2,3,8,9,10,11,70,71,72] }),(16,{ mods:= [(16,s6)],keep:= [2,3,8,10,11,15,70,71,72] }),(18,{ keep:= [2,3,8,10,11,70,71,72] })] }
def a_ly (c0 c1 c2 c3 c4:D)(c5 c6 c7 c8 r0 r1:Int)(r2 r3 r4:D)(r5:Bool)(σ:Store)(Qp:RV→Store→Prop) :Prop:=
 ∀R:Store→Prop,(∀Z,(∃len:Nat,(Idx prog Z c2 2 len)∧((0:Int)≤r0)∧(r0 < (len:Int))∧∃row:List D,(Row Z c2 (Int.toNat r0) row)∧∃n n1:Int,((List.take 2 row) =([iD n,iD n1]:List D))∧Fw.newObj Z (.live a_i [[iD n]]) (fun id Z1=>∃len1:Nat,(Len r2 len1)∧∃I:Int→Int→D→Int→Store→Prop,∃μ:Int→Int→D→Int→Store→Nat,(I n n1 (.osl id 0 1) 0 Z1)∧∀n2 n3:Int,∀d:D,∀n4:Int,∀Z2,(I n2 n3 d n4 Z2)→a_b (decide (n4 < (len1:Int))) (∀R1:Int→Int→D→Store→Prop,(∀n5 n6:Int,∀d1:D,∀Z3,((I n5 n6 d1 (w64 (n4+1)) Z3)∧((μ n5 n6 d1 (w64 (n4+1)) Z3) < (μ n2 n3 d n4 Z2)))→R1 n5 n6 d1 Z3)→∃len2:Nat,(Idx prog Z2 r2 3 len2)∧((0:Int)≤n4)∧(n4 < (len2:Int))∧∃row1:List D,(Row Z2 r2 (Int.toNat n4) row1)∧∃n5 n6 n7:Int,((List.take 3 row1) =([iD n5,iD n6,iD n7]:List D))∧DCalls prog e_2 [.one c1,iA n2,iA n3] Z2 (fun r Z3=>∃n8 n9:Int,∃b:Bool,(r=(.tup [iA n8,iA n9,bA b]:RV))∧∀R2:Store→Prop,(∀Z4,(DCalls prog f_9 [.agg [c0,c1,c2,c3,c4,iD c5,iD c6,iD c7,iD c8],iA n8] Z4 (fun r6 Z5=>∃n10:Int,(r6=(.a (iA n10) :RV))∧DCalls prog l_v [iA n10,iA n6,iA n7] Z5 (fun r7 Z6=>∃n11:Int,∃b1:Bool,(r7=(.tup [iA n11,bA b1]:RV))∧∀R3:Int→Store→Prop,(∀n12:Int,∀Z7,(∀R4:Store→Prop,(∀Z8,(Fw.newObj Z8 (.live a_i [[iD n8]]) (fun id1 Z9=>a_v prog Z9 a_i 8 d (.osl id1 0 1) (fun d1 Z10=>R1 n5 n7 d1 Z10)))→R4 Z8)→a_b (!b1) (Qp (.a (bA false)) Z7) (DCalls prog p_k [.agg [c0,c1,c2,c3,c4,iD c5,iD c6,iD c7,iD c8],iA n5,iA n7,iA n12] Z7 (fun r8 Z8=>∃b2:Bool,(r8=(.a (bA b2) :RV))∧a_b b2 (Qp (.a (bA false)) Z8) (a_b r5 (∃len3:Nat,(Idx prog Z8 c0 3 len3)∧((0:Int)≤n8)∧(n8 < (len3:Int))∧∃row2:List D,(Row Z8 c0 (Int.toNat n8) row2)∧∃n13:Int,((List.take 1 (List.drop 2 row2)) =([iD n13]:List D))∧a_b (n13 != 0) (Qp (.a (bA false)) Z8) ((([[iD n5,iD n6,iD n7]]:List (List D)) =([[iD n5,iD n6,iD n7]]:List (List D)))∧R4 Z8)) ((([[iD n5,iD n6,iD n7]]:List (List D)) =([[iD n5,iD n6,iD n7]]:List (List D)))∧R4 Z8)))))→R3 n12 Z7)→∃len3:Nat,(Len r2 len3)∧a_b (n4 ==(w64 ((len3:Int) - 1))) ((([[iD n5,iD n6,iD n7]]:List (List D)) =([[iD n5,iD n6,iD n7]]:List (List D)))∧R3 r1 Z6) ((([[iD n5,iD n6,iD n7]]:List (List D)) =([[iD n5,iD n6,iD n7]]:List (List D)))∧R3 (-1) Z6))))→R2 Z4)→a_b (!b) (Qp (.a (bA false)) Z3) (a_b (n8 != n5) (Qp (.a (bA false)) Z3) (a_b (n9 != n6) (Qp (.a (bA false)) Z3) (DCalls prog d_w [.one d,iA n8] Z3 (fun r6 Z4=>∃b1:Bool,(r6=(.a (bA b1) :RV))∧a_b b1 (Qp (.a (bA false)) Z4) ((([[iD n5,iD n6,iD n7]]:List (List D)) =([[iD n5,iD n6,iD n7]]:List (List D)))∧R2 Z4))))))) (a_b (decide (r1≥0)) (∃len2:Nat,(Idx prog Z2 c2 2 len2)∧((0:Int)≤r1)∧(r1 < (len2:Int))∧∃row1:List D,(Row Z2 c2 (Int.toNat r1) row1)∧∃n5 n6:Int,((List.take 2 row1) =([iD n5,iD n6]:List D))∧Qp (.a (.one (.bool ((n5 == n2) && (n6 == n3))))) Z2) (DCalls prog e_2 [.one c1,iA n2,iA n3] Z2 (fun r Z3=>∃n5 n6:Int,∃b:Bool,(r=(.tup [iA n5,iA n6,bA b]:RV))∧Qp (.a (bA (!b))) Z3)))))→R Z)→a_b (decide (r0 < 0)) (Qp (.a (bA false)) σ) (∃len:Nat,(Len c2 len)∧a_b (decide (r0≥(len:Int))) (Qp (.a (bA false)) σ) (a_b (decide (r1 < (-1))) (Qp (.a (bA false)) σ) (∃len1:Nat,(Len c2 len1)∧a_b (decide (r1≥(len1:Int))) (Qp (.a (bA false)) σ) (∃len2:Nat,(Len r2 len2)∧a_b (decide ((len2:Int) < 1)) (Qp (.a (bA false)) σ) (∃len3:Nat,(Len r2 len3)∧a_b (decide ((len3:Int) > 8)) (Qp (.a (bA false)) σ) (R σ))))))
theorem a_ls (c0 c1 c2 c3 c4:D)(c5 c6 c7 c8 r0 r1:Int)(r2 r3 r4:D)(r5:Bool)(σ:Store)(Qp:RV→Store→Prop)(h:a_ly c0 c1 c2 c3 c4 c5 c6 c7 c8 r0 r1 r2 r3 r4 r5 σ Qp) :DCalls prog o_o [.agg [c0,c1,c2,c3,c4,iD c5,iD c6,iD c7,iD c8], .agg [iD r0,iD r1,r2,r3,r4, .bool r5]] σ Qp:=
 a_a mixed (by kernel_rfl) Tryz.func17 a_ih (Eq.mp (by kernel_rfl) h)
def y_p:Ann:= { draws:= [(6,{ ord:= [0,1,2,3,4,5,6,7,8] })],loops:= [(4,{ mods:= [(13,s6)],keep:= [0,1,12] })] }
def a_ad (a b:D)(σ:Store)(Qp:RV→Store→Prop) :Prop:=
 ∃len:Nat,(Len a len)∧∃len1:Nat,(Len b len1)∧a_b ((len:Int) !=(len1:Int)) (Qp (.a (bA false)) σ) (∃len2:Nat,(Len a len2)∧∃I:Int→Store→Prop,∃μ:Int→Store→Nat,(I 0 σ)∧∀n:Int,∀Z,(I n Z)→a_b (decide (n < (len2:Int))) (∃len3:Nat,(Idx prog Z a 1 len3)∧((0:Int)≤n)∧(n < (len3:Int))∧∃row:List D,(Row Z a (Int.toNat n) row)∧∃n1:Int,((List.take 1 row) =([iD n1]:List D))∧∃len4:Nat,(Idx prog Z b 1 len4)∧((0:Int)≤n)∧(n < (len4:Int))∧∃row1:List D,(Row Z b (Int.toNat n) row1)∧∃n2:Int,((List.take 1 row1) =([iD n2]:List D))∧a_b (n1 != n2) (Qp (.a (bA false)) Z) ((I (w64 (n+1)) Z)∧((μ (w64 (n+1)) Z) < (μ n Z)))) (Qp (.a (bA true)) Z))
theorem a_bl (a b:D)(σ:Store)(Qp:RV→Store→Prop)(h:a_ad a b σ Qp) :DCalls prog i_q [.one a, .one b] σ Qp:=
 a_a mixed (by kernel_rfl) Tryz.func21 y_p (Eq.mp (by kernel_rfl) h)
def a_az:Ann:= { esc:= [6,7],cbs:= [4,5] }
def a_ec (c0 c1 c2 c3 c4:D)(c5 c6 c7 c8:Int)(k0 k1 k2 k3 k4 k5:D)(k6:Bool)(now r:Int)(σ:Store)(Qp:RV→Store→Prop) :Prop:=
 Fw.newObj σ (.live a_i [[iD now]]) (fun id Z=>Fw.newObj Z (.live a_i [[iD r]]) (fun id1 Z1=>∃row:List D,(Row Z1 (.osl id 0 1) 0 row)∧∃n:Int,((List.take 1 row) =([iD n]:List D))∧DCalls prog e_l [.agg [c0,c1,c2,c3,c4,iD c5,iD c6,iD c7,iD c8], .agg [k0,k1,k2,k3,k4,k5, .bool k6],iA n, .one (.fn m_c [] [(false,[.el (.osl id 0 1) 0 0]),(false,[.el (.osl id1 0 1) 0 0])])] Z1 (fun r1 Z2=>∃d d1 d2 d3 d4 d5:D,∃b:Bool,∃n1:Int,(r1=(.tup [.agg [d,d1,d2,d3,d4,d5, .bool b],iA n1]:RV))∧Qp (.tup [.agg [d,d1,d2,d3,d4,d5, .bool b],iA n1]) Z2)))
theorem a_dp (c0 c1 c2 c3 c4:D)(c5 c6 c7 c8:Int)(k0 k1 k2 k3 k4 k5:D)(k6:Bool)(now r:Int)(σ:Store)(Qp:RV→Store→Prop)(h:a_ec c0 c1 c2 c3 c4 c5 c6 c7 c8 k0 k1 k2 k3 k4 k5 k6 now r σ Qp) :DCalls prog j_n [.agg [c0,c1,c2,c3,c4,iD c5,iD c6,iD c7,iD c8], .agg [k0,k1,k2,k3,k4,k5, .bool k6],iA now,iA r] σ Qp:=
 a_a mixed (by kernel_rfl) Tryz.func25 a_az (Eq.mp (by kernel_rfl) h)
def a_f9:Ann:= { esc:= [7,6],cbs:= [4,5] }
def a_hv (c0 c1 c2 c3 c4:D)(c5 c6 c7 c8:Int)(k0 k1 k2 k3 k4 k5:D)(k6:Bool)(now section_:Int)(σ:Store)(Qp:RV→Store→Prop) :Prop:=
 Fw.newObj σ (.live a_i [[iD now]]) (fun id Z=>Fw.newObj Z (.live a_i [[iD section_]]) (fun id1 Z1=>∃row:List D,(Row Z1 (.osl id 0 1) 0 row)∧∃n:Int,((List.take 1 row) =([iD n]:List D))∧DCalls prog e_l [.agg [c0,c1,c2,c3,c4,iD c5,iD c6,iD c7,iD c8], .agg [k0,k1,k2,k3,k4,k5, .bool k6],iA n, .one (.fn p_v [] [(false,[.el (.osl id1 0 1) 0 0]),(false,[.el (.osl id 0 1) 0 0])])] Z1 (fun r Z2=>∃d d1 d2 d3 d4 d5:D,∃b:Bool,∃n1:Int,(r=(.tup [.agg [d,d1,d2,d3,d4,d5, .bool b],iA n1]:RV))∧Qp (.tup [.agg [d,d1,d2,d3,d4,d5, .bool b],iA n1]) Z2)))
theorem a_jo (c0 c1 c2 c3 c4:D)(c5 c6 c7 c8:Int)(k0 k1 k2 k3 k4 k5:D)(k6:Bool)(now section_:Int)(σ:Store)(Qp:RV→Store→Prop)(h:a_hv c0 c1 c2 c3 c4 c5 c6 c7 c8 k0 k1 k2 k3 k4 k5 k6 now section_ σ Qp) :DCalls prog n_b [.agg [c0,c1,c2,c3,c4,iD c5,iD c6,iD c7,iD c8], .agg [k0,k1,k2,k3,k4,k5, .bool k6],iA now,iA section_] σ Qp:=
 a_a mixed (by kernel_rfl) Tryz.func29 a_f9 (Eq.mp (by kernel_rfl) h)
def a_io:Ann:= { cbs:= [2,3],draws:= [(6,{ ord:= [0,1,2,3,4,5,6,7,8,9,10] }),(12,{ ord:= [0,1,2,3,4,5,6,7,8,9,10] }),(18,{ ord:= [0,1,2,3,4,5,6,7,8,9,10] }),(24,{ ord:= [0,1,2,3,4,5,6,7,8,9,10] })],loops:= [(4,{ mods:= [(69,s6)],keep:= [2,3,68] }),(10,{ mods:= [(87,s6)],keep:= [2,3,86] }),(16,{ mods:= [(105,s6)],keep:= [2,3,104] }),(22,{ mods:= [(123,s6)],keep:= [2,3,122] })],joins:= [(3,{ keep:= [2,3] })] }
def a_lu (a0 a1 a2 a3 a4 a5:D)(a6:Bool)(b0 b1 b2 b3 b4 b5:D)(b6:Bool)(σ:Store)(Qp:RV→Store→Prop) :Prop:=
 ∀R:Store→Prop,(∀Z,(∃len:Nat,(Len a1 len)∧∃I:Int→Store→Prop,∃μ:Int→Store→Nat,(I 0 Z)∧∀n:Int,∀Z1,(I n Z1)→a_b (decide (n < (len:Int))) (∃len1:Nat,(Idx prog Z1 a1 4 len1)∧((0:Int)≤n)∧(n < (len1:Int))∧∃row:List D,(Row Z1 a1 (Int.toNat n) row)∧∃n1 n2 n3 n4:Int,((List.take 4 row) =([iD n1,iD n2,iD n3,iD n4]:List D))∧∃len2:Nat,(Idx prog Z1 b1 4 len2)∧((0:Int)≤n)∧(n < (len2:Int))∧∃row1:List D,(Row Z1 b1 (Int.toNat n) row1)∧∃n5 n6 n7 n8:Int,((List.take 4 row1) =([iD n5,iD n6,iD n7,iD n8]:List D))∧a_b (!((n1 == n5) && ((n2 == n6) && ((n3 == n7) && (n4 == n8))))) (Qp (.a (bA false)) Z1) ((I (w64 (n+1)) Z1)∧((μ (w64 (n+1)) Z1) < (μ n Z1)))) (∃len1:Nat,(Len a2 len1)∧∃I1:Int→Store→Prop,∃μ1:Int→Store→Nat,(I1 0 Z1)∧∀n1:Int,∀Z2,(I1 n1 Z2)→a_b (decide (n1 < (len1:Int))) (∃len2:Nat,(Idx prog Z2 a2 2 len2)∧((0:Int)≤n1)∧(n1 < (len2:Int))∧∃row:List D,(Row Z2 a2 (Int.toNat n1) row)∧∃n2 n3:Int,((List.take 2 row) =([iD n2,iD n3]:List D))∧∃len3:Nat,(Idx prog Z2 b2 2 len3)∧((0:Int)≤n1)∧(n1 < (len3:Int))∧∃row1:List D,(Row Z2 b2 (Int.toNat n1) row1)∧∃n4 n5:Int,((List.take 2 row1) =([iD n4,iD n5]:List D))∧a_b (!((n2 == n4) && (n3 == n5))) (Qp (.a (bA false)) Z2) ((I1 (w64 (n1+1)) Z2)∧((μ1 (w64 (n1+1)) Z2) < (μ1 n1 Z2)))) (∃len2:Nat,(Len a3 len2)∧∃I2:Int→Store→Prop,∃μ2:Int→Store→Nat,(I2 0 Z2)∧∀n2:Int,∀Z3,(I2 n2 Z3)→a_b (decide (n2 < (len2:Int))) (∃len3:Nat,(Idx prog Z3 a3 2 len3)∧((0:Int)≤n2)∧(n2 < (len3:Int))∧∃row:List D,(Row Z3 a3 (Int.toNat n2) row)∧∃n3 n4:Int,((List.take 2 row) =([iD n3,iD n4]:List D))∧∃len4:Nat,(Idx prog Z3 b3 2 len4)∧((0:Int)≤n2)∧(n2 < (len4:Int))∧∃row1:List D,(Row Z3 b3 (Int.toNat n2) row1)∧∃n5 n6:Int,((List.take 2 row1) =([iD n5,iD n6]:List D))∧a_b (!((n3 == n5) && (n4 == n6))) (Qp (.a (bA false)) Z3) ((I2 (w64 (n2+1)) Z3)∧((μ2 (w64 (n2+1)) Z3) < (μ2 n2 Z3)))) (∃len3:Nat,(Len a4 len3)∧∃I3:Int→Store→Prop,∃μ3:Int→Store→Nat,(I3 0 Z3)∧∀n3:Int,∀Z4,(I3 n3 Z4)→a_b (decide (n3 < (len3:Int))) (∃len4:Nat,(Idx prog Z4 a4 8 len4)∧((0:Int)≤n3)∧(n3 < (len4:Int))∧∃row:List D,(Row Z4 a4 (Int.toNat n3) row)∧∃n4 n5 n6 n7 n8 n9 n10 n11:Int,((List.take 8 row) =([iD n4,iD n5,iD n6,iD n7,iD n8,iD n9,iD n10,iD n11]:List D))∧∃len5:Nat,(Idx prog Z4 b4 8 len5)∧((0:Int)≤n3)∧(n3 < (len5:Int))∧∃row1:List D,(Row Z4 b4 (Int.toNat n3) row1)∧∃n12 n13 n14 n15 n16 n17 n18 n19:Int,((List.take 8 row1) =([iD n12,iD n13,iD n14,iD n15,iD n16,iD n17,iD n18,iD n19]:List D))∧a_b (!((n4 == n12) && ((n5 == n13) && ((n6 == n14) && ((n7 == n15) && (((n8 == n16) && ((n9 == n17) && (n10 == n18))) && (n11 == n19))))))) (Qp (.a (bA false)) Z4) ((I3 (w64 (n3+1)) Z4)∧((μ3 (w64 (n3+1)) Z4) < (μ3 n3 Z4)))) (Qp (.a (bA true)) Z4)))))→R Z)→DCalls prog f_4 [.one a0, .one b0] σ (fun r Z=>∃b:Bool,(r=(.a (bA b) :RV))∧a_b (!b) (Qp (.a (bA false)) Z) (DCalls prog f_4 [.one a5, .one b5] Z (fun r1 Z1=>∃b7:Bool,(r1=(.a (bA b7) :RV))∧a_b (!b7) (Qp (.a (bA false)) Z1) (a_b (!(a6 == b6)) (Qp (.a (bA false)) Z1) (∃len:Nat,(Len a1 len)∧∃len1:Nat,(Len b1 len1)∧a_b ((len:Int) !=(len1:Int)) (Qp (.a (bA false)) Z1) (∃len2:Nat,(Len a2 len2)∧∃len3:Nat,(Len b2 len3)∧a_b ((len2:Int) !=(len3:Int)) (Qp (.a (bA false)) Z1) (∃len4:Nat,(Len a3 len4)∧∃len5:Nat,(Len b3 len5)∧a_b ((len4:Int) !=(len5:Int)) (Qp (.a (bA false)) Z1) (∃len6:Nat,(Len a4 len6)∧∃len7:Nat,(Len b4 len7)∧a_b ((len6:Int) !=(len7:Int)) (Qp (.a (bA false)) Z1) (R Z1)))))))))
theorem a_lc (a0 a1 a2 a3 a4 a5:D)(a6:Bool)(b0 b1 b2 b3 b4 b5:D)(b6:Bool)(σ:Store)(Qp:RV→Store→Prop)(h:a_lu a0 a1 a2 a3 a4 a5 a6 b0 b1 b2 b3 b4 b5 b6 σ Qp) :DCalls prog j_y [.agg [a0,a1,a2,a3,a4,a5, .bool a6], .agg [b0,b1,b2,b3,b4,b5, .bool b6]] σ Qp:=
 a_a mixed (by kernel_rfl) Tryz.func33 a_io (Eq.mp (by kernel_rfl) h)
def a_h9:Ann:= { }
def a_lz (n:Int)(σ:Store)(Qp:RV→Store→Prop) :Prop:=
 a_b (decide (n≥0)) (Qp (.a (.one (.bool (decide (n≤4294967295))))) σ) (Qp (.a (bA false)) σ)
theorem a_mz (n:Int)(σ:Store)(Qp:RV→Store→Prop)(h:a_lz n σ Qp) :DCalls prog b_x [iA n] σ Qp:=
 a_a mixed (by kernel_rfl) Tryz.func37 a_h9 (Eq.mp (by kernel_rfl) h)
def a_hb:Ann:= { cbs:= [3,4],loops:= [(5,{ mods:= [(7,SlotSh.one (Sh.any)),(22,s6)],keep:= [2,3,4,20,21] })] }
def a_jb (c0 c1 c2 c3 c4:D)(c5 c6 c7 c8:Int)(k0 k1 k2 k3 k4 k5:D)(k6:Bool)(r:Int)(σ:Store)(Qp:RV→Store→Prop) :Prop:=
 ∃len:Nat,(Idx prog σ k1 4 len)∧((0:Int)≤r)∧(r < (len:Int))∧∃row:List D,(Row σ k1 (Int.toNat r) row)∧∃n:Int,((List.take 1 row) =([iD n]:List D))∧a_b (n == 0) (Qp (.a (.one .nils)) σ) (DCalls prog h_8 [.agg [c0,c1,c2,c3,c4,iD c5,iD c6,iD c7,iD c8],iA r] σ (fun r1 Z=>∃d:D,(r1=(.a (.one d) :RV))∧∃len1:Nat,(Len d len1)∧∃I:D→Int→Store→Prop,∃μ:D→Int→Store→Nat,(I .nils 0 Z)∧∀d1:D,∀n1:Int,∀Z1,(I d1 n1 Z1)→a_b (decide (n1 < (len1:Int))) (∃len2:Nat,(Idx prog Z1 d 1 len2)∧((0:Int)≤n1)∧(n1 < (len2:Int))∧∃row1:List D,(Row Z1 d (Int.toNat n1) row1)∧∃n2:Int,((List.take 1 row1) =([iD n2]:List D))∧∃len3:Nat,(Idx prog Z1 c3 1 len3)∧((0:Int)≤n2)∧(n2 < (len3:Int))∧∃row2:List D,(Row Z1 c3 (Int.toNat n2) row2)∧∃n3:Int,((List.take 1 row2) =([iD n3]:List D))∧∃len4:Nat,(Idx prog Z1 k0 1 len4)∧((0:Int)≤n3)∧(n3 < (len4:Int))∧∃row3:List D,(Row Z1 k0 (Int.toNat n3) row3)∧∃n4:Int,((List.take 1 row3) =([iD n4]:List D))∧a_b (n4 ==(w64 (r+1))) (∃len5:Nat,(Idx prog Z1 k3 2 len5)∧((0:Int)≤n2)∧(n2 < (len5:Int))∧∃row4:List D,(Row Z1 k3 (Int.toNat n2) row4)∧∃n5:Int,((List.take 1 row4) =([iD n5]:List D))∧a_b (n5 != 1) (Fw.newObj Z1 (.live a_q [[iD 5,iD r,iD n3]]) (fun id Z2=>a_v prog Z2 a_q 24 d1 (.osl id 0 1) (fun d2 Z3=>(I d2 (w64 (n1+1)) Z3)∧((μ d2 (w64 (n1+1)) Z3) < (μ d1 n1 Z1))))) ((I d1 (w64 (n1+1)) Z1)∧((μ d1 (w64 (n1+1)) Z1) < (μ d1 n1 Z1)))) ((I d1 (w64 (n1+1)) Z1)∧((μ d1 (w64 (n1+1)) Z1) < (μ d1 n1 Z1)))) (Qp (.a (.one d1)) Z1)))
theorem a_jm (c0 c1 c2 c3 c4:D)(c5 c6 c7 c8:Int)(k0 k1 k2 k3 k4 k5:D)(k6:Bool)(r:Int)(σ:Store)(Qp:RV→Store→Prop)(h:a_jb c0 c1 c2 c3 c4 c5 c6 c7 c8 k0 k1 k2 k3 k4 k5 k6 r σ Qp) :DCalls prog m_h [.agg [c0,c1,c2,c3,c4,iD c5,iD c6,iD c7,iD c8], .agg [k0,k1,k2,k3,k4,k5, .bool k6],iA r] σ Qp:=
 a_a mixed (by kernel_rfl) Tryz.func41 a_hb (Eq.mp (by kernel_rfl) h)
def q_h:Ann:= { draws:= [(11,{ ord:= [0,1,2,3,4,5,6,7,8,9,10,11,12,13,14,15,16] })],loops:= [(1,{ mods:= [(15,s6)],keep:= [0,13,14] }),(9,{ mods:= [(44,s6)],keep:= [0,2,13,14,15,42,43] }),(15,{ mods:= [(73,s6)],keep:= [0,71,72] })],joins:= [(6,{ mods:= [(4,s6)],keep:= [0,2,3,13,14,15] }),(8,{ mods:= [(4,s6)],keep:= [0,2,3,13,14,15] })] }
def r_7 (j:D)(σ:Store)(Qp:RV→Store→Prop) :Prop:=
 (a_f j)∧∃s:D,∃i off:Nat,(j=(.el s i off:D))∧∃row:List D,(Row σ s i row)∧∃d:D,((List.take 1 (List.drop ((off+7) +4) row)) =([d]:List D))∧∃len:Nat,(Len d len)∧∃I:Int→Store→Prop,∃μ:Int→Store→Nat,(I 0 σ)∧∀n:Int,∀Z,(I n Z)→a_b (decide (n < (len:Int))) (∃len1:Nat,(Idx prog Z d 6 len1)∧((0:Int)≤n)∧(n < (len1:Int))∧∃row1:List D,(Row Z d (Int.toNat n) row1)∧∃n1 n2:Int,∃d1 d2 d3:D,∃b:Bool,((List.take 6 row1) =([iD n1,iD n2,d1,d2,d3, .bool b]:List D))∧∃len2:Nat,(Len d1 len2)∧∀R:Int→Store→Prop,(∀n3:Int,∀Z1,(∀R1:Int→Store→Prop,(∀n4:Int,∀Z2,(∃len3:Nat,(IdxN prog Z2 d1 3 len3)∧((0:Int)≤n4)∧(n4≤(len3:Int))∧∃len4:Nat,(Len (g_i d1 (Int.toNat n4) len3) len4)∧∃I1:Int→Store→Prop,∃μ1:Int→Store→Nat,(I1 0 Z2)∧∀n5:Int,∀Z3,(I1 n5 Z3)→a_b (decide (n5 < (len4:Int))) (∃len5:Nat,(Idx prog Z3 (g_i d1 (Int.toNat n4) len3) 3 len5)∧((0:Int)≤n5)∧(n5 < (len5:Int))∧∃row2:List D,(Row Z3 (g_i d1 (Int.toNat n4) len3) (Int.toNat n5) row2)∧∃n6 n7 n8:Int,((List.take 3 row2) =([iD n6,iD n7,iD n8]:List D))∧(a_f j)∧∃s1:D,∃i1 off1:Nat,(j=(.el s1 i1 off1:D))∧∃row3:List D,(Row Z3 s1 i1 row3)∧∃d4:D,((List.take 1 (List.drop ((off1+0) +0) row3)) =([d4]:List D))∧∃len6:Nat,(Idx prog Z3 d4 1 len6)∧((0:Int)≤n6)∧(n6 < (len6:Int))∧∃row4:List D,(Row Z3 d4 (Int.toNat n6) row4)∧∃n9:Int,((List.take 1 row4) =([iD n9]:List D))∧DCalls prog a_s [.one j, .one (.bool (n9 !=(w64 (n+1)))),iA 2,iA n,iA n6] Z3 (fun r Z4=>(r=(.tup []:RV))∧(I1 (w64 (n5+1)) Z4)∧((μ1 (w64 (n5+1)) Z4) < (μ1 n5 Z3)))) ((I (w64 (n+1)) Z3)∧((μ (w64 (n+1)) Z3) < (μ n Z))))→R1 n4 Z2)→Fw.newObj Z1 (.live a_i [[iD 4],[iD 5]]) (fun id Z2=>DCalls prog d_p [.one j,iA n, .one (.osl id 0 2)] Z2 (fun r Z3=>∃b1:Bool,(r=(.a (bA b1) :RV))∧a_b b1 ((a_f j)∧∃s1:D,∃i1 off1:Nat,(j=(.el s1 i1 off1:D))∧∃row2:List D,(Row Z3 s1 i1 row2)∧∃d4:D,((List.take 1 (List.drop ((off1+0) +1) row2)) =([d4]:List D))∧∃len3:Nat,(Idx prog Z3 d4 4 len3)∧((0:Int)≤n)∧(n < (len3:Int))∧∃row3:List D,(Row Z3 d4 (Int.toNat n) row3)∧∃n4:Int,((List.take 1 (List.drop 2 row3)) =([iD n4]:List D))∧(([[iD n1,iD n2,d1,d2,d3, .bool b]]:List (List D)) =([[iD n1,iD n2,d1,d2,d3, .bool b]]:List (List D)))∧R1 n4 Z3) ((([[iD n1,iD n2,d1,d2,d3, .bool b]]:List (List D)) =([[iD n1,iD n2,d1,d2,d3, .bool b]]:List (List D)))∧R1 n3 Z3))))→R n3 Z1)→DCalls prog d_x [.one j,iA n] Z (fun r Z1=>∃b1:Bool,(r=(.a (bA b1) :RV))∧a_b b1 ((([[iD n1,iD n2,d1,d2,d3, .bool b]]:List (List D)) =([[iD n1,iD n2,d1,d2,d3, .bool b]]:List (List D)))∧R 0 Z1) ((([[iD n1,iD n2,d1,d2,d3, .bool b]]:List (List D)) =([[iD n1,iD n2,d1,d2,d3, .bool b]]:List (List D)))∧R (len2:Int) Z1))) ((a_f j)∧∃s1:D,∃i1 off1:Nat,(j=(.el s1 i1 off1:D))∧∃row1:List D,(Row Z s1 i1 row1)∧∃d1:D,((List.take 1 (List.drop ((off1+0) +0) row1)) =([d1]:List D))∧∃len1:Nat,(Len d1 len1)∧∃I1:Int→Store→Prop,∃μ1:Int→Store→Nat,(I1 0 Z)∧∀n1:Int,∀Z1,(I1 n1 Z1)→a_b (decide (n1 < (len1:Int))) (∃len2:Nat,(Idx prog Z1 d1 1 len2)∧((0:Int)≤n1)∧(n1 < (len2:Int))∧∃row2:List D,(Row Z1 d1 (Int.toNat n1) row2)∧∃n2:Int,((List.take 1 row2) =([iD n2]:List D))∧a_b (decide (n2 > 0)) (Fw.newObj Z1 (.live a_i [[iD 0]]) (fun id Z2=>DCalls prog d_p [.one j, .one (iD (w64 (n2 - 1))), .one (.osl id 0 1)] Z2 (fun r Z3=>∃b:Bool,(r=(.a (bA b) :RV))∧DCalls prog a_s [.one j,bA b,iA 3, .one (iD (w64 (n2 - 1))),iA n1] Z3 (fun r1 Z4=>(r1=(.tup []:RV))∧(I1 (w64 (n1+1)) Z4)∧((μ1 (w64 (n1+1)) Z4) < (μ1 n1 Z1)))))) (DCalls prog a_s [.one j,bA false,iA 3, .one (iD (w64 (n2 - 1))),iA n1] Z1 (fun r Z2=>(r=(.tup []:RV))∧(I1 (w64 (n1+1)) Z2)∧((μ1 (w64 (n1+1)) Z2) < (μ1 n1 Z1))))) (Qp (.tup []) Z1))
theorem q_2 (j:D)(σ:Store)(Qp:RV→Store→Prop)(h:r_7 j σ Qp) :DCalls prog d_9 [.one j] σ Qp:=
 a_a mixed (by kernel_rfl) Tryz.func45 q_h (Eq.mp (by kernel_rfl) h)
def a_pj:Ann:= { cbs:= [4],loops:= [(2,{ mods:= [(14,s6)],keep:= [1,2,3,12,13] })] }
def a_ri (c0 c1 c2 c3 c4:D)(c5 c6 c7 c8 section_ end_ but:Int)(σ:Store)(Qp:RV→Store→Prop) :Prop:=
 ∃len:Nat,(Len c2 len)∧∃I:Int→Store→Prop,∃μ:Int→Store→Nat,(I 0 σ)∧∀n:Int,∀Z,(I n Z)→a_b (decide (n < (len:Int))) (∃len1:Nat,(Idx prog Z c2 2 len1)∧((0:Int)≤n)∧(n < (len1:Int))∧∃row:List D,(Row Z c2 (Int.toNat n) row)∧∃n1 n2:Int,((List.take 2 row) =([iD n1,iD n2]:List D))∧a_b (n1 == section_) (a_b (n2 == end_) (a_b (n != but) (Qp (.a (bA true)) Z) ((I (w64 (n+1)) Z)∧((μ (w64 (n+1)) Z) < (μ n Z)))) ((I (w64 (n+1)) Z)∧((μ (w64 (n+1)) Z) < (μ n Z)))) ((I (w64 (n+1)) Z)∧((μ (w64 (n+1)) Z) < (μ n Z)))) (Qp (.a (bA false)) Z)
theorem a_ru (c0 c1 c2 c3 c4:D)(c5 c6 c7 c8 section_ end_ but:Int)(σ:Store)(Qp:RV→Store→Prop)(h:a_ri c0 c1 c2 c3 c4 c5 c6 c7 c8 section_ end_ but σ Qp) :DCalls prog p_k [.agg [c0,c1,c2,c3,c4,iD c5,iD c6,iD c7,iD c8],iA section_,iA end_,iA but] σ Qp:=
 a_a mixed (by kernel_rfl) Tryz.func53 a_pj (Eq.mp (by kernel_rfl) h)
def z_m:Ann:= { loops:= [(3,{ mods:= [(3,SlotSh.one (Sh.any)),(8,s6)],keep:= [6,7] })] }
def z_9 (path:D)(σ:Store)(Qp:RV→Store→Prop) :Prop:=
 ∃len:Nat,(Len path len)∧∃I:D→Int→Store→Prop,∃μ:D→Int→Store→Nat,(I .nils 0 σ)∧∀d:D,∀n:Int,∀Z,(I d n Z)→a_b (decide (n < (len:Int))) (∃len1:Nat,(Idx prog Z path 3 len1)∧((0:Int)≤n)∧(n < (len1:Int))∧∃row:List D,(Row Z path (Int.toNat n) row)∧∃n1 n2 n3:Int,((List.take 3 row) =([iD n1,iD n2,iD n3]:List D))∧Fw.newObj Z (.live a_i [[iD n1]]) (fun id Z1=>a_v prog Z1 a_i 8 d (.osl id 0 1) (fun d1 Z2=>(I d1 (w64 (n+1)) Z2)∧((μ d1 (w64 (n+1)) Z2) < (μ d n Z))))) (Qp (.a (.one d)) Z)
theorem z_6 (path:D)(σ:Store)(Qp:RV→Store→Prop)(h:z_9 path σ Qp) :DCalls prog d_q [.one path] σ Qp:=
 a_a mixed (by kernel_rfl) Tryz.func57 z_m (Eq.mp (by kernel_rfl) h)
def a_dx:Ann:= { cbs:= [4,5],joins:= [(7,{ mods:= [(12,s6)],keep:= [4,5,8,10] })] }
def a_ek (c0 c1 c2 c3 c4:D)(c5 c6 c7 c8:Int)(k0 k1 k2 k3 k4 k5:D)(k6:Bool)(now:Int)(do_:D)(σ:Store)(Qp:RV→Store→Prop) :Prop:=
 DCalls prog j_4 [.agg [c0,c1,c2,c3,c4,iD c5,iD c6,iD c7,iD c8], .agg [k0,k1,k2,k3,k4,k5, .bool k6]] σ (fun r Z=>∃d:D,∃b:Bool,(r=(.tup [.one d,bA b]:RV))∧∀R:Int→Store→Prop,(∀n:Int,∀Z1,(a_b (n != 0) (DCalls prog j_4 [.agg [c0,c1,c2,c3,c4,iD c5,iD c6,iD c7,iD c8], .agg [k0,k1,k2,k3,k4,k5, .bool k6]] Z1 (fun r1 Z2=>∃d1:D,∃b1:Bool,(r1=(.tup [.one d1,bA b1]:RV))∧(a_f d1)∧∃s:D,∃i off:Nat,(d1=(.el s i off:D))∧∃row:List D,(Row Z2 s i row)∧∃d2 d3 d4 d5 d6 d7:D,∃b2:Bool,((List.take 7 (List.drop (off+9) row)) =([d2,d3,d4,d5,d6,d7, .bool b2]:List D))∧Qp (.tup [.agg [d2,d3,d4,d5,d6,d7, .bool b2],iA n]) Z2)) ((a_f d)∧∃s:D,∃i off:Nat,(d=(.el s i off:D))∧∃row:List D,(Row Z1 s i row)∧∃d1 d2 d3 d4 d5 d6:D,∃b1:Bool,((List.take 7 (List.drop (off+9) row)) =([d1,d2,d3,d4,d5,d6, .bool b1]:List D))∧Qp (.tup [.agg [d1,d2,d3,d4,d5,d6, .bool b1],iA 0]) Z1))→R n Z1)→a_b (!b) ((([[.nils, .nils, .nils, .nils, .nils, .nils, .bool false]]:List (List D)) =([[.nils, .nils, .nils, .nils, .nils, .nils, .bool false]]:List (List D)))∧R 21 Z) (Fw.newObj Z (.live a_i [[iD now]]) (fun id Z1=>DCalls prog d_m [iA 0, .one (.osl id 0 1)] Z1 (fun r1 Z2=>∃b1:Bool,(r1=(.a (bA b1) :RV))∧a_b (!b1) ((([[.nils, .nils, .nils, .nils, .nils, .nils, .bool false]]:List (List D)) =([[.nils, .nils, .nils, .nils, .nils, .nils, .bool false]]:List (List D)))∧R 32 Z2) (∃f:FuncId,∃a:List (Bool × (List D)),∃b2:List (Bool × (List D)),∃as0':List A,∃bs:List A,(do_=(.fn f a b2:D))∧((f_v a) =(Option.some as0'))∧((f_v b2) =(Option.some bs))∧DCalls prog f (HAppend.hAppend (HAppend.hAppend as0' [.one d]) bs) Z2 (fun r2 Z3=>∃n:Int,(r2=(.a (iA n) :RV))∧(([[.nils, .nils, .nils, .nils, .nils, .nils, .bool false]]:List (List D)) =([[.nils, .nils, .nils, .nils, .nils, .nils, .bool false]]:List (List D)))∧R n Z3))))))
theorem a_hf (c0 c1 c2 c3 c4:D)(c5 c6 c7 c8:Int)(k0 k1 k2 k3 k4 k5:D)(k6:Bool)(now:Int)(do_:D)(σ:Store)(Qp:RV→Store→Prop)(h:a_ek c0 c1 c2 c3 c4 c5 c6 c7 c8 k0 k1 k2 k3 k4 k5 k6 now do_ σ Qp) :DCalls prog e_l [.agg [c0,c1,c2,c3,c4,iD c5,iD c6,iD c7,iD c8], .agg [k0,k1,k2,k3,k4,k5, .bool k6],iA now, .one do_] σ Qp:=
 a_a mixed (by kernel_rfl) Tryz.func61 a_dx (Eq.mp (by kernel_rfl) h)
def a_aj:Ann:= { draws:= [(1,{ ord:= [0,1,2,3,4,5,6,7,8,9,10] }),(3,{ ord:= [0,1,2,3,4,5,6,7,8,9] }),(5,{ ord:= [0,1,2,3,4,5,6,7,8,9] })] }
def a_d0 (d a1 a2:D)(σ:Store)(Qp:RV→Store→Prop) :Prop:=
 ∃s:D,∃i off:Nat,(a1=(.el s i off:D))∧∃row:List D,(Row σ s i row)∧∃n:Int,((List.take 1 (List.drop off row)) =([iD n]:List D))∧(a_f d)∧∃s1:D,∃i1 off1:Nat,(d=(.el s1 i1 off1:D))∧∃row1:List D,(Row σ s1 i1 row1)∧∃d1:D,((List.take 1 (List.drop ((off1+9) +0) row1)) =([d1]:List D))∧∃len:Nat,(Len d1 len)∧DCalls prog b_k [iA n,iA 0, .one (iD (w64 ((len:Int) - 1)))] σ (fun r Z=>∃b:Bool,(r=(.a (bA b) :RV))∧a_b (!b) (Qp (.a (iA 20)) Z) ((a_f d)∧∃s2:D,∃i2 off2:Nat,(d=(.el s2 i2 off2:D))∧∃row2:List D,(Row Z s2 i2 row2)∧∃d2:D,((List.take 1 (List.drop ((off2+9) +0) row2)) =([d2]:List D))∧∃s3:D,∃i3 off3:Nat,(a1=(.el s3 i3 off3:D))∧∃row3:List D,(Row Z s3 i3 row3)∧∃n1:Int,((List.take 1 (List.drop off3 row3)) =([iD n1]:List D))∧∃len1:Nat,(Idx prog Z d2 1 len1)∧((0:Int)≤n1)∧(n1 < (len1:Int))∧∃row4:List D,(Row Z d2 (Int.toNat n1) row4)∧∃n2:Int,((List.take 1 row4) =([iD n2]:List D))∧a_b (n2 !=(-1)) (Qp (.a (iA 28)) Z) ((a_f d)∧∃s4:D,∃i4 off4:Nat,(d=(.el s4 i4 off4:D))∧∃row5:List D,(Row Z s4 i4 row5)∧∃d3:D,((List.take 1 (List.drop ((off4+9) +5) row5)) =([d3]:List D))∧∃s5:D,∃i5 off5:Nat,(a1=(.el s5 i5 off5:D))∧∃row6:List D,(Row Z s5 i5 row6)∧∃n3:Int,((List.take 1 (List.drop off5 row6)) =([iD n3]:List D))∧∃s6:D,∃i6 off6:Nat,(a2=(.el s6 i6 off6:D))∧∃row7:List D,(Row Z s6 i6 row7)∧∃n4:Int,((List.take 1 (List.drop off6 row7)) =([iD n4]:List D))∧∃len2:Nat,(Idx prog Z d3 1 len2)∧((0:Int)≤n3)∧(n3 < (len2:Int))∧a_j [iD (w64 (n4+1))] Z d3 (Int.toNat n3) 0 (fun Z1=>Qp (.a (iA 0)) Z1))))
theorem a_d3 (d a1 a2:D)(σ:Store)(Qp:RV→Store→Prop)(h:a_d0 d a1 a2 σ Qp) :DCalls prog p_v [.one d, .one a1, .one a2] σ Qp:=
 a_a mixed (by kernel_rfl) Tryz.func65 a_aj (Eq.mp (by kernel_rfl) h)
def a_jw:Ann:= { esc:= [17],cbs:= [4,5,6],draws:= [(2,{ ord:= [0,1,2,3,5,6,4,7,8,9,10,11,12,13,14,15],nb:= [6] }),(3,{ ord:= [0,1,2,3,4,5,7,8,10,11,13,14,6,9,12,15,16,17,18,19,20,21,22,23,24,25,26,27,28,29,30,31],nb:= [8,11,14] })] }
def a_nm (c0 c1 c2 c3 c4:D)(c5 c6 c7 c8:Int)(k0 k1 k2 k3 k4 k5:D)(k6:Bool)(v0 v1 v2 v3:D)(now:Int)(σ:Store)(Qp:RV→Store→Prop) :Prop:=
 Fw.newObj σ (.live j_9 [[k0,k1,k2,k3,k4,k5, .bool k6,c0,c1,c2,c3,c4,iD c5,iD c6,iD c7,iD c8,v0,v1,v2,v3,iD now, .bool k6]]) (fun id Z=>DCalls prog b_a [.one k0] Z (fun r Z1=>∃d:D,(r=(.a (.one d) :RV))∧DCalls prog c_d [.one k4] Z1 (fun r1 Z2=>∃d1:D,(r1=(.a (.one d1) :RV))∧a_j [d] Z2 (.osl id 0 1) 0 0 (fun Z3=>a_j [d1] Z3 (.osl id 0 1) 0 4 (fun Z4=>DCalls prog b_1 [.one k1] Z4 (fun r2 Z5=>∃d2:D,(r2=(.a (.one d2) :RV))∧DCalls prog b_h [.one k2] Z5 (fun r3 Z6=>∃d3:D,(r3=(.a (.one d3) :RV))∧DCalls prog b_h [.one k3] Z6 (fun r4 Z7=>∃d4:D,(r4=(.a (.one d4) :RV))∧DCalls prog b_a [.one k5] Z7 (fun r5 Z8=>∃d5:D,(r5=(.a (.one d5) :RV))∧a_j [d2] Z8 (.osl id 0 1) 0 1 (fun Z9=>a_j [d3] Z9 (.osl id 0 1) 0 2 (fun Z10=>a_j [d4] Z10 (.osl id 0 1) 0 3 (fun Z11=>a_j [d5] Z11 (.osl id 0 1) 0 5 (fun Z12=>Qp (.a (.one (.el (.osl id 0 1) 0 0))) Z12)))))))))))))
theorem a_l7 (c0 c1 c2 c3 c4:D)(c5 c6 c7 c8:Int)(k0 k1 k2 k3 k4 k5:D)(k6:Bool)(v0 v1 v2 v3:D)(now:Int)(σ:Store)(Qp:RV→Store→Prop)(h:a_nm c0 c1 c2 c3 c4 c5 c6 c7 c8 k0 k1 k2 k3 k4 k5 k6 v0 v1 v2 v3 now σ Qp) :DCalls prog b_y [.agg [c0,c1,c2,c3,c4,iD c5,iD c6,iD c7,iD c8], .agg [k0,k1,k2,k3,k4,k5, .bool k6], .agg [v0,v1,v2,v3],iA now] σ Qp:=
 a_a mixed (by kernel_rfl) Tryz.func69 a_jw (Eq.mp (by kernel_rfl) h)
def a_d7:Ann:= { esc:= [65],cbs:= [4,5,6],draws:= [(3,{ ord:= [0,1,2,3,5,6,7,4,8,9,10],nb:= [0,2,7] })],loops:= [(5,{ mods:= [(69,s6)],keep:= [10,67,68] }),(9,{ mods:= [(13,SlotSh.one (Sh.any)),(76,s6)],keep:= [10,67,68,69,74,75] })],joins:= [(3,{ keep:= [3,4,5,6] })] }
def a_ff (c0 c1 c2 c3 c4:D)(c5 c6 c7 c8:Int)(k0 k1 k2 k3 k4 k5:D)(k6:Bool)(v0 v1 v2 v3:D)(now:Int)(σ:Store)(Qp:RV→Store→Prop) :Prop:=
 ∀R:Store→Prop,(∀Z,(DCalls prog d_a [.agg [k0,k1,k2,k3,k4,k5, .bool k6]] Z (fun r Z1=>∃d d1 d2 d3 d4 d5:D,∃b:Bool,(r=(.a (.agg [d,d1,d2,d3,d4,d5, .bool b]) :RV))∧Fw.newObj Z1 (.live a_n [[v0,v1,v2,v3,c0,c1,c2,c3,c4,iD c5,iD c6,iD c7,iD c8,d,d1,d2,d3,d4,d5, .bool b,iD now, .bool k6, .nils]]) (fun id Z2=>∃len:Nat,(Len c4 len)∧∃I:Int→Store→Prop,∃μ:Int→Store→Nat,(I 0 Z2)∧∀n:Int,∀Z3,(I n Z3)→a_b (decide (n < (len:Int))) (∃len1:Nat,(Idx prog Z3 c4 6 len1)∧((0:Int)≤n)∧(n < (len1:Int))∧∃row:List D,(Row Z3 c4 (Int.toNat n) row)∧∃n1 n2:Int,∃d6 d7 d8:D,∃b1:Bool,((List.take 6 row) =([iD n1,iD n2,d6,d7,d8, .bool b1]:List D))∧∃len2:Nat,(Len d6 len2)∧∃I1:D→Int→Store→Prop,∃μ1:D→Int→Store→Nat,(I1 .nils 0 Z3)∧∀d9:D,∀n3:Int,∀Z4,(I1 d9 n3 Z4)→a_b (decide (n3 < (len2:Int))) (∃len3:Nat,(Idx prog Z4 d6 3 len3)∧((0:Int)≤n3)∧(n3 < (len3:Int))∧∃row1:List D,(Row Z4 d6 (Int.toNat n3) row1)∧∃n4 n5 n6:Int,((List.take 3 row1) =([iD n4,iD n5,iD n6]:List D))∧Fw.newObj Z4 (.live a_i [[iD n4]]) (fun id1 Z5=>a_v prog Z5 a_i 8 d9 (.osl id1 0 1) (fun d10 Z6=>(I1 d10 (w64 (n3+1)) Z6)∧((μ1 d10 (w64 (n3+1)) Z6) < (μ1 d9 n3 Z4))))) (∃row1:List D,(Row Z4 (.osl id 0 1) 0 row1)∧∃d10:D,((List.take 1 (List.drop 22 row1)) =([d10]:List D))∧Fw.newObj Z4 (.live n_z [[d9]]) (fun id1 Z5=>a_v prog Z5 n_z 24 d10 (.osl id1 0 1) (fun d11 Z6=>a_j [d11] Z6 (.osl id 0 1) 0 22 (fun Z7=>(I (w64 (n+1)) Z7)∧((μ (w64 (n+1)) Z7) < (μ n Z3))))))) (Qp (.tup [.one (.el (.osl id 0 1) 0 0),bA true]) Z3))))→R Z)→DCalls prog d_8 [.agg [c0,c1,c2,c3,c4,iD c5,iD c6,iD c7,iD c8], .agg [k0,k1,k2,k3,k4,k5, .bool k6]] σ (fun r Z=>∃b:Bool,(r=(.a (bA b) :RV))∧a_b (!b) (Qp (.tup [.one .nilp,bA false]) Z) (∃len:Nat,(Len v0 len)∧∃len1:Nat,(Len c0 len1)∧a_b ((len:Int) !=(len1:Int)) (Qp (.tup [.one .nilp,bA false]) Z) (∃len2:Nat,(Len v1 len2)∧∃len3:Nat,(Len c0 len3)∧a_b ((len2:Int) !=(len3:Int)) (Qp (.tup [.one .nilp,bA false]) Z) (∃len4:Nat,(Len v2 len4)∧∃len5:Nat,(Len c3 len5)∧a_b ((len4:Int) !=(len5:Int)) (Qp (.tup [.one .nilp,bA false]) Z) (∃len6:Nat,(Len v3 len6)∧∃len7:Nat,(Len c2 len7)∧a_b ((len6:Int) !=(len7:Int)) (Qp (.tup [.one .nilp,bA false]) Z) (R Z))))))
theorem a_g9 (c0 c1 c2 c3 c4:D)(c5 c6 c7 c8:Int)(k0 k1 k2 k3 k4 k5:D)(k6:Bool)(v0 v1 v2 v3:D)(now:Int)(σ:Store)(Qp:RV→Store→Prop)(h:a_ff c0 c1 c2 c3 c4 c5 c6 c7 c8 k0 k1 k2 k3 k4 k5 k6 v0 v1 v2 v3 now σ Qp) :DCalls prog l_f [.agg [c0,c1,c2,c3,c4,iD c5,iD c6,iD c7,iD c8], .agg [k0,k1,k2,k3,k4,k5, .bool k6], .agg [v0,v1,v2,v3],iA now] σ Qp:=
 a_a mixed (by kernel_rfl) Tryz.func73 a_d7 (Eq.mp (by kernel_rfl) h)
def p_o:Ann:= { loops:= [(1,{ mods:= [(10,s6)],keep:= [0,8,9] })] }
def q_d (x:D)(σ:Store)(Qp:RV→Store→Prop) :Prop:=
 (a_f x)∧∃s:D,∃i off:Nat,(x=(.el s i off:D))∧∃row:List D,(Row σ s i row)∧∃d:D,((List.take 1 (List.drop ((off+13) +5) row)) =([d]:List D))∧∃len:Nat,(Len d len)∧∃I:Int→Store→Prop,∃μ:Int→Store→Nat,(I 0 σ)∧∀n:Int,∀Z,(I n Z)→a_b (decide (n < (len:Int))) (∃len1:Nat,(Idx prog Z d 1 len1)∧((0:Int)≤n)∧(n < (len1:Int))∧∃row1:List D,(Row Z d (Int.toNat n) row1)∧∃n1:Int,((List.take 1 row1) =([iD n1]:List D))∧a_b (decide (n1≤0)) ((I (w64 (n+1)) Z)∧((μ (w64 (n+1)) Z) < (μ n Z))) ((a_f x)∧∃s1:D,∃i1 off1:Nat,(x=(.el s1 i1 off1:D))∧∃row2:List D,(Row Z s1 i1 row2)∧∃d1:D,((List.take 1 (List.drop ((off1+13) +0) row2)) =([d1]:List D))∧∃len2:Nat,(Idx prog Z d1 1 len2)∧((0:Int)≤n)∧(n < (len2:Int))∧∃row3:List D,(Row Z d1 (Int.toNat n) row3)∧∃n2:Int,((List.take 1 row3) =([iD n2]:List D))∧a_b (n2 !=(-1)) ((a_f x)∧∃s2:D,∃i2 off2:Nat,(x=(.el s2 i2 off2:D))∧∃row4:List D,(Row Z s2 i2 row4)∧∃d2:D,((List.take 1 (List.drop ((off2+13) +5) row4)) =([d2]:List D))∧∃len3:Nat,(Idx prog Z d2 1 len3)∧((0:Int)≤n)∧(n < (len3:Int))∧a_j [iD 0] Z d2 (Int.toNat n) 0 (fun Z1=>(I (w64 (n+1)) Z1)∧((μ (w64 (n+1)) Z1) < (μ n Z)))) ((a_f x)∧∃s2:D,∃i2 off2:Nat,(x=(.el s2 i2 off2:D))∧Fw.newObj Z (.live a_i [[iD n]]) (fun id Z1=>DCalls prog c_h [.one (.el s2 i2 (off2+0)), .one (.osl id 0 1)] Z1 (fun r Z2=>∃b:Bool,(r=(.a (bA b) :RV))∧a_b b ((a_f x)∧∃s3:D,∃i3 off3:Nat,(x=(.el s3 i3 off3:D))∧∃row4:List D,(Row Z2 s3 i3 row4)∧∃d2:D,((List.take 1 (List.drop (((off3+0) +0) +0) row4)) =([d2]:List D))∧∃len3:Nat,(Idx prog Z2 d2 3 len3)∧((0:Int)≤n)∧(n < (len3:Int))∧∃row5:List D,(Row Z2 d2 (Int.toNat n) row5)∧∃n3:Int,((List.take 1 (List.drop 1 row5)) =([iD n3]:List D))∧a_b (decide (n3≥n1)) (DCalls prog d_d [.one x,iA n] Z2 (fun r1 Z3=>(r1=(.tup []:RV))∧(a_f x)∧∃s4:D,∃i4 off4:Nat,(x=(.el s4 i4 off4:D))∧∃row6:List D,(Row Z3 s4 i4 row6)∧∃d3:D,((List.take 1 (List.drop ((off4+13) +5) row6)) =([d3]:List D))∧∃len4:Nat,(Idx prog Z3 d3 1 len4)∧((0:Int)≤n)∧(n < (len4:Int))∧a_j [iD 0] Z3 d3 (Int.toNat n) 0 (fun Z4=>(I (w64 (n+1)) Z4)∧((μ (w64 (n+1)) Z4) < (μ n Z))))) ((I (w64 (n+1)) Z2)∧((μ (w64 (n+1)) Z2) < (μ n Z)))) ((I (w64 (n+1)) Z2)∧((μ (w64 (n+1)) Z2) < (μ n Z)))))))) (Qp (.tup []) Z)
theorem q_q (x:D)(σ:Store)(Qp:RV→Store→Prop)(h:q_d x σ Qp) :DCalls prog f_h [.one x] σ Qp:=
 a_a mixed (by kernel_rfl) Tryz.func77 p_o (Eq.mp (by kernel_rfl) h)
def t_k:Ann:= { }
def w_g (w list:D)(σ:Store)(Qp:RV→Store→Prop) :Prop:=
 DCalls prog d_f [.one w,iA 8, .one list] σ (fun r Z=>(r=(.tup []:RV))∧Qp (.tup []) Z)
theorem w_v (w list:D)(σ:Store)(Qp:RV→Store→Prop)(h:w_g w list σ Qp) :DCalls prog g_4 [.one w, .one list] σ Qp:=
 a_a mixed (by kernel_rfl) Tryz.func81 t_k (Eq.mp (by kernel_rfl) h)
def t_b:Ann:= { }
def v_v (r:D)(σ:Store)(Qp:RV→Store→Prop) :Prop:=
 DCalls prog d_g [.one r,iA 2] σ (fun r1 Z=>∃n:Int,(r1=(.a (iA n) :RV))∧Qp (.a (iA n)) Z)
theorem w_m (r:D)(σ:Store)(Qp:RV→Store→Prop)(h:v_v r σ Qp) :DCalls prog g_5 [.one r] σ Qp:=
 a_a mixed (by kernel_rfl) Tryz.func85 t_b (Eq.mp (by kernel_rfl) h)
def a_hm:Ann:= { loops:= [(2,{ mods:= [(9,s6)],keep:= [0,7,8] })] }
def a_jz (beyond:Int)(list:D)(σ:Store)(Qp:RV→Store→Prop) :Prop:=
 ∃len:Nat,(Len list len)∧∃I:Int→Store→Prop,∃μ:Int→Store→Nat,(I 0 σ)∧∀n:Int,∀Z,(I n Z)→a_b (decide (n < (len:Int))) (∃len1:Nat,(Idx prog Z list 1 len1)∧((0:Int)≤n)∧(n < (len1:Int))∧∃row:List D,(Row Z list (Int.toNat n) row)∧∃n1:Int,((List.take 1 row) =([iD n1]:List D))∧DCalls prog b_k [iA n1,iA 0, .one (iD (w64 (4294967295+beyond)))] Z (fun r Z1=>∃b:Bool,(r=(.a (bA b) :RV))∧a_b (!b) (Qp (.a (bA false)) Z1) ((I (w64 (n+1)) Z1)∧((μ (w64 (n+1)) Z1) < (μ n Z))))) (Qp (.a (bA true)) Z)
theorem a_jv (beyond:Int)(list:D)(σ:Store)(Qp:RV→Store→Prop)(h:a_jz beyond list σ Qp) :DCalls prog d_m [iA beyond, .one list] σ Qp:=
 a_a mixed (by kernel_rfl) Tryz.func89 a_hm (Eq.mp (by kernel_rfl) h)
def a_hw:Ann:= { cbs:= [1],loops:= [(11,{ mods:= [(33,s6)],keep:= [1,3,31,32] })] }
def a_m0 (c0 c1 c2 c3 c4:D)(c5 c6 c7 c8:Int)(σ:Store)(Qp:RV→Store→Prop) :Prop:=
 DCalls prog o_6 [.one c0, .one c1] σ (fun r Z=>∃n:Int,(r=(.a (iA n) :RV))∧a_b (n != 0) (Qp (.a (iA 6)) Z) (DCalls prog g_c [.agg [c0,c1,c2,c3,c4,iD c5,iD c6,iD c7,iD c8]] Z (fun r1 Z1=>∃b:Bool,(r1=(.a (bA b) :RV))∧a_b (!b) (Qp (.a (iA 7)) Z1) (DCalls prog f_d [.agg [c0,c1,c2,c3,c4,iD c5,iD c6,iD c7,iD c8]] Z1 (fun r2 Z2=>∃b1:Bool,(r2=(.a (bA b1) :RV))∧a_b (!b1) (Qp (.a (iA 8)) Z2) (∃len:Nat,(Len c4 len)∧a_b (decide ((len:Int) > 12)) (Qp (.a (iA 9)) Z2) (∃len1:Nat,(Len c4 len1)∧∃I:Int→Store→Prop,∃μ:Int→Store→Nat,(I 0 Z2)∧∀n1:Int,∀Z3,(I n1 Z3)→a_b (decide (n1 < (len1:Int))) (∃len2:Nat,(Idx prog Z3 c4 6 len2)∧((0:Int)≤n1)∧(n1 < (len2:Int))∧∃row:List D,(Row Z3 c4 (Int.toNat n1) row)∧∃n2 n3:Int,∃d d1 d2:D,∃b2:Bool,((List.take 6 row) =([iD n2,iD n3,d,d1,d2, .bool b2]:List D))∧DCalls prog h_2 [.agg [c0,c1,c2,c3,c4,iD c5,iD c6,iD c7,iD c8], .agg [iD n2,iD n3,d,d1,d2, .bool b2]] Z3 (fun r3 Z4=>∃n4:Int,(r3=(.a (iA n4) :RV))∧a_b (n4 != 0) (Qp (.a (iA n4)) Z4) ((([[c0,c1,c2,c3,c4,iD c5,iD c6,iD c7,iD c8]]:List (List D)) =([[c0,c1,c2,c3,c4,iD c5,iD c6,iD c7,iD c8]]:List (List D)))∧(I (w64 (n1+1)) Z4)∧((μ (w64 (n1+1)) Z4) < (μ n1 Z3))))) (DCalls prog c_4 [iA c5,iA 1,iA 8] Z3 (fun r3 Z4=>∃b2:Bool,(r3=(.a (bA b2) :RV))∧a_b (!b2) (Qp (.a (iA 12)) Z4) (DCalls prog c_4 [iA c6,iA 0,iA 8] Z4 (fun r4 Z5=>∃b3:Bool,(r4=(.a (bA b3) :RV))∧a_b (!b3) (Qp (.a (iA 12)) Z5) (DCalls prog c_4 [iA c7, .one (iD (w64 ((w64 (c5+c6)) +1))),iA 40] Z5 (fun r5 Z6=>∃b4:Bool,(r5=(.a (bA b4) :RV))∧a_b (!b4) (Qp (.a (iA 12)) Z6) (DCalls prog c_4 [iA c8,iA 1,iA 1000000] Z6 (fun r6 Z7=>∃b5:Bool,(r6=(.a (bA b5) :RV))∧a_b (!b5) (Qp (.a (iA 12)) Z7) (Qp (.a (iA 0)) Z7))))))))))))))))
theorem a_m8 (c0 c1 c2 c3 c4:D)(c5 c6 c7 c8:Int)(σ:Store)(Qp:RV→Store→Prop)(h:a_m0 c0 c1 c2 c3 c4 c5 c6 c7 c8 σ Qp) :DCalls prog p_m [.agg [c0,c1,c2,c3,c4,iD c5,iD c6,iD c7,iD c8]] σ Qp:=
 a_a mixed (by kernel_rfl) Tryz.func93 a_hw (Eq.mp (by kernel_rfl) h)
def a_gp:Ann:= { cbs:= [2],draws:= [(7,{ ord:= [0,1,2,3,4,5,6,7,8,9,10,11,12,13,14,15,16] })],loops:= [(4,{ mods:= [(7,SlotSh.one (Sh.any)),(21,s6)],keep:= [2,5,19,20] })] }
def a_ik (c0 c1 c2 c3 c4:D)(c5 c6 c7 c8 r:Int)(σ:Store)(Qp:RV→Store→Prop) :Prop:=
 DCalls prog i_2 [.agg [c0,c1,c2,c3,c4,iD c5,iD c6,iD c7,iD c8],iA r] σ (fun r1 Z=>∃n n1:Int,∃d d1 d2:D,∃b b1:Bool,(r1=(.tup [.agg [iD n,iD n1,d,d1,d2, .bool b],bA b1]:RV))∧∃len:Nat,(Len d len)∧∃I:D→Int→Store→Prop,∃μ:D→Int→Store→Nat,(I .nils 0 Z)∧∀d3:D,∀n2:Int,∀Z1,(I d3 n2 Z1)→a_b (decide (n2 < (len:Int))) (∃len1:Nat,(Idx prog Z1 d 3 len1)∧((0:Int)≤n2)∧(n2 < (len1:Int))∧∃row:List D,(Row Z1 d (Int.toNat n2) row)∧∃n3 n4 n5:Int,((List.take 3 row) =([iD n3,iD n4,iD n5]:List D))∧a_b (decide (n3 < 0)) ((([[iD n,iD n1,d,d1,d2, .bool b]]:List (List D)) =([[iD n,iD n1,d,d1,d2, .bool b]]:List (List D)))∧(I d3 (w64 (n2+1)) Z1)∧((μ d3 (w64 (n2+1)) Z1) < (μ d3 n2 Z1))) (∃len2:Nat,(Len c0 len2)∧a_b (decide (n3≥(len2:Int))) ((([[iD n,iD n1,d,d1,d2, .bool b]]:List (List D)) =([[iD n,iD n1,d,d1,d2, .bool b]]:List (List D)))∧(I d3 (w64 (n2+1)) Z1)∧((μ d3 (w64 (n2+1)) Z1) < (μ d3 n2 Z1))) (∃len3:Nat,(Idx prog Z1 c0 3 len3)∧((0:Int)≤n3)∧(n3 < (len3:Int))∧∃row1:List D,(Row Z1 c0 (Int.toNat n3) row1)∧∃n6:Int,((List.take 1 row1) =([iD n6]:List D))∧DCalls prog o_j [iA n6,iA n4,iA n5] Z1 (fun r2 Z2=>∃n7:Int,∃b2:Bool,(r2=(.tup [iA n7,bA b2]:RV))∧a_b b2 (a_b (n7 != 0) (Fw.newObj Z2 (.live a_4 [[iD n3,iD n7]]) (fun id Z3=>a_v prog Z3 a_4 16 d3 (.osl id 0 1) (fun d4 Z4=>(([[iD n,iD n1,d,d1,d2, .bool b]]:List (List D)) =([[iD n,iD n1,d,d1,d2, .bool b]]:List (List D)))∧(I d4 (w64 (n2+1)) Z4)∧((μ d4 (w64 (n2+1)) Z4) < (μ d3 n2 Z1))))) ((([[iD n,iD n1,d,d1,d2, .bool b]]:List (List D)) =([[iD n,iD n1,d,d1,d2, .bool b]]:List (List D)))∧(I d3 (w64 (n2+1)) Z2)∧((μ d3 (w64 (n2+1)) Z2) < (μ d3 n2 Z1)))) ((([[iD n,iD n1,d,d1,d2, .bool b]]:List (List D)) =([[iD n,iD n1,d,d1,d2, .bool b]]:List (List D)))∧(I d3 (w64 (n2+1)) Z2)∧((μ d3 (w64 (n2+1)) Z2) < (μ d3 n2 Z1))))))) (a_v prog Z1 a_4 16 d3 d1 (fun d4 Z2=>Qp (.a (.one d4)) Z2)))
theorem a_if (c0 c1 c2 c3 c4:D)(c5 c6 c7 c8 r:Int)(σ:Store)(Qp:RV→Store→Prop)(h:a_ik c0 c1 c2 c3 c4 c5 c6 c7 c8 r σ Qp) :DCalls prog g_p [.agg [c0,c1,c2,c3,c4,iD c5,iD c6,iD c7,iD c8],iA r] σ Qp:=
 a_a mixed (by kernel_rfl) Tryz.func97 a_gp (Eq.mp (by kernel_rfl) h)
def a_i7:Ann:= { }
def a_mu (kind:Int)(σ:Store)(Qp:RV→Store→Prop) :Prop:=
 a_b (kind == 0) (Fw.newObj σ (.live h_h [[iD 0,iD 1,iD 0]]) (fun id Z=>Qp (.a (.one (.osl id 0 1))) Z)) (a_b (kind == 1) (Fw.newObj σ (.live h_h [[iD 0,iD 1,iD 1],[iD 0,iD 2,iD 2]]) (fun id Z=>Qp (.a (.one (.osl id 0 2))) Z)) (a_b (kind == 2) (Fw.newObj σ (.live h_h [[iD 0,iD 1,iD 0],[iD 2,iD 3,iD 0]]) (fun id Z=>Qp (.a (.one (.osl id 0 2))) Z)) (Qp (.a (.one .nils)) σ)))
theorem a_lf (kind:Int)(σ:Store)(Qp:RV→Store→Prop)(h:a_mu kind σ Qp) :DCalls prog j_0 [iA kind] σ Qp:=
 a_a mixed (by kernel_rfl) Tryz.func101 a_i7 (Eq.mp (by kernel_rfl) h)
def a_ja:Ann:= { cbs:= [2],loops:= [(6,{ mods:= [(6,SlotSh.one (Sh.any)),(31,s6)],keep:= [5,29,30] }),(11,{ mods:= [(6,SlotSh.one (Sh.any)),(44,s6)],keep:= [42,43] })],joins:= [(3,{ keep:= [1,2] })] }
def a_mi (c0 c1 c2 c3 c4:D)(c5 c6 c7 c8 r:Int)(σ:Store)(Qp:RV→Store→Prop) :Prop:=
 ∀R:Store→Prop,(∀Z,(∃len:Nat,(Idx prog Z c4 6 len)∧((0:Int)≤r)∧(r < (len:Int))∧∃row:List D,(Row Z c4 (Int.toNat r) row)∧∃n n1:Int,∃d d1 d2:D,∃b:Bool,((List.take 6 row) =([iD n,iD n1,d,d1,d2, .bool b]:List D))∧DCalls prog b_a [.one d2] Z (fun r1 Z1=>∃d3:D,(r1=(.a (.one d3) :RV))∧∃len1:Nat,(Len d len1)∧∃I:D→Int→Store→Prop,∃μ:D→Int→Store→Nat,(I d3 0 Z1)∧∀d4:D,∀n2:Int,∀Z2,(I d4 n2 Z2)→a_b (decide (n2 < (len1:Int))) (∃len2:Nat,(Idx prog Z2 d 3 len2)∧((0:Int)≤n2)∧(n2 < (len2:Int))∧∃row1:List D,(Row Z2 d (Int.toNat n2) row1)∧∃n3 n4 n5:Int,((List.take 3 row1) =([iD n3,iD n4,iD n5]:List D))∧Fw.newObj Z2 (.live a_i [[iD n3]]) (fun id Z3=>a_v prog Z3 a_i 8 d4 (.osl id 0 1) (fun d5 Z4=>(([[iD n,iD n1,d,d1,d2, .bool b]]:List (List D)) =([[iD n,iD n1,d,d1,d2, .bool b]]:List (List D)))∧(I d5 (w64 (n2+1)) Z4)∧((μ d5 (w64 (n2+1)) Z4) < (μ d4 n2 Z2))))) (∃len2:Nat,(Len d1 len2)∧∃I1:D→Int→Store→Prop,∃μ1:D→Int→Store→Nat,(I1 d4 0 Z2)∧∀d5:D,∀n3:Int,∀Z3,(I1 d5 n3 Z3)→a_b (decide (n3 < (len2:Int))) (∃len3:Nat,(Idx prog Z3 d1 2 len3)∧((0:Int)≤n3)∧(n3 < (len3:Int))∧∃row1:List D,(Row Z3 d1 (Int.toNat n3) row1)∧∃n4 n5:Int,((List.take 2 row1) =([iD n4,iD n5]:List D))∧Fw.newObj Z3 (.live a_i [[iD n4]]) (fun id Z4=>a_v prog Z4 a_i 8 d5 (.osl id 0 1) (fun d6 Z5=>(I1 d6 (w64 (n3+1)) Z5)∧((μ1 d6 (w64 (n3+1)) Z5) < (μ1 d5 n3 Z3))))) (DCalls prog l_x [.one d5] Z3 (fun r2 Z4=>(r2=(.tup []:RV))∧DCalls prog j_d [.one d5] Z4 (fun r3 Z5=>∃d6:D,(r3=(.a (.one d6) :RV))∧Qp (.a (.one d6)) Z5))))))→R Z)→a_b (decide (r < 0)) (Qp (.a (.one .nils)) σ) (∃len:Nat,(Len c4 len)∧a_b (decide (r≥(len:Int))) (Qp (.a (.one .nils)) σ) (R σ))
theorem a_k8 (c0 c1 c2 c3 c4:D)(c5 c6 c7 c8 r:Int)(σ:Store)(Qp:RV→Store→Prop)(h:a_mi c0 c1 c2 c3 c4 c5 c6 c7 c8 r σ Qp) :DCalls prog o_f [.agg [c0,c1,c2,c3,c4,iD c5,iD c6,iD c7,iD c8],iA r] σ Qp:=
 a_a mixed (by kernel_rfl) Tryz.func106 a_ja (Eq.mp (by kernel_rfl) h)
def o_8:Ann:= { }
def q_r (s:D)(v:Int)(σ:Store)(Qp:RV→Store→Prop) :Prop:=
 DCalls prog e_4 [.one s,iA v] σ (fun r Z=>∃n:Int,(r=(.a (iA n) :RV))∧Qp (.a (.one (.bool (decide (n≥0))))) Z)
theorem q_o (s:D)(v:Int)(σ:Store)(Qp:RV→Store→Prop)(h:q_r s v σ Qp) :DCalls prog c_b [.one s,iA v] σ Qp:=
 a_a mixed (by kernel_rfl) Tryz.func110 o_8 (Eq.mp (by kernel_rfl) h)
def p_8:Ann:= { }
def r_a (s:D)(σ:Store)(Qp:RV→Store→Prop) :Prop:=
 ∃b:Bool,(i_d .sl s b)∧a_b (b != false) (Qp (.a (.one .nils)) σ) (Fw.newObj σ (.live b_d []) (fun id Z=>a_v prog Z b_d 16 (.osl id 0 0) s (fun d Z1=>Qp (.a (.one d)) Z1)))
theorem r_q (s:D)(σ:Store)(Qp:RV→Store→Prop)(h:r_a s σ Qp) :DCalls prog b_h [.one s] σ Qp:=
 a_a mixed (by kernel_rfl) Tryz.func114 p_8 (Eq.mp (by kernel_rfl) h)
def y_q:Ann:= { }
def a_ab (d:D)(section_ who:Int)(σ:Store)(Qp:RV→Store→Prop) :Prop:=
 (a_f d)∧∃s:D,∃i off:Nat,(d=(.el s i off:D))∧∃row:List D,(Row σ s i row)∧∃d1:D,((List.take 1 (List.drop ((off+0) +0) row)) =([d1]:List D))∧∃len:Nat,(Idx prog σ d1 1 len)∧((0:Int)≤section_)∧(section_ < (len:Int))∧a_j [iD who] σ d1 (Int.toNat section_) 0 (fun Z=>(a_f d)∧∃s1:D,∃i1 off1:Nat,(d=(.el s1 i1 off1:D))∧a_j [.bool true] Z s1 i1 ((off1+0) +6) (fun Z1=>Qp (.tup []) Z1))
theorem a_ah (d:D)(section_ who:Int)(σ:Store)(Qp:RV→Store→Prop)(h:a_ab d section_ who σ Qp) :DCalls prog f_z [.one d,iA section_,iA who] σ Qp:=
 a_a mixed (by kernel_rfl) Tryz.func118 y_q (Eq.mp (by kernel_rfl) h)
def s_m:Ann:= { }
def t_2 (x:D)(s:Int)(σ:Store)(Qp:RV→Store→Prop) :Prop:=
 (a_f x)∧∃s1:D,∃i off:Nat,(x=(.el s1 i off:D))∧∃row:List D,(Row σ s1 i row)∧∃d:D,((List.take 1 (List.drop ((off+13) +0) row)) =([d]:List D))∧∃len:Nat,(Idx prog σ d 1 len)∧((0:Int)≤s)∧(s < (len:Int))∧a_j [iD 0] σ d (Int.toNat s) 0 (fun Z=>(a_f x)∧∃s2:D,∃i1 off1:Nat,(x=(.el s2 i1 off1:D))∧a_j [.bool true] Z s2 i1 ((off1+13) +6) (fun Z1=>Qp (.tup []) Z1))
theorem u_o (x:D)(s:Int)(σ:Store)(Qp:RV→Store→Prop)(h:t_2 x s σ Qp) :DCalls prog d_d [.one x,iA s] σ Qp:=
 a_a mixed (by kernel_rfl) Tryz.func122 s_m (Eq.mp (by kernel_rfl) h)
def a_hy:Ann:= { draws:= [(10,{ ord:= [0,1,2,3,4,5,6,7,8,9,10,11,12,13,14,15,16,17,18,19,20,21,22,23,24,25,26],nb:= [9] }),(12,{ ord:= [0,1,2,3,4,5,6] })],loops:= [(5,{ mods:= [(25,s6)],keep:= [0,5,23,24] }),(8,{ mods:= [(41,s6)],keep:= [0,5,7,23,24,25,39,40] }),(19,{ mods:= [(88,s6)],keep:= [5,10,86,87] })],joins:= [(3,{ keep:= [0,1] }),(23,{ keep:= [5,10,11,12,86,87,88] })] }
def a_mf (sections joints:D)(σ:Store)(Qp:RV→Store→Prop) :Prop:=
 ∀R:Store→Prop,(∀Z,(Fw.newObj Z (.mp 0 []) (fun id Z1=>∃len:Nat,(Len joints len)∧∃I:Int→Store→Prop,∃μ:Int→Store→Nat,(I 0 Z1)∧∀n:Int,∀Z2,(I n Z2)→a_b (decide (n < (len:Int))) (∃len1:Nat,(Idx prog Z2 joints 4 len1)∧((0:Int)≤n)∧(n < (len1:Int))∧∃row:List D,(Row Z2 joints (Int.toNat n) row)∧∃n1 n2 n3 n4:Int,((List.take 4 row) =([iD n1,iD n2,iD n3,iD n4]:List D))∧Fw.newObj Z2 (.live b_9 [[iD n1,iD n2],[iD n3,iD n4]]) (fun id1 Z3=>∃len2:Nat,(Len (.osl id1 0 2) len2)∧∃I1:Int→Store→Prop,∃μ1:Int→Store→Nat,(I1 0 Z3)∧∀n5:Int,∀Z4,(I1 n5 Z4)→a_b (decide (n5 < (len2:Int))) (∃len3:Nat,(Idx prog Z4 (.osl id1 0 2) 2 len3)∧((0:Int)≤n5)∧(n5 < (len3:Int))∧∃row1:List D,(Row Z4 (.osl id1 0 2) (Int.toNat n5) row1)∧∃n6 n7:Int,((List.take 2 row1) =([iD n6,iD n7]:List D))∧∃len4:Nat,(Len sections len4)∧DCalls prog d_r [iA n6,iA 0, .one (iD (w64 ((len4:Int) - 1)))] Z4 (fun r Z5=>∃b:Bool,(r=(.a (bA b) :RV))∧a_b (!b) (Qp (.a (iA 6)) Z5) (∃len5:Nat,(Idx prog Z5 sections 3 len5)∧((0:Int)≤n6)∧(n6 < (len5:Int))∧∃row2:List D,(Row Z5 sections (Int.toNat n6) row2)∧∃n8:Int,((List.take 1 row2) =([iD n8]:List D))∧DCalls prog i_9 [iA n8] Z5 (fun r1 Z6=>∃n9:Int,(r1=(.a (iA n9) :RV))∧DCalls prog d_r [iA n7,iA 0, .one (iD (w64 (n9 - 1)))] Z6 (fun r2 Z7=>∃b1:Bool,(r2=(.a (bA b1) :RV))∧a_b (!b1) (Qp (.a (iA 6)) Z7) (∃r3:Option A,(j_b prog b_9 Z7 (.omap id) (.agg [iD n6,iD n7]) r3)∧∃n10:Int,((Option.getD r3 (iA 0)) =(iA n10:A))∧a_b (decide (n10 > 0)) (Qp (.a (iA 6)) Z7) (∃r4:Option A,(j_b prog b_9 Z7 (.omap id) (.agg [iD n6,iD n7]) r4)∧∃n11:Int,((Option.getD r4 (iA 0)) =(iA n11:A))∧a_ll prog b_9 Z7 (.omap id) (.agg [iD n6,iD n7]) (iA 0) (fun (v:A)=>fun n12 Z8=>a_g5 Z8 (.omap id) n12 (.one (iD (w64 (n11+1)))) (fun Z9=>(([[iD n1,iD n2,iD n3,iD n4]]:List (List D)) =([[iD n1,iD n2,iD n3,iD n4]]:List (List D)))∧(I1 (w64 (n5+1)) Z9)∧((μ1 (w64 (n5+1)) Z9) < (μ1 n5 Z4))))))))))) (a_b (n1 == n3) (Qp (.a (iA 6)) Z4) ((I (w64 (n+1)) Z4)∧((μ (w64 (n+1)) Z4) < (μ n Z2)))))) (Fw.newObj Z2 (.mp 0 []) (fun id1 Z3=>∃len1:Nat,(Len sections len1)∧∃I1:Int→Store→Prop,∃μ1:Int→Store→Nat,(I1 0 Z3)∧∀n1:Int,∀Z4,(I1 n1 Z4)→a_b (decide (n1 < (len1:Int))) (∃len2:Nat,(Idx prog Z4 sections 3 len2)∧((0:Int)≤n1)∧(n1 < (len2:Int))∧∃row:List D,(Row Z4 sections (Int.toNat n1) row)∧∃n2 n3 n4:Int,((List.take 3 row) =([iD n2,iD n3,iD n4]:List D))∧∀R1:Store→Prop,(∀Z5,(a_b (n4 != 0) (a_b (n2 != 0) (Qp (.a (iA 6)) Z5) (∃r:Option A,(j_b prog b_9 Z5 (.omap id) (.agg [iD n1,iD 1]) r)∧∃n5:Int,((Option.getD r (iA 0)) =(iA n5:A))∧a_b (decide (n5 > 0)) (Qp (.a (iA 6)) Z5) (∃r1:Option A,(j_b prog a_i Z5 (.omap id1) (iA n4) r1)∧∃n6:Int,((Option.getD r1 (iA 0)) =(iA n6:A))∧a_b (decide (n6 > 0)) (Qp (.a (iA 6)) Z5) (∃r2:Option A,(j_b prog a_i Z5 (.omap id1) (iA n4) r2)∧∃n7:Int,((Option.getD r2 (iA 0)) =(iA n7:A))∧MPut prog a_i Z5 (.omap id1) (iA n4) (.one (iD (w64 (n7+1)))) (fun Z6=>(I1 (w64 (n1+1)) Z6)∧((μ1 (w64 (n1+1)) Z6) < (μ1 n1 Z4))))))) (∃r:Option A,(j_b prog a_i Z5 (.omap id1) (iA n4) r)∧∃n5:Int,((Option.getD r (iA 0)) =(iA n5:A))∧MPut prog a_i Z5 (.omap id1) (iA n4) (.one (iD (w64 (n5+1)))) (fun Z6=>(I1 (w64 (n1+1)) Z6)∧((μ1 (w64 (n1+1)) Z6) < (μ1 n1 Z4)))))→R1 Z5)→DCalls prog i_9 [iA n2] Z4 (fun r Z5=>∃n5:Int,(r=(.a (iA n5) :RV))∧a_b (n5 == 0) (Qp (.a (iA 6)) Z5) (DCalls prog d_r [iA n3,iA 0,iA 3] Z5 (fun r1 Z6=>∃b:Bool,(r1=(.a (bA b) :RV))∧a_b (!b) (Qp (.a (iA 6)) Z6) (DCalls prog d_r [iA n4,iA 0,iA 3] Z6 (fun r2 Z7=>∃b1:Bool,(r2=(.a (bA b1) :RV))∧a_b (!b1) (Qp (.a (iA 6)) Z7) ((([[iD n2,iD n3,iD n4]]:List (List D)) =([[iD n2,iD n3,iD n4]]:List (List D)))∧R1 Z7))))))) (Qp (.a (iA 0)) Z4)))))→R Z)→∃len:Nat,(Len sections len)∧DCalls prog d_r [iA (len:Int),iA 1,iA 16] σ (fun r Z=>∃b:Bool,(r=(.a (bA b) :RV))∧a_b (!b) (Qp (.a (iA 6)) Z) (∃len1:Nat,(Len joints len1)∧a_b (decide ((len1:Int) > 24)) (Qp (.a (iA 6)) Z) (R Z)))
theorem a_no (sections joints:D)(σ:Store)(Qp:RV→Store→Prop)(h:a_mf sections joints σ Qp) :DCalls prog o_6 [.one sections, .one joints] σ Qp:=
 a_a mixed (by kernel_rfl) Tryz.func126 a_hy (Eq.mp (by kernel_rfl) h)
def a_c0:Ann:= { }
def a_el (n lo hi:Int)(σ:Store)(Qp:RV→Store→Prop) :Prop:=
 a_b (decide (lo≤n)) (Qp (.a (.one (.bool (decide (n≤hi))))) σ) (Qp (.a (bA false)) σ)
theorem a_f6 (n lo hi:Int)(σ:Store)(Qp:RV→Store→Prop)(h:a_el n lo hi σ Qp) :DCalls prog c_4 [iA n,iA lo,iA hi] σ Qp:=
 a_a mixed (by kernel_rfl) Tryz.func130 a_c0 (Eq.mp (by kernel_rfl) h)
def j_u:Ann:= { }
def l_d (s f:D)(σ:Store)(Qp:RV→Store→Prop) :Prop:=
 DCalls prog e_m [.one s, .one f] σ (fun r Z=>∃n:Int,(r=(.a (iA n) :RV))∧Qp (.a (.one (.bool (decide (n≥0))))) Z)
theorem k_1 (s f:D)(σ:Store)(Qp:RV→Store→Prop)(h:l_d s f σ Qp) :DCalls prog c_r [.one s, .one f] σ Qp:=
 a_a mixed (by kernel_rfl) Tryz.func134 j_u (Eq.mp (by kernel_rfl) h)
def o_n:Ann:= { draws:= [(5,{ ord:= [0,1,2,3,4,5,6,7,8,9,10,11,12,13,14,15,16,17,18] })] }
def p_6 (d:D)(r section_:Int)(σ:Store)(Qp:RV→Store→Prop) :Prop:=
 (a_f d)∧∃s:D,∃i off:Nat,(d=(.el s i off:D))∧∃row:List D,(Row σ s i row)∧∃d1:D,((List.take 1 (List.drop ((off+9) +0) row)) =([d1]:List D))∧∃len:Nat,(Idx prog σ d1 1 len)∧((0:Int)≤section_)∧(section_ < (len:Int))∧∃row1:List D,(Row σ d1 (Int.toNat section_) row1)∧∃n:Int,((List.take 1 row1) =([iD n]:List D))∧a_b (decide ((w64 (n - 1)) < 0)) (Qp (.a (bA false)) σ) (a_b ((w64 (n - 1)) == r) (Qp (.a (bA false)) σ) ((a_f d)∧∃s1:D,∃i1 off1:Nat,(d=(.el s1 i1 off1:D))∧∃row2:List D,(Row σ s1 i1 row2)∧∃d2:D,((List.take 1 (List.drop ((off1+0) +4) row2)) =([d2]:List D))∧∃len1:Nat,(Idx prog σ d2 6 len1)∧((0:Int)≤(w64 (n - 1)))∧((w64 (n - 1)) < (len1:Int))∧∃row3:List D,(Row σ d2 (Int.toNat (w64 (n - 1))) row3)∧∃n1 n2:Int,∃d3 d4 d5:D,∃b:Bool,((List.take 6 row3) =([iD n1,iD n2,d3,d4,d5, .bool b]:List D))∧(a_f d)∧∃s2:D,∃i2 off2:Nat,(d=(.el s2 i2 off2:D))∧∃row4:List D,(Row σ s2 i2 row4)∧∃d6:D,((List.take 1 (List.drop ((off2+0) +4) row4)) =([d6]:List D))∧∃len2:Nat,(Idx prog σ d6 6 len2)∧((0:Int)≤r)∧(r < (len2:Int))∧∃row5:List D,(Row σ d6 (Int.toNat r) row5)∧∃n3:Int,((List.take 1 row5) =([iD n3]:List D))∧a_b (n2 == n3) (DCalls prog c_b [.one d5,iA section_] σ (fun r1 Z=>∃b1:Bool,(r1=(.a (bA b1) :RV))∧Qp (.a (bA b1)) Z)) (Qp (.a (bA false)) σ)))
theorem p_5 (d:D)(r section_:Int)(σ:Store)(Qp:RV→Store→Prop)(h:p_6 d r section_ σ Qp) :DCalls prog f_e [.one d,iA r,iA section_] σ Qp:=
 a_a mixed (by kernel_rfl) Tryz.func139 o_n (Eq.mp (by kernel_rfl) h)
def a_ea:Ann:= { cbs:= [3,4],draws:= [(3,{ ord:= [0,1,3,4,7,2,5,6,8,9,10],nb:= [4] })] }
def a_g2 (m0 m1 l0 l1:Int)(l2:Bool)(age:Int)(σ:Store)(Qp:RV→Store→Prop) :Prop:=
 a_b (!l2) (Qp (.a (bA false)) σ) (a_b (m0 == 0) (Qp (.a (bA false)) σ) (a_b (l0 != m0) (Qp (.a (bA false)) σ) (DCalls prog g_l [iA l1] σ (fun r Z=>∃n:Int,(r=(.a (iA n) :RV))∧DCalls prog g_l [iA m1] Z (fun r1 Z1=>∃n1:Int,(r1=(.a (iA n1) :RV))∧DCalls prog g_l [iA age] Z1 (fun r2 Z2=>∃n2:Int,(r2=(.a (iA n2) :RV))∧Qp (.a (.one (.bool (decide ((w64 (n - n1)) > n2))))) Z2))))))
theorem a_fn (m0 m1 l0 l1:Int)(l2:Bool)(age:Int)(σ:Store)(Qp:RV→Store→Prop)(h:a_g2 m0 m1 l0 l1 l2 age σ Qp) :DCalls prog h_r [.agg [iD m0,iD m1], .agg [iD l0,iD l1, .bool l2],iA age] σ Qp:=
 a_a mixed (by kernel_rfl) Tryz.func143 a_ea (Eq.mp (by kernel_rfl) h)
def r_p:Ann:= { }
def t_1 (t:D)(e_:Int)(σ:Store)(Qp:RV→Store→Prop) :Prop:=
 (a_f t)∧∃s:D,∃i off:Nat,(t=(.el s i off:D))∧∃row:List D,(Row σ s i row)∧∃n:Int,((List.take 1 (List.drop (off+0) row)) =([iD n]:List D))∧a_b (n == 0) ((a_f t)∧∃s1:D,∃i1 off1:Nat,(t=(.el s1 i1 off1:D))∧a_j [iD e_] σ s1 i1 (off1+0) (fun Z=>Qp (.tup []) Z)) (Qp (.tup []) σ)
theorem t_6 (t:D)(e_:Int)(σ:Store)(Qp:RV→Store→Prop)(h:t_1 t e_ σ Qp) :DCalls prog b_3 [.one t,iA e_] σ Qp:=
 a_a mixed (by kernel_rfl) Tryz.func147 r_p (Eq.mp (by kernel_rfl) h)
def a_lk:Ann:= { loops:= [(3,{ mods:= [(3,s6),(9,s6)],keep:= [7,8] })] }
def a_pq (kind:Int)(σ:Store)(Qp:RV→Store→Prop) :Prop:=
 DCalls prog l_y [iA kind] σ (fun r Z=>∃d:D,(r=(.a (.one d) :RV))∧∃len:Nat,(Len d len)∧∃I:Int→Int→Store→Prop,∃μ:Int→Int→Store→Nat,(I 0 0 Z)∧∀n n1:Int,∀Z1,(I n n1 Z1)→a_b (decide (n1 < (len:Int))) (∃len1:Nat,(Idx prog Z1 d 3 len1)∧((0:Int)≤n1)∧(n1 < (len1:Int))∧∃row:List D,(Row Z1 d (Int.toNat n1) row)∧∃n2 n3 n4:Int,((List.take 3 row) =([iD n2,iD n3,iD n4]:List D))∧((0:Int)≤0)∧((0:Int) < (2:Int))∧((0:Int)≤1)∧((1:Int) < (2:Int))∧(I (ite ((w64 (n3+1)) > (ite ((w64 (n2+1)) > n) (w64 (n2+1)) n)) (w64 (n3+1)) (ite ((w64 (n2+1)) > n) (w64 (n2+1)) n)) (w64 (n1+1)) Z1)∧((μ (ite ((w64 (n3+1)) > (ite ((w64 (n2+1)) > n) (w64 (n2+1)) n)) (w64 (n3+1)) (ite ((w64 (n2+1)) > n) (w64 (n2+1)) n)) (w64 (n1+1)) Z1) < (μ n n1 Z1))) (Qp (.a (iA n)) Z1))
theorem a_o8 (kind:Int)(σ:Store)(Qp:RV→Store→Prop)(h:a_pq kind σ Qp) :DCalls prog i_9 [iA kind] σ Qp:=
 a_a mixed (by kernel_rfl) Tryz.func151 a_lk (Eq.mp (by kernel_rfl) h)
def s_l:Ann:= { draws:= [(6,{ ord:= [0,1,2,3,4,5,6,7,8] })],loops:= [(4,{ mods:= [(13,s6)],keep:= [0,1,12] })] }
def t_y (s1 s2:D)(σ:Store)(Qp:RV→Store→Prop) :Prop:=
 ∃len:Nat,(Len s1 len)∧∃len1:Nat,(Len s2 len1)∧a_b ((len:Int) !=(len1:Int)) (Qp (.a (bA false)) σ) (∃len2:Nat,(Len s1 len2)∧∃I:Int→Store→Prop,∃μ:Int→Store→Nat,(I 0 σ)∧∀n:Int,∀Z,(I n Z)→a_b (decide (n < (len2:Int))) (∃len3:Nat,(Idx prog Z s1 2 len3)∧((0:Int)≤n)∧(n < (len3:Int))∧∃row:List D,(Row Z s1 (Int.toNat n) row)∧∃n1 n2:Int,((List.take 2 row) =([iD n1,iD n2]:List D))∧∃len4:Nat,(Idx prog Z s2 2 len4)∧((0:Int)≤n)∧(n < (len4:Int))∧∃row1:List D,(Row Z s2 (Int.toNat n) row1)∧∃n3 n4:Int,((List.take 2 row1) =([iD n3,iD n4]:List D))∧a_b (!((n1 == n3) && (n2 == n4))) (Qp (.a (bA false)) Z) ((I (w64 (n+1)) Z)∧((μ (w64 (n+1)) Z) < (μ n Z)))) (Qp (.a (bA true)) Z))
theorem t_v (s1 s2:D)(σ:Store)(Qp:RV→Store→Prop)(h:t_y s1 s2 σ Qp) :DCalls prog g_d [.one s1, .one s2] σ Qp:=
 a_a mixed (by kernel_rfl) Tryz.func155 s_l (Eq.mp (by kernel_rfl) h)
def q_w:Ann:= { cbs:= [2,3],joins:= [(4,{ keep:= [2,3,5] })] }
def t_8 (p0 p1 p2 p3 p4:D)(p5 p6 p7 p8 r0 r1:Int)(r2 r3 r4:D)(r5:Bool)(σ:Store)(Qp:RV→Store→Prop) :Prop:=
 DCalls prog c_y [.agg [p0,p1,p2,p3,p4,iD p5,iD p6,iD p7,iD p8],iA r1] σ (fun r Z=>∃n n1:Int,∃b:Bool,(r=(.tup [.agg [iD n,iD n1],bA b]:RV))∧∀R:Store→Prop,(∀Z1,(DCalls prog f_p [.one p1,iA n,iA n1] Z1 (fun r6 Z2=>∃n2 n3:Int,∃b1:Bool,(r6=(.tup [iA n2,iA n3,bA b1]:RV))∧DCalls prog b_2 [.agg [p0,p1,p2,p3,p4,iD p5,iD p6,iD p7,iD p8],iA n2] Z2 (fun r7 Z3=>∃n4 n5 n6:Int,∃b2:Bool,(r7=(.tup [.agg [iD n4,iD n5,iD n6],bA b2]:RV))∧a_b (!b1) (Qp (.a (.one .nils)) Z3) (a_b (!b2) (Qp (.a (.one .nils)) Z3) (a_b (n6 != 0) (Qp (.a (.one .nils)) Z3) (DCalls prog o_e [.one r2,iA n2] Z3 (fun r8 Z4=>∃b3:Bool,(r8=(.a (bA b3) :RV))∧a_b b3 (Qp (.a (.one .nils)) Z4) (DCalls prog c_1 [.agg [p0,p1,p2,p3,p4,iD p5,iD p6,iD p7,iD p8], .agg [iD r0,iD r1,r2,r3,r4, .bool r5]] Z4 (fun r9 Z5=>∃n7:Int,(r9=(.a (iA n7) :RV))∧a_b (n2 == n7) (Qp (.a (.one .nils)) Z5) (Fw.newObj Z5 (.live a_i [[iD n2]]) (fun id Z6=>Qp (.a (.one (.osl id 0 1))) Z6)))))))))))→R Z1)→a_b r5 (Qp (.a (.one .nils)) Z) (a_b (!b) (Qp (.a (.one .nils)) Z) ((([[iD n,iD n1]]:List (List D)) =([[iD n,iD n1]]:List (List D)))∧R Z)))
theorem u_k (p0 p1 p2 p3 p4:D)(p5 p6 p7 p8 r0 r1:Int)(r2 r3 r4:D)(r5:Bool)(σ:Store)(Qp:RV→Store→Prop)(h:t_8 p0 p1 p2 p3 p4 p5 p6 p7 p8 r0 r1 r2 r3 r4 r5 σ Qp) :DCalls prog g_h [.agg [p0,p1,p2,p3,p4,iD p5,iD p6,iD p7,iD p8], .agg [iD r0,iD r1,r2,r3,r4, .bool r5]] σ Qp:=
 a_a mixed (by kernel_rfl) Tryz.func159 q_w (Eq.mp (by kernel_rfl) h)
def n_4:Ann:= { loops:= [(2,{ mods:= [(8,s6)],keep:= [0,1,7] })] }
def o_d (s f:D)(σ:Store)(Qp:RV→Store→Prop) :Prop:=
 ∃len:Nat,(Len s len)∧∃I:Int→Store→Prop,∃μ:Int→Store→Nat,(I 0 σ)∧∀n:Int,∀Z,(I n Z)→a_b (decide (n < (len:Int))) (∃len1:Nat,(Idx prog Z s 1 len1)∧((0:Int)≤n)∧(n < (len1:Int))∧∃row:List D,(Row Z s (Int.toNat n) row)∧∃n1:Int,((List.take 1 row) =([iD n1]:List D))∧∃f1:FuncId,∃a:List (Bool × (List D)),∃b:List (Bool × (List D)),∃as0':List A,∃bs:List A,(f=(.fn f1 a b:D))∧((f_v a) =(Option.some as0'))∧((f_v b) =(Option.some bs))∧DCalls prog f1 (HAppend.hAppend (HAppend.hAppend as0' [iA n1]) bs) Z (fun r Z1=>∃b1:Bool,(r=(.a (bA b1) :RV))∧a_b b1 (Qp (.a (iA n)) Z1) ((I (w64 (n+1)) Z1)∧((μ (w64 (n+1)) Z1) < (μ n Z))))) (Qp (.a (iA (-1))) Z)
theorem o_l (s f:D)(σ:Store)(Qp:RV→Store→Prop)(h:o_d s f σ Qp) :DCalls prog e_z [.one s, .one f] σ Qp:=
 a_a mixed (by kernel_rfl) Tryz.func165 n_4 (Eq.mp (by kernel_rfl) h)
def l_o:Ann:= { cbs:= [3] }
def m_9 (s:D)(v0 v1:Int)(σ:Store)(Qp:RV→Store→Prop) :Prop:=
 DCalls prog f_i [.one s, .agg [iD v0,iD v1]] σ (fun r Z=>∃n:Int,(r=(.a (iA n) :RV))∧Qp (.a (.one (.bool (decide (n≥0))))) Z)
theorem m_8 (s:D)(v0 v1:Int)(σ:Store)(Qp:RV→Store→Prop)(h:m_9 s v0 v1 σ Qp) :DCalls prog e_f [.one s, .agg [iD v0,iD v1]] σ Qp:=
 a_a mixed (by kernel_rfl) Tryz.func169 l_o (Eq.mp (by kernel_rfl) h)
def o_m:Ann:= { cbs:= [3],draws:= [(4,{ ord:= [0,1,2,3,4,5] })],loops:= [(2,{ mods:= [(8,s6)],keep:= [0,3,7] })] }
def q_k (s:D)(v0 v1:Int)(σ:Store)(Qp:RV→Store→Prop) :Prop:=
 ∃len:Nat,(Len s len)∧∃I:Int→Store→Prop,∃μ:Int→Store→Nat,(I 0 σ)∧∀n:Int,∀Z,(I n Z)→a_b (decide (n < (len:Int))) (∃len1:Nat,(Idx prog Z s 2 len1)∧((0:Int)≤n)∧(n < (len1:Int))∧∃row:List D,(Row Z s (Int.toNat n) row)∧∃n1 n2:Int,((List.take 2 row) =([iD n1,iD n2]:List D))∧a_b ((v0 == n1) && (v1 == n2)) (Qp (.a (iA n)) Z) ((I (w64 (n+1)) Z)∧((μ (w64 (n+1)) Z) < (μ n Z)))) (Qp (.a (iA (-1))) Z)
theorem p_4 (s:D)(v0 v1:Int)(σ:Store)(Qp:RV→Store→Prop)(h:q_k s v0 v1 σ Qp) :DCalls prog f_i [.one s, .agg [iD v0,iD v1]] σ Qp:=
 a_a mixed (by kernel_rfl) Tryz.func184 o_m (Eq.mp (by kernel_rfl) h)
end Go.Proofs.YtdmfnhbmhkgemaaGreat
end
section
set_option maxRecDepth 100000
namespace Go.Proofs.YtdmfnhbmhkgemaaGreat
open Go.Fw Go.Proofs
open Go.Proofs.Tryz (prog)
def a_gm:Ann:= { cbs:= [1],draws:= [(14,{ ord:= [0,1,2,3,4,6,7,5,8,9,10],nb:= [1,2,7] }),(16,{ ord:= [0,1,2,3,4,5,6],nb:= [1] })],loops:= [(10,{ mods:= [(25,s6)],keep:= [1,23,24] })] }
def a_jy (c0 c1 c2 c3 c4:D)(c5 c6 c7 c8:Int)(σ:Store)(Qp:RV→Store→Prop) :Prop:=
 DCalls prog m_0 [.one c0, .one c1] σ (fun r Z=>∃n:Int,(r=(.a (iA n) :RV))∧a_b (n != 0) (Qp (.a (iA 6)) Z) (DCalls prog j_o [.agg [c0,c1,c2,c3,c4,iD c5,iD c6,iD c7,iD c8]] Z (fun r1 Z1=>∃b:Bool,(r1=(.a (bA b) :RV))∧a_b (!b) (Qp (.a (iA 7)) Z1) (DCalls prog h_7 [.agg [c0,c1,c2,c3,c4,iD c5,iD c6,iD c7,iD c8]] Z1 (fun r2 Z2=>∃b1:Bool,(r2=(.a (bA b1) :RV))∧a_b (!b1) (Qp (.a (iA 8)) Z2) (∃len:Nat,(Len c4 len)∧a_b (decide ((len:Int) > 12)) (Qp (.a (iA 9)) Z2) (∃len1:Nat,(Len c4 len1)∧∃I:Int→Store→Prop,∃μ:Int→Store→Nat,(I 0 Z2)∧∀n1:Int,∀Z3,(I n1 Z3)→a_b (decide (n1 < (len1:Int))) (∃len2:Nat,(Idx prog Z3 c4 6 len2)∧((0:Int)≤n1)∧(n1 < (len2:Int))∧∃row:List D,(Row Z3 c4 (Int.toNat n1) row)∧∃n2 n3:Int,∃d d1 d2:D,∃b2:Bool,((List.take 6 row) =([iD n2,iD n3,d,d1,d2, .bool b2]:List D))∧DCalls prog o_o [.agg [c0,c1,c2,c3,c4,iD c5,iD c6,iD c7,iD c8], .agg [iD n2,iD n3,d,d1,d2, .bool b2]] Z3 (fun r3 Z4=>∃b3:Bool,(r3=(.a (bA b3) :RV))∧a_b (!b3) (Qp (.a (iA 9)) Z4) (DCalls prog i_r [.agg [c0,c1,c2,c3,c4,iD c5,iD c6,iD c7,iD c8],iA n1] Z4 (fun r4 Z5=>∃n4:Int,(r4=(.a (iA n4) :RV))∧DCalls prog m_p [.agg [c0,c1,c2,c3,c4,iD c5,iD c6,iD c7,iD c8],iA n4, .one d] Z5 (fun r5 Z6=>∃d3:D,(r5=(.a (.one d3) :RV))∧DCalls prog h_w [.one d1, .one d3] Z6 (fun r6 Z7=>∃b4:Bool,(r6=(.a (bA b4) :RV))∧a_b (!b4) (Qp (.a (iA 10)) Z7) (DCalls prog j_k [.agg [c0,c1,c2,c3,c4,iD c5,iD c6,iD c7,iD c8], .agg [iD n2,iD n3,d,d1,d2, .bool b2]] Z7 (fun r7 Z8=>∃d4:D,(r7=(.a (.one d4) :RV))∧DCalls prog i_q [.one d2, .one d4] Z8 (fun r8 Z9=>∃b5:Bool,(r8=(.a (bA b5) :RV))∧a_b (!b5) (Qp (.a (iA 11)) Z9) ((I (w64 (n1+1)) Z9)∧((μ (w64 (n1+1)) Z9) < (μ n1 Z3)))))))))))) (a_b (decide (c5 < 1)) (Qp (.a (iA 12)) Z3) (a_b (decide (c5 > 8)) (Qp (.a (iA 12)) Z3) (a_b (decide (c6 < 0)) (Qp (.a (iA 12)) Z3) (a_b (decide (c6 > 8)) (Qp (.a (iA 12)) Z3) (a_b (decide (c7 < (w64 ((w64 (c5+c6)) +1)))) (Qp (.a (iA 12)) Z3) (a_b (decide (c7 > 40)) (Qp (.a (iA 12)) Z3) (a_b (decide (c8 < 1)) (Qp (.a (iA 12)) Z3) (a_b (decide (c8 > 1000000)) (Qp (.a (iA 12)) Z3) (Qp (.a (iA 0)) Z3))))))))))))))))
theorem a_hq (c0 c1 c2 c3 c4:D)(c5 c6 c7 c8:Int)(σ:Store)(Qp:RV→Store→Prop)(h:a_jy c0 c1 c2 c3 c4 c5 c6 c7 c8 σ Qp) :DCalls prog i_y [.agg [c0,c1,c2,c3,c4,iD c5,iD c6,iD c7,iD c8]] σ Qp:=
 a_a mixed (by kernel_rfl) Tryz.func6 a_gm (Eq.mp (by kernel_rfl) h)
def a_f5:Ann:= { esc:= [11],cbs:= [2,3],loops:= [(6,{ mods:= [(32,s6)],keep:= [5,30,31] })] }
def a_h2 (c0 c1 c2 c3 c4:D)(c5 c6 c7 c8:Int)(k0 k1 k2 k3 k4 k5:D)(k6:Bool)(σ:Store)(Qp:RV→Store→Prop) :Prop:=
 Fw.newObj σ (.live m_6 [[k0,k1,k2,k3,k4,k5, .bool k6,c0,c1,c2,c3,c4,iD c5,iD c6,iD c7,iD c8, .nils]]) (fun id Z=>DCalls prog d_8 [.agg [c0,c1,c2,c3,c4,iD c5,iD c6,iD c7,iD c8], .agg [k0,k1,k2,k3,k4,k5, .bool k6]] Z (fun r Z1=>∃b:Bool,(r=(.a (bA b) :RV))∧a_b (!b) (DCalls prog a_s [.one (.el (.osl id 0 1) 0 0),bA true,iA 1,iA (-1),iA (-1)] Z1 (fun r1 Z2=>(r1=(.tup []:RV))∧∃row:List D,(Row Z2 (.osl id 0 1) 0 row)∧∃d:D,((List.take 1 (List.drop 16 row)) =([d]:List D))∧Qp (.a (.one d)) Z2)) (Fw.newObj Z1 (.live t_x1 [[.fn d_9 [(false,[.el (.osl id 0 1) 0 0])] []],[.fn d_4 [(false,[.el (.osl id 0 1) 0 0])] []],[.fn e_i [(false,[.el (.osl id 0 1) 0 0])] []],[.fn e_j [(false,[.el (.osl id 0 1) 0 0])] []]]) (fun id1 Z2=>∃len:Nat,(Len (.osl id1 0 4) len)∧∃I:Int→Store→Prop,∃μ:Int→Store→Nat,(I 0 Z2)∧∀n:Int,∀Z3,(I n Z3)→a_b (decide (n < (len:Int))) (∃len1:Nat,(Idx prog Z3 (.osl id1 0 4) 1 len1)∧((0:Int)≤n)∧(n < (len1:Int))∧∃row:List D,(Row Z3 (.osl id1 0 4) (Int.toNat n) row)∧∃d:D,((List.take 1 row) =([d]:List D))∧∃f:FuncId,∃a:List (Bool × (List D)),∃b1:List (Bool × (List D)),∃as0':List A,∃bs:List A,(d=(.fn f a b1:D))∧((f_v a) =(Option.some as0'))∧((f_v b1) =(Option.some bs))∧DCalls prog f (HAppend.hAppend (HAppend.hAppend as0' []) bs) Z3 (fun r1 Z4=>(r1=(.tup []:RV))∧(I (w64 (n+1)) Z4)∧((μ (w64 (n+1)) Z4) < (μ n Z3)))) (∃row:List D,(Row Z3 (.osl id 0 1) 0 row)∧∃d:D,((List.take 1 (List.drop 16 row)) =([d]:List D))∧Qp (.a (.one d)) Z3)))))
theorem a_id (c0 c1 c2 c3 c4:D)(c5 c6 c7 c8:Int)(k0 k1 k2 k3 k4 k5:D)(k6:Bool)(σ:Store)(Qp:RV→Store→Prop)(h:a_h2 c0 c1 c2 c3 c4 c5 c6 c7 c8 k0 k1 k2 k3 k4 k5 k6 σ Qp) :DCalls prog f_b [.agg [c0,c1,c2,c3,c4,iD c5,iD c6,iD c7,iD c8], .agg [k0,k1,k2,k3,k4,k5, .bool k6]] σ Qp:=
 a_a mixed (by kernel_rfl) Tryz.func10 a_f5 (Eq.mp (by kernel_rfl) h)
def a_hn:Ann:= { draws:= [(14,{ ord:= [0,1,2,3,4,5,6,7] }),(22,{ ord:= [0,1,2,3,4,5,6,7,8,9,10,11,12,13,14,15,16,17,18,19,20,21,22,23,24,25,26,27,28,29,30,31,32,33,34,35,36,37,38,39,40,41,42,43,44,45,46,47,48,49],nb:= [5,22] })],loops:= [(4,{ mods:= [(25,s6)],keep:= [0,1,23,24] }),(12,{ mods:= [(7,s6)],keep:= [0,1,5,6,23,24,25] }),(18,{ mods:= [(82,s6)],keep:= [0,1,80,81] })],joins:= [(3,{ keep:= [0,1] }),(8,{ keep:= [0,1,5,6,23,24,25] }),(24,{ keep:= [0,1,80,81,82] }),(22,{ keep:= [0,1,9,80,81,82] })] }
def a_ia (sections joints:D)(σ:Store)(Qp:RV→Store→Prop) :Prop:=
 ∀R:Store→Prop,(∀Z,(∃len:Nat,(Len sections len)∧∃I:Int→Store→Prop,∃μ:Int→Store→Nat,(I 0 Z)∧∀n:Int,∀Z1,(I n Z1)→a_b (decide (n < (len:Int))) (∃len1:Nat,(Idx prog Z1 sections 3 len1)∧((0:Int)≤n)∧(n < (len1:Int))∧∃row:List D,(Row Z1 sections (Int.toNat n) row)∧∃n1 n2 n3:Int,((List.take 3 row) =([iD n1,iD n2,iD n3]:List D))∧∀R1:Store→Prop,(∀Z2,(a_b (n3 == 0) ((I (w64 (n+1)) Z2)∧((μ (w64 (n+1)) Z2) < (μ n Z1))) (a_b (n1 != 0) (Qp (.a (iA 6)) Z2) (DCalls prog g_q [.one joints,iA n,iA 1] Z2 (fun r Z3=>∃n4:Int,(r=(.a (iA n4) :RV))∧a_b (decide (n4 > 0)) (Qp (.a (iA 6)) Z3) (∃I1:Int→Store→Prop,∃μ1:Int→Store→Nat,(I1 0 Z3)∧∀n5:Int,∀Z4,(I1 n5 Z4)→a_b (decide (n5 < n)) (∃len2:Nat,(Idx prog Z4 sections 3 len2)∧((0:Int)≤n5)∧(n5 < (len2:Int))∧∃row1:List D,(Row Z4 sections (Int.toNat n5) row1)∧∃n6:Int,((List.take 1 (List.drop 2 row1)) =([iD n6]:List D))∧a_b (n6 == n3) (Qp (.a (iA 6)) Z4) ((([[iD n1,iD n2,iD n3]]:List (List D)) =([[iD n1,iD n2,iD n3]]:List (List D)))∧(I1 (w64 (n5+1)) Z4)∧((μ1 (w64 (n5+1)) Z4) < (μ1 n5 Z4)))) ((I (w64 (n+1)) Z4)∧((μ (w64 (n+1)) Z4) < (μ n Z1))))))))→R1 Z2)→DCalls prog f_1 [iA n1] Z1 (fun r Z2=>∃n4:Int,(r=(.a (iA n4) :RV))∧a_b (n4 == 0) (Qp (.a (iA 6)) Z2) (a_b (decide (n2 < 0)) (Qp (.a (iA 6)) Z2) (a_b (decide (n2≥4)) (Qp (.a (iA 6)) Z2) (a_b (decide (n3 < 0)) (Qp (.a (iA 6)) Z2) (a_b (decide (n3 > 3)) (Qp (.a (iA 6)) Z2) ((([[iD n1,iD n2,iD n3]]:List (List D)) =([[iD n1,iD n2,iD n3]]:List (List D)))∧R1 Z2))))))) (∃len1:Nat,(Len joints len1)∧∃I1:Int→Store→Prop,∃μ1:Int→Store→Nat,(I1 0 Z1)∧∀n1:Int,∀Z2,(I1 n1 Z2)→a_b (decide (n1 < (len1:Int))) (∀R1:Store→Prop,(∀Z3,((I1 (w64 (n1+1)) Z3)∧((μ1 (w64 (n1+1)) Z3) < (μ1 n1 Z2)))→R1 Z3)→∃len2:Nat,(Idx prog Z2 joints 4 len2)∧((0:Int)≤n1)∧(n1 < (len2:Int))∧∃row:List D,(Row Z2 joints (Int.toNat n1) row)∧∃n2 n3 n4 n5:Int,((List.take 4 row) =([iD n2,iD n3,iD n4,iD n5]:List D))∧∀R2:Store→Prop,(∀Z3,(a_b (decide (n3 < 0)) (Qp (.a (iA 6)) Z3) (∃len3:Nat,(Idx prog Z3 sections 3 len3)∧((0:Int)≤n2)∧(n2 < (len3:Int))∧∃row1:List D,(Row Z3 sections (Int.toNat n2) row1)∧∃n6:Int,((List.take 1 row1) =([iD n6]:List D))∧DCalls prog f_1 [iA n6] Z3 (fun r Z4=>∃n7:Int,(r=(.a (iA n7) :RV))∧a_b (decide (n3≥n7)) (Qp (.a (iA 6)) Z4) (a_b (decide (n5 < 0)) (Qp (.a (iA 6)) Z4) (∃len4:Nat,(Idx prog Z4 sections 3 len4)∧((0:Int)≤n4)∧(n4 < (len4:Int))∧∃row2:List D,(Row Z4 sections (Int.toNat n4) row2)∧∃n8:Int,((List.take 1 row2) =([iD n8]:List D))∧DCalls prog f_1 [iA n8] Z4 (fun r1 Z5=>∃n9:Int,(r1=(.a (iA n9) :RV))∧a_b (decide (n5≥n9)) (Qp (.a (iA 6)) Z5) (DCalls prog g_q [.one joints,iA n2,iA n3] Z5 (fun r2 Z6=>∃n10:Int,(r2=(.a (iA n10) :RV))∧a_b (decide (n10 > 1)) (Qp (.a (iA 6)) Z6) (DCalls prog g_q [.one joints,iA n4,iA n5] Z6 (fun r3 Z7=>∃n11:Int,(r3=(.a (iA n11) :RV))∧a_b (decide (n11 > 1)) (Qp (.a (iA 6)) Z7) (R1 Z7)))))))))))→R2 Z3)→a_b (decide (n2 < 0)) (Qp (.a (iA 6)) Z2) (∃len3:Nat,(Len sections len3)∧a_b (decide (n2≥(len3:Int))) (Qp (.a (iA 6)) Z2) (a_b (decide (n4 < 0)) (Qp (.a (iA 6)) Z2) (∃len4:Nat,(Len sections len4)∧a_b (decide (n4≥(len4:Int))) (Qp (.a (iA 6)) Z2) (a_b (n2 == n4) (Qp (.a (iA 6)) Z2) ((([[iD n2,iD n3,iD n4,iD n5]]:List (List D)) =([[iD n2,iD n3,iD n4,iD n5]]:List (List D)))∧R2 Z2)))))) (Qp (.a (iA 0)) Z2)))→R Z)→∃len:Nat,(Len sections len)∧a_b (decide ((len:Int) < 1)) (Qp (.a (iA 6)) σ) (∃len1:Nat,(Len sections len1)∧a_b (decide ((len1:Int) > 16)) (Qp (.a (iA 6)) σ) (∃len2:Nat,(Len joints len2)∧a_b (decide ((len2:Int) > 24)) (Qp (.a (iA 6)) σ) (R σ)))
theorem a_i0 (sections joints:D)(σ:Store)(Qp:RV→Store→Prop)(h:a_ia sections joints σ Qp) :DCalls prog m_0 [.one sections, .one joints] σ Qp:=
 a_a mixed (by kernel_rfl) Tryz.func14 a_hn (Eq.mp (by kernel_rfl) h)
def v_5:Ann:= { draws:= [(6,{ ord:= [0,1,2,3,4,5,6,7,8] })],loops:= [(4,{ mods:= [(13,s6)],keep:= [0,1,12] })] }
def x_5 (a b:D)(σ:Store)(Qp:RV→Store→Prop) :Prop:=
 ∃len:Nat,(Len a len)∧∃len1:Nat,(Len b len1)∧a_b ((len:Int) !=(len1:Int)) (Qp (.a (bA false)) σ) (∃len2:Nat,(Len a len2)∧∃I:Int→Store→Prop,∃μ:Int→Store→Nat,(I 0 σ)∧∀n:Int,∀Z,(I n Z)→a_b (decide (n < (len2:Int))) (∃len3:Nat,(Idx prog Z a 2 len3)∧((0:Int)≤n)∧(n < (len3:Int))∧∃row:List D,(Row Z a (Int.toNat n) row)∧∃n1 n2:Int,((List.take 2 row) =([iD n1,iD n2]:List D))∧∃len4:Nat,(Idx prog Z b 2 len4)∧((0:Int)≤n)∧(n < (len4:Int))∧∃row1:List D,(Row Z b (Int.toNat n) row1)∧∃n3 n4:Int,((List.take 2 row1) =([iD n3,iD n4]:List D))∧a_b (!((n1 == n3) && (n2 == n4))) (Qp (.a (bA false)) Z) ((I (w64 (n+1)) Z)∧((μ (w64 (n+1)) Z) < (μ n Z)))) (Qp (.a (bA true)) Z))
theorem y_b (a b:D)(σ:Store)(Qp:RV→Store→Prop)(h:x_5 a b σ Qp) :DCalls prog h_w [.one a, .one b] σ Qp:=
 a_a mixed (by kernel_rfl) Tryz.func18 v_5 (Eq.mp (by kernel_rfl) h)
def a_ac:Ann:= { cbs:= [2,3],joins:= [(3,{ keep:= [2,3] }),(8,{ mods:= [(9,s6)],keep:= [2,3,6,8] })] }
def a_ct (c0 c1 c2 c3 c4:D)(c5 c6 c7 c8 r0 r1:Int)(r2 r3 r4:D)(r5:Bool)(σ:Store)(Qp:RV→Store→Prop) :Prop:=
 ∀R:Store→Prop,(∀Z,(∃len:Nat,(Idx prog Z c2 2 len)∧((0:Int)≤r1)∧(r1 < (len:Int))∧∃row:List D,(Row Z c2 (Int.toNat r1) row)∧∃n n1:Int,((List.take 2 row) =([iD n,iD n1]:List D))∧DCalls prog e_2 [.one c1,iA n,iA n1] Z (fun r Z1=>∃n2 n3:Int,∃b:Bool,(r=(.tup [iA n2,iA n3,bA b]:RV))∧∀R1:Int→Store→Prop,(∀n4:Int,∀Z2,(a_b (!b) (Qp (.a (.one .nils)) Z2) (a_b (decide (n2 < 0)) (Qp (.a (.one .nils)) Z2) (∃len1:Nat,(Len c0 len1)∧a_b (decide (n2≥(len1:Int))) (Qp (.a (.one .nils)) Z2) (DCalls prog d_q [.one r2] Z2 (fun r6 Z3=>∃d:D,(r6=(.a (.one d) :RV))∧DCalls prog d_w [.one d,iA n2] Z3 (fun r7 Z4=>∃b1:Bool,(r7=(.a (bA b1) :RV))∧a_b b1 (Qp (.a (.one .nils)) Z4) (a_b (n2 == n4) (Qp (.a (.one .nils)) Z4) (∃len2:Nat,(Idx prog Z4 c0 3 len2)∧((0:Int)≤n2)∧(n2 < (len2:Int))∧∃row1:List D,(Row Z4 c0 (Int.toNat n2) row1)∧∃n5:Int,((List.take 1 (List.drop 2 row1)) =([iD n5]:List D))∧a_b (n5 != 0) (Qp (.a (.one .nils)) Z4) (Fw.newObj Z4 (.live a_i [[iD n2]]) (fun id Z5=>Qp (.a (.one (.osl id 0 1))) Z5))))))))))→R1 n4 Z2)→a_b (decide (r0≥0)) (∃len1:Nat,(Len c2 len1)∧a_b (decide (r0 < (len1:Int))) (∃len2:Nat,(Idx prog Z1 c2 2 len2)∧((0:Int)≤r0)∧(r0 < (len2:Int))∧∃row1:List D,(Row Z1 c2 (Int.toNat r0) row1)∧∃n4:Int,((List.take 1 row1) =([iD n4]:List D))∧R1 n4 Z1) (R1 (-1) Z1)) (R1 (-1) Z1)))→R Z)→a_b r5 (Qp (.a (.one .nils)) σ) (a_b (decide (r1 < 0)) (Qp (.a (.one .nils)) σ) (∃len:Nat,(Len c2 len)∧a_b (decide (r1≥(len:Int))) (Qp (.a (.one .nils)) σ) (R σ)))
theorem a_d5 (c0 c1 c2 c3 c4:D)(c5 c6 c7 c8 r0 r1:Int)(r2 r3 r4:D)(r5:Bool)(σ:Store)(Qp:RV→Store→Prop)(h:a_ct c0 c1 c2 c3 c4 c5 c6 c7 c8 r0 r1 r2 r3 r4 r5 σ Qp) :DCalls prog j_k [.agg [c0,c1,c2,c3,c4,iD c5,iD c6,iD c7,iD c8], .agg [iD r0,iD r1,r2,r3,r4, .bool r5]] σ Qp:=
 a_a mixed (by kernel_rfl) Tryz.func22 a_ac (Eq.mp (by kernel_rfl) h)
def a_dc:Ann:= { cbs:= [4,5] }
def a_eo (c0 c1 c2 c3 c4:D)(c5 c6 c7 c8:Int)(k0 k1 k2 k3 k4 k5:D)(k6:Bool)(now r:Int)(σ:Store)(Qp:RV→Store→Prop) :Prop:=
 Fw.newObj σ (.live a_i [[iD 1],[iD 2],[iD 3]]) (fun id Z=>DCalls prog h_1 [.agg [c0,c1,c2,c3,c4,iD c5,iD c6,iD c7,iD c8], .agg [k0,k1,k2,k3,k4,k5, .bool k6],iA r,iA 4,iA now, .one (.osl id 0 3)] Z (fun r1 Z1=>∃d d1 d2 d3 d4 d5:D,∃b:Bool,∃n:Int,(r1=(.tup [.agg [d,d1,d2,d3,d4,d5, .bool b],iA n]:RV))∧Qp (.tup [.agg [d,d1,d2,d3,d4,d5, .bool b],iA n]) Z1))
theorem a_es (c0 c1 c2 c3 c4:D)(c5 c6 c7 c8:Int)(k0 k1 k2 k3 k4 k5:D)(k6:Bool)(now r:Int)(σ:Store)(Qp:RV→Store→Prop)(h:a_eo c0 c1 c2 c3 c4 c5 c6 c7 c8 k0 k1 k2 k3 k4 k5 k6 now r σ Qp) :DCalls prog l_g [.agg [c0,c1,c2,c3,c4,iD c5,iD c6,iD c7,iD c8], .agg [k0,k1,k2,k3,k4,k5, .bool k6],iA now,iA r] σ Qp:=
 a_a mixed (by kernel_rfl) Tryz.func26 a_dc (Eq.mp (by kernel_rfl) h)
def a_fi:Ann:= { esc:= [8,9,7],cbs:= [5,6] }
def a_i1 (c0 c1 c2 c3 c4:D)(c5 c6 c7 c8:Int)(k0 k1 k2 k3 k4 k5:D)(k6:Bool)(now section_ pos:Int)(σ:Store)(Qp:RV→Store→Prop) :Prop:=
 Fw.newObj σ (.live a_i [[iD now]]) (fun id Z=>Fw.newObj Z (.live a_i [[iD section_]]) (fun id1 Z1=>Fw.newObj Z1 (.live a_i [[iD pos]]) (fun id2 Z2=>∃row:List D,(Row Z2 (.osl id 0 1) 0 row)∧∃n:Int,((List.take 1 row) =([iD n]:List D))∧DCalls prog e_l [.agg [c0,c1,c2,c3,c4,iD c5,iD c6,iD c7,iD c8], .agg [k0,k1,k2,k3,k4,k5, .bool k6],iA n, .one (.fn p_u [] [(false,[.el (.osl id1 0 1) 0 0]),(false,[.el (.osl id2 0 1) 0 0]),(false,[.el (.osl id 0 1) 0 0])])] Z2 (fun r Z3=>∃d d1 d2 d3 d4 d5:D,∃b:Bool,∃n1:Int,(r=(.tup [.agg [d,d1,d2,d3,d4,d5, .bool b],iA n1]:RV))∧Qp (.tup [.agg [d,d1,d2,d3,d4,d5, .bool b],iA n1]) Z3))))
theorem a_jr (c0 c1 c2 c3 c4:D)(c5 c6 c7 c8:Int)(k0 k1 k2 k3 k4 k5:D)(k6:Bool)(now section_ pos:Int)(σ:Store)(Qp:RV→Store→Prop)(h:a_i1 c0 c1 c2 c3 c4 c5 c6 c7 c8 k0 k1 k2 k3 k4 k5 k6 now section_ pos σ Qp) :DCalls prog m_1 [.agg [c0,c1,c2,c3,c4,iD c5,iD c6,iD c7,iD c8], .agg [k0,k1,k2,k3,k4,k5, .bool k6],iA now,iA section_,iA pos] σ Qp:=
 a_a mixed (by kernel_rfl) Tryz.func30 a_fi (Eq.mp (by kernel_rfl) h)
def a_hj:Ann:= { cbs:= [4,5,6],draws:= [(13,{ ord:= [0,1,2,3,4,5,6,7,8],sp:= [5] })],loops:= [(7,{ mods:= [(37,s6)],keep:= [8,11,36] })],joins:= [(6,{ mods:= [(8,SlotSh.bx [Sh.any,Sh.any,Sh.any,Sh.any,Sh.any,Sh.any,Sh.bool])],keep:= [4,11] })] }
def a_j1 (c0 c1 c2 c3 c4:D)(c5 c6 c7 c8:Int)(k0 k1 k2 k3 k4 k5:D)(k6:Bool)(v0 v1 v2 v3:D)(now:Int)(σ:Store)(Qp:RV→Store→Prop) :Prop:=
 DCalls prog l_f [.agg [c0,c1,c2,c3,c4,iD c5,iD c6,iD c7,iD c8], .agg [k0,k1,k2,k3,k4,k5, .bool k6], .agg [v0,v1,v2,v3],iA now] σ (fun r Z=>∃d:D,∃b:Bool,(r=(.tup [.one d,bA b]:RV))∧a_b (!b) (DCalls prog d_a [.agg [k0,k1,k2,k3,k4,k5, .bool k6]] Z (fun r1 Z1=>∃d1 d2 d3 d4 d5 d6:D,∃b1:Bool,(r1=(.a (.agg [d1,d2,d3,d4,d5,d6, .bool b1]) :RV))∧Qp (.tup [.agg [d1,d2,d3,d4,d5,d6, .bool b1], .one .nils,iA 21]) Z1)) (∀R:D→D→D→D→D→D→Bool→Store→Prop,(∀d1 d2 d3 d4 d5 d6:D,∀b1:Bool,∀Z1,(∃len:Nat,(Len c4 len)∧∃I:Int→Store→Prop,∃μ:Int→Store→Nat,(I 0 Z1)∧∀n:Int,∀Z2,(I n Z2)→a_b (decide (n < (len:Int))) (DCalls prog f_u [.one d,iA n] Z2 (fun r1 Z3=>(r1=(.tup []:RV))∧(([[d1,d2,d3,d4,d5,d6, .bool b1]]:List (List D)) =([[d1,d2,d3,d4,d5,d6, .bool b1]]:List (List D)))∧(I (w64 (n+1)) Z3)∧((μ (w64 (n+1)) Z3) < (μ n Z2)))) (DCalls prog e_b [.one d] Z2 (fun r1 Z3=>(r1=(.tup []:RV))∧DCalls prog f_h [.one d] Z3 (fun r2 Z4=>(r2=(.tup []:RV))∧∃pre:List A→Store→Prop,∃post:List A→Store→RV→Store→Prop,(h_k prog d_h pre post)∧(a_f d)∧∃s:D,∃i off:Nat,(d=(.el s i off:D))∧∃row:List D,(Row Z4 s i row)∧∃d7 d8 d9 d10 d11 d12:D,∃b2:Bool,((List.take 7 (List.drop (off+13) row)) =([d7,d8,d9,d10,d11,d12, .bool b2]:List D))∧(pre [.one d] Z4)∧∀r3:RV,∀s1:Store,(post [.one d] Z4 r3 s1)→∃d13:D,(r3=(.a (.one d13) :RV))∧Qp (.tup [.agg [d7,d8,d9,d10,d11,d12, .bool b2], .one d13,iA 0]) s1))))→R d1 d2 d3 d4 d5 d6 b1 Z1)→a_b (decide (now < 0)) (DCalls prog d_a [.agg [k0,k1,k2,k3,k4,k5, .bool k6]] Z (fun r1 Z1=>∃d1 d2 d3 d4 d5 d6:D,∃b1:Bool,(r1=(.a (.agg [d1,d2,d3,d4,d5,d6, .bool b1]) :RV))∧Qp (.tup [.agg [d1,d2,d3,d4,d5,d6, .bool b1], .one .nils,iA 32]) Z1)) (a_b (decide (now > 4294967295)) (DCalls prog d_a [.agg [k0,k1,k2,k3,k4,k5, .bool k6]] Z (fun r1 Z1=>∃d1 d2 d3 d4 d5 d6:D,∃b1:Bool,(r1=(.a (.agg [d1,d2,d3,d4,d5,d6, .bool b1]) :RV))∧Qp (.tup [.agg [d1,d2,d3,d4,d5,d6, .bool b1], .one .nils,iA 32]) Z1)) (R .nils .nils .nils .nils .nils .nils false Z))))
theorem a_ib (c0 c1 c2 c3 c4:D)(c5 c6 c7 c8:Int)(k0 k1 k2 k3 k4 k5:D)(k6:Bool)(v0 v1 v2 v3:D)(now:Int)(σ:Store)(Qp:RV→Store→Prop)(h:a_j1 c0 c1 c2 c3 c4 c5 c6 c7 c8 k0 k1 k2 k3 k4 k5 k6 v0 v1 v2 v3 now σ Qp) :DCalls prog g_t [.agg [c0,c1,c2,c3,c4,iD c5,iD c6,iD c7,iD c8], .agg [k0,k1,k2,k3,k4,k5, .bool k6], .agg [v0,v1,v2,v3],iA now] σ Qp:=
 a_a mixed (by kernel_rfl) Tryz.func34 a_hj (Eq.mp (by kernel_rfl) h)
def a_jl:Ann:= { cbs:= [2,3],draws:= [(13,{ ord:= [0,1,2,3,4,5,6,7,8,9,10,11,12,13,14,15,16,17,18,19,20,21,22,23,24,25,26,27,28,29,30,31,32,33,34,35,36] }),(16,{ ord:= [1,2,4,5,8,0,3,6,7],nb:= [2,5] })],loops:= [(5,{ mods:= [(70,s6)],keep:= [2,3,68,69] }),(11,{ mods:= [(87,s6)],keep:= [2,3,85,86] }),(17,{ mods:= [(138,s6)],keep:= [3,136,137] }),(23,{ mods:= [(165,s6)],keep:= [3,163,164] }),(29,{ mods:= [(179,s6)],keep:= [177,178] })],joins:= [(4,{ keep:= [2,3] })] }
def a_m9 (c0 c1 c2 c3 c4:D)(c5 c6 c7 c8:Int)(k0 k1 k2 k3 k4 k5:D)(k6:Bool)(σ:Store)(Qp:RV→Store→Prop) :Prop:=
 ∃len:Nat,(Len c0 len)∧∀R:Store→Prop,(∀Z,(∃len1:Nat,(Len k0 len1)∧∃I:Int→Store→Prop,∃μ:Int→Store→Nat,(I 0 Z)∧∀n:Int,∀Z1,(I n Z1)→a_b (decide (n < (len1:Int))) (∃len2:Nat,(Idx prog Z1 k0 1 len2)∧((0:Int)≤n)∧(n < (len2:Int))∧∃row:List D,(Row Z1 k0 (Int.toNat n) row)∧∃n1:Int,((List.take 1 row) =([iD n1]:List D))∧a_b (decide (n1 < (-2))) (Qp (.a (bA false)) Z1) (∃len3:Nat,(Len c4 len3)∧a_b (decide (n1 > (len3:Int))) (Qp (.a (bA false)) Z1) ((I (w64 (n+1)) Z1)∧((μ (w64 (n+1)) Z1) < (μ n Z1))))) (∃len2:Nat,(Len k1 len2)∧∃I1:Int→Store→Prop,∃μ1:Int→Store→Nat,(I1 0 Z1)∧∀n1:Int,∀Z2,(I1 n1 Z2)→a_b (decide (n1 < (len2:Int))) (∃len3:Nat,(Idx prog Z2 k1 4 len3)∧((0:Int)≤n1)∧(n1 < (len3:Int))∧∃row:List D,(Row Z2 k1 (Int.toNat n1) row)∧∃n2 n3 n4 n5:Int,((List.take 4 row) =([iD n2,iD n3,iD n4,iD n5]:List D))∧a_b (decide (n2 < 0)) (Qp (.a (bA false)) Z2) (a_b (decide (n2 > 5)) (Qp (.a (bA false)) Z2) (a_b (decide (n4 < 0)) (Qp (.a (bA false)) Z2) (∃len4:Nat,(Idx prog Z2 c4 6 len4)∧((0:Int)≤n1)∧(n1 < (len4:Int))∧∃row1:List D,(Row Z2 c4 (Int.toNat n1) row1)∧∃d:D,((List.take 1 (List.drop 2 row1)) =([d]:List D))∧∃len5:Nat,(Len d len5)∧a_b (decide (n4 > (len5:Int))) (Qp (.a (bA false)) Z2) (DCalls prog b_x [iA n3] Z2 (fun r Z3=>∃b:Bool,(r=(.a (bA b) :RV))∧a_b (!b) (Qp (.a (bA false)) Z3) (DCalls prog b_x [iA n5] Z3 (fun r1 Z4=>∃b1:Bool,(r1=(.a (bA b1) :RV))∧a_b (!b1) (Qp (.a (bA false)) Z4) ((I1 (w64 (n1+1)) Z4)∧((μ1 (w64 (n1+1)) Z4) < (μ1 n1 Z2))))))))))) (Fw.newObj Z2 (.live b_d []) (fun id Z3=>a_v prog Z3 b_d 16 (.osl id 0 0) k2 (fun d Z4=>a_v prog Z4 b_d 16 d k3 (fun d1 Z5=>∃len3:Nat,(Len d1 len3)∧∃I2:Int→Store→Prop,∃μ2:Int→Store→Nat,(I2 0 Z5)∧∀n2:Int,∀Z6,(I2 n2 Z6)→a_b (decide (n2 < (len3:Int))) (∃len4:Nat,(Idx prog Z6 d1 2 len4)∧((0:Int)≤n2)∧(n2 < (len4:Int))∧∃row:List D,(Row Z6 d1 (Int.toNat n2) row)∧∃n3 n4:Int,((List.take 2 row) =([iD n3,iD n4]:List D))∧a_b (decide (n3 < 0)) (Qp (.a (bA false)) Z6) (a_b (decide (n3 > 2)) (Qp (.a (bA false)) Z6) (a_b (n4 !=(-1)) (DCalls prog b_x [iA n4] Z6 (fun r Z7=>∃b:Bool,(r=(.a (bA b) :RV))∧a_b (!b) (Qp (.a (bA false)) Z7) ((I2 (w64 (n2+1)) Z7)∧((μ2 (w64 (n2+1)) Z7) < (μ2 n2 Z6))))) ((I2 (w64 (n2+1)) Z6)∧((μ2 (w64 (n2+1)) Z6) < (μ2 n2 Z6)))))) (∃len4:Nat,(Len k5 len4)∧∃I3:Int→Store→Prop,∃μ3:Int→Store→Nat,(I3 0 Z6)∧∀n3:Int,∀Z7,(I3 n3 Z7)→a_b (decide (n3 < (len4:Int))) (∃len5:Nat,(Idx prog Z7 k5 1 len5)∧((0:Int)≤n3)∧(n3 < (len5:Int))∧∃row:List D,(Row Z7 k5 (Int.toNat n3) row)∧∃n4:Int,((List.take 1 row) =([iD n4]:List D))∧a_b (decide (n4 < 0)) (Qp (.a (bA false)) Z7) (a_b (decide (n4 > 4294967296)) (Qp (.a (bA false)) Z7) ((I3 (w64 (n3+1)) Z7)∧((μ3 (w64 (n3+1)) Z7) < (μ3 n3 Z7))))) (∃len5:Nat,(Len k4 len5)∧∃I4:Int→Store→Prop,∃μ4:Int→Store→Nat,(I4 0 Z7)∧∀n4:Int,∀Z8,(I4 n4 Z8)→a_b (decide (n4 < (len5:Int))) (∃len6:Nat,(Idx prog Z8 k4 8 len6)∧((0:Int)≤n4)∧(n4 < (len6:Int))∧∃row:List D,(Row Z8 k4 (Int.toNat n4) row)∧∃n5 n6 n7 n8 n9 n10 n11 n12:Int,((List.take 8 row) =([iD n5,iD n6,iD n7,iD n8,iD n9,iD n10,iD n11,iD n12]:List D))∧DCalls prog b_x [iA n5] Z8 (fun r Z9=>∃b:Bool,(r=(.a (bA b) :RV))∧a_b (!b) (Qp (.a (bA false)) Z9) (DCalls prog b_x [iA n6] Z9 (fun r1 Z10=>∃b1:Bool,(r1=(.a (bA b1) :RV))∧a_b (!b1) (Qp (.a (bA false)) Z10) (DCalls prog b_x [iA n7] Z10 (fun r2 Z11=>∃b2:Bool,(r2=(.a (bA b2) :RV))∧a_b (!b2) (Qp (.a (bA false)) Z11) (DCalls prog b_x [iA n8] Z11 (fun r3 Z12=>∃b3:Bool,(r3=(.a (bA b3) :RV))∧a_b (!b3) (Qp (.a (bA false)) Z12) (DCalls prog b_x [iA n9] Z12 (fun r4 Z13=>∃b4:Bool,(r4=(.a (bA b4) :RV))∧a_b (!b4) (Qp (.a (bA false)) Z13) (DCalls prog b_x [iA n10] Z13 (fun r5 Z14=>∃b5:Bool,(r5=(.a (bA b5) :RV))∧a_b (!b5) (Qp (.a (bA false)) Z14) (DCalls prog b_x [iA n11] Z14 (fun r6 Z15=>∃b6:Bool,(r6=(.a (bA b6) :RV))∧a_b (!b6) (Qp (.a (bA false)) Z15) (a_b (decide (n12 < 0)) (Qp (.a (bA false)) Z15) (a_b (decide (n12 > 4294967296)) (Qp (.a (bA false)) Z15) ((I4 (w64 (n4+1)) Z15)∧((μ4 (w64 (n4+1)) Z15) < (μ4 n4 Z8))))))))))))))))))) (Qp (.a (bA true)) Z8)))))))))→R Z)→DCalls prog i_y [.agg [c0,c1,c2,c3,c4,iD c5,iD c6,iD c7,iD c8]] σ (fun r Z=>∃n:Int,(r=(.a (iA n) :RV))∧a_b (n != 0) (Qp (.a (bA false)) Z) (∃len1:Nat,(Len k0 len1)∧a_b ((len1:Int) !=(len:Int)) (Qp (.a (bA false)) Z) (∃len2:Nat,(Len k2 len2)∧a_b ((len2:Int) !=(len:Int)) (Qp (.a (bA false)) Z) (∃len3:Nat,(Len k5 len3)∧a_b ((len3:Int) !=(len:Int)) (Qp (.a (bA false)) Z) (∃len4:Nat,(Len k1 len4)∧∃len5:Nat,(Len c4 len5)∧a_b ((len4:Int) !=(len5:Int)) (Qp (.a (bA false)) Z) (∃len6:Nat,(Len k3 len6)∧∃len7:Nat,(Len c3 len7)∧a_b ((len6:Int) !=(len7:Int)) (Qp (.a (bA false)) Z) (∃len8:Nat,(Len k4 len8)∧a_b ((len8:Int) != 4) (Qp (.a (bA false)) Z) (R Z))))))))
theorem a_nh (c0 c1 c2 c3 c4:D)(c5 c6 c7 c8:Int)(k0 k1 k2 k3 k4 k5:D)(k6:Bool)(σ:Store)(Qp:RV→Store→Prop)(h:a_m9 c0 c1 c2 c3 c4 c5 c6 c7 c8 k0 k1 k2 k3 k4 k5 k6 σ Qp) :DCalls prog o_i [.agg [c0,c1,c2,c3,c4,iD c5,iD c6,iD c7,iD c8], .agg [k0,k1,k2,k3,k4,k5, .bool k6]] σ Qp:=
 a_a mixed (by kernel_rfl) Tryz.func38 a_jl (Eq.mp (by kernel_rfl) h)
def a_bo:Ann:= { cbs:= [2],loops:= [(2,{ mods:= [(10,s6)],keep:= [1,8,9] })] }
def a_cy (c0 c1 c2 c3 c4:D)(c5 c6 c7 c8 line:Int)(σ:Store)(Qp:RV→Store→Prop) :Prop:=
 ∃len:Nat,(Len c0 len)∧∃I:Int→Store→Prop,∃μ:Int→Store→Nat,(I 0 σ)∧∀n:Int,∀Z,(I n Z)→a_b (decide (n < (len:Int))) (∃len1:Nat,(Idx prog Z c0 3 len1)∧((0:Int)≤n)∧(n < (len1:Int))∧∃row:List D,(Row Z c0 (Int.toNat n) row)∧∃n1 n2 n3:Int,((List.take 3 row) =([iD n1,iD n2,iD n3]:List D))∧a_b (n3 == line) (a_b (decide (line≥1)) (Qp (.a (iA n)) Z) ((I (w64 (n+1)) Z)∧((μ (w64 (n+1)) Z) < (μ n Z)))) ((I (w64 (n+1)) Z)∧((μ (w64 (n+1)) Z) < (μ n Z)))) (Qp (.a (iA (-1))) Z)
theorem a_d1 (c0 c1 c2 c3 c4:D)(c5 c6 c7 c8 line:Int)(σ:Store)(Qp:RV→Store→Prop)(h:a_cy c0 c1 c2 c3 c4 c5 c6 c7 c8 line σ Qp) :DCalls prog j_p [.agg [c0,c1,c2,c3,c4,iD c5,iD c6,iD c7,iD c8],iA line] σ Qp:=
 a_a mixed (by kernel_rfl) Tryz.func42 a_bo (Eq.mp (by kernel_rfl) h)
def q_b:Ann:= { draws:= [(7,{ ord:= [0,1,2,3,4,5,6,7,8,9,10,11,12,13,14,15,16,17,18,19,20,21,22,23,24,25,26,27,28,29,30,31] })],loops:= [(1,{ mods:= [(11,s6)],keep:= [0,10] }),(5,{ mods:= [(25,s6)],keep:= [0,2,10,11,23,24] })] }
def r_n (j:D)(σ:Store)(Qp:RV→Store→Prop) :Prop:=
 (a_f j)∧∃s:D,∃i off:Nat,(j=(.el s i off:D))∧∃row:List D,(Row σ s i row)∧∃d:D,((List.take 1 (List.drop ((off+7) +4) row)) =([d]:List D))∧∃len:Nat,(Len d len)∧∃I:Int→Store→Prop,∃μ:Int→Store→Nat,(I 0 σ)∧∀n:Int,∀Z,(I n Z)→a_b (decide (n < (len:Int))) (DCalls prog d_x [.one j,iA n] Z (fun r Z1=>∃b:Bool,(r=(.a (bA b) :RV))∧a_b (!b) ((I (w64 (n+1)) Z1)∧((μ (w64 (n+1)) Z1) < (μ n Z))) ((a_f j)∧∃s1:D,∃i1 off1:Nat,(j=(.el s1 i1 off1:D))∧∃row1:List D,(Row Z1 s1 i1 row1)∧∃d1 d2 d3 d4 d5:D,∃n1 n2 n3 n4:Int,((List.take 9 (List.drop (off1+7) row1)) =([d1,d2,d3,d4,d5,iD n1,iD n2,iD n3,iD n4]:List D))∧DCalls prog g_p [.agg [d1,d2,d3,d4,d5,iD n1,iD n2,iD n3,iD n4],iA n] Z1 (fun r1 Z2=>∃d6:D,(r1=(.a (.one d6) :RV))∧∃len1:Nat,(Len d6 len1)∧∃I1:Int→Store→Prop,∃μ1:Int→Store→Nat,(I1 0 Z2)∧∀n5:Int,∀Z3,(I1 n5 Z3)→a_b (decide (n5 < (len1:Int))) (∃len2:Nat,(Idx prog Z3 d6 2 len2)∧((0:Int)≤n5)∧(n5 < (len2:Int))∧∃row2:List D,(Row Z3 d6 (Int.toNat n5) row2)∧∃n6 n7:Int,((List.take 2 row2) =([iD n6,iD n7]:List D))∧(a_f j)∧∃s2:D,∃i2 off2:Nat,(j=(.el s2 i2 off2:D))∧∃row3:List D,(Row Z3 s2 i2 row3)∧∃d7:D,((List.take 1 (List.drop ((off2+0) +0) row3)) =([d7]:List D))∧∃len3:Nat,(Idx prog Z3 d7 1 len3)∧((0:Int)≤n6)∧(n6 < (len3:Int))∧∃row4:List D,(Row Z3 d7 (Int.toNat n6) row4)∧∃n8:Int,((List.take 1 row4) =([iD n8]:List D))∧a_b (n8 ==(w64 (n+1))) ((a_f j)∧∃s3:D,∃i3 off3:Nat,(j=(.el s3 i3 off3:D))∧∃row5:List D,(Row Z3 s3 i3 row5)∧∃d8:D,((List.take 1 (List.drop ((off3+0) +2) row5)) =([d8]:List D))∧∃len4:Nat,(Idx prog Z3 d8 2 len4)∧((0:Int)≤n6)∧(n6 < (len4:Int))∧∃row6:List D,(Row Z3 d8 (Int.toNat n6) row6)∧∃n9:Int,((List.take 1 row6) =([iD n9]:List D))∧DCalls prog a_s [.one j,bA (n9 != n7),iA 4,iA n,iA n6] Z3 (fun r2 Z4=>(r2=(.tup []:RV))∧(I1 (w64 (n5+1)) Z4)∧((μ1 (w64 (n5+1)) Z4) < (μ1 n5 Z3)))) (DCalls prog a_s [.one j,bA false,iA 4,iA n,iA n6] Z3 (fun r2 Z4=>(r2=(.tup []:RV))∧(I1 (w64 (n5+1)) Z4)∧((μ1 (w64 (n5+1)) Z4) < (μ1 n5 Z3))))) ((I (w64 (n+1)) Z3)∧((μ (w64 (n+1)) Z3) < (μ n Z))))))) (Qp (.tup []) Z)
theorem s_a (j:D)(σ:Store)(Qp:RV→Store→Prop)(h:r_n j σ Qp) :DCalls prog d_4 [.one j] σ Qp:=
 a_a mixed (by kernel_rfl) Tryz.func46 q_b (Eq.mp (by kernel_rfl) h)
def a_i2:Ann:= { loops:= [(3,{ mods:= [(3,s6),(9,s6)],keep:= [7,8] })] }
def a_nn (kind:Int)(σ:Store)(Qp:RV→Store→Prop) :Prop:=
 DCalls prog j_0 [iA kind] σ (fun r Z=>∃d:D,(r=(.a (.one d) :RV))∧∃len:Nat,(Len d len)∧∃I:Int→Int→Store→Prop,∃μ:Int→Int→Store→Nat,(I 0 0 Z)∧∀n n1:Int,∀Z1,(I n n1 Z1)→a_b (decide (n1 < (len:Int))) (∃len1:Nat,(Idx prog Z1 d 3 len1)∧((0:Int)≤n1)∧(n1 < (len1:Int))∧∃row:List D,(Row Z1 d (Int.toNat n1) row)∧∃n2 n3 n4:Int,((List.take 3 row) =([iD n2,iD n3,iD n4]:List D))∧(I (ite ((w64 (n3+1)) > (ite ((w64 (n2+1)) > n) (w64 (n2+1)) n)) (w64 (n3+1)) (ite ((w64 (n2+1)) > n) (w64 (n2+1)) n)) (w64 (n1+1)) Z1)∧((μ (ite ((w64 (n3+1)) > (ite ((w64 (n2+1)) > n) (w64 (n2+1)) n)) (w64 (n3+1)) (ite ((w64 (n2+1)) > n) (w64 (n2+1)) n)) (w64 (n1+1)) Z1) < (μ n n1 Z1))) (Qp (.a (iA n)) Z1))
theorem a_lt (kind:Int)(σ:Store)(Qp:RV→Store→Prop)(h:a_nn kind σ Qp) :DCalls prog f_1 [iA kind] σ Qp:=
 a_a mixed (by kernel_rfl) Tryz.func50 a_i2 (Eq.mp (by kernel_rfl) h)
def a_ht:Ann:= { cbs:= [2] }
def a_k7 (c0 c1 c2 c3 c4:D)(c5 c6 c7 c8 s:Int)(σ:Store)(Qp:RV→Store→Prop) :Prop:=
 a_b (decide (s < 0)) (Qp (.a (iA (-1))) σ) (∃len:Nat,(Len c0 len)∧a_b (decide (s≥(len:Int))) (Qp (.a (iA (-1))) σ) (∃len1:Nat,(Idx prog σ c0 3 len1)∧((0:Int)≤s)∧(s < (len1:Int))∧∃row:List D,(Row σ c0 (Int.toNat s) row)∧∃n:Int,((List.take 1 row) =([iD n]:List D))∧Qp (.a (iA n)) σ))
theorem a_lp (c0 c1 c2 c3 c4:D)(c5 c6 c7 c8 s:Int)(σ:Store)(Qp:RV→Store→Prop)(h:a_k7 c0 c1 c2 c3 c4 c5 c6 c7 c8 s σ Qp) :DCalls prog f_9 [.agg [c0,c1,c2,c3,c4,iD c5,iD c6,iD c7,iD c8],iA s] σ Qp:=
 a_a mixed (by kernel_rfl) Tryz.func54 a_ht (Eq.mp (by kernel_rfl) h)
def a_bt:Ann:= { }
def a_dn (x y:Int)(σ:Store)(Qp:RV→Store→Prop) :Prop:=
 DCalls prog h_s [.one (.int .u64 x), .one (.int .u64 y)] σ (fun r Z=>∃n n1:Int,(r=(.tup [.one (.int .u64 n), .one (.int .u64 n1)]:RV))∧Qp (.tup [.one (.int .u64 n), .one (.int .u64 n1)]) Z)
theorem a_cu (x y:Int)(σ:Store)(Qp:RV→Store→Prop)(h:a_dn x y σ Qp) :DCalls prog g_x [.one (.int .u64 x), .one (.int .u64 y)] σ Qp:=
 a_a mixed (by kernel_rfl) Tryz.func58 a_bt (Eq.mp (by kernel_rfl) h)
def x_g:Ann:= { }
def x_m (d a1 a2:D)(σ:Store)(Qp:RV→Store→Prop) :Prop:=
 ∃s:D,∃i off:Nat,(a1=(.el s i off:D))∧∃row:List D,(Row σ s i row)∧∃n:Int,((List.take 1 (List.drop off row)) =([iD n]:List D))∧∃s1:D,∃i1 off1:Nat,(a2=(.el s1 i1 off1:D))∧∃row1:List D,(Row σ s1 i1 row1)∧∃n1:Int,((List.take 1 (List.drop off1 row1)) =([iD n1]:List D))∧DCalls prog f_n [.one d,iA n,iA n1] σ (fun r Z=>∃n2:Int,(r=(.a (iA n2) :RV))∧Qp (.a (iA n2)) Z)
theorem x_y (d a1 a2:D)(σ:Store)(Qp:RV→Store→Prop)(h:x_m d a1 a2 σ Qp) :DCalls prog m_c [.one d, .one a1, .one a2] σ Qp:=
 a_a mixed (by kernel_rfl) Tryz.func62 x_g (Eq.mp (by kernel_rfl) h)
def a_a8:Ann:= { }
def a_d8 (n lo hi:Int)(σ:Store)(Qp:RV→Store→Prop) :Prop:=
 a_b (decide (lo≤n)) (Qp (.a (.one (.bool (decide (n≤hi))))) σ) (Qp (.a (bA false)) σ)
theorem a_c3 (n lo hi:Int)(σ:Store)(Qp:RV→Store→Prop)(h:a_d8 n lo hi σ Qp) :DCalls prog b_k [iA n,iA lo,iA hi] σ Qp:=
 a_a mixed (by kernel_rfl) Tryz.func66 a_a8 (Eq.mp (by kernel_rfl) h)
def a_al:Ann:= { esc:= [3],cbs:= [2] }
def a_dh (c0 c1 c2 c3 c4:D)(c5 c6 c7 c8 line:Int)(σ:Store)(Qp:RV→Store→Prop) :Prop:=
 Fw.newObj σ (.live a_i [[iD line]]) (fun id Z=>∃row:List D,(Row Z (.osl id 0 1) 0 row)∧∃n:Int,((List.take 1 row) =([iD n]:List D))∧a_b (decide (n < 1)) (Qp (.a (iA (-1))) Z) (DCalls prog c_m [.one c0, .one (.fn l_3 [] [(false,[.el (.osl id 0 1) 0 0])])] Z (fun r Z1=>∃n1:Int,(r=(.a (iA n1) :RV))∧Qp (.a (iA n1)) Z1)))
theorem a_db (c0 c1 c2 c3 c4:D)(c5 c6 c7 c8 line:Int)(σ:Store)(Qp:RV→Store→Prop)(h:a_dh c0 c1 c2 c3 c4 c5 c6 c7 c8 line σ Qp) :DCalls prog g_y [.agg [c0,c1,c2,c3,c4,iD c5,iD c6,iD c7,iD c8],iA line] σ Qp:=
 a_a mixed (by kernel_rfl) Tryz.func70 a_al (Eq.mp (by kernel_rfl) h)
def a_ae:Ann:= { draws:= [(1,{ ord:= [0,1,3,4,6,7,2,9,5,8,10,11,12,13,14],nb:= [4,7] }),(2,{ ord:= [0,1,3,4,6,7,2,9,5,8,10,11,12,13,14],nb:= [4,7] })] }
def a_du (k0 k1 k2 k3 k4 k5:D)(k6:Bool)(σ:Store)(Qp:RV→Store→Prop) :Prop:=
 DCalls prog b_a [.one k0] σ (fun r Z=>∃d:D,(r=(.a (.one d) :RV))∧DCalls prog b_1 [.one k1] Z (fun r1 Z1=>∃d1:D,(r1=(.a (.one d1) :RV))∧DCalls prog b_h [.one k2] Z1 (fun r2 Z2=>∃d2:D,(r2=(.a (.one d2) :RV))∧DCalls prog b_h [.one k3] Z2 (fun r3 Z3=>∃d3:D,(r3=(.a (.one d3) :RV))∧DCalls prog c_d [.one k4] Z3 (fun r4 Z4=>∃d4:D,(r4=(.a (.one d4) :RV))∧DCalls prog b_a [.one k5] Z4 (fun r5 Z5=>∃d5:D,(r5=(.a (.one d5) :RV))∧Qp (.a (.agg [d,d1,d2,d3,d4,d5, .bool k6])) Z5))))))
theorem a_d4 (k0 k1 k2 k3 k4 k5:D)(k6:Bool)(σ:Store)(Qp:RV→Store→Prop)(h:a_du k0 k1 k2 k3 k4 k5 k6 σ Qp) :DCalls prog d_a [.agg [k0,k1,k2,k3,k4,k5, .bool k6]] σ Qp:=
 a_a mixed (by kernel_rfl) Tryz.func74 a_ae (Eq.mp (by kernel_rfl) h)
def n_m:Ann:= { draws:= [(9,{ ord:= [0,1,2,3,4,5,6,7,8,9,10,11] })],loops:= [(3,{ mods:= [(20,s6)],keep:= [0,3,18,19] })] }
def o_v (x:D)(σ:Store)(Qp:RV→Store→Prop) :Prop:=
 (a_f x)∧∃s:D,∃i off:Nat,(x=(.el s i off:D))∧∃row:List D,(Row σ s i row)∧∃d:D,((List.take 1 (List.drop ((off+4) +2) row)) =([d]:List D))∧∃len:Nat,(Len d len)∧((0:Int)≤(len:Int))∧((len:Int)≤(len:Int))∧(((8:Int) * (len:Int))≤(2 ^ 48))∧Fw.newObj σ (.live a_i (List.replicate (Int.toNat (len:Int)) [iD 0])) (fun id Z=>(a_f x)∧∃s1:D,∃i1 off1:Nat,(x=(.el s1 i1 off1:D))∧∃row1:List D,(Row Z s1 i1 row1)∧∃d1:D,((List.take 1 (List.drop ((off1+4) +4) row1)) =([d1]:List D))∧∃len1:Nat,(Len d1 len1)∧∃I:Int→Store→Prop,∃μ:Int→Store→Nat,(I 0 Z)∧∀n:Int,∀Z1,(I n Z1)→a_b (decide (n < (len1:Int))) (∃len2:Nat,(Idx prog Z1 d1 6 len2)∧((0:Int)≤n)∧(n < (len2:Int))∧∃row2:List D,(Row Z1 d1 (Int.toNat n) row2)∧∃n1 n2:Int,∃d2 d3 d4:D,∃b:Bool,((List.take 6 row2) =([iD n1,iD n2,d2,d3,d4, .bool b]:List D))∧(a_f x)∧∃s2:D,∃i2 off2:Nat,(x=(.el s2 i2 off2:D))∧∃row3:List D,(Row Z1 s2 i2 row3)∧∃d5:D,((List.take 1 (List.drop ((off2+13) +1) row3)) =([d5]:List D))∧∃len3:Nat,(Idx prog Z1 d5 4 len3)∧((0:Int)≤n)∧(n < (len3:Int))∧∃row4:List D,(Row Z1 d5 (Int.toNat n) row4)∧∃n3:Int,((List.take 1 row4) =([iD n3]:List D))∧a_b (n3 != 2) ((I (w64 (n+1)) Z1)∧((μ (w64 (n+1)) Z1) < (μ n Z1))) (a_b b (∃len4:Nat,(Idx prog Z1 (.osl id 0 (Int.toNat (len:Int))) 1 len4)∧((0:Int)≤n1)∧(n1 < (len4:Int))∧∃row5:List D,(Row Z1 (.osl id 0 (Int.toNat (len:Int))) (Int.toNat n1) row5)∧∃n4:Int,((List.take 1 row5) =([iD n4]:List D))∧∃len5:Nat,(Idx prog Z1 (.osl id 0 (Int.toNat (len:Int))) 1 len5)∧((0:Int)≤n1)∧(n1 < (len5:Int))∧a_j [iD (ite ((1:Int) > n4) 1 n4)] Z1 (.osl id 0 (Int.toNat (len:Int))) (Int.toNat n1) 0 (fun Z2=>(I (w64 (n+1)) Z2)∧((μ (w64 (n+1)) Z2) < (μ n Z1)))) (∃len4:Nat,(Idx prog Z1 (.osl id 0 (Int.toNat (len:Int))) 1 len4)∧((0:Int)≤n1)∧(n1 < (len4:Int))∧∃row5:List D,(Row Z1 (.osl id 0 (Int.toNat (len:Int))) (Int.toNat n1) row5)∧∃n4:Int,((List.take 1 row5) =([iD n4]:List D))∧∃len5:Nat,(Idx prog Z1 (.osl id 0 (Int.toNat (len:Int))) 1 len5)∧((0:Int)≤n1)∧(n1 < (len5:Int))∧a_j [iD (ite ((2:Int) > n4) 2 n4)] Z1 (.osl id 0 (Int.toNat (len:Int))) (Int.toNat n1) 0 (fun Z2=>(I (w64 (n+1)) Z2)∧((μ (w64 (n+1)) Z2) < (μ n Z1)))))) (Qp (.a (.one (.osl id 0 (Int.toNat (len:Int))))) Z1))
theorem p_f (x:D)(σ:Store)(Qp:RV→Store→Prop)(h:o_v x σ Qp) :DCalls prog d_h [.one x] σ Qp:=
 a_a mixed (by kernel_rfl) Tryz.func78 n_m (Eq.mp (by kernel_rfl) h)
def t_3:Ann:= { }
def w_9 (w list:D)(σ:Store)(Qp:RV→Store→Prop) :Prop:=
 DCalls prog d_f [.one w,iA 32, .one list] σ (fun r Z=>(r=(.tup []:RV))∧Qp (.tup []) Z)
theorem w_6 (w list:D)(σ:Store)(Qp:RV→Store→Prop)(h:w_9 w list σ Qp) :DCalls prog g_7 [.one w, .one list] σ Qp:=
 a_a mixed (by kernel_rfl) Tryz.func82 t_3 (Eq.mp (by kernel_rfl) h)
def u_m:Ann:= { }
def w_f (r:D)(σ:Store)(Qp:RV→Store→Prop) :Prop:=
 DCalls prog d_g [.one r,iA 1] σ (fun r1 Z=>∃n:Int,(r1=(.a (iA n) :RV))∧Qp (.a (iA n)) Z)
theorem w_n (r:D)(σ:Store)(Qp:RV→Store→Prop)(h:w_f r σ Qp) :DCalls prog e_x [.one r] σ Qp:=
 a_a mixed (by kernel_rfl) Tryz.func86 u_m (Eq.mp (by kernel_rfl) h)
def a_jg:Ann:= { }
def a_le (state:Int)(σ:Store)(Qp:RV→Store→Prop) :Prop:=
 a_b (state == 1) (Qp (.a (bA true)) σ) (a_b (state == 2) (Qp (.a (bA true)) σ) (Qp (.a (bA (state == 3))) σ))
theorem a_m7 (state:Int)(σ:Store)(Qp:RV→Store→Prop)(h:a_le state σ Qp) :DCalls prog j_t [iA state] σ Qp:=
 a_a mixed (by kernel_rfl) Tryz.func90 a_jg (Eq.mp (by kernel_rfl) h)
def p_d:Ann:= { loops:= [(3,{ mods:= [(3,s6),(11,s6)],keep:= [0,9,10] }),(11,{ mods:= [(6,SlotSh.one (Sh.any)),(27,s6)],keep:= [25,26] })] }
def q_m (slices:D)(σ:Store)(Qp:RV→Store→Prop) :Prop:=
 ∃len:Nat,(Len slices len)∧∃I:Int→Int→Store→Prop,∃μ:Int→Int→Store→Nat,(I 0 0 σ)∧∀n n1:Int,∀Z,(I n n1 Z)→a_b (decide (n1 < (len:Int))) (∃len1:Nat,(Idx prog Z slices 1 len1)∧((0:Int)≤n1)∧(n1 < (len1:Int))∧∃row:List D,(Row Z slices (Int.toNat n1) row)∧∃d:D,((List.take 1 row) =([d]:List D))∧∃len2:Nat,(Len d len2)∧a_b (decide ((w64 (n+ (len2:Int))) < 0)) False ((I (w64 (n+ (len2:Int))) (w64 (n1+1)) Z)∧((μ (w64 (n+ (len2:Int))) (w64 (n1+1)) Z) < (μ n n1 Z)))) (DCalls prog g_j [.one .nils,iA n] Z (fun r Z1=>∃d:D,(r=(.a (.one d) :RV))∧∃len1:Nat,(Len slices len1)∧∃I1:D→Int→Store→Prop,∃μ1:D→Int→Store→Nat,(I1 d 0 Z1)∧∀d1:D,∀n2:Int,∀Z2,(I1 d1 n2 Z2)→a_b (decide (n2 < (len1:Int))) (∃len2:Nat,(Idx prog Z2 slices 1 len2)∧((0:Int)≤n2)∧(n2 < (len2:Int))∧∃row:List D,(Row Z2 slices (Int.toNat n2) row)∧∃d2:D,((List.take 1 row) =([d2]:List D))∧a_v prog Z2 b_d 16 d1 d2 (fun d3 Z3=>(I1 d3 (w64 (n2+1)) Z3)∧((μ1 d3 (w64 (n2+1)) Z3) < (μ1 d1 n2 Z2)))) (Qp (.a (.one d1)) Z2)))
theorem q_a (slices:D)(σ:Store)(Qp:RV→Store→Prop)(h:q_m slices σ Qp) :DCalls prog f_k [.one slices] σ Qp:=
 a_a mixed (by kernel_rfl) Tryz.func94 p_d (Eq.mp (by kernel_rfl) h)
def v_n:Ann:= { esc:= [9],cbs:= [2],loops:= [(4,{ mods:= [(7,SlotSh.one (Sh.any)),(19,s6)],keep:= [5,17,18] })] }
def y_y (c0 c1 c2 c3 c4:D)(c5 c6 c7 c8 r:Int)(σ:Store)(Qp:RV→Store→Prop) :Prop:=
 DCalls prog i_2 [.agg [c0,c1,c2,c3,c4,iD c5,iD c6,iD c7,iD c8],iA r] σ (fun r1 Z=>∃n n1:Int,∃d d1 d2:D,∃b b1:Bool,(r1=(.tup [.agg [iD n,iD n1,d,d1,d2, .bool b],bA b1]:RV))∧∃len:Nat,(Len c3 len)∧∃I:D→Int→Store→Prop,∃μ:D→Int→Store→Nat,(I .nils 0 Z)∧∀d3:D,∀n2:Int,∀Z1,(I d3 n2 Z1)→a_b (decide (n2 < (len:Int))) (∃len1:Nat,(Idx prog Z1 c3 1 len1)∧((0:Int)≤n2)∧(n2 < (len1:Int))∧∃row:List D,(Row Z1 c3 (Int.toNat n2) row)∧∃n3:Int,((List.take 1 row) =([iD n3]:List D))∧Fw.newObj Z1 (.live a_i [[iD 0]]) (fun id Z2=>a_j [iD n3] Z2 (.osl id 0 1) 0 0 (fun Z3=>DCalls prog c_r [.one d, .one (.fn j_r [] [(false,[.el (.osl id 0 1) 0 0])])] Z3 (fun r2 Z4=>∃b2:Bool,(r2=(.a (bA b2) :RV))∧a_b b2 (Fw.newObj Z4 (.live a_i [[iD n2]]) (fun id1 Z5=>a_v prog Z5 a_i 8 d3 (.osl id1 0 1) (fun d4 Z6=>(([[iD n,iD n1,d,d1,d2, .bool b]]:List (List D)) =([[iD n,iD n1,d,d1,d2, .bool b]]:List (List D)))∧(I d4 (w64 (n2+1)) Z6)∧((μ d4 (w64 (n2+1)) Z6) < (μ d3 n2 Z1))))) ((([[iD n,iD n1,d,d1,d2, .bool b]]:List (List D)) =([[iD n,iD n1,d,d1,d2, .bool b]]:List (List D)))∧(I d3 (w64 (n2+1)) Z4)∧((μ d3 (w64 (n2+1)) Z4) < (μ d3 n2 Z1))))))) (Qp (.a (.one d3)) Z1))
theorem x_x (c0 c1 c2 c3 c4:D)(c5 c6 c7 c8 r:Int)(σ:Store)(Qp:RV→Store→Prop)(h:y_y c0 c1 c2 c3 c4 c5 c6 c7 c8 r σ Qp) :DCalls prog e_a [.agg [c0,c1,c2,c3,c4,iD c5,iD c6,iD c7,iD c8],iA r] σ Qp:=
 a_a mixed (by kernel_rfl) Tryz.func98 v_n (Eq.mp (by kernel_rfl) h)
def v_m:Ann:= { }
def l_1 (x y:Int)(σ:Store)(Qp:RV→Store→Prop) :Prop:=
 Qp (.tup [.one (.int .u64 (IntKind.wrap .u64 ((IntKind.wrap .u64 ((IntKind.wrap .u64 ((Int.fdiv x (2 ^ 32)) * (Int.fdiv y (2 ^ 32)))) + (Int.fdiv (IntKind.wrap .u64 ((IntKind.wrap .u64 ((Int.fdiv x (2 ^ 32)) * (IntKind.wrap .u64 (BitVec.toNat ((BitVec.ofInt 64 y) &&& (BitVec.ofInt 64 4294967295)) :Int)))) + (Int.fdiv (IntKind.wrap .u64 ((IntKind.wrap .u64 (BitVec.toNat ((BitVec.ofInt 64 x) &&& (BitVec.ofInt 64 4294967295)) :Int)) * (IntKind.wrap .u64 (BitVec.toNat ((BitVec.ofInt 64 y) &&& (BitVec.ofInt 64 4294967295)) :Int)))) (2 ^ 32)))) (2 ^ 32)))) + (Int.fdiv (IntKind.wrap .u64 ((IntKind.wrap .u64 (BitVec.toNat ((BitVec.ofInt 64 (IntKind.wrap .u64 ((IntKind.wrap .u64 ((Int.fdiv x (2 ^ 32)) * (IntKind.wrap .u64 (BitVec.toNat ((BitVec.ofInt 64 y) &&& (BitVec.ofInt 64 4294967295)) :Int)))) + (Int.fdiv (IntKind.wrap .u64 ((IntKind.wrap .u64 (BitVec.toNat ((BitVec.ofInt 64 x) &&& (BitVec.ofInt 64 4294967295)) :Int)) * (IntKind.wrap .u64 (BitVec.toNat ((BitVec.ofInt 64 y) &&& (BitVec.ofInt 64 4294967295)) :Int)))) (2 ^ 32))))) &&& (BitVec.ofInt 64 4294967295)) :Int)) + (IntKind.wrap .u64 ((IntKind.wrap .u64 (BitVec.toNat ((BitVec.ofInt 64 x) &&& (BitVec.ofInt 64 4294967295)) :Int)) * (Int.fdiv y (2 ^ 32)))))) (2 ^ 32))))), .one (.int .u64 (IntKind.wrap .u64 (x * y)))]) σ
theorem x_z (x y:Int)(σ:Store)(Qp:RV→Store→Prop)(h:l_1 x y σ Qp) :DCalls prog h_s [.one (.int .u64 x), .one (.int .u64 y)] σ Qp:=
 a_a mixed (by kernel_rfl) Tryz.func103 v_m (Eq.mp (by kernel_rfl) h)
def z_l:Ann:= { loops:= [(2,{ mods:= [(17,s6)],keep:= [0,1,2,15,16] }),(8,{ mods:= [(38,s6)],keep:= [0,1,36,37] })] }
def a_bv (d:D)(r:Int)(sections:D)(σ:Store)(Qp:RV→Store→Prop) :Prop:=
 (a_f d)∧∃s:D,∃i off:Nat,(d=(.el s i off:D))∧∃row:List D,(Row σ s i row)∧∃d1:D,((List.take 1 (List.drop ((off+9) +1) row)) =([d1]:List D))∧∃len:Nat,(Len d1 len)∧∃I:Int→Store→Prop,∃μ:Int→Store→Nat,(I 0 σ)∧∀n:Int,∀Z,(I n Z)→a_b (decide (n < (len:Int))) (∃len1:Nat,(Idx prog Z d1 4 len1)∧((0:Int)≤n)∧(n < (len1:Int))∧∃row1:List D,(Row Z d1 (Int.toNat n) row1)∧∃n1 n2 n3 n4:Int,((List.take 4 row1) =([iD n1,iD n2,iD n3,iD n4]:List D))∧a_b (n1 != 0) ((a_f d)∧∃s1:D,∃i1 off1:Nat,(d=(.el s1 i1 off1:D))∧∃row2:List D,(Row Z s1 i1 row2)∧∃d2 d3 d4 d5 d6:D,∃n5 n6 n7 n8:Int,((List.take 9 (List.drop (off1+0) row2)) =([d2,d3,d4,d5,d6,iD n5,iD n6,iD n7,iD n8]:List D))∧DCalls prog g_z [.agg [d2,d3,d4,d5,d6,iD n5,iD n6,iD n7,iD n8],iA n] Z (fun r1 Z1=>∃n9:Int,(r1=(.a (iA n9) :RV))∧DCalls prog c_b [.one sections,iA n9] Z1 (fun r2 Z2=>∃b:Bool,(r2=(.a (bA b) :RV))∧a_b b (Qp (.a (iA 23)) Z2) ((I (w64 (n+1)) Z2)∧((μ (w64 (n+1)) Z2) < (μ n Z)))))) ((I (w64 (n+1)) Z)∧((μ (w64 (n+1)) Z) < (μ n Z)))) (∃len1:Nat,(Len sections len1)∧∃I1:Int→Store→Prop,∃μ1:Int→Store→Nat,(I1 0 Z)∧∀n1:Int,∀Z1,(I1 n1 Z1)→a_b (decide (n1 < (len1:Int))) (∃len2:Nat,(Idx prog Z1 sections 1 len2)∧((0:Int)≤n1)∧(n1 < (len2:Int))∧∃row1:List D,(Row Z1 sections (Int.toNat n1) row1)∧∃n2:Int,((List.take 1 row1) =([iD n2]:List D))∧(a_f d)∧∃s1:D,∃i1 off1:Nat,(d=(.el s1 i1 off1:D))∧∃row2:List D,(Row Z1 s1 i1 row2)∧∃d2:D,((List.take 1 (List.drop ((off1+9) +0) row2)) =([d2]:List D))∧∃len3:Nat,(Idx prog Z1 d2 1 len3)∧((0:Int)≤n2)∧(n2 < (len3:Int))∧∃row3:List D,(Row Z1 d2 (Int.toNat n2) row3)∧∃n3:Int,((List.take 1 row3) =([iD n3]:List D))∧a_b (n3 != 0) (DCalls prog f_e [.one d,iA r,iA n2] Z1 (fun r1 Z2=>∃b:Bool,(r1=(.a (bA b) :RV))∧a_b (!b) (Qp (.a (iA 22)) Z2) ((I1 (w64 (n1+1)) Z2)∧((μ1 (w64 (n1+1)) Z2) < (μ1 n1 Z1))))) ((I1 (w64 (n1+1)) Z1)∧((μ1 (w64 (n1+1)) Z1) < (μ1 n1 Z1)))) (Qp (.a (iA 0)) Z1))
theorem a_at (d:D)(r:Int)(sections:D)(σ:Store)(Qp:RV→Store→Prop)(h:a_bv d r sections σ Qp) :DCalls prog i_m [.one d,iA r, .one sections] σ Qp:=
 a_a mixed (by kernel_rfl) Tryz.func107 z_l (Eq.mp (by kernel_rfl) h)
def t_r:Ann:= { }
def w_x (s:D)(σ:Store)(Qp:RV→Store→Prop) :Prop:=
 ∃b:Bool,(i_d .sl s b)∧a_b (b != false) (Qp (.a (.one .nils)) σ) (Fw.newObj σ (.live a_i []) (fun id Z=>a_v prog Z a_i 8 (.osl id 0 0) s (fun d Z1=>Qp (.a (.one d)) Z1)))
theorem w_p (s:D)(σ:Store)(Qp:RV→Store→Prop)(h:w_x s σ Qp) :DCalls prog b_a [.one s] σ Qp:=
 a_a mixed (by kernel_rfl) Tryz.func111 t_r (Eq.mp (by kernel_rfl) h)
def w_c:Ann:= { cbs:= [2] }
def y_1 (s0 s1 s2:Int)(a1:D)(σ:Store)(Qp:RV→Store→Prop) :Prop:=
 ∃s:D,∃i off:Nat,(a1=(.el s i off:D))∧∃row:List D,(Row σ s i row)∧∃n:Int,((List.take 1 (List.drop off row)) =([iD n]:List D))∧Qp (.a (bA (s2 == n))) σ
theorem y_z (s0 s1 s2:Int)(a1:D)(σ:Store)(Qp:RV→Store→Prop)(h:y_1 s0 s1 s2 a1 σ Qp) :DCalls prog l_3 [.agg [iD s0,iD s1,iD s2], .one a1] σ Qp:=
 a_a mixed (by kernel_rfl) Tryz.func115 w_c (Eq.mp (by kernel_rfl) h)
def t_n:Ann:= { loops:= [(2,{ mods:= [(10,s6)],keep:= [0,8,9] })] }
def w_l (e_ sections:D)(σ:Store)(Qp:RV→Store→Prop) :Prop:=
 ∃len:Nat,(Len sections len)∧∃I:Int→Store→Prop,∃μ:Int→Store→Nat,(I 0 σ)∧∀n:Int,∀Z,(I n Z)→a_b (decide (n < (len:Int))) (∃len1:Nat,(Idx prog Z sections 1 len1)∧((0:Int)≤n)∧(n < (len1:Int))∧∃row:List D,(Row Z sections (Int.toNat n) row)∧∃n1:Int,((List.take 1 row) =([iD n1]:List D))∧(a_f e_)∧∃s:D,∃i off:Nat,(e_=(.el s i off:D))∧∃row1:List D,(Row Z s i row1)∧∃d:D,((List.take 1 (List.drop ((off+0) +0) row1)) =([d]:List D))∧∃len2:Nat,(Idx prog Z d 3 len2)∧((0:Int)≤n1)∧(n1 < (len2:Int))∧∃row2:List D,(Row Z d (Int.toNat n1) row2)∧∃n2 n3:Int,∃b:Bool,((List.take 3 row2) =([iD n2,iD n3, .bool b]:List D))∧a_b (!b) (Qp (.a (bA false)) Z) (a_b (n2 != 0) (Qp (.a (bA false)) Z) ((I (w64 (n+1)) Z)∧((μ (w64 (n+1)) Z) < (μ n Z))))) (Qp (.a (bA true)) Z)
theorem x_a (e_ sections:D)(σ:Store)(Qp:RV→Store→Prop)(h:w_l e_ sections σ Qp) :DCalls prog c_h [.one e_, .one sections] σ Qp:=
 a_a mixed (by kernel_rfl) Tryz.func119 t_n (Eq.mp (by kernel_rfl) h)
def r_f:Ann:= { loops:= [(1,{ mods:= [(12,s6)],keep:= [0,1,10,11] }),(7,{ mods:= [(8,SlotSh.one (Sh.any)),(9,s6)],keep:= [0,1,7,10,11,12] })],joins:= [(5,{ keep:= [0,1,7,10,11,12] })] }
def t_h (w:D)(bits:Int)(list:D)(σ:Store)(Qp:RV→Store→Prop) :Prop:=
 ∃len:Nat,(Len list len)∧∃I:Int→Store→Prop,∃μ:Int→Store→Nat,(I 0 σ)∧∀n:Int,∀Z,(I n Z)→a_b (decide (n < (len:Int))) (∃len1:Nat,(Idx prog Z list 1 len1)∧((0:Int)≤n)∧(n < (len1:Int))∧∃row:List D,(Row Z list (Int.toNat n) row)∧∃n1:Int,((List.take 1 row) =([iD n1]:List D))∧∀R:Store→Prop,(∀Z1,(∃I1:D→Int→Store→Prop,∃μ1:D→Int→Store→Nat,(I1 .nils (w64 (bits - 8)) Z1)∧∀d:D,∀n2:Int,∀Z2,(I1 d n2 Z2)→a_b (decide (n2≥0)) (((0:Int)≤(IntKind.wrap .u64 n2))∧Fw.newObj Z2 (.live f_0 [[.int .u8 (IntKind.wrap .u8 (Int.fdiv n1 (2 ^ (Min.min (Int.toNat (IntKind.wrap .u64 n2)) 64))))]]) (fun id Z3=>a_v prog Z3 f_0 1 d (.osl id 0 1) (fun d1 Z4=>(I1 d1 (w64 (n2 - 8)) Z4)∧((μ1 d1 (w64 (n2 - 8)) Z4) < (μ1 d n2 Z2))))) (DCalls prog h_q [.one w, .one d] Z2 (fun r Z3=>(r=(.tup []:RV))∧(I (w64 (n+1)) Z3)∧((μ (w64 (n+1)) Z3) < (μ n Z)))))→R Z1)→a_b (decide (n1 < 0)) ((a_f w)∧∃s:D,∃i off:Nat,(w=(.el s i off:D))∧DCalls prog b_3 [.one (.el s i (off+0)),iA 32] Z (fun r Z1=>(r=(.tup []:RV))∧R Z1)) (((0:Int)≤(IntKind.wrap .u64 bits))∧a_b ((Int.fdiv n1 (2 ^ (Min.min (Int.toNat (IntKind.wrap .u64 bits)) 64))) != 0) ((a_f w)∧∃s:D,∃i off:Nat,(w=(.el s i off:D))∧DCalls prog b_3 [.one (.el s i (off+0)),iA 32] Z (fun r Z1=>(r=(.tup []:RV))∧R Z1)) (R Z))) (Qp (.tup []) Z)
theorem u_l (w:D)(bits:Int)(list:D)(σ:Store)(Qp:RV→Store→Prop)(h:t_h w bits list σ Qp) :DCalls prog d_f [.one w,iA bits, .one list] σ Qp:=
 a_a mixed (by kernel_rfl) Tryz.func123 r_f (Eq.mp (by kernel_rfl) h)
def q_3:Ann:= { cbs:= [1],draws:= [(6,{ ord:= [0,1,2,3,4,5,6] })],loops:= [(3,{ mods:= [(14,s6)],keep:= [1,3,12,13] })] }
def t_z (p0 p1 p2 p3 p4:D)(p5 p6 p7 p8:Int)(σ:Store)(Qp:RV→Store→Prop) :Prop:=
 Fw.newObj σ (.mp 0 []) (fun id Z=>∃len:Nat,(Len p2 len)∧∃I:Int→Store→Prop,∃μ:Int→Store→Nat,(I 0 Z)∧∀n:Int,∀Z1,(I n Z1)→a_b (decide (n < (len:Int))) (∃len1:Nat,(Idx prog Z1 p2 2 len1)∧((0:Int)≤n)∧(n < (len1:Int))∧∃row:List D,(Row Z1 p2 (Int.toNat n) row)∧∃n1 n2:Int,((List.take 2 row) =([iD n1,iD n2]:List D))∧DCalls prog f_p [.one p1,iA n1,iA n2] Z1 (fun r Z2=>∃n3 n4:Int,∃b:Bool,(r=(.tup [iA n3,iA n4,bA b]:RV))∧∃r1:Option A,(j_b prog e_6 Z2 (.omap id) (.agg [iD n1,iD n2]) r1)∧∃n5:Int,((Option.getD r1 (iA 0)) =(iA n5:A))∧a_ll prog e_6 Z2 (.omap id) (.agg [iD n1,iD n2]) (iA 0) (fun (v:A)=>fun n6 Z3=>a_g5 Z3 (.omap id) n6 (.one (iD (w64 (n5+1)))) (fun Z4=>a_b (!b) (Qp (.a (bA false)) Z4) (∃r2:Option A,(j_b prog e_6 Z4 (.omap id) (.agg [iD n1,iD n2]) r2)∧∃n7:Int,((Option.getD r2 (iA 0)) =(iA n7:A))∧a_b (decide (n7 > 1)) (Qp (.a (bA false)) Z4) ((I (w64 (n+1)) Z4)∧((μ (w64 (n+1)) Z4) < (μ n Z1)))))))) (∃len1:Nat,(Len p2 len1)∧Qp (.a (.one (.bool (decide ((len1:Int)≤12))))) Z1))
theorem t_o (p0 p1 p2 p3 p4:D)(p5 p6 p7 p8:Int)(σ:Store)(Qp:RV→Store→Prop)(h:t_z p0 p1 p2 p3 p4 p5 p6 p7 p8 σ Qp) :DCalls prog g_c [.agg [p0,p1,p2,p3,p4,iD p5,iD p6,iD p7,iD p8]] σ Qp:=
 a_a mixed (by kernel_rfl) Tryz.func127 q_3 (Eq.mp (by kernel_rfl) h)
def s_i:Ann:= { }
def t_t (n:Int)(σ:Store)(Qp:RV→Store→Prop) :Prop:=
 a_b (decide (n < 0)) False (∃len:Nat,(Len .nils len)∧a_b (decide ((w64 (n - (w64 (0 - (len:Int))))) > 0)) (∃len1:Nat,(IdxN prog σ .nils 2 len1)∧((0:Int)≤0)∧((0:Int)≤0)∧((0:Int)≤(len1:Int))∧((0:Int)≤(w64 (n - (w64 (0 - (len:Int))))))∧(((16:Int) * (w64 (n - (w64 (0 - (len:Int))))))≤(2 ^ 47))∧a_b (decide ((w64 (n - (w64 (0 - (len:Int)))) :Int) =0)) (∃len2:Nat,(Len .nils len2)∧∃len3:Nat,(IdxN prog σ .nils 2 len3)∧((0:Int)≤0)∧((0:Int)≤(len2:Int))∧((len2:Int)≤(len3:Int))∧Qp (.a (.one .nils)) σ) (Fw.newObj σ (.live b_d (List.replicate (Int.toNat (w64 (n - (w64 (0 - (len:Int)))))) [iD 0,iD 0])) (fun id Z=>∃len2:Nat,(Len .nils len2)∧∃len3:Nat,(IdxN prog Z (.osl id 0 (Int.toNat (w64 (n - (w64 (0 - (len:Int))))))) 2 len3)∧((0:Int)≤0)∧((0:Int)≤(len2:Int))∧((len2:Int)≤(len3:Int))∧Qp (.a (.one (.osl id 0 ((Int.toNat (len2:Int)) - 0)))) Z))) (Qp (.a (.one .nils)) σ))
theorem u_j (n:Int)(σ:Store)(Qp:RV→Store→Prop)(h:t_t n σ Qp) :DCalls prog g_j [.one .nils,iA n] σ Qp:=
 a_a mixed (by kernel_rfl) Tryz.func131 s_i (Eq.mp (by kernel_rfl) h)
def q_u:Ann:= { cbs:= [2] }
def t_u (s0 s1 s2:Int)(a1:D)(σ:Store)(Qp:RV→Store→Prop) :Prop:=
 ∃s:D,∃i off:Nat,(a1=(.el s i off:D))∧∃row:List D,(Row σ s i row)∧∃n:Int,((List.take 1 (List.drop off row)) =([iD n]:List D))∧Qp (.a (bA (s0 == n))) σ
theorem t_d (s0 s1 s2:Int)(a1:D)(σ:Store)(Qp:RV→Store→Prop)(h:t_u s0 s1 s2 a1 σ Qp) :DCalls prog j_r [.agg [iD s0,iD s1,iD s2], .one a1] σ Qp:=
 a_a mixed (by kernel_rfl) Tryz.func135 q_u (Eq.mp (by kernel_rfl) h)
def t_i:Ann:= { loops:= [(2,{ mods:= [(8,s6)],keep:= [0,1,7] })] }
def x_j (s:D)(v:Int)(σ:Store)(Qp:RV→Store→Prop) :Prop:=
 ∃len:Nat,(Len s len)∧∃I:Int→Store→Prop,∃μ:Int→Store→Nat,(I 0 σ)∧∀n:Int,∀Z,(I n Z)→a_b (decide (n < (len:Int))) (∃len1:Nat,(Idx prog Z s 1 len1)∧((0:Int)≤n)∧(n < (len1:Int))∧∃row:List D,(Row Z s (Int.toNat n) row)∧∃n1:Int,((List.take 1 row) =([iD n1]:List D))∧a_b (v == n1) (Qp (.a (iA n)) Z) ((I (w64 (n+1)) Z)∧((μ (w64 (n+1)) Z) < (μ n Z)))) (Qp (.a (iA (-1))) Z)
theorem v_6 (s:D)(v:Int)(σ:Store)(Qp:RV→Store→Prop)(h:x_j s v σ Qp) :DCalls prog e_4 [.one s,iA v] σ Qp:=
 a_a mixed (by kernel_rfl) Tryz.func140 t_i (Eq.mp (by kernel_rfl) h)
def r_w:Ann:= { loops:= [(2,{ mods:= [(16,s6)],keep:= [0,14,15] })] }
def t_q (x:D)(r:Int)(σ:Store)(Qp:RV→Store→Prop) :Prop:=
 (a_f x)∧∃s:D,∃i off:Nat,(x=(.el s i off:D))∧∃row:List D,(Row σ s i row)∧∃d:D,((List.take 1 (List.drop (off+22) row)) =([d]:List D))∧∃len:Nat,(Idx prog σ d 1 len)∧((0:Int)≤r)∧(r < (len:Int))∧∃row1:List D,(Row σ d (Int.toNat r) row1)∧∃d1:D,((List.take 1 row1) =([d1]:List D))∧∃len1:Nat,(Len d1 len1)∧∃I:Int→Store→Prop,∃μ:Int→Store→Nat,(I 0 σ)∧∀n:Int,∀Z,(I n Z)→a_b (decide (n < (len1:Int))) (∃len2:Nat,(Idx prog Z d1 1 len2)∧((0:Int)≤n)∧(n < (len2:Int))∧∃row2:List D,(Row Z d1 (Int.toNat n) row2)∧∃n1:Int,((List.take 1 row2) =([iD n1]:List D))∧(a_f x)∧∃s1:D,∃i1 off1:Nat,(x=(.el s1 i1 off1:D))∧∃row3:List D,(Row Z s1 i1 row3)∧∃d2:D,((List.take 1 (List.drop ((off1+4) +0) row3)) =([d2]:List D))∧∃len3:Nat,(Idx prog Z d2 3 len3)∧((0:Int)≤n1)∧(n1 < (len3:Int))∧∃row4:List D,(Row Z d2 (Int.toNat n1) row4)∧∃n2:Int,((List.take 1 (List.drop 2 row4)) =([iD n2]:List D))∧a_b (decide (n2 > 0)) ((a_f x)∧∃s2:D,∃i2 off2:Nat,(x=(.el s2 i2 off2:D))∧∃row5:List D,(Row Z s2 i2 row5)∧∃d3:D,((List.take 1 (List.drop ((off2+13) +4) row5)) =([d3]:List D))∧∃len4:Nat,(Idx prog Z d3 8 len4)∧((0:Int)≤n2)∧(n2 < (len4:Int))∧Qp (.a (.one (.el d3 (Int.toNat n2) 0))) Z) ((I (w64 (n+1)) Z)∧((μ (w64 (n+1)) Z) < (μ n Z)))) (Qp (.a (.one .nilp)) Z)
theorem u_e (x:D)(r:Int)(σ:Store)(Qp:RV→Store→Prop)(h:t_q x r σ Qp) :DCalls prog e_h [.one x,iA r] σ Qp:=
 a_a mixed (by kernel_rfl) Tryz.func144 r_w (Eq.mp (by kernel_rfl) h)
def w_i:Ann:= { draws:= [(0,{ ord:= [0,1,2,3,4,5,6,7,8,9,10,11,12] })] }
def x_r (w b:D)(σ:Store)(Qp:RV→Store→Prop) :Prop:=
 ∃len:Nat,(Len b len)∧(a_f w)∧∃s:D,∃i off:Nat,(w=(.el s i off:D))∧∃row:List D,(Row σ s i row)∧∃n:Int,((List.take 1 (List.drop (off+2) row)) =([iD n]:List D))∧(a_f w)∧∃s1:D,∃i1 off1:Nat,(w=(.el s1 i1 off1:D))∧∃row1:List D,(Row σ s1 i1 row1)∧∃d:D,((List.take 1 (List.drop (off1+1) row1)) =([d]:List D))∧∃len1:Nat,(Len d len1)∧a_b (decide ((len:Int) > (w64 (n - (len1:Int))))) ((a_f w)∧∃s2:D,∃i2 off2:Nat,(w=(.el s2 i2 off2:D))∧DCalls prog b_3 [.one (.el s2 i2 (off2+0)),iA 2] σ (fun r Z=>(r=(.tup []:RV))∧(a_f w)∧∃s3:D,∃i3 off3:Nat,(w=(.el s3 i3 off3:D))∧DCalls prog b_c [.one (.el s3 i3 (off3+0))] Z (fun r1 Z1=>∃b1:Bool,(r1=(.a (bA b1) :RV))∧a_b b1 ((a_f w)∧∃s4:D,∃i4 off4:Nat,(w=(.el s4 i4 off4:D))∧∃row2:List D,(Row Z1 s4 i4 row2)∧∃d1:D,((List.take 1 (List.drop (off4+1) row2)) =([d1]:List D))∧a_v prog Z1 f_0 1 d1 b (fun d2 Z2=>(a_f w)∧∃s5:D,∃i5 off5:Nat,(w=(.el s5 i5 off5:D))∧a_j [d2] Z2 s5 i5 (off5+1) (fun Z3=>Qp (.tup []) Z3))) (Qp (.tup []) Z1)))) ((a_f w)∧∃s2:D,∃i2 off2:Nat,(w=(.el s2 i2 off2:D))∧DCalls prog b_c [.one (.el s2 i2 (off2+0))] σ (fun r Z=>∃b1:Bool,(r=(.a (bA b1) :RV))∧a_b b1 ((a_f w)∧∃s3:D,∃i3 off3:Nat,(w=(.el s3 i3 off3:D))∧∃row2:List D,(Row Z s3 i3 row2)∧∃d1:D,((List.take 1 (List.drop (off3+1) row2)) =([d1]:List D))∧a_v prog Z f_0 1 d1 b (fun d2 Z1=>(a_f w)∧∃s4:D,∃i4 off4:Nat,(w=(.el s4 i4 off4:D))∧a_j [d2] Z1 s4 i4 (off4+1) (fun Z2=>Qp (.tup []) Z2))) (Qp (.tup []) Z)))
theorem y_r (w b:D)(σ:Store)(Qp:RV→Store→Prop)(h:x_r w b σ Qp) :DCalls prog h_q [.one w, .one b] σ Qp:=
 a_a mixed (by kernel_rfl) Tryz.func148 w_i (Eq.mp (by kernel_rfl) h)
def a_lg:Ann:= { draws:= [(5,{ ord:= [0,1,2,3,4,5,6] }),(7,{ ord:= [0,1,2,3,4,5,6] })],loops:= [(2,{ mods:= [(13,s6)],keep:= [1,2,11,12] })] }
def a_qd (joints:D)(section_ end_:Int)(σ:Store)(Qp:RV→Store→Prop) :Prop:=
 ∃len:Nat,(Len joints len)∧∃I:Int→Store→Prop,∃μ:Int→Store→Nat,(I 0 σ)∧∀n:Int,∀Z,(I n Z)→a_b (decide (n < (len:Int))) (∃len1:Nat,(Idx prog Z joints 4 len1)∧((0:Int)≤n)∧(n < (len1:Int))∧∃row:List D,(Row Z joints (Int.toNat n) row)∧∃n1 n2 n3 n4:Int,((List.take 4 row) =([iD n1,iD n2,iD n3,iD n4]:List D))∧a_b (n1 == section_) (a_b (n2 == end_) (Qp (.tup [iA n3,iA n4,bA true]) Z) (a_b (n3 == section_) (a_b (n4 == end_) (Qp (.tup [iA n1,iA n2,bA true]) Z) ((I (w64 (n+1)) Z)∧((μ (w64 (n+1)) Z) < (μ n Z)))) ((I (w64 (n+1)) Z)∧((μ (w64 (n+1)) Z) < (μ n Z))))) (a_b (n3 == section_) (a_b (n4 == end_) (Qp (.tup [iA n1,iA n2,bA true]) Z) ((I (w64 (n+1)) Z)∧((μ (w64 (n+1)) Z) < (μ n Z)))) ((I (w64 (n+1)) Z)∧((μ (w64 (n+1)) Z) < (μ n Z))))) (Qp (.tup [iA 0,iA 0,bA false]) Z)
theorem a_n9 (joints:D)(section_ end_:Int)(σ:Store)(Qp:RV→Store→Prop)(h:a_qd joints section_ end_ σ Qp) :DCalls prog f_p [.one joints,iA section_,iA end_] σ Qp:=
 a_a mixed (by kernel_rfl) Tryz.func152 a_lg (Eq.mp (by kernel_rfl) h)
def v_r:Ann:= { esc:= [13],cbs:= [3],loops:= [(3,{ mods:= [(7,SlotSh.one (Sh.any)),(20,s6)],keep:= [1,2,3,18,19] }),(8,{ mods:= [(7,SlotSh.one (Sh.any)),(36,s6)],keep:= [1,2,3,9,18,19,20,35] })],joins:= [(11,{ keep:= [1,2,3,7,9,12,18,19,20,35,36] }),(14,{ keep:= [1,2,3,7,9,13,14,18,19,20,35,36] })] }
def x_s (p0 p1 p2 p3 p4:D)(p5 p6 p7 p8 approach:Int)(path:D)(σ:Store)(Qp:RV→Store→Prop) :Prop:=
 ∃len:Nat,(Len path len)∧∃I:D→Int→Store→Prop,∃μ:D→Int→Store→Nat,(I .nils 0 σ)∧∀d:D,∀n:Int,∀Z,(I d n Z)→a_b (decide (n < (len:Int))) (∃len1:Nat,(Idx prog Z path 3 len1)∧((0:Int)≤n)∧(n < (len1:Int))∧∃row:List D,(Row Z path (Int.toNat n) row)∧∃n1 n2 n3:Int,((List.take 3 row) =([iD n1,iD n2,iD n3]:List D))∧DCalls prog b_2 [.agg [p0,p1,p2,p3,p4,iD p5,iD p6,iD p7,iD p8],iA n1] Z (fun r Z1=>∃n4 n5 n6:Int,∃b:Bool,(r=(.tup [.agg [iD n4,iD n5,iD n6],bA b]:RV))∧a_b (!b) ((I d (w64 (n+1)) Z1)∧((μ d (w64 (n+1)) Z1) < (μ d n Z))) (DCalls prog i_9 [iA n4] Z1 (fun r1 Z2=>∃n7:Int,(r1=(.a (iA n7) :RV))∧∃I1:D→Int→Store→Prop,∃μ1:D→Int→Store→Nat,(I1 d 0 Z2)∧∀d1:D,∀n8:Int,∀Z3,(I1 d1 n8 Z3)→a_b (decide (n8 < n7)) (∀R:Store→Prop,(∀Z4,(DCalls prog f_p [.one p1,iA n1,iA n8] Z4 (fun r2 Z5=>∃n9 n10:Int,∃b1:Bool,(r2=(.tup [iA n9,iA n10,bA b1]:RV))∧Fw.newObj Z5 (.live a_i [[iD 0]]) (fun id Z6=>a_j [iD n9] Z6 (.osl id 0 1) 0 0 (fun Z7=>∃row1:List D,(Row Z7 (.osl id 0 1) 0 row1)∧∃n11:Int,((List.take 1 row1) =([iD n11]:List D))∧DCalls prog b_2 [.agg [p0,p1,p2,p3,p4,iD p5,iD p6,iD p7,iD p8],iA n11] Z7 (fun r3 Z8=>∃n12 n13 n14:Int,∃b2:Bool,(r3=(.tup [.agg [iD n12,iD n13,iD n14],bA b2]:RV))∧∀R1:Store→Prop,(∀Z9,(∃row2:List D,(Row Z9 (.osl id 0 1) 0 row2)∧∃n15:Int,((List.take 1 row2) =([iD n15]:List D))∧Fw.newObj Z9 (.live a_4 [[iD n15,iD (w64 (3 - n10))]]) (fun id1 Z10=>a_v prog Z10 a_4 16 d1 (.osl id1 0 1) (fun d2 Z11=>(([[iD n1,iD n2,iD n3]]:List (List D)) =([[iD n1,iD n2,iD n3]]:List (List D)))∧(I1 d2 (w64 (n8+1)) Z11)∧((μ1 d2 (w64 (n8+1)) Z11) < (μ1 d1 n8 Z3)))))→R1 Z9)→a_b (!b1) ((([[iD n1,iD n2,iD n3]]:List (List D)) =([[iD n1,iD n2,iD n3]]:List (List D)))∧(I1 d1 (w64 (n8+1)) Z8)∧((μ1 d1 (w64 (n8+1)) Z8) < (μ1 d1 n8 Z3))) (a_b (!b2) ((([[iD n1,iD n2,iD n3]]:List (List D)) =([[iD n1,iD n2,iD n3]]:List (List D)))∧(I1 d1 (w64 (n8+1)) Z8)∧((μ1 d1 (w64 (n8+1)) Z8) < (μ1 d1 n8 Z3))) (a_b (n12 != 1) ((([[iD n1,iD n2,iD n3]]:List (List D)) =([[iD n1,iD n2,iD n3]]:List (List D)))∧(I1 d1 (w64 (n8+1)) Z8)∧((μ1 d1 (w64 (n8+1)) Z8) < (μ1 d1 n8 Z3))) (a_b (decide (n10 < 1)) ((([[iD n1,iD n2,iD n3]]:List (List D)) =([[iD n1,iD n2,iD n3]]:List (List D)))∧(I1 d1 (w64 (n8+1)) Z8)∧((μ1 d1 (w64 (n8+1)) Z8) < (μ1 d1 n8 Z3))) (a_b (decide (n10 > 2)) ((([[iD n1,iD n2,iD n3]]:List (List D)) =([[iD n1,iD n2,iD n3]]:List (List D)))∧(I1 d1 (w64 (n8+1)) Z8)∧((μ1 d1 (w64 (n8+1)) Z8) < (μ1 d1 n8 Z3))) (∃row2:List D,(Row Z8 (.osl id 0 1) 0 row2)∧∃n15:Int,((List.take 1 row2) =([iD n15]:List D))∧a_b (n15 == approach) ((([[iD n1,iD n2,iD n3]]:List (List D)) =([[iD n1,iD n2,iD n3]]:List (List D)))∧(I1 d1 (w64 (n8+1)) Z8)∧((μ1 d1 (w64 (n8+1)) Z8) < (μ1 d1 n8 Z3))) (∃row3:List D,(Row Z8 (.osl id 0 1) 0 row3)∧∃n16:Int,((List.take 1 row3) =([iD n16]:List D))∧DCalls prog o_e [.one path,iA n16] Z8 (fun r4 Z9=>∃b3:Bool,(r4=(.a (bA b3) :RV))∧a_b b3 ((([[iD n1,iD n2,iD n3]]:List (List D)) =([[iD n1,iD n2,iD n3]]:List (List D)))∧(I1 d1 (w64 (n8+1)) Z9)∧((μ1 d1 (w64 (n8+1)) Z9) < (μ1 d1 n8 Z3))) (DCalls prog c_o [.one d1, .one (.fn g_a [] [(false,[.el (.osl id 0 1) 0 0])])] Z9 (fun r5 Z10=>∃b4:Bool,(r5=(.a (bA b4) :RV))∧a_b b4 ((([[iD n1,iD n2,iD n3]]:List (List D)) =([[iD n1,iD n2,iD n3]]:List (List D)))∧(I1 d1 (w64 (n8+1)) Z10)∧((μ1 d1 (w64 (n8+1)) Z10) < (μ1 d1 n8 Z3))) ((([[iD n1,iD n2,iD n3]]:List (List D)) =([[iD n1,iD n2,iD n3]]:List (List D)))∧R1 Z10)))))))))))))))→R Z4)→a_b (n8 == n2) ((([[iD n1,iD n2,iD n3]]:List (List D)) =([[iD n1,iD n2,iD n3]]:List (List D)))∧(I1 d1 (w64 (n8+1)) Z3)∧((μ1 d1 (w64 (n8+1)) Z3) < (μ1 d1 n8 Z3))) (a_b (n8 == n3) ((([[iD n1,iD n2,iD n3]]:List (List D)) =([[iD n1,iD n2,iD n3]]:List (List D)))∧(I1 d1 (w64 (n8+1)) Z3)∧((μ1 d1 (w64 (n8+1)) Z3) < (μ1 d1 n8 Z3))) ((([[iD n1,iD n2,iD n3]]:List (List D)) =([[iD n1,iD n2,iD n3]]:List (List D)))∧R Z3))) ((I d1 (w64 (n+1)) Z3)∧((μ d1 (w64 (n+1)) Z3) < (μ d n Z))))))) (Qp (.a (.one d)) Z)
theorem x_2 (p0 p1 p2 p3 p4:D)(p5 p6 p7 p8 approach:Int)(path:D)(σ:Store)(Qp:RV→Store→Prop)(h:x_s p0 p1 p2 p3 p4 p5 p6 p7 p8 approach path σ Qp) :DCalls prog h_l [.agg [p0,p1,p2,p3,p4,iD p5,iD p6,iD p7,iD p8],iA approach, .one path] σ Qp:=
 a_a mixed (by kernel_rfl) Tryz.func156 v_r (Eq.mp (by kernel_rfl) h)
def a_nq:Ann:= { }
def a_oh (kind:Int)(σ:Store)(Qp:RV→Store→Prop) :Prop:=
 a_b (kind == 0) (Fw.newObj σ (.live c_i [[iD 0,iD 1,iD 0]]) (fun id Z=>Qp (.a (.one (.osl id 0 1))) Z)) (a_b (kind == 1) (Fw.newObj σ (.live c_i [[iD 0,iD 1,iD 1],[iD 0,iD 2,iD 2]]) (fun id Z=>Qp (.a (.one (.osl id 0 2))) Z)) (a_b (kind == 2) (Fw.newObj σ (.live c_i [[iD 0,iD 1,iD 0],[iD 2,iD 3,iD 0]]) (fun id Z=>Qp (.a (.one (.osl id 0 2))) Z)) (Qp (.a (.one .nils)) σ)))
theorem a_ot (kind:Int)(σ:Store)(Qp:RV→Store→Prop)(h:a_oh kind σ Qp) :DCalls prog l_y [iA kind] σ Qp:=
 a_a mixed (by kernel_rfl) Tryz.func160 a_nq (Eq.mp (by kernel_rfl) h)
def a_f8:Ann:= { }
def a_hs (n:Int)(σ:Store)(Qp:RV→Store→Prop) :Prop:=
 Qp (.a (.one (iD (ite ((4611686018427387904:Int) < (ite ((-1) > n) (-1) n)) 4611686018427387904 (ite ((-1) > n) (-1) n))))) σ
theorem a_j2 (n:Int)(σ:Store)(Qp:RV→Store→Prop)(h:a_hs n σ Qp) :DCalls prog g_l [iA n] σ Qp:=
 a_a mixed (by kernel_rfl) Tryz.func166 a_f8 (Eq.mp (by kernel_rfl) h)
def a_nz:Ann:= { esc:= [3] }
def a_sd (path:D)(section_:Int)(σ:Store)(Qp:RV→Store→Prop) :Prop:=
 Fw.newObj σ (.live a_i [[iD section_]]) (fun id Z=>DCalls prog c_r [.one path, .one (.fn y_h [] [(false,[.el (.osl id 0 1) 0 0])])] Z (fun r Z1=>∃b:Bool,(r=(.a (bA b) :RV))∧Qp (.a (bA b)) Z1))
theorem a_rj (path:D)(section_:Int)(σ:Store)(Qp:RV→Store→Prop)(h:a_sd path section_ σ Qp) :DCalls prog o_e [.one path,iA section_] σ Qp:=
 a_a mixed (by kernel_rfl) Tryz.func170 a_nz (Eq.mp (by kernel_rfl) h)
def a_ip:Ann:= { cbs:= [2] }
def a_nr (s0 s1 s2:Int)(a1:D)(σ:Store)(Qp:RV→Store→Prop) :Prop:=
 ∃s:D,∃i off:Nat,(a1=(.el s i off:D))∧∃row:List D,(Row σ s i row)∧∃n:Int,((List.take 1 (List.drop off row)) =([iD n]:List D))∧Qp (.a (bA (s0 == n))) σ
theorem a_mv (s0 s1 s2:Int)(a1:D)(σ:Store)(Qp:RV→Store→Prop)(h:a_nr s0 s1 s2 a1 σ Qp) :DCalls prog y_h [.agg [iD s0,iD s1,iD s2], .one a1] σ Qp:=
 a_a mixed (by kernel_rfl) Tryz.func185 a_ip (Eq.mp (by kernel_rfl) h)
end Go.Proofs.YtdmfnhbmhkgemaaGreat
end
section
set_option maxRecDepth 20000
namespace Go.Proofs.YtdmfnhbmhkgemaaGreat
open Go.Fw Go.Proofs Go.RowKit
open Go.Proofs.Tryz (prog)
variable {σ:Store}
theorem a_y7 (l:List (Int × Int × Int)) :∀row ∈ l.map encW,∀x ∈ row,Flat x:=by
 intro row hrow x hx
 obtain ⟨w,_,rfl⟩:=List.mem_map.1 hrow
 simp[encW] at hx
 rcases hx with rfl | rfl | rfl <;> exact .int _ _
def r_m (σ:Store)(t:TypeId)(k:Int)(r:RV)(σ':Store) :Prop:=σ'=σ∧∃d,r= .a (.one d)∧∀s,At prog s t d ((f_c k).map encW)
theorem n_u {t:TypeId}(hc:prog.cellsOf t=3){k:Int}{rows:List (List D)}{n:Nat}{id:Nat}{σ':Store}(hn:n=rows.length)(hl:rows.length < 100)(hid:σ id= .free)(he:Ext σ σ')(hs:σ' id= .live t rows)(hr:rows=(f_c k).map encW) :
   ∃r' σ'',Ret prog σ σ' (.a (.one (.osl id 0 n))) σ'' r'∧r_m σ t k r' σ'':=by
 have hat:At prog σ' t (.osl id 0 n) rows:=At.fresh hs (by omega) hn
 obtain ⟨d',h1,h2⟩:=s_8 hat he (y_g hid) (by rw[hr];exact a_y7 _)
 exact ⟨.a (.one d'),σ, .pure he h1,rfl,d',rfl,fun s=>hr ▸ h2 s⟩
theorem y_s (k:Int) :DCalls prog l_y [iA k] σ (r_m σ c_i k):=by
 refine (a_ot k σ _ ?_).ret (Q:=fun r s=>∃r' σ',Ret prog σ s r σ' r'∧r_m σ c_i k r' σ') (fun r s h=>h)
 refine bce (fun h0=>a_d fun id σ' hid _ he hs=>?_) (fun h0=>bce (fun h1=>a_d fun id σ' hid _ he hs=>?_) (fun h1=>bce (fun h2=>a_d fun id σ' hid _ he hs=>?_) (fun h2=>?_)))
 · exact n_u l_a rfl (by simp) hid he hs (by subst h0;rfl)
 · exact n_u l_a rfl (by simp) hid he hs (by subst h1;rfl)
 · exact n_u l_a rfl (by simp) hid he hs (by subst h2;rfl)
 · exact ⟨.a (.one .nils),σ, .pure (.refl _) .nils,rfl, .nils,rfl,fun s=>by simp[f_c,h0,h1,h2];exact .nil⟩
theorem u_6 (k:Int) :DCalls prog j_0 [iA k] σ (r_m σ h_h k):=by
 refine (a_lf k σ _ ?_).ret (Q:=fun r s=>∃r' σ',Ret prog σ s r σ' r'∧r_m σ h_h k r' σ') (fun r s h=>h)
 refine bce (fun h0=>a_d fun id σ' hid _ he hs=>?_) (fun h0=>bce (fun h1=>a_d fun id σ' hid _ he hs=>?_) (fun h1=>bce (fun h2=>a_d fun id σ' hid _ he hs=>?_) (fun h2=>?_)))
 · exact n_u j_c rfl (by simp) hid he hs (by subst h0;rfl)
 · exact n_u j_c rfl (by simp) hid he hs (by subst h1;rfl)
 · exact n_u j_c rfl (by simp) hid he hs (by subst h2;rfl)
 · exact ⟨.a (.one .nils),σ, .pure (.refl _) .nils,rfl, .nils,rfl,fun s=>by simp[f_c,h0,h1,h2];exact .nil⟩
theorem z_n (k:Int) :(f_c k).length < 2 ^ 60:=by unfold f_c;split <;> (try split) <;> (try split) <;> simp
theorem o_7 (k:Int) :Pure prog i_9 [iA k] σ (.a (iA (b_l k))):=by
 refine a_o8 k σ _ ((y_s k).mono ?_)
 rintro r σ' ⟨rfl,d,rfl,hd⟩
 refine ⟨d,rfl,(hd σ').lenK ⟨fun n m s=>s=σ'∧Rng (f_c k) (fun r=>r.foldl l_4 n=b_l k) m,fun n m _=>(f_c k).length - m.toNat,⟨rfl, .start (a_th k)⟩,?_⟩⟩
 rintro n m _ ⟨rfl,hr⟩
 refine bcd (fun hlt=>?_) (fun hge=>?_)
 · obtain ⟨j,x,rfl,hx,hj,hF,nx⟩:=hr.step (by simp) (z_n k) hlt
   refine (hd _).load (a_c hx) l_a rfl ⟨x.1,x.2.1,x.2.2,rfl,by omega,by omega,by omega,by omega,c_6 rfl (nx (fun r=>r.foldl l_4 (l_4 n x) =b_l k) hF)⟩
 · have:=hr.done (by simp) hge
   exact ⟨by rw[←this];rfl,rfl⟩
theorem i_z (k:Int) :Pure prog f_1 [iA k] σ (.a (iA (b_l k))):=by
 refine a_lt k σ _ ((u_6 k).mono ?_)
 rintro r σ' ⟨rfl,d,rfl,hd⟩
 refine ⟨d,rfl,(hd σ').lenK ⟨fun n m s=>s=σ'∧Rng (f_c k) (fun r=>r.foldl l_4 n=b_l k) m,fun n m _=>(f_c k).length - m.toNat,⟨rfl, .start (a_th k)⟩,?_⟩⟩
 rintro n m _ ⟨rfl,hr⟩
 refine bcd (fun hlt=>?_) (fun hge=>?_)
 · obtain ⟨j,x,rfl,hx,hj,hF,nx⟩:=hr.step (by simp) (z_n k) hlt
   refine (hd _).load (a_c hx) j_c rfl ⟨x.1,x.2.1,x.2.2,rfl,c_6 rfl (nx (fun r=>r.foldl l_4 (l_4 n x) =b_l k) hF)⟩
 · have:=hr.done (by simp) hge
   exact ⟨by rw[←this];rfl,rfl⟩
theorem y_9 (k i o:Int) :Pure prog l_v [iA k,iA i,iA o] σ (opt1 (h_n (f_c k) i o)):=by
 refine a_pn k i o σ _ ((u_6 k).mono ?_)
 rintro r σ' ⟨rfl,d,rfl,hd⟩
 refine ⟨d,rfl,(hd σ').lenK ⟨fun m s=>s=σ'∧Rng (f_c k) (fun r=>h_n r i o=h_n (f_c k) i o) m,fun m _=>(f_c k).length - m.toNat,⟨rfl, .start rfl⟩,?_⟩⟩
 rintro m _ ⟨rfl,hr⟩
 refine bcd (fun hlt=>?_) (fun hge=>?_)
 · obtain ⟨j,x,rfl,hx,hj,hF,nx⟩:=hr.step (by simp) (z_n k) hlt
   refine (hd _).load (a_c hx) j_c rfl ⟨x.1,x.2.1,x.2.2,rfl,?_⟩
   rw[h_n] at hF
   repeat' (first | refine bce (fun _=>?_) (fun _=>?_))
   all_goals first
     | (rw[if_pos (by omega)] at hF;exact ⟨by rw[←hF];rfl,rfl⟩)
     | (rw[if_neg (by omega)] at hF;exact c_6 rfl (nx (fun r=>h_n r i o=h_n (f_c k) i o) hF))
 · have:=hr.done (by simp) hge
   exact ⟨by rw[←this];rfl,rfl⟩
theorem e_9 (n lo hi:Int) :Pure prog d_r [iA n,iA lo,iA hi] σ (.a (bA (decide (lo≤n∧n≤hi)))):=by
 refine a_fl n lo hi σ _ (bcd (fun h=>⟨?_,rfl⟩) (fun h=>⟨?_,rfl⟩))
 · simp[h]
 · simp[h]
theorem h_0 {d:D}{js:List Jt}(s e:Int)(h:At prog σ j_7 d (js.map Jt.enc)) :Pure prog f_p [.one d,iA s,iA e] σ (opt2 (nxt js s e)):=by
 have hl:=h.size
 rw[List.length_map] at hl
 refine a_n9 d s e σ _ (h.lenK ⟨fun n σ'=>σ'=σ∧Rng js (fun r=>nxt r s e=nxt js s e) n,fun n _=>js.length - n.toNat,⟨rfl, .start rfl⟩,?_⟩)
 rintro n σ' ⟨rfl,hr⟩
 refine bcd (fun hlt=>?_) (fun hge=>?_)
 · obtain ⟨j,x,rfl,hx,hj,hF,nx⟩:=hr.step (by simp) hl hlt
   refine h.load (a_c hx) s_6 rfl ⟨x.A,x.AEnd,x.B,x.BEnd,rfl,?_⟩
   rw[nxt] at hF
   repeat' (first | refine bce (fun _=>?_) (fun _=>?_))
   all_goals first
     | exact ⟨by rw[←hF];simp[*,opt2],rfl⟩
     | exact c_6 rfl (nx (fun r=>nxt r s e=nxt js s e) (by simpa[*] using hF))
 · exact ⟨by rw[←hr.done (by simp) hge];rfl,rfl⟩
theorem j_s {d:D}{l:List Int}(v:Int)(h:At prog σ a_i d (l.map Go.Fw.encI)) :Pure prog e_4 [.one d,iA v] σ (.a (iA (k_7 l v 0))):=by
 have hl:=h.size
 rw[List.length_map] at hl
 refine v_6 d v σ _ (h.lenK ⟨fun n σ'=>σ'=σ∧Rng l (fun r=>(∀j:Nat,n=j→k_7 r v j=k_7 l v 0)) n,fun n _=>l.length - n.toNat,⟨rfl, .start fun j hj=>by cases j with | zero=>rfl | succ j=>omega⟩,?_⟩)
 rintro n σ' ⟨rfl,hr⟩
 refine bcd (fun hlt=>?_) (fun hge=>?_)
 · obtain ⟨j,x,rfl,hx,hj,hF,nx⟩:=hr.step (by simp) hl hlt
   refine h.load (a_c hx) c_int rfl ⟨x,rfl,?_⟩
   have hF:=hF j rfl
   rw[k_7] at hF
   refine bce (fun _=>?_) (fun _=>?_)
   · exact ⟨by rw[←hF];simp[*],rfl⟩
   · refine c_6 rfl (nx _ fun j' hj'=>?_)
     rw[a_m (by omega)] at hj'
     obtain rfl:j'=j+1:=by omega
     rw[if_neg (fun e=>by simp_all)] at hF
     exact hF
 · refine ⟨?_,rfl⟩
   obtain ⟨j,hj,hj2,hF⟩:=hr
   have hF:=hF j hj
   rw[e_7 (by simp at hge;omega)] at hF
   rw[←hF];rfl
theorem x_h {W:World}{cs:Array Value}{t:TypeId}{j:Nat}{v:Value}(h:cs[j]? =some v) :(W.alloc (.cells cs t)).cell? ⟨W.heap.size,j,none⟩ =some v:=by
 unfold World.cell?
 rw[(MapKept.heap_alloc W _).1]
 exact h
theorem a_ns (a b p e:Int)(W:World) :Calls prog e_4 #[.slice (some ⟨W.heap.size,0,none⟩) 2 2, .int .i64 e] (W.alloc (.cells #[.int .i64 a, .int .i64 b, .int .i64 p] c_i)) fun r W'=>
   r= .returned (.int .i64 (k_7 [a,b] e 0))∧Below (W.heap.size+1) (W.alloc (.cells #[.int .i64 a, .int .i64 b, .int .i64 p] c_i)) W':=by
 have hsz:(W.alloc (.cells #[.int .i64 a, .int .i64 b, .int .i64 p] c_i)).heap.size=W.heap.size+1:=Array.size_push _
 have hA:At prog noS a_i (.sl 1 [[iD a],[iD b]]) ([a,b].map Go.Fw.encI):=⟨⟨rfl, .inr c_int.symm⟩,by simp,fun es rows e=>by injection e with e1 _;rw[←e1,c_int]⟩
 have hcell:∀j v,#[Value.int .i64 a, .int .i64 b, .int .i64 p][j]? =some v→(W.alloc (.cells #[.int .i64 a, .int .i64 b, .int .i64 p] c_i)).cell? ⟨W.heap.size,j,none⟩ =some v:=fun j v h=>x_h h
 have hV:V (t_l (W.alloc (.cells #[.int .i64 a, .int .i64 b, .int .i64 p] c_i))) noB (W.alloc (.cells #[.int .i64 a, .int .i64 b, .int .i64 p] c_i)) (.slice (some ⟨W.heap.size,0,none⟩) 2 2) (.sl 1 [[iD a],[iD b]]):=by
   have key:∀(i:Nat) row (j:Nat) d,([[iD a],[iD b]]:List (List D))[i]? =some row→row[j]? =some d→(i=0∧j=0∧row=[iD a]∧d=iD a)∨(i=1∧j=0∧row=[iD b]∧d=iD b):=by
     intro i row j d h1 h2
     rcases i with _ | _ | i
     · simp at h1;subst h1
       rcases j with _ | j
       · simp at h2;exact .inl ⟨rfl,rfl,rfl,h2.symm⟩
       · simp at h2
     · simp at h1;subst h1
       rcases j with _ | j
       · simp at h2;exact .inr ⟨rfl,rfl,rfl,h2.symm⟩
       · simp at h2
     · simp at h1
   refine V.sl ⟨W.heap.size,0,none⟩ 2 2 1 _ (fun i j=>if i=0 then .int .i64 a else .int .i64 b) (fun _=>⟨by show W.heap.size < _;rw[hsz];omega,rfl⟩) rfl (by omega) (fun i row h=>?_) (fun i row j d h hj=>?_) (fun i row j d h hj=>?_)
   · rcases i with _ | _ | i
     · simp at h;subst h;rfl
     · simp at h;subst h;rfl
     · simp at h
   · rcases key i row j d h hj with ⟨rfl,rfl,rfl,rfl⟩ | ⟨rfl,rfl,rfl,rfl⟩
     · exact hcell 0 _ rfl
     · exact hcell 1 _ rfl
   · rcases key i row j d h hj with ⟨rfl,rfl,rfl,rfl⟩ | ⟨rfl,rfl,rfl,rfl⟩
     · exact V.int _ _
     · exact V.int _ _
 have hc:=(j_s e hA).2 (t_l _) noB (W.alloc (.cells #[.int .i64 a, .int .i64 b, .int .i64 p] c_i)) #[.slice (some ⟨W.heap.size,0,none⟩) 2 2, .int .i64 e] a_x8 rfl (by
   intro i v x hv hx
   rcases i with _ | _ | i
   · simp at hv hx
     subst hv hx
     exact hV
   · simp at hv hx
     subst hv hx
     exact V.int _ _
   · simp at hv)
 refine hc.mono fun r W' ⟨v,rr,σ',k',β',q1,⟨q2,_⟩,q3,_,_,q6⟩=>?_
 subst q2
 have hv:=V.inv_int q3
 subst hv
 exact ⟨q1,q6.os,q6.tape,q6.output,q6.size,fun b hb=>q6.block b (by rw[hsz];exact hb) (fun i bi hi=>by cases hi)⟩
theorem a_dm (a b p e:Int)(W:World) :Calls prog i_s #[.agg #[.int .i64 a, .int .i64 b, .int .i64 p], .int .i64 e] W fun r W'=>
   r= .returned (if e=a then .tuple #[.int .i64 b, .bool true] else if e=b then .tuple #[.int .i64 a, .bool true] else .tuple #[.int .i64 0, .bool false])∧Below W.heap.size W W':=by
 have hI:=a_ns a b p e W
 have fin:∀W',Below (W.heap.size+1) (W.alloc (.cells #[.int .i64 a, .int .i64 b, .int .i64 p] c_i)) W'→Below W.heap.size W W':=fun W' hb=>
   ((Below.refl _ _).alloc (Nat.le_refl _) _).trans (hb.mono (by omega))
 have cells : ∀ W', Below (W.heap.size + 1) (W.alloc (.cells #[.int .i64 a, .int .i64 b, .int .i64 p] c_i)) W' →
     W'.cell? ⟨W.heap.size,0,none⟩ =some (.int .i64 a)∧W'.cell? ⟨W.heap.size,1,none⟩ =some (.int .i64 b):=fun W' hb=>by
   exact ⟨(hb.cell (p:=⟨W.heap.size,0,none⟩) (Nat.lt_succ_self _)).trans (x_h rfl),(hb.cell (p:=⟨W.heap.size,1,none⟩) (Nat.lt_succ_self _)).trans (x_h rfl)⟩
 by_cases h0:e=a
 · subst h0
   rw[show k_7 [e,b] e 0=0 by simp[k_7]] at hI
   rw[if_pos rfl]
   go_enter Tryz.func161,Tryz.ntmps161
   go_wp2_with fail
   refine hI.mono ?_
   rintro r W' ⟨rfl,hb⟩
   obtain ⟨c0,c1⟩:=cells W' hb
   have hf:=fin W' hb
   clear cells fin hI hb
   go_wp2
   go_ret2
   exact ⟨rfl,hf⟩
 · by_cases h1:e=b
   · subst h1
     rw[show k_7 [a,e] e 0=1 by simp[k_7,h0]] at hI
     rw[if_neg h0,if_pos rfl]
     go_enter Tryz.func161,Tryz.ntmps161
     go_wp2_with fail
     refine hI.mono ?_
     rintro r W' ⟨rfl,hb⟩
     obtain ⟨c0,c1⟩:=cells W' hb
     have hf:=fin W' hb
     clear cells fin hI hb
     go_wp2
     go_ret2
     exact ⟨rfl,hf⟩
   · rw[show k_7 [a,b] e 0= -1 by simp[k_7,h0,h1]] at hI
     rw[if_neg h0,if_neg h1]
     go_enter Tryz.func161,Tryz.ntmps161
     go_wp2_with fail
     refine hI.mono ?_
     rintro r W' ⟨rfl,hb⟩
     have hf:=fin W' hb
     clear cells fin hI hb
     go_wp2
     go_ret2
     exact ⟨rfl,hf⟩
theorem a_l2 (a b p e:Int) :Pure prog i_s [.agg [iD a,iD b,iD p],iA e] σ (opt1 (if e=a then some b else if e=b then some a else none)):=by
 refine ⟨by kernel_rfl,fun k β W vs hS hsz hv=>?_⟩
 have hvs:vs= #[.agg #[.int .i64 a, .int .i64 b, .int .i64 p], .int .i64 e]:=by
   have h0:=hv 0 (vs.getD 0 undef) _ (by simp at hsz;simp[hsz]) rfl
   have h1:=hv 1 (vs.getD 1 undef) _ (by simp at hsz;simp[hsz]) rfl
   obtain ⟨us,e0,hu⟩:=h0
   have e1:=V.inv_int h1
   have hus:us= #[.int .i64 a, .int .i64 b, .int .i64 p]:=by
     apply Array.ext'
     exact a_p4 hu rfl
   apply Array.ext
   · simpa using hsz
   · intro i h1 h2
     simp at hsz
     match i,h1 with
     | 0,_=>simp[hsz] at e0;simp[e0,hus]
     | 1,_=>simp[hsz] at e1;simp[e1]
     | i+2,h=>omega
 subst hvs
 refine (a_dm a b p e W).mono fun r W' ⟨h1,h2⟩=>?_
 have hg:Grow W W':=⟨h2.os,h2.tape,h2.output,h2.size,h2.block⟩
 have tup:∀(x:Int) (c:Bool),VR k β W' (.tuple #[.int .i64 x, .bool c]) (.tup [iA x,bA c]):=fun x c=>tup2 (v:=iA x) (V.int _ _)
 refine ⟨_,_,σ,k,β,h1,⟨rfl,rfl⟩,?_,hS.grow hg,Ghost.refl _ _ _ _,hg.frm _ _⟩
 by_cases h0:e=a
 · simp only[h0,if_true];exact tup _ _
 · by_cases h1:e=b
   · simp only[h0,h1,if_false,if_true];split <;> exact tup _ _
   · simp only[h0,h1,if_false];exact tup _ _
theorem a_ck (k i o:Int) :Pure prog o_j [iA k,iA i,iA o] σ (opt1 (h_n (f_c k) i o)):=by
 refine a_rb k i o σ _ ((y_s k).mono ?_)
 rintro r σ' ⟨rfl,d,rfl,hd⟩
 refine ⟨d,rfl,(hd σ').lenK ⟨fun m s=>s=σ'∧Rng (f_c k) (fun r=>h_n r i o=h_n (f_c k) i o) m,fun m _=>(f_c k).length - m.toNat,⟨rfl, .start rfl⟩,?_⟩⟩
 rintro m _ ⟨rfl,hr⟩
 refine bcd (fun hlt=>?_) (fun hge=>?_)
 · obtain ⟨j,x,rfl,hx,hj,hF,nx⟩:=hr.step (by simp) (z_n k) hlt
   refine (hd _).load (a_c hx) l_a rfl ⟨x.1,x.2.1,x.2.2,rfl,(a_l2 _ _ _ _).use ?_⟩
   have hne:x.1≠x.2.1:=by
     have hm:=List.mem_of_getElem? hx
     unfold f_c at hm
     split at hm
     · simp at hm;subst hm;decide
     · split at hm
       · simp at hm;rcases hm with rfl | rfl <;> decide
       · split at hm
         · simp at hm;rcases hm with rfl | rfl <;> decide
         · cases hm
   rw[h_n] at hF
   by_cases h0:i=x.1
   · subst h0
     refine ⟨x.2.1,true,by simp[opt1],?_⟩
     refine bce (fun h1=>?_) (fun h1=>?_)
     · exact ⟨by rw[←hF];simp[*,opt1],rfl⟩
     · exact c_6 rfl (nx (fun r=>h_n r x.1 o=h_n (f_c k) x.1 o) (by rw[if_neg (by rintro (⟨_,h⟩ | ⟨h,_⟩);exact h1 h;exact hne h.symm)] at hF;exact hF))
   · by_cases h1:i=x.2.1
     · subst h1
       refine ⟨x.1,true,by simp[opt1,h0],?_⟩
       refine bce (fun h1=>?_) (fun h1=>?_)
       · exact ⟨by rw[←hF];simp[*,opt1],rfl⟩
       · exact c_6 rfl (nx (fun r=>h_n r x.2.1 o=h_n (f_c k) x.2.1 o) (by rw[if_neg (by rintro (⟨h,_⟩ | ⟨_,h⟩);exact hne h;exact h1 h)] at hF;exact hF))
     · refine ⟨0,false,by simp[opt1,h0,h1],?_⟩
       exact c_6 rfl (nx (fun r=>h_n r i o=h_n (f_c k) i o) (by rw[if_neg (by rintro (⟨h,_⟩ | ⟨h,_⟩);exact h0 h.symm;exact h1 h.symm)] at hF;exact hF))
 · have:=hr.done (by simp) hge
   exact ⟨by rw[←this];rfl,rfl⟩
theorem g_s {d:D}{js:List Jt}(s e:Int)(h:At prog σ j_7 d (js.map Jt.enc)) :Pure prog e_2 [.one d,iA s,iA e] σ (opt2 (nxt js s e)):=by
 have hl:=h.size
 rw[List.length_map] at hl
 refine a_k9 d s e σ _ (h.lenK ⟨fun n σ'=>σ'=σ∧Rng js (fun r=>nxt r s e=nxt js s e) n,fun n _=>js.length - n.toNat,⟨rfl, .start rfl⟩,?_⟩)
 rintro n σ' ⟨rfl,hr⟩
 refine bcd (fun hlt=>?_) (fun hge=>?_)
 · obtain ⟨j,x,rfl,hx,hj,hF,nx⟩:=hr.step (by simp) hl hlt
   refine h.load (a_c hx) s_6 rfl ⟨x.A,x.AEnd,x.B,x.BEnd,rfl,?_⟩
   rw[nxt] at hF
   repeat' (first | refine bce (fun _=>?_) (fun _=>?_))
   all_goals first
     | exact ⟨by rw[←hF];simp[*,opt2],rfl⟩
     | exact c_6 rfl (nx (fun r=>nxt r s e=nxt js s e) (by simpa[*] using hF))
 · exact ⟨by rw[←hr.done (by simp) hge];rfl,rfl⟩
theorem l_h {d:D}{js:List Jt}(s e:Int)(h:At prog σ j_7 d (js.map Jt.enc)) :Pure prog g_q [.one d,iA s,iA e] σ (.a (iA (cnt js s e))):=by
 have hl:=h.size
 rw[List.length_map] at hl
 have hb:∀l:List Jt,0≤cnt l s e∧cnt l s e≤2 * l.length:=by
   intro l
   induction l with
   | nil=>simp[cnt]
   | cons j r ih=>simp only[cnt,List.length_cons];split <;> split <;> omega
 refine a_iy d s e σ _ (h.lenK ⟨fun c n σ'=>σ'=σ∧Rng js (fun r=>c+cnt r s e=cnt js s e∧0≤c) n,fun c n _=>js.length - n.toNat,⟨rfl, .start ⟨by omega,by omega⟩⟩,?_⟩)
 rintro c n σ' ⟨rfl,hr⟩
 refine bcd (fun hlt=>?_) (fun hge=>?_)
 · obtain ⟨j,x,rfl,hx,hj,hF,nx⟩:=hr.step (by simp) hl hlt
   refine h.load (a_c hx) s_6 rfl ⟨x.A,x.AEnd,x.B,x.BEnd,rfl,?_⟩
   rw[cnt] at hF
   have h1:=hb js
   have h2:=hb (js.drop (j+1))
   have hw:c < 2 ^ 62:=by split at hF <;> split at hF <;> omega
   intro R hR
   have key:∀c':Int,0≤c'→c'≤2 ^ 62→c'+ (if x.B=s∧x.BEnd=e then 1 else 0) +cnt (js.drop (j+1)) s e=cnt js s e→R c' σ':=by
     intro c' h0 h3 h4
     refine hR c' σ' ?_
     repeat' (first | refine bce (fun _=>?_) (fun _=>?_))
     · rw[a_w (n:=c'+1) (by omega) (by omega)]
       exact c_6 rfl (nx (fun r=>c'+1+cnt r s e=cnt js s e∧0≤c'+1) ⟨by simp[*] at h4;omega,by omega⟩)
     · exact c_6 rfl (nx (fun r=>c'+cnt r s e=cnt js s e∧0≤c') ⟨by simp[*] at h4;omega,by omega⟩)
     · exact c_6 rfl (nx (fun r=>c'+cnt r s e=cnt js s e∧0≤c') ⟨by simp[*] at h4;omega,by omega⟩)
   repeat' (first | refine bce (fun _=>?_) (fun _=>?_))
   · refine ⟨rfl,?_⟩
     rw[a_w (n:=c+1) (by omega) (by omega)]
     exact key _ (by omega) (by omega) (by simp[*] at hF;omega)
   · exact ⟨rfl,key _ (by omega) (by omega) (by simp[*] at hF;omega)⟩
   · exact ⟨rfl,key _ (by omega) (by omega) (by simp[*] at hF;omega)⟩
 · have:=hr.done (by simp) hge
   simp[cnt] at this
   exact ⟨by rw[←this.1],rfl⟩
end Go.Proofs.YtdmfnhbmhkgemaaGreat
end
namespace Go.Fw
section
def c_k (js:List Jt) :List (Int × Int):=js.flatMap Jt.spots
theorem a_gl (secs:List Sec) :∀(l tk tk':List (Int × Int)),v_s secs l tk=some tk'↔(∀p ∈ l,k_5 secs p=true)∧l.Nodup∧(∀p ∈ l,p ∉ tk)∧tk'=l.reverse ++ tk
 | [],tk,tk'=>by simp[v_s];exact eq_comm
 | p::r,tk,tk'=>by
   rw[v_s]
   by_cases h:k_5 secs p=true∧p ∉ tk
   · rw[if_pos h,a_gl secs r (p::tk) tk']
     simp only[List.mem_cons,forall_eq_or_imp,List.nodup_cons,List.reverse_cons,List.append_assoc,List.singleton_append]
     constructor
     · rintro ⟨h1,h2,h3,h4⟩
       exact ⟨⟨h.1,h1⟩,⟨fun hp=>(h3 p hp) (.inl rfl),h2⟩,⟨h.2,fun q hq hqt=>h3 q hq (.inr hqt)⟩,h4⟩
     · rintro ⟨⟨_,h1⟩,⟨h2,h3⟩,⟨_,h4⟩,h5⟩
       exact ⟨h1,h3,fun q hq hqt=>hqt.elim (fun e=>h2 (e ▸ hq)) (h4 q hq),h5⟩
   · rw[if_neg h]
     simp only[List.mem_cons,forall_eq_or_imp]
     constructor
     · intro h';cases h'
     · rintro ⟨⟨h1,_⟩,_,⟨h2,_⟩,_⟩;exact absurd ⟨h1,h2⟩ h
theorem a_fv (secs:List Sec) :∀(js:List Jt) (tk tk':List (Int × Int)),w_d secs js tk=some tk'↔
   (∀p ∈ c_k js,k_5 secs p=true)∧(c_k js).Nodup∧(∀p ∈ c_k js,p ∉ tk)∧(∀j ∈ js,j.A≠j.B)∧tk'=(c_k js).reverse ++ tk
 | [],tk,tk'=>by simp[w_d,c_k];exact eq_comm
 | j::r,tk,tk'=>by
   rw[w_d]
   have hall:c_k (j::r) =j.spots ++ c_k r:=by simp[c_k]
   rw[hall]
   cases hp:v_s secs j.spots tk with
   | none=>
     have hno:¬∃t,v_s secs j.spots tk=some t:=by rw[hp];rintro ⟨t,h⟩;cases h
     constructor
     · intro h;cases h
     · rintro ⟨h1,h2,h3,_,_⟩
       exact absurd ⟨_,(a_gl secs j.spots tk _).2 ⟨fun p hp=>h1 p (List.mem_append_left _ hp),(List.nodup_append.1 h2).1,fun p hp=>h3 p (List.mem_append_left _ hp),rfl⟩⟩ hno
   | some t=>
     obtain ⟨a1,a2,a3,a4⟩:=(a_gl secs j.spots tk t).1 hp
     by_cases hAB:j.A=j.B
     · simp only[hAB,if_true]
       constructor
       · intro h;cases h
       · rintro ⟨_,_,_,h4,_⟩;exact absurd hAB (h4 j (by simp))
     · simp only[hAB,if_false]
       rw[a_fv secs r t tk',a4]
       constructor
       · rintro ⟨h1,h2,h3,h4,h5⟩
         refine ⟨fun p hp=>(List.mem_append.1 hp).elim (a1 p) (h1 p),List.nodup_append.2 ⟨a2,h2,fun a ha b hb e=>?_⟩,fun p hp=>(List.mem_append.1 hp).elim (a3 p) (fun hp ht=>h3 p hp (by simp[ht])),fun x hx=>?_,by rw[h5];simp⟩
         · subst e;exact h3 a hb (by simp[ha])
         · rcases List.mem_cons.1 hx with rfl | hx
           · exact hAB
           · exact h4 x hx
       · rintro ⟨h1,h2,h3,h4,h5⟩
         obtain ⟨b1,b2,b3⟩:=List.nodup_append.1 h2
         refine ⟨fun p hp=>h1 p (List.mem_append_right _ hp),b2,fun p hp ht=>?_,fun x hx=>h4 x (List.mem_cons_of_mem _ hx),by rw[h5];simp⟩
         rcases List.mem_append.1 ht with ht | ht
         · exact b3 p (by simpa using ht) p hp rfl
         · exact h3 p (List.mem_append_right _ hp) ht
theorem k_c (s e:Int) :∀js:List Jt,cnt js s e=((c_k js).count (s,e) :Int)
 | []=>by simp[cnt,c_k]
 | j::r=>by
   have hall:c_k (j::r) =(j.A,j.AEnd) :: (j.B,j.BEnd) ::c_k r:=by simp[c_k,Jt.spots]
   rw[hall,cnt,k_c s e r,List.count_cons,List.count_cons]
   simp only[beq_iff_eq,Prod.mk.injEq]
   split <;> split <;> omega
theorem s_r (tk:List (Int × Int)) :∀(secs:List Sec) (i:Int) (ls:List Int),v_7 tk secs i ls=true↔
   ∀(k:Nat) s,secs[k]? =some s→b_l s.Kind≠0∧(0≤s.OC∧s.OC≤3)∧(0≤s.Line∧s.Line≤3)∧(s.Line≠0→s.Kind=0∧(i+k,1) ∉ tk∧s.Line ∉ ls∧∀k' s',k' < k→secs[k']? =some s'→s'.Line≠s.Line)
 | [],i,ls=>by simp[v_7]
 | x::r,i,ls=>by
   rw[v_7]
   by_cases hc:b_l x.Kind=0∨¬(0≤x.OC∧x.OC≤3)∨¬(0≤x.Line∧x.Line≤3)∨x.Line≠0∧(x.Kind≠0∨(i,1) ∈ tk∨x.Line ∈ ls)
   · rw[if_pos hc]
     constructor
     · intro h;cases h
     · intro h
       obtain ⟨h1,h2,h3,h4⟩:=h 0 x rfl
       rcases hc with hc | hc | hc | ⟨hc,hd⟩
       · exact absurd hc h1
       · exact absurd h2 hc
       · exact absurd h3 hc
       · obtain ⟨g1,g2,g3,_⟩:=h4 hc
         rcases hd with hd | hd | hd
         · exact absurd g1 hd
         · exact absurd hd (by simpa using g2)
         · exact absurd hd g3
   · rw[if_neg hc,s_r tk r (i+1) (x.Line::ls)]
     have hx:b_l x.Kind≠0∧(0≤x.OC∧x.OC≤3)∧(0≤x.Line∧x.Line≤3)∧(x.Line≠0→x.Kind=0∧(i,1) ∉ tk∧x.Line ∉ ls):=by
       refine ⟨fun h=>hc (.inl h),Classical.not_not.1 fun h=>hc (.inr (.inl h)),Classical.not_not.1 fun h=>hc (.inr (.inr (.inl h))),fun hl=>⟨Classical.not_not.1 fun h=>hc (.inr (.inr (.inr ⟨hl, .inl h⟩))),fun h=>hc (.inr (.inr (.inr ⟨hl, .inr (.inl h)⟩))),fun h=>hc (.inr (.inr (.inr ⟨hl, .inr (.inr h)⟩)))⟩⟩
     constructor
     · intro h k s hk
       cases k with
       | zero=>
         simp at hk;subst hk
         exact ⟨hx.1,hx.2.1,hx.2.2.1,fun hl=>by
           obtain ⟨a,b,c⟩:=hx.2.2.2 hl
           exact ⟨a,by simpa using b,c,fun k' s' hk'=>by omega⟩⟩
       | succ k=>
         obtain ⟨h1,h2,h3,h4⟩:=h k s (by simpa using hk)
         refine ⟨h1,h2,h3,fun hl=>?_⟩
         obtain ⟨a,b,c,d⟩:=h4 hl
         refine ⟨a,by rw[show i+ ((k+1:Nat) :Int) =i+1+k by omega];exact b,fun hm=>c (by simp[hm]),fun k' s' hk' hs'=>?_⟩
         cases k' with
         | zero=>simp at hs';subst hs';exact fun e=>c (by simp[e])
         | succ k'=>exact d k' s' (by omega) (by simpa using hs')
     · intro h k s hk
       obtain ⟨h1,h2,h3,h4⟩:=h (k+1) s (by simpa using hk)
       refine ⟨h1,h2,h3,fun hl=>?_⟩
       obtain ⟨a,b,c,d⟩:=h4 hl
       refine ⟨a,by rw[show i+1+ (k:Int) =i+ ((k+1:Nat) :Int) by omega];exact b,fun hm=>?_,fun k' s' hk' hs'=>d (k'+1) s' (by omega) (by simpa using hs')⟩
       rcases List.mem_cons.1 hm with hm | hm
       · exact d 0 x (by omega) rfl hm.symm
       · exact c hm
def a_f0 (secs:List Sec)(js:List Jt)(k:Nat)(s:Sec) :Prop:=
 b_l s.Kind≠0∧(0≤s.OC∧s.OC≤3)∧(0≤s.Line∧s.Line≤3)∧(s.Line≠0→s.Kind=0∧cnt js k 1≤0∧∀k' s',k' < k→secs[k']? =some s'→s'.Line≠s.Line)
def jtOk (secs:List Sec)(js:List Jt)(j:Jt) :Prop:=
 (0≤j.A∧j.A < secs.length)∧(0≤j.B∧j.B < secs.length)∧j.A≠j.B∧(0≤j.AEnd∧j.AEnd < b_l (j_j secs j.A))∧(0≤j.BEnd∧j.BEnd < b_l (j_j secs j.B))∧cnt js j.A j.AEnd≤1∧cnt js j.B j.BEnd≤1
theorem o_h (secs:List Sec)(p:Int × Int) :k_5 secs p=true↔(0≤p.1∧p.1 < secs.length)∧(0≤p.2∧p.2 < b_l (j_j secs p.1)):=by
 simp only[k_5,Bool.and_eq_true,decide_eq_true_eq];omega
theorem mem_spots {js:List Jt}{p:Int × Int} :p ∈ c_k js↔∃j ∈ js,p=(j.A,j.AEnd)∨p=(j.B,j.BEnd):=by
 simp[c_k,Jt.spots]
theorem o_3 (secs:List Sec)(js:List Jt) :b_q secs js=true↔
   (1≤secs.length∧secs.length≤16∧js.length≤24)∧(∀(k:Nat) s,secs[k]? =some s→a_f0 secs js k s)∧∀j ∈ js,jtOk secs js j:=by
 simp only[b_q,Bool.and_eq_true,decide_eq_true_eq]
 refine and_congr_right fun _=>?_
 have hnd:(c_k js).Nodup↔∀j ∈ js,cnt js j.A j.AEnd≤1∧cnt js j.B j.BEnd≤1:=by
   rw[List.nodup_iff_count]
   constructor
   · intro h j _
     rw[k_c,k_c]
     have h1:=h (j.A,j.AEnd)
     have h2:=h (j.B,j.BEnd)
     omega
   · intro h p
     by_cases hp:p ∈ c_k js
     · obtain ⟨j,hj,rfl | rfl⟩:=mem_spots.1 hp
       · have:=(h j hj).1;rw[k_c] at this;omega
       · have:=(h j hj).2;rw[k_c] at this;omega
     · rw[List.count_eq_zero_of_not_mem hp];omega
 have hsp:(∀p ∈ c_k js,k_5 secs p=true)↔∀j ∈ js,((0≤j.A∧j.A < secs.length)∧(0≤j.AEnd∧j.AEnd < b_l (j_j secs j.A)))∧((0≤j.B∧j.B < secs.length)∧(0≤j.BEnd∧j.BEnd < b_l (j_j secs j.B))):=by
   constructor
   · intro h j hj
     exact ⟨(o_h _ _).1 (h (j.A,j.AEnd) (mem_spots.2 ⟨j,hj, .inl rfl⟩)),(o_h _ _).1 (h (j.B,j.BEnd) (mem_spots.2 ⟨j,hj, .inr rfl⟩))⟩
   · intro h p hp
     obtain ⟨j,hj,rfl | rfl⟩:=mem_spots.1 hp
     · exact (o_h _ _).2 (h j hj).1
     · exact (o_h _ _).2 (h j hj).2
 have hcz:∀k:Nat,cnt js k 1≤0↔((k:Int),(1:Int)) ∉ (c_k js).reverse ++ []:=fun k=>by
   rw[k_c,List.append_nil,List.mem_reverse,←List.count_eq_zero];omega
 constructor
 · intro h
   cases hj:w_d secs js [] with
   | none=>rw[hj] at h;cases h
   | some tk=>
     rw[hj] at h
     obtain ⟨h1,h2,_,h4,rfl⟩:=(a_fv secs js [] tk).1 hj
     have h5:=(s_r _ secs 0 []).1 h
     refine ⟨fun k s hk=>?_,fun j hj=>?_⟩
     · obtain ⟨a,b,c,d⟩:=h5 k s hk
       refine ⟨a,b,c,fun hl=>?_⟩
       obtain ⟨d1,d2,_,d4⟩:=d hl
       exact ⟨d1,(hcz k).2 (by simpa using d2),d4⟩
     · obtain ⟨⟨a1,a2⟩,b1,b2⟩:=hsp.1 h1 j hj
       exact ⟨a1,b1,h4 j hj,a2,b2,hnd.1 h2 j hj⟩
 · rintro ⟨h1,h2⟩
   have hj:w_d secs js []=some ((c_k js).reverse ++ []):=(a_fv secs js [] _).2 ⟨hsp.2 fun j hj=>by obtain ⟨a,b,c,d,e,f⟩:=h2 j hj;exact ⟨⟨a,d⟩,b,e⟩,hnd.2 fun j hj=>(h2 j hj).2.2.2.2.2,by simp,fun j hj=>(h2 j hj).2.2.1,rfl⟩
   rw[hj]
   refine (s_r _ secs 0 []).2 fun k s hk=>?_
   obtain ⟨a,b,c,d⟩:=h1 k s hk
   refine ⟨a,b,c,fun hl=>?_⟩
   obtain ⟨d1,d2,d3⟩:=d hl
   exact ⟨d1,by simpa using (hcz k).1 d2,by simp,d3⟩
end
end Go.Fw
namespace Go.Proofs.YtdmfnhbmhkgemaaGreat
open Go.Fw Go.Proofs Go.RowKit
open Go.Proofs.Tryz (prog)
section
variable {σ:Store}
abbrev encP (p:Int × Int) :A:= .agg [iD p.1,iD p.2]
theorem k_l:Keys prog b_9 encP:=a_tu fun a b=>by kernel_rfl
theorem p_y:Keys prog a_i iA:=⟨fun x=>by kernel_rfl,fun x y=>by simp[eqA,b_7,b_s,e_0]⟩
theorem a_i5 {d1 d2:D}{secs:List Sec}{js:List Jt}(hs:∀s,At prog s i_i d1 (secs.map Sec.enc))(hj:∀s,At prog s j_7 d2 (js.map Jt.enc)) :
   Pure prog o_6 [.one d1, .one d2] σ (.a (iA (if b_q secs js=true then 0 else 6))):=by
 have hls:=(hs σ).size
 have hlj:=(hj σ).size
 rw[List.length_map] at hls hlj
 refine .of (a_no d1 d2 σ _ ?_) (a_wo _)
 intro R hR
 refine (hs σ).lenK ((e_9 _ _ _).use ⟨_,rfl,a_p (fun h=>?_) (fun h=>(hj σ).lenK (bcd (fun h2=>?_) (fun h2=>hR σ ?_)))⟩)
 · simp at h
   exact ⟨by rw[if_neg];simp[b_q];omega, .refl _⟩
 · simp at h2
   exact ⟨by rw[if_neg];simp[b_q];omega, .refl _⟩
 simp at h h2
 have hsize:decide (1≤secs.length∧secs.length≤16∧js.length≤24) =true:=by simp;omega
 refine a_d fun id σ1 hid _ he hs1=>(hj σ1).lenK ⟨fun n s=>∃tk f,MapAt prog b_9 encP s id f∧(∀z,f z=if z ∈ tk then some (iA 1) else none)∧Ext σ s∧Rng js (fun r=>w_d secs r tk=w_d secs js []) n,
   fun n _=>js.length - n.toNat,⟨[],_, .new hs1,fun z=>by simp,he, .start rfl⟩,?_⟩
 rintro n s ⟨tk,f,hm,hf,hes,hr⟩
 refine bcd (fun hlt=>?_) (fun hge=>?_)
 · obtain ⟨j,x,rfl,hx,hjl,hF,nx⟩:=hr.step (by simp) hlj hlt
   refine (hj s).load (a_c hx) s_6 rfl ⟨x.A,x.AEnd,x.B,x.BEnd,rfl,?_⟩
   refine a_d fun id1 s1 hid1 _ he1 hs2=>?_
   have hne:id≠id1:=fun e=>by
     obtain ⟨c,es,h1,_⟩:=hm
     rw[e,hid1] at h1;cases h1
   have hbad:v_s secs x.spots tk=none∨x.A=x.B→(if b_q secs js=true then (0:Int) else 6) =6:=by
     intro hb
     have:w_d secs js []=none:=by
       rw[←hF,w_d]
       rcases hb with hb | hb
       · rw[hb]
       · cases v_s secs x.spots tk with
         | none=>rfl
         | some tk'=>simp[hb]
     rw[if_neg];simp[b_q,this]
   have hloc:∀s',s' id1= .live b_9 [[iD x.A,iD x.AEnd],[iD x.B,iD x.BEnd]]→At prog s' b_9 (.osl id1 0 2) (x.spots.map fun p=> [iD p.1,iD p.2]):=fun s' h=>At.fresh h (by simp) rfl
   refine (hloc s1 hs2).lenK ⟨fun m s'=>∃tk' f',MapAt prog b_9 encP s' id f'∧(∀z,f' z=if z ∈ tk' then some (iA 1) else none)∧Ext σ s'∧s' id1= .live b_9 [[iD x.A,iD x.AEnd],[iD x.B,iD x.BEnd]]∧
     Rng x.spots (fun q=>v_s secs q tk'=v_s secs x.spots tk) m,fun m _=>x.spots.length - m.toNat,⟨tk,f,hm.same (he1 id (fun e=>hne (by
       obtain ⟨c,es,h1,_⟩:=hm
       rw[e] at h1;cases h1))),hf,hes.trans he1,hs2, .start rfl⟩,?_⟩
   rintro m s' ⟨tk',f',hm',hf',hes',hs2',hr'⟩
   refine bcd (fun hlt'=>?_) (fun hge'=>?_)
   · obtain ⟨i,p,rfl,hp,hil,hG,nx'⟩:=hr'.step (by simp) (by simp[Jt.spots]) hlt'
     refine (hloc s' hs2').load (a_c hp) a_n4 rfl ⟨p.1,p.2,rfl,(hs s').lenK ?_⟩
     rw[v_s] at hG
     have hw1:w64 (((secs.map Sec.enc).length:Int) - 1) =(secs.length:Int) - 1:=by rw[List.length_map,a_w (by omega) (by omega)]
     refine (e_9 _ _ _).use ⟨_,rfl,?_⟩
     rw[hw1]
     refine a_p (fun h3=>?_) (fun h3=>?_)
     · exact ⟨by rw[hbad (.inl ?_)];rw[←hG,if_neg];simp only[k_5,h3];simp,hes'⟩
     · have h3':=of_decide_eq_true h3
       obtain ⟨y,hy⟩:=a_g (l:=secs) (j:=p.1.toNat) (by omega)
       refine (hs s').load (a_c hy) b_n (by omega) ⟨y.Kind,rfl,(o_7 _).use ⟨_,rfl,(e_9 _ _ _).use ⟨_,rfl,?_⟩⟩⟩
       have hk:j_j secs p.1=y.Kind:=by simp[j_j,hy]
       have hn:=y_i y.Kind
       rw[a_w (n:=b_l y.Kind - 1) (by omega) (by omega)]
       refine a_p (fun h4=>?_) (fun h4=>?_)
       · exact ⟨by rw[hbad (.inl ?_)];rw[←hG,if_neg];simp only[k_5,hk,h4];simp,hes'⟩
       · have hok:k_5 secs p=true:=by simp only[k_5,hk,h3,h4];rfl
         by_cases hin:p ∈ tk'
         · refine hm'.lookI k_l p (n:=1) (by rw[hf',if_pos hin];rfl) (bcd (fun _=>?_) (fun h=>absurd (by decide) h))
           exact ⟨by rw[hbad (.inl ?_)];rw[←hG,if_neg];simp[hin],hes'⟩
         · refine hm'.lookI k_l p (n:=0) (by rw[hf',if_neg hin];rfl) (bcd (fun h=>absurd h (by decide)) (fun _=>?_))
           refine hm'.lookI k_l p (n:=0) (by rw[hf',if_neg hin];rfl) ?_
           rw[if_pos ⟨hok,hin⟩] at hG
           refine hm'.bump k_l p fun s3 f3 hm3 hf3 hf3' hs3 hs3'=>⟨rfl,?_⟩
           have hn2:=nx' (fun q=>v_s secs q (p::tk') =v_s secs x.spots tk) hG
           refine ⟨⟨p::tk',f3,hm3,fun z=>?_,fun i hi=>?_,?_,hn2.1⟩,hn2.2⟩
           · by_cases hz:z=p
             · subst hz;rw[hf3'];simp;rfl
             · rw[hf3 z hz,hf'];simp[hz]
           · rw[hs3 i (fun e=>?_)]
             · exact hes' i hi
             · subst e;rw[hid] at hi;exact hi rfl
           · rw[hs3 _ (Ne.symm hne)];exact hs2'
   · have hG:=hr'.done (by simp) hge'
     rw[v_s] at hG
     refine bce (fun h5=>⟨by rw[hbad (.inr h5)],hes'⟩) (fun h5=>?_)
     rw[w_d,←hG] at hF
     simp only[if_neg h5] at hF
     have hn2:=nx (fun r=>w_d secs r tk'=w_d secs js []) hF
     exact ⟨⟨tk',f',hm',hf',hes',hn2.1⟩,hn2.2⟩
 · have hF:=hr.done (by simp) hge
   rw[w_d] at hF
   have htop:b_q secs js=v_7 tk secs 0 []:=by simp only[b_q,hsize,←hF,Bool.true_and]
   rw[htop]
   clear htop hr hF hR
   refine a_d fun id1 s1 hid1 _ he1 hs2=>?_
   have hne:id≠id1:=fun e=>by
     obtain ⟨c,es,h1,_⟩:=hm
     rw[e,hid1] at h1;cases h1
   refine (hs s1).lenK ⟨fun n s'=>∃ls f2,MapAt prog a_i iA s' id1 f2∧(∀z,z ∉ ls→f2 z=none)∧(∀z,z ∈ ls→∃c:Int,1≤c∧c≤n∧f2 z=some (iA c))∧MapAt prog b_9 encP s' id f∧Ext σ s'∧
     Rng secs (fun r=>v_7 tk r n ls=v_7 tk secs 0 []) n,fun n _=>secs.length - n.toNat,⟨[],_, .new hs2,fun z _=>rfl,fun z hz=>(by cases hz),hm.same (he1 id (fun e=>by
       obtain ⟨c,es,h1,_⟩:=hm
       rw[e] at h1;cases h1)),hes.trans he1, .start rfl⟩,?_⟩
   rintro n s' ⟨ls,f2,hm2,hf2,hf2',hm',hes',hr⟩
   refine bcd (fun hlt=>?_) (fun hge=>?_)
   · obtain ⟨j,x,rfl,hx,hjl,hF,nx⟩:=hr.step (by simp) hls hlt
     refine (hs s').load (a_c hx) b_n rfl ⟨x.Kind,x.OC,x.Line,rfl,?_⟩
     intro R1 hR1
     rw[v_7] at hF
     have hbad:∀hc:(b_l x.Kind=0∨¬(0≤x.OC∧x.OC≤3)∨¬(0≤x.Line∧x.Line≤3)∨x.Line≠0∧(x.Kind≠0∨((j:Int),1) ∈ tk∨x.Line ∈ ls)),(if v_7 tk secs 0 []=true then (0:Int) else 6) =6:=by
       intro hc
       rw[if_pos hc] at hF
       rw[←hF];rfl
     refine (o_7 _).use ⟨_,rfl,bce (fun h1=>⟨by rw[hbad (.inl h1)],hes'⟩) (fun h1=>(e_9 _ _ _).use ⟨_,rfl,a_p (fun h2=>⟨by rw[hbad (.inr (.inl (of_decide_eq_false h2)))],hes'⟩) (fun h2=>(e_9 _ _ _).use ⟨_,rfl,a_p (fun h3=>⟨by rw[hbad (.inr (.inr (.inl (of_decide_eq_false h3))))],hes'⟩) (fun h3=>⟨rfl,hR1 s' ?_⟩)⟩)⟩)⟩
     have put : ∀ hc : ¬ (x.Line ≠ 0 ∧ (x.Kind ≠ 0 ∨ ((j : Int), 1) ∈ tk ∨ x.Line ∈ ls)), ∃ c : Int, (f2 x.Line).getD (iA 0) = iA c ∧ 0 ≤ c ∧ c ≤ j ∧ (x.Line ∉ ls → c = 0) ∧ ∀ (c' : Int), c' = c → MPut prog a_i s' (.omap id1) (iA x.Line) (iA (w64 (c' + 1))) fun s6 =>
         (∃ls f2,MapAt prog a_i iA s6 id1 f2∧(∀z,z ∉ ls→f2 z=none)∧(∀z,z ∈ ls→∃c:Int,1≤c∧c≤w64 ((j:Int) +1)∧f2 z=some (iA c))∧MapAt prog b_9 encP s6 id f∧Ext σ s6∧
           Rng secs (fun r=>v_7 tk r (w64 ((j:Int) +1)) ls=v_7 tk secs 0 []) (w64 ((j:Int) +1)))∧secs.length - (w64 ((j:Int) +1)).toNat < secs.length - (j:Int).toNat:=by
       intro hc
       have hgo:¬(b_l x.Kind=0∨¬(0≤x.OC∧x.OC≤3)∨¬(0≤x.Line∧x.Line≤3)∨x.Line≠0∧(x.Kind≠0∨((j:Int),1) ∈ tk∨x.Line ∈ ls)):=by
         rintro (h | h | h | h)
         · exact h1 h
         · exact h (of_decide_eq_true h2)
         · exact h (of_decide_eq_true h3)
         · exact hc h
       rw[if_neg hgo] at hF
       have hcount:∃c:Int,(f2 x.Line).getD (iA 0) =iA c∧0≤c∧c≤j∧(x.Line ∉ ls→c=0):=by
         by_cases hin:x.Line ∈ ls
         · obtain ⟨c,c1,c2,c3⟩:=hf2' _ hin
           exact ⟨c,by rw[c3];rfl,by omega,c2,fun h=>absurd hin h⟩
         · exact ⟨0,by rw[hf2 _ hin];rfl,by omega,by omega,fun _=>rfl⟩
       obtain ⟨c,k1,k2,k3,k4⟩:=hcount
       refine ⟨c,k1,k2,k3,k4,fun c' hc'=>?_⟩
       subst hc'
       refine hm2.put p_y x.Line fun s6 f6 g1 g2 g3 g4 g5=>?_
       have hn2:=nx (fun r=>v_7 tk r (w64 ((j:Int) +1)) (x.Line::ls) =v_7 tk secs 0 []) (by rw[a_m (by omega)];simpa using hF)
       have hw:w64 ((j:Int) +1) =(j:Int) +1:=a_w (by omega) (by omega)
       refine ⟨⟨x.Line::ls,f6,g1,fun z hz=>?_,fun z hz=>?_,hm'.same (g4 _ hne),fun i hi=>?_,hn2.1⟩,hn2.2⟩
       · simp only[List.mem_cons,not_or] at hz
         rw[g2 z hz.1];exact hf2 z hz.2
       · by_cases hzx:z=x.Line
         · subst hzx
           exact ⟨c'+1,by omega,by omega,by rw[g3,a_w (by omega) (by omega)]⟩
         · rw[g2 z hzx]
           obtain ⟨c2,q1,q2,q3⟩:=hf2' z ((List.mem_cons.1 hz).resolve_left hzx)
           exact ⟨c2,q1,by omega,q3⟩
       · rw[g4 i (fun e=>?_)]
         · exact hes' i hi
         · subst e
           have:=hes _ hi
           rw[hid1] at this;exact hi this.symm
     refine bcn (fun h4=>bcn (fun h5=>⟨by rw[hbad (.inr (.inr (.inr ⟨h4, .inl h5⟩)))],hes'⟩) (fun h5=>?_)) (fun h4=>?_)
     · by_cases hin:((j:Int),(1:Int)) ∈ tk
       · refine hm'.lookI k_l ((j:Int),(1:Int)) (n:=1) (by rw[hf,if_pos hin];rfl) (bcd (fun _=>⟨by rw[hbad (.inr (.inr (.inr ⟨h4, .inr (.inl hin)⟩)))],hes'⟩) (fun h=>absurd (by decide) h))
       · refine hm'.lookI k_l ((j:Int),(1:Int)) (n:=0) (by rw[hf,if_neg hin];rfl) (bcd (fun h=>absurd h (by decide)) (fun _=>?_))
         by_cases hin2:x.Line ∈ ls
         · obtain ⟨c,c1,c2,c3⟩:=hf2' _ hin2
           exact hm2.lookI p_y x.Line (n:=c) (by rw[c3];rfl) (bcd (fun _=>⟨by rw[hbad (.inr (.inr (.inr ⟨h4, .inr (.inr hin2)⟩)))],hes'⟩) (fun h=>absurd (show c > 0 by omega) h))
         · obtain ⟨c,k1,k2,k3,k4,k5⟩:=put (by rintro ⟨_,h | h | h⟩;exact h h5;exact hin h;exact hin2 h)
           have:=k4 hin2
           refine hm2.lookI p_y x.Line k1 (bcd (fun h=>absurd h (by omega)) (fun _=>hm2.lookI p_y x.Line k1 (k5 c rfl)))
     · obtain ⟨c,k1,k2,k3,k4,k5⟩:=put (fun h=>h.1 h4)
       exact hm2.lookI p_y x.Line k1 (k5 c rfl)
   · have hF:=hr.done (by simp) hge
     rw[v_7] at hF
     exact ⟨by rw[←hF];rfl,hes'⟩
theorem a_gn {d1 d2:D}{secs:List Sec}{js:List Jt}(hs:At prog σ i_i d1 (secs.map Sec.enc))(hj:At prog σ j_7 d2 (js.map Jt.enc)) :
   Pure prog m_0 [.one d1, .one d2] σ (.a (iA (if b_q secs js=true then 0 else 6))):=by
 have hls:=hs.size
 have hlj:=hj.size
 rw[List.length_map] at hls hlj
 have bad:¬((1≤secs.length∧secs.length≤16∧js.length≤24)∧(∀(k:Nat) s,secs[k]? =some s→a_f0 secs js k s)∧∀j ∈ js,jtOk secs js j)→(RV.a (iA 6) = .a (iA (if b_q secs js=true then 0 else 6))∧σ=σ):=fun h=>by
   rw[if_neg (fun ht=>h ((o_3 _ _).1 ht))];exact ⟨rfl,rfl⟩
 refine a_i0 d1 d2 σ _ ?_
 intro R hR
 refine hs.lenK (bcd (fun h=>?_) (fun h=>hs.lenK (bcd (fun h2=>?_) (fun h2=>hj.lenK (bcd (fun h3=>?_) (fun h3=>hR σ ?_))))))
 · rw[List.length_map] at h;exact bad fun hb=>by omega
 · rw[List.length_map] at h2;exact bad fun hb=>by omega
 · rw[List.length_map] at h3;exact bad fun hb=>by omega
 rw[List.length_map] at h h2 h3
 refine hs.lenK ⟨fun n s=>s=σ∧Rng secs (fun _=>∀(k:Nat) x,(k:Int) < n→secs[k]? =some x→a_f0 secs js k x) n,fun n _=>secs.length - n.toNat,⟨rfl, .start fun k x hk=>by omega⟩,?_⟩
 rintro n τ ⟨rfl,hr⟩
 refine bcd (fun hlt=>?_) (fun hge=>?_)
 · obtain ⟨i,x,rfl,hx,hil,hF,nx⟩:=hr.step (by simp) hls hlt
   refine hs.load (a_c hx) b_n rfl ⟨x.Kind,x.OC,x.Line,rfl,?_⟩
   intro R1 hR1
   have nbad:¬a_f0 secs js i x→_:=fun hn=>bad fun hb=>hn (hb.2.1 i x hx)
   have hstep:a_f0 secs js i x→_:=fun hok=>nx (fun _=>∀(k:Nat) x,(k:Int) < w64 ((i:Int) +1)→secs[k]? =some x→a_f0 secs js k x) fun k y hk hy=>by
     rw[a_m (by omega)] at hk
     by_cases hki:k=i
     · subst hki;rw[hx] at hy;injection hy with hy;subst hy;exact hok
     · exact hF k y (by omega) hy
   refine (i_z _).use ⟨_,rfl,bce (fun h1=>nbad fun ho=>ho.1 h1) (fun h1=>bcd (fun h4=>nbad fun ho=>by have:=ho.2.1;omega) (fun h4=>bcd (fun h5=>nbad fun ho=>by have:=ho.2.1;omega)
     (fun h5=>bcd (fun h6=>nbad fun ho=>by have:=ho.2.2.1;omega) (fun h6=>bcd (fun h7=>nbad fun ho=>by have:=ho.2.2.1;omega) (fun h7=>⟨rfl,hR1 _ ?_⟩)))))⟩
   refine bce (fun h8=>?_) (fun h8=>bcn (fun h9=>nbad fun ho=>h9 (ho.2.2.2 h8).1) (fun h9=>(l_h _ _ hj).use ⟨_,rfl,bcd (fun h10=>nbad fun ho=>by have:=(ho.2.2.2 h8).2.1;omega) (fun h10=>?_)⟩))
   · exact c_6 rfl (hstep ⟨h1,by omega,by omega,fun hl=>absurd h8 hl⟩)
   · refine ⟨fun m s=>s=τ∧∃k:Nat,m=k∧k≤i∧∀k' y,k' < k→secs[k']? =some y→y.Line≠x.Line,fun m _=>i - m.toNat,⟨rfl,0,rfl,by omega,fun k' y hk=>by omega⟩,?_⟩
     rintro m _ ⟨rfl,k,rfl,hki,hk⟩
     refine bcd (fun hlt2=>?_) (fun hge2=>?_)
     · obtain ⟨y,hy⟩:=a_g (l:=secs) (j:=k) (by omega)
       refine hs.load (a_c hy) b_n rfl ⟨y.Line,rfl,bce (fun h11=>nbad fun ho=>(ho.2.2.2 h8).2.2 k y (by omega) hy h11) (fun h11=>⟨rfl,?_⟩)⟩
       rw[a_m (by omega)]
       exact ⟨⟨rfl,k+1,rfl,by omega,fun k' z hk' hz=>by
         by_cases hkk:k'=k
         · subst hkk;rw[hy] at hz;injection hz with hz;subst hz;exact h11
         · exact hk k' z (by omega) hz⟩,by show i - (((k+1:Nat) :Int)).toNat < i - ((k:Int)).toNat;omega⟩
     · refine c_6 rfl (hstep ⟨h1,by omega,by omega,fun _=>⟨h9,by omega,fun k' y hk' hy=>hk k' y (by omega) hy⟩⟩)
 · have hall : ∀ (k : Nat) x, secs[k]? = some x → a_f0 secs js k x := fun k x hk => by
     obtain ⟨i,hi,hi2,hF⟩:=hr
     rw[List.length_map] at hge
     have:=(List.getElem?_eq_some_iff.1 hk).1
     exact hF k x (by omega) hk
   clear hr
   refine hj.lenK ⟨fun n s=>s=τ∧Rng js (fun r=>(∀j ∈ r,jtOk secs js j)→∀j ∈ js,jtOk secs js j) n,fun n _=>js.length - n.toNat,⟨rfl, .start fun h=>h⟩,?_⟩
   rintro m _ ⟨rfl,hr⟩
   refine bcd (fun hlt=>?_) (fun hge2=>?_)
   · obtain ⟨i,x,rfl,hx,hil,hF,nx⟩:=hr.step (by simp) hlj hlt
     have nbad:¬jtOk secs js x→_:=fun hn=>bad fun hb=>hn (hb.2.2 x (List.mem_of_getElem? hx))
     intro R1 hR1
     refine hj.load (a_c hx) s_6 rfl ⟨x.A,x.AEnd,x.B,x.BEnd,rfl,?_⟩
     intro R2 hR2
     refine bcd (fun g1=>nbad fun ho=>by have:=ho.1;omega) (fun g1=>hs.lenK (bcd (fun g2=>nbad fun ho=>by have:=ho.1;rw[List.length_map] at g2;omega) (fun g2=>bcd (fun g3=>nbad fun ho=>by have:=ho.2.1;omega)
       (fun g3=>hs.lenK (bcd (fun g4=>nbad fun ho=>by have:=ho.2.1;rw[List.length_map] at g4;omega) (fun g4=>bce (fun g5=>nbad fun ho=>ho.2.2.1 g5) (fun g5=>⟨rfl,hR2 _ ?_⟩)))))))
     rw[List.length_map] at g2 g4
     obtain ⟨ya,hya⟩:=a_g (l:=secs) (j:=x.A.toNat) (by omega)
     obtain ⟨yb,hyb⟩:=a_g (l:=secs) (j:=x.B.toNat) (by omega)
     have ka:j_j secs x.A=ya.Kind:=by simp[j_j,hya]
     have kb:j_j secs x.B=yb.Kind:=by simp[j_j,hyb]
     refine bcd (fun g6=>nbad fun ho=>by have:=ho.2.2.2.1;omega) (fun g6=>hs.load (a_c hya) b_n (by omega) ⟨ya.Kind,rfl,(i_z _).use ⟨_,rfl,bcd (fun g7=>nbad fun ho=>by have:=ho.2.2.2.1;rw[ka] at this;omega) (fun g7=>?_)⟩⟩)
     refine bcd (fun g8=>nbad fun ho=>by have:=ho.2.2.2.2.1;omega) (fun g8=>hs.load (a_c hyb) b_n (by omega) ⟨yb.Kind,rfl,(i_z _).use ⟨_,rfl,bcd (fun g9=>nbad fun ho=>by have:=ho.2.2.2.2.1;rw[kb] at this;omega) (fun g9=>?_)⟩⟩)
     refine (l_h _ _ hj).use ⟨_,rfl,bcd (fun g10=>nbad fun ho=>by have:=ho.2.2.2.2.2.1;omega) (fun g10=>(l_h _ _ hj).use ⟨_,rfl,bcd (fun g11=>nbad fun ho=>by have:=ho.2.2.2.2.2.2;omega) (fun g11=>hR1 _ ?_)⟩)⟩
     refine c_6 rfl (nx _ fun h=>hF fun j hj=>?_)
     rcases List.mem_cons.1 hj with rfl | hj
     · exact ⟨by omega,by omega,g5,by rw[ka];omega,by rw[kb];omega,by omega,by omega⟩
     · exact h j hj
   · have hF:=hr.done (by simp) hge2
     refine ⟨?_,rfl⟩
     rw[if_pos ((o_3 _ _).2 ⟨by omega,hall,hF (by simp)⟩)]
end
end Go.Proofs.YtdmfnhbmhkgemaaGreat
namespace Go.Fw
section
structure Rt where
 Entry:Int
 Exit:Int
 Path:List St
 Flank:List Nd
 Overlap:List Int
 Shunt:Bool
structure Cf where
 Secs:List Sec
 Jts:List Jt
 Sigs:List Sg
 Xs:List Int
 Rts:List Rt
 Age:Int
 Brake:Int
 Hold:Int
 Budget:Int
def FnIs {α:Type}(P:Program)(σ:Store)(f:D)(arg:α→A)(l:List α)(p:α→Bool) :Prop:=
 ∃f1 a b as0' bs,f= .fn f1 a b∧f_v a=some as0'∧f_v b=some bs∧∀x ∈ l,DCalls P f1 (as0' ++ [arg x] ++ bs) σ fun r s=>r= .a (bA (p x))∧s=σ
def d_z {α:Type}(p:α→Bool) :List α→Nat→Int
 | [],_=> -1
 | x::r,j=>if p x=true then j else d_z p r (j+1)
theorem a_fh {α:Type}(p:α→Bool)(l:List α) :decide (d_z p l 0≥0) =l.any p:=by
 have key:∀(l:List α) (j:Nat),decide (d_z p l j≥0) =l.any p:=by
   intro l
   induction l with
   | nil=>intro j;simp[d_z]
   | cons x r ih=>
     intro j
     rw[d_z,List.any_cons]
     by_cases hp:p x=true
     · rw[if_pos hp,hp];simp
     · rw[if_neg hp,ih];simp[hp]
 exact key l 0
def a_k {α:Type}(l:List α)(i:Int) :Option α:=if i < 0 then none else l[i.toNat]?
theorem a_l {α:Type}{l:List α}{i:Int}{x:α}(h:a_k l i=some x) :0≤i∧i < l.length∧l[i.toNat]? =some x:=by
 unfold a_k at h
 split at h
 · cases h
 · have:=(List.getElem?_eq_some_iff.1 h).1
   exact ⟨by omega,by omega,h⟩
theorem b_z {α:Type}{l:List α}{i:Int}(h:i < 0) :a_k l i=none:=if_pos h
theorem c_z {α:Type}{l:List α}{i:Int}(h:(l.length:Int)≤i) :a_k l i=none:=by
 unfold a_k;rw[if_neg (by omega),List.getElem?_eq_none_iff];omega
def a_ya:Option Sec→RV
 | none=> .tup [.agg [iD 0,iD 0,iD 0],bA false]
 | some s=> .tup [.agg s.enc,bA true]
def sgRV:Option Sg→RV
 | none=> .tup [.agg [iD 0,iD 0],bA false]
 | some s=> .tup [.agg s.enc,bA true]
def Cf.approach (c:Cf)(r:Rt) :Int:=((a_k c.Sigs r.Entry).map Sg.Sec).getD (-1)
def Cf.Approach (c:Cf)(i:Int) :Int:=((a_k c.Rts i).map c.approach).getD (-1)
def c_e (path:List St)(s:Int) :Bool:=path.any fun x=>x.Sec == s
def RtAt (P:Program)(tS tN tI:TypeId)(σ:Store)(cs:List D)(r:Rt) :Prop:=
 ∃d1 d2 d3,cs=[iD r.Entry,iD r.Exit,d1,d2,d3, .bool r.Shunt]∧At P σ tS d1 (r.Path.map St.enc)∧At P σ tN d2 (r.Flank.map Nd.enc)∧At P σ tI d3 (r.Overlap.map encI)
def a_x6 (P:Program)(tR tS tN tI:TypeId)(σ:Store)(d:D)(l:List Rt) :Prop:=
 ∃rows,At P σ tR d rows∧rows.length=l.length∧∀(i:Nat) row r,rows[i]? =some row→l[i]? =some r→RtAt P tS tN tI σ row r
def b_t (c:Cf)(approach:Int)(path:List St)(s:St)(out:List Nd)(e:Int) :List Nd:=
 if e=s.In∨e=s.Out then out else
 match nxt c.Jts s.Sec e with
 | none=>out
 | some (q,f)=>match a_k c.Secs q with
   | none=>out
   | some y=>if y.Kind=1∧(1≤f∧f≤2)∧q≠approach∧c_e path q=false∧(out.any fun n=>n.Sec == q) =false then out ++ [⟨q,3 - f⟩] else out
def b_p (c:Cf)(approach:Int)(path:List St)(s:St) :Nat→Int→List Nd→List Nd
 | 0,_,out=>out
 | n+1,e,out=>b_p c approach path s n (e+1) (b_t c approach path s out e)
def c_v (c:Cf)(approach:Int)(path:List St) :List St→List Nd→List Nd
 | [],out=>out
 | s::r,out=>c_v c approach path r (match a_k c.Secs s.Sec with
   | none=>out
   | some x=>b_p c approach path s (b_l x.Kind).toNat 0 out)
def Cf.flank (c:Cf)(approach:Int)(path:List St) :List Nd:=c_v c approach path path []
theorem m_y (c:Cf)(a:Int)(p:List St)(s:St)(out:List Nd)(e:Int) :out.length≤(b_t c a p s out e).length∧(b_t c a p s out e).length≤out.length+1:=by
 unfold b_t
 split
 · omega
 · split
   · omega
   · split
     · omega
     · split <;> simp
theorem u_v (c:Cf)(a:Int)(p:List St)(s:St) :∀(n:Nat) (e:Int) (out:List Nd),out.length≤(b_p c a p s n e out).length∧(b_p c a p s n e out).length≤out.length+n
 | 0,e,out=>by simp[b_p]
 | n+1,e,out=>by
   have h1:=m_y c a p s out e
   have h2:=u_v c a p s n (e+1) (b_t c a p s out e)
   rw[b_p];omega
theorem p_c (c:Cf)(a:Int)(p:List St) :∀(l:List St) (out:List Nd),out.length≤(c_v c a p l out).length∧(c_v c a p l out).length≤out.length+4 * l.length
 | [],out=>by simp[c_v]
 | s::r,out=>by
   rw[c_v]
   cases hg:a_k c.Secs s.Sec with
   | none=>have:=p_c c a p r out;simp only[List.length_cons];omega
   | some x=>
     have h1:=u_v c a p s (b_l x.Kind).toNat 0 out
     have h2:=p_c c a p r (b_p c a p s (b_l x.Kind).toNat 0 out)
     have h3:=y_i x.Kind
     simp only[List.length_cons]
     omega
def Cf.overlap (c:Cf)(r:Rt) :List Int:=
 if r.Shunt=true then [] else
 match a_k c.Sigs r.Exit with
 | none=> []
 | some x=>match nxt c.Jts x.Sec x.End_ with
   | none=> []
   | some (q,_)=>match a_k c.Secs q with
     | none=> []
     | some y=>if y.Line=0∧c_e r.Path q=false∧q≠c.approach r then [q] else []
def l_5 (js:List Jt) :List Sg→List Sg→Bool
 | [],_=>true
 | x::r,seen=>if (nxt js x.Sec x.End_).isSome=true∧x ∉ seen then l_5 js r (x::seen) else false
def xrun (secs:List Sec) :List Int→List Int→Bool
 | [],_=>true
 | x::r,seen=>match a_k secs x with
   | none=>false
   | some s=>if s.Line=0∧x ∉ seen then xrun secs r (x::seen) else false
def Cf.sigsOk (c:Cf) :Bool:=l_5 c.Jts c.Sigs [] && decide (c.Sigs.length≤12)
def Cf.xsOk (c:Cf) :Bool:=xrun c.Secs c.Xs [] && decide (c.Xs.length≤4)
end
end Go.Fw
namespace Go.Proofs.YtdmfnhbmhkgemaaGreat
open Go.Fw Go.Proofs Go.RowKit
open Go.Proofs.Tryz (prog)
section
variable {σ:Store}
theorem x_7 {d f:D}{l:List St}{p:St→Bool}(h:At prog σ d_0 d (l.map St.enc))(hf:FnIs prog σ f (fun x:St=> .agg x.enc) l p) :
   Pure prog e_m [.one d, .one f] σ (.a (iA (d_z p l 0))):=by
 have hl:=h.size
 rw[List.length_map] at hl
 obtain ⟨f1,a,b,as0',bs,rfl,ha,hb,hf⟩:=hf
 refine n_h d _ σ _ (h.lenK ⟨fun n s=>s=σ∧Rng l (fun r=>∀j:Nat,n=j→d_z p r j=d_z p l 0) n,fun n _=>l.length - n.toNat,⟨rfl, .start fun j hj=>by cases j with | zero=>rfl | succ j=>omega⟩,?_⟩)
 rintro n τ ⟨rfl,hr⟩
 refine bcd (fun hlt=>?_) (fun hge=>?_)
 · obtain ⟨j,x,rfl,hx,hj,hF,nx⟩:=hr.step (by simp) hl hlt
   refine h.load (a_c hx) g_f rfl ⟨x.Sec,x.In,x.Out,rfl,f1,a,b,as0',bs,rfl,ha,hb,?_⟩
   have hF:=hF j rfl
   rw[d_z] at hF
   refine (hf x (List.mem_of_getElem? hx)).mono ?_
   rintro r s ⟨rfl,rfl⟩
   refine ⟨p x,rfl,bc (fun hp=>?_) (fun hp=>?_)⟩
   · rw[if_pos hp] at hF;exact ⟨by rw[←hF],rfl⟩
   · refine c_6 rfl (nx _ fun j' hj'=>?_)
     rw[a_m (by omega)] at hj'
     have:j'=j+1:=by omega
     subst this
     rw[if_neg (by rw[hp];simp)] at hF
     exact hF
 · refine ⟨?_,rfl⟩
   obtain ⟨j,hj,hj2,hF⟩:=hr
   have hF:=hF j hj
   rw[List.length_map] at hge
   rw[e_7 (by omega)] at hF
   rw[←hF];rfl
theorem i_8 {d f:D}{l:List St}{p:St→Bool}(h:At prog σ d_0 d (l.map St.enc))(hf:FnIs prog σ f (fun x:St=> .agg x.enc) l p) :
   Pure prog c_r [.one d, .one f] σ (.a (bA (l.any p))):=
 k_1 d f σ _ ((x_7 h hf).use ⟨_,rfl,by rw[a_fh];exact ⟨rfl,rfl⟩⟩)
theorem y_w {d f:D}{l:List Nd}{p:Nd→Bool}(h:At prog σ a_4 d (l.map Nd.enc))(hf:FnIs prog σ f (fun x:Nd=> .agg x.enc) l p) :
   Pure prog e_o [.one d, .one f] σ (.a (iA (d_z p l 0))):=by
 have hl:=h.size
 rw[List.length_map] at hl
 obtain ⟨f1,a,b,as0',bs,rfl,ha,hb,hf⟩:=hf
 refine n_p d _ σ _ (h.lenK ⟨fun n s=>s=σ∧Rng l (fun r=>∀j:Nat,n=j→d_z p r j=d_z p l 0) n,fun n _=>l.length - n.toNat,⟨rfl, .start fun j hj=>by cases j with | zero=>rfl | succ j=>omega⟩,?_⟩)
 rintro n τ ⟨rfl,hr⟩
 refine bcd (fun hlt=>?_) (fun hge=>?_)
 · obtain ⟨j,x,rfl,hx,hj,hF,nx⟩:=hr.step (by simp) hl hlt
   refine h.load (a_c hx) m_m rfl ⟨x.Sec,x.Pos,rfl,f1,a,b,as0',bs,rfl,ha,hb,?_⟩
   have hF:=hF j rfl
   rw[d_z] at hF
   refine (hf x (List.mem_of_getElem? hx)).mono ?_
   rintro r s ⟨rfl,rfl⟩
   refine ⟨p x,rfl,bc (fun hp=>?_) (fun hp=>?_)⟩
   · rw[if_pos hp] at hF;exact ⟨by rw[←hF],rfl⟩
   · refine c_6 rfl (nx _ fun j' hj'=>?_)
     rw[a_m (by omega)] at hj'
     have:j'=j+1:=by omega
     subst this
     rw[if_neg (by rw[hp];simp)] at hF
     exact hF
 · refine ⟨?_,rfl⟩
   obtain ⟨j,hj,hj2,hF⟩:=hr
   have hF:=hF j hj
   rw[List.length_map] at hge
   rw[e_7 (by omega)] at hF
   rw[←hF];rfl
theorem r_b {d f:D}{l:List Nd}{p:Nd→Bool}(h:At prog σ a_4 d (l.map Nd.enc))(hf:FnIs prog σ f (fun x:Nd=> .agg x.enc) l p) :
   Pure prog c_o [.one d, .one f] σ (.a (bA (l.any p))):=
 k_o d f σ _ ((y_w h hf).use ⟨_,rfl,by rw[a_fh];exact ⟨rfl,rfl⟩⟩)
theorem i_6 {d f:D}{l:List Sec}{p:Sec→Bool}(h:At prog σ i_i d (l.map Sec.enc))(hf:FnIs prog σ f (fun x:Sec=> .agg x.enc) l p) :
   Pure prog c_m [.one d, .one f] σ (.a (iA (d_z p l 0))):=by
 have hl:=h.size
 rw[List.length_map] at hl
 obtain ⟨f1,a,b,as0',bs,rfl,ha,hb,hf⟩:=hf
 refine l_c d _ σ _ (h.lenK ⟨fun n s=>s=σ∧Rng l (fun r=>∀j:Nat,n=j→d_z p r j=d_z p l 0) n,fun n _=>l.length - n.toNat,⟨rfl, .start fun j hj=>by cases j with | zero=>rfl | succ j=>omega⟩,?_⟩)
 rintro n τ ⟨rfl,hr⟩
 refine bcd (fun hlt=>?_) (fun hge=>?_)
 · obtain ⟨j,x,rfl,hx,hj,hF,nx⟩:=hr.step (by simp) hl hlt
   refine h.load (a_c hx) b_n rfl ⟨x.Kind,x.OC,x.Line,rfl,f1,a,b,as0',bs,rfl,ha,hb,?_⟩
   have hF:=hF j rfl
   rw[d_z] at hF
   refine (hf x (List.mem_of_getElem? hx)).mono ?_
   rintro r s ⟨rfl,rfl⟩
   refine ⟨p x,rfl,bc (fun hp=>?_) (fun hp=>?_)⟩
   · rw[if_pos hp] at hF;exact ⟨by rw[←hF],rfl⟩
   · refine c_6 rfl (nx _ fun j' hj'=>?_)
     rw[a_m (by omega)] at hj'
     have:j'=j+1:=by omega
     subst this
     rw[if_neg (by rw[hp];simp)] at hF
     exact hF
 · refine ⟨?_,rfl⟩
   obtain ⟨j,hj,hj2,hF⟩:=hr
   have hF:=hF j hj
   rw[List.length_map] at hge
   rw[e_7 (by omega)] at hF
   rw[←hF];rfl
theorem a_cp {d:D}{l:List Sg}(v:Sg)(h:At prog σ e_6 d (l.map Sg.enc)) :Pure prog f_i [.one d, .agg v.enc] σ (.a (iA (d_z (fun x=>decide (v=x)) l 0))):=by
 have hl:=h.size
 rw[List.length_map] at hl
 refine p_4 d v.Sec v.End_ σ _ (h.lenK ⟨fun n s=>s=σ∧Rng l (fun r=>∀j:Nat,n=j→d_z (fun x=>decide (v=x)) r j=d_z (fun x=>decide (v=x)) l 0) n,fun n _=>l.length - n.toNat,⟨rfl, .start fun j hj=>by cases j with | zero=>rfl | succ j=>omega⟩,?_⟩)
 rintro n τ ⟨rfl,hr⟩
 refine bcd (fun hlt=>?_) (fun hge=>?_)
 · obtain ⟨j,x,rfl,hx,hj,hF,nx⟩:=hr.step (by simp) hl hlt
   refine h.load (a_c hx) f_l rfl ⟨x.Sec,x.End_,rfl,?_⟩
   have hF:=hF j rfl
   rw[d_z] at hF
   have hd:((v.Sec == x.Sec) && (v.End_ == x.End_)) =decide (v=x):=by
     rw[Bool.eq_iff_iff];cases v;cases x;simp
   rw[hd]
   refine bc (fun hp=>?_) (fun hp=>?_)
   · rw[if_pos hp] at hF;exact ⟨by rw[←hF],rfl⟩
   · refine c_6 rfl (nx _ fun j' hj'=>?_)
     rw[a_m (by omega)] at hj'
     have:j'=j+1:=by omega
     subst this
     rw[if_neg (by rw[hp];simp)] at hF
     exact hF
 · refine ⟨?_,rfl⟩
   obtain ⟨j,hj,hj2,hF⟩:=hr
   have hF:=hF j hj
   rw[List.length_map] at hge
   rw[e_7 (by omega)] at hF
   rw[←hF];rfl
theorem x_e {d:D}{l:List Sg}(v:Sg)(h:At prog σ e_6 d (l.map Sg.enc)) :Pure prog e_f [.one d, .agg v.enc] σ (.a (bA (l.any fun x=>decide (v=x)))):=
 m_8 d v.Sec v.End_ σ _ ((a_cp v h).use ⟨_,rfl,by rw[a_fh];exact ⟨rfl,rfl⟩⟩)
theorem a_iq {d1 d2:D}{l1 l2:List Nd}(h1:At prog σ a_4 d1 (l1.map Nd.enc))(h2:At prog σ a_4 d2 (l2.map Nd.enc)) :Pure prog g_d [.one d1, .one d2] σ (.a (bA (decide (l1=l2)))):=by
 have hl1:=h1.size
 have hl2:=h2.size
 rw[List.length_map] at hl1 hl2
 refine t_v d1 d2 σ _ (h1.lenK (h2.lenK (bcn (fun hne=>?_) (fun heq=>h1.lenK ?_))))
 · rw[List.length_map,List.length_map] at hne
   exact ⟨by rw[decide_eq_false (fun e=>hne (by rw[e]))],rfl⟩
 rw[List.length_map,List.length_map] at heq
 refine ⟨fun n s=>s=σ∧Rng l1 (fun r=>∀j:Nat,n=j→(r=l2.drop j↔l1=l2)) n,fun n _=>l1.length - n.toNat,⟨rfl, .start fun j hj=>by cases j with | zero=>simp | succ j=>omega⟩,?_⟩
 rintro n τ ⟨rfl,hr⟩
 refine bcd (fun hlt=>?_) (fun hge=>?_)
 · obtain ⟨j,x,rfl,hx,hj,hF,nx⟩:=hr.step (by simp) hl1 hlt
   obtain ⟨y,hy⟩:=a_g (l:=l2) (j:=j) (by omega)
   refine h1.load (a_c hx) m_m rfl ⟨x.Sec,x.Pos,rfl,h2.load (a_c hy) m_m rfl ⟨y.Sec,y.Pos,rfl,?_⟩⟩
   have hF:=hF j rfl
   rw[a_he hy,List.cons.injEq] at hF
   have hd:((x.Sec == y.Sec) && (x.Pos == y.Pos)) =decide (x=y):=by
     rw[Bool.eq_iff_iff];cases x;cases y;simp
   rw[hd]
   refine a_p (fun hp=>?_) (fun hp=>?_)
   · exact ⟨by rw[decide_eq_false (fun e=>of_decide_eq_false hp (hF.2 e).1)],rfl⟩
   · refine c_6 rfl (nx _ fun j' hj'=>?_)
     rw[a_m (by omega)] at hj'
     have:j'=j+1:=by omega
     subst this
     rw[←hF];exact ⟨fun h=>⟨of_decide_eq_true hp,h⟩,fun h=>h.2⟩
 · obtain ⟨j,hj,hj2,hF⟩:=hr
   rw[List.length_map] at hge
   have hF:=hF j hj
   rw[e_7 (by omega),e_7 (by omega)] at hF
   exact ⟨by rw[decide_eq_true (hF.1 rfl)],rfl⟩
theorem a_mq {d1 d2:D}{l1 l2:List Int}(h1:At prog σ a_i d1 (l1.map Go.Fw.encI))(h2:At prog σ a_i d2 (l2.map Go.Fw.encI)) :Pure prog g_6 [.one d1, .one d2] σ (.a (bA (decide (l1=l2)))):=by
 have hl1:=h1.size
 have hl2:=h2.size
 rw[List.length_map] at hl1 hl2
 refine v_z d1 d2 σ _ (h1.lenK (h2.lenK (bcn (fun hne=>?_) (fun heq=>h1.lenK ?_))))
 · rw[List.length_map,List.length_map] at hne
   exact ⟨by rw[decide_eq_false (fun e=>hne (by rw[e]))],rfl⟩
 rw[List.length_map,List.length_map] at heq
 refine ⟨fun n s=>s=σ∧Rng l1 (fun r=>∀j:Nat,n=j→(r=l2.drop j↔l1=l2)) n,fun n _=>l1.length - n.toNat,⟨rfl, .start fun j hj=>by cases j with | zero=>simp | succ j=>omega⟩,?_⟩
 rintro n τ ⟨rfl,hr⟩
 refine bcd (fun hlt=>?_) (fun hge=>?_)
 · obtain ⟨j,x,rfl,hx,hj,hF,nx⟩:=hr.step (by simp) hl1 hlt
   obtain ⟨y,hy⟩:=a_g (l:=l2) (j:=j) (by omega)
   refine h1.load (a_c hx) c_int rfl ⟨x,rfl,h2.load (a_c hy) c_int rfl ⟨y,rfl,?_⟩⟩
   have hF:=hF j rfl
   rw[a_he hy,List.cons.injEq] at hF
   refine bcn (fun hp=>?_) (fun hp=>?_)
   · exact ⟨by rw[decide_eq_false (fun e=>hp (hF.2 e).1)],rfl⟩
   · refine c_6 rfl (nx _ fun j' hj'=>?_)
     rw[a_m (by omega)] at hj'
     have:j'=j+1:=by omega
     subst this
     rw[←hF];exact ⟨fun h=>⟨hp,h⟩,fun h=>h.2⟩
 · obtain ⟨j,hj,hj2,hF⟩:=hr
   rw[List.length_map] at hge
   have hF:=hF j hj
   rw[e_7 (by omega),e_7 (by omega)] at hF
   exact ⟨by rw[decide_eq_true (hF.1 rfl)],rfl⟩
end
section
variable {σ:Store}
structure CfAt (σ:Store) (c0 c1 c2 c3 c4:D) (c:Cf) :Prop where
 secs:At prog σ i_i c0 (c.Secs.map Sec.enc)
 jts:At prog σ j_7 c1 (c.Jts.map Jt.enc)
 sigs:At prog σ e_6 c2 (c.Sigs.map Sg.enc)
 xs:At prog σ a_i c3 (c.Xs.map Go.Fw.encI)
 rts:a_x6 prog m_f d_0 a_4 a_i σ c4 c.Rts
abbrev cfA (c0 c1 c2 c3 c4:D)(c:Cf) :A:= .agg [c0,c1,c2,c3,c4,iD c.Age,iD c.Brake,iD c.Hold,iD c.Budget]
abbrev rtA (d1 d2 d3:D)(r:Rt) :A:= .agg [iD r.Entry,iD r.Exit,d1,d2,d3, .bool r.Shunt]
section
variable {c0 c1 c2 c3 c4:D} {c:Cf} (h:CfAt σ c0 c1 c2 c3 c4 c)
include h
theorem e_5 (s:Int) :Pure prog b_2 [cfA c0 c1 c2 c3 c4 c,iA s] σ (a_ya (a_k c.Secs s)):=by
 refine u_n _ _ _ _ _ _ _ _ _ s σ _ (bcd (fun h1=>⟨by rw[b_z h1];rfl,rfl⟩) (fun h1=>h.secs.lenK (bcd (fun h2=>⟨by rw[List.length_map] at h2;rw[c_z h2];rfl,rfl⟩) (fun h2=>?_))))
 rw[List.length_map] at h2
 obtain ⟨x,hx⟩:=a_g (l:=c.Secs) (j:=s.toNat) (by omega)
 refine h.secs.load (a_c hx) b_n (by omega) ⟨x.Kind,x.OC,x.Line,rfl,?_,rfl⟩
 have:a_k c.Secs s=some x:=by unfold a_k;rw[if_neg h1,hx]
 rw[this];rfl
theorem i_a (s:Int) :Pure prog c_y [cfA c0 c1 c2 c3 c4 c,iA s] σ (sgRV (a_k c.Sigs s)):=by
 refine w_r _ _ _ _ _ _ _ _ _ s σ _ (bcd (fun h1=>⟨by rw[b_z h1];rfl,rfl⟩) (fun h1=>h.sigs.lenK (bcd (fun h2=>⟨by rw[List.length_map] at h2;rw[c_z h2];rfl,rfl⟩) (fun h2=>?_))))
 rw[List.length_map] at h2
 obtain ⟨x,hx⟩:=a_g (l:=c.Sigs) (j:=s.toNat) (by omega)
 refine h.sigs.load (a_c hx) f_l (by omega) ⟨x.Sec,x.End_,rfl,?_,rfl⟩
 have:a_k c.Sigs s=some x:=by unfold a_k;rw[if_neg h1,hx]
 rw[this];rfl
theorem i_l (r:Rt)(d1 d2 d3:D) :Pure prog c_1 [cfA c0 c1 c2 c3 c4 c,rtA d1 d2 d3 r] σ (.a (iA (c.approach r))):=by
 refine r_g _ _ _ _ _ _ _ _ _ _ _ d1 d2 d3 _ σ _ ((i_a h r.Entry).use ?_)
 cases hg:a_k c.Sigs r.Entry with
 | none=>exact ⟨0,0,false,rfl,by simp[Cf.approach,hg],rfl⟩
 | some x=>exact ⟨x.Sec,x.End_,true,rfl,by simp[Cf.approach,hg],rfl⟩
theorem a_sr {i:Nat}{r:Rt}(hr:c.Rts[i]? =some r) :∃rows,At prog σ m_f c4 rows∧rows.length=c.Rts.length∧∃d1 d2 d3,rows[i]? =some [iD r.Entry,iD r.Exit,d1,d2,d3, .bool r.Shunt]∧At prog σ d_0 d1 (r.Path.map St.enc)∧At prog σ a_4 d2 (r.Flank.map Nd.enc)∧At prog σ a_i d3 (r.Overlap.map Go.Fw.encI):=by
 obtain ⟨rows,h1,h2,h3⟩:=h.rts
 have hlt:=(List.getElem?_eq_some_iff.1 hr).1
 obtain ⟨row,hrow⟩:=a_g (l:=rows) (j:=i) (by omega)
 obtain ⟨d1,d2,d3,rfl,q1,q2,q3⟩:=h3 i row r hrow hr
 exact ⟨rows,h1,h2,d1,d2,d3,hrow,q1,q2,q3⟩
theorem i_1:∃rows,At prog σ m_f c4 rows∧rows.length=c.Rts.length:=by
 obtain ⟨rows,h1,h2,h3⟩:=h.rts
 exact ⟨rows,h1,h2⟩
theorem n_l (i:Int) :Pure prog g_z [cfA c0 c1 c2 c3 c4 c,iA i] σ (.a (iA (c.Approach i))):=by
 obtain ⟨rows,hr,hl⟩:=i_1 h
 refine a_eb _ _ _ _ _ _ _ _ _ i σ _ (bcd (fun h1=>⟨by rw[Cf.Approach,b_z h1];rfl,rfl⟩) (fun h1=>hr.lenK (bcd (fun h2=>⟨by rw[hl] at h2;rw[Cf.Approach,c_z h2];rfl,rfl⟩) (fun h2=>?_))))
 rw[hl] at h2
 obtain ⟨x,hx⟩:=a_g (l:=c.Rts) (j:=i.toNat) (by omega)
 obtain ⟨rows',hr',_,d1,d2,d3,hrow,_⟩:=a_sr h hx
 refine hr'.load hrow c_p (by omega) ⟨_,_,d1,d2,d3,_,rfl,(i_l h x d1 d2 d3).use ⟨_,rfl,?_,rfl⟩⟩
 have:a_k c.Rts i=some x:=by unfold a_k;rw[if_neg h1,hx]
 rw[Cf.Approach,this];rfl
end
theorem a_ge {α:Type}{f1:FuncId}{id:Nat}{t:TypeId}{n:Int}{arg:α→A}{l:List α}{p:α→Bool}(hs:σ id= .live t [[iD n]])
   (hf:∀x ∈ l,DCalls prog f1 [arg x, .one (.el (.osl id 0 1) 0 0)] σ fun r s=>r= .a (bA (p x))∧s=σ) :FnIs prog σ (.fn f1 [] [(false,[.el (.osl id 0 1) 0 0])]) arg l p:=
 ⟨f1,_,_,[],[.one (.el (.osl id 0 1) 0 0)],rfl,rfl,rfl,hf⟩
theorem a_e {id:Nat}{t:TypeId}{row:List D}(hs:σ id= .live t [row]) :Row σ (.osl id 0 1) 0 row:=⟨by omega,t,[row],hs,rfl⟩
theorem a_b2 {d:D}{path:List St}(s:Int)(h:At prog σ d_0 d (path.map St.enc)) :Pure prog o_e [.one d,iA s] σ (.a (bA (c_e path s))):=by
 refine .of (a_rj d s σ _ (a_d fun id σ1 hid _ he hs=>?_)) (l_e _)
 refine (i_8 (p:=fun x=>x.Sec == s) (h.ext he) (a_ge hs fun x _=>?_)).use ⟨_,rfl,rfl,he⟩
 exact a_mv x.Sec x.In x.Out _ σ1 _ ⟨_,_,_,rfl,_,a_e hs,s,rfl,rfl,rfl⟩
theorem a_ro {d:D}{l:List Nd}{id:Nat}{q:Int}(h:At prog σ a_4 d (l.map Nd.enc))(hs:σ id= .live a_i [[iD q]]) :
   Pure prog c_o [.one d, .one (.fn g_a [] [(false,[.el (.osl id 0 1) 0 0])])] σ (.a (bA (l.any fun n=>n.Sec == q))):=
 r_b (p:=fun x=>x.Sec == q) h (a_ge hs fun x _=>t_7 x.Sec x.Pos _ σ _ ⟨_,_,_,rfl,_,a_e hs,q,rfl,rfl,rfl⟩)
end
end Go.Proofs.YtdmfnhbmhkgemaaGreat
namespace Go.Fw
section
theorem i_x (o:Option (Int × Int)){K:Int→Int→Bool→Prop}(h:K (o.getD (0,0)).1 (o.getD (0,0)).2 o.isSome) :∃n m:Int,∃b:Bool,opt2 o= .tup [iA n,iA m,bA b]∧K n m b:=by
 cases o with
 | none=>exact ⟨0,0,false,rfl,h⟩
 | some p=>exact ⟨p.1,p.2,true,rfl,h⟩
theorem a_eg (o:Option Int){K:Int→Bool→Prop}(h:K (o.getD 0) o.isSome) :∃n:Int,∃b:Bool,opt1 o= .tup [iA n,bA b]∧K n b:=by
 cases o with
 | none=>exact ⟨0,false,rfl,h⟩
 | some p=>exact ⟨p,true,rfl,h⟩
theorem a_gy (o:Option Sec){K:Int→Int→Int→Bool→Prop}(h:K (o.getD ⟨0,0,0⟩).Kind (o.getD ⟨0,0,0⟩).OC (o.getD ⟨0,0,0⟩).Line o.isSome) :∃n m k:Int,∃b:Bool,a_ya o= .tup [.agg [iD n,iD m,iD k],bA b]∧K n m k b:=by
 cases o with
 | none=>exact ⟨0,0,0,false,rfl,h⟩
 | some p=>exact ⟨p.Kind,p.OC,p.Line,true,rfl,h⟩
theorem a_vh (o:Option Sg){K:Int→Int→Bool→Prop}(h:K (o.getD ⟨0,0⟩).Sec (o.getD ⟨0,0⟩).End_ o.isSome) :∃n m:Int,∃b:Bool,sgRV o= .tup [.agg [iD n,iD m],bA b]∧K n m b:=by
 cases o with
 | none=>exact ⟨0,0,false,rfl,h⟩
 | some p=>exact ⟨p.Sec,p.End_,true,rfl,h⟩
def z_q (c:Cf)(r:Rt)(ex:Option Sg)(a:Sg)(s:St)(last:Bool)(seen:List Int) :Bool:=
 match nxt c.Jts a.Sec a.End_ with
 | none=>false
 | some (q, i) => decide (q = s.Sec) && decide (i = s.In) && (h_n (f_c ((a_k c.Secs q).getD ⟨0, 0, 0⟩).Kind) s.In s.Out).isSome && decide (q ∉ seen) &&
     (!(c.Sigs.any fun x=>decide (⟨s.Sec,s.Out⟩ =x)) || (last && decide (ex=some ⟨s.Sec,s.Out⟩))) && !(r.Shunt && decide (((a_k c.Secs q).getD ⟨0,0,0⟩).Line≠0))
def p_0 (c:Cf)(r:Rt)(ex:Option Sg) :List St→Sg→List Int→Bool
 | [],a,_=>match ex with
   | some x=>decide (a=x)
   | none=> !(nxt c.Jts a.Sec a.End_).isSome
 | s::rest,a,seen=>z_q c r ex a s rest.isEmpty seen && p_0 c r ex rest ⟨s.Sec,s.Out⟩ (s.Sec::seen)
def Cf.path (c:Cf)(r:Rt) :Bool:=
 match a_k c.Sigs r.Entry with
 | none=>false
 | some a=>(decide (r.Exit= -1) || (a_k c.Sigs r.Exit).isSome) && decide (1≤r.Path.length∧r.Path.length≤8) && p_0 c r (a_k c.Sigs r.Exit) r.Path a [a.Sec]
def Cf.route (c:Cf)(r:Rt) :Int:=
 if c.path r=false then 9 else if r.Flank≠c.flank (c.approach r) r.Path then 10 else if r.Overlap≠c.overlap r then 11 else 0
def Cf.routes (c:Cf) :List Rt→Int
 | []=>0
 | r::l=>if c.route r≠0 then c.route r else c.routes l
def Cf.timing (c:Cf) :Bool:=
 decide (1≤c.Age∧c.Age≤8) && decide (0≤c.Brake∧c.Brake≤8) && decide (c.Age+c.Brake+1≤c.Hold∧c.Hold≤40) && decide (1≤c.Budget∧c.Budget≤1000000)
def Cf.check (c:Cf) :Int:=
 if b_q c.Secs c.Jts=false then 6 else if c.sigsOk=false then 7 else if c.xsOk=false then 8 else if c.Rts.length > 12 then 9
 else if c.routes c.Rts≠0 then c.routes c.Rts else if c.timing=true then 0 else 12
theorem Rows.det {P:Program}{s s':Store}{el:TypeId}{d:D}{rs rs':List (List D)}(h:Rows P s el d rs)(h':Rows P s' el d rs')(hd:∀id i len,d≠ .osl id i len) :rs=rs':=by
 cases d <;> simp only[Rows] at h h' <;> try exact h.elim
 · rw[h,h']
 · rw[h,h']
 · rw[h.1,h'.1]
 · exact absurd rfl (hd _ _ _)
theorem a_rs {P:Program}{el:TypeId}{d:D}(h:∀s,∃rs,Rows P s el d rs) :∀id i len,d≠ .osl id i len:=by
 rintro id i len rfl
 obtain ⟨rs,t,rows,h1,_⟩:=h fun _=> .free
 cases h1
theorem g_m {P:Program}{tR tS tN tI:TypeId}{d:D}{l:List Rt}(h:∀s,a_x6 P tR tS tN tI s d l) :
   ∃rows,(∀s,At P s tR d rows)∧rows.length=l.length∧∀(i:Nat) row r,rows[i]? =some row→l[i]? =some r→
     ∃d1 d2 d3,row=[iD r.Entry,iD r.Exit,d1,d2,d3, .bool r.Shunt]∧(∀s,At P s tS d1 (r.Path.map St.enc))∧(∀s,At P s tN d2 (r.Flank.map Nd.enc))∧(∀s,At P s tI d3 (r.Overlap.map encI)):=by
 have hp:=a_rs (P:=P) (el:=tR) (d:=d) fun s=>by
   obtain ⟨rows,h1,_⟩:=h s
   exact ⟨rows,h1.rows⟩
 obtain ⟨rows,h1,h2,h3⟩:=h fun _=> .free
 have hall:∀s,At P s tR d rows∧∀(i:Nat) row r,rows[i]? =some row→l[i]? =some r→RtAt P tS tN tI s row r:=fun s=>by
   obtain ⟨rows',q1,q2,q3⟩:=h s
   have e:=q1.rows.det h1.rows hp
   subst e
   exact ⟨q1,q3⟩
 refine ⟨rows,fun s=>(hall s).1,h2,fun i row r hi hr=>?_⟩
 obtain ⟨d1,d2,d3,rfl,_⟩:=h3 i row r hi hr
 refine ⟨d1,d2,d3,rfl,fun s=>?_,fun s=>?_,fun s=>?_⟩ <;>
 · obtain ⟨e1,e2,e3,he,q1,q2,q3⟩:=(hall s).2 i _ r hi hr
   injection he with _ he;injection he with _ he;injection he with a1 he;injection he with a2 he;injection he with a3 he
   subst a1 a2 a3
   assumption
end
end Go.Fw
namespace Go.Proofs.YtdmfnhbmhkgemaaGreat
open Go.Fw Go.Proofs Go.RowKit
open Go.Proofs.Tryz (prog)
section
variable {σ:Store}
abbrev a_x4 (p:Sg) :A:= .agg [iD p.Sec,iD p.End_]
theorem a_ma:Keys prog e_6 a_x4:=by
 refine ⟨fun x=>?_,fun x y=>?_⟩
 · have:∀a b:Int,g_v prog e_6 (.agg [iD a,iD b]) =true:=fun a b=>by kernel_rfl
   exact this _ _
 · cases x;cases y;simp[eqA,b_7,b_s,e_0]
theorem d_2 (n lo hi:Int) :Pure prog c_4 [iA n,iA lo,iA hi] σ (.a (bA (decide (lo≤n∧n≤hi)))):=by
 refine a_f6 n lo hi σ _ (bcd (fun h=>⟨?_,rfl⟩) (fun h=>⟨?_,rfl⟩)) <;> simp[h]
section
variable {c0 c1 c2 c3 c4:D} {c:Cf} (h:∀s,CfAt s c0 c1 c2 c3 c4 c)
include h
theorem a_c1:Pure prog g_c [cfA c0 c1 c2 c3 c4 c] σ (.a (bA c.sigsOk)):=by
 have hl:=(h σ).sigs.size
 rw[List.length_map] at hl
 refine .of (t_o _ _ _ _ _ _ _ _ _ σ _ ?_) (l_e _)
 refine a_d fun id σ1 hid _ he hs=>(h σ1).sigs.lenK ⟨fun n s=>∃seen f,MapAt prog e_6 a_x4 s id f∧(∀z,f z=if z ∈ seen then some (iA 1) else none)∧Ext σ s∧Rng c.Sigs (fun r=>l_5 c.Jts r seen=l_5 c.Jts c.Sigs []) n,
   fun n _=>c.Sigs.length - n.toNat,⟨[],_, .new hs,fun z=>by simp,he, .start rfl⟩,?_⟩
 rintro n s ⟨seen,f,hm,hf,hes,hr⟩
 refine bcd (fun hlt=>?_) (fun hge=>?_)
 · obtain ⟨j,x,rfl,hx,hj,hF,nx⟩:=hr.step (by simp) hl hlt
   refine (h s).sigs.load (a_c hx) f_l rfl ⟨x.Sec,x.End_,rfl,(h_0 x.Sec x.End_ (h s).jts).use (i_x _ ?_)⟩
   rw[l_5] at hF
   have key:∀k:Int,f x=(if x ∈ seen then some (iA 1) else none)→((f x).getD (iA 0) =iA (if x ∈ seen then 1 else 0)):=fun k e=>by
     rw[e];split <;> rfl
   refine hm.lookI a_ma x (key 0 (hf x)) (hm.bump a_ma x fun s' f' hm' hf' hfx hs' hne=>?_)
   have hes':Ext σ s':=fun i hi=>by
     rw[hs' i (fun e=>hi (by rw[e];exact hid))];exact hes i hi
   refine a_p (fun hb=>?_) (fun hb=>?_)
   · rw[if_neg (by rw[hb];simp)] at hF
     exact ⟨by simp[Cf.sigsOk,←hF],hes'⟩
   · refine hm'.lookI a_ma x (by rw[hfx];rfl) (bcd (fun h2=>?_) (fun h2=>?_))
     · have hin : x ∈ seen := by
         by_cases hin:x ∈ seen
         · exact hin
         · rw[if_neg hin] at h2;exact absurd h2 (by decide)
       rw[if_neg (by simp[hin])] at hF
       exact ⟨by simp[Cf.sigsOk,←hF],hes'⟩
     · have hin:x ∉ seen:=fun hin=>h2 (by rw[if_pos hin];decide)
       rw[if_pos ⟨hb,hin⟩] at hF
       have hn:=nx (fun r=>l_5 c.Jts r (x::seen) =l_5 c.Jts c.Sigs []) hF
       refine ⟨⟨x::seen,f',hm',fun z=>?_,hes',hn.1⟩,hn.2⟩
       by_cases hz:z=x
       · subst hz;rw[hfx,if_neg hin];simp;rfl
       · rw[hf' z hz,hf];simp[hz]
 · have hF:=hr.done (by simp) hge
   rw[l_5] at hF
   refine (h s).sigs.lenK ⟨?_,hes⟩
   rw[Cf.sigsOk,←hF,List.length_map,Bool.true_and]
   congr 4;simp;omega
theorem y_5:Pure prog f_d [cfA c0 c1 c2 c3 c4 c] σ (.a (bA c.xsOk)):=by
 have hl:=(h σ).xs.size
 rw[List.length_map] at hl
 refine .of (q_p _ _ _ _ _ _ _ _ _ σ _ ?_) (l_e _)
 refine a_d fun id σ1 hid _ he hs=>(h σ1).xs.lenK ⟨fun n s=>∃seen f,MapAt prog a_i iA s id f∧(∀z,f z=if z ∈ seen then some (iA 1) else none)∧Ext σ s∧Rng c.Xs (fun r=>xrun c.Secs r seen=xrun c.Secs c.Xs []) n,
   fun n _=>c.Xs.length - n.toNat,⟨[],_, .new hs,fun z=>by simp,he, .start rfl⟩,?_⟩
 rintro n s ⟨seen,f,hm,hf,hes,hr⟩
 refine bcd (fun hlt=>?_) (fun hge=>?_)
 · obtain ⟨j,x,rfl,hx,hj,hF,nx⟩:=hr.step (by simp) hl hlt
   refine (h s).xs.load (a_c hx) c_int rfl ⟨x,rfl,(e_5 (h s) x).use (a_gy _ ?_)⟩
   rw[xrun] at hF
   have key:(f x).getD (iA 0) =iA (if x ∈ seen then 1 else 0):=by
     rw[hf];split <;> rfl
   refine hm.lookI p_y x key (hm.put p_y x fun s' f' hm' hf' hfx hs' hne=>?_)
   have hes':Ext σ s':=fun i hi=>by
     rw[hs' i (fun e=>hi (by rw[e];exact hid))];exact hes i hi
   refine a_p (fun hb=>?_) (fun hb=>?_)
   · cases hg:a_k c.Secs x with
     | some y=>rw[hg] at hb;cases hb
     | none=>
       rw[hg] at hF
       exact ⟨by simp[Cf.xsOk,←hF],hes'⟩
   · obtain ⟨y,hg⟩:=Option.isSome_iff_exists.1 hb
     rw[hg] at hF
     simp only[hg,Option.getD_some] at hF ⊢
     refine bcn (fun h3=>?_) (fun h3=>?_)
     · rw[if_neg (by simp[h3])] at hF
       exact ⟨by simp[Cf.xsOk,←hF],hes'⟩
     refine hm'.lookI p_y x (by rw[hfx];rfl) (bcd (fun h2=>?_) (fun h2=>?_))
     · have hin : x ∈ seen := by
         by_cases hin:x ∈ seen
         · exact hin
         · rw[if_neg hin] at h2;exact absurd h2 (by decide)
       rw[if_neg (by simp[hin])] at hF
       exact ⟨by simp[Cf.xsOk,←hF],hes'⟩
     · have hin:x ∉ seen:=fun hin=>h2 (by rw[if_pos hin];decide)
       rw[if_pos ⟨h3,hin⟩] at hF
       have hn:=nx (fun r=>xrun c.Secs r (x::seen) =xrun c.Secs c.Xs []) hF
       refine ⟨⟨x::seen,f',hm',fun z=>?_,hes',hn.1⟩,hn.2⟩
       by_cases hz:z=x
       · subst hz;rw[hfx,if_neg hin];simp;rfl
       · rw[hf' z hz,hf];simp[hz]
 · have hF:=hr.done (by simp) hge
   rw[xrun] at hF
   refine (h s).xs.lenK ⟨?_,hes⟩
   rw[Cf.xsOk,←hF,List.length_map,Bool.true_and]
   congr 4;simp;omega
end
end
section
variable {σ:Store}
def b_r (σ:Store)(t:TypeId)(rows:List (List D))(r:RV)(σ':Store) :Prop:=σ'=σ∧∃d,r= .a (.one d)∧∀s,At prog s t d rows
theorem c_n {t:TypeId}{d:D}{rows:List (List D)}{s:Store}(h:Own prog σ s t d rows)(hf:∀row ∈ rows,∀x ∈ row,Flat x) :
   ∃r' σ',Ret prog σ s (.a (.one d)) σ' r'∧b_r σ t rows r' σ':=by
 obtain ⟨d',h1,h2⟩:=s_8 h.at_ h.ext h.new hf
 exact ⟨.a (.one d'),σ, .pure h.ext h1,rfl,d',rfl,h2⟩
theorem a_gg (l:List Nd) :∀row ∈ l.map Nd.enc,∀x ∈ row,Flat x:=by
 intro row hrow x hx
 obtain ⟨w,_,rfl⟩:=List.mem_map.1 hrow
 simp[Nd.enc] at hx
 rcases hx with rfl | rfl <;> exact .int _ _
theorem v_e (l:List Int) :∀row ∈ l.map Go.Fw.encI,∀x ∈ row,Flat x:=by
 intro row hrow x hx
 obtain ⟨w,_,rfl⟩:=List.mem_map.1 hrow
 simp[Go.Fw.encI] at hx
 subst hx;exact .int _ _
theorem n_7 {s:Store}{id:Nat}{t:TypeId}{x y:D}{K:Store→Prop}(hs:s id= .live t [[x]])(hK:∀s',s' id= .live t [[y]]→(∀i,i≠id→s' i=s i)→K s') :a_j [y] s (.osl id 0 1) 0 0 K:=
 ⟨id,0,1,t,[[x]],[x],rfl,by omega,hs,rfl,by simp,hK _ (Store.set_same _ _ _) fun i hi=>Store.set_ne _ _ hi⟩
section
variable {c0 c1 c2 c3 c4:D} {c:Cf} (h:∀s,CfAt s c0 c1 c2 c3 c4 c)
include h
theorem a_j0 (a:Int){d:D}{path:List St}(hp:∀s,At prog s d_0 d (path.map St.enc))(hpl:path.length≤2 ^ 20) :
   DCalls prog h_l [cfA c0 c1 c2 c3 c4 c,iA a, .one d] σ (b_r σ a_4 ((c.flank a path).map Nd.enc)):=by
 have hl:=(hp σ).size
 rw[List.length_map] at hl
 refine (x_2 _ _ _ _ _ _ _ _ _ a d σ _ ?_).ret (Q:=fun r s=>∃r' σ',Ret prog σ s r σ' r'∧b_r σ a_4 ((c.flank a path).map Nd.enc) r' σ') (fun r s h=>h)
 refine (hp σ).lenK ⟨fun d n s=>∃out:List Nd,Own prog σ s a_4 d (out.map Nd.enc)∧out.length≤4 * n.toNat∧Rng path (fun r=>c_v c a path r out=c.flank a path) n,fun _ n _=>path.length - n.toNat,
   ⟨[], .nil _ (.refl _),by simp, .start rfl⟩,?_⟩
 rintro d1 n s ⟨out,ho,hol,hr⟩
 refine bcd (fun hlt=>?_) (fun hge=>?_)
 · obtain ⟨j,x,rfl,hx,hj,hF,nx⟩:=hr.step (by simp) hl hlt
   refine (hp s).load (a_c hx) g_f rfl ⟨x.Sec,x.In,x.Out,rfl,(e_5 (h s) x.Sec).use (a_gy _ ?_)⟩
   rw[c_v] at hF
   refine a_p (fun hb=>?_) (fun hb=>?_)
   · cases hg:a_k c.Secs x.Sec with
     | some y=>rw[hg] at hb;cases hb
     | none=>
       rw[hg] at hF
       have hn:=nx (fun r=>c_v c a path r out=c.flank a path) hF
       exact ⟨⟨out,ho,by rw[a_m (by omega)];omega,hn.1⟩,hn.2⟩
   · obtain ⟨y,hg⟩:=Option.isSome_iff_exists.1 hb
     rw[hg] at hF
     simp only[hg,Option.getD_some] at hF ⊢
     refine (o_7 _).use ⟨_,rfl,?_⟩
     have hne:=y_i y.Kind
     refine ⟨fun d m s'=>∃out':List Nd,Own prog σ s' a_4 d (out'.map Nd.enc)∧0≤m∧m≤b_l y.Kind∧out'.length≤4 * j+m.toNat∧b_p c a path x (b_l y.Kind - m).toNat m out'=b_p c a path x (b_l y.Kind).toNat 0 out,
       fun _ m _=>(b_l y.Kind - m).toNat,⟨out,ho,by omega,hne.1,by simp at hol ⊢;omega,by rw[Int.sub_zero]⟩,?_⟩
     rintro d2 m s' ⟨out',ho',hm0,hm1,hol',hE⟩
     refine bcd (fun hlt'=>?_) (fun hge'=>?_)
     · have hw:w64 (m+1) =m+1:=a_w (by omega) (by omega)
       have hk:(b_l y.Kind - m).toNat=(b_l y.Kind - (m+1)).toNat+1:=by omega
       rw[hk,b_p] at hE
       have leaf : ∀ (out2 : List Nd) (d3 : D) (s2 : Store), b_t c a path x out' m = out2 → Own prog σ s2 a_4 d3 (out2.map Nd.enc) →
           (∃out':List Nd,Own prog σ s2 a_4 d3 (out'.map Nd.enc)∧0≤w64 (m+1)∧w64 (m+1)≤b_l y.Kind∧out'.length≤4 * j+ (w64 (m+1)).toNat∧b_p c a path x (b_l y.Kind - w64 (m+1)).toNat (w64 (m+1)) out'=b_p c a path x (b_l y.Kind).toNat 0 out)∧
           (b_l y.Kind - w64 (m+1)).toNat < (b_l y.Kind - m).toNat:=by
         intro out2 d3 s2 h1 h2
         have hlen:=(m_y c a path x out' m).2
         rw[hw]
         refine ⟨⟨out2,h2,by omega,by omega,by rw[←h1];omega,by rw[←h1];exact hE⟩,by omega⟩
       intro R hR
       refine bce (fun h1=>⟨trivial,leaf out' d2 s' (by rw[b_t,if_pos (.inl h1)]) ho'⟩) (fun h1=>bce (fun h2=>⟨trivial,leaf out' d2 s' (by rw[b_t,if_pos (.inr h2)]) ho'⟩) (fun h2=>⟨trivial,hR s' ?_⟩))
       have hst:b_t c a path x out' m=match nxt c.Jts x.Sec m with
         | none=>out'
         | some (q,f)=>match a_k c.Secs q with
           | none=>out'
           | some y=>if y.Kind=1∧(1≤f∧f≤2)∧q≠a∧c_e path q=false∧(out'.any fun n=>n.Sec == q) =false then out' ++ [⟨q,3 - f⟩] else out':=by
         rw[b_t,if_neg (by rintro (e | e);exact h1 e;exact h2 e)] <;> rfl
       refine (h_0 x.Sec m (h s').jts).use (i_x _ ?_)
       generalize nxt c.Jts x.Sec m=o at hst
       refine a_d fun id s2 hid _ he hs2=>n_7 hs2 fun s3 hs3 hs3'=>?_
       have he3:Ext s' s3:=fun i hi=>by
         rw[hs3' i (fun e=>hi (by rw[e];exact hid))];exact he i hi
       have ho3:=ho'.ext' he3
       refine ⟨_,a_e hs3,_,rfl,(e_5 (h s3) _).use (a_gy _ ?_)⟩
       intro R1 hR1
       refine a_p (fun hb1=>?_) (fun hb1=>?_)
       · cases o with
         | some p=>cases hb1
         | none=>exact ⟨trivial,leaf out' d2 s3 hst ho3⟩
       obtain ⟨⟨q,f⟩,rfl⟩:=Option.isSome_iff_exists.1 hb1
       simp only[Option.getD_some] at hst hR1 hs3 ⊢
       refine a_p (fun hb2=>?_) (fun hb2=>?_)
       · cases hg2:a_k c.Secs q with
         | some p=>rw[hg2] at hb2;cases hb2
         | none=>rw[hg2] at hst;exact ⟨trivial,leaf out' d2 s3 hst ho3⟩
       obtain ⟨y2,hg2⟩:=Option.isSome_iff_exists.1 hb2
       rw[hg2] at hst
       simp only[hg2,Option.getD_some] at hst ⊢
       have no:¬(y2.Kind=1∧(1≤f∧f≤2)∧q≠a∧c_e path q=false∧(out'.any fun n=>n.Sec == q) =false)→b_t c a path x out' m=out':=fun hn=>by rw[hst,if_neg hn]
       refine bcn (fun h3=>⟨trivial,leaf out' d2 s3 (no fun h=>h3 h.1) ho3⟩) (fun h3=>?_)
       refine bcd (fun h4=>⟨trivial,leaf out' d2 s3 (no fun h=>by omega) ho3⟩) (fun h4=>?_)
       refine bcd (fun h5=>⟨trivial,leaf out' d2 s3 (no fun h=>by omega) ho3⟩) (fun h5=>?_)
       refine ⟨_,a_e hs3,q,rfl,bce (fun h6=>⟨trivial,leaf out' d2 s3 (no fun h=>h.2.2.1 h6) ho3⟩) (fun h6=>?_)⟩
       refine ⟨_,a_e hs3,q,rfl,(a_b2 q (hp s3)).use ⟨_,rfl,bc (fun h7=>⟨trivial,leaf out' d2 s3 (no fun h=>by rw[h.2.2.2.1] at h7;cases h7) ho3⟩) (fun h7=>?_)⟩⟩
       refine (a_ro ho3.at_ hs3).use ⟨_,rfl,bc (fun h8=>⟨trivial,leaf out' d2 s3 (no fun h=>by rw[h.2.2.2.2] at h8;cases h8) ho3⟩) (fun h8=>⟨trivial,hR1 s3 ?_⟩)⟩
       refine ⟨_,a_e hs3,q,rfl,a_d fun id1 s4 hid1 _ he4 hs4=>?_⟩
       have hw2:w64 (3 - f) =3 - f:=a_w (by omega) (by omega)
       have ho4:=ho3.ext' he4
       refine ho4.append (At.fresh hs4 (by simp) rfl) (by simp;omega) (by simp;omega) fun d4 s5 ho5 _ _=>⟨trivial,leaf (out' ++ [⟨q,3 - f⟩]) d4 s5 (by rw[hst,if_pos ⟨h3,⟨by omega,by omega⟩,h6,h7,h8⟩]) ?_⟩
       rw[hw2] at ho5
       rw[List.map_append]
       exact ho5
     · have hz:(b_l y.Kind - m).toNat=0:=by omega
       rw[hz,b_p] at hE
       rw[←hE] at hF
       have hn:=nx (fun r=>c_v c a path r out'=c.flank a path) hF
       exact ⟨⟨out',ho',by rw[a_m (by omega)];omega,hn.1⟩,hn.2⟩
 · have hF:=hr.done (by simp) hge
   rw[c_v] at hF
   rw[←hF]
   exact c_n ho (a_gg _)
theorem a_c6 (r:Rt){d1 d2 d3:D}(hp:∀s,At prog s d_0 d1 (r.Path.map St.enc)) :
   DCalls prog g_h [cfA c0 c1 c2 c3 c4 c,rtA d1 d2 d3 r] σ (b_r σ a_i ((c.overlap r).map Go.Fw.encI)):=by
 refine (u_k _ _ _ _ _ _ _ _ _ _ _ d1 d2 d3 _ σ _ ?_).ret (Q:=fun r' s=>∃r'' σ',Ret prog σ s r' σ' r''∧b_r σ a_i ((c.overlap r).map Go.Fw.encI) r'' σ') (fun r s h=>h)
 refine (i_a (h σ) _).use (a_vh _ ?_)
 intro R hR
 have nil:c.overlap r=[]→∃r'' σ',Ret prog σ σ (.a (.one .nils)) σ' r''∧b_r σ a_i ((c.overlap r).map Go.Fw.encI) r'' σ':=fun e=>by
   rw[e];exact c_n (.nil _ (.refl _)) (v_e _)
 refine bc (fun h1=>nil (by rw[Cf.overlap,if_pos h1])) (fun h1=>a_p (fun h2=>nil ?_) (fun h2=>⟨rfl,hR σ ?_⟩))
 · rw[Cf.overlap,if_neg (by rw[h1];simp)]
   cases hg:a_k c.Sigs r.Exit with
   | none=>rfl
   | some x=>rw[hg] at h2;cases h2
 obtain ⟨x,hg⟩:=Option.isSome_iff_exists.1 h2
 simp only[hg,Option.getD_some] at hR ⊢
 have hov:c.overlap r=match nxt c.Jts x.Sec x.End_ with
   | none=> []
   | some (q,_)=>match a_k c.Secs q with
     | none=> []
     | some y=>if y.Line=0∧c_e r.Path q=false∧q≠c.approach r then [q] else []:=by
   rw[Cf.overlap,if_neg (by rw[h1];simp),hg] <;> rfl
 refine (h_0 _ _ (h σ).jts).use (i_x _ ((e_5 (h σ) _).use (a_gy _ ?_)))
 generalize nxt c.Jts x.Sec x.End_=o at hov
 refine a_p (fun hb1=>nil ?_) (fun hb1=>?_)
 · cases o with
   | none=>exact hov
   | some p=>cases hb1
 obtain ⟨⟨q,f⟩,rfl⟩:=Option.isSome_iff_exists.1 hb1
 simp only[Option.getD_some] at hov ⊢
 refine a_p (fun hb2=>nil ?_) (fun hb2=>?_)
 · cases hg2:a_k c.Secs q with
   | none=>rw[hg2] at hov;exact hov
   | some p=>rw[hg2] at hb2;cases hb2
 obtain ⟨y,hg2⟩:=Option.isSome_iff_exists.1 hb2
 simp only[hg2,Option.getD_some] at hov ⊢
 have no:¬(y.Line=0∧c_e r.Path q=false∧q≠c.approach r)→c.overlap r=[]:=fun hn=>by rw[hov,if_neg hn]
 refine bcn (fun h3=>nil (no fun h=>h3 h.1)) (fun h3=>(a_b2 q (hp σ)).use ⟨_,rfl,bc (fun h4=>nil (no fun h=>by rw[h.2.1] at h4;cases h4)) (fun h4=>(i_l (h σ) r d1 d2 d3).use ⟨_,rfl,bce (fun h5=>nil (no fun h=>h.2.2 h5)) (fun h5=>?_)⟩)⟩)
 refine a_d fun id s2 hid _ he hs2=>?_
 rw[hov,if_pos ⟨h3,h4,h5⟩]
 exact c_n ⟨At.fresh hs2 (by simp) rfl,he,y_g hid,fun h=>h,by intro e;cases e⟩ (v_e _)
end
end
section
variable {σ:Store}
section
variable {c0 c1 c2 c3 c4:D} {c:Cf} (h:∀s,CfAt s c0 c1 c2 c3 c4 c)
include h
theorem a_mk (r:Rt){d1 d2 d3:D}(hp:∀s,At prog s d_0 d1 (r.Path.map St.enc)) :
   Pure prog i_p [cfA c0 c1 c2 c3 c4 c,rtA d1 d2 d3 r] σ (.a (bA (c.path r))):=by
 have hl:=(hp σ).size
 rw[List.length_map] at hl
 refine .of (a_bn _ _ _ _ _ _ _ _ _ _ _ d1 d2 d3 _ σ _ ?_) (l_e _)
 refine (i_a (h σ) _).use (a_vh _ ((i_a (h σ) _).use (a_vh _ ?_)))
 intro R hR
 refine a_p (fun h1=>?_) (fun h1=>?_)
 · cases hg:a_k c.Sigs r.Entry with
   | some x=>rw[hg] at h1;cases h1
   | none=>exact ⟨by rw[Cf.path,hg], .refl _⟩
 obtain ⟨a,hg⟩:=Option.isSome_iff_exists.1 h1
 have hpath:c.path r=((decide (r.Exit= -1) || (a_k c.Sigs r.Exit).isSome) && decide (1≤r.Path.length∧r.Path.length≤8) && p_0 c r (a_k c.Sigs r.Exit) r.Path a [a.Sec]):=by rw[Cf.path,hg]
 rw[hg,Option.getD_some] at hR
 generalize hex:a_k c.Sigs r.Exit=ex at hpath hR
 have hlen:decide ((1:Int)≤((r.Path.map St.enc).length:Int)∧((r.Path.map St.enc).length:Int)≤8) =decide (1≤r.Path.length∧r.Path.length≤8):=by
   rw[List.length_map];congr 1;apply propext;omega
 have hgo:decide (1≤r.Path.length∧r.Path.length≤8) =true→(decide (r.Exit= -1) || ex.isSome) =true→R σ:=by
   intro hlen2 hexok
   rw[hlen2,hexok] at hpath
   simp only[Bool.true_and] at hpath
   refine hR σ (a_d fun id s1 hid _ he1 hs1=>(MapAt.new hs1).put p_y a.Sec fun s2 f2 hm2 hf2 hfx2 hs2 hne2=>?_)
   have he2:Ext σ s2:=fun i hi=>by
     rw[hs2 i (fun e=>hi (by rw[e];exact hid))];exact he1 i hi
   refine (hp s2).lenK ⟨fun m e n s=>∃seen f,MapAt prog a_i iA s id f∧(∀z,f z=if z ∈ seen then some (iA 1) else none)∧Ext σ s∧Rng r.Path (fun q=>p_0 c r ex q ⟨m,e⟩ seen=c.path r) n,fun _ _ n _=>r.Path.length - n.toNat,
     ⟨[a.Sec],f2,hm2,fun z=>?_,he2, .start hpath.symm⟩,?_⟩
   · by_cases hz:z=a.Sec
     · subst hz;rw[hfx2];simp
     · rw[hf2 z hz];simp[hz]
   rintro m e n s ⟨seen,f,hm,hf,hes,hr⟩
   refine bcd (fun hlt=>?_) (fun hge=>?_)
   · obtain ⟨j,x,rfl,hx,hj,hF,nx⟩:=hr.step (by simp) hl hlt
     intro R1 hR1
     refine (hp s).load (a_c hx) g_f rfl ⟨x.Sec,x.In,x.Out,rfl,(h_0 m e (h s).jts).use (i_x _ ((e_5 (h s) _).use (a_gy _ ((a_ck _ _ _).use (a_eg _ ?_)))))⟩
     rw[p_0] at hF
     have bad:z_q c r ex ⟨m,e⟩ x (r.Path.drop (j+1)).isEmpty seen=false→∀s',Ext σ s'→(RV.a (.one (.bool false)) = .a (bA (c.path r))∧Ext σ s'):=fun hb s' he'=>by
       rw[hb] at hF
       exact ⟨by rw[←hF];rfl,he'⟩
     have good:z_q c r ex ⟨m,e⟩ x (r.Path.drop (j+1)).isEmpty seen=true→∀s' f',MapAt prog a_i iA s' id f'→(∀z,f' z=if z ∈ x.Sec::seen then some (iA 1) else none)→Ext σ s'→R1 x.Sec x.Out s':=fun hb s' f' hm' hf' he'=>by
       rw[hb,Bool.true_and] at hF
       have hn:=nx (fun q=>p_0 c r ex q ⟨x.Sec,x.Out⟩ (x.Sec::seen) =c.path r) hF
       exact hR1 _ _ _ ⟨rfl,⟨x.Sec::seen,f',hm',hf',he',hn.1⟩,hn.2⟩
     have hst:z_q c r ex ⟨m,e⟩ x (r.Path.drop (j+1)).isEmpty seen=match nxt c.Jts m e with
       | none=>false
       | some (q,i)=>decide (q=x.Sec) && decide (i=x.In) && (h_n (f_c ((a_k c.Secs q).getD ⟨0,0,0⟩).Kind) x.In x.Out).isSome && decide (q ∉ seen) &&
         (!(c.Sigs.any fun y=>decide (⟨x.Sec,x.Out⟩ =y)) || ((r.Path.drop (j+1)).isEmpty && decide (ex=some ⟨x.Sec,x.Out⟩))) && !(r.Shunt && decide (((a_k c.Secs q).getD ⟨0,0,0⟩).Line≠0)):=rfl
     generalize nxt c.Jts m e=o at hst
     have key:(f (o.getD (0,0)).1).getD (iA 0) =iA (if (o.getD (0,0)).1 ∈ seen then 1 else 0):=by
       rw[hf];split <;> rfl
     refine hm.lookI p_y _ key (hm.put p_y _ fun s' f' hm' hf' hfx hs' hne=>?_)
     have hes':Ext σ s':=fun i hi=>by
       rw[hs' i (fun e=>hi (by rw[e];exact hid))];exact hes i hi
     refine (x_e ⟨x.Sec,x.Out⟩ (h s').sigs).use ⟨_,rfl,?_⟩
     intro R2 hR2
     have main:R2 ((r.Path.drop (j+1)).isEmpty && decide (ex=some ⟨x.Sec,x.Out⟩)) s':=by
       refine hR2 _ _ (a_p (fun k1=>bad ?_ s' hes') (fun k1=>?_))
       · cases o with
         | none=>exact hst
         | some p=>cases k1
       obtain ⟨⟨q,i⟩,rfl⟩:=Option.isSome_iff_exists.1 k1
       simp only[Option.getD_some] at hst key hfx hf' ⊢
       refine bcn (fun k2=>bad (by rw[hst];simp[k2]) s' hes') (fun k2=>?_)
       refine bcn (fun k3=>bad (by rw[hst];simp[k3]) s' hes') (fun k3=>?_)
       refine a_p (fun k4=>bad (by rw[hst,k4];simp) s' hes') (fun k4=>?_)
       refine hm'.lookI p_y q (by rw[hfx];rfl) (bcd (fun k5=>?_) (fun k5=>?_))
       · have hin : q ∈ seen := by
           by_cases hin:q ∈ seen
           · exact hin
           · rw[if_neg hin] at k5;exact absurd k5 (by decide)
         exact bad (by rw[hst];simp[hin]) s' hes'
       have hin:q ∉ seen:=fun hin=>k5 (by rw[if_pos hin];decide)
       have hfin:z_q c r ex ⟨m,e⟩ x (r.Path.drop (j+1)).isEmpty seen=true→R1 x.Sec x.Out s':=fun hb=>good hb s' f' hm' (fun z=>by
         by_cases hz:z=q
         · subst hz;rw[hfx,if_neg hin,k2];simp;rfl
         · rw[hf' z hz,hf];simp[k2 ▸ hz]) hes'
       have hpre:(decide (q=x.Sec) && decide (i=x.In) && (h_n (f_c ((a_k c.Secs q).getD ⟨0,0,0⟩).Kind) x.In x.Out).isSome && decide (q ∉ seen)) =true:=by
         rw[k4];simp[k2,k3];rw[←k2];exact hin
       rw[hpre,Bool.true_and] at hst
       refine bc (fun k6=>a_p (fun k7=>bad ?_ s' hes') (fun k7=>?_)) (fun k6=>?_)
       · rw[hst,k6,k7];rfl
       · rw[k6,k7] at hst
         refine bc (fun k8=>bcn (fun k9=>bad ?_ s' hes') (fun k9=>⟨trivial,hfin ?_⟩)) (fun k8=>⟨trivial,hfin ?_⟩)
         · rw[hst,k8];simp[k9]
         · rw[hst];simp[k9]
         · rw[hst,k8];rfl
       · rw[k6] at hst
         refine bc (fun k8=>bcn (fun k9=>bad ?_ s' hes') (fun k9=>⟨trivial,hfin ?_⟩)) (fun k8=>⟨trivial,hfin ?_⟩)
         · rw[hst,k8];simp[k9]
         · rw[hst];simp[k9]
         · rw[hst,k8];rfl
     refine (hp s').lenK ?_
     have hw:w64 (((r.Path.map St.enc).length:Int) - 1) =(r.Path.length:Int) - 1:=by rw[List.length_map,a_w (by omega) (by omega)]
     rw[hw]
     refine bce (fun q1=>bc (fun q2=>⟨rfl,?_⟩) (fun q2=>⟨rfl,?_⟩)) (fun q1=>⟨rfl,?_⟩)
     · have hemp:(r.Path.drop (j+1)).isEmpty=true:=by rw[e_7 (by omega)];rfl
       obtain ⟨y,rfl⟩:=Option.isSome_iff_exists.1 q2
       rw[hemp,Bool.true_and] at main
       have hd:decide (some y=some (⟨x.Sec,x.Out⟩ :Sg)) =(x.Sec == y.Sec && x.Out == y.End_):=by
         cases y with
         | mk y1 y2=>
           rw[Bool.eq_iff_iff];simp
           exact ⟨fun ⟨a,b⟩=>⟨a.symm,b.symm⟩,fun ⟨a,b⟩=>⟨a.symm,b.symm⟩⟩
       rw[hd] at main
       exact main
     · have hd:ex=none:=by cases ex;rfl;cases q2
       rw[hd] at main
       simpa using main
     · have hemp : (r.Path.drop (j + 1)).isEmpty = false := by
         cases hd:r.Path.drop (j+1) with
         | nil=>rw[List.drop_eq_nil_iff] at hd;omega
         | cons y l=>rfl
       rw[hemp,Bool.false_and] at main
       exact main
   · have hF:(match (generalizing:=false) ex with | some x=>decide ((⟨m,e⟩ :Sg) =x) | none=> !(nxt c.Jts m e).isSome) =c.path r:=hr.done (by simp) hge
     refine bc (fun q2=>?_) (fun q2=>?_)
     · obtain ⟨y,rfl⟩:=Option.isSome_iff_exists.1 q2
       refine ⟨?_,hes⟩
       rw[←hF]
       cases y with
       | mk y1 y2=>
         congr 4;rw[Bool.eq_iff_iff];simp
     · have hd:ex=none:=by cases ex;rfl;cases q2
       subst hd
       refine (h_0 m e (h s).jts).use (i_x _ ⟨?_,hes⟩)
       rw[←hF]
 refine a_p (fun h2=>bcn (fun h3=>⟨?_, .refl _⟩) (fun h3=>(hp σ).lenK ((d_2 _ _ _).use ⟨_,rfl,a_p (fun h4=>⟨?_, .refl _⟩) (fun h4=>⟨rfl,hgo ?_ ?_⟩)⟩))) (fun h2=>(hp σ).lenK ((d_2 _ _ _).use ⟨_,rfl,a_p (fun h4=>⟨?_, .refl _⟩) (fun h4=>⟨rfl,hgo ?_ ?_⟩)⟩))
 · rw[hpath,h2];simp[h3]
 · rw[hlen] at h4;rw[hpath,h4];simp
 · rw[←hlen];exact h4
 · simp[h3]
 · rw[hlen] at h4;rw[hpath,h4];simp
 · rw[←hlen];exact h4
 · simp[h2]
theorem a_jj (r:Rt){d1 d2 d3:D}(hp:∀s,At prog s d_0 d1 (r.Path.map St.enc))(hf:∀s,At prog s a_4 d2 (r.Flank.map Nd.enc))(ho:∀s,At prog s a_i d3 (r.Overlap.map Go.Fw.encI)) :
   Pure prog h_2 [cfA c0 c1 c2 c3 c4 c,rtA d1 d2 d3 r] σ (.a (iA (c.route r))):=by
 refine x_o _ _ _ _ _ _ _ _ _ _ _ d1 d2 d3 _ σ _ ((a_mk h r hp).use ⟨_,rfl,a_p (fun h1=>⟨by rw[Cf.route,if_pos h1],rfl⟩) (fun h1=>?_)⟩)
 have hpl:r.Path.length≤8:=by
   unfold Cf.path at h1
   split at h1
   · cases h1
   · simp at h1;exact h1.1.2.2
 refine (i_l (h σ) r d1 d2 d3).use ⟨_,rfl,(a_j0 h _ hp (by omega)).mono ?_⟩
 rintro r1 s1 ⟨rfl,d,rfl,hd⟩
 refine ⟨d,rfl,(a_iq (hf _) (hd _)).use ⟨_,rfl,a_p (fun h2=>⟨?_,rfl⟩) (fun h2=>(a_c6 h r hp).mono ?_)⟩⟩
 · rw[Cf.route,if_neg (by rw[h1];simp),if_pos (of_decide_eq_false h2)]
 rintro r2 s2 ⟨rfl,d',rfl,hd'⟩
 have e2:=of_decide_eq_true h2
 refine ⟨d',rfl,(a_mq (ho _) (hd' _)).use ⟨_,rfl,a_p (fun h3=>⟨?_,rfl⟩) (fun h3=>⟨?_,rfl⟩)⟩⟩
 · rw[Cf.route,if_neg (by rw[h1];simp),if_neg (fun hn=>hn e2),if_pos (of_decide_eq_false h3)]
 · rw[Cf.route,if_neg (by rw[h1];simp),if_neg (fun hn=>hn e2),if_neg (fun hn=>hn (of_decide_eq_true h3))]
theorem a_im:Pure prog p_m [cfA c0 c1 c2 c3 c4 c] σ (.a (iA c.check)):=by
 refine a_m8 _ _ _ _ _ _ _ _ _ σ _ ((a_i5 (fun s=>(h s).secs) (fun s=>(h s).jts)).use ⟨_,rfl,?_⟩)
 have e6:(if b_q c.Secs c.Jts=true then (0:Int) else 6)≠0↔b_q c.Secs c.Jts=false:=by
   cases b_q c.Secs c.Jts <;> simp
 refine bcn (fun k1=>⟨by rw[Cf.check,if_pos (e6.1 k1)],rfl⟩) (fun k1=>(a_c1 h).use ⟨_,rfl,a_p (fun k2=>⟨?_,rfl⟩) (fun k2=>(y_5 h).use ⟨_,rfl,a_p (fun k3=>⟨?_,rfl⟩) (fun k3=>?_)⟩)⟩)
 all_goals have k1':¬b_q c.Secs c.Jts=false:=fun e=>e6.2 e k1
 · rw[Cf.check,if_neg k1',if_pos k2]
 · rw[Cf.check,if_neg k1',if_neg (by rw[k2];simp),if_pos k3]
 have hck:c.check=if c.Rts.length > 12 then 9 else if c.routes c.Rts≠0 then c.routes c.Rts else if c.timing=true then 0 else 12:=by
   rw[Cf.check,if_neg k1',if_neg (by rw[k2];simp),if_neg (by rw[k3];simp)]
 obtain ⟨rows,hat,hlen,hrow⟩:=g_m fun s=>(h s).rts
 have hl:=(hat σ).size
 refine (hat σ).lenK (bcd (fun k4=>⟨by rw[hck,if_pos (by omega)],rfl⟩) (fun k4=>(hat σ).lenK ?_))
 rw[if_neg (by omega)] at hck
 refine ⟨fun n s=>s=σ∧Rng c.Rts (fun l=>c.routes l=c.routes c.Rts) n,fun n _=>c.Rts.length - n.toNat,⟨rfl, .start rfl⟩,?_⟩
 rintro n τ ⟨rfl,hr⟩
 refine bcd (fun hlt=>?_) (fun hge=>?_)
 · obtain ⟨j,x,rfl,hx,hj,hF,nx⟩:=hr.step hlen (by omega) hlt
   obtain ⟨row,hrw⟩:=a_g (l:=rows) (j:=j) (by omega)
   obtain ⟨d1,d2,d3,rfl,q1,q2,q3⟩:=hrow j row x hrw hx
   refine (hat τ).load hrw c_p rfl ⟨_,_,d1,d2,d3,_,rfl,(a_jj h x q1 q2 q3).use ⟨_,rfl,?_⟩⟩
   rw[Cf.routes] at hF
   refine bcn (fun k5=>⟨?_,rfl⟩) (fun k5=>?_)
   · rw[if_pos k5] at hF
     rw[hck,←hF,if_pos k5]
   · rw[if_neg (by simp[k5])] at hF
     exact ⟨rfl,c_6 rfl (nx _ hF)⟩
 · have hF:0=c.routes c.Rts:=hr.done hlen hge
   rw[←hF,if_neg (by simp)] at hck
   have hpos:c.timing=(decide (1≤c.Age∧c.Age≤8) && decide (0≤c.Brake∧c.Brake≤8) && decide (c.Age+c.Brake+1≤c.Hold∧c.Hold≤40) && decide (1≤c.Budget∧c.Budget≤1000000)):=rfl
   refine (d_2 _ _ _).use ⟨_,rfl,a_p (fun k5=>⟨?_,rfl⟩) (fun k5=>(d_2 _ _ _).use ⟨_,rfl,a_p (fun k6=>⟨?_,rfl⟩) (fun k6=>(d_2 _ _ _).use ⟨_,rfl,?_⟩)⟩)⟩
   · rw[hck,hpos,k5];simp
   · rw[hck,hpos,k6];simp
   have a5:=of_decide_eq_true k5
   have a6:=of_decide_eq_true k6
   rw[a_w (n:=c.Age+c.Brake) (by omega) (by omega),a_w (n:=c.Age+c.Brake+1) (by omega) (by omega)]
   refine a_p (fun k7=>⟨?_,rfl⟩) (fun k7=>(d_2 _ _ _).use ⟨_,rfl,a_p (fun k8=>⟨?_,rfl⟩) (fun k8=>⟨?_,rfl⟩)⟩)
   · rw[hck,hpos,k7];simp
   · rw[hck,hpos,k8];simp
   · rw[hck,hpos,k5,k6,k7,k8];rfl
end
end
end Go.Proofs.YtdmfnhbmhkgemaaGreat
namespace Go.Fw
section
variable {P:Program} {σ:Store}
theorem a_bq {n:Int}(h1:0≤n)(h2:n≤18446744073709551615) :IntKind.wrap .u64 n=n:=by
 simp only[IntKind.wrap,IntKind.signed,IntKind.bits];simp;omega
theorem a_e2 {x:Int}(h1:0≤x)(h2:x < 2 ^ 32) :((BitVec.toNat ((BitVec.ofInt 64 x) &&& (BitVec.ofInt 64 4294967295)) :Nat) :Int) =x:=by
 rw[BitVec.toNat_and,BitVec.toNat_ofInt,BitVec.toNat_ofInt]
 have e1:(x % ((2 ^ 64:Nat) :Int)).toNat=x.toNat:=by
   rw[Int.emod_eq_of_lt h1 (by omega)]
 have e2:((4294967295:Int) % ((2 ^ 64:Nat) :Int)).toNat=2 ^ 32 - 1:=by decide
 rw[e1,e2,Nat.and_two_pow_sub_one_eq_mod,Nat.mod_eq_of_lt (by omega)]
 omega
theorem o_q {x:Int}(h1:0≤x)(h2:x < 2 ^ 32) :Int.fdiv x (2 ^ 32) =0:=by
 rw[Int.fdiv_eq_ediv_of_nonneg _ (by omega)];omega
theorem set_set (i:Nat)(a b:SO) :(σ.set i a).set i b=σ.set i b:=by
 funext j
 by_cases h:j=i
 · subst h;rw[Store.set_same,Store.set_same]
 · rw[Store.set_ne _ _ h,Store.set_ne _ _ h,Store.set_ne _ _ h]
def y_a (t:TypeId)(n:Nat)(row:List D)(s:Store)(r:RV)(s':Store) :Prop:=
 ∃id,s id= .free∧r= .a (.one (.osl id 0 n))∧s'=s.set id (.live t (List.replicate n row))
theorem a_ur {row z:List D}{m k n:Nat}(h1:k≤m)(h2:m+k≤n) :
   (List.replicate m row ++ List.replicate (n - m) z).take m ++ (List.replicate m row).take k ++ (List.replicate m row ++ List.replicate (n - m) z).drop (m+k) =List.replicate (m+k) row ++ List.replicate (n - (m+k)) z:=by
 rw[List.take_left' (by simp),List.take_replicate,Nat.min_eq_left h1,List.replicate_append_replicate,List.drop_append,List.drop_eq_nil_iff.2 (by simp),List.nil_append,List.drop_replicate]
 congr 2;simp;omega
theorem a_wd {f:FuncId}{t:TypeId}{es bytes:Nat}{z row:List D}{x:D}{n:Nat}{Q:RV→Store→Prop}
   (hmul:∀s (a b:Int),0≤a→0≤b→a * b < 2 ^ 32→a < 2 ^ 32→b < 2 ^ 32→Pure P f [.one (.int .u64 a), .one (.int .u64 b)] s (.tup [.one (.int .u64 0), .one (.int .u64 (a * b))]))
   (hes:P.cellsOf t=es) (hx:At P σ t x [row]) (hn:n≤2 ^ 20) (hb:bytes≤2 ^ 20) (hQ:∀r s,y_a t n row σ r s→Q r s) :
   ∀R:Store→Prop,(∀σ':Store,(∃len:Nat,(Len x len)∧DCalls P f [.one (.int .u64 (IntKind.wrap .u64 (len:Int))), .one (.int .u64 (IntKind.wrap .u64 (n:Int)))] σ' (fun (r:RV)=>fun (σ'1:Store)=>∃n:Int,∃n1:Int,(r=(.tup [.one (.int .u64 n), .one (.int .u64 n1)]:RV))∧∀R1:Store→Prop,(∀σ'2:Store,(((0:Int)≤(w64 n1))∧((w64 n1)≤(w64 n1))∧(((bytes:Int) * (w64 n1))≤(2 ^ 48))∧Fw.newObj σ'2 (.live t (List.replicate (Int.toNat (w64 n1)) z)) (fun (id:Nat)=>fun (σ'3:Store)=>r_d P σ'3 t (.osl id 0 (Int.toNat (w64 n1))) x (fun (n2:Int)=>fun (σ'4:Store)=>∃I:Int→Store→Prop,∃μ:Int→Store→Nat,(I n2 σ'4)∧∀n3:Int,∀σ'5:Store,(I n3 σ'5)→∃len1:Nat,(Len (.osl id 0 (Int.toNat (w64 n1))) len1)∧a_b (decide (n3 < (len1:Int))) (∃len2:Nat,(IdxN P σ'5 (.osl id 0 (Int.toNat (w64 n1))) es len2)∧((0:Int)≤n3)∧(n3≤(len2:Int))∧∃len3:Nat,(IdxN P σ'5 (.osl id 0 (Int.toNat (w64 n1))) es len3)∧((0:Int)≤0)∧((0:Int)≤n3)∧(n3≤(len3:Int))∧r_d P σ'5 t (.osl id (0+ (Int.toNat n3)) (len2 - (Int.toNat n3))) (.osl id 0 ((Int.toNat n3) - 0)) (fun (n4:Int)=>fun (σ'6:Store)=>(I (w64 (n3+n4)) σ'6)∧((μ (w64 (n3+n4)) σ'6) < (μ n3 σ'5)))) (Q (.a (.one (.osl id 0 (Int.toNat (w64 n1))))) σ'5))))→R1 σ'2)→a_b (decide (n > 0)) False (a_b (decide (n1 > 9223372036854775807)) False (R1 σ'1))))→R σ')→a_b (decide ((n:Int) < 0)) False (R σ):=by
 intro R hR
 refine bcd (fun h=>absurd h (by omega)) (fun _=>hR σ (hx.lenK ?_))
 rw[a_bq (by simp) (by simp),a_bq (by omega) (by omega)]
 have hw:w64 (((1:Nat) :Int) * n) =n:=by rw[a_w (by omega) (by omega)];omega
 refine (hmul σ _ _ (by simp) (by omega) (by simp;omega) (by simp) (by omega)).use ⟨0,_,rfl,fun R1 hR1=>bcd (fun h=>absurd h (by decide)) (fun _=>bcd (fun h=>absurd h (by simp;omega)) (fun _=>hR1 σ ?_))⟩
 show 0≤w64 (((1:Nat) :Int) * n)∧_
 simp only[List.length_singleton,hw,Int.toNat_natCast]
 refine ⟨by omega,Int.le_refl _,?_,fun id hid=>?_⟩
 · have:bytes * n≤2 ^ 20 * 2 ^ 20:=Nat.mul_le_mul hb hn
   have h2:((bytes * n:Nat) :Int)≤2 ^ 48:=by omega
   rw[Int.natCast_mul] at h2;exact h2
 have hidx:∀(s:Store) (rows:List (List D)),s id= .live t rows→rows.length=n→IdxN P s (.osl id 0 n) es n:=fun s rows h1 h2=> .inl ⟨by omega,t,rows,h1,hes⟩
 have hxr:Rows P (σ.set id (.live t (List.replicate n z))) t x [row]:=(hx.ext (Ext.new hid _)).rows
 have hdr:∀(s:Store) (rows:List (List D)) (i len:Nat),s id= .live t rows→i+len≤rows.length→Rows P s t (.osl id i len) ((rows.drop i).take len):=fun s rows i len h1 h2=>⟨t,rows,h1,rfl,h2,rfl⟩
 refine ⟨_,_,hdr _ _ 0 n (Store.set_same _ _ _) (by simp),hxr,?_⟩
 have hmin:min [row].length ((List.replicate n z).drop 0 |>.take n).length=min 1 n:=by simp
 have hminI:min (([row].length:Nat) :Int) ((((List.replicate n z).drop 0 |>.take n).length:Nat) :Int) =((min 1 n:Nat) :Int):=by rw[←hmin];omega
 rw[hmin,hminI]
 have hloop:∀(m:Nat) (s:Store),m≤n→(0 < n→0 < m)→s=σ.set id (.live t (List.replicate m row ++ List.replicate (n - m) z))→∃I:Int→Store→Prop,∃μ:Int→Store→Nat,(I m s)∧∀n3:Int,∀σ'5:Store,(I n3 σ'5)→∃len1:Nat,(Len (.osl id 0 n) len1)∧a_b (decide (n3 < (len1:Int))) (∃len2:Nat,(IdxN P σ'5 (.osl id 0 n) es len2)∧((0:Int)≤n3)∧(n3≤(len2:Int))∧∃len3:Nat,(IdxN P σ'5 (.osl id 0 n) es len3)∧((0:Int)≤0)∧((0:Int)≤n3)∧(n3≤(len3:Int))∧r_d P σ'5 t (.osl id (0+ (Int.toNat n3)) (len2 - (Int.toNat n3))) (.osl id 0 ((Int.toNat n3) - 0)) (fun (n4:Int)=>fun (σ'6:Store)=>(I (w64 (n3+n4)) σ'6)∧((μ (w64 (n3+n4)) σ'6) < (μ n3 σ'5)))) (Q (.a (.one (.osl id 0 n))) σ'5):=by
   intro m0 s0 hm0 hm0' hs0
   refine ⟨fun n3 s=>∃m:Nat,n3=m∧m≤n∧(0 < n→0 < m)∧s=σ.set id (.live t (List.replicate m row ++ List.replicate (n - m) z)),fun n3 _=>n - n3.toNat,⟨m0,rfl,hm0,hm0',hs0⟩,?_⟩
   rintro _ s ⟨m,rfl,hm,hm',rfl⟩
   refine ⟨n,rfl,bcd (fun hlt=>?_) (fun hge=>?_)⟩
   · have hl:(List.replicate m row ++ List.replicate (n - m) z).length=n:=by simp;omega
     refine ⟨n,hidx _ _ (Store.set_same _ _ _) hl,by omega,by omega,n,hidx _ _ (Store.set_same _ _ _) hl,by omega,by omega,by omega,?_⟩
     rw[Int.toNat_natCast,Nat.zero_add,Nat.sub_zero]
     refine ⟨_,_,hdr _ _ m (n - m) (Store.set_same _ _ _) (by rw[hl];omega),hdr _ _ 0 m (Store.set_same _ _ _) (by rw[hl];omega), .inr ⟨id,m,n - m,t,_,rfl,Store.set_same _ _ _,?_⟩⟩
     have e1:((List.replicate m row ++ List.replicate (n - m) z).drop 0).take m=List.replicate m row:=by
       rw[List.drop_zero,List.take_left' (by simp)]
     have e2:min (((List.replicate m row ++ List.replicate (n - m) z).drop 0).take m).length (((List.replicate m row ++ List.replicate (n - m) z).drop m).take (n - m)).length=min m (n - m):=by
       rw[e1,List.length_take,List.length_drop,hl];simp
     have e3:min (((((List.replicate m row ++ List.replicate (n - m) z).drop 0).take m).length:Nat) :Int) (((((List.replicate m row ++ List.replicate (n - m) z).drop m).take (n - m)).length:Nat) :Int) =((min m (n - m) :Nat) :Int):=by
       rw[←e2];omega
     rw[e3,e2,e1,a_ur (by omega) (by omega),set_set]
     have hk:0 < min m (n - m):=by have:=hm' (by omega);omega
     have hw2:w64 ((m:Int) + ((min m (n - m) :Nat) :Int)) =((m+min m (n - m) :Nat) :Int):=by rw[a_w (by omega) (by omega)];omega
     show (∃m':Nat,w64 ((m:Int) + ((min m (n - m) :Nat) :Int)) =m'∧_)∧_
     rw[hw2]
     refine ⟨⟨m+min m (n - m),rfl,by omega,fun _=>by omega,rfl⟩,?_⟩
     show n - ((m+min m (n - m) :Nat) :Int).toNat < n - ((m:Nat) :Int).toNat
     omega
   · have e:m=n:=by omega
     subst e
     refine hQ _ _ ⟨id,hid,rfl,?_⟩
     rw[Nat.sub_self,List.replicate_zero,List.append_nil]
 by_cases h0:n=0
 · subst h0
   exact .inl ⟨rfl,hloop 0 _ (by omega) (by omega) rfl⟩
 · refine .inr ⟨id,0,n,t,_,rfl,Store.set_same _ _ _,?_⟩
   have e1:min 1 n=1:=by omega
   rw[e1,set_set]
   refine hloop 1 _ (by omega) (by omega) ?_
   congr 2
   rw[List.drop_replicate];simp
end
end Go.Fw
namespace Go.Proofs.YtdmfnhbmhkgemaaGreat
open Go.Fw Go.Proofs Go.RowKit
open Go.Proofs.Tryz (prog)
section
variable {σ:Store}
theorem a_uu (x y:Int)(hx0:0≤x)(hy0:0≤y)(hxy:x * y < 2 ^ 32)(hx:x < 2 ^ 32)(hy:y < 2 ^ 32) :Pure prog h_s [.one (.int .u64 x), .one (.int .u64 y)] σ (.tup [.one (.int .u64 0), .one (.int .u64 (x * y))]):=by
 have h0:0≤x * y:=Int.mul_nonneg hx0 hy0
 refine x_z x y σ _ ?_
 unfold l_1
 have z0:IntKind.wrap .u64 0=0:=a_bq (by omega) (by omega)
 have m0:=a_e2 (x:=0) (by omega) (by omega)
 have f0:=o_q (x:=0) (by omega) (by omega)
 rw[a_e2 hx0 hx,a_e2 hy0 hy,o_q hx0 hx,o_q hy0 hy,a_bq (n:=x) hx0 (by omega),a_bq (n:=y) hy0 (by omega),a_bq (n:=x * y) h0 (by omega),o_q h0 hxy]
 simp only[Int.zero_mul,Int.mul_zero,Int.add_zero,Int.zero_add,z0,m0,f0]
 exact ⟨trivial,trivial⟩
theorem a_wv (s:Store)(x y:Int)(hx0:0≤x)(hy0:0≤y)(hxy:x * y < 2 ^ 32)(hx:x < 2 ^ 32)(hy:y < 2 ^ 32) :Pure prog g_x [.one (.int .u64 x), .one (.int .u64 y)] s (.tup [.one (.int .u64 0), .one (.int .u64 (x * y))]):=
 a_cu x y s _ ((a_uu x y hx0 hy0 hxy hx hy).use ⟨_,_,rfl,rfl,rfl⟩)
theorem a_jq {x:D}{row:List D}{n:Nat}(hx:At prog σ a_i x [row])(hn:n≤2 ^ 20) :DCalls prog g_b [.one x,iA n] σ (y_a a_i n row σ):=
 t_j x n σ _ (a_wd (bytes:=8) a_wv c_int hx hn (by omega) fun _ _ h=>h)
theorem a_c7 {x:D}{row:List D}{n:Nat}(hx:At prog σ b_d x [row])(hn:n≤2 ^ 20) :DCalls prog f_f [.one x,iA n] σ (y_a b_d n row σ):=
 q_e x n σ _ (a_wd (bytes:=16) a_wv c_l hx hn (by omega) fun _ _ h=>h)
theorem a_v9 (now:Int) :Pure prog m_o [iA now] σ (.a (.agg [iD 0,iD now])):=a_ig now σ _ ⟨rfl,rfl⟩
theorem a_j3 {n:Nat}(hn:n≤2 ^ 40) :DCalls prog g_j [.one .nils,iA n] σ fun r s=>∃d,r= .a (.one d)∧Own prog σ s b_d d []:=by
 refine u_j n σ _ (bcd (fun h=>absurd h (by omega)) (fun _=>⟨0,rfl,?_⟩))
 have hw:w64 ((n:Int) - w64 (0 - ((0:Nat) :Int))) =n:=by
   have:w64 (0 - ((0:Nat) :Int)) =0:=by decide
   rw[this,a_w (by omega) (by omega)];omega
 rw[hw]
 refine bcd (fun h=>⟨0, .inr ⟨rfl, .inl rfl⟩,by omega,by omega,by omega,by omega,by omega,bcd (fun h0=>absurd h0 (by omega)) (fun _=>a_d fun id s hid _ he hs=>?_)⟩) (fun h=>⟨_,rfl, .nil _ (.refl _)⟩)
 refine ⟨0,rfl,n, .inl ⟨by simp,_,_,hs,c_l⟩,by omega,by omega,by omega,_,rfl,?_⟩
 exact ⟨⟨⟨_,_,hs,rfl,by simp,by simp⟩,by simp,fun es rows e=>by cases e⟩,he,y_g hid,fun h=>h,by intro e;cases e⟩
theorem a_da {d a b:D}{ra rb:List (List D)}(hd:At prog σ o_w d [[a],[b]])(ha:At prog σ b_d a ra)(hb:At prog σ b_d b rb)(hla:ra.length≤2 ^ 20)(hlb:rb.length≤2 ^ 20) :
   DCalls prog f_k [.one d] σ fun r s=>∃d,r= .a (.one d)∧Own prog σ s b_d d (ra ++ rb):=by
 let L:List (D × List (List D)):= [(a,ra),(b,rb)]
 have hL:∀p ∈ L,At prog σ b_d p.1 p.2:=fun p hp=>by
   rcases List.mem_cons.1 hp with rfl | hp
   · exact ha
   · rcases List.mem_cons.1 hp with rfl | hp
     · exact hb
     · cases hp
 have hdL:At prog σ o_w d (L.map fun p=> [p.1]):=hd
 have hl:L.length < 2 ^ 60:=by show 2 < 2 ^ 60;omega
 refine q_a d σ _ (hdL.lenK ⟨fun m n s=>s=σ∧0≤m∧Rng L (fun r=>m+ ((r.map fun p=>p.2.length).sum:Nat) =((ra.length+rb.length:Nat) :Int)) n,fun _ n _=>L.length - n.toNat,⟨rfl,by omega, .start (by simp[L])⟩,?_⟩)
 rintro m n s ⟨rfl,hm,hr⟩
 refine bcd (fun hlt=>?_) (fun hge=>?_)
 · obtain ⟨j,x,rfl,hx,hj,hF,nx⟩:=hr.step (by simp) hl hlt
   refine hdL.load (a_c hx) a_e6 rfl ⟨x.1,rfl,(hL x (List.mem_of_getElem? hx)).lenK ?_⟩
   simp only[List.map_cons,List.sum_cons] at hF
   have hw:w64 (m+ (x.2.length:Int)) =m+x.2.length:=a_w (by omega) (by omega)
   rw[hw]
   refine bcd (fun h=>absurd h (by omega)) (fun _=>?_)
   have hn:=nx (fun r=>m+x.2.length+ ((r.map fun p=>p.2.length).sum:Nat) =((ra.length+rb.length:Nat) :Int)) (by omega)
   exact ⟨⟨rfl,by omega,hn.1⟩,hn.2⟩
 · have hF:=hr.done (by simp) hge
   simp only[List.map_nil,List.sum_nil] at hF
   have hmn:m=((ra.length+rb.length:Nat) :Int):=by omega
   subst hmn
   refine (a_j3 (by omega)).mono ?_
   rintro r s1 ⟨d1,rfl,ho⟩
   refine ⟨d1,rfl,hdL.lenK ⟨fun d2 n s2=>∃out,Own prog s s2 b_d d2 out∧Rng L (fun q=>out ++ (q.map fun p=>p.2).flatten=ra ++ rb) n,fun _ n _=>L.length - n.toNat,⟨[],ho, .start (by simp[L])⟩,?_⟩⟩
   rintro d2 n s2 ⟨out,ho2,hr2⟩
   refine bcd (fun hlt=>?_) (fun hge=>?_)
   · obtain ⟨j,x,rfl,hx,hj,hF2,nx⟩:=hr2.step (by simp) hl hlt
     refine (hdL.ext ho2.ext).load (a_c hx) a_e6 rfl ⟨x.1,rfl,?_⟩
     have hxa:=(hL x (List.mem_of_getElem? hx)).ext ho2.ext
     simp only[List.map_cons,List.flatten_cons] at hF2
     have hlen:=congrArg List.length hF2
     simp only[List.length_append] at hlen
     refine ho2.append hxa (by omega) (by omega) fun d3 s3 ho3 _ _=>?_
     have hn:=nx (fun q=>out ++ x.2 ++ (q.map fun p=>p.2).flatten=ra ++ rb) (by rw[List.append_assoc];exact hF2)
     exact ⟨⟨_,ho3,hn.1⟩,hn.2⟩
   · have hF2:=hr2.done (by simp) hge
     simp only[List.map_nil,List.flatten_nil,List.append_nil] at hF2
     exact ⟨_,rfl,hF2 ▸ ho2⟩
theorem b_u (n lo hi:Int) :Pure prog b_k [iA n,iA lo,iA hi] σ (.a (bA (decide (lo≤n∧n≤hi)))):=by
 refine a_c3 n lo hi σ _ (bcd (fun h=>⟨?_,rfl⟩) (fun h=>⟨?_,rfl⟩)) <;> simp[h]
theorem e_t {d:D}{l:List Int}(b:Int)(hb:0≤b∧b≤1)(h:At prog σ a_i d (l.map Go.Fw.encI)) :Pure prog d_m [iA b, .one d] σ (.a (bA (l.all fun n=>decide (0≤n∧n≤4294967295+b)))):=by
 have hl:=h.size
 rw[List.length_map] at hl
 refine a_jv b d σ _ (h.lenK ⟨fun n s=>s=σ∧Rng l (fun r=>(r.all fun n=>decide (0≤n∧n≤4294967295+b)) =l.all fun n=>decide (0≤n∧n≤4294967295+b)) n,fun n _=>l.length - n.toNat,⟨rfl, .start rfl⟩,?_⟩)
 rintro n τ ⟨rfl,hr⟩
 refine bcd (fun hlt=>?_) (fun hge=>?_)
 · obtain ⟨j,x,rfl,hx,hj,hF,nx⟩:=hr.step (by simp) hl hlt
   rw[List.all_cons] at hF
   have hw:w64 (4294967295+b) =4294967295+b:=a_w (by omega) (by omega)
   refine h.load (a_c hx) c_int rfl ⟨x,rfl,(b_u _ _ _).use ⟨_,rfl,?_⟩⟩
   rw[hw]
   refine a_p (fun h1=>?_) (fun h1=>?_)
   · rw[h1] at hF;exact ⟨by rw[←hF];rfl,rfl⟩
   · rw[h1,Bool.true_and] at hF;exact c_6 rfl (nx _ hF)
 · have hF:=hr.done (by simp) hge
   exact ⟨by rw[←hF];rfl,rfl⟩
end
end Go.Proofs.YtdmfnhbmhkgemaaGreat
namespace Go.Fw
section
structure Rs where
 State:Int
 Since:Int
 Next:Int
 Mark:Int
 deriving DecidableEq
structure Mv where
 Cmd:Int
 Other:Int
 deriving DecidableEq
structure Ls where
 Ask:Int
 Done:Int
 Grant:Int
 Told:Int
 PAsk:Int
 PDone:Int
 PGrant:Int
 Since:Int
 deriving DecidableEq
structure Co where
 Own:List Int
 Routes:List Rs
 Points:List Mv
 Xs:List Mv
 Lines:List Ls
 Resets:List Int
 Dirty:Bool
 deriving DecidableEq
def Rs.enc (r:Rs) :List D:= [iD r.State,iD r.Since,iD r.Next,iD r.Mark]
def Mv.enc (r:Mv) :List D:= [iD r.Cmd,iD r.Other]
def Ls.enc (r:Ls) :List D:= [iD r.Ask,iD r.Done,iD r.Grant,iD r.Told,iD r.PAsk,iD r.PDone,iD r.PGrant,iD r.Since]
def tm (b n:Int) :Bool:=decide (0≤n∧n≤4294967295+b)
def Rs.fits (p:Rs × Rt) :Bool:=decide (0≤p.1.State∧p.1.State≤5) && decide (0≤p.1.Next∧p.1.Next≤p.2.Path.length) && (tm 0 p.1.Since && tm 0 p.1.Mark)
def Mv.fits (m:Mv) :Bool:=decide (0≤m.Cmd∧m.Cmd≤2) && decide (-1≤m.Other∧m.Other≤4294967295)
def Ls.fits (l:Ls) :Bool:=(tm 0 l.Ask && (tm 0 l.Done && (tm 0 l.Grant && (tm 0 l.Told && (tm 0 l.PAsk && (tm 0 l.PDone && tm 0 l.PGrant)))))) && tm 1 l.Since
def Co.lens (c:Cf)(k:Co) :Bool:=decide (k.Own.length=c.Secs.length∧k.Points.length=c.Secs.length∧k.Resets.length=c.Secs.length∧k.Routes.length=c.Rts.length∧k.Xs.length=c.Xs.length∧k.Lines.length=4)
def Co.parts (c:Cf)(k:Co) :Bool:=
 (k.Own.all fun o=>decide (-2≤o∧o≤c.Rts.length)) && ((k.Routes.zip c.Rts).all Rs.fits && ((k.Points ++ k.Xs).all Mv.fits && (k.Lines.all Ls.fits && k.Resets.all (tm 1))))
def Co.fits (c:Cf)(k:Co) :Bool:=decide (c.check=0) && (k.lens c && k.parts c)
theorem a_y {c:Cf}(h:c.check=0) :b_q c.Secs c.Jts=true∧c.Secs.length≤16∧c.Rts.length≤12∧c.Xs.length≤4∧c.Sigs.length≤12∧c.Jts.length≤24:=by
 unfold Cf.check at h
 split at h
 · cases h
 split at h
 · cases h
 split at h
 · cases h
 split at h
 · cases h
 rename_i h1 h2 h3 h4
 simp only[Bool.not_eq_false] at h1 h2 h3
 simp only[Cf.sigsOk,Cf.xsOk,Bool.and_eq_true,decide_eq_true_eq,b_q] at h1 h2 h3
 exact ⟨by simp only[b_q,Bool.and_eq_true,decide_eq_true_eq];exact h1,h1.1.2.1,by omega,h3.2,h2.2,h1.1.2.2⟩
end
end Go.Fw
namespace Go.Proofs.YtdmfnhbmhkgemaaGreat
open Go.Fw Go.Proofs Go.RowKit
open Go.Proofs.Tryz (prog)
section
variable {σ:Store}
theorem y_3 {t:TypeId}{bytes:Nat}{d:D}{rows:List (List D)}{Q:RV→Store→Prop}(h:At prog σ t d rows)(hz:d≠ .zsl)(hb:bytes * rows.length≤140737488355328)
   (hQ:∀d' s,Own prog σ s t d' rows→Q (.a (.one d')) s) :
   ∃b:Bool,(i_d .sl d b)∧a_b (b != false) (Q (.a (.one .nils)) σ) (Fw.newObj σ (.live t []) (fun (id:Nat)=>fun (σ':Store)=>a_v prog σ' t bytes (.osl id 0 0) d (fun (d:D)=>fun (σ'1:Store)=>Q (.a (.one d)) σ'1))):=by
 have new:∀b:Bool,b=false→a_b (b != false) (Q (.a (.one .nils)) σ) (Fw.newObj σ (.live t []) (fun (id:Nat)=>fun (σ':Store)=>a_v prog σ' t bytes (.osl id 0 0) d (fun (d:D)=>fun (σ'1:Store)=>Q (.a (.one d)) σ'1))):=by
   rintro b rfl
   rw[show (false != false) =false from by decide]
   refine (a_d (K:=fun id σ'=>a_v prog σ' t bytes (.osl id 0 0) d fun d σ'1=>Q (.a (.one d)) σ'1) ?_:Fw.newObj σ (.live t []) _)
   refine fun id s hid _ he hs=>?_
   have ho:Own prog σ s t (.osl id 0 0) []:=⟨At.fresh hs (by simp) rfl,he,y_g hid,fun h=>h,by intro e;cases e⟩
   exact ho.append (h.ext he) (by simpa using hb) (by have:=h.size;simpa using this) fun d' s' ho' _ _=>hQ _ _ (by simpa using ho')
 have hr:=h.rows
 cases d <;> simp only[Go.Fw.Rows] at hr <;> try exact hr.elim
 · subst hr;exact ⟨true,rfl,hQ _ _ (.nil _ (.refl _))⟩
 · exact absurd rfl hz
 · exact ⟨false,rfl,new _ rfl⟩
 · exact ⟨false,rfl,new _ rfl⟩
theorem d_6 {d:D}{rows:List (List D)}(h:At prog σ a_i d rows)(hz:d≠ .zsl)(hb:8 * rows.length≤140737488355328) :DCalls prog b_a [.one d] σ fun r s=>∃d',r= .a (.one d')∧Own prog σ s a_i d' rows:=
 w_p d σ _ (y_3 (Q:=fun r s=>∃d',r= .a (.one d')∧Own prog σ s _ d' rows) h hz hb fun d' s ho=>⟨d',rfl,ho⟩)
theorem g_g {d:D}{rows:List (List D)}(h:At prog σ c_q d rows)(hz:d≠ .zsl)(hb:32 * rows.length≤140737488355328) :DCalls prog b_1 [.one d] σ fun r s=>∃d',r= .a (.one d')∧Own prog σ s c_q d' rows:=
 l_p d σ _ (y_3 (Q:=fun r s=>∃d',r= .a (.one d')∧Own prog σ s _ d' rows) h hz hb fun d' s ho=>⟨d',rfl,ho⟩)
theorem e_n {d:D}{rows:List (List D)}(h:At prog σ b_d d rows)(hz:d≠ .zsl)(hb:16 * rows.length≤140737488355328) :DCalls prog b_h [.one d] σ fun r s=>∃d',r= .a (.one d')∧Own prog σ s b_d d' rows:=
 r_q d σ _ (y_3 (Q:=fun r s=>∃d',r= .a (.one d')∧Own prog σ s _ d' rows) h hz hb fun d' s ho=>⟨d',rfl,ho⟩)
theorem g_1 {d:D}{rows:List (List D)}(h:At prog σ d_l d rows)(hz:d≠ .zsl)(hb:64 * rows.length≤140737488355328) :DCalls prog c_d [.one d] σ fun r s=>∃d',r= .a (.one d')∧Own prog σ s d_l d' rows:=
 m_w d σ _ (y_3 (Q:=fun r s=>∃d',r= .a (.one d')∧Own prog σ s _ d' rows) h hz hb fun d' s ho=>⟨d',rfl,ho⟩)
structure CoAt (σ:Store) (k0 k1 k2 k3 k4 k5:D) (k:Co) :Prop where
 own:At prog σ a_i k0 (k.Own.map Go.Fw.encI)
 routes:At prog σ c_q k1 (k.Routes.map Rs.enc)
 points:At prog σ b_d k2 (k.Points.map Mv.enc)
 xs:At prog σ b_d k3 (k.Xs.map Mv.enc)
 lines:At prog σ d_l k4 (k.Lines.map Ls.enc)
 resets:At prog σ a_i k5 (k.Resets.map Go.Fw.encI)
theorem CoAt.ext {σ':Store}{k0 k1 k2 k3 k4 k5:D}{k:Co}(h:CoAt σ k0 k1 k2 k3 k4 k5 k)(he:Ext σ σ') :CoAt σ' k0 k1 k2 k3 k4 k5 k:=
 ⟨h.own.ext he,h.routes.ext he,h.points.ext he,h.xs.ext he,h.lines.ext he,h.resets.ext he⟩
abbrev coA (k0 k1 k2 k3 k4 k5:D)(b:Bool) :A:= .agg [k0,k1,k2,k3,k4,k5, .bool b]
theorem f_a {c0 c1 c2 c3 c4:D}{c:Cf}(h:∀s,CfAt s c0 c1 c2 c3 c4 c){k0 k1 k2 k3 k4 k5:D}{k:Co}(hk:CoAt σ k0 k1 k2 k3 k4 k5 k) :
   Pure prog d_8 [cfA c0 c1 c2 c3 c4 c,coA k0 k1 k2 k3 k4 k5 k.Dirty] σ (.a (bA (k.fits c))):=by
 have ls:=(h σ).secs.size
 have lx:=(h σ).xs.size
 have l0:=hk.own.size
 have l1:=hk.routes.size
 have l2:=hk.points.size
 have l3:=hk.xs.size
 have l4:=hk.lines.size
 have l5:=hk.resets.size
 simp only[List.length_map] at ls lx l0 l1 l2 l3 l4 l5
 refine .of (a_k4 _ _ _ _ _ _ _ _ _ k0 k1 k2 k3 k4 k5 k.Dirty σ _ ((h σ).secs.lenK fun R hR=>(a_im h).use ⟨_,rfl,?_⟩)) (l_e _)
 obtain ⟨rows,hat,hlen,hrow⟩:=g_m fun s=>(h s).rts
 have hl:=(hat σ).size
 have bad:k.lens c=false→∀s,Ext σ s→(RV.a (.one (.bool false)) = .a (bA (k.fits c))∧Ext σ s):=fun hb s he=>⟨by simp[Co.fits,hb],he⟩
 have nl:∀p:Prop,¬(k.Own.length=c.Secs.length∧k.Points.length=c.Secs.length∧k.Resets.length=c.Secs.length∧k.Routes.length=c.Rts.length∧k.Xs.length=c.Xs.length∧k.Lines.length=4)→k.lens c=false:=fun p hn=>by
   rw[Co.lens,decide_eq_false hn]
 refine bcn (fun hc=>⟨by simp[Co.fits,hc], .refl _⟩) (fun hc=>?_)
 simp only[List.length_map]
 refine hk.own.lenK (bcn (fun e=>bad (nl True fun g=>by simp only[List.length_map] at e;omega) _ (.refl _)) (fun e0=>?_))
 refine hk.points.lenK (bcn (fun e=>bad (nl True fun g=>by simp only[List.length_map] at e;omega) _ (.refl _)) (fun e1=>?_))
 refine hk.resets.lenK (bcn (fun e=>bad (nl True fun g=>by simp only[List.length_map] at e;omega) _ (.refl _)) (fun e2=>?_))
 refine hk.routes.lenK ((hat σ).lenK (bcn (fun e=>bad (nl True fun g=>by simp only[List.length_map] at e;omega) _ (.refl _)) (fun e3=>?_)))
 refine hk.xs.lenK ((h σ).xs.lenK (bcn (fun e=>bad (nl True fun g=>by simp only[List.length_map] at e;omega) _ (.refl _)) (fun e4=>?_)))
 refine hk.lines.lenK (bcn (fun e=>bad (nl True fun g=>by simp only[List.length_map] at e;omega) _ (.refl _)) (fun e5=>hR σ ?_))
 simp only[List.length_map] at e0 e1 e2 e3 e4 e5
 have hL:k.lens c=true:=decide_eq_true ⟨by omega,by omega,by omega,by omega,by omega,by omega⟩
 have hfit:k.fits c=k.parts c:=by simp[Co.fits,hc,hL]
 rw[hfit]
 obtain ⟨_,s1,s2,s3,_,_⟩:=a_y hc
 clear bad nl hfit hL hR
 unfold Co.parts
 refine hk.own.lenK ⟨fun n s=>s=σ∧Rng k.Own (fun r=>(r.all fun o=>decide (-2≤o∧o≤(c.Rts.length:Int))) =k.Own.all fun o=>decide (-2≤o∧o≤(c.Rts.length:Int))) n,fun n _=>k.Own.length - n.toNat,⟨rfl, .start rfl⟩,?_⟩
 rintro n τ ⟨rfl,hr⟩
 refine bcd (fun hlt=>?_) (fun hge=>?_)
 · obtain ⟨j,x,rfl,hx,hj,hF,nx⟩:=hr.step (by simp) l0 hlt
   rw[List.all_cons] at hF
   refine hk.own.load (a_c hx) c_int rfl ⟨x,rfl,(hat τ).lenK ((b_u _ _ _).use ⟨_,rfl,?_⟩)⟩
   rw[hlen]
   refine a_p (fun h1=>?_) (fun h1=>?_)
   · rw[h1] at hF;exact ⟨by rw[←hF];rfl, .refl _⟩
   · rw[h1,Bool.true_and] at hF;exact c_6 rfl (nx _ hF)
 have hF0:=hr.done (by simp) hge
 rw[←hF0]
 show (∃len2:Nat,_)
 simp only[List.all_nil,Bool.true_and]
 clear hF0 hr hge
 have lz:(k.Routes.zip c.Rts).length=k.Routes.length:=by rw[List.length_zip];omega
 refine hk.routes.lenK ⟨fun n s=>Ext τ s∧Rng (k.Routes.zip c.Rts) (fun r=>r.all Rs.fits=(k.Routes.zip c.Rts).all Rs.fits) n,fun n _=>(k.Routes.zip c.Rts).length - n.toNat,⟨.refl _, .start rfl⟩,?_⟩
 rintro n s ⟨he,hr⟩
 refine bcd (fun hlt=>?_) (fun hge=>?_)
 · obtain ⟨j,x,rfl,hx,hj,hF,nx⟩:=hr.step (by rw[List.length_map,lz]) (by omega) hlt
   obtain ⟨g1,g2⟩:=List.getElem?_zip_eq_some.1 hx
   rw[List.all_cons] at hF
   refine (hk.ext he).routes.load (a_c g1) a_x rfl ⟨x.1.State,x.1.Since,x.1.Next,x.1.Mark,rfl,(b_u _ _ _).use ⟨_,rfl,?_⟩⟩
   have bad:Rs.fits x=false→∀s',Ext τ s'→(RV.a (.one (.bool false)) = .a (bA ((k.Routes.zip c.Rts).all Rs.fits && ((k.Points ++ k.Xs).all Mv.fits && (k.Lines.all Ls.fits && k.Resets.all (tm 1)))))∧Ext τ s'):=fun hb s' he'=>by
     rw[hb,Bool.false_and] at hF
     exact ⟨by rw[←hF];rfl,he'⟩
   refine a_p (fun h1=>bad (by unfold Rs.fits;rw[h1];rfl) _ he) (fun h1=>?_)
   obtain ⟨row,hrw⟩:=a_g (l:=rows) (j:=j) (by rw[lz] at hj;omega)
   obtain ⟨d1,d2,d3,rfl,q1,q2,q3⟩:=hrow j row x.2 hrw g2
   refine (hat s).load hrw c_p rfl ⟨d1,rfl,(q1 s).lenK ((b_u _ _ _).use ⟨_,rfl,?_⟩)⟩
   rw[List.length_map]
   refine a_p (fun h2=>bad (by unfold Rs.fits;rw[h1,h2];rfl) _ he) (fun h2=>?_)
   refine a_d fun id s2 hid _ he2 hs2=>?_
   refine (e_t (l:= [x.1.Since,x.1.Mark]) 0 (by omega) (At.fresh hs2 (by simp) rfl)).use ⟨_,rfl,?_⟩
   have e3:([x.1.Since,x.1.Mark].all fun n=>decide (0≤n∧n≤4294967295+ (0:Int))) =(tm 0 x.1.Since && tm 0 x.1.Mark):=by simp[tm]
   rw[e3]
   refine a_p (fun h3=>bad (by unfold Rs.fits;rw[h1,h2,h3];rfl) _ (he.trans he2)) (fun h3=>?_)
   have hx:Rs.fits x=true:=by unfold Rs.fits;rw[h1,h2,h3];rfl
   rw[hx,Bool.true_and] at hF
   have hn:=nx (fun r=>r.all Rs.fits=(k.Routes.zip c.Rts).all Rs.fits) hF
   exact ⟨⟨he.trans he2,hn.1⟩,hn.2⟩
 have hF0:=hr.done (by rw[List.length_map,lz]) hge
 rw[←hF0]
 simp only[List.all_nil,Bool.true_and]
 clear hF0 hr hge
 refine a_d fun id s2 hid _ he2 hs2=>?_
 have het:=he.trans he2
 have hkt:=hk.ext het
 refine (a_da (a:=k2) (b:=k3) (At.fresh hs2 (by simp) rfl) hkt.points hkt.xs (by rw[List.length_map];omega) (by rw[List.length_map];omega)).mono ?_
 rintro r s3 ⟨d,rfl,ho⟩
 rw[←List.map_append] at ho
 have he3:=het.trans ho.ext
 have lm:(k.Points ++ k.Xs).length < 2 ^ 60:=by rw[List.length_append];omega
 refine ⟨d,rfl,ho.at_.lenK ⟨fun n s=>s=s3∧Rng (k.Points ++ k.Xs) (fun r=>r.all Mv.fits=(k.Points ++ k.Xs).all Mv.fits) n,fun n _=>(k.Points ++ k.Xs).length - n.toNat,⟨rfl, .start rfl⟩,?_⟩⟩
 rintro n s4 ⟨rfl,hr⟩
 refine bcd (fun hlt=>?_) (fun hge=>?_)
 · obtain ⟨j,x,rfl,hx,hj,hF,nx⟩:=hr.step (by simp) lm hlt
   rw[List.all_cons] at hF
   refine ho.at_.load (a_c hx) c_l rfl ⟨x.Cmd,x.Other,rfl,(b_u _ _ _).use ⟨_,rfl,a_p (fun h1=>?_) (fun h1=>(b_u _ _ _).use ⟨_,rfl,a_p (fun h2=>?_) (fun h2=>?_)⟩)⟩⟩
   · have:x.fits=false:=by unfold Mv.fits;rw[h1];rfl
     rw[this,Bool.false_and] at hF;exact ⟨by rw[←hF];rfl,he3⟩
   · have:x.fits=false:=by unfold Mv.fits;rw[h1,h2];rfl
     rw[this,Bool.false_and] at hF;exact ⟨by rw[←hF];rfl,he3⟩
   · have:x.fits=true:=by unfold Mv.fits;rw[h1,h2];rfl
     rw[this,Bool.true_and] at hF;exact c_6 rfl (nx _ hF)
 have hF0:=hr.done (by simp) hge
 rw[←hF0]
 simp only[List.all_nil,Bool.true_and]
 clear hF0 hr hge
 refine hk.lines.lenK ⟨fun n s=>Ext τ s∧Rng k.Lines (fun r=>r.all Ls.fits=k.Lines.all Ls.fits) n,fun n _=>k.Lines.length - n.toNat,⟨he3, .start rfl⟩,?_⟩
 rintro n s5 ⟨he5,hr⟩
 refine bcd (fun hlt=>?_) (fun hge=>?_)
 · obtain ⟨j,x,rfl,hx,hj,hF,nx⟩:=hr.step (by simp) l4 hlt
   rw[List.all_cons] at hF
   refine (hk.ext he5).lines.load (a_c hx) b_8 rfl ⟨x.Ask,x.Done,x.Grant,x.Told,x.PAsk,x.PDone,x.PGrant,x.Since,rfl,a_d fun id1 s6 hid1 _ he6 hs6=>?_⟩
   have bad:Ls.fits x=false→∀s',Ext τ s'→(RV.a (.one (.bool false)) = .a (bA (k.Lines.all Ls.fits && k.Resets.all (tm 1)))∧Ext τ s'):=fun hb s' he'=>by
     rw[hb,Bool.false_and] at hF
     exact ⟨by rw[←hF];rfl,he'⟩
   refine (e_t (l:= [x.Ask,x.Done,x.Grant,x.Told,x.PAsk,x.PDone,x.PGrant]) 0 (by omega) (At.fresh hs6 (by simp) rfl)).use ⟨_,rfl,?_⟩
   have e3:([x.Ask,x.Done,x.Grant,x.Told,x.PAsk,x.PDone,x.PGrant].all fun n=>decide (0≤n∧n≤4294967295+ (0:Int))) =(tm 0 x.Ask && (tm 0 x.Done && (tm 0 x.Grant && (tm 0 x.Told && (tm 0 x.PAsk && (tm 0 x.PDone && tm 0 x.PGrant)))))):=by simp[tm]
   rw[e3]
   refine a_p (fun h1=>bad (by unfold Ls.fits;rw[h1];rfl) _ (he5.trans he6)) (fun h1=>a_d fun id2 s7 hid2 _ he7 hs7=>?_)
   refine (e_t (l:= [x.Since]) 1 (by omega) (At.fresh hs7 (by simp) rfl)).use ⟨_,rfl,?_⟩
   have e4:([x.Since].all fun n=>decide (0≤n∧n≤4294967295+ (1:Int))) =tm 1 x.Since:=by simp[tm]
   rw[e4]
   refine a_p (fun h2=>bad (by unfold Ls.fits;rw[h1,h2];rfl) _ ((he5.trans he6).trans he7)) (fun h2=>?_)
   have hx:x.fits=true:=by unfold Ls.fits;rw[h1,h2];rfl
   rw[hx,Bool.true_and] at hF
   have hn:=nx (fun r=>r.all Ls.fits=k.Lines.all Ls.fits) hF
   exact ⟨⟨(he5.trans he6).trans he7,hn.1⟩,hn.2⟩
 have hF0:=hr.done (by simp) hge
 rw[←hF0]
 simp only[List.all_nil,Bool.true_and]
 exact (e_t 1 (by omega) (hk.ext he5).resets).use ⟨_,rfl,rfl,he5⟩
end
end Go.Proofs.YtdmfnhbmhkgemaaGreat
namespace Go.Fw
section
variable {P:Program} {σ:Store}
theorem a_qh {s:Store}{el:TypeId}{d:D}{rs rs':List (List D)}(h:Go.Fw.Rows P s el d rs)(h':Go.Fw.Rows P s el d rs') :rs=rs':=by
 cases d <;> simp only[Go.Fw.Rows] at h h' <;> try exact h.elim
 · rw[h,h']
 · rw[h,h']
 · rw[h.1,h'.1]
 · obtain ⟨t,rows,a1,a2,a3,a4⟩:=h
   obtain ⟨t',rows',b1,b2,b3,b4⟩:=h'
   rw[a1] at b1
   injection b1 with e1 e2
   subst e1 e2
   rw[a4,b4]
def a_vc (P:Program)(t:TypeId)(as0:List A)(s:Store) :Prop:=∃(d:D) (n:Nat) (row:List D),as0=[.one d,iA n]∧At P s t d [row]∧n≤2 ^ 20
def a_su (P:Program)(t:TypeId)(as0:List A)(s:Store)(r:RV)(s':Store) :Prop:=∃(d:D) (n:Nat) (row:List D),as0=[.one d,iA n]∧At P s t d [row]∧n≤2 ^ 20∧y_a t n row s r s'
theorem Fin.set' {s:Store}(h:Fin s)(id:Nat)(so:SO) :Fin (s.set id so):=by
 obtain ⟨N,hN⟩:=h
 refine ⟨max N (id+1),fun i hi=>?_⟩
 rw[Store.set_ne _ _ (by omega)];exact hN i (by omega)
theorem a_v0 {f:FuncId}{t:TypeId}(h:∀(s:Store) (x:D) (row:List D) (n:Nat),At P s t x [row]→n≤2 ^ 20→DCalls P f [.one x,iA n] s (y_a t n row s)) :h_k P f (a_vc P t) (a_su P t):=by
 refine ⟨?_,?_,?_,?_,?_⟩
 · rintro as0 s ⟨d,n,row,rfl,h1,h2⟩
   exact (h s d row n h1 h2).mono fun r s' hr=>⟨d,n,row,rfl,h1,h2,hr⟩
 · rintro as0 s ⟨d,n,row,rfl,h1,h2⟩ ⟨N,hN⟩
   exact ⟨_,_,⟨d,n,row,rfl,h1,h2,N,hN N (Nat.le_refl _),rfl,rfl⟩,Fin.set' ⟨N,hN⟩ _ _⟩
 · rintro as0 s r s' ⟨d,n,row,rfl,h1,h2,id,h3,rfl,rfl⟩ hf
   exact hf.set' _ _
 · rintro as0 s id so hid hso ⟨d,n,row,rfl,h1,h2⟩
   have he:=Ext.new hid so
   refine ⟨⟨d,n,row,rfl,h1.ext he,h2⟩,?_⟩
   rintro r s' ⟨d',n',row',e1,g1,g2,id',g3,rfl,rfl⟩
   injection e1 with e2 e3
   injection e2 with e2
   injection e3 with e3 _
   injection e3 with e3
   injection e3 with _ e3
   have e3:n=n':=by omega
   subst e2 e3
   have e4:=a_qh (h1.ext he).rows g1.rows
   injection e4 with e4 _
   subst e4
   have hne:id'≠id:=fun e=>by subst e;rw[Store.set_same] at g3;exact hso g3
   rw[Store.set_ne _ _ hne] at g3
   refine ⟨s.set id' (.live t (List.replicate n row)),⟨d,n,row,rfl,h1,h2,id',g3,rfl,rfl⟩,?_,a_g6 (Ne.symm hne) _ _⟩
   rw[Store.set_ne _ _ (Ne.symm hne)];exact hid
 · rintro as0 s r s' _ ⟨d,n,row,rfl,h1,h2,id,h3,rfl,rfl⟩ i hi
   exact Store.set_ne _ _ (fun e=>hi (e ▸ h3))
def a_5:D→Option Nat
 | .osl id _ _=>some id
 | _=>none
def Apart (a b:D) :Prop:=∀id,a_5 a=some id→a_5 b≠some id
theorem Apart.symm {a b:D}(h:Apart a b) :Apart b a:=fun id h1 h2=>h id h2 h1
theorem Own.at_new {σ0:Store}{el:TypeId}{id n:Nat}{rs:List (List D)}(hid:σ0 id= .free)(he:Ext σ0 σ)(h:σ id= .live el rs)(hsz:rs.length < 2 ^ 60)(hn:n=rs.length) :Own P σ0 σ el (.osl id 0 n) rs:=
 ⟨At.fresh h hsz hn,he,y_g hid,fun h=>h,by intro e;cases e⟩
theorem Own.apart {σ0:Store}{el el':TypeId}{d d':D}{rs rs':List (List D)}(h:Own P σ0 σ el d rs)(h':At P σ0 el' d' rs') :Apart d' d:=by
 intro id h1 h2
 cases d' with
 | osl i a n=>
   have e1:i=id:=by simpa[a_5] using h1
   subst e1
   cases d with
   | osl i' a' n'=>
     have e2:i'=i:=by simpa[a_5] using h2
     subst e2
     have:=h.new _ _ _ rfl
     obtain ⟨t,rows,g1,_⟩:=h'.rows
     rw[this] at g1;cases g1
   | _=>simp[a_5] at h2
 | _=>simp[a_5] at h1
theorem Own.from {σ0 σ1:Store}{el:TypeId}{d:D}{rs:List (List D)}(he:Ext σ0 σ1)(h:Own P σ1 σ el d rs) :Own P σ0 σ el d rs:=
 ⟨h.at_,he.trans h.ext,fun id i len e=>by
   have h1:=h.new id i len e
   by_cases hf:σ0 id= .free
   · exact hf
   · have:=he id hf;rw[h1] at this;exact this.symm,h.nsl,h.nz⟩
def b_o (c:Cf)(now:Int) :Co:=
 ⟨List.replicate c.Secs.length (-1),List.replicate c.Rts.length ⟨0,0,0,0⟩,c.Secs.map fun s=>⟨0,if s.Kind=1 then now else 0⟩,List.replicate c.Xs.length ⟨1,now⟩,List.replicate 4 ⟨0,0,0,0,0,0,0,0⟩,List.replicate c.Secs.length 0,true⟩
end
end Go.Fw
namespace Go.Proofs.YtdmfnhbmhkgemaaGreat
open Go.Fw Go.Proofs Go.RowKit
open Go.Proofs.Tryz (prog)
section
variable {σ:Store}
def mvAt (now:Int)(s:Sec) :Mv:=⟨0,if s.Kind=1 then now else 0⟩
theorem a_d9 {c0 c1 c2 c3 c4:D}{c:Cf}(h:∀s,CfAt s c0 c1 c2 c3 c4 c)(now:Int)(h1:c.Secs.length≤2 ^ 20)(h2:c.Xs.length≤2 ^ 20) :
   DCalls prog l_i [cfA c0 c1 c2 c3 c4 c,iA now] σ fun r s=>∃d1 d2,r= .tup [.one d1, .one d2]∧Own prog σ s b_d d1 ((c.Secs.map (mvAt now)).map Mv.enc)∧Own prog σ s b_d d2 ((List.replicate c.Xs.length (⟨1,now⟩ :Mv)).map Mv.enc)∧Apart d1 d2:=by
 refine a_gu _ _ _ _ _ _ _ _ _ now σ _ ((h σ).secs.lenK ⟨by omega,by omega,by rw[List.length_map];omega,a_d fun id s1 hid _ he hs=>(h s1).secs.lenK ?_⟩)
 rw[List.length_map,Int.toNat_natCast]
 refine ⟨fun n s=>∃j:Nat,n=j∧j≤c.Secs.length∧Ext σ s∧s id= .live b_d (((c.Secs.take j).map (mvAt now)).map Mv.enc ++ List.replicate (c.Secs.length - j) [iD 0,iD 0]),fun n _=>c.Secs.length - n.toNat,⟨0,rfl,by omega,he,by simpa using hs⟩,?_⟩
 rintro _ s ⟨j,rfl,hj,hes,hl⟩
 refine bcd (fun hlt=>?_) (fun hge=>?_)
 · obtain ⟨x,hx⟩:=a_g (l:=c.Secs) (j:=j) (by omega)
   refine (h s).secs.load (a_c hx) b_n rfl ⟨x.Kind,x.OC,x.Line,rfl,?_⟩
   have hw:w64 ((j:Int) +1) =((j+1:Nat) :Int):=a_m (by omega)
   have htake:c.Secs.take (j+1) =c.Secs.take j ++ [x]:=by rw[List.take_add_one,hx];rfl
   have hlr:(((c.Secs.take j).map (mvAt now)).map Mv.enc ++ List.replicate (c.Secs.length - j) ([iD 0,iD 0]:List D)).length=c.Secs.length:=by simp;omega
   have hsplit:List.replicate (c.Secs.length - j) ([iD 0,iD 0]:List D) =[iD 0,iD 0]::List.replicate (c.Secs.length - (j+1)) [iD 0,iD 0]:=by
     rw[show c.Secs.length - j=(c.Secs.length - (j+1)) +1 by omega,List.replicate_succ]
   have hln:(((c.Secs.take j).map (mvAt now)).map Mv.enc).length=j:=by rw[List.length_map,List.length_map,List.length_take];omega
   have hmu:c.Secs.length - ((j+1:Nat) :Int).toNat < c.Secs.length - ((j:Nat) :Int).toNat:=by omega
   refine bce (fun hk=>(a_v9 now).use ⟨0,now,rfl,?_⟩) (fun hk=>?_)
   · refine ⟨c.Secs.length,⟨by omega,b_d,_,hl,c_l⟩,by omega,by omega,?_⟩
     have hrowj:(((c.Secs.take j).map (mvAt now)).map Mv.enc ++ List.replicate (c.Secs.length - j) ([iD 0,iD 0]:List D))[0+j]? =some [iD 0,iD 0]:=by
       rw[Nat.zero_add,List.getElem?_append_right (by omega),hln,Nat.sub_self,hsplit];rfl
     refine ⟨id,0,c.Secs.length,b_d,_,[iD 0,iD 0],rfl,by omega,hl,hrowj,by simp,?_⟩
     rw[hw]
     refine ⟨⟨j+1,rfl,by omega,hes.set hid _,?_⟩,hmu⟩
     rw[Store.set_same,htake,Int.toNat_natCast,Nat.zero_add,hsplit]
     congr 1
     rw[List.set_append_right _ _ (by omega),hln,Nat.sub_self,List.set_cons_zero]
     simp[mvAt,hk,Mv.enc,patch]
   · rw[hw]
     refine ⟨⟨j+1,rfl,by omega,hes,?_⟩,hmu⟩
     rw[hl,htake,hsplit]
     simp[mvAt,hk,Mv.enc]
 · have e:j=c.Secs.length:=by omega
   subst e
   rw[List.take_length,Nat.sub_self,List.replicate_zero,List.append_nil] at hl
   refine a_d fun id1 s2 hid1 _ he2 hs2=>(h s2).xs.lenK ?_
   rw[List.length_map]
   refine (a_c7 (At.fresh hs2 (by simp) rfl) h2).mono ?_
   rintro r s3 ⟨id3,hid3,rfl,rfl⟩
   have he3:Ext s2 (s2.set id3 (.live b_d (List.replicate c.Xs.length [iD 1,iD now]))):=Ext.new hid3 _
   have hne:id≠id3:=fun e=>by
     rw[←e] at hid3
     have:=he2 id (by rw[hl];intro e;cases e)
     rw[hid3,hl] at this;cases this
   have hf3:σ id3= .free:=by
     by_cases hf:σ id3= .free
     · exact hf
     · have:=(hes.trans he2) id3 hf
       rw[hid3] at this;exact this.symm
   refine ⟨_,rfl,_,_,rfl,?_,?_,?_⟩
   · refine Own.at_new hid ((hes.trans he2).trans he3) (rs:=(c.Secs.map (mvAt now)).map Mv.enc) ?_ (by simp;omega) (by simp)
     rw[Store.set_ne _ _ hne,he2 id (by rw[hl];intro e;cases e),hl]
   · refine Own.at_new hf3 ((hes.trans he2).trans he3) (rs:=(List.replicate c.Xs.length (⟨1,now⟩ :Mv)).map Mv.enc) ?_ (by simp;omega) (by simp)
     rw[Store.set_same]
     simp[Mv.enc]
   · intro i e1 e2
     simp only[a_5,Option.some.injEq] at e1 e2
     exact hne (e1.trans e2.symm)
structure CoOwn (σ0 σ:Store) (k0 k1 k2 k3 k4 k5:D) (k:Co) :Prop where
 own:Own prog σ0 σ a_i k0 (k.Own.map Go.Fw.encI)
 routes:Own prog σ0 σ c_q k1 (k.Routes.map Rs.enc)
 points:Own prog σ0 σ b_d k2 (k.Points.map Mv.enc)
 xs:Own prog σ0 σ b_d k3 (k.Xs.map Mv.enc)
 lines:Own prog σ0 σ d_l k4 (k.Lines.map Ls.enc)
 resets:Own prog σ0 σ a_i k5 (k.Resets.map Go.Fw.encI)
 apart: [k0,k1,k2,k3,k4,k5].Pairwise Apart
theorem CoOwn.at {σ0:Store}{k0 k1 k2 k3 k4 k5:D}{k:Co}(h:CoOwn σ0 σ k0 k1 k2 k3 k4 k5 k) :CoAt σ k0 k1 k2 k3 k4 k5 k:=
 ⟨h.own.at_,h.routes.at_,h.points.at_,h.xs.at_,h.lines.at_,h.resets.at_⟩
theorem p_b {c0 c1 c2 c3 c4:D}{c:Cf}(h:∀s,CfAt s c0 c1 c2 c3 c4 c)(now:Int)(h1:c.Secs.length≤2 ^ 20)(h2:c.Xs.length≤2 ^ 20)(h3:c.Rts.length≤2 ^ 20) :
   DCalls prog h_i [cfA c0 c1 c2 c3 c4 c,iA now] σ fun r s=>∃k0 k1 k2 k3 k4 k5,r= .a (coA k0 k1 k2 k3 k4 k5 true)∧CoOwn σ s k0 k1 k2 k3 k4 k5 (b_o c now):=by
 obtain ⟨rows,hat,hlen⟩:=i_1 (h σ)
 refine a_pd _ _ _ _ _ _ _ _ _ now σ _ ⟨a_vc prog a_i,a_su prog a_i,a_v0 fun s x row n q1 q2=>a_jq q1 q2,(h σ).secs.lenK (hat.lenK ((h σ).secs.lenK (a_d fun id s1 hid _ he1 hs1=>?_)))⟩
 simp only[List.length_map,hlen]
 refine ⟨⟨_,_,[iD (-1)],rfl,At.fresh hs1 (by simp) rfl,h1⟩,?_⟩
 rintro r s2 ⟨d,n,row,e1,g1,g2,id2,hid2,rfl,rfl⟩
 injection e1 with e2 e3
 injection e2 with e2
 injection e3 with e3 _
 injection e3 with e3
 injection e3 with _ e3
 have e3:c.Secs.length=n:=by omega
 subst e2 e3
 have e4:=a_qh (At.fresh hs1 (by simp) rfl:At prog s1 a_i (.osl id 0 1) _).rows g1.rows
 injection e4 with e4 _
 subst e4
 generalize hs2:s1.set id2 (SO.live a_i (List.replicate c.Secs.length [D.int IntKind.i64 (-1)])) =s2
 have he2:Ext s1 s2:=by rw[←hs2];exact Ext.new hid2 _
 have hl2:s2 id2= .live a_i (List.replicate c.Secs.length [iD (-1)]):=by rw[←hs2];exact Store.set_same _ _ _
 have o0:Own prog s1 s2 a_i (.osl id2 0 c.Secs.length) (List.replicate c.Secs.length [iD (-1)]):= .at_new hid2 he2 hl2 (by simp;omega) (by simp)
 refine ⟨_,rfl,by omega,by omega,by omega,a_d fun id3 s3 hid3 _ he3 hs3=>⟨by omega,by omega,by omega,a_d fun id4 s4 hid4 _ he4 hs4=>⟨by omega,by omega,by omega,a_d fun id5 s5 hid5 _ he5 hs5=>?_⟩⟩⟩
 simp only[Int.toNat_natCast] at hs3 hs5 ⊢
 have o1:Own prog s2 s3 c_q (.osl id3 0 c.Rts.length) (List.replicate c.Rts.length [iD 0,iD 0,iD 0,iD 0]):= .at_new hid3 he3 hs3 (by simp;omega) (by simp)
 have o4:Own prog s3 s4 d_l (.osl id4 0 4) (List.replicate 4 [iD 0,iD 0,iD 0,iD 0,iD 0,iD 0,iD 0,iD 0]):= .at_new hid4 he4 hs4 (by simp) (by simp)
 have o5:Own prog s4 s5 a_i (.osl id5 0 c.Secs.length) (List.replicate c.Secs.length [iD 0]):= .at_new hid5 he5 hs5 (by simp;omega) (by simp)
 refine (a_d9 h now h1 h2).mono ?_
 rintro r s6 ⟨d1,d2,rfl,o2,o3,hap⟩
 refine ⟨d1,d2,rfl,_,_,_,_,_,_,rfl,?_⟩
 have a3:=o0.at_.ext he3
 have a4:=a3.ext he4
 have a5:=a4.ext he5
 have b4:=o1.at_.ext he4
 have b5:=b4.ext he5
 have c5:=o4.at_.ext he5
 have f1:=he1.trans he2
 have f2:=f1.trans he3
 have f3:=f2.trans he4
 have f4:=f3.trans he5
 refine ⟨?_,?_,?_,?_,?_,?_,?_⟩
 · have:List.map Go.Fw.encI (b_o c now).Own=List.replicate c.Secs.length [iD (-1)]:=by simp[b_o,Go.Fw.encI]
   rw[this];exact (((o0.ext' he3).ext' he4).ext' he5).ext' o2.ext |>.from he1
 · have:List.map Rs.enc (b_o c now).Routes=List.replicate c.Rts.length [iD 0,iD 0,iD 0,iD 0]:=by simp[b_o,Rs.enc]
   rw[this];exact ((o1.ext' he4).ext' he5).ext' o2.ext |>.from f1
 · exact o2.from f4
 · exact o3.from f4
 · have:List.map Ls.enc (b_o c now).Lines=List.replicate 4 [iD 0,iD 0,iD 0,iD 0,iD 0,iD 0,iD 0,iD 0]:=by simp[b_o,Ls.enc]
   rw[this];exact (o4.ext' he5).ext' o2.ext |>.from f2
 · have:List.map Go.Fw.encI (b_o c now).Resets=List.replicate c.Secs.length [iD 0]:=by simp[b_o,Go.Fw.encI]
   rw[this];exact (o5.ext' o2.ext).from f3
 · simp only[List.pairwise_cons,List.mem_cons,List.not_mem_nil,or_false,forall_eq_or_imp,forall_eq,List.Pairwise.nil,and_true,false_imp_iff,implies_true]
   exact ⟨⟨o1.apart o0.at_,o2.apart a5,o3.apart a5,o4.apart a3,o5.apart a4⟩,⟨o2.apart b5,o3.apart b5,o4.apart o1.at_,o5.apart b4⟩,⟨hap,(o2.apart c5).symm,(o2.apart o5.at_).symm⟩,⟨(o3.apart c5).symm,(o3.apart o5.at_).symm⟩,o5.apart o4.at_⟩
end
end Go.Proofs.YtdmfnhbmhkgemaaGreat
namespace Go.Fw
section
variable {P:Program} {σ:Store}
theorem b_i {s:Store}{id:Nat}{t:TypeId}{row xs:List D}{off:Nat}{K:Store→Prop}(hs:s id= .live t [row])(ho:off+xs.length≤row.length)
   (hK:∀s',s' id= .live t [patch row off xs]→(∀i,i≠id→s' i=s i)→K s') :a_j xs s (.osl id 0 1) 0 off K:=
 ⟨id,0,1,t,[row],row,rfl,by omega,hs,rfl,ho,hK _ (Store.set_same _ _ _) fun i hi=>Store.set_ne _ _ hi⟩
theorem At.store {el:TypeId}{d:D}{rs:List (List D)}{j off:Nat}{n:Nat}{row xs:List D}{K:Store→Prop}(h:At P σ el d rs)(hd:¬isSl d)(hr:rs[j]? =some row)(hn:n=j)(ho:off+xs.length≤row.length)
   (hK:∀s' id,a_5 d=some id→At P s' el d (rs.set j (patch row off xs))→(∀i,i≠id→s' i=σ i)→s' id≠ .free→K s') :a_j xs σ d n off K:=by
 subst hn
 have hrows:=h.rows
 have hj:=(List.getElem?_eq_some_iff.1 hr).1
 cases d <;> simp only[Go.Fw.Rows] at hrows <;> try exact hrows.elim
 · subst hrows;simp at hr
 · subst hrows;simp at hr
 · exact absurd trivial hd
 · obtain ⟨t,rows,h1,h2,h3,rfl⟩:=hrows
   rename_i id i0 len
   have hjl:n < len:=by simp at hj;omega
   have hrow:rows[i0+n]? =some row:=by
     rw[List.getElem?_take,if_pos hjl,List.getElem?_drop] at hr;exact hr
   refine ⟨id,i0,len,t,rows,row,rfl,hjl,h1,hrow,ho,hK _ id rfl ⟨⟨t,_,Store.set_same _ _ _,h2,by simp;omega,?_⟩,?_,fun es rows e=>by cases e⟩ (fun i hi=>Store.set_ne _ _ hi) (by rw[Store.set_same];intro e;cases e)⟩
   · rw[List.drop_set,if_neg (by omega),List.take_set]
     congr 1;omega
   · have:=h.size;simpa using this
def Cf.lineSec (c:Cf)(line:Int) :Int:=if line < 1 then -1 else d_z (fun s:Sec=>s.Line == line) c.Secs 0
theorem a_fb {α:Type}(p:α→Bool) :∀(l:List α) (j:Nat),d_z p l j= -1∨((j:Int)≤d_z p l j∧d_z p l j < j+l.length)
 | [],j=> .inl rfl
 | x::r,j=>by
   rw[d_z]
   split
   · right;simp;omega
   · rcases a_fb p r (j+1) with h | h
     · exact .inl h
     · right;simp only[List.length_cons];omega
theorem m_k (c:Cf)(line:Int) :c.lineSec line= -1∨(0≤c.lineSec line∧c.lineSec line < c.Secs.length):=by
 unfold Cf.lineSec
 split
 · exact .inl rfl
 · rcases a_fb (fun s:Sec=>s.Line == line) c.Secs 0 with h | h
   · exact .inl h
   · right;omega
structure Lk where
 Value:Int
 Stamp:Int
 Valid:Bool
def Lk.enc (l:Lk) :List D:= [iD l.Value,iD l.Stamp, .bool l.Valid]
end
end Go.Fw
